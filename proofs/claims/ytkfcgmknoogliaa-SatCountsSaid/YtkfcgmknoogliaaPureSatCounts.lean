/- Proved: SatCounts: the sum of any two uint64 counts, and whether it is beyond, are the document's; for every two uint64; no condition. -/
import Derived.Test.YtkfcgmknoogliaaPSatCountsx1
import Derived.OpenShut
set_option linter.unusedVariables false
namespace Go.Proofs.Ytkfcgmknoogliaa.Pure
open Go.RowKit Go.Proofs.Ytkfcgmknoogliaa.PSatCounts Go.Proofs.YtkfcgmknoogliaaW.PrintWords Go.Proofs.YtkfcgmknoogliaaW.PrintLast


/-- what the sum of two comes to -/
def satAdd (a b : Int) : Int × Bool := if 9223372036854775807 < a + b then (9223372036854775807, true) else if a + b < -9223372036854775808 then (-9223372036854775808, true) else (a + b, false)

theorem satAdd_bd (a b : Int) : -9223372036854775808 ≤ (satAdd a b).1 ∧ (satAdd a b).1 ≤ 9223372036854775807 := by
  unfold satAdd
  by_cases h1 : 9223372036854775807 < a + b
  · rw [if_pos h1]; exact ⟨by decide, by decide⟩
  · rw [if_neg h1]
    by_cases h2 : a + b < -9223372036854775808
    · rw [if_pos h2]; exact ⟨by decide, by decide⟩
    · rw [if_neg h2]; exact ⟨by simp only; omega, by simp only; omega⟩

theorem pair_eq {a b : Int} {x : Bool} (h : a = b) : some (a, x) = some (b, x) := by rw [h]

theorem add_eq (k : Nat) (a b : Int) (ha : -9223372036854775808 ≤ a ∧ a ≤ 9223372036854775807) (hb : -9223372036854775808 ≤ b ∧ b ≤ 9223372036854775807) :
    sat_Add.f (k + 1) a b = some (satAdd a b) := by
  unfold sat_Add.f satAdd
  simp only [sat_Add.j0, decide_eq_true_eq, Bool.false_eq_true, if_false]
  unfold wrap64
  repeat' split
  all_goals first | rfl | (exfalso; omega) | (refine pair_eq ?_; omega)

theorem up_eq (k : Nat) : nogginlaw01_up.f (k + 1) = some true := by
  unfold nogginlaw01_up.f
  rw [add_eq k 9223372036854775807 1 ⟨by decide, by decide⟩ ⟨by decide, by decide⟩, add_eq k 2 3 ⟨by decide, by decide⟩ ⟨by decide, by decide⟩]
  decide

theorem SatCounts : nogginlaw01_SatCounts.Pure := by
  intro a b ha hb
  have ha := bounds_u64 ha
  have hb := bounds_u64 hb
  refine ⟨1, ?_⟩
  have w1 : IntKind.u64.wrap (18446744073709551615 - a) = 18446744073709551615 - a := by simp [IntKind.wrap, IntKind.bits, IntKind.signed]; omega
  unfold nogginlaw01_SatCounts.f sat_Count.f nogginref01_Count.f
  rw [up_eq 0, w1]
  by_cases h : b > 18446744073709551615 - a
  · have w2 : IntKind.u64.wrap (a + b) = a + b - 18446744073709551616 := by simp [IntKind.wrap, IntKind.bits, IntKind.signed]; omega
    rw [w2, if_pos h, if_neg (by omega)]
    simp
  · have w2 : IntKind.u64.wrap (a + b) = a + b := by simp [IntKind.wrap, IntKind.bits, IntKind.signed]; omega
    rw [w2, if_neg h, if_pos (by omega)]
    simp

end Go.Proofs.Ytkfcgmknoogliaa.Pure
