/- Proved: SatBack: the order of two int64 makes no difference to their sum; what isn't beyond is taken away again; what is beyond lies at an end; for every two int64; no condition. -/
import Derived.Test.YtkfcgmknoogliaaPSatBackx1
import Derived.OpenShut
set_option linter.unusedVariables false
namespace Go.Proofs.Ytkfcgmknoogliaa.Pure
open Go.RowKit Go.Proofs.Ytkfcgmknoogliaa.PSatBack Go.Proofs.YtkfcgmknoogliaaW.PrintWords Go.Proofs.YtkfcgmknoogliaaW.PrintLast


/-- what the sum of two comes to -/
def satAdd (a b : Int) : Int × Bool := if 9223372036854775807 < a + b then (9223372036854775807, true) else if a + b < -9223372036854775808 then (-9223372036854775808, true) else (a + b, false)

theorem satAdd_bd (a b : Int) : -9223372036854775808 ≤ (satAdd a b).1 ∧ (satAdd a b).1 ≤ 9223372036854775807 := by
  unfold satAdd
  by_cases h1 : 9223372036854775807 < a + b
  · rw [if_pos h1]; exact ⟨by decide, by decide⟩
  · rw [if_neg h1]
    by_cases h2 : a + b < -9223372036854775808
    · rw [if_pos h2]; exact ⟨by decide, by decide⟩
    · rw [if_neg h2]; exact ⟨by simp only; omega, by simp only; omega⟩

theorem pair_eq {a b : Int} {x : Bool} (h : a = b) : some (a, x) = some (b, x) := by rw [h]

theorem add_eq (k : Nat) (a b : Int) (ha : -9223372036854775808 ≤ a ∧ a ≤ 9223372036854775807) (hb : -9223372036854775808 ≤ b ∧ b ≤ 9223372036854775807) :
    sat_Add.f (k + 1) a b = some (satAdd a b) := by
  unfold sat_Add.f satAdd
  simp only [sat_Add.j0, decide_eq_true_eq, Bool.false_eq_true, if_false]
  unfold wrap64
  repeat' split
  all_goals first | rfl | (exfalso; omega) | (refine pair_eq ?_; omega)

theorem up_eq (k : Nat) : nogginlaw01_up.f (k + 1) = some true := by
  unfold nogginlaw01_up.f
  rw [add_eq k 9223372036854775807 1 ⟨by decide, by decide⟩ ⟨by decide, by decide⟩, add_eq k 2 3 ⟨by decide, by decide⟩ ⟨by decide, by decide⟩]
  decide

theorem satAdd_comm (a b : Int) : satAdd a b = satAdd b a := by unfold satAdd; rw [Int.add_comm]

theorem SatBack : nogginlaw01_SatBack.Pure := by
  intro a b ha hb
  have ha := bounds_i64 ha
  have hb := bounds_i64 hb
  refine ⟨2, ?_⟩
  unfold nogginlaw01_SatBack.f
  rw [up_eq 1, add_eq 1 a b ha hb, add_eq 1 b a hb ha, satAdd_comm b a]
  simp only [Option.bind_some, if_true, bne_self_eq_false, nogginlaw01_SatBack.j0, Bool.false_eq_true, if_false]
  by_cases h1 : 9223372036854775807 < a + b
  · have e : satAdd a b = (9223372036854775807, true) := by unfold satAdd; rw [if_pos h1]
    rw [e]
    simp only [if_true]
    rw [if_pos (show a > 0 by omega), if_pos (show b > 0 by omega)]
  · by_cases h2 : a + b < -9223372036854775808
    · have e : satAdd a b = (-9223372036854775808, true) := by unfold satAdd; rw [if_neg h1, if_pos h2]
      rw [e]
      simp only [if_true]
      rw [if_neg (show ¬ a > 0 by omega), if_pos (show a < 0 by omega), if_pos (show b < 0 by omega)]
      rfl
    · have e : satAdd a b = (a + b, false) := by unfold satAdd; rw [if_neg h1, if_neg h2]
      rw [e]
      simp only [Bool.false_eq_true, if_false]
      by_cases h3 : b = -9223372036854775808
      · rw [if_pos h3]
        have : wrap64 (a + b - b) = a := by unfold wrap64; omega
        rw [this]
        simp
      · rw [if_neg h3]
        have hw : wrap64 (-b) = -b := by unfold wrap64; omega
        rw [hw, add_eq 0 (a + b) (-b) ⟨by omega, by omega⟩ ⟨by omega, by omega⟩]
        have e : satAdd (a + b) (-b) = (a, false) := by
          unfold satAdd
          rw [if_neg (by omega), if_neg (by omega)]
          exact Prod.ext (by simp only; omega) rfl
        rw [e]
        simp

end Go.Proofs.Ytkfcgmknoogliaa.Pure
