/- Proved: SatSums: the sum of any many int64, and whether one was beyond, are the document's; for every slice of int64 that can be read; no condition. -/
import Derived.Test.YtkfcgmknoogliaaPSatSumsx1
import Derived.OpenShut
set_option linter.unusedVariables false
namespace Go.Proofs.Ytkfcgmknoogliaa.Pure
open Go.RowKit Go.Proofs.Ytkfcgmknoogliaa.PSatSums Go.Proofs.YtkfcgmknoogliaaW.PrintWords Go.Proofs.YtkfcgmknoogliaaW.PrintLast


/-- what the sum of two comes to -/
def satAdd (a b : Int) : Int × Bool := if 9223372036854775807 < a + b then (9223372036854775807, true) else if a + b < -9223372036854775808 then (-9223372036854775808, true) else (a + b, false)

theorem satAdd_bd (a b : Int) : -9223372036854775808 ≤ (satAdd a b).1 ∧ (satAdd a b).1 ≤ 9223372036854775807 := by
  unfold satAdd
  by_cases h1 : 9223372036854775807 < a + b
  · rw [if_pos h1]; exact ⟨by decide, by decide⟩
  · rw [if_neg h1]
    by_cases h2 : a + b < -9223372036854775808
    · rw [if_pos h2]; exact ⟨by decide, by decide⟩
    · rw [if_neg h2]; exact ⟨by simp only; omega, by simp only; omega⟩

theorem pair_eq {a b : Int} {x : Bool} (h : a = b) : some (a, x) = some (b, x) := by rw [h]

theorem add_eq (k : Nat) (a b : Int) (ha : -9223372036854775808 ≤ a ∧ a ≤ 9223372036854775807) (hb : -9223372036854775808 ≤ b ∧ b ≤ 9223372036854775807) :
    sat_Add.f (k + 1) a b = some (satAdd a b) := by
  unfold sat_Add.f satAdd
  simp only [sat_Add.j0, decide_eq_true_eq, Bool.false_eq_true, if_false]
  unfold wrap64
  repeat' split
  all_goals first | rfl | (exfalso; omega) | (refine pair_eq ?_; omega)

theorem ref_eq (k : Nat) (a b : Int) (ha : -9223372036854775808 ≤ a ∧ a ≤ 9223372036854775807) (hb : -9223372036854775808 ≤ b ∧ b ≤ 9223372036854775807) :
    nogginref01_Add.f (k + 1) a b = some (satAdd a b) := by
  unfold nogginref01_Add.f satAdd
  simp only [nogginref01_Add.j0, decide_eq_true_eq, Bool.false_eq_true, if_false]
  unfold wrap64
  repeat' split
  all_goals first | rfl | (exfalso; omega) | (refine pair_eq ?_; omega)

theorem up_eq (k : Nat) : nogginlaw01_up.f (k + 1) = some true := by
  unfold nogginlaw01_up.f
  rw [add_eq k 9223372036854775807 1 ⟨by decide, by decide⟩ ⟨by decide, by decide⟩, add_eq k 2 3 ⟨by decide, by decide⟩ ⟨by decide, by decide⟩]
  decide

theorem rd_bd {l : List Int} (h : ∀ x ∈ l, (Lit.int .i64 x).wf = true) (i : Int) : -9223372036854775808 ≤ rd l i ∧ rd l i ≤ 9223372036854775807 := by
  unfold rd
  have := range_i64 h i.toNat
  rw [List.getD_eq_getElem?_getD]
  exact this

theorem wrap_up {i : Int} (h0 : 0 ≤ i) (h1 : i ≤ 140737488351232) : wrap64 (i + 1) = i + 1 := by unfold wrap64; omega

theorem sum_step (k : Nat) (x4 : Int) (x5 : Bool) (x10 : List Int) (x11 x12 : Int) : sat_Sum.l0 (k + 1) x4 x5 x10 x11 x12 =
    if x12 < x11 then (if 0 ≤ x12 then (if x12 < (x10.length : Int) then ((sat_Add.f k x4 (rd x10 x12)).bind fun b => (if x5 = true then (sat_Sum.l0 k b.1 true x10 x11 (wrap64 (x12 + 1))) else (sat_Sum.l0 k b.1 b.2 x10 x11 (wrap64 (x12 + 1))))) else (none)) else (none)) else (some (x4, x5)) := rfl
theorem ref_step (k : Nat) (x0 : List Int) (x4 : Int) (x5 : Bool) (x6 : Int) : nogginref01_Sum.l0 (k + 1) x0 x4 x5 x6 =
    if x6 < (x0.length : Int) then (if 0 ≤ x6 then ((nogginref01_Add.f k x4 (rd x0 x6)).bind fun b => (if x5 = true then (nogginref01_Sum.l0 k x0 b.1 true (wrap64 (x6 + 1))) else (nogginref01_Sum.l0 k x0 b.1 b.2 (wrap64 (x6 + 1))))) else (none)) else (some (x4, x5)) := rfl

/-- both loops tell one thing, from any place on -/
theorem sums (l : List Int) (h : ∀ x ∈ l, (Lit.int .i64 x).wf = true) (hl : (l.length : Int) ≤ 140737488351232) (d : Nat) :
    ∀ (i s : Int) (over : Bool), 0 ≤ i → i ≤ l.length → (l.length : Int) - i = d → -9223372036854775808 ≤ s ∧ s ≤ 9223372036854775807 →
      ∃ r, sat_Sum.l0 (d + 2) s over l (l.length : Int) i = some r ∧ nogginref01_Sum.l0 (d + 2) l s over i = some r := by
  induction d with
  | zero =>
    intro i s over h0 h1 hd hs
    exact ⟨(s, over), by simp only [sat_Sum.l0]; rw [if_neg (by omega)], by simp only [nogginref01_Sum.l0]; rw [if_neg (by omega)]⟩
  | succ d ih =>
    intro i s over h0 h1 hd hs
    have hlt : i < (l.length : Int) := by omega
    obtain ⟨r, hr1, hr2⟩ := ih (i + 1) (satAdd s (rd l i)).1 (if over = true then true else (satAdd s (rd l i)).2) (by omega) (by omega) (by omega) (satAdd_bd _ _)
    refine ⟨r, ?_, ?_⟩
    · rw [show d + 1 + 2 = (d + 2) + 1 from rfl, sum_step, if_pos hlt, if_pos h0, if_pos hlt, add_eq (d + 1) s (rd l i) hs (rd_bd h i), Option.bind_some, wrap_up h0 (by omega)]
      cases over
      · rw [if_neg (by decide)]; rw [if_neg (by decide)] at hr1; exact hr1
      · rw [if_pos rfl]; rw [if_pos rfl] at hr1; exact hr1
    · rw [show d + 1 + 2 = (d + 2) + 1 from rfl, ref_step, if_pos hlt, if_pos h0, ref_eq (d + 1) s (rd l i) hs (rd_bd h i), Option.bind_some, wrap_up h0 (by omega)]
      cases over
      · rw [if_neg (by decide)]; rw [if_neg (by decide)] at hr2; exact hr2
      · rw [if_pos rfl]; rw [if_pos rfl] at hr2; exact hr2

theorem SatSums : nogginlaw01_SatSums.Pure := by
  intro l hl1 hl2 hw
  obtain ⟨r, h1, h2⟩ := sums l hw (by omega) l.length 0 0 false (by omega) (by omega) (by omega) ⟨by decide, by decide⟩
  refine ⟨l.length + 2, ?_⟩
  unfold nogginlaw01_SatSums.f sat_Sum.f nogginref01_Sum.f
  rw [up_eq (l.length + 1)]
  by_cases hc : (l.length : Int) > 200
  · simp only [Option.bind_some]
    rw [if_pos hc]
  · simp only [Option.bind_some]
    rw [if_neg hc, h1, h2]
    simp

theorem sums_any (A0 : Option Addr) (c0 : Nat) (l : List Int) (w : World) (hr : Kd.C (Kd.int .i64) w A0 l.length l) (hc : l.length ≤ c0) (hw : ∀ x ∈ l, (Lit.int .i64 x).wf = true) (hm : l.length * 8 ≤ 140737488351232) :
    Calls Try.prog 9 #[.slice A0 l.length c0] w fun e w' => e = .returned (.bool true) ∧ Below w.heap.size w w' := by
  obtain ⟨k, h⟩ := SatSums l (by unfold maxLen; omega) hm hw
  exact (nogginlaw01_SatSums.calls k A0 c0 l true w hr hc h).mono fun e w' ⟨he, hd⟩ => ⟨he, hd.below⟩

end Go.Proofs.Ytkfcgmknoogliaa.Pure
