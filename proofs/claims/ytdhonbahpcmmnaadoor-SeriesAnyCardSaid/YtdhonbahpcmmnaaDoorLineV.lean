/- Layer 5's walks: the document's value. -/
import Derived.Test.YtdhonbahpcmmnaaDoorLineS
set_option linter.unusedVariables false
set_option linter.unusedSimpArgs false
namespace Go.Proofs.YtdhonbahpcmmnaaDoor.Line
open Go Go.RowKit Go.Proofs.YtdhonbahpcmmnaaDoor Go.Proofs.YtdhonbahpcmmnaaDoor.Eng Go.Proofs.YtdhonbahpcmmnaaDoorW.PrintWords
def dv (q : L) : Nat := q.foldl (fun n c => 10 * n + c.toNat - 48) 0
theorem dv_step (s : L) (i : Nat) (h : i < s.length) : dv (s.take (i + 1)) = 10 * dv (s.take i) + (gB s i).toNat - 48 := by
 unfold dv
 rw [List.take_add_one, gB_some s i h]
 simp only [Option.toList_some, List.foldl_append, List.foldl_cons, List.foldl_nil]
def valE (b : Bool) (q : L) (least most : Int) : Int × Bool :=
 if q.length = 0 ∨ 19 < q.length ∨ (1 < q.length ∧ (gB q 0).toNat = 48) then (0, false)
 else if b = true ∧ q = [48] then (0, false)
 else if 9223372036854775808 < dv q ∨ (dv q = 9223372036854775808 ∧ b = false) then (0, false)
 else (if b = true then - (dv q : Int) else (dv q : Int), decide (least ≤ (if b = true then - (dv q : Int) else (dv q : Int)) ∧ (if b = true then - (dv q : Int) else (dv q : Int)) ≤ most))
theorem valE_no1 {b : Bool} {q : L} {l m : Int} (h : q.length = 0 ∨ 19 < q.length ∨ (1 < q.length ∧ (gB q 0).toNat = 48)) : valE b q l m = (0, false) := if_pos h
theorem valE_no2 {q : L} {l m : Int} (h : 9223372036854775808 ≤ dv q) : valE false q l m = (0, false) := by
 unfold valE
 by_cases h1 : q.length = 0 ∨ 19 < q.length ∨ (1 < q.length ∧ (gB q 0).toNat = 48)
 ·
  rw [if_pos h1]
 ·
  rw [if_neg h1, if_neg (fun h2 => absurd h2.1 (by decide)), if_pos ((Nat.lt_or_eq_of_le h).elim .inl (fun h3 => .inr ⟨h3.symm, rfl⟩))]
theorem valE_d {q : L} {l m : Int} (h : ¬ (q.length = 0 ∨ 19 < q.length ∨ (1 < q.length ∧ (gB q 0).toNat = 48))) (hd : dv q < 9223372036854775808) : valE false q l m = ((dv q : Int), decide (l ≤ (dv q : Int) ∧ (dv q : Int) ≤ m)) := by
 unfold valE
 rw [if_neg h, if_neg (fun h2 => absurd h2.1 (by decide)), if_neg (fun h2 => h2.elim (fun h3 => by omega) (fun h3 => by omega))]
 rfl
theorem valE_no3 {q : L} {l m : Int} (h : q = [48]) : valE true q l m = (0, false) := by
 subst h
 rfl
theorem valE_no4 {q : L} {l m : Int} (h : 9223372036854775808 < dv q) : valE true q l m = (0, false) := by
 unfold valE
 by_cases h1 : q.length = 0 ∨ 19 < q.length ∨ (1 < q.length ∧ (gB q 0).toNat = 48)
 ·
  rw [if_pos h1]
 ·
  rw [if_neg h1]
  by_cases h2 : true = true ∧ q = [48]
  ·
   rw [if_pos h2]
  ·
   rw [if_neg h2, if_pos (.inl h)]
theorem valE_m {q : L} {l m : Int} (h : ¬ (q.length = 0 ∨ 19 < q.length ∨ (1 < q.length ∧ (gB q 0).toNat = 48))) (h0 : ¬ q = [48]) (hd : dv q ≤ 9223372036854775808) : valE true q l m = (- (dv q : Int), decide (l ≤ - (dv q : Int) ∧ - (dv q : Int) ≤ m)) := by
 unfold valE
 rw [if_neg h, if_neg (fun h2 => h0 h2.2), if_neg (fun h2 => h2.elim (fun h3 => by omega) (fun h3 => absurd h3.2 (by decide)))]
 rfl
end Go.Proofs.YtdhonbahpcmmnaaDoor.Line
