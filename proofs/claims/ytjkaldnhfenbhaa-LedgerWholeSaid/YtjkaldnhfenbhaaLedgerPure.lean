/- The plain side of layer 17: a ledger's pages as one row of numbers, nine a page: how many came, and ended by each of eight reasons (reason 0 is none). -/
import Derived.WalkKit
set_option linter.unusedVariables false
namespace Go.Proofs.Ytjkaldnhfenbhaa.Ledger

/-- what is left of so many when these are taken away, one by one; none: one of them is more than is left -/
def opens : Int → List Int → Option Int
  | left, [] => some left
  | left, n :: t => if left < n then none else opens (left - n) t
def total : List Int → Int
  | [] => 0
  | n :: t => n + total t
theorem total_nonneg : ∀ l : List Int, (∀ x ∈ l, 0 ≤ x) → 0 ≤ total l
  | [], _ => Int.le_refl _
  | n :: t, h => by
    have h1 := h n List.mem_cons_self
    have h2 := total_nonneg t (fun x hx => h x (List.mem_cons_of_mem _ hx))
    show 0 ≤ n + total t
    omega
/-- at a left that is no less than none -/
theorem opens_total : ∀ (l : List Int) (left : Int), 0 ≤ left → (∀ x ∈ l, 0 ≤ x) → opens left l = if total l ≤ left then some (left - total l) else none
  | [], left, h0, _ => by
    show some left = if 0 ≤ left then some (left - 0) else none
    rw [if_pos h0, Int.sub_zero]
  | n :: t, left, h0, h => by
    have h1 := h n List.mem_cons_self
    have ht := fun x hx => h x (List.mem_cons_of_mem n hx)
    have h2 := total_nonneg t ht
    show (if left < n then none else opens (left - n) t) = if n + total t ≤ left then some (left - (n + total t)) else none
    by_cases c : left < n
    · rw [if_pos c, if_neg (by omega)]
    · rw [if_neg c, opens_total t (left - n) (by omega) ht]
      by_cases c2 : total t ≤ left - n
      · rw [if_pos c2, if_pos (by omega)]
        congr 1
        omega
      · rw [if_neg c2, if_neg (by omega)]

/-- one more at a place -/
def more (l : List Int) (i : Nat) : List Int := l.set i (l.getD i 0 + 1)
theorem more_len (l : List Int) (i : Nat) : (more l i).length = l.length := by simp [more]
theorem more_at (l : List Int) (i : Nat) (h : i < l.length) : (more l i).getD i 0 = l.getD i 0 + 1 := by
  unfold more
  rw [List.getD_eq_getElem?_getD, List.getElem?_set_self h]
  rfl
theorem more_far (l : List Int) (i j : Nat) (h : i ≠ j) : (more l i).getD j 0 = l.getD j 0 := by
  unfold more
  rw [List.getD_eq_getElem?_getD, List.getElem?_set_ne h, List.getD_eq_getElem?_getD]
/-- the eight numbers of a page that tell how many ended -/
def ended (l : List Int) (c : Nat) : List Int := (List.range 8).map fun r => l.getD (9 * c + 1 + r) 0
theorem ended_eq (l : List Int) (c : Nat) : ended l c = [l.getD (9 * c + 1) 0, l.getD (9 * c + 2) 0, l.getD (9 * c + 3) 0, l.getD (9 * c + 4) 0, l.getD (9 * c + 5) 0, l.getD (9 * c + 6) 0, l.getD (9 * c + 7) 0, l.getD (9 * c + 8) 0] := rfl
theorem ended_total (l : List Int) (c : Nat) : total (ended l c) = l.getD (9 * c + 1) 0 + l.getD (9 * c + 2) 0 + l.getD (9 * c + 3) 0 + l.getD (9 * c + 4) 0 + l.getD (9 * c + 5) 0 + l.getD (9 * c + 6) 0 + l.getD (9 * c + 7) 0 + l.getD (9 * c + 8) 0 := by
  rw [ended_eq]
  simp only [total]
  omega
/-- what Open tells -/
def openR (l : List Int) (c : Nat) : Int × Bool := match opens (l.getD (9 * c) 0) (ended l c) with | some k => (k, true) | none => (0, false)
theorem opens_less {left x : Int} {t : List Int} (h : left < x) : opens left (x :: t) = none := by
  show (if left < x then none else opens (left - x) t) = none
  rw [if_pos h]
theorem opens_more {left x : Int} {t : List Int} (h : x ≤ left) : opens left (x :: t) = opens (left - x) t := by
  show (if left < x then none else opens (left - x) t) = _
  rw [if_neg (by omega)]
theorem openR_none {l : List Int} {c : Nat} (h : opens (l.getD (9 * c) 0) (ended l c) = none) : openR l c = (0, false) := by unfold openR; rw [h]
theorem openR_some {l : List Int} {c : Nat} {k : Int} (h : opens (l.getD (9 * c) 0) (ended l c) = some k) : openR l c = (k, true) := by unfold openR; rw [h]
end Go.Proofs.Ytjkaldnhfenbhaa.Ledger
