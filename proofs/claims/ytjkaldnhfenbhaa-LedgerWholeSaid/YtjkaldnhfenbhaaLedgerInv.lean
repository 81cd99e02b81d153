/- The plain side of layer 17's statements: what the counts of a class come to, deed by deed. -/
import Derived.Test.YtjkaldnhfenbhaaLedgerPure
set_option linter.unusedVariables false
namespace Go.Proofs.Ytjkaldnhfenbhaa.Ledger

theorem more_get (l : List Int) (i j : Nat) (h : i < l.length) : (more l i).getD j 0 = l.getD j 0 + if i = j then 1 else 0 := by
  by_cases e : i = j
  · subst e
    rw [more_at l i h, if_pos rfl]
  · rw [more_far l i j e, if_neg e]
    omega
theorem total_come (l : List Int) (c d : Nat) (h : 9 * d < l.length) : total (ended (more l (9 * d)) c) = total (ended l c) := by
  rw [ended_total, ended_total]
  simp only [more_get l _ _ h]
  rw [if_neg (by omega), if_neg (by omega), if_neg (by omega), if_neg (by omega), if_neg (by omega), if_neg (by omega), if_neg (by omega), if_neg (by omega)]
  omega
theorem total_other (l : List Int) (c d r : Nat) (hn : d ≠ c) (hr : r ≤ 7) (h : 9 * d + 1 + r < l.length) : total (ended (more l (9 * d + 1 + r)) c) = total (ended l c) := by
  rw [ended_total, ended_total]
  simp only [more_get l _ _ h]
  rw [if_neg (by omega), if_neg (by omega), if_neg (by omega), if_neg (by omega), if_neg (by omega), if_neg (by omega), if_neg (by omega), if_neg (by omega)]
  omega
theorem total_same (l : List Int) (c r : Nat) (hr : r ≤ 7) (h : 9 * c + 1 + r < l.length) : total (ended (more l (9 * c + 1 + r)) c) = total (ended l c) + 1 := by
  rw [ended_total, ended_total]
  simp only [more_get l _ _ h]
  have h1 : r = 0 ∨ r = 1 ∨ r = 2 ∨ r = 3 ∨ r = 4 ∨ r = 5 ∨ r = 6 ∨ r = 7 := by omega
  rcases h1 with rfl | rfl | rfl | rfl | rfl | rfl | rfl | rfl
  all_goals
    repeat (first | rw [if_pos (by omega)] | rw [if_neg (by omega)])
    omega

/-- a class's counts behind k deeds -/
structure Inv (n : Nat) (cls rsn : Int) (k : Nat) (l : List Int) (ca en al : Int) : Prop where
  len : l.length = 9 * n
  small : ∀ i, 0 ≤ l.getD i 0 ∧ l.getD i 0 ≤ k
  ca0 : 0 ≤ ca ∧ ca ≤ k
  en0 : 0 ≤ en ∧ en ≤ k
  al0 : 0 ≤ al ∧ al ≤ k
  came : ∀ c : Nat, cls = c → c < n → ca = l.getD (9 * c) 0
  all : ∀ c : Nat, cls = c → c < n → al = total (ended l c)
  ends : ∀ c r : Nat, cls = c → c < n → rsn = r → 1 ≤ r → r ≤ 7 → en = l.getD (9 * c + 1 + r) 0
  none : (¬ (0 ≤ cls ∧ cls < n)) → ca = 0 ∧ en = 0 ∧ al = 0
  noner : (¬ (1 ≤ rsn ∧ rsn ≤ 7)) → en = 0
theorem rep_getD (m i : Nat) : (List.replicate m (0 : Int)).getD i 0 = 0 := by
  rw [List.getD_eq_getElem?_getD, List.getElem?_replicate]
  split <;> rfl
theorem Inv.start (n : Nat) (cls rsn : Int) : Inv n cls rsn 0 (List.replicate (9 * n) 0) 0 0 0 where
  len := by simp
  small := fun i => by rw [rep_getD]; simp
  ca0 := by simp
  en0 := by simp
  al0 := by simp
  came := fun c _ _ => (rep_getD _ _).symm
  all := fun c _ _ => by rw [ended_total]; simp only [rep_getD]; rfl
  ends := fun c r _ _ _ _ _ => (rep_getD _ _).symm
  none := fun _ => ⟨rfl, rfl, rfl⟩
  noner := fun _ => rfl
theorem Inv.same {n : Nat} {cls rsn : Int} {k : Nat} {l : List Int} {ca en al : Int} (h : Inv n cls rsn k l ca en al) : Inv n cls rsn (k + 1) l ca en al where
  len := h.len
  small := fun i => by have := h.small i; omega
  ca0 := by have := h.ca0; omega
  en0 := by have := h.en0; omega
  al0 := by have := h.al0; omega
  came := h.came
  all := h.all
  ends := h.ends
  none := h.none
  noner := h.noner
theorem Inv.small_more {n : Nat} {cls rsn : Int} {k : Nat} {l : List Int} {ca en al : Int} (h : Inv n cls rsn k l ca en al) (i : Nat) (hi : i < 9 * n) (j : Nat) : 0 ≤ (more l i).getD j 0 ∧ (more l i).getD j 0 ≤ (k + 1 : Nat) := by
  rw [more_get l i j (by rw [h.len]; exact hi)]
  have := h.small j
  split <;> omega
theorem Inv.come_eq {n : Nat} {cls rsn : Int} {k : Nat} {l : List Int} {ca en al : Int} (h : Inv n cls rsn k l ca en al) (c : Nat) (hc : c < n) (e : (c : Int) = cls) : Inv n cls rsn (k + 1) (more l (9 * c)) (ca + 1) en al where
  len := (more_len _ _).trans h.len
  small := h.small_more _ (by omega)
  ca0 := by have := h.ca0; omega
  en0 := by have := h.en0; omega
  al0 := by have := h.al0; omega
  came := fun d hd hn => by
    obtain rfl : d = c := by omega
    rw [more_at l _ (by rw [h.len]; omega), ← h.came d hd hn]
  all := fun d hd hn => by rw [total_come _ _ _ (by rw [h.len]; omega)]; exact h.all d hd hn
  ends := fun d r hd hn hr h1 h2 => by rw [more_far _ _ _ (by omega)]; exact h.ends d r hd hn hr h1 h2
  none := fun hn => absurd (by omega) hn
  noner := h.noner
theorem Inv.come_ne {n : Nat} {cls rsn : Int} {k : Nat} {l : List Int} {ca en al : Int} (h : Inv n cls rsn k l ca en al) (c : Nat) (hc : c < n) (e : (c : Int) ≠ cls) : Inv n cls rsn (k + 1) (more l (9 * c)) ca en al where
  len := (more_len _ _).trans h.len
  small := h.small_more _ (by omega)
  ca0 := by have := h.ca0; omega
  en0 := by have := h.en0; omega
  al0 := by have := h.al0; omega
  came := fun d hd hn => by rw [more_far _ _ _ (by omega)]; exact h.came d hd hn
  all := fun d hd hn => by rw [total_come _ _ _ (by rw [h.len]; omega)]; exact h.all d hd hn
  ends := fun d r hd hn hr h1 h2 => by rw [more_far _ _ _ (by omega)]; exact h.ends d r hd hn hr h1 h2
  none := h.none
  noner := h.noner
theorem Inv.end_ne {n : Nat} {cls rsn : Int} {k : Nat} {l : List Int} {ca en al : Int} (h : Inv n cls rsn k l ca en al) (c r : Nat) (hc : c < n) (hr : r ≤ 7) (e : (c : Int) ≠ cls) : Inv n cls rsn (k + 1) (more l (9 * c + 1 + r)) ca en al where
  len := (more_len _ _).trans h.len
  small := h.small_more _ (by omega)
  ca0 := by have := h.ca0; omega
  en0 := by have := h.en0; omega
  al0 := by have := h.al0; omega
  came := fun d hd hn => by rw [more_far _ _ _ (by omega)]; exact h.came d hd hn
  all := fun d hd hn => by rw [total_other _ _ _ _ (by omega) hr (by rw [h.len]; omega)]; exact h.all d hd hn
  ends := fun d q hd hn hq h1 h2 => by rw [more_far _ _ _ (by omega)]; exact h.ends d q hd hn hq h1 h2
  none := h.none
  noner := h.noner
theorem Inv.end_ner {n : Nat} {cls rsn : Int} {k : Nat} {l : List Int} {ca en al : Int} (h : Inv n cls rsn k l ca en al) (c r : Nat) (hc : c < n) (hr : 1 ≤ r ∧ r ≤ 7) (e : (c : Int) = cls) (e2 : (r : Int) ≠ rsn) : Inv n cls rsn (k + 1) (more l (9 * c + 1 + r)) ca en (al + 1) where
  len := (more_len _ _).trans h.len
  small := h.small_more _ (by omega)
  ca0 := by have := h.ca0; omega
  en0 := by have := h.en0; omega
  al0 := by have := h.al0; omega
  came := fun d hd hn => by rw [more_far _ _ _ (by omega)]; exact h.came d hd hn
  all := fun d hd hn => by
    obtain rfl : d = c := by omega
    rw [total_same _ _ _ (by omega) (by rw [h.len]; omega), ← h.all d hd hn]
  ends := fun d q hd hn hq h1 h2 => by rw [more_far _ _ _ (by omega)]; exact h.ends d q hd hn hq h1 h2
  none := fun hn => absurd (by omega) hn
  noner := h.noner
theorem Inv.end_eq {n : Nat} {cls rsn : Int} {k : Nat} {l : List Int} {ca en al : Int} (h : Inv n cls rsn k l ca en al) (c r : Nat) (hc : c < n) (hr : 1 ≤ r ∧ r ≤ 7) (e : (c : Int) = cls) (e2 : (r : Int) = rsn) : Inv n cls rsn (k + 1) (more l (9 * c + 1 + r)) ca (en + 1) (al + 1) where
  len := (more_len _ _).trans h.len
  small := h.small_more _ (by omega)
  ca0 := by have := h.ca0; omega
  en0 := by have := h.en0; omega
  al0 := by have := h.al0; omega
  came := fun d hd hn => by rw [more_far _ _ _ (by omega)]; exact h.came d hd hn
  all := fun d hd hn => by
    obtain rfl : d = c := by omega
    rw [total_same _ _ _ (by omega) (by rw [h.len]; omega), ← h.all d hd hn]
  ends := fun d q hd hn hq h1 h2 => by
    obtain rfl : d = c := by omega
    obtain rfl : q = r := by omega
    rw [more_at _ _ (by rw [h.len]; omega), ← h.ends d q hd hn hq h1 h2]
  none := fun hn => absurd (by omega) hn
  noner := fun hn => absurd (by omega) hn
theorem Inv.open_ {n : Nat} {cls rsn : Int} {k : Nat} {l : List Int} {ca en al : Int} (h : Inv n cls rsn k l ca en al) (c : Nat) (hc : c < n) (e : (c : Int) = cls) : openR l c = if al ≤ ca then (ca - al, true) else (0, false) := by
  have h1 := h.came c e.symm hc
  have h2 := h.all c e.symm hc
  unfold openR
  rw [opens_total _ _ (h.small _).1 (fun x hx => by
    obtain ⟨r, _, rfl⟩ := List.mem_map.1 hx
    exact (h.small _).1), ← h1, ← h2]
  split <;> rename_i h3 <;> split at h3 <;> simp_all
end Go.Proofs.Ytjkaldnhfenbhaa.Ledger
