/- Layer 2's plain side: the stable sort's merges. -/
import Derived.Test.YtjnjkgoofkgiiaaEdgeU
set_option linter.unusedVariables false
set_option linter.unusedSimpArgs false
namespace Go.Proofs.Ytjnjkgoofkgiiaa.Edge
def rk (q : List Nat) (k : Nat) : Nat := rank (g0 q k)
def Srt (r : Nat → Nat) (a b : Nat) : Prop := ∀ i j, a ≤ i → i < j → j < b → r i ≤ r j
structure PIn (a b : Nat) (q q' : List Nat) : Prop where
  len : q'.length = q.length
  out : ∀ i, i < a ∨ b ≤ i → g0 q' i = g0 q i
  perm : q'.Perm q
theorem PIn.refl (a b : Nat) (q : List Nat) : PIn a b q q := ⟨rfl, fun _ _ => rfl, .refl _⟩
theorem PIn.trans {a b : Nat} {q q1 q2 : List Nat} (h : PIn a b q q1) (k : PIn a b q1 q2) : PIn a b q q2 := ⟨k.len.trans h.len, fun i hi => (k.out i hi).trans (h.out i hi), k.perm.trans h.perm⟩
theorem PIn.mono {a b a' b' : Nat} {q q1 : List Nat} (h : PIn a b q q1) (ha : a' ≤ a) (hb : b ≤ b') : PIn a' b' q q1 := ⟨h.len, fun i hi => h.out i (by omega), h.perm⟩
theorem g0_get {q : List Nat} {i : Nat} (h : i < q.length) : q[i] = g0 q i := by simp [g0, h]
theorem g0_get? {q : List Nat} {i : Nat} (h : i < q.length) : q[i]? = some (g0 q i) := by simp [g0, h]
theorem PIn.swap {a b : Nat} (q : List Nat) {i j : Nat} (hi : a ≤ i) (hi2 : i < b) (hj : a ≤ j) (hj2 : j < b) (hb : b ≤ q.length) : PIn a b q ((q.set i (g0 q j)).set j (g0 q i)) := by
  refine ⟨by simp, fun k hk => ?_, ?_⟩
  · rw [g0_set _ _ _ _ (by simp; omega), g0_set _ _ _ _ (by omega), if_neg (by omega), if_neg (by omega)]
  · have := @List.set_set_perm Nat q i j (by omega) (by omega)
    rwa [g0_get (by omega), g0_get (by omega)] at this
theorem split3 (q : List Nat) {a b : Nat} (h : a ≤ b) : q = q.take a ++ ((q.drop a).take (b - a) ++ q.drop b) := by
  have h1 := List.take_append_drop (b - a) (q.drop a)
  rw [List.drop_drop, show a + (b - a) = b by omega] at h1
  rw [h1, List.take_append_drop]
theorem PIn.seg {a b : Nat} {q q1 : List Nat} (h : PIn a b q q1) (hab : a ≤ b) (hb : b ≤ q.length) : ((q1.drop a).take (b - a)).Perm ((q.drop a).take (b - a)) := by
  have e1 : q1.take a = q.take a := by
    apply List.ext_getElem?
    intro i
    rw [List.getElem?_take, List.getElem?_take]
    split
    · rename_i hi
      rw [g0_get? (by rw [h.len]; omega), g0_get? (by omega), h.out i (.inl hi)]
    · rfl
  have e2 : q1.drop b = q.drop b := by
    apply List.ext_getElem?
    intro i
    rw [List.getElem?_drop, List.getElem?_drop]
    by_cases hi : b + i < q.length
    · rw [g0_get? (by rw [h.len]; omega), g0_get? (by omega), h.out _ (.inr (by omega))]
    · rw [List.getElem?_eq_none (by rw [h.len]; omega), List.getElem?_eq_none (by omega)]
  have hp := h.perm
  rw [split3 q1 hab, split3 q hab, e1, e2] at hp
  exact (List.perm_append_right_iff _).1 ((List.perm_append_left_iff _).1 hp)
theorem PIn.all {a b : Nat} {q q1 : List Nat} (h : PIn a b q q1) (hb : b ≤ q.length) (P : Nat → Prop) (hp : ∀ i, a ≤ i → i < b → P (g0 q i)) : ∀ i, a ≤ i → i < b → P (g0 q1 i) := by
  intro i h1 h2
  have hs := h.seg (by omega) hb
  have hm : g0 q1 i ∈ (q1.drop a).take (b - a) := by
    refine List.mem_of_getElem? (i := i - a) ?_
    rw [List.getElem?_take, if_pos (by omega), List.getElem?_drop, show a + (i - a) = i by omega, g0_get? (by rw [h.len]; omega)]
  obtain ⟨k, hk⟩ := List.getElem?_of_mem (hs.mem_iff.1 hm)
  rw [List.getElem?_take] at hk
  split at hk
  · rename_i hk2
    rw [List.getElem?_drop, g0_get? (by omega)] at hk
    have := hp (a + k) (by omega) (by omega)
    rw [Option.some.inj hk] at this
    exact this
  · cases hk
theorem PIn.allB {a b : Nat} {q q1 : List Nat} (h : PIn a b q q1) (hall : All q) : All q1 := by
  intro k hk
  have hm : g0 q1 k ∈ q1 := List.mem_of_getElem? (g0_get? hk)
  obtain ⟨i, hi, he⟩ := List.getElem_of_mem (h.perm.mem_iff.1 hm)
  rw [g0_get hi] at he
  rw [← he]
  exact hall i hi
def swF (f : Nat → Nat) (x y n : Nat) : Nat → Nat := fun k => if x ≤ k ∧ k < x + n then f (k + (y - x)) else if y ≤ k ∧ k < y + n then f (k - (y - x)) else f k
def rotF (f : Nat → Nat) (a m b : Nat) : Nat → Nat := fun k => if a ≤ k ∧ k < a + (b - m) then f (k + (m - a)) else if a + (b - m) ≤ k ∧ k < b then f (k - (b - m)) else f k
theorem ite_eq {c : Prop} [Decidable c] {x y z : Nat} (h1 : c → x = z) (h2 : ¬ c → y = z) : (if c then x else y) = z := by
  by_cases h : c
  · rw [if_pos h]; exact h1 h
  · rw [if_neg h]; exact h2 h
theorem rot_gt (f : Nat → Nat) {m i j : Nat} (h : j < i) (hm : i ≤ m) : rotF f (m - i) m (m + j) = rotF (swF f (m - i) m j) (m - i + j) m (m + j) := by
  funext k
  unfold rotF swF
  refine ite_eq (fun h1 => ?_) (fun h1 => ite_eq (fun h2 => ?_) (fun h2 => ?_)) <;> symm <;>
  · refine ite_eq (fun h3 => ite_eq (fun h4 => ?_) (fun h4 => ite_eq (fun h5 => ?_) (fun h5 => ?_))) (fun h3 => ite_eq (fun h4 => ite_eq (fun h5 => ?_) (fun h5 => ite_eq (fun h6 => ?_) (fun h6 => ?_))) (fun h4 => ite_eq (fun h5 => ?_) (fun h5 => ite_eq (fun h6 => ?_) (fun h6 => ?_)))) <;> first | (exfalso; omega) | (congr 1 <;> omega)
theorem rot_lt (f : Nat → Nat) {m i j : Nat} (h : i < j) (hm : i ≤ m) : rotF f (m - i) m (m + j) = rotF (swF f (m - i) (m + j - i) i) (m - i) m (m + j - i) := by
  funext k
  unfold rotF swF
  refine ite_eq (fun h1 => ?_) (fun h1 => ite_eq (fun h2 => ?_) (fun h2 => ?_)) <;> symm <;>
  · refine ite_eq (fun h3 => ite_eq (fun h4 => ?_) (fun h4 => ite_eq (fun h5 => ?_) (fun h5 => ?_))) (fun h3 => ite_eq (fun h4 => ite_eq (fun h5 => ?_) (fun h5 => ite_eq (fun h6 => ?_) (fun h6 => ?_))) (fun h4 => ite_eq (fun h5 => ?_) (fun h5 => ite_eq (fun h6 => ?_) (fun h6 => ?_)))) <;> first | (exfalso; omega) | (congr 1 <;> omega)
theorem rot_eq (f : Nat → Nat) {m i : Nat} (hm : i ≤ m) : rotF f (m - i) m (m + i) = swF f (m - i) m i := by
  funext k
  unfold rotF swF
  refine ite_eq (fun h1 => ?_) (fun h1 => ite_eq (fun h2 => ?_) (fun h2 => ?_)) <;> symm <;>
  · refine ite_eq (fun h3 => ?_) (fun h3 => ite_eq (fun h4 => ?_) (fun h4 => ?_)) <;> first | (exfalso; omega) | (congr 1 <;> omega)
/-- the rotation of a symmetric merge: what it gives -/
theorem sym_mid {r : Nat → Nat} {a m b mid s e : Nat} (h1 : Srt r a m) (h2 : Srt r m b) (has : a ≤ s) (hsm : s ≤ m) (hme : m ≤ e) (heb : e ≤ b) (hs2 : s ≤ mid) (he : s + e = mid + m) (hmb : mid ≤ b) (ham : a ≤ mid)
    (hL : a < s → e < b → r (s - 1) ≤ r e) (hR : s < m → m < e → r (e - 1) ≤ r s) :
    Srt (rotF r s m e) a s ∧ Srt (rotF r s m e) s mid ∧ Srt (rotF r s m e) mid e ∧ Srt (rotF r s m e) e b ∧ (∀ i j, a ≤ i → i < mid → mid ≤ j → j < b → rotF r s m e i ≤ rotF r s m e j) := by
  have le1 : ∀ i j, a ≤ i → i ≤ j → j < m → r i ≤ r j := fun i j hi hj hm => by
    by_cases hij : i = j
    · rw [hij]; exact Nat.le_refl _
    · exact h1 i j hi (by omega) hm
  have le2 : ∀ i j, m ≤ i → i ≤ j → j < b → r i ≤ r j := fun i j hi hj hm => by
    by_cases hij : i = j
    · rw [hij]; exact Nat.le_refl _
    · exact h2 i j hi (by omega) hm
  have v1 : ∀ k, k < s → rotF r s m e k = r k := fun k hk => by unfold rotF; rw [if_neg (by omega), if_neg (by omega)]
  have v2 : ∀ k, s ≤ k → k < mid → rotF r s m e k = r (k + (m - s)) := fun k hk hk2 => by unfold rotF; rw [if_pos (by omega)]
  have v3 : ∀ k, mid ≤ k → k < e → rotF r s m e k = r (k - (e - m)) := fun k hk hk2 => by unfold rotF; rw [if_neg (by omega), if_pos (by omega)]
  have v4 : ∀ k, e ≤ k → rotF r s m e k = r k := fun k hk => by unfold rotF; rw [if_neg (by omega), if_neg (by omega)]
  refine ⟨fun i j x y z => ?_, fun i j x y z => ?_, fun i j x y z => ?_, fun i j x y z => ?_, fun i j x y z u => ?_⟩
  · rw [v1 i (by omega), v1 j (by omega)]; exact le1 _ _ (by omega) (by omega) (by omega)
  · rw [v2 i (by omega) (by omega), v2 j (by omega) (by omega)]; exact le2 _ _ (by omega) (by omega) (by omega)
  · rw [v3 i (by omega) (by omega), v3 j (by omega) (by omega)]; exact le1 _ _ (by omega) (by omega) (by omega)
  · rw [v4 i (by omega), v4 j (by omega)]; exact le2 _ _ (by omega) (by omega) (by omega)
  · by_cases hi : i < s
    · rw [v1 i hi]
      by_cases hj : j < e
      · rw [v3 j z hj]; exact le1 _ _ (by omega) (by omega) (by omega)
      · rw [v4 j (by omega)]
        exact Nat.le_trans (le1 i (s - 1) (by omega) (by omega) (by omega)) (Nat.le_trans (hL (by omega) (by omega)) (le2 e j (by omega) (by omega) (by omega)))
    · rw [v2 i (by omega) y]
      by_cases hj : j < e
      · rw [v3 j z hj]
        exact Nat.le_trans (le2 _ (e - 1) (by omega) (by omega) (by omega)) (Nat.le_trans (hR (by omega) (by omega)) (le1 s _ (by omega) (by omega) (by omega)))
      · rw [v4 j (by omega)]; exact le2 _ _ (by omega) (by omega) (by omega)
/-- two sorted halves, the left below the right -/
theorem srt_join {r : Nat → Nat} {a m b : Nat} (h1 : Srt r a m) (h2 : Srt r m b) (hx : ∀ i j, a ≤ i → i < m → m ≤ j → j < b → r i ≤ r j) : Srt r a b := by
  intro i j hi hij hj
  by_cases hjm : j < m
  · exact h1 i j hi hij hjm
  · by_cases him : i < m
    · exact hx i j hi him (by omega) hj
    · exact h2 i j (by omega) hij hj
theorem less_rk (q : List Nat) (i j : Nat) : lessB (g0 q i) (g0 q j) = true ↔ rk q i < rk q j := by
  unfold lessB rk
  exact decide_eq_true_iff
theorem rk_out {a b : Nat} {q q1 : List Nat} (h : PIn a b q q1) {i : Nat} (hi : i < a ∨ b ≤ i) : rk q1 i = rk q i := by
  unfold rk
  rw [h.out i hi]
/-- ascending up to i, but for what stands at j -/
def Nse (r : Nat → Nat) (a i j : Nat) : Prop := ∀ x y, a ≤ x → x < y → y ≤ i → y ≠ j → r x ≤ r y
theorem rk_swp {q : List Nat} {j : Nat} (hj : j < q.length) (h0 : 0 < j) (k : Nat) : rk (swp q j) k = if k = j - 1 then rk q j else if k = j then rk q (j - 1) else rk q k := by
  unfold rk swp
  rw [g0_set _ _ _ _ (by simp; omega), g0_set _ _ _ _ hj]
  split
  · rfl
  · split <;> rfl
theorem inner_ok {a i : Nat} : ∀ (j : Nat) (q : List Nat), a ≤ j → j ≤ i → i < q.length → Nse (rk q) a i j → Srt (rk (inner a j q)) a (i + 1) ∧ PIn a (i + 1) q (inner a j q) := by
  intro j
  induction j with
  | zero =>
    intro q ha hj hi h
    refine ⟨fun x y h1 h2 h3 => h x y h1 h2 (by omega) (by omega), PIn.refl _ _ _⟩
  | succ j ih =>
    intro q ha hj hi h
    rw [inner]
    by_cases hc : a < j + 1 ∧ lessB (g0 q (j + 1)) (g0 q j) = true
    · rw [if_pos hc]
      have hl := (less_rk q (j + 1) j).1 hc.2
      have hlen : j + 1 < q.length := by omega
      have e := rk_swp hlen (by omega)
      simp only [Nat.add_sub_cancel] at e
      have hp : PIn a (i + 1) q (swp q (j + 1)) := PIn.swap q (i := j + 1) (j := j) (by omega) (by omega) (by omega) (by omega) (by omega)
      have hN : Nse (rk (swp q (j + 1))) a i j := by
        intro x y h1 h2 h3 h4
        rw [e x, e y]
        by_cases hy : y = j + 1
        · subst hy
          rw [if_neg (show ¬ j + 1 = j by omega), if_pos (show j + 1 = j + 1 from rfl)]
          by_cases hx : x = j
          · rw [if_pos hx]; omega
          · rw [if_neg hx, if_neg (by omega)]
            exact h x j h1 (by omega) (by omega) (by omega)
        · rw [if_neg h4, if_neg hy]
          by_cases hx : x = j
          · rw [if_pos hx]
            exact h (j + 1) y (by omega) (by omega) h3 hy
          · rw [if_neg hx]
            by_cases hx2 : x = j + 1
            · rw [if_pos hx2]
              exact h j y (by omega) (by omega) h3 hy
            · rw [if_neg hx2]
              exact h x y h1 h2 h3 hy
      obtain ⟨k1, k2⟩ := ih (swp q (j + 1)) (by omega) (by omega) (by rw [swp_len]; omega) hN
      exact ⟨k1, hp.trans k2⟩
    · rw [if_neg hc]
      refine ⟨fun x y h1 h2 h3 => ?_, PIn.refl _ _ _⟩
      by_cases hy : y = j + 1
      · subst hy
        have hle : rk q j ≤ rk q (j + 1) := by
          by_cases h5 : rk q (j + 1) < rk q j
          · exact absurd ⟨by omega, (less_rk q (j + 1) j).2 h5⟩ hc
          · omega
        by_cases hx : x = j
        · rw [hx]; exact hle
        · exact Nat.le_trans (h x j h1 (by omega) (by omega) (by omega)) hle
      · exact h x y h1 h2 (by omega) hy
theorem outer_ok {a b : Nat} : ∀ (f i : Nat) (q : List Nat), i + f = b → a < i → b ≤ q.length → Srt (rk q) a i → Srt (rk (outer a b f i q)) a b ∧ PIn a b q (outer a b f i q)
  | 0, i, q, h, ha, hb, hs => by
    have : i = b := by omega
    subst this
    exact ⟨hs, PIn.refl _ _ _⟩
  | f + 1, i, q, h, ha, hb, hs => by
    rw [outer]
    obtain ⟨k1, k2⟩ := inner_ok (a := a) (i := i) i q (by omega) (Nat.le_refl i) (by omega) (fun x y h1 h2 h3 h4 => hs x y h1 h2 (by omega))
    obtain ⟨m1, m2⟩ := outer_ok (a := a) (b := b) f (i + 1) (inner a i q) (by omega) (by omega) (by rw [inner_len]; exact hb) k1
    exact ⟨m1, (k2.mono (Nat.le_refl _) (by omega)).trans m2⟩
theorem isort_ok {a b : Nat} {q : List Nat} (hab : a < b) (hb : b ≤ q.length) : Srt (rk (outer a b (b - (a + 1)) (a + 1) q)) a b ∧ PIn a b q (outer a b (b - (a + 1)) (a + 1) q) :=
  outer_ok (b - (a + 1)) (a + 1) q (by omega) (by omega) hb (fun i j h1 h2 h3 => by omega)
end Go.Proofs.Ytjnjkgoofkgiiaa.Edge
