/- Layer 13's plain side: a heap, and what comes out of it. -/
set_option linter.unusedVariables false
set_option linter.unusedSimpArgs false
namespace Go.Proofs.Ytjnjkgoofkgiiaa.Timer

/-- an entry: when, what, how many were set ahead of it -/
structure Ent where
  a : Int
  b : Int
  t : Int
  deriving DecidableEq
def aheadB (a t b u : Int) : Bool := decide (a < b) || (decide (a = b) && decide (t < u))
def lt (x y : Ent) : Prop := x.a < y.a ∨ x.a = y.a ∧ x.t < y.t
instance (x y : Ent) : Decidable (lt x y) := by unfold lt; infer_instance
theorem aheadB_lt (x y : Ent) : aheadB x.a x.t y.a y.t = decide (lt x y) := by
  unfold aheadB lt
  by_cases h1 : x.a < y.a <;> by_cases h2 : x.a = y.a <;> by_cases h3 : x.t < y.t <;> simp [h1, h2, h3]
theorem lt_trans {x y z : Ent} (h : lt x y) (k : lt y z) : lt x z := by unfold lt at *; omega
theorem lt_irrefl (x : Ent) : ¬ lt x x := by unfold lt; omega
/-- not ahead: no later -/
theorem nlt_trans {x y z : Ent} (h : ¬ lt y x) (k : ¬ lt z y) : ¬ lt z x := by unfold lt at *; omega
theorem lt_nlt {x y z : Ent} (h : lt x y) (k : ¬ lt z y) : ¬ lt z x := by unfold lt at *; omega
def at0 (q : List Ent) (i : Nat) : Ent := q.getD i ⟨0, 0, 0⟩
def swap (q : List Ent) (i j : Nat) : List Ent := (q.set i (at0 q j)).set j (at0 q i)
theorem swap_len (q : List Ent) (i j : Nat) : (swap q i j).length = q.length := by simp [swap]
theorem at_swap (q : List Ent) (i j k : Nat) (hi : i < q.length) (hj : j < q.length) : at0 (swap q i j) k = if k = j then at0 q i else if k = i then at0 q j else at0 q k := by
  unfold swap at0
  simp only [List.getD_eq_getElem?_getD, List.getElem?_set, List.length_set]
  by_cases h1 : j = k
  · rw [if_pos h1, if_pos (by omega), if_pos h1.symm]
    rfl
  · rw [if_neg h1, if_neg (Ne.symm h1)]
    by_cases h2 : i = k
    · rw [if_pos h2, if_pos (by omega), if_pos h2.symm]
      rfl
    · rw [if_neg h2, if_neg (Ne.symm h2)]
theorem swap_perm (q : List Ent) (i j : Nat) (hi : i < q.length) (hj : j < q.length) : (swap q i j).Perm q := by
  have hi' : at0 q i = q[i] := by simp [at0, hi]
  have hj' : at0 q j = q[j] := by simp [at0, hj]
  unfold swap
  rw [hi', hj']
  exact List.set_set_perm hi hj
/-- parents are not behind: all but at place x -/
def heapBut (q : List Ent) (x : Nat) : Prop := ∀ i, 0 < i → i < q.length → i ≠ x → ¬ lt (at0 q i) (at0 q ((i - 1) / 2))
def heap (q : List Ent) : Prop := ∀ i, 0 < i → i < q.length → ¬ lt (at0 q i) (at0 q ((i - 1) / 2))
/-- also across x: x's children are not ahead of x's parent -/
def across (q : List Ent) (x : Nat) : Prop := ∀ i, 0 < i → i < q.length → (i - 1) / 2 = x → 0 < x → ¬ lt (at0 q i) (at0 q ((x - 1) / 2))
/-- going up -/
def up : Nat → List Ent → Nat → List Ent
  | 0, q, _ => q
  | f + 1, q, i => if i = 0 then q else if lt (at0 q i) (at0 q ((i - 1) / 2)) then up f (swap q i ((i - 1) / 2)) ((i - 1) / 2) else q
theorem up_len : ∀ (f : Nat) (q : List Ent) (i : Nat), (up f q i).length = q.length
  | 0, _, _ => rfl
  | f + 1, q, i => by
    unfold up
    split
    · rfl
    · split
      · rw [up_len f, swap_len]
      · rfl
theorem up_perm : ∀ (f : Nat) (q : List Ent) (i : Nat), i < q.length → (up f q i).Perm q
  | 0, q, _, _ => List.Perm.refl q
  | f + 1, q, i, h => by
    unfold up
    split
    · exact List.Perm.refl q
    · split
      · exact (up_perm f _ _ (by rw [swap_len]; omega)).trans (swap_perm q i _ h (by omega))
      · exact List.Perm.refl q
theorem up_heap : ∀ (f : Nat) (q : List Ent) (i : Nat), i ≤ f → i < q.length → heapBut q i → across q i → heap (up f q i)
  | 0, q, i, hf, hl, hb, hc => by
    obtain rfl : i = 0 := by omega
    intro k h0 h1
    exact hb k h0 h1 (by omega)
  | f + 1, q, i, hf, hl, hb, hc => by
    unfold up
    split
    · rename_i h
      subst h
      intro k h0 h1
      exact hb k h0 h1 (by omega)
    · rename_i hi
      split
      · rename_i hlt
        have hp : (i - 1) / 2 < q.length := by omega
        refine up_heap f _ _ (by omega) (by rw [swap_len]; exact hp) ?_ ?_
        · intro k h0 h1 hk
          rw [swap_len] at h1
          rw [at_swap q i _ k hl hp, at_swap q i _ ((k - 1) / 2) hl hp, if_neg hk]
          by_cases h2 : k = i
          · subst h2
            rw [if_pos rfl, if_pos rfl]
            unfold lt at hlt ⊢
            omega
          · rw [if_neg h2]
            by_cases h3 : (k - 1) / 2 = (i - 1) / 2
            · rw [if_pos h3]
              have h4 := hb k h0 h1 h2
              rw [h3] at h4
              exact lt_nlt hlt h4
            · rw [if_neg h3]
              by_cases h4 : (k - 1) / 2 = i
              · rw [if_pos h4]
                exact hc k h0 h1 h4 (by omega)
              · rw [if_neg h4]
                exact hb k h0 h1 h2
        · intro k h0 h1 hk hx
          rw [swap_len] at h1
          rw [at_swap q i _ k hl hp, at_swap q i _ (((i - 1) / 2 - 1) / 2) hl hp]
          have hne : ((i - 1) / 2 - 1) / 2 ≠ (i - 1) / 2 := by omega
          have hne2 : ((i - 1) / 2 - 1) / 2 ≠ i := by omega
          rw [if_neg hne, if_neg hne2, if_neg (by omega : k ≠ (i - 1) / 2)]
          have h5 := hb ((i - 1) / 2) hx hp (by omega)
          by_cases h2 : k = i
          · rw [if_pos h2]
            exact h5
          · rw [if_neg h2]
            have h4 := hb k h0 h1 h2
            rw [hk] at h4
            exact nlt_trans h5 h4
      · rename_i hlt
        intro k h0 h1
        by_cases h2 : k = i
        · subst h2
          exact hlt
        · exact hb k h0 h1 h2
theorem up_fuel (f : Nat) (q : List Ent) (i : Nat) (h : i ≤ f) : up f q i = up i q i := by
  induction i using Nat.strongRecOn generalizing f q with
  | _ i ih =>
    cases i with
    | zero =>
      cases f with
      | zero => rfl
      | succ f => simp [up]
    | succ j =>
      obtain ⟨f', rfl⟩ : ∃ f', f = f' + 1 := ⟨f - 1, by omega⟩
      simp only [up]
      split
      · rfl
      · split
        · rw [ih ((j + 1 - 1) / 2) (by omega) f' _ (by omega), ih ((j + 1 - 1) / 2) (by omega) j _ (by omega)]
        · rfl
/-- the best of a place and the two behind it -/
def best (q : List Ent) (i : Nat) : Nat :=
  let b := if 2 * i + 1 < q.length ∧ lt (at0 q (2 * i + 1)) (at0 q i) then 2 * i + 1 else i
  if 2 * i + 2 < q.length ∧ lt (at0 q (2 * i + 2)) (at0 q b) then 2 * i + 2 else b
def sink : Nat → List Ent → Nat → List Ent
  | 0, q, _ => q
  | f + 1, q, i => if best q i = i then q else sink f (swap q i (best q i)) (best q i)
theorem best_cases (q : List Ent) (i : Nat) : (best q i = i ∨ best q i = 2 * i + 1 ∧ 2 * i + 1 < q.length ∨ best q i = 2 * i + 2 ∧ 2 * i + 2 < q.length) ∧ ¬ lt (at0 q i) (at0 q (best q i)) ∧ (2 * i + 1 < q.length → ¬ lt (at0 q (2 * i + 1)) (at0 q (best q i))) ∧ (2 * i + 2 < q.length → ¬ lt (at0 q (2 * i + 2)) (at0 q (best q i))) := by
  unfold best
  simp only
  by_cases h1 : 2 * i + 1 < q.length ∧ lt (at0 q (2 * i + 1)) (at0 q i)
  · rw [if_pos h1]
    by_cases h2 : 2 * i + 2 < q.length ∧ lt (at0 q (2 * i + 2)) (at0 q (2 * i + 1))
    · rw [if_pos h2]
      refine ⟨.inr (.inr ⟨rfl, h2.1⟩), ?_, fun _ => ?_, fun _ => lt_irrefl _⟩
      · have := lt_trans h2.2 h1.2
        unfold lt at *; omega
      · have := h2.2
        unfold lt at *; omega
    · rw [if_neg h2]
      refine ⟨.inr (.inl ⟨rfl, h1.1⟩), ?_, fun _ => lt_irrefl _, fun h => fun hh => h2 ⟨h, hh⟩⟩
      have := h1.2
      unfold lt at *; omega
  · rw [if_neg h1]
    by_cases h2 : 2 * i + 2 < q.length ∧ lt (at0 q (2 * i + 2)) (at0 q i)
    · rw [if_pos h2]
      refine ⟨.inr (.inr ⟨rfl, h2.1⟩), ?_, fun h => ?_, fun _ => lt_irrefl _⟩
      · have := h2.2
        unfold lt at *; omega
      · have h3 : ¬ lt (at0 q (2 * i + 1)) (at0 q i) := fun hh => h1 ⟨h, hh⟩
        have := h2.2
        unfold lt at *; omega
    · rw [if_neg h2]
      exact ⟨.inl rfl, lt_irrefl _, fun h hh => h1 ⟨h, hh⟩, fun h hh => h2 ⟨h, hh⟩⟩
theorem sink_len : ∀ (f : Nat) (q : List Ent) (i : Nat), (sink f q i).length = q.length
  | 0, _, _ => rfl
  | f + 1, q, i => by
    unfold sink
    split
    · rfl
    · rw [sink_len f, swap_len]
theorem sink_perm : ∀ (f : Nat) (q : List Ent) (i : Nat), i < q.length → (sink f q i).Perm q
  | 0, q, _, _ => List.Perm.refl q
  | f + 1, q, i, h => by
    unfold sink
    split
    · exact List.Perm.refl q
    · rename_i hb
      have hlt : best q i < q.length := by
        rcases (best_cases q i).1 with h1 | ⟨h1, h2⟩ | ⟨h1, h2⟩ <;> omega
      exact (sink_perm f _ _ (by rw [swap_len]; exact hlt)).trans (swap_perm q i _ h hlt)
/-- parents are not behind, but for children of x -/
def heapOver (q : List Ent) (x : Nat) : Prop := ∀ i, 0 < i → i < q.length → (i - 1) / 2 ≠ x → ¬ lt (at0 q i) (at0 q ((i - 1) / 2))
theorem sink_heap : ∀ (f : Nat) (q : List Ent) (i : Nat), q.length ≤ i + f → i < q.length → heapOver q i → across q i → heap (sink f q i)
  | 0, q, i, hf, hl, hb, hc => by omega
  | f + 1, q, i, hf, hl, hb, hc => by
    obtain ⟨hcase, h0, h1, h2⟩ := best_cases q i
    unfold sink
    split
    · rename_i he
      rw [he] at h1 h2
      intro k hk0 hk1
      by_cases hp : (k - 1) / 2 = i
      · rw [hp]
        rcases (by omega : k = 2 * i + 1 ∨ k = 2 * i + 2) with h | h
        · rw [h] at hk1 ⊢; exact h1 hk1
        · rw [h] at hk1 ⊢; exact h2 hk1
      · exact hb k hk0 hk1 hp
    · rename_i he
      have hlt : best q i < q.length := by rcases hcase with h | ⟨h, h'⟩ | ⟨h, h'⟩ <;> omega
      have hgt : i < best q i := by rcases hcase with h | ⟨h, h'⟩ | ⟨h, h'⟩ <;> omega
      have hpar : (best q i - 1) / 2 = i := by rcases hcase with h | ⟨h, h'⟩ | ⟨h, h'⟩ <;> omega
      refine sink_heap f _ _ (by rw [swap_len]; omega) (by rw [swap_len]; exact hlt) ?_ ?_
      · intro k hk0 hk1 hkp
        rw [swap_len] at hk1
        rw [at_swap q i _ k hl hlt, at_swap q i _ ((k - 1) / 2) hl hlt, if_neg hkp]
        by_cases h3 : k = best q i
        · rw [if_pos h3, h3, hpar, if_pos rfl]
          exact h0
        · rw [if_neg h3]
          by_cases h4 : k = i
          · subst h4
            rw [if_pos rfl, if_neg (by omega)]
            have h5 : (best q k - 1) / 2 = k := hpar
            exact hc (best q k) (by omega) hlt hpar hk0
          · rw [if_neg h4]
            by_cases h5 : (k - 1) / 2 = i
            · rw [if_pos h5]
              rcases (by omega : k = 2 * i + 1 ∨ k = 2 * i + 2) with h | h
              · rw [h] at hk1 ⊢; exact h1 hk1
              · rw [h] at hk1 ⊢; exact h2 hk1
            · rw [if_neg h5]
              exact hb k hk0 hk1 h5
      · intro k hk0 hk1 hkp hx
        rw [swap_len] at hk1
        rw [at_swap q i _ k hl hlt, at_swap q i _ ((best q i - 1) / 2) hl hlt, hpar, if_neg (by omega), if_pos rfl, if_neg (by omega), if_neg (by omega)]
        have := hb k hk0 hk1 (by omega)
        rw [hkp] at this
        exact this
theorem heap_min (q : List Ent) (h : heap q) : ∀ i, i < q.length → ¬ lt (at0 q i) (at0 q 0) := by
  intro i
  induction i using Nat.strongRecOn with
  | _ i ih =>
    intro hi
    by_cases h0 : i = 0
    · subst h0
      exact lt_irrefl _
    · exact nlt_trans (ih ((i - 1) / 2) (by omega) (by omega)) (h i (by omega) hi)
/-- what is set -/
def setQ (q : List Ent) (e : Ent) : List Ent := up q.length (q ++ [e]) q.length
/-- the first one out -/
def popQ (q : List Ent) : List Ent := sink q.length ((q.set 0 (at0 q (q.length - 1))).take (q.length - 1)) 0
theorem at_append (q : List Ent) (e : Ent) (i : Nat) (h : i < q.length) : at0 (q ++ [e]) i = at0 q i := by
  unfold at0
  simp only [List.getD_eq_getElem?_getD, List.getElem?_append_left h]
theorem setQ_perm (q : List Ent) (e : Ent) : (setQ q e).Perm (q ++ [e]) := up_perm _ _ _ (by simp)
theorem setQ_len (q : List Ent) (e : Ent) : (setQ q e).length = q.length + 1 := by simp [setQ, up_len]
theorem setQ_heap (q : List Ent) (e : Ent) (h : heap q) : heap (setQ q e) := by
  refine up_heap _ _ _ (Nat.le_refl _) (by simp) ?_ ?_
  · intro k h0 h1 h2
    simp at h1
    rw [at_append q e k (by omega), at_append q e _ (by omega)]
    exact h k h0 (by omega)
  · intro k h0 h1 h2 h3
    simp at h1
    omega
theorem popQ_len (q : List Ent) : (popQ q).length = q.length - 1 := by simp [popQ, sink_len]
theorem at_take (q : List Ent) (n i : Nat) (h : i < n) : at0 (q.take n) i = at0 q i := by
  unfold at0
  simp [List.getElem?_take, h]
theorem at_set (q : List Ent) (i k : Nat) (e : Ent) (h : i ≠ k) : at0 (q.set i e) k = at0 q k := by
  unfold at0
  simp [List.getElem?_set_ne h]
theorem popQ_heap (q : List Ent) (h : heap q) : heap (popQ q) := by
  by_cases hn : q.length - 1 = 0
  · intro k h0 h1
    rw [popQ_len] at h1
    omega
  · have hl : ((q.set 0 (at0 q (q.length - 1))).take (q.length - 1)).length = q.length - 1 := by simp
    refine sink_heap _ _ _ (by rw [hl]; omega) (by rw [hl]; omega) ?_ ?_
    · intro k h0 h1 h2
      rw [hl] at h1
      rw [at_take _ _ _ h1, at_take _ _ _ (by omega), at_set _ _ _ _ (by omega), at_set _ _ _ _ (by omega)]
      exact h k h0 (by omega)
    · intro k h0 h1 h2 h3
      omega
theorem set_take_perm (q : List Ent) (h : 0 < q.length) : (at0 q 0 :: (q.set 0 (at0 q (q.length - 1))).take (q.length - 1)).Perm q := by
  cases q with
  | nil => simp at h
  | cons x q =>
    cases hq : q.reverse with
    | nil =>
      have : q = [] := by simpa using hq
      subst this
      simp [at0]
    | cons y r =>
      have : q = r.reverse ++ [y] := by
        have := congrArg List.reverse hq
        simpa using this
      subst this
      have h1 : at0 (x :: (r.reverse ++ [y])) ((x :: (r.reverse ++ [y])).length - 1) = y := by
        unfold at0
        simp [List.getElem?_append_right]
      rw [h1]
      have h2 : ((x :: (r.reverse ++ [y])).set 0 y).take ((x :: (r.reverse ++ [y])).length - 1) = y :: r.reverse := by
        simp [List.set]
      rw [h2]
      have h3 : at0 (x :: (r.reverse ++ [y])) 0 = x := by simp [at0]
      rw [h3]
      refine List.Perm.cons x ?_
      exact (List.perm_append_singleton y r.reverse).symm
theorem popQ_perm (q : List Ent) (h : 0 < q.length) : (at0 q 0 :: popQ q).Perm q := by
  by_cases hn : q.length - 1 = 0
  · have : popQ q = [] := List.length_eq_zero_iff.1 (by rw [popQ_len]; exact hn)
    rw [this]
    have hs := set_take_perm q h
    rw [hn] at hs
    simpa using hs
  · refine ((sink_perm _ _ _ (by simp; omega)).cons _).trans (set_take_perm q h)
theorem sink_fuel : ∀ (f f' : Nat) (q : List Ent) (i : Nat), q.length ≤ i + f → q.length ≤ i + f' → i < q.length → sink f q i = sink f' q i
  | 0, f', q, i, h, h', hi => by omega
  | f + 1, 0, q, i, h, h', hi => by omega
  | f + 1, f' + 1, q, i, h, h', hi => by
    simp only [sink]
    split
    · rfl
    · rename_i hb
      have hlt : i < best q i ∧ best q i < q.length := by
        rcases (best_cases q i).1 with h1 | ⟨h1, h2⟩ | ⟨h1, h2⟩ <;> omega
      exact sink_fuel f f' _ _ (by rw [swap_len]; omega) (by rw [swap_len]; omega) (by rw [swap_len]; omega)
theorem sink_step (n : Nat) (q : List Ent) (i : Nat) (hn : q.length = n) (hi : i < n) (hb : best q i ≠ i) : sink (n + 1 - i) q i = sink (n + 1 - best q i) (swap q i (best q i)) (best q i) := by
  have hlt : i < best q i ∧ best q i < q.length := by
    rcases (best_cases q i).1 with h1 | ⟨h1, h2⟩ | ⟨h1, h2⟩ <;> omega
  rw [show n + 1 - i = (n - i) + 1 by omega, sink, if_neg hb]
  exact sink_fuel _ _ _ _ (by rw [swap_len]; omega) (by rw [swap_len]; omega) (by rw [swap_len]; omega)
theorem sink_stop (f : Nat) (q : List Ent) (i : Nat) (hb : best q i = i) : sink f q i = q := by
  cases f with
  | zero => rfl
  | succ f => rw [sink, if_pos hb]
theorem popQ_eq (q : List Ent) (n : Nat) (hn : q.length = n + 1) : popQ q = sink (n + 1) ((q.set 0 (at0 q n)).take n) 0 := by
  unfold popQ
  rw [hn]
  rfl
/-- the best of a place and those behind it that lie ahead of k -/
def bestK (q : List Ent) (i k : Nat) : Nat :=
  if k ≤ 2 * i + 1 then i else if k = 2 * i + 2 then (if 2 * i + 1 < q.length ∧ lt (at0 q (2 * i + 1)) (at0 q i) then 2 * i + 1 else i) else best q i
theorem bestK_lt (q : List Ent) (i k : Nat) (hi : i < q.length) : bestK q i k < q.length := by
  unfold bestK
  split
  · exact hi
  · split
    · split
      · rename_i h; exact h.1
      · exact hi
    · rcases (best_cases q i).1 with h1 | ⟨h1, h2⟩ | ⟨h1, h2⟩ <;> omega
theorem bestK_yes (q : List Ent) (i k : Nat) (h : k = 2 * i + 1 ∨ k = 2 * i + 2) (hk : k < q.length) (hlt : lt (at0 q k) (at0 q (bestK q i k))) : bestK q i (k + 1) = k := by
  rcases h with h | h
  · subst h
    unfold bestK at hlt ⊢
    rw [if_pos (by omega)] at hlt
    rw [if_neg (by omega), if_pos (by omega), if_pos ⟨hk, hlt⟩]
  · subst h
    unfold bestK at hlt ⊢
    rw [if_neg (by omega), if_pos rfl] at hlt
    rw [if_neg (by omega), if_neg (by omega)]
    unfold best
    simp only
    rw [if_pos ⟨hk, hlt⟩]
theorem bestK_no (q : List Ent) (i k : Nat) (h : k = 2 * i + 1 ∨ k = 2 * i + 2) (hlt : ¬ lt (at0 q k) (at0 q (bestK q i k))) : bestK q i (k + 1) = bestK q i k := by
  rcases h with h | h
  · subst h
    unfold bestK at hlt ⊢
    rw [if_pos (by omega)] at hlt
    rw [if_neg (by omega), if_pos (by omega), if_neg (fun h => hlt h.2), if_pos (by omega)]
  · subst h
    unfold bestK at hlt ⊢
    rw [if_neg (by omega), if_pos rfl] at hlt
    rw [if_neg (by omega), if_neg (by omega), if_neg (by omega), if_pos rfl]
    unfold best
    simp only
    rw [if_neg (fun h => hlt h.2)]
theorem bestK_end (q : List Ent) (i k : Nat) (h : 2 * i + 3 ≤ k ∨ 2 * i + 1 ≤ k ∧ q.length ≤ k) : bestK q i k = best q i := by
  unfold bestK
  by_cases h1 : k ≤ 2 * i + 1
  · rw [if_pos h1]
    have hl : q.length ≤ 2 * i + 1 := by omega
    unfold best
    simp only
    rw [if_neg (by omega : ¬ (2 * i + 1 < q.length ∧ _)), if_neg (by omega)]
  · rw [if_neg h1]
    by_cases h2 : k = 2 * i + 2
    · rw [if_pos h2]
      have hl : q.length ≤ 2 * i + 2 := by omega
      unfold best
      simp only
      rw [if_neg (by omega : ¬ (2 * i + 2 < q.length ∧ _))]
    · rw [if_neg h2]
/-- what is taken -/
def takeQ (now : Int) : Nat → List Ent → List Ent × List Ent
  | 0, q => ([], q)
  | f + 1, q => if 0 < q.length ∧ (at0 q 0).a ≤ now then (at0 q 0 :: (takeQ now f (popQ q)).1, (takeQ now f (popQ q)).2) else ([], q)
theorem takeQ_step (now : Int) (q : List Ent) (m : Nat) (h : q.length = m + 1) (hn : (at0 q 0).a ≤ now) : takeQ now q.length q = (at0 q 0 :: (takeQ now (popQ q).length (popQ q)).1, (takeQ now (popQ q).length (popQ q)).2) := by
  rw [popQ_len, h, takeQ, if_pos ⟨by omega, hn⟩]
  rfl
theorem takeQ_stop (now : Int) (q : List Ent) (h : q.length = 0 ∨ now < (at0 q 0).a) : takeQ now q.length q = ([], q) := by
  cases hq : q.length with
  | zero => rfl
  | succ m => rw [takeQ, if_neg (by omega)]
end Go.Proofs.Ytjnjkgoofkgiiaa.Timer
