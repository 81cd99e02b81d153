/- Layer 13's laws: the plain side. -/
import Derived.Test.YtjnjkgoofkgiiaaTimerPure
set_option linter.unusedVariables false
set_option linter.unusedSimpArgs false
namespace Go.Proofs.Ytjnjkgoofkgiiaa.Timer

def pk (c : Int) (n : Nat) : Nat := ((if c < 0 then -(c + 1) else c) % (n : Int)).toNat
theorem pk_lt (c : Int) (n : Nat) (h : 0 < n) : pk c n < n := by
  unfold pk
  have h1 := Int.emod_lt_of_pos (if c < 0 then -(c + 1) else c) (show (0 : Int) < n by omega)
  have h2 := Int.emod_nonneg (if c < 0 then -(c + 1) else c) (show (n : Int) ≠ 0 by omega)
  omega
theorem pk_cast (c : Int) (n : Nat) (h : 0 < n) : ((pk c n : Nat) : Int) = (if c < 0 then -(c + 1) else c).tmod n := by
  have h2 := Int.emod_nonneg (if c < 0 then -(c + 1) else c) (show (n : Int) ≠ 0 by omega)
  unfold pk
  rw [Int.toNat_of_nonneg h2, Int.tmod_eq_emod_of_nonneg (by split <;> omega)]
/-- the place of the least of the first k -/
def fstK (f : Nat → Int) : Nat → Nat
  | 0 => 0
  | k + 1 => if k = 0 then 0 else if f k < f (fstK f k) then k else fstK f k
theorem fstK_succ (f : Nat → Int) (k : Nat) : fstK f (k + 1) = if k = 0 then 0 else if f k < f (fstK f k) then k else fstK f k := rfl
theorem fstK_lt (f : Nat → Int) : ∀ k, 0 < k → fstK f k < k
  | 0, h => by omega
  | k + 1, _ => by
    unfold fstK
    split
    · omega
    · split
      · omega
      · have := fstK_lt f k (by omega)
        omega
theorem fstK_min (f : Nat → Int) : ∀ k, 0 < k → (∀ j, j < k → f (fstK f k) ≤ f j) ∧ ∀ j, j < fstK f k → f (fstK f k) < f j
  | 0, h => by omega
  | k + 1, _ => by
    unfold fstK
    by_cases h0 : k = 0
    · rw [if_pos h0]
      subst h0
      exact ⟨fun j hj => by obtain rfl : j = 0 := (by omega); exact Int.le_refl _, fun j hj => by omega⟩
    · rw [if_neg h0]
      obtain ⟨h1, h2⟩ := fstK_min f k (by omega)
      by_cases h3 : f k < f (fstK f k)
      · rw [if_pos h3]
        refine ⟨fun j hj => ?_, fun j hj => ?_⟩
        · by_cases h4 : j = k
          · subst h4; exact Int.le_refl _
          · have := h1 j (by omega); omega
        · have := h1 j (by omega); omega
      · rw [if_neg h3]
        refine ⟨fun j hj => ?_, h2⟩
        by_cases h4 : j = k
        · subst h4; omega
        · exact h1 j (by omega)
def bst (f : Nat → Int) (k : Nat) : Int := if k = 0 then -1 else (fstK f k : Int)
/-- a heap that has what was set, in the order in which it was set -/
structure Rel (q es : List Ent) (t : Int) : Prop where
  heap : heap q
  perm : q.Perm es
  inc : es.Pairwise (fun a b => a.t < b.t)
  le : ∀ e ∈ es, e.t ≤ t
theorem Rel.nil (t : Int) : Rel [] [] t := ⟨fun i h0 h1 => by simp at h1, .refl _, .nil, by simp⟩
theorem Rel.set {q es : List Ent} {t : Int} (h : Rel q es t) (a x : Int) : Rel (setQ q ⟨a, x, t + 1⟩) (es ++ [⟨a, x, t + 1⟩]) (t + 1) := by
  refine ⟨setQ_heap _ _ h.heap, (setQ_perm _ _).trans (h.perm.append_right _), ?_, ?_⟩
  · rw [List.pairwise_append]
    refine ⟨h.inc, by simp, fun a ha b hb => ?_⟩
    obtain rfl : b = _ := by simpa using hb
    have := h.le a ha
    show a.t < t + 1
    omega
  · intro e he
    rcases List.mem_append.1 he with he | he
    · have := h.le e he
      omega
    · obtain rfl : e = _ := by simpa using he
      exact Int.le_refl _
theorem Rel.len {q es : List Ent} {t : Int} (h : Rel q es t) : q.length = es.length := h.perm.length_eq
theorem at_mem (q : List Ent) (i : Nat) (h : i < q.length) : at0 q i ∈ q := by
  have : at0 q i = q[i] := by simp [at0, h]
  rw [this]
  exact List.getElem_mem h
/-- the first of those that are due first -/
theorem Rel.min {q es : List Ent} {t : Int} (h : Rel q es t) (hp : 0 < es.length) : at0 q 0 = at0 es (fstK (fun k => (at0 es k).a) es.length) := by
  obtain ⟨h1, h2⟩ := fstK_min (fun k => (at0 es k).a) es.length hp
  have hf := fstK_lt (fun k => (at0 es k).a) es.length hp
  obtain ⟨f, hfe⟩ : ∃ f, f = fstK (fun k => (at0 es k).a) es.length := ⟨_, rfl⟩
  rw [← hfe] at h1 h2 hf ⊢
  have hq : 0 < q.length := by rw [h.len]; exact hp
  have hlt : ∀ j, j < es.length → j ≠ f → lt (at0 es f) (at0 es j) := fun j hj hne => by
    have h3 := h1 j hj
    rcases Nat.lt_or_gt_of_ne hne with h4 | h4
    · have h5 := h2 j h4
      exact .inl h5
    · have h5 : (at0 es f).t < (at0 es j).t := by
        have := List.pairwise_iff_getElem.1 h.inc f j hf hj h4
        simpa [at0, hf, hj] using this
      have h6 : (at0 es f).a ≤ (at0 es j).a := h3
      unfold lt
      omega
  have hmem : at0 q 0 ∈ es := h.perm.mem_iff.1 (at_mem q 0 hq)
  obtain ⟨j, hj, hje⟩ := List.getElem_of_mem hmem
  have hje' : at0 es j = at0 q 0 := by simp [at0, hj] at hje ⊢; exact hje
  by_cases hjf : j = f
  · rw [← hjf]
    exact hje'.symm
  · have h5 := hlt j hj hjf
    rw [hje'] at h5
    have hmem2 : at0 es f ∈ q := h.perm.mem_iff.2 (at_mem es f hf)
    obtain ⟨i, hi, hie⟩ := List.getElem_of_mem hmem2
    have hie' : at0 q i = at0 es f := by simp [at0, hi] at hie ⊢; exact hie
    have h6 := heap_min q h.heap i hi
    rw [hie'] at h6
    exact absurd h5 h6
theorem erase_perm : ∀ (es : List Ent) (f : Nat), f < es.length → (at0 es f :: es.eraseIdx f).Perm es
  | [], f, h => by simp at h
  | e :: es, 0, h => by simp [at0]
  | e :: es, f + 1, h => by
    have ih := erase_perm es f (by simpa using h)
    have : at0 (e :: es) (f + 1) = at0 es f := by simp [at0]
    rw [this, List.eraseIdx_cons_succ]
    exact (List.Perm.swap e (at0 es f) _).trans (ih.cons e)
theorem Rel.pop {q es : List Ent} {t : Int} (h : Rel q es t) (hp : 0 < es.length) : Rel (popQ q) (es.eraseIdx (fstK (fun k => (at0 es k).a) es.length)) t := by
  have hf := fstK_lt (fun k => (at0 es k).a) es.length hp
  have hm := h.min hp
  have hq : 0 < q.length := by rw [h.len]; exact hp
  refine ⟨popQ_heap q h.heap, ?_, ?_, ?_⟩
  · have h1 := (popQ_perm q hq).trans (h.perm.trans (erase_perm es _ hf).symm)
    rw [hm] at h1
    exact h1.cons_inv
  · exact h.inc.sublist (List.eraseIdx_sublist _ _)
  · intro e he
    exact h.le e (List.mem_of_mem_eraseIdx he)
/-! ### of two queues alike, one taken from often -/
theorem takeQ_len (now : Int) : ∀ (f : Nat) (q : List Ent), (takeQ now f q).1.length + (takeQ now f q).2.length = q.length
  | 0, q => by simp [takeQ]
  | f + 1, q => by
    unfold takeQ
    split
    · rename_i h
      have := takeQ_len now f (popQ q)
      rw [popQ_len] at this
      simp only [List.length_cons]
      omega
    · simp
theorem takeQ_due (now : Int) : ∀ (f : Nat) (q : List Ent), ∀ e ∈ (takeQ now f q).1, e.a ≤ now
  | 0, q => by simp [takeQ]
  | f + 1, q => by
    unfold takeQ
    split
    · rename_i h
      intro e he
      rcases List.mem_cons.1 he with rfl | he
      · exact h.2
      · exact takeQ_due now f (popQ q) e he
    · simp
theorem takeQ_more (n m : Int) (h : n ≤ m) : ∀ (f : Nat) (q : List Ent), q.length ≤ f → (takeQ m f q).1 = (takeQ n f q).1 ++ (takeQ m (takeQ n f q).2.length (takeQ n f q).2).1 ∧ (takeQ m f q).2 = (takeQ m (takeQ n f q).2.length (takeQ n f q).2).2
  | 0, q, hl => by
    have : q = [] := List.length_eq_zero_iff.1 (by omega)
    subst this
    simp [takeQ]
  | f + 1, q, hl => by
    by_cases h1 : 0 < q.length ∧ (at0 q 0).a ≤ n
    · have h2 : 0 < q.length ∧ (at0 q 0).a ≤ m := ⟨h1.1, by omega⟩
      have ih := takeQ_more n m h f (popQ q) (by rw [popQ_len]; omega)
      rw [takeQ, if_pos h2, takeQ, if_pos h1]
      simp only [List.cons_append]
      exact ⟨by rw [ih.1], ih.2⟩
    · have : takeQ n (f + 1) q = ([], q) := by rw [takeQ, if_neg h1]
      rw [this]
      simp only [List.nil_append]
      have hfuel : ∀ (f g : Nat) (q : List Ent), q.length ≤ f → q.length ≤ g → takeQ m f q = takeQ m g q := by
        intro f
        induction f with
        | zero =>
          intro g q h1 h2
          have : q = [] := List.length_eq_zero_iff.1 (by omega)
          subst this
          cases g <;> simp [takeQ]
        | succ f ih =>
          intro g q h1 h2
          cases g with
          | zero =>
            have : q = [] := List.length_eq_zero_iff.1 (by omega)
            subst this
            simp [takeQ]
          | succ g =>
            simp only [takeQ]
            split
            · rw [ih g (popQ q) (by rw [popQ_len]; omega) (by rw [popQ_len]; omega)]
            · rfl
      rw [hfuel (f + 1) q.length q hl (Nat.le_refl _)]
      exact ⟨rfl, rfl⟩
end Go.Proofs.Ytjnjkgoofkgiiaa.Timer
