/- The plain side of the law TallyWhole. -/
import Derived.Test.YtjnjkgoofkgiiaaTallyPure
set_option linter.unusedVariables false
namespace Go.Proofs.Ytjnjkgoofkgiiaa.Tally
open Go.RowKit Go.Proofs.YtjnjkgoofkgiiaaW.PrintWords Go.Proofs.YtjnjkgoofkgiiaaW.PrintLast

/-- the sum as the law reckons it, round by round -/
def wsum (l : List Int) : Int := l.foldl (fun s v => wrap64 (s + v)) 0
def isum : List Int → Int
  | [] => 0
  | a :: l => a + isum l
theorem isum_append (a b : List Int) : isum (a ++ b) = isum a + isum b := by
  induction a with
  | nil => simp [isum]
  | cons x a ih => simp only [List.cons_append, isum, ih]; omega
theorem isum_zeros (n : Nat) : isum (List.replicate n 0) = 0 := by
  induction n with
  | zero => rfl
  | succ n ih => rw [List.replicate_succ]; simp only [isum, ih]; omega
theorem isum_set (l : List Int) : ∀ (j : Nat) (x : Int), j < l.length → isum (l.set j x) = isum l + (x - l.getD j 0) := by
  induction l with
  | nil => intro j x h; simp at h
  | cons a l ih =>
    intro j x h
    cases j with
    | zero => simp [isum]; omega
    | succ j =>
      have := ih j x (by simpa using h)
      simp only [List.set_cons_succ, isum, List.getD_cons_succ, this]
      omega
theorem isum_bump (bs : List Int) (b : Nat) : isum (bump bs b) = isum bs + 1 := by
  unfold bump
  rw [isum_set _ _ _ (by rw [ext_len]; omega)]
  have : isum (ext bs b) = isum bs := by unfold ext; rw [isum_append, isum_zeros]; omega
  omega
theorem fold_buckets (l : List Int) (hl : ∀ x ∈ l, I64 x) : ∀ k, 0 < k → k ≤ l.length → isum (foldR 3 (l.take k)).b = k := by
  intro k
  induction k with
  | zero => intro h; omega
  | succ k ih =>
    intro _ hk
    by_cases h0 : k = 0
    · subst h0
      cases l with
      | nil => simp at hk
      | cons v l =>
        show isum (bump [] (bl v)) = _
        rw [isum_bump]
        rfl
    · rw [fold_take 3 l k (by omega) (by omega)]
      have e : (foldR 3 (l.take k)).kind = 3 := by
        cases l with
        | nil => simp at hk
        | cons v l =>
          obtain ⟨k, rfl⟩ : ∃ m, k = m + 1 := ⟨k - 1, by omega⟩
          show ((l.take k).foldl addR (beginR 3 v)).kind = 3
          have : ∀ (m : List Int) (r : R), (m.foldl addR r).kind = r.kind := by
            intro m
            induction m with
            | nil => intro r; rfl
            | cons a m ih => intro r; rw [List.foldl_cons, ih]; rfl
          rw [this]
          rfl
      unfold addR
      rw [if_pos e]
      show isum (bump _ _) = _
      rw [isum_bump, ih (by omega) (by omega)]
      omega

theorem fold_kind (kind : Int) (l : List Int) (h : 0 < l.length) : (foldR kind l).kind = kind := by
  cases l with
  | nil => simp at h
  | cons v l =>
    show (l.foldl addR (beginR kind v)).kind = kind
    have : ∀ (m : List Int) (r : R), (m.foldl addR r).kind = r.kind := by
      intro m
      induction m with
      | nil => intro r; rfl
      | cons a m ih => intro r; rw [List.foldl_cons, ih]; rfl
    rw [this]
    rfl
theorem fold_nil (kind : Int) (hk : kind ≠ 3) (l : List Int) (h : 0 < l.length) : (foldR kind l).b = [] := by
  cases l with
  | nil => simp at h
  | cons v l =>
    show (l.foldl addR (beginR kind v)).b = []
    have : ∀ (m : List Int) (r : R), r.kind = kind → r.b = [] → (m.foldl addR r).b = [] := by
      intro m
      induction m with
      | nil => intro r _ h; exact h
      | cons a m ih =>
        intro r h1 h2
        rw [List.foldl_cons]
        refine ih _ h1 ?_
        unfold addR
        rw [h1, if_neg hk]
        exact h2
    exact this l _ rfl (by unfold beginR; rw [if_neg hk])
/-- least and most are met, and none is beyond -/
theorem fold_least (kind : Int) (l : List Int) : ∀ k, 0 < k → k ≤ l.length → (foldR kind (l.take k)).least ∈ l.take k ∧ (foldR kind (l.take k)).most ∈ l.take k ∧ ∀ x ∈ l.take k, (foldR kind (l.take k)).least ≤ x ∧ x ≤ (foldR kind (l.take k)).most := by
  intro k
  induction k with
  | zero => intro h; omega
  | succ k ih =>
    intro _ hk
    by_cases h0 : k = 0
    · subst h0
      cases l with
      | nil => simp at hk
      | cons v l => simp [foldR, beginR]
    · obtain ⟨h1, h2, h3⟩ := ih (by omega) (by omega)
      rw [fold_take kind l k (by omega) (by omega)]
      have e : l.take (k + 1) = l.take k ++ [l.getD k 0] := by
        rw [List.take_succ_eq_append_getElem (by omega)]
        congr 2
        rw [List.getD_eq_getElem?_getD, List.getElem?_eq_getElem (by omega)]
        rfl
      rw [e]
      generalize l.getD k 0 = x at *
      generalize foldR kind (l.take k) = r at *
      refine ⟨?_, ?_, ?_⟩
      · unfold addR
        by_cases c : x < r.least
        · simp [c]
        · simp [c, h1]
      · unfold addR
        by_cases c : r.most < x
        · simp [c]
        · simp [c, h2]
      · intro y hy
        unfold addR
        rcases List.mem_append.1 hy with h4 | h4
        · have := h3 y h4
          by_cases c : x < r.least <;> by_cases d : r.most < x <;> simp [c, d] <;> omega
        · obtain rfl : y = x := by simpa using h4
          by_cases c : y < r.least <;> by_cases d : r.most < y <;> simp [c, d] <;> omega

/-- where nothing was beyond, the sum is the law's own -/
theorem fold_sum (kind : Int) (hk : kind ≠ 2) (l : List Int) (hl : ∀ x ∈ l, I64 x) : ∀ k, 0 < k → k ≤ l.length → (foldR kind (l.take k)).over = true ∨ (foldR kind (l.take k)).sum = wsum (l.take k) := by
  intro k
  induction k with
  | zero => intro h; omega
  | succ k ih =>
    intro _ hkl
    have hg : ∀ j, j < l.length → I64 (l.getD j 0) := fun j hj => by
      rw [List.getD_eq_getElem?_getD, List.getElem?_eq_getElem hj]
      exact hl _ (List.getElem_mem hj)
    by_cases h0 : k = 0
    · subst h0
      cases l with
      | nil => simp at hkl
      | cons v l =>
        right
        have := hl v List.mem_cons_self
        unfold I64 at this
        show v = wrap64 (0 + v)
        unfold wrap64
        omega
    · have hkd := fold_kind kind (l.take k) (by rw [List.length_take]; omega)
      have h1 := ih (by omega) (by omega)
      have hok := (fold_ok kind l hl k (by omega) (by omega)).sum
      have hx := hg k (by omega)
      have e : l.take (k + 1) = l.take k ++ [l.getD k 0] := by
        rw [List.take_succ_eq_append_getElem (by omega)]
        congr 2
        rw [List.getD_eq_getElem?_getD, List.getElem?_eq_getElem (by omega)]
        rfl
      rw [fold_take kind l k (by omega) (by omega)]
      have ew : wsum (l.take (k + 1)) = wrap64 (wsum (l.take k) + l.getD k 0) := by rw [e]; unfold wsum; rw [List.foldl_append]; rfl
      rw [ew]
      generalize l.getD k 0 = x at *
      generalize foldR kind (l.take k) = r at *
      unfold addR
      rw [hkd, if_neg hk, if_neg hk]
      rcases h1 with h1 | h1
      · left
        simp [h1]
      · rw [← h1]
        unfold I64 at hok hx
        unfold sadd
        by_cases c : 9223372036854775807 < r.sum + x
        · left; simp [c]
        · by_cases d : r.sum + x < -9223372036854775808
          · left; simp [c, d]
          · right
            simp [c, d]
            unfold wrap64
            omega

theorem isum_nonneg (l : List Int) (h : ∀ x ∈ l, 0 ≤ x) : 0 ≤ isum l := by
  induction l with
  | nil => exact Int.le_refl _
  | cons a l ih =>
    have h1 := h a List.mem_cons_self
    have h2 := ih (fun x hx => h x (List.mem_cons_of_mem _ hx))
    simp only [isum]
    omega
theorem isum_take (l : List Int) (h : ∀ x ∈ l, 0 ≤ x) (k : Nat) (hk : k < l.length) : isum (l.take (k + 1)) = isum (l.take k) + l.getD k 0 ∧ 0 ≤ isum (l.take k) ∧ isum (l.take (k + 1)) ≤ isum l := by
  have e : l.take (k + 1) = l.take k ++ [l.getD k 0] := by
    rw [List.take_succ_eq_append_getElem hk]
    congr 2
    rw [List.getD_eq_getElem?_getD, List.getElem?_eq_getElem hk]
    rfl
  refine ⟨by rw [e, isum_append]; simp [isum], isum_nonneg _ (fun x hx => h x (List.mem_of_mem_take hx)), ?_⟩
  have h2 := isum_append (l.take (k + 1)) (l.drop (k + 1))
  rw [List.take_append_drop] at h2
  have := isum_nonneg (l.drop (k + 1)) (fun x hx => h x (List.mem_of_mem_drop hx))
  omega
end Go.Proofs.Ytjnjkgoofkgiiaa.Tally
