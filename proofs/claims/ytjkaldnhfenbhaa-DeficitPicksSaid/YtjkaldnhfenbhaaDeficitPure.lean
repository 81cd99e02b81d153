/- Layer 12's plain side: whose turn it is. -/
set_option linter.unusedVariables false
set_option linter.unusedSimpArgs false
namespace Go.Proofs.Ytjkaldnhfenbhaa.Deficit

structure St where
  cs : List Int
  pos : Nat
  vis : Bool
def g0 (l : List Int) (i : Nat) : Int := l.getD i 0
/-- what is there once it was visited -/
def vst (qs : List Int) (s : St) : List Int := if s.vis then s.cs else s.cs.set s.pos (g0 s.cs s.pos + g0 qs s.pos)
def run (qs co : List Int) : Nat → St → Option (St × Nat)
  | 0, _ => none
  | f + 1, s =>
    if g0 co s.pos = 0 then run qs co f ⟨s.cs.set s.pos 0, (s.pos + 1) % qs.length, false⟩
    else if g0 co s.pos ≤ g0 (vst qs s) s.pos then some (⟨(vst qs s).set s.pos (g0 (vst qs s) s.pos - g0 co s.pos), s.pos, true⟩, s.pos)
    else run qs co f ⟨vst qs s, (s.pos + 1) % qs.length, false⟩
/-- how far the credits lie below the costs -/
def defi : List Int → List Int → Nat
  | c :: co, x :: cs => (c - x).toNat + defi co cs
  | _, _ => 0
theorem g0_set (l : List Int) (i j : Nat) (x : Int) (h : i < l.length) : g0 (l.set i x) j = if j = i then x else g0 l j := by
  unfold g0
  simp only [List.getD_eq_getElem?_getD, List.getElem?_set]
  by_cases h1 : i = j
  · rw [if_pos h1, if_pos (by omega), if_pos h1.symm]; rfl
  · rw [if_neg h1, if_neg (Ne.symm h1)]
theorem defi_set : ∀ (co cs : List Int) (i : Nat) (y : Int), i < co.length → i < cs.length → defi co (cs.set i y) + (g0 co i - g0 cs i).toNat = defi co cs + (g0 co i - y).toNat
  | [], cs, i, y, h, _ => by simp at h
  | c :: co, [], i, y, _, h => by simp at h
  | c :: co, x :: cs, 0, y, _, _ => by simp [defi, g0]; omega
  | c :: co, x :: cs, i + 1, y, h, h2 => by
    have ih := defi_set co cs i y (by simpa using h) (by simpa using h2)
    simp only [List.set_cons_succ, defi]
    have h3 : g0 (c :: co) (i + 1) = g0 co i := rfl
    have h4 : g0 (x :: cs) (i + 1) = g0 cs i := rfl
    rw [h3, h4]
    omega
/-- credits as they may be -/
structure Good (qs : List Int) (s : St) : Prop where
  len : s.cs.length = qs.length
  pos : s.pos < qs.length
  lo : ∀ i, i < qs.length → 0 ≤ g0 s.cs i
  hi : ∀ i, i < qs.length → g0 s.cs i ≤ 1000 ∨ s.vis = true ∧ i = s.pos ∧ g0 s.cs i ≤ 2000
structure GoodQ (qs : List Int) : Prop where
  n1 : 1 ≤ qs.length
  n4 : qs.length ≤ 4
  q : ∀ i, i < qs.length → 1 ≤ g0 qs i ∧ g0 qs i ≤ 1000
structure GoodC (qs co : List Int) : Prop where
  len : co.length = qs.length
  c : ∀ i, i < qs.length → 0 ≤ g0 co i ∧ g0 co i ≤ 1000
theorem vst_len (qs : List Int) (s : St) : (vst qs s).length = s.cs.length := by
  unfold vst
  split <;> simp
theorem g0_vst {qs : List Int} {s : St} (h : Good qs s) (i : Nat) : g0 (vst qs s) i = if s.vis = false ∧ i = s.pos then g0 s.cs i + g0 qs i else g0 s.cs i := by
  unfold vst
  cases hv : s.vis with
  | true => simp
  | false =>
    simp only [Bool.false_eq_true, if_false, true_and]
    rw [g0_set _ _ _ _ (by rw [h.len]; exact h.pos)]
    by_cases h1 : i = s.pos
    · rw [if_pos h1, if_pos h1, h1]
    · rw [if_neg h1, if_neg h1]
theorem next_lt {qs : List Int} (hq : GoodQ qs) (i : Nat) : (i + 1) % qs.length < qs.length := Nat.mod_lt _ (by have := hq.n1; omega)
theorem Good.zero {qs co : List Int} {s : St} (hq : GoodQ qs) (h : Good qs s) : Good qs ⟨s.cs.set s.pos 0, (s.pos + 1) % qs.length, false⟩ := by
  have hp : s.pos < s.cs.length := by rw [h.len]; exact h.pos
  refine ⟨by simp [h.len], next_lt hq _, fun i hi => ?_, fun i hi => .inl ?_⟩
  · show 0 ≤ g0 (s.cs.set s.pos 0) i
    rw [g0_set _ _ _ _ hp]
    have := h.lo i hi
    split <;> omega
  · show g0 (s.cs.set s.pos 0) i ≤ 1000
    rw [g0_set _ _ _ _ hp]
    split
    · omega
    · rename_i hne
      rcases h.hi i hi with h1 | ⟨_, h1, _⟩
      · exact h1
      · exact absurd h1 hne
theorem vst_bd {qs : List Int} {s : St} (hq : GoodQ qs) (h : Good qs s) (i : Nat) (hi : i < qs.length) : 0 ≤ g0 (vst qs s) i ∧ (g0 (vst qs s) i ≤ 1000 ∨ i = s.pos ∧ g0 (vst qs s) i ≤ 2000) := by
  rw [g0_vst h]
  have h1 := h.lo i hi
  have h2 := h.hi i hi
  have h3 := hq.q i hi
  split
  · rename_i hv
    refine ⟨by omega, ?_⟩
    rcases h2 with h2 | ⟨h4, _⟩
    · exact .inr ⟨hv.2, by omega⟩
    · rw [hv.1] at h4; cases h4
  · exact ⟨h1, by
      rcases h2 with h2 | ⟨_, h4, h5⟩
      · exact .inl h2
      · exact .inr ⟨h4, h5⟩⟩
theorem Good.pick {qs co : List Int} {s : St} (hq : GoodQ qs) (hc : GoodC qs co) (h : Good qs s) (hge : g0 co s.pos ≤ g0 (vst qs s) s.pos) : Good qs ⟨(vst qs s).set s.pos (g0 (vst qs s) s.pos - g0 co s.pos), s.pos, true⟩ := by
  have hp : s.pos < (vst qs s).length := by rw [vst_len, h.len]; exact h.pos
  refine ⟨by simp [vst_len, h.len], h.pos, fun i hi => ?_, fun i hi => ?_⟩
  · show 0 ≤ g0 ((vst qs s).set s.pos _) i
    rw [g0_set _ _ _ _ hp]
    have := (vst_bd hq h i hi).1
    split <;> omega
  · show g0 ((vst qs s).set s.pos _) i ≤ 1000 ∨ true = true ∧ i = s.pos ∧ g0 ((vst qs s).set s.pos _) i ≤ 2000
    rw [g0_set _ _ _ _ hp]
    have h1 := vst_bd hq h i hi
    have h2 := hc.c s.pos h.pos
    have h3 := vst_bd hq h s.pos h.pos
    split
    · rename_i he
      exact .inr ⟨rfl, he, by omega⟩
    · rename_i he
      rcases h1.2 with h4 | ⟨h4, _⟩
      · exact .inl h4
      · exact absurd h4 he
theorem Good.on {qs co : List Int} {s : St} (hq : GoodQ qs) (hc : GoodC qs co) (h : Good qs s) (hlt : ¬ g0 co s.pos ≤ g0 (vst qs s) s.pos) : Good qs ⟨vst qs s, (s.pos + 1) % qs.length, false⟩ := by
  refine ⟨by rw [vst_len, h.len], next_lt hq _, fun i hi => (vst_bd hq h i hi).1, fun i hi => .inl ?_⟩
  have h1 := vst_bd hq h i hi
  have h2 := hc.c s.pos h.pos
  show g0 (vst qs s) i ≤ 1000
  rcases h1.2 with h4 | ⟨h4, _⟩
  · exact h4
  · rw [h4]
    omega
theorem dist_step (n p i : Nat) (hp : p < n) (hi : i < n) (hne : i ≠ p) : (p + n - (i + 1) % n) % n + 1 = (p + n - i) % n := by
  by_cases h : i + 1 = n
  · have h1 : (i + 1) % n = 0 := by rw [h]; exact Nat.mod_self n
    rw [h1, Nat.sub_zero, Nat.add_mod_right, Nat.mod_eq_of_lt hp]
    rw [show p + n - i = p + 1 by omega, Nat.mod_eq_of_lt (by omega)]
  · rw [Nat.mod_eq_of_lt (show i + 1 < n by omega)]
    by_cases h2 : i < p
    · rw [show p + n - (i + 1) = (p - (i + 1)) + n by omega, Nat.add_mod_right, Nat.mod_eq_of_lt (by omega), show p + n - i = (p - i) + n by omega, Nat.add_mod_right, Nat.mod_eq_of_lt (by omega)]
      omega
    · rw [Nat.mod_eq_of_lt (by omega), Nat.mod_eq_of_lt (by omega)]
      omega
theorem run_ends {qs co : List Int} (hq : GoodQ qs) (hc : GoodC qs co) (p : Nat) (hp : p < qs.length) (hcp : 0 < g0 co p) : ∀ (M : Nat) (s : St), Good qs s → defi co s.cs * (2 * qs.length) + (if s.vis then qs.length else 0) + (p + qs.length - s.pos) % qs.length ≤ M → ∃ f r, run qs co f s = some r := by
  intro M
  induction M using Nat.strongRecOn with
  | _ M ih =>
    intro s h hM
    have hpos := h.pos
    have hn := hq.n1
    have hm := Nat.mod_lt (p + qs.length - ((s.pos + 1) % qs.length)) (show 0 < qs.length by omega)
    by_cases h0 : g0 co s.pos = 0
    · have hne : s.pos ≠ p := fun he => by rw [he] at h0; omega
      have hd := dist_step qs.length p s.pos hp hpos hne
      have hds := defi_set co s.cs s.pos 0 (by rw [hc.len]; exact hpos) (by rw [h.len]; exact hpos)
      have hl := h.lo s.pos hpos
      have he : defi co (s.cs.set s.pos 0) = defi co s.cs := by omega
      obtain ⟨f, r, hr⟩ := ih (defi co (s.cs.set s.pos 0) * (2 * qs.length) + 0 + (p + qs.length - ((s.pos + 1) % qs.length)) % qs.length) (by rw [he]; omega) ⟨s.cs.set s.pos 0, (s.pos + 1) % qs.length, false⟩ (h.zero hq (co := co)) (by simp)
      exact ⟨f + 1, r, by rw [run, if_pos h0]; exact hr⟩
    · by_cases hge : g0 co s.pos ≤ g0 (vst qs s) s.pos
      · exact ⟨1, _, by rw [run, if_neg h0, if_pos hge]⟩
      · have hgood := h.on hq hc hge
        cases hv : s.vis with
        | true =>
          have he : vst qs s = s.cs := by unfold vst; rw [hv]; rfl
          rw [hv] at hM
          simp only [if_true] at hM
          have hlt : (p + qs.length - ((s.pos + 1) % qs.length)) % qs.length + 1 ≤ qs.length + (p + qs.length - s.pos) % qs.length := by omega
          obtain ⟨f, r, hr⟩ := ih (defi co s.cs * (2 * qs.length) + 0 + (p + qs.length - ((s.pos + 1) % qs.length)) % qs.length) (by omega) ⟨vst qs s, (s.pos + 1) % qs.length, false⟩ hgood (by rw [he]; simp)
          exact ⟨f + 1, r, by rw [run, if_neg h0, if_neg hge]; exact hr⟩
        | false =>
          have hvs : vst qs s = s.cs.set s.pos (g0 s.cs s.pos + g0 qs s.pos) := by unfold vst; rw [hv]; rfl
          have hds := defi_set co s.cs s.pos (g0 s.cs s.pos + g0 qs s.pos) (by rw [hc.len]; exact hpos) (by rw [h.len]; exact hpos)
          have hg : g0 (vst qs s) s.pos = g0 s.cs s.pos + g0 qs s.pos := by rw [g0_vst h, if_pos ⟨hv, rfl⟩]
          have hqp := (hq.q s.pos hpos).1
          have he : defi co (vst qs s) + 1 ≤ defi co s.cs := by rw [hvs]; omega
          have hmul := Nat.mul_le_mul_right (2 * qs.length) he
          rw [Nat.succ_mul] at hmul
          obtain ⟨f, r, hr⟩ := ih (defi co (vst qs s) * (2 * qs.length) + 0 + (p + qs.length - ((s.pos + 1) % qs.length)) % qs.length) (by omega) ⟨vst qs s, (s.pos + 1) % qs.length, false⟩ hgood (by simp)
          exact ⟨f + 1, r, by rw [run, if_neg h0, if_neg hge]; exact hr⟩
theorem run_good {qs co : List Int} (hq : GoodQ qs) (hc : GoodC qs co) : ∀ (f : Nat) (s : St) (r : St × Nat), Good qs s → run qs co f s = some r → Good qs r.1 ∧ r.2 < qs.length
  | 0, s, r, h, hr => by cases hr
  | f + 1, s, r, h, hr => by
    rw [run] at hr
    split at hr
    · exact run_good hq hc f _ r (h.zero hq (co := co)) hr
    · split at hr
      · rename_i hge
        simp only [Option.some.injEq] at hr
        subst hr
        exact ⟨h.pick hq hc hge, h.pos⟩
      · rename_i hge
        exact run_good hq hc f _ r (h.on hq hc hge) hr
end Go.Proofs.Ytjkaldnhfenbhaa.Deficit
