/- Plain: a line that was printed is read as it was; a line that is read is printed as it is. -/
import Derived.Test.YtdhonbahpcmmnaaDoorLineE
import Derived.Test.YtdhonbahpcmmnaaDoorLineP
set_option maxHeartbeats 400000
set_option linter.unusedVariables false
set_option linter.unusedSimpArgs false
namespace Go.Proofs.YtdhonbahpcmmnaaDoor.Line
open Go Go.RowKit Go.Proofs.YtdhonbahpcmmnaaDoor Go.Proofs.YtdhonbahpcmmnaaDoor.Eng Go.Proofs.YtdhonbahpcmmnaaDoorW.PrintWords
def Stops (pr : UInt8 → Bool) (r : L) : Prop := ∀ c r', r = c :: r' → pr c = false
theorem tw_stop {pr : UInt8 → Bool} {r : L} (h : Stops pr r) : r.takeWhile pr = [] := by
 cases r with
 | nil => rfl
 | cons c r => rw [List.takeWhile_cons, if_neg (by rw [h c r rfl]; simp)]
theorem tw_app {pr : UInt8 → Bool} {r : L} (h : Stops pr r) : ∀ w : L, (∀ c ∈ w, pr c = true) → (w ++ r).takeWhile pr = w
 | [], _ => tw_stop h
 | c :: w, hw => by
  rw [List.cons_append, List.takeWhile_cons, if_pos (hw c (by simp)), tw_app h w (fun d hd => hw d (by simp [hd]))]
theorem run_fwd {pr : UInt8 → Bool} {s w r : L} {p : Nat} (h : s.drop p = w ++ r) (hw : ∀ c ∈ w, pr c = true) (hr : Stops pr r) : (s.take (runE pr s p)).drop p = w ∧ runE pr s p = p + w.length ∧ s.drop (runE pr s p) = r := by
 have h1 : (s.drop p).takeWhile pr = w := by rw [h]; exact tw_app hr w hw
 have h2 : runE pr s p = p + w.length := by unfold runE; rw [h1]
 refine ⟨by rw [run_part, h1], h2, ?_⟩
 rw [h2, ← List.drop_drop, h, List.drop_left]
theorem run_bwd (pr : UInt8 → Bool) (s : L) (p : Nat) : s.drop p = (s.take (runE pr s p)).drop p ++ s.drop (runE pr s p) := by
 have h1 := takeW pr (s.drop p)
 have h2 := List.take_append_drop ((s.drop p).takeWhile pr).length (s.drop p)
 rw [h1, List.drop_drop] at h2
 rw [run_part]
 exact h2.symm
theorem isAt_cons {s r : L} {p c : Nat} {b : UInt8} (h : s.drop p = b :: r) (hb : b.toNat = c) : isAt s p c ∧ s.drop (p + 1) = r ∧ gB s p = b := by
 have hl : p < s.length := by
  rcases Nat.lt_or_ge p s.length with h1 | h1
  ·
   exact h1
  ·
   rw [List.drop_of_length_le h1] at h
   cases h
 have h2 := drop_gB s p hl
 rw [h] at h2
 injection h2 with h3 h4
 exact ⟨⟨hl, by rw [← h3]; exact hb⟩, h4.symm, h3.symm⟩
theorem isAt_drop {s : L} {p c : Nat} (h : isAt s p c) : s.drop p = gB s p :: s.drop (p + 1) ∧ (gB s p).toNat = c := ⟨drop_gB s p h.1, h.2⟩
theorem not_isAt {s r : L} {p c : Nat} {b : UInt8} (h : s.drop p = b :: r) (hb : b.toNat ≠ c) : ¬ isAt s p c := fun k => by
 have := (isAt_cons h rfl).2.2
 rw [← this] at hb
 exact hb k.2
theorem u8_of {a : UInt8} {n : Nat} (hn : n < 256) (h : a.toNat = n) : a = UInt8.ofNat n := by
 apply UInt8.toNat_inj.1
 have e : (UInt8.ofNat n).toNat = n % 256 := rfl
 omega
theorem word_in {w : L} (h : isWord w = true) : ∀ c ∈ w, inW c = true := by
 unfold isWord at h
 simp only [Bool.and_eq_true] at h
 exact List.all_eq_true.1 h.1.1
theorem word_len {w : L} (h : isWord w = true) : w.length ≤ 16 := by
 unfold isWord at h
 simp only [Bool.and_eq_true, decide_eq_true_eq] at h
 exact h.2
theorem stops_c {c : UInt8} {r : L} {pr : UInt8 → Bool} (h : pr c = false) : Stops pr (c :: r) := fun d r' e => by
 injection e with e1 e2
 rw [← e1]
 exact h
theorem stops_nil {pr : UInt8 → Bool} : Stops pr [] := fun d r' e => by cases e
theorem part_word {s w r : L} {p : Nat} (h : s.drop p = w ++ r) (hw : isWord w = true) (hr : Stops inW r) : part s p = w ∧ runE inW s p = p + w.length ∧ s.drop (runE inW s p) = r := run_fwd h (word_in hw) hr
def tagsT (ts : List (L × L)) : L := (ts.map tagT).flatten
theorem tagsT_cons (t : L × L) (ts : List (L × L)) : tagsT (t :: ts) = 44 :: (t.1 ++ (61 :: (t.2 ++ tagsT ts))) := by
 simp [tagsT, tagT]
theorem tags_stop {s : L} {k p : Nat} {acc : List (L × L)} (h : ¬ isAt s p 44) : tagsP s k p acc = .inl (acc, p) := by
 unfold tagsP
 exact if_neg h
theorem tags_many {s : L} {p : Nat} {acc : List (L × L)} (h : isAt s p 44) : tagsP s 0 p acc = .inr p := by
 unfold tagsP
 exact if_pos h
theorem tags_key {s : L} {k p : Nat} {acc : List (L × L)} (h : isAt s p 44) (h1 : isWord (part s (p + 1)) = false) : tagsP s (k + 1) p acc = .inr (p + 1) := by
 unfold tagsP
 rw [if_pos h]
 exact if_pos h1
theorem tags_eq {s : L} {k p : Nat} {acc : List (L × L)} (h : isAt s p 44) (h1 : isWord (part s (p + 1)) = true) (h2 : ¬ isAt s (runE inW s (p + 1)) 61) : tagsP s (k + 1) p acc = .inr (runE inW s (p + 1)) := by
 unfold tagsP
 rw [if_pos h]
 show (if _ then _ else _) = _
 rw [if_neg (by rw [h1]; simp), if_pos h2]
theorem tags_val {s : L} {k p : Nat} {acc : List (L × L)} (h : isAt s p 44) (h1 : isWord (part s (p + 1)) = true) (h2 : isAt s (runE inW s (p + 1)) 61) (h3 : isWord (part s (runE inW s (p + 1) + 1)) = false) : tagsP s (k + 1) p acc = .inr (runE inW s (p + 1) + 1) := by
 unfold tagsP
 rw [if_pos h]
 show (if _ then _ else _) = _
 rw [if_neg (by rw [h1]; simp), if_neg (fun k_ => k_ h2), if_pos h3]
theorem tags_on {s : L} {k p : Nat} {acc : List (L × L)} (h : isAt s p 44) (h1 : isWord (part s (p + 1)) = true) (h2 : isAt s (runE inW s (p + 1)) 61) (h3 : isWord (part s (runE inW s (p + 1) + 1)) = true) : tagsP s (k + 1) p acc = tagsP s k (runE inW s (runE inW s (p + 1) + 1)) (acc ++ [(part s (p + 1), part s (runE inW s (p + 1) + 1))]) := by
 rw [tagsP, if_pos h]
 show (if _ then _ else _) = _
 rw [if_neg (by rw [h1]; simp), if_neg (fun k_ => k_ h2), if_neg (by rw [h3]; simp)]
theorem tags_fwd {s : L} {c : UInt8} {r : L} (hc : inW c = false) (h44 : c.toNat ≠ 44) : ∀ (ts : List (L × L)) (k p : Nat) (acc : List (L × L)), s.drop p = tagsT ts ++ c :: r → (∀ t ∈ ts, isWord t.1 = true ∧ isWord t.2 = true) → ts.length ≤ k →
  tagsP s k p acc = .inl (acc ++ ts, p + (tagsT ts).length) ∧ s.drop (p + (tagsT ts).length) = c :: r
 | [], k, p, acc, h, _, _ => by
  refine ⟨?_, h⟩
  rw [tags_stop (not_isAt h h44), List.append_nil]
  rfl
 | t :: ts, 0, p, acc, _, _, hk => by simp at hk
 | t :: ts, k + 1, p, acc, h, hw, hk => by
  rw [tagsT_cons, List.cons_append, List.append_assoc, List.cons_append, List.append_assoc] at h
  obtain ⟨a1, a2, _⟩ := isAt_cons (c := 44) h rfl
  obtain ⟨hw1, hw2⟩ := hw t (by simp)
  obtain ⟨b1, b2, b3⟩ := part_word a2 hw1 (stops_c (by rfl))
  obtain ⟨c1, c2, _⟩ := isAt_cons (c := 61) b3 rfl
  have hst : Stops inW (tagsT ts ++ c :: r) := by
   cases ts with
   | nil => exact stops_c hc
   | cons u us => rw [tagsT_cons, List.cons_append]; exact stops_c (by rfl)
  obtain ⟨d1, d2, d3⟩ := part_word c2 hw2 hst
  rw [tags_on a1 (by rw [b1]; exact hw1) c1 (by rw [d1]; exact hw2)]
  have ih := tags_fwd hc h44 ts k (runE inW s (runE inW s (p + 1) + 1)) (acc ++ [(part s (p + 1), part s (runE inW s (p + 1) + 1))]) d3 (fun u hu => hw u (by simp [hu])) (by simp at hk; omega)
  rw [ih.1, b1, d1]
  have e : runE inW s (runE inW s (p + 1) + 1) + (tagsT ts).length = p + (tagsT (t :: ts)).length := by
   rw [d2, b2, tagsT_cons]
   simp only [List.length_cons, List.length_append]
   omega
  rw [e] at ih ⊢
  exact ⟨by simp, ih.2⟩
theorem tags_bwd {s : L} : ∀ (k p : Nat) (acc ts : List (L × L)) (q : Nat), tagsP s k p acc = .inl (ts, q) → ∃ ts', ts = acc ++ ts' ∧ s.drop p = tagsT ts' ++ s.drop q ∧ (∀ t ∈ ts', isWord t.1 = true ∧ isWord t.2 = true) ∧ ts'.length ≤ k := by
 intro k
 induction k with
 | zero =>
  intro p acc ts q h
  by_cases h0 : isAt s p 44
  ·
   rw [tags_many h0] at h; cases h
  ·
   rw [tags_stop h0] at h
   injection h with h
   injection h with h1 h2
   subst h1 h2
   exact ⟨[], by simp, by simp [tagsT], by simp, by simp⟩
 | succ k ih =>
  intro p acc ts q h
  by_cases h0 : isAt s p 44
  ·
   cases h1 : isWord (part s (p + 1)) with
   | false => rw [tags_key h0 h1] at h; cases h
   | true =>
    by_cases h2 : isAt s (runE inW s (p + 1)) 61
    ·
     cases h3 : isWord (part s (runE inW s (p + 1) + 1)) with
     | false => rw [tags_val h0 h1 h2 h3] at h; cases h
     | true =>
      rw [tags_on h0 h1 h2 h3] at h
      obtain ⟨ts', e1, e2, e3, e4⟩ := ih _ _ _ _ h
      refine ⟨(part s (p + 1), part s (runE inW s (p + 1) + 1)) :: ts', by rw [e1]; simp, ?_, ?_, by simp; exact e4⟩
      ·
       rw [tagsT_cons, (isAt_drop h0).1, run_bwd inW s (p + 1), (isAt_drop h2).1, run_bwd inW s (runE inW s (p + 1) + 1), e2, u8_of (by decide) h0.2, u8_of (by decide) h2.2]
       simp only [part, List.cons_append, List.append_assoc]
       rfl
      ·
       intro t ht
       rcases List.mem_cons.1 ht with rfl | ht
       ·
        exact ⟨h1, h3⟩
       ·
        exact e3 t ht
    ·
     rw [tags_eq h0 h1 h2] at h; cases h
  ·
   rw [tags_stop h0] at h
   injection h with h
   injection h with h1 h2
   subst h1 h2
   exact ⟨[], by simp, by simp [tagsT], by simp, by simp⟩
theorem dv_snoc (q : L) (c : UInt8) : dv (q ++ [c]) = 10 * dv q + c.toNat - 48 := by
 unfold dv
 rw [List.foldl_append]
 rfl
theorem dig_nat {n : Nat} (h : n < 10) : (dig n).toNat = 48 + n := by
 unfold dig
 have e : (UInt8.ofNat (48 + n)).toNat = (48 + n) % 256 := rfl
 omega
theorem digs_dg (n : Nat) : ∀ c ∈ digs n, isD c = true := by
 induction n using Nat.strongRecOn with
 | _ n ih =>
  have key : ∀ c ∈ [dig (n % 10)], isD c = true := fun c hc => by
   rw [List.mem_singleton.1 hc]
   have := dig_nat (n := n % 10) (by omega)
   exact isD_t (by omega)
  by_cases h : n < 10
  ·
   rw [digs_lo h]; exact key
  ·
   rw [digs_hi h]
   intro c hc
   rcases List.mem_append.1 hc with hc | hc
   ·
    exact ih (n / 10) (by omega) c hc
   ·
    exact key c hc
theorem dv_digs (n : Nat) : dv (digs n) = n := by
 induction n using Nat.strongRecOn with
 | _ n ih =>
  have := dig_nat (n := n % 10) (by omega)
  by_cases h : n < 10
  ·
   rw [digs_lo h, ← List.nil_append [dig (n % 10)], dv_snoc, show dv [] = 0 from rfl]
   omega
  ·
   rw [digs_hi h, dv_snoc, ih (n / 10) (by omega)]
   omega
theorem digs_pos (n : Nat) : 0 < (digs n).length := by
 by_cases h : n < 10
 ·
  rw [digs_lo h]; simp
 ·
  rw [digs_hi h]; simp
theorem gB_app0 {a b : L} (h : 0 < a.length) : gB (a ++ b) 0 = gB a 0 := by
 unfold gB
 cases a with
 | nil => simp at h
 | cons x a => rfl
theorem digs_head (n : Nat) : 0 < n → (gB (digs n) 0).toNat ≠ 48 := by
 induction n using Nat.strongRecOn with
 | _ n ih =>
  intro h0
  by_cases h : n < 10
  ·
   rw [digs_lo h]
   have := dig_nat (n := n % 10) (by omega)
   show (dig (n % 10)).toNat ≠ 48
   omega
  ·
   rw [digs_hi h, gB_app0 (digs_pos _)]
   exact ih (n / 10) (by omega) (by omega)
theorem idx_of {D : L} (h : ∀ c ∈ D, isD c = true) : ∀ j, j < D.length → 48 ≤ (gB D j).toNat ∧ (gB D j).toNat ≤ 57 := fun j hj => isD_in (h _ (List.mem_of_getElem? (gB_some D j hj)))
theorem digs_of (D : L) : D ≠ [] → (∀ c ∈ D, isD c = true) → (1 < D.length → (gB D 0).toNat ≠ 48) → digs (dv D) = D := by
 induction h : D.length using Nat.strongRecOn generalizing D with
 | _ n ih =>
  intro h0 hd hh
  rcases List.eq_nil_or_concat D with e | ⟨q, c, e⟩
  ·
   exact absurd e h0
  ·
   rw [List.concat_eq_append] at e
   subst e
   have hc := isD_in (hd c (by simp))
   rw [dv_snoc]
   by_cases hq : q = []
   ·
    subst hq
    rw [show dv [] = 0 from rfl]
    rw [digs_lo (by omega)]
    simp only [List.nil_append]
    congr 1
    apply UInt8.toNat_inj.1
    rw [dig_nat (by omega)]
    omega
   ·
    have hlq : 0 < q.length := List.length_pos_iff.2 hq
    have hg : (gB q 0).toNat ≠ 48 := by
     rw [← gB_app0 (b := [c]) hlq]
     exact hh (by rw [← h]; simp; omega)
    have hp := dv_pos (idx_of fun x hx => hd x (by simp [hx])) hlq hg
    rw [digs_hi (by omega), show (10 * dv q + c.toNat - 48) / 10 = dv q by omega, ih q.length (by rw [← h]; simp) q rfl hq (fun x hx => hd x (by simp [hx])) (fun _ => hg)]
    congr 2
    apply UInt8.toNat_inj.1
    rw [dig_nat (by omega)]
    omega
theorem valE_ok {b : Bool} {q : L} {l m : Int} (h : (valE b q l m).2 = true) : q.length ≠ 0 ∧ (1 < q.length → (gB q 0).toNat ≠ 48) ∧ ¬ (b = true ∧ q = [48]) ∧ (valE b q l m).1 = (if b = true then - (dv q : Int) else (dv q : Int)) ∧ l ≤ (valE b q l m).1 ∧ (valE b q l m).1 ≤ m := by
 unfold valE at h ⊢
 by_cases h1 : q.length = 0 ∨ 19 < q.length ∨ (1 < q.length ∧ (gB q 0).toNat = 48)
 ·
  rw [if_pos h1] at h; cases h
 ·
  rw [if_neg h1] at h ⊢
  by_cases h2 : b = true ∧ q = [48]
  ·
   rw [if_pos h2] at h; cases h
  ·
   rw [if_neg h2] at h ⊢
   by_cases h3 : 9223372036854775808 < dv q ∨ (dv q = 9223372036854775808 ∧ b = false)
   ·
    rw [if_pos h3] at h; cases h
   ·
    rw [if_neg h3] at h ⊢
    have h4 := of_decide_eq_true h
    exact ⟨fun e => h1 (.inl e), fun e e2 => h1 (.inr (.inr ⟨e, e2⟩)), h2, rfl, h4.1, h4.2⟩
theorem num_bwd {s : L} {p : Nat} {l m v : Int} (h : numP s p l m = some v) : s.drop p = numT v ++ s.drop (numE s p) ∧ l ≤ v ∧ v ≤ m := by
 by_cases hb : p < s.length ∧ (gB s p).toNat = 45
 ·
  have e1 : numB s p = p + 1 := if_pos hb
  unfold numP at h
  unfold numE
  rw [e1] at h ⊢
  rw [numR_m _ (gB s p) hb.2 rfl (run_minus hb.1) (run_digits s (p + 1))] at h
  obtain ⟨D, hD⟩ : ∃ D, D = (s.take (runE isD s (p + 1))).drop (p + 1) := ⟨_, rfl⟩
  have hr := run_bwd isD s (p + 1)
  have hdg := run_digits s (p + 1)
  rw [← hD] at h hr hdg
  cases hv : (valE true D l m).2 with
  | false => rw [hv] at h; cases h
  | true =>
   rw [hv, if_pos rfl] at h
   injection h with h
   obtain ⟨a1, a2, a3, a4, a5, a6⟩ := valE_ok hv
   rw [h] at a4 a5 a6
   rw [if_pos rfl] at a4
   have hD0 : D ≠ [] := fun e => a1 (by rw [e]; rfl)
   have hl : 0 < D.length := List.length_pos_iff.2 hD0
   have hg : (gB D 0).toNat ≠ 48 := fun h3 => by
    by_cases h4 : 1 < D.length
    ·
     exact a2 h4 h3
    ·
     match D, hl, h4, h3, a3 with
     | [x], _, _, h3, h48 => exact h48 ⟨rfl, by rw [(u48 x).2 h3]⟩
     | x :: y :: r, _, h4, _, _ => exact h4 (by simp)
   have hp := dv_pos hdg hl hg
   have hmem : ∀ c ∈ D, isD c = true := fun c hc => isD_t (dv_mem hdg c hc)
   refine ⟨?_, a5, a6⟩
   rw [drop_gB s p hb.1, hr]
   unfold numT
   rw [if_pos (by omega), show v.natAbs = dv D by omega, digs_of D hD0 hmem a2, u8_of (by decide) hb.2]
   rfl
 ·
  have e1 : numB s p = p := if_neg hb
  unfold numP at h
  unfold numE
  rw [e1] at h ⊢
  rw [numR_d _ rfl (run_digits s p)] at h
  obtain ⟨D, hD⟩ : ∃ D, D = (s.take (runE isD s p)).drop p := ⟨_, rfl⟩
  have hr := run_bwd isD s p
  have hdg := run_digits s p
  rw [← hD] at h hr hdg
  cases hv : (valE false D l m).2 with
  | false => rw [hv] at h; cases h
  | true =>
   rw [hv, if_pos rfl] at h
   injection h with h
   obtain ⟨a1, a2, a3, a4, a5, a6⟩ := valE_ok hv
   rw [h] at a4 a5 a6
   rw [if_neg (by simp)] at a4
   have hD0 : D ≠ [] := fun e => a1 (by rw [e]; rfl)
   have hmem : ∀ c ∈ D, isD c = true := fun c hc => isD_t (dv_mem hdg c hc)
   refine ⟨?_, a5, a6⟩
   rw [hr]
   unfold numT
   rw [if_neg (by omega), show v.toNat = dv D by omega, digs_of D hD0 hmem a2]
theorem num_fwd {s r : L} {p : Nat} {l m v : Int} (h : s.drop p = numT v ++ r) (hr : Stops isD r) (hl : l ≤ v) (hm : v ≤ m) (hv : -9223372036854775808 ≤ v ∧ v ≤ 9223372036854775807) : numE s p = p + (numT v).length ∧ numP s p l m = some v ∧ s.drop (numE s p) = r := by
 unfold numT at h ⊢
 by_cases h0 : v < 0
 ·
  rw [if_pos h0] at h ⊢
  obtain ⟨n, hn⟩ : ∃ n, n = v.natAbs := ⟨_, rfl⟩
  rw [← hn] at h ⊢
  rw [List.cons_append] at h
  obtain ⟨a1, a2, a3⟩ := isAt_cons (c := 45) h rfl
  have e1 : numB s p = p + 1 := if_pos a1
  obtain ⟨b1, b2, b3⟩ := run_fwd a2 (digs_dg n) hr
  have hdl := digs_len 18 n (by omega)
  have hdp := digs_pos n
  have hdh := digs_head n (by omega)
  unfold numP numE
  rw [e1]
  refine ⟨by rw [b2]; simp only [List.length_cons]; omega, ?_, b3⟩
  rw [numR_m (digs n) (gB s p) a1.2 b1 (by rw [run_minus a1.1, b1]) (idx_of (digs_dg n))]
  rw [valE_m (fun h => by rcases h with h | h | h <;> omega) (fun e => by rw [e] at hdh; exact hdh rfl) (by rw [dv_digs]; omega), dv_digs]
  simp only
  rw [if_pos (decide_eq_true (by omega))]
  congr 1
  omega
 ·
  rw [if_neg h0] at h ⊢
  obtain ⟨n, hn⟩ : ∃ n, n = v.toNat := ⟨_, rfl⟩
  rw [← hn] at h ⊢
  have hdp := digs_pos n
  have hd0 := digs_dg n (gB (digs n) 0) (List.mem_of_getElem? (gB_some _ 0 hdp))
  have hnb : ¬ (p < s.length ∧ (gB s p).toNat = 45) := fun k => by
   have h1 := drop_gB s p k.1
   have h2 := drop_gB (digs n) 0 hdp
   rw [List.drop_zero] at h2
   rw [h1, h2, List.cons_append] at h
   injection h with h3 h4
   rw [← h3] at hd0
   have := isD_in hd0
   omega
  have e1 : numB s p = p := if_neg hnb
  obtain ⟨b1, b2, b3⟩ := run_fwd h (digs_dg n) hr
  have hdl := digs_len 18 n (by omega)
  unfold numP numE
  rw [e1]
  refine ⟨b2, ?_, b3⟩
  rw [numR_d (digs n) b1 (idx_of (digs_dg n))]
  rw [valE_d (fun h => by
   rcases h with h | h | h
   ·
    omega
   ·
    omega
   ·
    by_cases hz : n = 0
    ·
     subst hz
     rw [digs_lo (by omega)] at h
     simp at h
    ·
     exact digs_head n (by omega) h.2) (by rw [dv_digs]; omega), dv_digs]
  simp only
  rw [if_pos (decide_eq_true (by omega))]
  congr 1
  omega
end Go.Proofs.YtdhonbahpcmmnaaDoor.Line
