/- Plain: what is printed is read as it was, and what is read is printed as that line. -/
import Derived.Test.YtdhonbahpcmmnaaDoorLineF
set_option maxHeartbeats 400000
set_option linter.unusedVariables false
set_option linter.unusedSimpArgs false
namespace Go.Proofs.YtdhonbahpcmmnaaDoor.Line
open Go Go.RowKit Go.Proofs.YtdhonbahpcmmnaaDoor Go.Proofs.YtdhonbahpcmmnaaDoor.Eng Go.Proofs.YtdhonbahpcmmnaaDoorW.PrintWords
theorem head_eq (e : Ev) : headT e = e.name ++ tagsT e.tags := rfl
theorem may_parts {e : Ev} (h : mayE e = true) : (∀ t ∈ e.tags, isWord t.1 = true ∧ isWord t.2 = true) ∧ isWord e.name = true ∧ e.tags.length ≤ 6 ∧ (1 ≤ e.kind ∧ e.kind ≤ 3) ∧ 0 ≤ e.time ∧ e.time ≤ 1099511627776 := by
 unfold mayE at h
 simp only [Bool.and_eq_true, decide_eq_true_eq] at h
 refine ⟨fun t ht => ?_, h.1.1.1.1.1.2, h.1.1.1.1.2, ⟨h.1.1.1.2, h.1.1.2⟩, h.1.2, h.2⟩
 have := List.all_eq_true.1 h.1.1.1.1.1.1 t ht
 simpa only [Bool.and_eq_true] using this
theorem may_of {e : Ev} (h1 : ∀ t ∈ e.tags, isWord t.1 = true ∧ isWord t.2 = true) (h2 : isWord e.name = true) (h3 : e.tags.length ≤ 6) (h4 : 1 ≤ e.kind ∧ e.kind ≤ 3) (h5 : 0 ≤ e.time ∧ e.time ≤ 1099511627776) : mayE e = true := by
 unfold mayE
 simp only [Bool.and_eq_true, decide_eq_true_eq]
 refine ⟨⟨⟨⟨⟨⟨List.all_eq_true.2 fun t ht => ?_, h2⟩, h3⟩, h4.1⟩, h4.2⟩, h5.1⟩, h5.2⟩
 simp only [Bool.and_eq_true]
 exact h1 t ht
theorem letter_fwd {k : Int} (h : 1 ≤ k ∧ k ≤ 3) : ∃ c, letter k = [c] ∧ kindP c = k := by
 have : k = 1 ∨ k = 2 ∨ k = 3 := by omega
 rcases this with rfl | rfl | rfl
 ·
  exact ⟨99, rfl, rfl⟩
 ·
  exact ⟨103, rfl, rfl⟩
 ·
  exact ⟨104, rfl, rfl⟩
theorem letter_bwd {c : UInt8} (h : kindP c ≠ 0) : letter (kindP c) = [c] ∧ 1 ≤ kindP c ∧ kindP c ≤ 3 := by
 unfold kindP at h ⊢
 by_cases h1 : c.toNat = 99
 ·
  rw [if_pos h1]; exact ⟨by rw [u8_of (by decide) h1]; rfl, by decide, by decide⟩
 ·
  rw [if_neg h1] at h ⊢
  by_cases h2 : c.toNat = 103
  ·
   rw [if_pos h2]; exact ⟨by rw [u8_of (by decide) h2]; rfl, by decide, by decide⟩
  ·
   rw [if_neg h2] at h ⊢
   by_cases h3 : c.toNat = 104
   ·
    rw [if_pos h3]; exact ⟨by rw [u8_of (by decide) h3]; rfl, by decide, by decide⟩
   ·
    rw [if_neg h3] at h; exact absurd rfl h
theorem parse_fwd {e : Ev} (hm : mayE e = true) (hv : -9223372036854775808 ≤ e.value ∧ e.value ≤ 9223372036854775807) : parseP (printT e) = .inl e := by
 obtain ⟨h1, h2, h3, h4, h5, h6⟩ := may_parts hm
 obtain ⟨s, hs⟩ : ∃ s, s = printT e := ⟨_, rfl⟩
 obtain ⟨R, hR⟩ : ∃ R, R = letter e.kind ++ 32 :: (numT e.value ++ 32 :: numT e.time) := ⟨_, rfl⟩
 have hd0 : s.drop 0 = e.name ++ (tagsT e.tags ++ 32 :: R) := by
  rw [hs, hR, List.drop_zero]
  unfold printT
  rw [head_eq, List.append_assoc]
 rw [← hs]
 have hst : Stops inW (tagsT e.tags ++ 32 :: R) := by
  cases e.tags with
  | nil => exact stops_c (by rfl)
  | cons u us => rw [tagsT_cons, List.cons_append]; exact stops_c (by rfl)
 obtain ⟨a1, a2, a3⟩ := part_word hd0 h2 hst
 obtain ⟨b1, b2⟩ := tags_fwd (c := 32) (by rfl) (by decide) e.tags 6 _ [] a3 h1 h3
 rw [pp_tags (by rw [a1]; exact h2), b1]
 show restP s ([] ++ e.tags) _ = _
 rw [List.nil_append]
 obtain ⟨q, hq⟩ : ∃ q, q = runE inW s 0 + (tagsT e.tags).length := ⟨_, rfl⟩
 rw [← hq] at b2 ⊢
 obtain ⟨c1, c2, _⟩ := isAt_cons (c := 32) b2 rfl
 obtain ⟨x, hx, hk⟩ := letter_fwd h4
 rw [hR, hx, List.singleton_append] at c2
 obtain ⟨d1, d2, d3⟩ := isAt_cons (c := x.toNat) c2 rfl
 obtain ⟨e1, e2, _⟩ := isAt_cons (c := 32) d2 rfl
 obtain ⟨f1, f2, f3⟩ := num_fwd e2 (stops_c (by rfl)) hv.1 hv.2 hv
 obtain ⟨g1, g2, _⟩ := isAt_cons (c := 32) f3 rfl
 obtain ⟨i1, i2, i3⟩ := num_fwd (s := s) (r := []) (by rw [g2, List.append_nil]) stops_nil h5 h6 (by omega)
 rw [rp_5 c1 (by have := d1.1; omega) (by rw [d3, hk]; omega) e1, f2, vp_2 g1, i2, tp_2, a1, d3, hk]
 have := congrArg List.length i3
 rw [List.length_drop] at this
 simp at this
 omega
theorem parse_bwd {s : L} {y : Ev} (h : parseP s = .inl y) : mayE y = true ∧ printT y = s ∧ -9223372036854775808 ≤ y.value ∧ y.value ≤ 9223372036854775807 := by
 cases h0 : isWord (part s 0) with
 | false => rw [pp_name h0] at h; cases h
 | true =>
  rw [pp_tags h0] at h
  cases h1 : tagsP s 6 (runE inW s 0) [] with
  | inr p => rw [h1] at h; cases h
  | inl x =>
   obtain ⟨ts, p⟩ := x
   rw [h1] at h
   obtain ⟨ts', t1, t2, t3, t4⟩ := tags_bwd _ _ _ _ _ h1
   rw [List.nil_append] at t1
   subst t1
   change restP s ts p = _ at h
   by_cases h2 : isAt s p 32
   ·
    by_cases h3 : s.length ≤ p + 1
    ·
     rw [rp_2 h2 h3] at h; cases h
    ·
     by_cases h4 : kindP (gB s (p + 1)) = 0
     ·
      rw [rp_3 h2 h3 h4] at h; cases h
     ·
      by_cases h5 : isAt s (p + 2) 32
      ·
       rw [rp_5 h2 h3 h4 h5] at h
       cases h6 : numP s (p + 3) (-9223372036854775808) 9223372036854775807 with
       | none => rw [h6] at h; cases h
       | some v =>
        rw [h6] at h
        by_cases h7 : isAt s (numE s (p + 3)) 32
        ·
         rw [vp_2 h7] at h
         cases h8 : numP s (numE s (p + 3) + 1) 0 1099511627776 with
         | none => rw [h8] at h; cases h
         | some t =>
          rw [h8] at h
          by_cases h9 : numE s (numE s (p + 3) + 1) < s.length
          ·
           rw [tp_1 h9] at h; cases h
          ·
           rw [tp_2 h9] at h
           injection h with h
           subst h
           obtain ⟨v1, v2, v3⟩ := num_bwd h6
           obtain ⟨w1, w2, w3⟩ := num_bwd h8
           obtain ⟨l1, l2, l3⟩ := letter_bwd h4
           refine ⟨may_of t3 h0 t4 ⟨l2, l3⟩ ⟨w2, w3⟩, ?_, v2, v3⟩
           have e1 : s = part s 0 ++ s.drop (runE inW s 0) := run_bwd inW s 0
           rw [t2, (isAt_drop h2).1, drop_gB s (p + 1) (by omega), (isAt_drop h5).1, v1, (isAt_drop h7).1, w1, List.drop_of_length_le (Nat.le_of_not_lt h9), u8_of (by decide) h2.2, u8_of (by decide) h5.2, u8_of (by decide) h7.2] at e1
           refine Eq.trans ?_ e1.symm
           unfold printT
           rw [head_eq]
           simp only [l1, List.append_assoc, List.append_nil, List.singleton_append, List.cons_append, List.nil_append]
           rfl
        ·
         rw [vp_1 h7] at h; cases h
      ·
       rw [rp_4 h2 h3 h4 h5] at h; cases h
   ·
    rw [rp_1 h2] at h; cases h
theorem tagsT_len {ts : List (L × L)} (h : ∀ t ∈ ts, isWord t.1 = true ∧ isWord t.2 = true) : (tagsT ts).length ≤ 34 * ts.length := by
 induction ts with
 | nil => simp [tagsT]
 | cons t ts ih =>
  have h1 := ih (fun u hu => h u (by simp [hu]))
  have h2 := word_len (h t (by simp)).1
  have h3 := word_len (h t (by simp)).2
  rw [tagsT_cons]
  simp only [List.length_cons, List.length_append]
  omega
theorem print_len {e : Ev} (hm : mayE e = true) (hv : -9223372036854775808 ≤ e.value ∧ e.value ≤ 9223372036854775807) : (printT e).length ≤ 300 := by
 obtain ⟨h1, h2, h3, h4, h5, h6⟩ := may_parts hm
 have a1 := tagsT_len h1
 have a2 := word_len h2
 have a3 := num_len e.value hv
 have a4 := num_len e.time (by omega)
 obtain ⟨c, hc, _⟩ := letter_fwd h4
 unfold printT
 rw [head_eq, hc]
 simp only [List.length_append, List.length_cons, List.length_nil]
 omega
end Go.Proofs.YtdhonbahpcmmnaaDoor.Line
