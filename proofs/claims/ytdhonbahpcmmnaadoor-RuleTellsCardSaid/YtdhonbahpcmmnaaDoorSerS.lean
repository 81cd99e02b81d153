/- Layer 5's walks: the sort of tags. -/
import Derived.Test.YtdhonbahpcmmnaaDoorSerPure
set_option linter.unusedVariables false
set_option linter.unusedSimpArgs false
namespace Go.Proofs.YtdhonbahpcmmnaaDoor.Line
open Go Go.RowKit Go.Proofs.YtdhonbahpcmmnaaDoor Go.Proofs.YtdhonbahpcmmnaaDoor.Eng Go.Proofs.YtdhonbahpcmmnaaDoorW.PrintWords
open Go.Proofs
def cmpS (a b : L) : Int := if ltS a b = true then -1 else if ltS b a = true then 1 else 0
theorem cmpS_neg {a b : L} : cmpS a b < 0 ↔ ltS a b = true := by
 unfold cmpS
 cases h : ltS a b with
 | true => simp
 | false =>
  cases h2 : ltS b a with
  | true => simp
  | false => simp
theorem cmpS_not {a b : L} (h : ¬ cmpS a b < 0) : ltS a b = false := by
 cases h2 : ltS a b with
 | true => exact absurd (cmpS_neg.2 h2) h
 | false => rfl
theorem asc_one (q : Tgs) : Asc (q.take 1) := by
 cases q with
 | nil => exact List.Pairwise.nil
 | cons a q => simp [Asc]
theorem gT_mid {A B : Tgs} {x : L × L} {j : Nat} (h : A.length = j) : gT (A ++ x :: B) j = x := by
 unfold gT
 rw [List.getD_eq_getElem?_getD, List.getElem?_append_right (by omega), h, Nat.sub_self]
 rfl
theorem set_swap : ∀ (A B : Tgs) (x y : L × L), ((A ++ y :: x :: B).set (A.length + 1) y).set A.length x = A ++ x :: y :: B
 | [], B, x, y => rfl
 | a :: A, B, x, y => by
  simp only [List.cons_append, List.length_cons, List.set_cons_succ, set_swap A B x y]
variable {s q0 p q : Tgs} {i j n : Nat}
theorem split_s (h : s.length = i) (hj : 0 < j) (hji : j ≤ i) : ∃ y, s.take j = s.take (j - 1) ++ [y] ∧ s.drop (j - 1) = y :: s.drop j ∧ (s.take (j - 1)).length = j - 1 := by
 have hlt : j - 1 < s.length := by omega
 refine ⟨s[j - 1], ?_, ?_, by rw [List.length_take]; omega⟩
 ·
  have e := List.take_add_one (l := s) (i := j - 1)
  rw [show j - 1 + 1 = j by omega, List.getElem?_eq_getElem hlt] at e
  exact e
 ·
  rw [List.drop_eq_getElem_cons hlt, show j - 1 + 1 = j by omega]
theorem ins_start (h : s.length = i) (hq : q = s ++ q0.drop i) (hi : i < q0.length) : q = s.take i ++ gT q0 i :: (s.drop i ++ q0.drop (i + 1)) := by
 rw [hq, List.take_of_length_le (by omega), show s.drop i = [] from List.drop_of_length_le (by omega), List.nil_append, List.drop_eq_getElem_cons hi]
 have : gT q0 i = q0[i] := by
  unfold gT
  rw [List.getD_eq_getElem?_getD, List.getElem?_eq_getElem hi]
  rfl
 rw [this]
theorem ins_step (h : s.length = i) (hq : p = s.take j ++ gT q0 i :: (s.drop j ++ q0.drop (i + 1))) (hj : 0 < j ∧ j ≤ i) : (p.set j (gT p (j - 1))).set (j - 1) (gT p j) = s.take (j - 1) ++ gT q0 i :: (s.drop (j - 1) ++ q0.drop (i + 1)) := by
 obtain ⟨y, h1, h2, h3⟩ := split_s h hj.1 hj.2
 rw [h1, List.append_assoc, List.singleton_append] at hq
 have e1 : gT p (j - 1) = y := by rw [hq]; exact gT_mid h3
 have e2 : gT p j = gT q0 i := by
  rw [hq, ← List.singleton_append (x := y), ← List.append_assoc]
  exact gT_mid (by rw [List.length_append, h3]; simp; omega)
 have := set_swap (s.take (j - 1)) (s.drop j ++ q0.drop (i + 1)) (gT q0 i) y
 rw [h3, show j - 1 + 1 = j by omega] at this
 rw [e1, e2, h2, List.cons_append, hq]
 exact this
theorem ins_at (h : s.length = i) (hq : p = s.take j ++ gT q0 i :: (s.drop j ++ q0.drop (i + 1))) (hj : 0 < j ∧ j ≤ i) : ∃ y, s.take j = s.take (j - 1) ++ [y] ∧ s.drop (j - 1) = y :: s.drop j ∧ gT p (j - 1) = y ∧ gT p j = gT q0 i := by
 obtain ⟨y, h1, h2, h3⟩ := split_s h hj.1 hj.2
 refine ⟨y, h1, h2, ?_, ?_⟩
 ·
  rw [hq, h1, List.append_assoc, List.singleton_append]
  exact gT_mid h3
 ·
  rw [hq]
  exact gT_mid (by rw [List.length_take]; omega)
theorem ins_gt (h : s.length = i) (hq : p = s.take j ++ gT q0 i :: (s.drop j ++ q0.drop (i + 1))) (hj : 0 < j ∧ j ≤ i) (hg : ∀ z ∈ s.drop j, ltS (gT q0 i).1 z.1 = true) (hl : ltS (gT p j).1 (gT p (j - 1)).1 = true) : ∀ z ∈ s.drop (j - 1), ltS (gT q0 i).1 z.1 = true := by
 obtain ⟨y, h1, h2, h3, h4⟩ := ins_at h hq hj
 rw [h3, h4] at hl
 rw [h2]
 intro z hz
 rcases List.mem_cons.1 hz with rfl | hz
 ·
  exact hl
 ·
  exact hg z hz
theorem ins_no (h : s.length = i) (hq : p = s.take j ++ gT q0 i :: (s.drop j ++ q0.drop (i + 1))) (hj : 0 < j ∧ j ≤ i) (hl : ltS (gT p j).1 (gT p (j - 1)).1 = false) : ∃ y, s.take j = s.take (j - 1) ++ [y] ∧ ltS (gT q0 i).1 y.1 = false := by
 obtain ⟨y, h1, h2, h3, h4⟩ := ins_at h hq hj
 rw [h3, h4] at hl
 exact ⟨y, h1, hl⟩
theorem ins_done (h : s.length = i) (hq : p = s.take j ++ gT q0 i :: (s.drop j ++ q0.drop (i + 1))) (hps : s.Perm (q0.take i)) (has : Asc s) (hg : ∀ z ∈ s.drop j, ltS (gT q0 i).1 z.1 = true)
  (hst : j = 0 ∨ ∃ y, s.take j = s.take (j - 1) ++ [y] ∧ ltS (gT q0 i).1 y.1 = false) (hi : i < q0.length) : ∃ s', p = s' ++ q0.drop (i + 1) ∧ s'.Perm (q0.take (i + 1)) ∧ Asc s' := by
 refine ⟨s.take j ++ gT q0 i :: s.drop j, by rw [hq]; simp, ?_, ?_⟩
 ·
  have e : q0.take (i + 1) = q0.take i ++ [gT q0 i] := by
   rw [List.take_add_one, gT_some q0 i hi]
   rfl
  rw [e]
  refine List.perm_middle.trans ?_
  rw [List.take_append_drop]
  exact ((hps.cons _).trans (List.perm_append_comm (l₁ := [gT q0 i]) (l₂ := q0.take i)))
 ·
  have hs2 : Asc (s.take j ++ s.drop j) := by rw [List.take_append_drop]; exact has
  obtain ⟨a1, a2, a3⟩ := List.pairwise_append.1 hs2
  refine List.pairwise_append.2 ⟨a1, List.pairwise_cons.2 ⟨fun z hz => ltS_asymm (hg z hz), a2⟩, fun z hz u hu => ?_⟩
  rcases List.mem_cons.1 hu with rfl | hu
  ·
   rcases hst with rfl | ⟨y, hy, hl⟩
   ·
    simp at hz
   ·
    rw [hy] at hz a1
    rcases List.mem_append.1 hz with hz2 | hz2
    ·
     have hzy := (List.pairwise_append.1 a1).2.2 z hz2 y (by simp)
     rw [Bool.eq_false_iff]
     intro hxz
     by_cases hyx : ltS y.1 (gT q0 i).1 = true
     ·
      rw [ltS_trans _ _ _ hyx hxz] at hzy
      cases hzy
     ·
      rw [ltS_tri _ _ (by simpa using hyx) hl] at hzy
      rw [hzy] at hxz
      cases hxz
    ·
     rw [List.mem_singleton.1 hz2]
     exact hl
  ·
   exact a3 z hz u hu
set_option maxRecDepth 100000 in
set_option maxHeartbeats 400000 in
theorem nan_s (a : L) (w : World) :
  Calls Tryd.prog 88 #[.string (str a)] w fun e w' => e = .returned (.bool false) ∧ Fr [] w w' := by
 have HA := Fr.refl [] w
 refine enter (N := 6) Tryd.func88 (c := _) rfl (by kernel_rfl) (by kernel_rfl) (e := [(0, .string (str a))]) (by kernel_rfl) ?_
 refine WE.seq ?_
 refine WE.region ?_
 refine WO.run 1 0 [(2, .bool false)] (by kernel_rfl) (by kernel_rfl) ?_
 refine WO.done (by kernel_rfl) ?_
 refine WQ.keep [0, 2] (e' := [(0, .string (str a)), (2, .bool false)]) (by kernel_rfl) ?_
 refine WQ.thenN ?_
 refine WE.seq ?_
 refine WE.region ?_
 refine WO.run 2 0 [(4, .string (str a)), (3, .string (str a))] (by kernel_rfl) (by kernel_rfl) ?_
 refine WO.one (SQ.F 2 (by kernel_rfl)) 5 (.bool (!((str a).toList == (str a).toList))) (by kernel_rfl) ?_
 refine WO.top (v' := .bool (!decide ((str a) = (str a)))) (congrArg Value.bool (congrArg not (streq (str a) (str a)))) ?_
 refine WO.run 1 3 [(2, .bool (!decide ((str a) = (str a))))] (by kernel_rfl) (by kernel_rfl) ?_
 refine WO.done (by kernel_rfl) ?_
 refine WQ.keep [0, 2] (e' := [(0, .string (str a)), (2, .bool (!decide ((str a) = (str a))))]) (by kernel_rfl) ?_
 refine WQ.thenN ?_
 refine WE.ret ?_
 refine WQ.ret (v := .bool (!decide ((str a) = (str a)))) (by kernel_rfl) ?_
 exact ⟨by simp, HA⟩
set_option maxRecDepth 100000 in
set_option maxHeartbeats 400000 in
theorem cmp_s (a b : L) (w : World) :
  Calls Tryd.prog 71 #[.string (str a), .string (str b)] w fun e w' => e = .returned (.int .i64 (cmpS a b)) ∧ Fr [] w w' := by
 have HA := Fr.refl [] w
 refine enter (N := 20) Tryd.func71 (c := _) rfl (by kernel_rfl) (by kernel_rfl) (e := [(0, .string (str a)), (1, .string (str b))]) (by kernel_rfl) ?_
 refine WE.seq ?_
 refine WE.region ?_
 refine WO.run 1 0 [(4, .int .i64 0)] (by kernel_rfl) (by kernel_rfl) ?_
 refine WO.done (by kernel_rfl) ?_
 refine WQ.keep [0, 1, 4] (e' := [(0, .string (str a)), (1, .string (str b)), (4, .int .i64 0)]) (by kernel_rfl) ?_
 refine WQ.thenN ?_
 refine WE.seq ?_
 refine WE.region ?_
 refine WO.run 1 0 [(7, .string (str a))] (by kernel_rfl) (by kernel_rfl) ?_
 refine WO.call (SQ.E 1 (by kernel_rfl)) 8 (by kernel_rfl) (nan_s a _) ?_
 rintro _ w1 ⟨rfl, F2⟩
 refine ⟨_, rfl, trivial, ?_⟩
 have HA := Fr.step0 HA F2
 refine WO.run 1 2 [(5, .bool false)] (by kernel_rfl) (by kernel_rfl) ?_
 refine WO.done (by kernel_rfl) ?_
 refine WQ.keep [0, 1, 4, 5] (e' := [(0, .string (str a)), (1, .string (str b)), (4, .int .i64 0), (5, .bool false)]) (by kernel_rfl) ?_
 refine WQ.thenN ?_
 refine WE.seq ?_
 refine WE.region ?_
 refine WO.run 1 0 [(9, .string (str b))] (by kernel_rfl) (by kernel_rfl) ?_
 refine WO.call (SQ.E 1 (by kernel_rfl)) 10 (by kernel_rfl) (nan_s b _) ?_
 rintro _ w3 ⟨rfl, F4⟩
 refine ⟨_, rfl, trivial, ?_⟩
 have HA := Fr.step0 HA F4
 refine WO.run 1 2 [(6, .bool false)] (by kernel_rfl) (by kernel_rfl) ?_
 refine WO.done (by kernel_rfl) ?_
 refine WQ.keep [0, 1, 4, 5, 6] (e' := [(0, .string (str a)), (1, .string (str b)), (4, .int .i64 0), (5, .bool false), (6, .bool false)]) (by kernel_rfl) ?_
 refine WQ.thenN ?_
 refine WE.seq ?_
 refine WE.seq ?_
 refine WE.region ?_
 refine WO.run 1 0 [(11, .bool false)] (by kernel_rfl) (by kernel_rfl) ?_
 refine WO.done (by kernel_rfl) ?_
 refine WQ.keep [0, 1, 4, 6, 11] (e' := [(0, .string (str a)), (1, .string (str b)), (4, .int .i64 0), (6, .bool false), (11, .bool false)]) (by kernel_rfl) ?_
 refine WQ.thenN ?_
 refine WE.condF (by kernel_rfl) ?_
 refine WE.skip ?_
 refine WQ.thenN ?_
 refine WE.seq ?_
 refine WE.seq ?_
 refine WE.region ?_
 refine WO.run 1 0 [(13, .bool false)] (by kernel_rfl) (by kernel_rfl) ?_
 refine WO.done (by kernel_rfl) ?_
 refine WQ.keep [0, 1, 4, 13] (e' := [(0, .string (str a)), (1, .string (str b)), (4, .int .i64 0), (13, .bool false)]) (by kernel_rfl) ?_
 refine WQ.thenN ?_
 refine WE.condF (by kernel_rfl) ?_
 refine WE.skip ?_
 refine WQ.thenN ?_
 refine WE.seq ?_
 refine WE.seq ?_
 refine WE.region ?_
 refine WO.run 2 0 [(15, .string (str b)), (14, .string (str a))] (by kernel_rfl) (by kernel_rfl) ?_
 refine WO.one (SQ.F 2 (by kernel_rfl)) 16 (.bool (Go.Op.bytesLess ((str a)).toList ((str b)).toList)) (by kernel_rfl) ?_
 refine WO.top (v' := .bool (ltS a b)) (congrArg Value.bool (lss_str a b)) ?_
 refine WO.topB (ltS a b) ?_ ?_
 ·
  intro h5
  refine WO.done (by kernel_rfl) ?_
  refine WQ.keep [0, 1, 4, 16] (e' := [(0, .string (str a)), (1, .string (str b)), (4, .int .i64 0), (16, .bool true)]) (by kernel_rfl) ?_
  refine WQ.thenN ?_
  refine WE.condT (by kernel_rfl) ?_
  refine WE.seq ?_
  refine WE.region ?_
  refine WO.run 1 0 [(4, .int .i64 (-1))] (by kernel_rfl) (by kernel_rfl) ?_
  refine WO.done (by kernel_rfl) ?_
  refine WQ.keep [0, 1, 4] (e' := [(0, .string (str a)), (1, .string (str b)), (4, .int .i64 (-1))]) (by kernel_rfl) ?_
  refine WQ.thenN ?_
  refine WE.ret ?_
  refine WQ.thenR ?_
  refine WQ.ret (v := .int .i64 (-1)) (by kernel_rfl) ?_
  exact ⟨congrArg (fun z => Ending.returned (Value.int .i64 z)) (by simp [cmpS, h5]), HA⟩
 intro h5
 refine WO.done (by kernel_rfl) ?_
 refine WQ.keep [0, 1, 4, 16] (e' := [(0, .string (str a)), (1, .string (str b)), (4, .int .i64 0), (16, .bool false)]) (by kernel_rfl) ?_
 refine WQ.thenN ?_
 refine WE.condF (by kernel_rfl) ?_
 refine WE.skip ?_
 refine WQ.thenN ?_
 refine WE.seq ?_
 refine WE.seq ?_
 refine WE.region ?_
 refine WO.run 2 0 [(18, .string (str b)), (17, .string (str a))] (by kernel_rfl) (by kernel_rfl) ?_
 refine WO.one (SQ.F 2 (by kernel_rfl)) 19 (.bool (!(Go.Op.bytesLess ((str a)).toList ((str b)).toList || ((str a)).toList == ((str b)).toList))) (by kernel_rfl) ?_
 refine WO.top (v' := .bool (ltS b a)) (congrArg Value.bool (gtr_str a b)) ?_
 refine WO.topB (ltS b a) ?_ ?_
 ·
  intro h6
  refine WO.done (by kernel_rfl) ?_
  refine WQ.keep [4, 19] (e' := [(4, .int .i64 0), (19, .bool true)]) (by kernel_rfl) ?_
  refine WQ.thenN ?_
  refine WE.condT (by kernel_rfl) ?_
  refine WE.seq ?_
  refine WE.region ?_
  refine WO.run 1 0 [(4, .int .i64 1)] (by kernel_rfl) (by kernel_rfl) ?_
  refine WO.done (by kernel_rfl) ?_
  refine WQ.keep [4] (e' := [(4, .int .i64 1)]) (by kernel_rfl) ?_
  refine WQ.thenN ?_
  refine WE.ret ?_
  refine WQ.thenR ?_
  refine WQ.ret (v := .int .i64 1) (by kernel_rfl) ?_
  exact ⟨congrArg (fun z => Ending.returned (Value.int .i64 z)) (by simp [cmpS, h5, h6]), HA⟩
 intro h6
 refine WO.done (by kernel_rfl) ?_
 refine WQ.keep [4, 19] (e' := [(4, .int .i64 0), (19, .bool false)]) (by kernel_rfl) ?_
 refine WQ.thenN ?_
 refine WE.condF (by kernel_rfl) ?_
 refine WE.skip ?_
 refine WQ.thenN ?_
 refine WE.seq ?_
 refine WE.region ?_
 refine WO.run 1 0 [(4, .int .i64 0)] (by kernel_rfl) (by kernel_rfl) ?_
 refine WO.done (by kernel_rfl) ?_
 refine WQ.keep [4] (e' := [(4, .int .i64 0)]) (by kernel_rfl) ?_
 refine WQ.thenN ?_
 refine WE.ret ?_
 refine WQ.ret (v := .int .i64 0) (by kernel_rfl) ?_
 exact ⟨congrArg (fun z => Ending.returned (Value.int .i64 z)) (by simp [cmpS, h5, h6]), HA⟩
set_option maxRecDepth 100000 in
set_option maxHeartbeats 400000 in
theorem less_t (a b : L × L) (w : World) :
  Calls Tryd.prog 70 #[.agg #[.string (str a.1), .string (str a.2)], .agg #[.string (str b.1), .string (str b.2)]] w fun e w' => e = .returned (.int .i64 (cmpS a.1 b.1)) ∧ Fr [] w w' := by
 have HA := Fr.refl [] w
 refine enter (N := 10) Tryd.func70 (c := _) rfl (by kernel_rfl) (by kernel_rfl) (e := [(0, .agg #[.string (str a.1), .string (str a.2)]), (1, .agg #[.string (str b.1), .string (str b.2)])]) (by kernel_rfl) ?_
 refine WE.seq ?_
 refine WE.region ?_
 refine WO.bx (SQ.E 0 (by kernel_rfl)) 2 #[.string (str a.1), .string (str a.2)] 53 (fun g => .pointer (some ⟨g, 0, none⟩)) (by kernel_rfl) (fun _ _ => trivial) ?_
 intro g1 w2 HB4 F3 le5 _
 have ge_HA_g1 := Nat.le_trans HA.size le5
 have HA := Fr.step0 HA F3
 refine WO.bx (SQ.E 1 (by kernel_rfl)) 3 #[.string (str b.1), .string (str b.2)] 53 (fun g => .pointer (some ⟨g, 0, none⟩)) (by kernel_rfl) (fun _ _ => trivial) ?_
 intro g6 w7 HB9 F8 le10 _
 have ne_g1_g6 : g1 ≠ g6 := Nat.ne_of_lt (Nat.lt_of_lt_of_le HB4.lt le10)
 have ge_HA_g6 := Nat.le_trans HA.size le10
 have HB4 := Blk.keep HB4 F8 (nin0 _)
 have HA := Fr.step0 HA F8
 refine WO.run 1 2 [(4, .int .i64 0)] (by kernel_rfl) (by kernel_rfl) ?_
 refine WO.done (by kernel_rfl) ?_
 refine WQ.keep [2, 3, 4] (e' := [(2, .pointer (some ⟨g1, 0, none⟩)), (3, .pointer (some ⟨g6, 0, none⟩)), (4, .int .i64 0)]) (by kernel_rfl) ?_
 refine WQ.thenN ?_
 refine WE.seq ?_
 refine WE.region ?_
 refine WO.run 1 0 [(5, .pointer (some ⟨g1, 0, none⟩))] (by kernel_rfl) (by kernel_rfl) ?_
 refine WO.ld (SQ.S 1 (by kernel_rfl)) 6 (.string (str a.1)) (by kernel_rfl) (same (HB4.at 0 (by kernel_rfl))) ?_
 refine WO.run 1 2 [(7, .pointer (some ⟨g6, 0, none⟩))] (by kernel_rfl) (by kernel_rfl) ?_
 refine WO.ld (SQ.S 3 (by kernel_rfl)) 8 (.string (str b.1)) (by kernel_rfl) (same (HB9.at 0 (by kernel_rfl))) ?_
 refine WO.call (SQ.E 4 (by kernel_rfl)) 9 (by kernel_rfl) (cmp_s a.1 b.1 _) ?_
 rintro _ w11 ⟨rfl, F12⟩
 refine ⟨_, rfl, trivial, ?_⟩
 have HB4 := Blk.keep HB4 F12 (nin0 _)
 have HB9 := Blk.keep HB9 F12 (nin0 _)
 have HA := Fr.step0 HA F12
 refine WO.run 1 5 [(4, .int .i64 (cmpS a.1 b.1))] (by kernel_rfl) (by kernel_rfl) ?_
 refine WO.done (by kernel_rfl) ?_
 refine WQ.keep [4] (e' := [(4, .int .i64 (cmpS a.1 b.1))]) (by kernel_rfl) ?_
 refine WQ.thenN ?_
 refine WE.ret ?_
 refine WQ.ret (v := .int .i64 (cmpS a.1 b.1)) (by kernel_rfl) ?_
 exact ⟨rfl, HA⟩
set_option maxRecDepth 100000 in
set_option maxHeartbeats 1000000 in
theorem isort_t (gb n cap : Nat) (q0 : List (L × L)) (w : World) (HR : RowB w gb 53 2 cap (q0.map cT)) (hn : q0.length = n) (h0 : 0 < n) (hm : n ≤ 1000000) :
  Calls Tryd.prog 101 #[.slice (some ⟨gb, 0, none⟩) n cap, .int .i64 0, .int .i64 (n : Int), .func (.func 70) #[] #[]] w fun e w' => e = .returned (.tuple #[]) ∧ ∃ q, q.Perm q0 ∧ Asc q ∧ RowB w' gb 53 2 cap (q.map cT) ∧ Fr [gb] w w' := by
 have HA := Fr.refl [gb] w
 refine enter (N := 53) Tryd.func101 (c := _) rfl (by kernel_rfl) (by kernel_rfl) (e := [(0, .slice (some ⟨gb, 0, none⟩) n cap), (1, .int .i64 0), (2, .int .i64 (n : Int)), (3, .func (.func 70) #[] #[])]) (by kernel_rfl) ?_
 refine WE.seq ?_
 refine WE.region ?_
 refine WO.run 3 0 [(8, .int .i64 1), (11, .int .i64 1), (10, .int .i64 0)] (by kernel_rfl) (by kernel_rfl) ?_
 refine WO.done (by kernel_rfl) ?_
 refine WQ.keep [0, 1, 2, 3, 8] (e' := [(0, .slice (some ⟨gb, 0, none⟩) n cap), (1, .int .i64 0), (2, .int .i64 (n : Int)), (3, .func (.func 70) #[] #[]), (8, .int .i64 1)]) (by kernel_rfl) ?_
 refine WQ.thenN ?_
 refine WE.block ?_
 refine WE.loop (α := Nat × (List (L × L))) (E := fun ⟨i, q⟩ => [(0, .slice (some ⟨gb, 0, none⟩) n cap), (1, .int .i64 0), (2, .int .i64 (n : Int)), (3, .func (.func 70) #[] #[]), (8, .int .i64 (i : Int))]) (I := fun ⟨i, q⟩ wr => (0 < i ∧ i ≤ n) ∧ q.length = n ∧ (∃ s, q = s ++ q0.drop i ∧ s.Perm (q0.take i) ∧ Asc s) ∧ RowB wr gb 53 2 cap (q.map cT) ∧ Fr [gb] w wr) (m := fun ⟨i, q⟩ => n - i) (1, q0) [0, 1, 2, 3, 8] (by kernel_rfl) ?_ ?_
 ·
  exact ⟨by omega, hn, ⟨q0.take 1, (List.take_append_drop 1 q0).symm, List.Perm.refl _, asc_one q0⟩, HR, HA⟩
 rintro ⟨i, q⟩ wr ⟨hi, hql, hs, HR, HA⟩
 obtain ⟨s, hq, hps, has⟩ := hs
 refine WE.seq ?_
 refine WE.seq ?_
 refine WE.region ?_
 refine WO.run 2 0 [(13, .int .i64 (n : Int)), (12, .int .i64 (i : Int))] (by kernel_rfl) (by kernel_rfl) ?_
 refine WO.one (SQ.F 2 (by kernel_rfl)) 14 (.bool (decide (((i : Int) : Int) < (n : Int)))) (by kernel_rfl) ?_
 refine WO.topP (((i : Int) : Int) < (n : Int)) ?_ ?_
 ·
  intro h1
  refine WO.done (by kernel_rfl) ?_
  refine WQ.keep [0, 1, 2, 3, 8, 14] (e' := [(0, .slice (some ⟨gb, 0, none⟩) n cap), (1, .int .i64 0), (2, .int .i64 (n : Int)), (3, .func (.func 70) #[] #[]), (8, .int .i64 (i : Int)), (14, .bool true)]) (by kernel_rfl) ?_
  refine WQ.thenN ?_
  refine WE.condT (by kernel_rfl) ?_
  refine WE.skip ?_
  refine WQ.thenN ?_
  refine WE.seq ?_
  refine WE.block ?_
  refine WE.seq ?_
  refine WE.region ?_
  refine WO.run 2 0 [(9, .int .i64 (i : Int)), (17, .int .i64 (i : Int))] (by kernel_rfl) (by kernel_rfl) ?_
  refine WO.done (by kernel_rfl) ?_
  refine WQ.keep [0, 1, 2, 3, 8, 9] (e' := [(0, .slice (some ⟨gb, 0, none⟩) n cap), (1, .int .i64 0), (2, .int .i64 (n : Int)), (3, .func (.func 70) #[] #[]), (8, .int .i64 (i : Int)), (9, .int .i64 (i : Int))]) (by kernel_rfl) ?_
  refine WQ.thenN ?_
  refine WE.block ?_
  have hsl : s.length = i := by rw [hps.length_eq, List.length_take]; omega
  refine WE.loop (α := Nat × (List (L × L))) (E := fun ⟨j, p⟩ => [(0, .slice (some ⟨gb, 0, none⟩) n cap), (1, .int .i64 0), (2, .int .i64 (n : Int)), (3, .func (.func 70) #[] #[]), (8, .int .i64 (i : Int)), (9, .int .i64 (j : Int))]) (I := fun ⟨j, p⟩ wr => j ≤ i ∧ p.length = n ∧ p = s.take j ++ gT q0 i :: (s.drop j ++ q0.drop (i + 1)) ∧ (∀ z ∈ s.drop j, ltS (gT q0 i).1 z.1 = true) ∧ RowB wr gb 53 2 cap (p.map cT) ∧ Fr [gb] w wr) (m := fun ⟨j, p⟩ => j) (i, q) [0, 1, 2, 3, 8, 9] (by kernel_rfl) ?_ ?_
  ·
   exact ⟨by omega, hql, ins_start hsl hq (by omega), by rw [List.drop_of_length_le (by omega)]; simp, HR, HA⟩
  rintro ⟨j, p⟩ wr ⟨hj, hpl, hq2, hgt, HR, HA⟩
  refine WE.seq ?_
  refine WE.seq ?_
  refine WE.draw [.free, .free, .free, .free, .free, .free, .free, .free, .still, .free, .free, .free, .free, .still, .eff, .free, .free] Same sameR (by kernel_rfl) 17 (Array.replicate 17 false) (by kernel_rfl) rfl ?_
  intro w2 F3 _
  have HR := RowB.keep HR F3 (nin0 _)
  have HA := Fr.step0 HA F3
  refine WO.one (SA.F sameR sameT _ 0 _ (by kernel_rfl)) 18 (.int .i64 (j : Int)) (by kernel_rfl) ?_
  refine WO.one (SA.F sameR sameT _ 1 _ (by kernel_rfl)) 19 (.int .i64 0) (by kernel_rfl) ?_
  refine WO.one (SA.F sameR sameT _ 2 _ (by kernel_rfl)) 20 (.bool (decide (((j : Int) : Int) > (0 : Int)))) (by kernel_rfl) ?_
  refine WO.topP (((j : Int) : Int) > (0 : Int)) ?_ ?_
  ·
   intro h4
   refine WO.one (SA.F sameR sameT _ 3 _ (by kernel_rfl)) 21 (.bool true) (by kernel_rfl) ?_
   refine WO.one (SA.F sameR sameT _ 4 _ (by kernel_rfl)) 22 (.func (.func 70) #[] #[]) (by kernel_rfl) ?_
   refine WO.one (SA.F sameR sameT _ 5 _ (by kernel_rfl)) 23 (.slice (some ⟨gb, 0, none⟩) n cap) (by kernel_rfl) ?_
   refine WO.one (SA.F sameR sameT _ 6 _ (by kernel_rfl)) 24 (.int .i64 (j : Int)) (by kernel_rfl) ?_
   refine WO.ixB (SA.F sameR sameT _ 7 _ (by kernel_rfl)) 25 (j * 2) gb 0 n 2 (j : Int) (by kernel_rfl) (by omega) (by omega) (by omega) ?_
   refine WO.ldR (SA.S sameR sameT _ 8 _ (by kernel_rfl)) 26 [.string (str (gT p j).1), .string (str (gT p j).2)] gb j 2 (j * 2) (same HR) (by rw [List.length_map]; have := hpl; omega) (map_gT p j (by have := hpl; omega)) rfl (by omega) (by kernel_rfl) (by kernel_rfl) ?_
   refine WO.one (SA.F sameR sameT _ 9 _ (by kernel_rfl)) 27 (.slice (some ⟨gb, 0, none⟩) n cap) (by kernel_rfl) ?_
   refine WO.one (SA.F sameR sameT _ 10 _ (by kernel_rfl)) 28 (.int .i64 (j : Int)) (by kernel_rfl) ?_
   refine WO.one (SA.F sameR sameT _ 11 _ (by kernel_rfl)) 29 (.int .i64 (IntKind.i64.wrap ((j : Int) - 1))) (by kernel_rfl) ?_
   refine WO.top (v' := .int .i64 ((j - 1 : Nat) : Int)) (wrap_i64 (by omega) (by omega)) ?_
   refine WO.ixB (SA.F sameR sameT _ 12 _ (by kernel_rfl)) 30 ((j - 1) * 2) gb 0 n 2 ((j - 1 : Nat) : Int) (by kernel_rfl) (by omega) (by omega) (by omega) ?_
   refine WO.ldR (SA.S sameR sameT _ 13 _ (by kernel_rfl)) 31 [.string (str (gT p (j - 1)).1), .string (str (gT p (j - 1)).2)] gb (j - 1) 2 ((j - 1) * 2) (same HR) (by rw [List.length_map]; have := hpl; omega) (map_gT p (j - 1) (by have := hpl; omega)) rfl (by omega) (by kernel_rfl) (by kernel_rfl) ?_
   refine WO.call (SA.E _ 14 _ (by kernel_rfl) rfl) 32 (by kernel_rfl) (less_t (gT p j) (gT p (j - 1)) _) ?_
   rintro _ w5 ⟨rfl, F6⟩
   refine ⟨_, rfl, trivial, ?_⟩
   have HR := RowB.keep HR F6 (nin0 _)
   have HA := Fr.step0 HA F6
   refine WO.one (SA.F sameR sameT _ 15 _ (by kernel_rfl)) 33 (.bool (decide ((cmpS (gT p j).1 (gT p (j - 1)).1 : Int) < 0))) (by kernel_rfl) ?_
   refine WO.topP ((cmpS (gT p j).1 (gT p (j - 1)).1 : Int) < 0) ?_ ?_
   ·
    intro h7
    refine WO.one (SA.F sameR sameT _ 16 _ (by kernel_rfl)) 34 (.bool true) (by kernel_rfl) ?_
    refine WO.doneA (by kernel_rfl) ?_
    refine WQ.keep [0, 1, 2, 3, 8, 9, 34] (e' := [(0, .slice (some ⟨gb, 0, none⟩) n cap), (1, .int .i64 0), (2, .int .i64 (n : Int)), (3, .func (.func 70) #[] #[]), (8, .int .i64 (i : Int)), (9, .int .i64 (j : Int)), (34, .bool true)]) (by kernel_rfl) ?_
    refine WQ.thenN ?_
    refine WE.condT (by kernel_rfl) ?_
    refine WE.skip ?_
    refine WQ.thenN ?_
    refine WE.seq ?_
    refine WE.block ?_
    refine WE.draw [.free, .free, .free, .free, .free, .free, .free, .free, .free, .still, .free, .free, .free, .still, .free, .eff, .free, .eff] Same sameR (by kernel_rfl) 18 (Array.replicate 18 false) (by kernel_rfl) rfl ?_
    intro w8 F9 _
    have HR := RowB.keep HR F9 (nin0 _)
    have HA := Fr.step0 HA F9
    refine WO.one (SA.F sameR sameT _ 0 _ (by kernel_rfl)) 37 (.slice (some ⟨gb, 0, none⟩) n cap) (by kernel_rfl) ?_
    refine WO.one (SA.F sameR sameT _ 1 _ (by kernel_rfl)) 38 (.int .i64 (j : Int)) (by kernel_rfl) ?_
    refine WO.one (SA.F sameR sameT _ 2 _ (by kernel_rfl)) 39 (.slice (some ⟨gb, 0, none⟩) n cap) (by kernel_rfl) ?_
    refine WO.one (SA.F sameR sameT _ 3 _ (by kernel_rfl)) 40 (.int .i64 (j : Int)) (by kernel_rfl) ?_
    refine WO.one (SA.F sameR sameT _ 4 _ (by kernel_rfl)) 41 (.int .i64 (IntKind.i64.wrap ((j : Int) - 1))) (by kernel_rfl) ?_
    refine WO.top (v' := .int .i64 ((j - 1 : Nat) : Int)) (wrap_i64 (by omega) (by omega)) ?_
    refine WO.one (SA.F sameR sameT _ 5 _ (by kernel_rfl)) 42 (.slice (some ⟨gb, 0, none⟩) n cap) (by kernel_rfl) ?_
    refine WO.one (SA.F sameR sameT _ 6 _ (by kernel_rfl)) 43 (.int .i64 (j : Int)) (by kernel_rfl) ?_
    refine WO.one (SA.F sameR sameT _ 7 _ (by kernel_rfl)) 44 (.int .i64 (IntKind.i64.wrap ((j : Int) - 1))) (by kernel_rfl) ?_
    refine WO.top (v' := .int .i64 ((j - 1 : Nat) : Int)) (wrap_i64 (by omega) (by omega)) ?_
    refine WO.ixB (SA.F sameR sameT _ 8 _ (by kernel_rfl)) 45 ((j - 1) * 2) gb 0 n 2 ((j - 1 : Nat) : Int) (by kernel_rfl) (by omega) (by omega) (by omega) ?_
    refine WO.ldR (SA.S sameR sameT _ 9 _ (by kernel_rfl)) 46 [.string (str (gT p (j - 1)).1), .string (str (gT p (j - 1)).2)] gb (j - 1) 2 ((j - 1) * 2) (same HR) (by rw [List.length_map]; have := hpl; omega) (map_gT p (j - 1) (by have := hpl; omega)) rfl (by omega) (by kernel_rfl) (by kernel_rfl) ?_
    refine WO.one (SA.F sameR sameT _ 10 _ (by kernel_rfl)) 47 (.slice (some ⟨gb, 0, none⟩) n cap) (by kernel_rfl) ?_
    refine WO.one (SA.F sameR sameT _ 11 _ (by kernel_rfl)) 48 (.int .i64 (j : Int)) (by kernel_rfl) ?_
    refine WO.ixB (SA.F sameR sameT _ 12 _ (by kernel_rfl)) 49 (j * 2) gb 0 n 2 (j : Int) (by kernel_rfl) (by omega) (by omega) (by omega) ?_
    refine WO.ldR (SA.S sameR sameT _ 13 _ (by kernel_rfl)) 50 [.string (str (gT p j).1), .string (str (gT p j).2)] gb j 2 (j * 2) (same HR) (by rw [List.length_map]; have := hpl; omega) (map_gT p j (by have := hpl; omega)) rfl (by omega) (by kernel_rfl) (by kernel_rfl) ?_
    refine WO.ixB (SA.F sameR sameT _ 14 _ (by kernel_rfl)) 51 (j * 2) gb 0 n 2 (j : Int) (by kernel_rfl) (by omega) (by omega) (by omega) ?_
    refine WO.stR (SA.E _ 15 _ (by kernel_rfl) rfl) gb j (j * 2) [.string (str (gT p (j - 1)).1), .string (str (gT p (j - 1)).2)] HR (by rw [List.length_map]; have := hpl; omega) rfl (by omega) rfl (by kernel_rfl) (fun _ _ => trivial) ?_
    intro w10 HR12 F11 _
    have HA := Fr.step HA F11 (inSL (by simp) inS0)
    have HR12 : RowB w10 gb 53 2 cap ((p.set j (gT p (j - 1))).map cT) := by rw [List.map_set]; exact HR12
    refine WO.ixB (SA.F sameR sameT _ 16 _ (by kernel_rfl)) 52 ((j - 1) * 2) gb 0 n 2 ((j - 1 : Nat) : Int) (by kernel_rfl) (by omega) (by omega) (by omega) ?_
    refine WO.stR (SA.E _ 17 _ (by kernel_rfl) rfl) gb (j - 1) ((j - 1) * 2) [.string (str (gT p j).1), .string (str (gT p j).2)] HR12 (by rw [List.length_map]; have := (show (p.set j (gT p (j - 1))).length = p.length from List.length_set).trans (hpl); omega) rfl (by omega) rfl (by kernel_rfl) (fun _ _ => trivial) ?_
    intro w13 HR15 F14 _
    have HA := Fr.step HA F14 (inSL (by simp) inS0)
    have HR15 : RowB w13 gb 53 2 cap (((p.set j (gT p (j - 1))).set (j - 1) (gT p j)).map cT) := by rw [List.map_set]; exact HR15
    refine WO.doneA (by kernel_rfl) ?_
    refine WQ.keep [0, 1, 2, 3, 8, 9] (e' := [(0, .slice (some ⟨gb, 0, none⟩) n cap), (1, .int .i64 0), (2, .int .i64 (n : Int)), (3, .func (.func 70) #[] #[]), (8, .int .i64 (i : Int)), (9, .int .i64 (j : Int))]) (by kernel_rfl) ?_
    refine WQ.blkN ?_
    refine WQ.thenN ?_
    refine WE.region ?_
    refine WO.run 1 0 [(35, .int .i64 (j : Int))] (by kernel_rfl) (by kernel_rfl) ?_
    refine WO.one (SQ.F 1 (by kernel_rfl)) 36 (.int .i64 (IntKind.i64.wrap ((j : Int) - 1))) (by kernel_rfl) ?_
    refine WO.top (v' := .int .i64 ((j - 1 : Nat) : Int)) (wrap_i64 (by omega) (by omega)) ?_
    refine WO.run 1 2 [(9, .int .i64 ((j - 1 : Nat) : Int))] (by kernel_rfl) (by kernel_rfl) ?_
    refine WO.done (by kernel_rfl) ?_
    refine WQ.keep [0, 1, 2, 3, 8, 9] (e' := [(0, .slice (some ⟨gb, 0, none⟩) n cap), (1, .int .i64 0), (2, .int .i64 (n : Int)), (3, .func (.func 70) #[] #[]), (8, .int .i64 (i : Int)), (9, .int .i64 ((j - 1 : Nat) : Int))]) (by kernel_rfl) ?_
    have hstep := ins_step hsl hq2 (by omega)
    have hgt2 := ins_gt hsl hq2 (by omega) hgt (cmpS_neg.1 h7)
    refine WQ.round ?_
    intro a_ ha_
    refine ⟨(j - 1, ((p.set j (gT p (j - 1))).set (j - 1) (gT p j))), ?_, ha_.keep [0, 1, 2, 3, 8, 9] (by kernel_rfl), ?_⟩
    ·
     show j - 1 < j; omega
    ·
     exact ⟨by omega, (show ((p.set j (gT p (j - 1))).set (j - 1) (gT p j)).length = (p.set j (gT p (j - 1))).length from List.length_set).trans ((show (p.set j (gT p (j - 1))).length = p.length from List.length_set).trans (hpl)), hstep, hgt2, HR15, HA⟩
   intro h7
   refine WO.one (SA.F sameR sameT _ 16 _ (by kernel_rfl)) 34 (.bool false) (by kernel_rfl) ?_
   refine WO.doneA (by kernel_rfl) ?_
   refine WQ.keep [0, 1, 2, 3, 8, 9, 34] (e' := [(0, .slice (some ⟨gb, 0, none⟩) n cap), (1, .int .i64 0), (2, .int .i64 (n : Int)), (3, .func (.func 70) #[] #[]), (8, .int .i64 (i : Int)), (9, .int .i64 (j : Int)), (34, .bool false)]) (by kernel_rfl) ?_
   refine WQ.thenN ?_
   refine WE.condF (by kernel_rfl) ?_
   refine WE.exit ?_
   refine WQ.thenE ?_
   refine WQ.thenE ?_
   refine WQ.blkE ?_
   refine WQ.blkN ?_
   refine WQ.thenN ?_
   have hno_ := ins_no hsl hq2 (by omega) (cmpS_not h7)
   refine WE.region ?_
   refine WO.run 1 0 [(15, .int .i64 (i : Int))] (by kernel_rfl) (by kernel_rfl) ?_
   refine WO.one (SQ.F 1 (by kernel_rfl)) 16 (.int .i64 (IntKind.i64.wrap ((i : Int) + 1))) (by kernel_rfl) ?_
   refine WO.top (v' := .int .i64 ((i + 1 : Nat) : Int)) (wrap_i64 (by omega) (by omega)) ?_
   refine WO.run 1 2 [(8, .int .i64 ((i + 1 : Nat) : Int))] (by kernel_rfl) (by kernel_rfl) ?_
   refine WO.done (by kernel_rfl) ?_
   refine WQ.keep [0, 1, 2, 3, 8] (e' := [(0, .slice (some ⟨gb, 0, none⟩) n cap), (1, .int .i64 0), (2, .int .i64 (n : Int)), (3, .func (.func 70) #[] #[]), (8, .int .i64 ((i + 1 : Nat) : Int))]) (by kernel_rfl) ?_
   have hfin := ins_done hsl hq2 hps has hgt (.inr hno_) (by omega)
   refine WQ.round ?_
   intro a_ ha_
   refine ⟨(i + 1, p), ?_, ha_.keep [0, 1, 2, 3, 8] (by kernel_rfl), ?_⟩
   ·
    show n - (i + 1) < n - i; omega
   ·
    exact ⟨by omega, hpl, hfin, HR, HA⟩
  intro h4
  refine WO.one (SA.F sameR sameT _ 3 _ (by kernel_rfl)) 21 (.bool false) (by kernel_rfl) ?_
  refine WO.off (SA.O sameR sameT _ 4 _ (by kernel_rfl)) 22 (by kernel_rfl) ?_
  refine WO.off (SA.O sameR sameT _ 5 _ (by kernel_rfl)) 23 (by kernel_rfl) ?_
  refine WO.off (SA.O sameR sameT _ 6 _ (by kernel_rfl)) 24 (by kernel_rfl) ?_
  refine WO.off (SA.O sameR sameT _ 7 _ (by kernel_rfl)) 25 (by kernel_rfl) ?_
  refine WO.off (SA.O sameR sameT _ 8 _ (by kernel_rfl)) 26 (by kernel_rfl) ?_
  refine WO.off (SA.O sameR sameT _ 9 _ (by kernel_rfl)) 27 (by kernel_rfl) ?_
  refine WO.off (SA.O sameR sameT _ 10 _ (by kernel_rfl)) 28 (by kernel_rfl) ?_
  refine WO.off (SA.O sameR sameT _ 11 _ (by kernel_rfl)) 29 (by kernel_rfl) ?_
  refine WO.off (SA.O sameR sameT _ 12 _ (by kernel_rfl)) 30 (by kernel_rfl) ?_
  refine WO.off (SA.O sameR sameT _ 13 _ (by kernel_rfl)) 31 (by kernel_rfl) ?_
  refine WO.off (SA.O sameR sameT _ 14 _ (by kernel_rfl)) 32 (by kernel_rfl) ?_
  refine WO.off (SA.O sameR sameT _ 15 _ (by kernel_rfl)) 33 (by kernel_rfl) ?_
  refine WO.one (SA.F sameR sameT _ 16 _ (by kernel_rfl)) 34 (.bool false) (by kernel_rfl) ?_
  refine WO.doneA (by kernel_rfl) ?_
  refine WQ.keep [0, 1, 2, 3, 8, 9, 34] (e' := [(0, .slice (some ⟨gb, 0, none⟩) n cap), (1, .int .i64 0), (2, .int .i64 (n : Int)), (3, .func (.func 70) #[] #[]), (8, .int .i64 (i : Int)), (9, .int .i64 (j : Int)), (34, .bool false)]) (by kernel_rfl) ?_
  refine WQ.thenN ?_
  refine WE.condF (by kernel_rfl) ?_
  refine WE.exit ?_
  refine WQ.thenE ?_
  refine WQ.thenE ?_
  refine WQ.blkE ?_
  refine WQ.blkN ?_
  refine WQ.thenN ?_
  refine WE.region ?_
  refine WO.run 1 0 [(15, .int .i64 (i : Int))] (by kernel_rfl) (by kernel_rfl) ?_
  refine WO.one (SQ.F 1 (by kernel_rfl)) 16 (.int .i64 (IntKind.i64.wrap ((i : Int) + 1))) (by kernel_rfl) ?_
  refine WO.top (v' := .int .i64 ((i + 1 : Nat) : Int)) (wrap_i64 (by omega) (by omega)) ?_
  refine WO.run 1 2 [(8, .int .i64 ((i + 1 : Nat) : Int))] (by kernel_rfl) (by kernel_rfl) ?_
  refine WO.done (by kernel_rfl) ?_
  refine WQ.keep [0, 1, 2, 3, 8] (e' := [(0, .slice (some ⟨gb, 0, none⟩) n cap), (1, .int .i64 0), (2, .int .i64 (n : Int)), (3, .func (.func 70) #[] #[]), (8, .int .i64 ((i + 1 : Nat) : Int))]) (by kernel_rfl) ?_
  have hfin := ins_done hsl hq2 hps has hgt (.inl (by omega)) (by omega)
  refine WQ.round ?_
  intro a_ ha_
  refine ⟨(i + 1, p), ?_, ha_.keep [0, 1, 2, 3, 8] (by kernel_rfl), ?_⟩
  ·
   show n - (i + 1) < n - i; omega
  ·
   exact ⟨by omega, hpl, hfin, HR, HA⟩
 intro h1
 refine WO.done (by kernel_rfl) ?_
 refine WQ.keep [0, 1, 2, 3, 8, 14] (e' := [(0, .slice (some ⟨gb, 0, none⟩) n cap), (1, .int .i64 0), (2, .int .i64 (n : Int)), (3, .func (.func 70) #[] #[]), (8, .int .i64 (i : Int)), (14, .bool false)]) (by kernel_rfl) ?_
 refine WQ.thenN ?_
 refine WE.condF (by kernel_rfl) ?_
 refine WE.exit ?_
 refine WQ.thenE ?_
 refine WQ.thenE ?_
 refine WQ.blkE ?_
 refine WQ.fall (v := .tuple #[]) (by kernel_rfl) ?_
 obtain rfl : i = n := by omega
 rw [List.drop_of_length_le (by omega), List.append_nil] at hq
 rw [List.take_of_length_le (by omega)] at hps
 exact ⟨rfl, s, hps, has, hq ▸ HR, HA⟩
set_option maxRecDepth 100000 in
set_option maxHeartbeats 400000 in
theorem isort_0 (A : Option Addr) (cap : Nat) (w : World) :
  Calls Tryd.prog 101 #[.slice A 0 cap, .int .i64 0, .int .i64 0, .func (.func 70) #[] #[]] w fun e w' => e = .returned (.tuple #[]) ∧ Fr [] w w' := by
 have HA := Fr.refl [] w
 refine enter (N := 53) Tryd.func101 (c := _) rfl (by kernel_rfl) (by kernel_rfl) (e := [(0, .slice A 0 cap), (1, .int .i64 0), (2, .int .i64 0), (3, .func (.func 70) #[] #[])]) (by kernel_rfl) ?_
 refine WE.seq ?_
 refine WE.region ?_
 refine WO.run 3 0 [(8, .int .i64 1), (11, .int .i64 1), (10, .int .i64 0)] (by kernel_rfl) (by kernel_rfl) ?_
 refine WO.done (by kernel_rfl) ?_
 refine WQ.keep [0, 1, 2, 3, 8] (e' := [(0, .slice A 0 cap), (1, .int .i64 0), (2, .int .i64 0), (3, .func (.func 70) #[] #[]), (8, .int .i64 1)]) (by kernel_rfl) ?_
 refine WQ.thenN ?_
 refine WE.block ?_
 refine WE.unroll ?_
 refine WL.go ?_
 refine WE.seq ?_
 refine WE.seq ?_
 refine WE.region ?_
 refine WO.run 3 0 [(14, .bool false), (13, .int .i64 0), (12, .int .i64 1)] (by kernel_rfl) (by kernel_rfl) ?_
 refine WO.done (by kernel_rfl) ?_
 refine WQ.keep [0, 1, 2, 3, 8, 14] (e' := [(0, .slice A 0 cap), (1, .int .i64 0), (2, .int .i64 0), (3, .func (.func 70) #[] #[]), (8, .int .i64 1), (14, .bool false)]) (by kernel_rfl) ?_
 refine WQ.thenN ?_
 refine WE.condF (by kernel_rfl) ?_
 refine WE.exit ?_
 refine WQ.thenE ?_
 refine WQ.thenE ?_
 refine WQ.blkE ?_
 refine WQ.fall (v := .tuple #[]) (by kernel_rfl) ?_
 exact ⟨rfl, HA⟩
set_option maxRecDepth 100000 in
set_option maxHeartbeats 400000 in
theorem pdq_t (gb n cap : Nat) (lim : Int) (q0 : List (L × L)) (w : World) (HR : RowB w gb 53 2 cap (q0.map cT)) (hn : q0.length = n) (h0 : 0 < n) (hm : n ≤ 12) :
  Calls Tryd.prog 86 #[.slice (some ⟨gb, 0, none⟩) n cap, .int .i64 0, .int .i64 (n : Int), .int .i64 lim, .func (.func 70) #[] #[]] w fun e w' => e = .returned (.tuple #[]) ∧ ∃ q, q.Perm q0 ∧ Asc q ∧ RowB w' gb 53 2 cap (q.map cT) ∧ Fr [gb] w w' := by
 have HA := Fr.refl [gb] w
 refine enter (N := 148) Tryd.func86 (c := _) rfl (by kernel_rfl) (by kernel_rfl) (e := [(0, .slice (some ⟨gb, 0, none⟩) n cap), (1, .int .i64 0), (2, .int .i64 (n : Int)), (3, .int .i64 lim), (4, .func (.func 70) #[] #[])]) (by kernel_rfl) ?_
 refine WE.seq ?_
 refine WE.region ?_
 refine WO.run 1 0 [(10, .bool true)] (by kernel_rfl) (by kernel_rfl) ?_
 refine WO.done (by kernel_rfl) ?_
 refine WQ.keep [0, 1, 2, 3, 4, 10] (e' := [(0, .slice (some ⟨gb, 0, none⟩) n cap), (1, .int .i64 0), (2, .int .i64 (n : Int)), (3, .int .i64 lim), (4, .func (.func 70) #[] #[]), (10, .bool true)]) (by kernel_rfl) ?_
 refine WQ.thenN ?_
 refine WE.seq ?_
 refine WE.region ?_
 refine WO.run 1 0 [(11, .bool true)] (by kernel_rfl) (by kernel_rfl) ?_
 refine WO.done (by kernel_rfl) ?_
 refine WQ.keep [0, 1, 2, 3, 4, 10, 11] (e' := [(0, .slice (some ⟨gb, 0, none⟩) n cap), (1, .int .i64 0), (2, .int .i64 (n : Int)), (3, .int .i64 lim), (4, .func (.func 70) #[] #[]), (10, .bool true), (11, .bool true)]) (by kernel_rfl) ?_
 refine WQ.thenN ?_
 refine WE.block ?_
 refine WE.unroll ?_
 refine WL.go ?_
 refine WE.block ?_
 refine WE.seq ?_
 refine WE.region ?_
 refine WO.run 2 0 [(22, .int .i64 0), (21, .int .i64 (n : Int))] (by kernel_rfl) (by kernel_rfl) ?_
 refine WO.one (SQ.F 2 (by kernel_rfl)) 23 (.int .i64 (IntKind.i64.wrap ((n : Int) - 0))) (by kernel_rfl) ?_
 refine WO.top (v' := .int .i64 (n : Int)) (wrap_i64 (by omega) (by omega)) ?_
 refine WO.run 1 3 [(12, .int .i64 (n : Int))] (by kernel_rfl) (by kernel_rfl) ?_
 refine WO.done (by kernel_rfl) ?_
 refine WQ.keep [0, 1, 2, 3, 4, 10, 11, 12] (e' := [(0, .slice (some ⟨gb, 0, none⟩) n cap), (1, .int .i64 0), (2, .int .i64 (n : Int)), (3, .int .i64 lim), (4, .func (.func 70) #[] #[]), (10, .bool true), (11, .bool true), (12, .int .i64 (n : Int))]) (by kernel_rfl) ?_
 refine WQ.thenN ?_
 refine WE.seq ?_
 refine WE.seq ?_
 refine WE.region ?_
 refine WO.run 1 0 [(24, .int .i64 (n : Int))] (by kernel_rfl) (by kernel_rfl) ?_
 refine WO.one (SQ.F 1 (by kernel_rfl)) 25 (.bool (decide (((n : Int) : Int) ≤ (12 : Int)))) (by kernel_rfl) ?_
 refine WO.topPT (((n : Int) : Int) ≤ (12 : Int)) (by omega) ?_
 refine WO.done (by kernel_rfl) ?_
 refine WQ.keep [0, 1, 2, 3, 4, 10, 11, 12, 25] (e' := [(0, .slice (some ⟨gb, 0, none⟩) n cap), (1, .int .i64 0), (2, .int .i64 (n : Int)), (3, .int .i64 lim), (4, .func (.func 70) #[] #[]), (10, .bool true), (11, .bool true), (12, .int .i64 (n : Int)), (25, .bool true)]) (by kernel_rfl) ?_
 refine WQ.thenN ?_
 refine WE.condT (by kernel_rfl) ?_
 refine WE.seq ?_
 refine WE.region ?_
 refine WO.run 4 0 [(29, .func (.func 70) #[] #[]), (28, .int .i64 (n : Int)), (27, .int .i64 0), (26, .slice (some ⟨gb, 0, none⟩) n cap)] (by kernel_rfl) (by kernel_rfl) ?_
 refine WO.call (SQ.E 4 (by kernel_rfl)) 30 (by kernel_rfl) (isort_t gb n cap q0 _ HR hn h0 (by omega)) ?_
 rintro _ w1 ⟨rfl, q, hp, ha, HRn, F2⟩
 refine ⟨_, rfl, trivial, ?_⟩
 have HA := Fr.step HA F2 (inSL (by simp) inS0)
 refine WO.done (by kernel_rfl) ?_
 refine WQ.keep [0, 1, 2, 3, 4, 10, 11, 12, 25] (e' := [(0, .slice (some ⟨gb, 0, none⟩) n cap), (1, .int .i64 0), (2, .int .i64 (n : Int)), (3, .int .i64 lim), (4, .func (.func 70) #[] #[]), (10, .bool true), (11, .bool true), (12, .int .i64 (n : Int)), (25, .bool true)]) (by kernel_rfl) ?_
 refine WQ.thenN ?_
 refine WE.ret ?_
 refine WQ.thenR ?_
 refine WQ.blkR ?_
 refine WQ.thenR ?_
 refine WQ.blkR ?_
 refine WQ.ret (v := .tuple #[]) (by kernel_rfl) ?_
 exact ⟨rfl, q, hp, ha, HRn, HA⟩
set_option maxRecDepth 100000 in
set_option maxHeartbeats 400000 in
theorem pdq_0 (A : Option Addr) (cap : Nat) (lim : Int) (w : World) :
  Calls Tryd.prog 86 #[.slice A 0 cap, .int .i64 0, .int .i64 0, .int .i64 lim, .func (.func 70) #[] #[]] w fun e w' => e = .returned (.tuple #[]) ∧ Fr [] w w' := by
 have HA := Fr.refl [] w
 refine enter (N := 148) Tryd.func86 (c := _) rfl (by kernel_rfl) (by kernel_rfl) (e := [(0, .slice A 0 cap), (1, .int .i64 0), (2, .int .i64 0), (3, .int .i64 lim), (4, .func (.func 70) #[] #[])]) (by kernel_rfl) ?_
 refine WE.seq ?_
 refine WE.region ?_
 refine WO.run 1 0 [(10, .bool true)] (by kernel_rfl) (by kernel_rfl) ?_
 refine WO.done (by kernel_rfl) ?_
 refine WQ.keep [0, 1, 2, 3, 4, 10] (e' := [(0, .slice A 0 cap), (1, .int .i64 0), (2, .int .i64 0), (3, .int .i64 lim), (4, .func (.func 70) #[] #[]), (10, .bool true)]) (by kernel_rfl) ?_
 refine WQ.thenN ?_
 refine WE.seq ?_
 refine WE.region ?_
 refine WO.run 1 0 [(11, .bool true)] (by kernel_rfl) (by kernel_rfl) ?_
 refine WO.done (by kernel_rfl) ?_
 refine WQ.keep [0, 1, 2, 3, 4, 10, 11] (e' := [(0, .slice A 0 cap), (1, .int .i64 0), (2, .int .i64 0), (3, .int .i64 lim), (4, .func (.func 70) #[] #[]), (10, .bool true), (11, .bool true)]) (by kernel_rfl) ?_
 refine WQ.thenN ?_
 refine WE.block ?_
 refine WE.unroll ?_
 refine WL.go ?_
 refine WE.block ?_
 refine WE.seq ?_
 refine WE.region ?_
 refine WO.run 4 0 [(12, .int .i64 0), (23, .int .i64 0), (22, .int .i64 0), (21, .int .i64 0)] (by kernel_rfl) (by kernel_rfl) ?_
 refine WO.done (by kernel_rfl) ?_
 refine WQ.keep [0, 1, 2, 3, 4, 10, 11, 12] (e' := [(0, .slice A 0 cap), (1, .int .i64 0), (2, .int .i64 0), (3, .int .i64 lim), (4, .func (.func 70) #[] #[]), (10, .bool true), (11, .bool true), (12, .int .i64 0)]) (by kernel_rfl) ?_
 refine WQ.thenN ?_
 refine WE.seq ?_
 refine WE.seq ?_
 refine WE.region ?_
 refine WO.run 2 0 [(25, .bool true), (24, .int .i64 0)] (by kernel_rfl) (by kernel_rfl) ?_
 refine WO.done (by kernel_rfl) ?_
 refine WQ.keep [0, 1, 2, 3, 4, 10, 11, 12, 25] (e' := [(0, .slice A 0 cap), (1, .int .i64 0), (2, .int .i64 0), (3, .int .i64 lim), (4, .func (.func 70) #[] #[]), (10, .bool true), (11, .bool true), (12, .int .i64 0), (25, .bool true)]) (by kernel_rfl) ?_
 refine WQ.thenN ?_
 refine WE.condT (by kernel_rfl) ?_
 refine WE.seq ?_
 refine WE.region ?_
 refine WO.run 4 0 [(29, .func (.func 70) #[] #[]), (28, .int .i64 0), (27, .int .i64 0), (26, .slice A 0 cap)] (by kernel_rfl) (by kernel_rfl) ?_
 refine WO.call (SQ.E 4 (by kernel_rfl)) 30 (by kernel_rfl) (isort_0 A cap _) ?_
 rintro _ w1 ⟨rfl, F2⟩
 refine ⟨_, rfl, trivial, ?_⟩
 have HA := Fr.step0 HA F2
 refine WO.done (by kernel_rfl) ?_
 refine WQ.keep [0, 1, 2, 3, 4, 10, 11, 12, 25] (e' := [(0, .slice A 0 cap), (1, .int .i64 0), (2, .int .i64 0), (3, .int .i64 lim), (4, .func (.func 70) #[] #[]), (10, .bool true), (11, .bool true), (12, .int .i64 0), (25, .bool true)]) (by kernel_rfl) ?_
 refine WQ.thenN ?_
 refine WE.ret ?_
 refine WQ.thenR ?_
 refine WQ.blkR ?_
 refine WQ.thenR ?_
 refine WQ.blkR ?_
 refine WQ.ret (v := .tuple #[]) (by kernel_rfl) ?_
 exact ⟨rfl, HA⟩
set_option maxRecDepth 100000 in
set_option maxHeartbeats 400000 in
theorem sortf_t (gb n cap : Nat) (q0 : List (L × L)) (w : World) (HR : RowB w gb 53 2 cap (q0.map cT)) (hn : q0.length = n) (h0 : 0 < n) (hm : n ≤ 12) :
  Calls Tryd.prog 69 #[.slice (some ⟨gb, 0, none⟩) n cap, .func (.func 70) #[] #[]] w fun e w' => e = .returned (.tuple #[]) ∧ ∃ q, q.Perm q0 ∧ Asc q ∧ RowB w' gb 53 2 cap (q.map cT) ∧ Fr [gb] w w' := by
 have HA := Fr.refl [gb] w
 refine enter (N := 14) Tryd.func69 (c := _) rfl (by kernel_rfl) (by kernel_rfl) (e := [(0, .slice (some ⟨gb, 0, none⟩) n cap), (1, .func (.func 70) #[] #[])]) (by kernel_rfl) ?_
 refine WE.seq ?_
 refine WE.region ?_
 refine WO.run 3 0 [(4, .int .i64 (n : Int)), (6, .int .i64 (n : Int)), (5, .slice (some ⟨gb, 0, none⟩) n cap)] (by kernel_rfl) (by kernel_rfl) ?_
 refine WO.done (by kernel_rfl) ?_
 refine WQ.keep [0, 1, 4] (e' := [(0, .slice (some ⟨gb, 0, none⟩) n cap), (1, .func (.func 70) #[] #[]), (4, .int .i64 (n : Int))]) (by kernel_rfl) ?_
 refine WQ.thenN ?_
 refine WE.region ?_
 refine WO.run 3 0 [(9, .int .i64 (n : Int)), (8, .int .i64 (n : Int)), (7, .slice (some ⟨gb, 0, none⟩) n cap)] (by kernel_rfl) (by kernel_rfl) ?_
 refine WO.one (SQ.F 3 (by kernel_rfl)) 10 (.int .u64 (IntKind.u64.wrap (n : Int))) (by kernel_rfl) ?_
 refine WO.top (v' := .int .u64 (n : Int)) (wrap_u64 rfl (by omega)) ?_
 refine WO.call (SQ.E 4 (by kernel_rfl)) 11 (by kernel_rfl) (Tryd.bits_Len (n : Int) _ (by omega) (by omega)) ?_
 rintro _ w1 ⟨rfl, hw_⟩
 have F2 : Fr [] w w1 := by rw [hw_]; exact Fr.refl [] _
 refine ⟨_, rfl, trivial, ?_⟩
 have HR := RowB.keep HR F2 (nin0 _)
 have HA := Fr.step0 HA F2
 refine WO.run 1 5 [(12, .func (.func 70) #[] #[])] (by kernel_rfl) (by kernel_rfl) ?_
 refine WO.call (SQ.E 6 (by kernel_rfl)) 13 (by kernel_rfl) (pdq_t gb n cap ((Lib.bitLen ((n : Int)).toNat : Nat) : Int) q0 _ HR hn h0 hm) ?_
 rintro _ w3 ⟨rfl, q, hp, ha, HRn, F4⟩
 refine ⟨_, rfl, trivial, ?_⟩
 have HA := Fr.step HA F4 (inSL (by simp) inS0)
 refine WO.done (by kernel_rfl) ?_
 refine WQ.keep [] (e' := []) (by kernel_rfl) ?_
 refine WQ.fall (v := .tuple #[]) (by kernel_rfl) ?_
 exact ⟨rfl, q, hp, ha, HRn, HA⟩
set_option maxRecDepth 100000 in
set_option maxHeartbeats 400000 in
theorem sortf_0 (A : Option Addr) (cap : Nat) (w : World) :
  Calls Tryd.prog 69 #[.slice A 0 cap, .func (.func 70) #[] #[]] w fun e w' => e = .returned (.tuple #[]) ∧ Fr [] w w' := by
 have HA := Fr.refl [] w
 refine enter (N := 14) Tryd.func69 (c := _) rfl (by kernel_rfl) (by kernel_rfl) (e := [(0, .slice A 0 cap), (1, .func (.func 70) #[] #[])]) (by kernel_rfl) ?_
 refine WE.seq ?_
 refine WE.region ?_
 refine WO.run 3 0 [(4, .int .i64 0), (6, .int .i64 0), (5, .slice A 0 cap)] (by kernel_rfl) (by kernel_rfl) ?_
 refine WO.done (by kernel_rfl) ?_
 refine WQ.keep [0, 1, 4] (e' := [(0, .slice A 0 cap), (1, .func (.func 70) #[] #[]), (4, .int .i64 0)]) (by kernel_rfl) ?_
 refine WQ.thenN ?_
 refine WE.region ?_
 refine WO.run 3 0 [(9, .int .i64 0), (8, .int .i64 0), (7, .slice A 0 cap)] (by kernel_rfl) (by kernel_rfl) ?_
 refine WO.one (SQ.F 3 (by kernel_rfl)) 10 (.int .u64 0) (by kernel_rfl) ?_
 refine WO.call (SQ.E 4 (by kernel_rfl)) 11 (by kernel_rfl) (Tryd.bits_Len (0 : Int) _ (by omega) (by omega)) ?_
 rintro _ w1 ⟨rfl, hw_⟩
 have F2 : Fr [] w w1 := by rw [hw_]; exact Fr.refl [] _
 refine ⟨_, rfl, trivial, ?_⟩
 have HA := Fr.step0 HA F2
 refine WO.run 1 5 [(12, .func (.func 70) #[] #[])] (by kernel_rfl) (by kernel_rfl) ?_
 refine WO.call (SQ.E 6 (by kernel_rfl)) 13 (by kernel_rfl) (pdq_0 A cap ((Lib.bitLen ((0 : Int)).toNat : Nat) : Int) _) ?_
 rintro _ w3 ⟨rfl, F4⟩
 refine ⟨_, rfl, trivial, ?_⟩
 have HA := Fr.step0 HA F4
 refine WO.done (by kernel_rfl) ?_
 refine WQ.keep [] (e' := []) (by kernel_rfl) ?_
 refine WQ.fall (v := .tuple #[]) (by kernel_rfl) ?_
 exact ⟨rfl, HA⟩
end Go.Proofs.YtdhonbahpcmmnaaDoor.Line
