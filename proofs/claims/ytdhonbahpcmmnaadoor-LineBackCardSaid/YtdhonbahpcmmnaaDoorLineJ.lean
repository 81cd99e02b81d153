/- Layer 4's laws. -/
import Derived.Test.YtdhonbahpcmmnaaDoorLineI
import Derived.Test.YtdhonbahpcmmnaaDoorLineQ
import Derived.Test.YtdhonbahpcmmnaaDoorErrs
set_option linter.unusedVariables false
set_option linter.unusedSimpArgs false
namespace Go.Proofs.YtdhonbahpcmmnaaDoor.Line
open Go Go.RowKit Go.Proofs.YtdhonbahpcmmnaaDoor Go.Proofs.YtdhonbahpcmmnaaDoor.Eng Go.Proofs.YtdhonbahpcmmnaaDoorW.PrintWords
theorem eqA53 (d : Nat) (w : World) (x0 y0 : ByteArray) (x1 y1 : ByteArray) :
  (Op.equalIn (d + 2) 53 (.agg #[.string x0, .string x1]) (.agg #[.string y0, .string y1])).run Tryd.prog w = .ok (x0.toList == y0.toList && (x1.toList == y1.toList)) w := by
 refine eqA_of Tryd.underlying53 (by kernel_rfl) ?_
 refine eqf_cons (by rfl) (by go_simp; rfl) (by go_simp; rfl) (by go_simp) ?_
 exact eqf_last (by rfl) (by go_simp; rfl) (by go_simp; rfl) (by go_simp)
def exEv : Ev := { name := [99, 112, 117], tags := [([104, 111, 115, 116], [97])], kind := 1, value := 5, time := 100 }
theorem ex_parse : parseP [99, 112, 117, 44, 104, 111, 115, 116, 61, 97, 32, 99, 32, 53, 32, 49, 48, 48] = .inl exEv := by
 have h : printT exEv = [99, 112, 117, 44, 104, 111, 115, 116, 61, 97, 32, 99, 32, 53, 32, 49, 48, 48] := by
  have e1 : digs 5 = [53] := by rw [digs_lo (by decide)]; rfl
  have e2 : digs 100 = [49, 48, 48] := by rw [digs_hi (by decide), digs_hi (by decide), digs_lo (by decide)]; rfl
  show headT exEv ++ 32 :: (letter 1 ++ 32 :: (digs 5 ++ 32 :: digs 100)) = _
  rw [e1, e2]
  rfl
 rw [← h]
 exact parse_fwd (by rfl) (by decide)
theorem few_of {e : Ev} (h : mayE e = true) : fewE e = true := by
 obtain ⟨h1, h2, h3, _⟩ := may_parts h
 unfold fewE
 simp only [Bool.and_eq_true, decide_eq_true_eq]
 refine ⟨⟨List.all_eq_true.2 fun t ht => ?_, ?_⟩, ?_⟩
 ·
  have a := word_len (h1 t ht).1
  have b := word_len (h1 t ht).2
  simp only [Bool.and_eq_true, decide_eq_true_eq]
  omega
 ·
  have := word_len h2
  omega
 ·
  omega
set_option maxRecDepth 100000 in
set_option maxHeartbeats 400000 in
theorem same_t (ev : Ev) (A1 A2 : Option Addr) (n1 c1 n2 c2 : Nat) (F1 F2 : List Nat) (w : World) (HT1 : VX cT 2 w F1 A1 ev.tags) (hn1 : ev.tags.length = n1) (HT2 : VX cT 2 w F2 A2 ev.tags) (hn2 : ev.tags.length = n2) (hl : n1 ≤ 9223372036854775807) :
  Calls Tryd.prog 20 #[.agg #[.string (str ev.name), .slice A1 n1 c1, .int .i64 ev.kind, .int .i64 ev.value, .int .i64 ev.time], .agg #[.string (str ev.name), .slice A2 n2 c2, .int .i64 ev.kind, .int .i64 ev.value, .int .i64 ev.time]] w fun e w' => e = .returned (.bool true) ∧ Fr [] w w' := by
 have HA := Fr.refl [] w
 refine enter (N := 59) Tryd.func20 (c := _) rfl (by kernel_rfl) (by kernel_rfl) (e := [(0, .agg #[.string (str ev.name), .slice A1 n1 c1, .int .i64 ev.kind, .int .i64 ev.value, .int .i64 ev.time]), (1, .agg #[.string (str ev.name), .slice A2 n2 c2, .int .i64 ev.kind, .int .i64 ev.value, .int .i64 ev.time])]) (by kernel_rfl) ?_
 refine WE.seq ?_
 refine WE.region ?_
 refine WO.bx (SQ.E 0 (by kernel_rfl)) 2 #[.string (str ev.name), .slice A1 n1 c1, .int .i64 ev.kind, .int .i64 ev.value, .int .i64 ev.time] 25 (fun g => .pointer (some ⟨g, 0, none⟩)) (by kernel_rfl) (fun _ _ => trivial) ?_
 intro g1 w2 HB4 F3 le5 _
 have nin_g1_F1 : g1 ∉ F1 := new_nin HT1.lt le5
 have nin_g1_F2 : g1 ∉ F2 := new_nin HT2.lt le5
 have ge_HA_g1 := Nat.le_trans HA.size le5
 have HT1 := HT1.keep F3 (fun _ _ => nin0 _)
 have HT2 := HT2.keep F3 (fun _ _ => nin0 _)
 have HA := Fr.step0 HA F3
 refine WO.bx (SQ.E 1 (by kernel_rfl)) 3 #[.string (str ev.name), .slice A2 n2 c2, .int .i64 ev.kind, .int .i64 ev.value, .int .i64 ev.time] 25 (fun g => .pointer (some ⟨g, 0, none⟩)) (by kernel_rfl) (fun _ _ => trivial) ?_
 intro g6 w7 HB9 F8 le10 _
 have ne_g1_g6 : g1 ≠ g6 := Nat.ne_of_lt (Nat.lt_of_lt_of_le HB4.lt le10)
 have nin_g6_F1 : g6 ∉ F1 := new_nin HT1.lt le10
 have nin_g6_F2 : g6 ∉ F2 := new_nin HT2.lt le10
 have ge_HA_g6 := Nat.le_trans HA.size le10
 have HB4 := Blk.keep HB4 F8 (nin0 _)
 have HT1 := HT1.keep F8 (fun _ _ => nin0 _)
 have HT2 := HT2.keep F8 (fun _ _ => nin0 _)
 have HA := Fr.step0 HA F8
 refine WO.run 1 2 [(4, .bool false)] (by kernel_rfl) (by kernel_rfl) ?_
 refine WO.done (by kernel_rfl) ?_
 refine WQ.keep [2, 3, 4] (e' := [(2, .pointer (some ⟨g1, 0, none⟩)), (3, .pointer (some ⟨g6, 0, none⟩)), (4, .bool false)]) (by kernel_rfl) ?_
 refine WQ.thenN ?_
 refine WE.seq ?_
 refine WE.seq ?_
 refine WE.region ?_
 refine WO.run 1 0 [(6, .pointer (some ⟨g1, 0, none⟩))] (by kernel_rfl) (by kernel_rfl) ?_
 refine WO.ld (SQ.S 1 (by kernel_rfl)) 7 (.string (str ev.name)) (by kernel_rfl) (same (HB4.at 0 (by kernel_rfl))) ?_
 refine WO.run 1 2 [(8, .pointer (some ⟨g6, 0, none⟩))] (by kernel_rfl) (by kernel_rfl) ?_
 refine WO.ld (SQ.S 3 (by kernel_rfl)) 9 (.string (str ev.name)) (by kernel_rfl) (same (HB9.at 0 (by kernel_rfl))) ?_
 refine WO.one (SQ.F 4 (by kernel_rfl)) 10 (.bool (!((str ev.name).toList == (str ev.name).toList))) (by kernel_rfl) ?_
 refine WO.top (v' := .bool (!decide ((str ev.name) = (str ev.name)))) (congrArg Value.bool (congrArg not (streq (str ev.name) (str ev.name)))) ?_
 refine WO.topNT ((str ev.name) = (str ev.name)) (by first | rfl | omega | simp) ?_
 refine WO.run 2 5 [(12, .pointer (some ⟨g1, 2, none⟩)), (11, .bool false)] (by kernel_rfl) (by kernel_rfl) ?_
 refine WO.ld (SQ.S 7 (by kernel_rfl)) 13 (.int .i64 ev.kind) (by kernel_rfl) (same (HB4.at 2 (by kernel_rfl))) ?_
 refine WO.run 1 8 [(14, .pointer (some ⟨g6, 2, none⟩))] (by kernel_rfl) (by kernel_rfl) ?_
 refine WO.ld (SQ.S 9 (by kernel_rfl)) 15 (.int .i64 ev.kind) (by kernel_rfl) (same (HB9.at 2 (by kernel_rfl))) ?_
 refine WO.one (SQ.F 10 (by kernel_rfl)) 16 (.bool (!decide ((ev.kind : Int) = ev.kind))) (by kernel_rfl) ?_
 refine WO.topNT ((ev.kind : Int) = ev.kind) (by first | rfl | omega | simp) ?_
 refine WO.run 3 11 [(19, .pointer (some ⟨g1, 3, none⟩)), (18, .bool false), (17, .bool false)] (by kernel_rfl) (by kernel_rfl) ?_
 refine WO.ld (SQ.S 14 (by kernel_rfl)) 20 (.int .i64 ev.value) (by kernel_rfl) (same (HB4.at 3 (by kernel_rfl))) ?_
 refine WO.run 1 15 [(21, .pointer (some ⟨g6, 3, none⟩))] (by kernel_rfl) (by kernel_rfl) ?_
 refine WO.ld (SQ.S 16 (by kernel_rfl)) 22 (.int .i64 ev.value) (by kernel_rfl) (same (HB9.at 3 (by kernel_rfl))) ?_
 refine WO.one (SQ.F 17 (by kernel_rfl)) 23 (.bool (!decide ((ev.value : Int) = ev.value))) (by kernel_rfl) ?_
 refine WO.topNT ((ev.value : Int) = ev.value) (by first | rfl | omega | simp) ?_
 refine WO.run 3 18 [(26, .pointer (some ⟨g1, 4, none⟩)), (25, .bool false), (24, .bool false)] (by kernel_rfl) (by kernel_rfl) ?_
 refine WO.ld (SQ.S 21 (by kernel_rfl)) 27 (.int .i64 ev.time) (by kernel_rfl) (same (HB4.at 4 (by kernel_rfl))) ?_
 refine WO.run 1 22 [(28, .pointer (some ⟨g6, 4, none⟩))] (by kernel_rfl) (by kernel_rfl) ?_
 refine WO.ld (SQ.S 23 (by kernel_rfl)) 29 (.int .i64 ev.time) (by kernel_rfl) (same (HB9.at 4 (by kernel_rfl))) ?_
 refine WO.one (SQ.F 24 (by kernel_rfl)) 30 (.bool (!decide ((ev.time : Int) = ev.time))) (by kernel_rfl) ?_
 refine WO.topNT ((ev.time : Int) = ev.time) (by first | rfl | omega | simp) ?_
 refine WO.run 3 25 [(33, .pointer (some ⟨g1, 1, none⟩)), (32, .bool false), (31, .bool false)] (by kernel_rfl) (by kernel_rfl) ?_
 refine WO.ld (SQ.S 28 (by kernel_rfl)) 34 (.slice A1 n1 c1) (by kernel_rfl) (same (HB4.at 1 (by kernel_rfl))) ?_
 refine WO.run 2 29 [(36, .pointer (some ⟨g6, 1, none⟩)), (35, .int .i64 (n1 : Int))] (by kernel_rfl) (by kernel_rfl) ?_
 refine WO.ld (SQ.S 31 (by kernel_rfl)) 37 (.slice A2 n2 c2) (by kernel_rfl) (same (HB9.at 1 (by kernel_rfl))) ?_
 refine WO.run 1 32 [(38, .int .i64 (n2 : Int))] (by kernel_rfl) (by kernel_rfl) ?_
 refine WO.one (SQ.F 33 (by kernel_rfl)) 39 (.bool (!decide (((n1 : Int) : Int) = (n2 : Int)))) (by kernel_rfl) ?_
 refine WO.topNT (((n1 : Int) : Int) = (n2 : Int)) (by first | rfl | omega | simp) ?_
 refine WO.run 1 34 [(40, .bool false)] (by kernel_rfl) (by kernel_rfl) ?_
 refine WO.done (by kernel_rfl) ?_
 refine WQ.keep [2, 3, 4, 40] (e' := [(2, .pointer (some ⟨g1, 0, none⟩)), (3, .pointer (some ⟨g6, 0, none⟩)), (4, .bool false), (40, .bool false)]) (by kernel_rfl) ?_
 refine WQ.thenN ?_
 refine WE.condF (by kernel_rfl) ?_
 refine WE.skip ?_
 refine WQ.thenN ?_
 refine WE.seq ?_
 refine WE.seq ?_
 refine WE.region ?_
 refine WO.run 1 0 [(5, .int .i64 0)] (by kernel_rfl) (by kernel_rfl) ?_
 refine WO.done (by kernel_rfl) ?_
 refine WQ.keep [2, 3, 4, 5] (e' := [(2, .pointer (some ⟨g1, 0, none⟩)), (3, .pointer (some ⟨g6, 0, none⟩)), (4, .bool false), (5, .int .i64 0)]) (by kernel_rfl) ?_
 refine WQ.thenN ?_
 refine WE.block ?_
 refine WE.loop (α := Nat) (E := fun i => [(2, .pointer (some ⟨g1, 0, none⟩)), (3, .pointer (some ⟨g6, 0, none⟩)), (4, .bool false), (5, .int .i64 (i : Int))]) (I := fun i wr => i ≤ ev.tags.length ∧ Blk wr g1 #[.string (str ev.name), .slice A1 n1 c1, .int .i64 ev.kind, .int .i64 ev.value, .int .i64 ev.time] 25 ∧ Blk wr g6 #[.string (str ev.name), .slice A2 n2 c2, .int .i64 ev.kind, .int .i64 ev.value, .int .i64 ev.time] 25 ∧ VX cT 2 wr F1 A1 ev.tags ∧ VX cT 2 wr F2 A2 ev.tags ∧ Fr [] w wr) (m := fun i => ev.tags.length - i) 0 [2, 3, 4, 5] (by kernel_rfl) ?_ ?_
 ·
  exact ⟨by omega, HB4, HB9, HT1, HT2, HA⟩
 rintro i wr ⟨hi, HB4, HB9, HT1, HT2, HA⟩
 refine WE.seq ?_
 refine WE.seq ?_
 refine WE.region ?_
 refine WO.run 2 0 [(42, .pointer (some ⟨g1, 1, none⟩)), (41, .int .i64 (i : Int))] (by kernel_rfl) (by kernel_rfl) ?_
 refine WO.ld (SQ.S 2 (by kernel_rfl)) 43 (.slice A1 n1 c1) (by kernel_rfl) (same (HB4.at 1 (by kernel_rfl))) ?_
 refine WO.run 1 3 [(44, .int .i64 (n1 : Int))] (by kernel_rfl) (by kernel_rfl) ?_
 refine WO.one (SQ.F 4 (by kernel_rfl)) 45 (.bool (decide (((i : Int) : Int) < (n1 : Int)))) (by kernel_rfl) ?_
 refine WO.topP (((i : Int) : Int) < (n1 : Int)) ?_ ?_
 ·
  intro h11
  refine WO.done (by kernel_rfl) ?_
  refine WQ.keep [2, 3, 4, 5, 45] (e' := [(2, .pointer (some ⟨g1, 0, none⟩)), (3, .pointer (some ⟨g6, 0, none⟩)), (4, .bool false), (5, .int .i64 (i : Int)), (45, .bool true)]) (by kernel_rfl) ?_
  refine WQ.thenN ?_
  refine WE.condT (by kernel_rfl) ?_
  refine WE.skip ?_
  refine WQ.thenN ?_
  refine WE.seq ?_
  refine WE.block ?_
  refine WE.seq ?_
  refine WE.draw [.free, .still, .free, .free, .still, .free, .still, .free, .free, .still, .free] Same sameR (by kernel_rfl) 11 (Array.replicate 11 false) (by kernel_rfl) rfl ?_
  intro w12 F13 _
  have HB4 := Blk.keep HB4 F13 (nin0 _)
  have HB9 := Blk.keep HB9 F13 (nin0 _)
  have HT1 := HT1.keep F13 (fun _ _ => nin0 _)
  have HT2 := HT2.keep F13 (fun _ _ => nin0 _)
  have HA := Fr.step0 HA F13
  refine WO.one (SA.F sameR sameT _ 0 _ (by kernel_rfl)) 48 (.pointer (some ⟨g1, 1, none⟩)) (by kernel_rfl) ?_
  refine WO.ld (SA.S sameR sameT _ 1 _ (by kernel_rfl)) 49 (.slice A1 n1 c1) (by kernel_rfl) (same (HB4.at 1 (by kernel_rfl))) ?_
  refine WO.one (SA.F sameR sameT _ 2 _ (by kernel_rfl)) 50 (.int .i64 (i : Int)) (by kernel_rfl) ?_
  obtain ⟨ad14, hA15⟩ := HT1.addr (i := i) (by have := hn1; omega)
  refine WO.ixo (SA.F sameR sameT _ 3 _ (by kernel_rfl)) 51 n1 2 i (i : Int) hA15 (by kernel_rfl) rfl (by omega) ?_
  refine WO.ldA (ad := (ad14.add (i * 2))) (SA.S sameR sameT _ 4 _ (by kernel_rfl)) 52 [.string (str (gT ev.tags i).1), .string (str (gT ev.tags i).2)] (by kernel_rfl) (by kernel_rfl) (fun _ hw_ _ hj_ => by subst hw_; exact HT1.part0 hA15 (gT_some ev.tags i (by have := hn1; omega)) [.string (str (gT ev.tags i).1), .string (str (gT ev.tags i).2)] (by kernel_rfl) _ hj_) ?_
  refine WO.one (SA.F sameR sameT _ 5 _ (by kernel_rfl)) 53 (.pointer (some ⟨g6, 1, none⟩)) (by kernel_rfl) ?_
  refine WO.ld (SA.S sameR sameT _ 6 _ (by kernel_rfl)) 54 (.slice A2 n2 c2) (by kernel_rfl) (same (HB9.at 1 (by kernel_rfl))) ?_
  refine WO.one (SA.F sameR sameT _ 7 _ (by kernel_rfl)) 55 (.int .i64 (i : Int)) (by kernel_rfl) ?_
  obtain ⟨ad16, hA17⟩ := HT2.addr (i := i) (by have := hn2; omega)
  refine WO.ixo (SA.F sameR sameT _ 8 _ (by kernel_rfl)) 56 n2 2 i (i : Int) hA17 (by kernel_rfl) rfl (by omega) ?_
  refine WO.ldA (ad := (ad16.add (i * 2))) (SA.S sameR sameT _ 9 _ (by kernel_rfl)) 57 [.string (str (gT ev.tags i).1), .string (str (gT ev.tags i).2)] (by kernel_rfl) (by kernel_rfl) (fun _ hw_ _ hj_ => by subst hw_; exact HT2.part0 hA17 (gT_some ev.tags i (by have := hn2; omega)) [.string (str (gT ev.tags i).1), .string (str (gT ev.tags i).2)] (by kernel_rfl) _ hj_) ?_
  refine WO.eqS (SA.F sameR sameT _ 10 _ (by kernel_rfl)) 58 true 53 #[.string (str (gT ev.tags i).1), .string (str (gT ev.tags i).2)] #[.string (str (gT ev.tags i).1), .string (str (gT ev.tags i).2)] (b := (str (gT ev.tags i).1).toList == (str (gT ev.tags i).1).toList && ((str (gT ev.tags i).2).toList == (str (gT ev.tags i).2).toList)) (by kernel_rfl) (by kernel_rfl) (fun w_ => eqA53 9998 w_ _ _ _ _) ?_
  refine WO.top (v' := .bool (!((str (gT ev.tags i).1).toList == (str (gT ev.tags i).1).toList && ((str (gT ev.tags i).2).toList == (str (gT ev.tags i).2).toList)))) rfl ?_
  refine WO.top (v' := .bool false) (congrArg Value.bool (by first | rfl | omega | simp)) ?_
  refine WO.doneA (by kernel_rfl) ?_
  refine WQ.keep [2, 3, 4, 5, 45, 58] (e' := [(2, .pointer (some ⟨g1, 0, none⟩)), (3, .pointer (some ⟨g6, 0, none⟩)), (4, .bool false), (5, .int .i64 (i : Int)), (45, .bool true), (58, .bool false)]) (by kernel_rfl) ?_
  refine WQ.thenN ?_
  refine WE.condF (by kernel_rfl) ?_
  refine WE.skip ?_
  refine WQ.blkN ?_
  refine WQ.thenN ?_
  refine WE.region ?_
  refine WO.run 1 0 [(46, .int .i64 (i : Int))] (by kernel_rfl) (by kernel_rfl) ?_
  refine WO.one (SQ.F 1 (by kernel_rfl)) 47 (.int .i64 (IntKind.i64.wrap ((i : Int) + 1))) (by kernel_rfl) ?_
  refine WO.top (v' := .int .i64 ((i + 1 : Nat) : Int)) (wrap_i64 (by omega) (by omega)) ?_
  refine WO.run 1 2 [(5, .int .i64 ((i + 1 : Nat) : Int))] (by kernel_rfl) (by kernel_rfl) ?_
  refine WO.done (by kernel_rfl) ?_
  refine WQ.keep [2, 3, 4, 5] (e' := [(2, .pointer (some ⟨g1, 0, none⟩)), (3, .pointer (some ⟨g6, 0, none⟩)), (4, .bool false), (5, .int .i64 ((i + 1 : Nat) : Int))]) (by kernel_rfl) ?_
  refine WQ.round ?_
  intro a_ ha_
  refine ⟨i + 1, ?_, ha_.keep [2, 3, 4, 5] (by kernel_rfl), ?_⟩
  ·
   omega
  ·
   exact ⟨by omega, HB4, HB9, HT1, HT2, HA⟩
 intro h11
 refine WO.done (by kernel_rfl) ?_
 refine WQ.keep [2, 3, 4, 5, 45] (e' := [(2, .pointer (some ⟨g1, 0, none⟩)), (3, .pointer (some ⟨g6, 0, none⟩)), (4, .bool false), (5, .int .i64 (i : Int)), (45, .bool false)]) (by kernel_rfl) ?_
 refine WQ.thenN ?_
 refine WE.condF (by kernel_rfl) ?_
 refine WE.exit ?_
 refine WQ.thenE ?_
 refine WQ.thenE ?_
 refine WQ.blkE ?_
 refine WQ.thenN ?_
 refine WE.seq ?_
 refine WE.region ?_
 refine WO.run 1 0 [(4, .bool true)] (by kernel_rfl) (by kernel_rfl) ?_
 refine WO.done (by kernel_rfl) ?_
 refine WQ.keep [4] (e' := [(4, .bool true)]) (by kernel_rfl) ?_
 refine WQ.thenN ?_
 refine WE.ret ?_
 refine WQ.ret (v := .bool true) (by kernel_rfl) ?_
 exact ⟨rfl, HA⟩
set_option maxRecDepth 100000 in
set_option maxHeartbeats 400000 in
theorem same_z (w : World) :
  Calls Tryd.prog 20 #[.agg #[.string (⟨#[]⟩), .slice none 0 0, .int .i64 0, .int .i64 0, .int .i64 0], .agg #[.string (⟨#[]⟩), .slice none 0 0, .int .i64 0, .int .i64 0, .int .i64 0]] w fun e w' => e = .returned (.bool true) ∧ Fr [] w w' := by
 have HA := Fr.refl [] w
 refine enter (N := 59) Tryd.func20 (c := _) rfl (by kernel_rfl) (by kernel_rfl) (e := [(0, .agg #[.string (⟨#[]⟩), .slice none 0 0, .int .i64 0, .int .i64 0, .int .i64 0]), (1, .agg #[.string (⟨#[]⟩), .slice none 0 0, .int .i64 0, .int .i64 0, .int .i64 0])]) (by kernel_rfl) ?_
 refine WE.seq ?_
 refine WE.region ?_
 refine WO.bx (SQ.E 0 (by kernel_rfl)) 2 #[.string (⟨#[]⟩), .slice none 0 0, .int .i64 0, .int .i64 0, .int .i64 0] 25 (fun g => .pointer (some ⟨g, 0, none⟩)) (by kernel_rfl) (fun _ _ => trivial) ?_
 intro g1 w2 HB4 F3 le5 _
 have ge_HA_g1 := Nat.le_trans HA.size le5
 have HA := Fr.step0 HA F3
 refine WO.bx (SQ.E 1 (by kernel_rfl)) 3 #[.string (⟨#[]⟩), .slice none 0 0, .int .i64 0, .int .i64 0, .int .i64 0] 25 (fun g => .pointer (some ⟨g, 0, none⟩)) (by kernel_rfl) (fun _ _ => trivial) ?_
 intro g6 w7 HB9 F8 le10 _
 have ne_g1_g6 : g1 ≠ g6 := Nat.ne_of_lt (Nat.lt_of_lt_of_le HB4.lt le10)
 have ge_HA_g6 := Nat.le_trans HA.size le10
 have HB4 := Blk.keep HB4 F8 (nin0 _)
 have HA := Fr.step0 HA F8
 refine WO.run 1 2 [(4, .bool false)] (by kernel_rfl) (by kernel_rfl) ?_
 refine WO.done (by kernel_rfl) ?_
 refine WQ.keep [2, 3, 4] (e' := [(2, .pointer (some ⟨g1, 0, none⟩)), (3, .pointer (some ⟨g6, 0, none⟩)), (4, .bool false)]) (by kernel_rfl) ?_
 refine WQ.thenN ?_
 refine WE.seq ?_
 refine WE.seq ?_
 refine WE.region ?_
 refine WO.run 1 0 [(6, .pointer (some ⟨g1, 0, none⟩))] (by kernel_rfl) (by kernel_rfl) ?_
 refine WO.ld (SQ.S 1 (by kernel_rfl)) 7 (.string (⟨#[]⟩)) (by kernel_rfl) (same (HB4.at 0 (by kernel_rfl))) ?_
 refine WO.run 1 2 [(8, .pointer (some ⟨g6, 0, none⟩))] (by kernel_rfl) (by kernel_rfl) ?_
 refine WO.ld (SQ.S 3 (by kernel_rfl)) 9 (.string (⟨#[]⟩)) (by kernel_rfl) (same (HB9.at 0 (by kernel_rfl))) ?_
 refine WO.one (SQ.F 4 (by kernel_rfl)) 10 (.bool (!((⟨#[]⟩ : ByteArray).toList == (⟨#[]⟩ : ByteArray).toList))) (by kernel_rfl) ?_
 refine WO.top (v' := .bool (!decide ((⟨#[]⟩ : ByteArray) = (⟨#[]⟩ : ByteArray)))) (congrArg Value.bool (congrArg not (streq (⟨#[]⟩ : ByteArray) (⟨#[]⟩ : ByteArray)))) ?_
 refine WO.topNT ((⟨#[]⟩ : ByteArray) = (⟨#[]⟩ : ByteArray)) (by first | rfl | omega | simp) ?_
 refine WO.run 2 5 [(12, .pointer (some ⟨g1, 2, none⟩)), (11, .bool false)] (by kernel_rfl) (by kernel_rfl) ?_
 refine WO.ld (SQ.S 7 (by kernel_rfl)) 13 (.int .i64 0) (by kernel_rfl) (same (HB4.at 2 (by kernel_rfl))) ?_
 refine WO.run 1 8 [(14, .pointer (some ⟨g6, 2, none⟩))] (by kernel_rfl) (by kernel_rfl) ?_
 refine WO.ld (SQ.S 9 (by kernel_rfl)) 15 (.int .i64 0) (by kernel_rfl) (same (HB9.at 2 (by kernel_rfl))) ?_
 refine WO.run 4 10 [(19, .pointer (some ⟨g1, 3, none⟩)), (18, .bool false), (17, .bool false), (16, .bool false)] (by kernel_rfl) (by kernel_rfl) ?_
 refine WO.ld (SQ.S 14 (by kernel_rfl)) 20 (.int .i64 0) (by kernel_rfl) (same (HB4.at 3 (by kernel_rfl))) ?_
 refine WO.run 1 15 [(21, .pointer (some ⟨g6, 3, none⟩))] (by kernel_rfl) (by kernel_rfl) ?_
 refine WO.ld (SQ.S 16 (by kernel_rfl)) 22 (.int .i64 0) (by kernel_rfl) (same (HB9.at 3 (by kernel_rfl))) ?_
 refine WO.run 4 17 [(26, .pointer (some ⟨g1, 4, none⟩)), (25, .bool false), (24, .bool false), (23, .bool false)] (by kernel_rfl) (by kernel_rfl) ?_
 refine WO.ld (SQ.S 21 (by kernel_rfl)) 27 (.int .i64 0) (by kernel_rfl) (same (HB4.at 4 (by kernel_rfl))) ?_
 refine WO.run 1 22 [(28, .pointer (some ⟨g6, 4, none⟩))] (by kernel_rfl) (by kernel_rfl) ?_
 refine WO.ld (SQ.S 23 (by kernel_rfl)) 29 (.int .i64 0) (by kernel_rfl) (same (HB9.at 4 (by kernel_rfl))) ?_
 refine WO.run 4 24 [(33, .pointer (some ⟨g1, 1, none⟩)), (32, .bool false), (31, .bool false), (30, .bool false)] (by kernel_rfl) (by kernel_rfl) ?_
 refine WO.ld (SQ.S 28 (by kernel_rfl)) 34 (.slice none 0 0) (by kernel_rfl) (same (HB4.at 1 (by kernel_rfl))) ?_
 refine WO.run 2 29 [(36, .pointer (some ⟨g6, 1, none⟩)), (35, .int .i64 0)] (by kernel_rfl) (by kernel_rfl) ?_
 refine WO.ld (SQ.S 31 (by kernel_rfl)) 37 (.slice none 0 0) (by kernel_rfl) (same (HB9.at 1 (by kernel_rfl))) ?_
 refine WO.run 3 32 [(40, .bool false), (39, .bool false), (38, .int .i64 0)] (by kernel_rfl) (by kernel_rfl) ?_
 refine WO.done (by kernel_rfl) ?_
 refine WQ.keep [2, 3, 4, 40] (e' := [(2, .pointer (some ⟨g1, 0, none⟩)), (3, .pointer (some ⟨g6, 0, none⟩)), (4, .bool false), (40, .bool false)]) (by kernel_rfl) ?_
 refine WQ.thenN ?_
 refine WE.condF (by kernel_rfl) ?_
 refine WE.skip ?_
 refine WQ.thenN ?_
 refine WE.seq ?_
 refine WE.seq ?_
 refine WE.region ?_
 refine WO.run 1 0 [(5, .int .i64 0)] (by kernel_rfl) (by kernel_rfl) ?_
 refine WO.done (by kernel_rfl) ?_
 refine WQ.keep [2, 3, 4, 5] (e' := [(2, .pointer (some ⟨g1, 0, none⟩)), (3, .pointer (some ⟨g6, 0, none⟩)), (4, .bool false), (5, .int .i64 0)]) (by kernel_rfl) ?_
 refine WQ.thenN ?_
 refine WE.block ?_
 refine WE.loop (α := Unit) (E := fun _ => [(2, .pointer (some ⟨g1, 0, none⟩)), (3, .pointer (some ⟨g6, 0, none⟩)), (4, .bool false), (5, .int .i64 0)]) (I := fun _ wr => Blk wr g1 #[.string (⟨#[]⟩), .slice none 0 0, .int .i64 0, .int .i64 0, .int .i64 0] 25 ∧ Blk wr g6 #[.string (⟨#[]⟩), .slice none 0 0, .int .i64 0, .int .i64 0, .int .i64 0] 25 ∧ Fr [] w wr) (m := fun _ => 0) () [2, 3, 4, 5] (by kernel_rfl) ?_ ?_
 ·
  exact ⟨HB4, HB9, HA⟩
 rintro _ wr ⟨HB4, HB9, HA⟩
 refine WE.seq ?_
 refine WE.seq ?_
 refine WE.region ?_
 refine WO.run 2 0 [(42, .pointer (some ⟨g1, 1, none⟩)), (41, .int .i64 0)] (by kernel_rfl) (by kernel_rfl) ?_
 refine WO.ld (SQ.S 2 (by kernel_rfl)) 43 (.slice none 0 0) (by kernel_rfl) (same (HB4.at 1 (by kernel_rfl))) ?_
 refine WO.run 2 3 [(45, .bool false), (44, .int .i64 0)] (by kernel_rfl) (by kernel_rfl) ?_
 refine WO.done (by kernel_rfl) ?_
 refine WQ.keep [2, 3, 4, 5, 45] (e' := [(2, .pointer (some ⟨g1, 0, none⟩)), (3, .pointer (some ⟨g6, 0, none⟩)), (4, .bool false), (5, .int .i64 0), (45, .bool false)]) (by kernel_rfl) ?_
 refine WQ.thenN ?_
 refine WE.condF (by kernel_rfl) ?_
 refine WE.exit ?_
 refine WQ.thenE ?_
 refine WQ.thenE ?_
 refine WQ.blkE ?_
 refine WQ.thenN ?_
 refine WE.seq ?_
 refine WE.region ?_
 refine WO.run 1 0 [(4, .bool true)] (by kernel_rfl) (by kernel_rfl) ?_
 refine WO.done (by kernel_rfl) ?_
 refine WQ.keep [4] (e' := [(4, .bool true)]) (by kernel_rfl) ?_
 refine WQ.thenN ?_
 refine WE.ret ?_
 refine WQ.ret (v := .bool true) (by kernel_rfl) ?_
 exact ⟨rfl, HA⟩
set_option maxRecDepth 100000 in
set_option maxHeartbeats 400000 in
theorem up_any (w : World) (HE : Errs.ErrT w) (HS : VarI w "strconv.ErrSyntax") (HR : VarI w "strconv.ErrRange") (HTab : Lib.TabIs Tryd.prog w "internal/strconv.uint64pow10" .u64 Lib.pow10Tab) :
  Calls Tryd.prog 18 #[] w fun e w' => e = .returned (.bool true) ∧ Fr [] w w' := by
 have HA := Fr.refl [] w
 refine enter (N := 45) Tryd.func18 (c := _) rfl (by kernel_rfl) (by kernel_rfl) (e := []) (by kernel_rfl) ?_
 refine WE.seq ?_
 refine WE.region ?_
 refine WO.run 1 0 [(0, .bool false)] (by kernel_rfl) (by kernel_rfl) ?_
 refine WO.done (by kernel_rfl) ?_
 refine WQ.thenN ?_
 refine WE.seq ?_
 refine WE.region ?_
 refine WO.call (SQ.E 0 (by kernel_rfl)) 6 (by kernel_rfl) (parse_l ([99, 112, 117, 44, 104, 111, 115, 116, 61, 97, 32, 99, 32, 53, 32, 49, 48, 48]) _ (by decide) HS HR) ?_
 intro e_ w1 hr_
 rw [ex_parse] at hr_
 obtain ⟨A0_, n0_, c0_, F0_, rfl, HT0_, hn0_, hc0_, hg0_, F2⟩ := hr_
 refine ⟨_, rfl, trivial, ?_⟩
 have hg0r_ := fun y hy => Or.inr (a := y ∈ ([] : List Nat)) (hg0_ y hy)
 have nin_0_F0_ : 0 ∉ F0_ := grow_nin hg0r_ (nin0 _) (HE.lt)
 have nin_3_F0_ : 3 ∉ F0_ := grow_nin hg0r_ (nin0 _) ((var_lt 3 (by kernel_rfl) HS))
 have nin_4_F0_ : 4 ∉ F0_ := grow_nin hg0r_ (nin0 _) ((var_lt 4 (by kernel_rfl) HR))
 have nin_2_F0_ : 2 ∉ F0_ := grow_nin hg0r_ (nin0 _) ((tab_lt HTab))
 have ge_HA_F0_ : ∀ y ∈ F0_, (World.heap w).size ≤ y := grow_ge hg0r_ (by simp) HA.size
 have HE := HE.keep F2 (nin0 _)
 have HS := var_keep 3 (by kernel_rfl) HS F2 (nin0 _)
 have HR := var_keep 4 (by kernel_rfl) HR F2 (nin0 _)
 have HTab := tab_keep HTab F2 (nin0 _)
 have HA := Fr.step0 HA F2
 refine WO.run 3 1 [(8, .nilIface), (7, .agg #[.string (str exEv.name), .slice A0_ n0_ c0_, .int .i64 exEv.kind, .int .i64 exEv.value, .int .i64 exEv.time]), (5, .tuple #[.agg #[.string (str exEv.name), .slice A0_ n0_ c0_, .int .i64 exEv.kind, .int .i64 exEv.value, .int .i64 exEv.time], .nilIface])] (by kernel_rfl) (by kernel_rfl) ?_
 refine WO.bx (SQ.E 4 (by kernel_rfl)) 1 #[.string (⟨#[]⟩), .slice none 0 0, .int .i64 0, .int .i64 0, .int .i64 0] 25 (fun g => .pointer (some ⟨g, 0, none⟩)) (by kernel_rfl) (fun _ _ => trivial) ?_
 intro g3 w4 HB6 F5 le7 _
 have nin_g3_F0_ : g3 ∉ F0_ := new_nin HT0_.lt le7
 have ne_0_g3 : 0 ≠ g3 := Nat.ne_of_lt (Nat.lt_of_lt_of_le HE.lt le7)
 have ne_3_g3 : 3 ≠ g3 := Nat.ne_of_lt (Nat.lt_of_lt_of_le (var_lt 3 (by kernel_rfl) HS) le7)
 have ne_4_g3 : 4 ≠ g3 := Nat.ne_of_lt (Nat.lt_of_lt_of_le (var_lt 4 (by kernel_rfl) HR) le7)
 have ne_2_g3 : 2 ≠ g3 := Nat.ne_of_lt (Nat.lt_of_lt_of_le (tab_lt HTab) le7)
 have ge_HA_g3 := Nat.le_trans HA.size le7
 have HT0_ := HT0_.keep F5 (fun _ _ => nin0 _)
 have HE := HE.keep F5 (nin0 _)
 have HS := var_keep 3 (by kernel_rfl) HS F5 (nin0 _)
 have HR := var_keep 4 (by kernel_rfl) HR F5 (nin0 _)
 have HTab := tab_keep HTab F5 (nin0 _)
 have HA := Fr.step0 HA F5
 refine WO.st (SQ.E 5 (by kernel_rfl)) g3 0 [.string (str exEv.name), .slice A0_ n0_ c0_, .int .i64 exEv.kind, .int .i64 exEv.value, .int .i64 exEv.time] #[.string (str exEv.name), .slice A0_ n0_ c0_, .int .i64 exEv.kind, .int .i64 exEv.value, .int .i64 exEv.time] (by kernel_rfl) HB6 (by kernel_rfl) (by kernel_rfl) (fun _ _ => trivial) ?_
 intro w8 HB10 F9 _
 have HT0_ := HT0_.keep F9 (djB nin_g3_F0_)
 have HE := HE.keep F9 (ninC ne_0_g3 (nin0 _))
 have HS := var_keep 3 (by kernel_rfl) HS F9 (ninC ne_3_g3 (nin0 _))
 have HR := var_keep 4 (by kernel_rfl) HR F9 (ninC ne_4_g3 (nin0 _))
 have HTab := tab_keep HTab F9 (ninC ne_2_g3 (nin0 _))
 have HA := Fr.step HA F9 (inSR ge_HA_g3 inS0)
 refine WO.run 1 6 [(2, .nilIface)] (by kernel_rfl) (by kernel_rfl) ?_
 refine WO.done (by kernel_rfl) ?_
 refine WQ.keep [0, 1, 2] (e' := [(0, .bool false), (1, .pointer (some ⟨g3, 0, none⟩)), (2, .nilIface)]) (by kernel_rfl) ?_
 refine WQ.thenN ?_
 refine WE.seq ?_
 refine WE.region ?_
 refine WO.call (SQ.E 0 (by kernel_rfl)) 10 (by kernel_rfl) (parse_l ([] : L) _ (by simp) HS HR) ?_
 intro e_ w11 hr_
 rw [show parseP ([] : L) = .inr 0 from rfl] at hr_
 obtain ⟨g13, rfl, HB14, hg15, F12⟩ := hr_
 refine ⟨_, rfl, trivial, ?_⟩
 have ne_g3_g13 : g3 ≠ g13 := Nat.ne_of_lt (Nat.lt_of_lt_of_le HB10.lt hg15)
 have nin_g13_F0_ : g13 ∉ F0_ := new_nin HT0_.lt hg15
 have ne_0_g13 : 0 ≠ g13 := Nat.ne_of_lt (Nat.lt_of_lt_of_le HE.lt hg15)
 have ne_3_g13 : 3 ≠ g13 := Nat.ne_of_lt (Nat.lt_of_lt_of_le (var_lt 3 (by kernel_rfl) HS) hg15)
 have ne_4_g13 : 4 ≠ g13 := Nat.ne_of_lt (Nat.lt_of_lt_of_le (var_lt 4 (by kernel_rfl) HR) hg15)
 have ne_2_g13 : 2 ≠ g13 := Nat.ne_of_lt (Nat.lt_of_lt_of_le (tab_lt HTab) hg15)
 have ge_HA_g13 := Nat.le_trans HA.size hg15
 have HB10 := Blk.keep HB10 F12 (nin0 _)
 have HT0_ := HT0_.keep F12 (fun _ _ => nin0 _)
 have HE := HE.keep F12 (nin0 _)
 have HS := var_keep 3 (by kernel_rfl) HS F12 (nin0 _)
 have HR := var_keep 4 (by kernel_rfl) HR F12 (nin0 _)
 have HTab := tab_keep HTab F12 (nin0 _)
 have HA := Fr.step0 HA F12
 refine WO.run 3 1 [(12, .iface 67 (.pointer (some ⟨g13, 0, none⟩))), (11, .agg #[.string (⟨#[]⟩), .slice none 0 0, .int .i64 0, .int .i64 0, .int .i64 0]), (9, .tuple #[.agg #[.string (⟨#[]⟩), .slice none 0 0, .int .i64 0, .int .i64 0, .int .i64 0], .iface 67 (.pointer (some ⟨g13, 0, none⟩))])] (by kernel_rfl) (by kernel_rfl) ?_
 refine WO.bx (SQ.E 4 (by kernel_rfl)) 3 #[.string (⟨#[]⟩), .slice none 0 0, .int .i64 0, .int .i64 0, .int .i64 0] 25 (fun g => .pointer (some ⟨g, 0, none⟩)) (by kernel_rfl) (fun _ _ => trivial) ?_
 intro g16 w17 HB19 F18 le20 _
 have ne_g3_g16 : g3 ≠ g16 := Nat.ne_of_lt (Nat.lt_of_lt_of_le HB10.lt le20)
 have ne_g13_g16 : g13 ≠ g16 := Nat.ne_of_lt (Nat.lt_of_lt_of_le HB14.lt le20)
 have nin_g16_F0_ : g16 ∉ F0_ := new_nin HT0_.lt le20
 have ne_0_g16 : 0 ≠ g16 := Nat.ne_of_lt (Nat.lt_of_lt_of_le HE.lt le20)
 have ne_3_g16 : 3 ≠ g16 := Nat.ne_of_lt (Nat.lt_of_lt_of_le (var_lt 3 (by kernel_rfl) HS) le20)
 have ne_4_g16 : 4 ≠ g16 := Nat.ne_of_lt (Nat.lt_of_lt_of_le (var_lt 4 (by kernel_rfl) HR) le20)
 have ne_2_g16 : 2 ≠ g16 := Nat.ne_of_lt (Nat.lt_of_lt_of_le (tab_lt HTab) le20)
 have ge_HA_g16 := Nat.le_trans HA.size le20
 have HB10 := Blk.keep HB10 F18 (nin0 _)
 have HB14 := Blk.keep HB14 F18 (nin0 _)
 have HT0_ := HT0_.keep F18 (fun _ _ => nin0 _)
 have HE := HE.keep F18 (nin0 _)
 have HS := var_keep 3 (by kernel_rfl) HS F18 (nin0 _)
 have HR := var_keep 4 (by kernel_rfl) HR F18 (nin0 _)
 have HTab := tab_keep HTab F18 (nin0 _)
 have HA := Fr.step0 HA F18
 refine WO.st (SQ.E 5 (by kernel_rfl)) g16 0 [.string (⟨#[]⟩), .slice none 0 0, .int .i64 0, .int .i64 0, .int .i64 0] #[.string (⟨#[]⟩), .slice none 0 0, .int .i64 0, .int .i64 0, .int .i64 0] (by kernel_rfl) HB19 (by kernel_rfl) (by kernel_rfl) (fun _ _ => trivial) ?_
 intro w21 HB23 F22 _
 have HB10 := Blk.keep HB10 F22 (ninC ne_g3_g16 (nin0 _))
 have HB14 := Blk.keep HB14 F22 (ninC ne_g13_g16 (nin0 _))
 have HT0_ := HT0_.keep F22 (djB nin_g16_F0_)
 have HE := HE.keep F22 (ninC ne_0_g16 (nin0 _))
 have HS := var_keep 3 (by kernel_rfl) HS F22 (ninC ne_3_g16 (nin0 _))
 have HR := var_keep 4 (by kernel_rfl) HR F22 (ninC ne_4_g16 (nin0 _))
 have HTab := tab_keep HTab F22 (ninC ne_2_g16 (nin0 _))
 have HA := Fr.step HA F22 (inSR ge_HA_g16 inS0)
 refine WO.run 1 6 [(4, .iface 67 (.pointer (some ⟨g13, 0, none⟩)))] (by kernel_rfl) (by kernel_rfl) ?_
 refine WO.done (by kernel_rfl) ?_
 refine WQ.keep [0, 1, 2, 4] (e' := [(0, .bool false), (1, .pointer (some ⟨g3, 0, none⟩)), (2, .nilIface), (4, .iface 67 (.pointer (some ⟨g13, 0, none⟩)))]) (by kernel_rfl) ?_
 refine WQ.thenN ?_
 refine WE.seq ?_
 refine WE.region ?_
 refine WO.run 4 0 [(16, .pointer (some ⟨g3, 0, none⟩)), (15, .bool true), (14, .bool true), (13, .nilIface)] (by kernel_rfl) (by kernel_rfl) ?_
 refine WO.ld (SQ.S 4 (by kernel_rfl)) 17 (.string (str exEv.name)) (by kernel_rfl) (same (HB10.at 0 (by kernel_rfl))) ?_
 refine WO.one (SQ.F 5 (by kernel_rfl)) 18 (.bool ((str exEv.name).toList == (⟨#[99, 112, 117]⟩ : ByteArray).toList)) (by kernel_rfl) ?_
 refine WO.top (v' := .bool (decide ((str exEv.name) = (⟨#[99, 112, 117]⟩ : ByteArray)))) (congrArg Value.bool (streq (str exEv.name) (⟨#[99, 112, 117]⟩ : ByteArray))) ?_
 refine WO.topPT ((str exEv.name) = (⟨#[99, 112, 117]⟩ : ByteArray)) (by first | exact hn0_.symm | rfl | (have h_ := hn0_; have e_ : exEv.tags.length = 1 := rfl; omega)) ?_
 refine WO.run 3 6 [(21, .pointer (some ⟨g3, 1, none⟩)), (20, .bool true), (19, .bool true)] (by kernel_rfl) (by kernel_rfl) ?_
 refine WO.ld (SQ.S 9 (by kernel_rfl)) 22 (.slice A0_ n0_ c0_) (by kernel_rfl) (same (HB10.at 1 (by kernel_rfl))) ?_
 refine WO.run 1 10 [(23, .int .i64 (n0_ : Int))] (by kernel_rfl) (by kernel_rfl) ?_
 refine WO.one (SQ.F 11 (by kernel_rfl)) 24 (.bool (decide (((n0_ : Int) : Int) = (1 : Int)))) (by kernel_rfl) ?_
 refine WO.topPT (((n0_ : Int) : Int) = (1 : Int)) (by first | exact hn0_.symm | rfl | (have h_ := hn0_; have e_ : exEv.tags.length = 1 := rfl; omega)) ?_
 refine WO.run 3 12 [(27, .pointer (some ⟨g3, 2, none⟩)), (26, .bool true), (25, .bool true)] (by kernel_rfl) (by kernel_rfl) ?_
 refine WO.ld (SQ.S 15 (by kernel_rfl)) 28 (.int .i64 exEv.kind) (by kernel_rfl) (same (HB10.at 2 (by kernel_rfl))) ?_
 refine WO.one (SQ.F 16 (by kernel_rfl)) 29 (.bool (decide ((exEv.kind : Int) = 1))) (by kernel_rfl) ?_
 refine WO.topPT ((exEv.kind : Int) = 1) (by first | exact hn0_.symm | rfl | (have h_ := hn0_; have e_ : exEv.tags.length = 1 := rfl; omega)) ?_
 refine WO.run 3 17 [(32, .pointer (some ⟨g3, 3, none⟩)), (31, .bool true), (30, .bool true)] (by kernel_rfl) (by kernel_rfl) ?_
 refine WO.ld (SQ.S 20 (by kernel_rfl)) 33 (.int .i64 exEv.value) (by kernel_rfl) (same (HB10.at 3 (by kernel_rfl))) ?_
 refine WO.one (SQ.F 21 (by kernel_rfl)) 34 (.bool (decide ((exEv.value : Int) = 5))) (by kernel_rfl) ?_
 refine WO.topPT ((exEv.value : Int) = 5) (by first | exact hn0_.symm | rfl | (have h_ := hn0_; have e_ : exEv.tags.length = 1 := rfl; omega)) ?_
 refine WO.run 3 22 [(37, .pointer (some ⟨g3, 4, none⟩)), (36, .bool true), (35, .bool true)] (by kernel_rfl) (by kernel_rfl) ?_
 refine WO.ld (SQ.S 25 (by kernel_rfl)) 38 (.int .i64 exEv.time) (by kernel_rfl) (same (HB10.at 4 (by kernel_rfl))) ?_
 refine WO.one (SQ.F 26 (by kernel_rfl)) 39 (.bool (decide ((exEv.time : Int) = 100))) (by kernel_rfl) ?_
 refine WO.topPT ((exEv.time : Int) = 100) (by first | exact hn0_.symm | rfl | (have h_ := hn0_; have e_ : exEv.tags.length = 1 := rfl; omega)) ?_
 refine WO.run 3 27 [(42, .iface 67 (.pointer (some ⟨g13, 0, none⟩))), (41, .bool true), (40, .bool true)] (by kernel_rfl) (by kernel_rfl) ?_
 refine WO.call (SQ.E 30 (by kernel_rfl)) 43 (by kernel_rfl) (Errs.law_is g13 (((0 : Nat) : Int) : Int) (0 : Int) 2 _ HB14 HE) ?_
 rintro _ w24 ⟨rfl, HB14, F25⟩
 rw [decide_eq_true (show (((0 : Nat) : Int) : Int) = (0 : Int) by omega)]
 refine ⟨_, rfl, trivial, ?_⟩
 have HB10 := Blk.keep HB10 F25 (nin0 _)
 have HB23 := Blk.keep HB23 F25 (nin0 _)
 have HT0_ := HT0_.keep F25 (fun _ _ => nin0 _)
 have HE := HE.keep F25 (nin0 _)
 have HS := var_keep 3 (by kernel_rfl) HS F25 (nin0 _)
 have HR := var_keep 4 (by kernel_rfl) HR F25 (nin0 _)
 have HTab := tab_keep HTab F25 (nin0 _)
 have HA := Fr.step0 HA F25
 refine WO.run 2 31 [(0, .bool true), (44, .bool true)] (by kernel_rfl) (by kernel_rfl) ?_
 refine WO.done (by kernel_rfl) ?_
 refine WQ.keep [0] (e' := [(0, .bool true)]) (by kernel_rfl) ?_
 refine WQ.thenN ?_
 refine WE.ret ?_
 refine WQ.ret (v := .bool true) (by kernel_rfl) ?_
 exact ⟨rfl, HA⟩
set_option maxRecDepth 100000 in
set_option maxHeartbeats 400000 in
theorem parses_any (s : L) (w : World) (hs : s.length ≤ 9223372036854775807) (HE : Errs.ErrT w) (HS : VarI w "strconv.ErrSyntax") (HR : VarI w "strconv.ErrRange") (HTab : Lib.TabIs Tryd.prog w "internal/strconv.uint64pow10" .u64 Lib.pow10Tab) :
  Calls Tryd.prog 4 #[.string (str s)] w fun e w' => e = .returned (.bool true) ∧ Fr [] w w' := by
 have HA := Fr.refl [] w
 refine enter (N := 60) Tryd.func4 (c := _) rfl (by kernel_rfl) (by kernel_rfl) (e := [(0, .string (str s))]) (by kernel_rfl) ?_
 refine WE.seq ?_
 refine WE.region ?_
 refine WO.run 1 0 [(2, .bool false)] (by kernel_rfl) (by kernel_rfl) ?_
 refine WO.done (by kernel_rfl) ?_
 refine WQ.keep [0, 2] (e' := [(0, .string (str s)), (2, .bool false)]) (by kernel_rfl) ?_
 refine WQ.thenN ?_
 refine WE.seq ?_
 refine WE.region ?_
 refine WO.call (SQ.E 0 (by kernel_rfl)) 8 (by kernel_rfl) (up_any _ HE HS HR HTab) ?_
 rintro _ w1 ⟨rfl, F2⟩
 refine ⟨_, rfl, trivial, ?_⟩
 have HE := HE.keep F2 (nin0 _)
 have HS := var_keep 3 (by kernel_rfl) HS F2 (nin0 _)
 have HR := var_keep 4 (by kernel_rfl) HR F2 (nin0 _)
 have HTab := tab_keep HTab F2 (nin0 _)
 have HA := Fr.step0 HA F2
 refine WO.run 1 1 [(3, .bool true)] (by kernel_rfl) (by kernel_rfl) ?_
 refine WO.done (by kernel_rfl) ?_
 refine WQ.keep [0, 2, 3] (e' := [(0, .string (str s)), (2, .bool false), (3, .bool true)]) (by kernel_rfl) ?_
 refine WQ.thenN ?_
 refine WE.seq ?_
 refine WE.seq ?_
 refine WE.region ?_
 refine WO.run 2 0 [(10, .int .i64 (s.length : Int)), (9, .string (str s))] (by kernel_rfl) (by kernel_rfl) ?_
 refine WO.one (SQ.F 2 (by kernel_rfl)) 11 (.bool (decide (((s.length : Int) : Int) > (3000 : Int)))) (by kernel_rfl) ?_
 refine WO.topP (((s.length : Int) : Int) > (3000 : Int)) ?_ ?_
 ·
  intro h3
  refine WO.done (by kernel_rfl) ?_
  refine WQ.keep [0, 2, 3, 11] (e' := [(0, .string (str s)), (2, .bool false), (3, .bool true), (11, .bool true)]) (by kernel_rfl) ?_
  refine WQ.thenN ?_
  refine WE.condT (by kernel_rfl) ?_
  refine WE.seq ?_
  refine WE.region ?_
  refine WO.run 2 0 [(2, .bool true), (12, .bool true)] (by kernel_rfl) (by kernel_rfl) ?_
  refine WO.done (by kernel_rfl) ?_
  refine WQ.keep [0, 2, 3] (e' := [(0, .string (str s)), (2, .bool true), (3, .bool true)]) (by kernel_rfl) ?_
  refine WQ.thenN ?_
  refine WE.ret ?_
  refine WQ.thenR ?_
  refine WQ.ret (v := .bool true) (by kernel_rfl) ?_
  exact ⟨rfl, HA⟩
 intro h3
 refine WO.done (by kernel_rfl) ?_
 refine WQ.keep [0, 2, 3, 11] (e' := [(0, .string (str s)), (2, .bool false), (3, .bool true), (11, .bool false)]) (by kernel_rfl) ?_
 refine WQ.thenN ?_
 refine WE.condF (by kernel_rfl) ?_
 refine WE.skip ?_
 refine WQ.thenN ?_
 refine WE.seq ?_
 refine WE.region ?_
 refine WO.run 1 0 [(14, .string (str s))] (by kernel_rfl) (by kernel_rfl) ?_
 rcases Nat.lt_or_ge 300 s.length with hL | hL
 ·
  refine WO.call (SQ.E 1 (by kernel_rfl)) 15 (by kernel_rfl) (parse_long s _ (by omega) (by omega)) ?_
  rintro _ w4 ⟨rfl, F5⟩
  refine ⟨_, rfl, trivial, ?_⟩
  have HE := HE.keep F5 (nin0 _)
  have HS := var_keep 3 (by kernel_rfl) HS F5 (nin0 _)
  have HR := var_keep 4 (by kernel_rfl) HR F5 (nin0 _)
  have HTab := tab_keep HTab F5 (nin0 _)
  have HA := Fr.step0 HA F5
  refine WO.run 3 2 [(17, .iface 35 (.int .i64 3)), (16, .agg #[.string (⟨#[]⟩), .slice none 0 0, .int .i64 0, .int .i64 0, .int .i64 0]), (13, .tuple #[.agg #[.string (⟨#[]⟩), .slice none 0 0, .int .i64 0, .int .i64 0, .int .i64 0], .iface 35 (.int .i64 3)])] (by kernel_rfl) (by kernel_rfl) ?_
  refine WO.bx (SQ.E 5 (by kernel_rfl)) 4 #[.string (⟨#[]⟩), .slice none 0 0, .int .i64 0, .int .i64 0, .int .i64 0] 25 (fun g => .pointer (some ⟨g, 0, none⟩)) (by kernel_rfl) (fun _ _ => trivial) ?_
  intro g6 w7 HB9 F8 le10 _
  have ne_0_g6 : 0 ≠ g6 := Nat.ne_of_lt (Nat.lt_of_lt_of_le HE.lt le10)
  have ne_3_g6 : 3 ≠ g6 := Nat.ne_of_lt (Nat.lt_of_lt_of_le (var_lt 3 (by kernel_rfl) HS) le10)
  have ne_4_g6 : 4 ≠ g6 := Nat.ne_of_lt (Nat.lt_of_lt_of_le (var_lt 4 (by kernel_rfl) HR) le10)
  have ne_2_g6 : 2 ≠ g6 := Nat.ne_of_lt (Nat.lt_of_lt_of_le (tab_lt HTab) le10)
  have ge_HA_g6 := Nat.le_trans HA.size le10
  have HE := HE.keep F8 (nin0 _)
  have HS := var_keep 3 (by kernel_rfl) HS F8 (nin0 _)
  have HR := var_keep 4 (by kernel_rfl) HR F8 (nin0 _)
  have HTab := tab_keep HTab F8 (nin0 _)
  have HA := Fr.step0 HA F8
  refine WO.st (SQ.E 6 (by kernel_rfl)) g6 0 [.string (⟨#[]⟩), .slice none 0 0, .int .i64 0, .int .i64 0, .int .i64 0] #[.string (⟨#[]⟩), .slice none 0 0, .int .i64 0, .int .i64 0, .int .i64 0] (by kernel_rfl) HB9 (by kernel_rfl) (by kernel_rfl) (fun _ _ => trivial) ?_
  intro w11 HB13 F12 _
  have HE := HE.keep F12 (ninC ne_0_g6 (nin0 _))
  have HS := var_keep 3 (by kernel_rfl) HS F12 (ninC ne_3_g6 (nin0 _))
  have HR := var_keep 4 (by kernel_rfl) HR F12 (ninC ne_4_g6 (nin0 _))
  have HTab := tab_keep HTab F12 (ninC ne_2_g6 (nin0 _))
  have HA := Fr.step HA F12 (inSR ge_HA_g6 inS0)
  refine WO.run 1 7 [(5, .iface 35 (.int .i64 3))] (by kernel_rfl) (by kernel_rfl) ?_
  refine WO.done (by kernel_rfl) ?_
  refine WQ.keep [0, 2, 3, 4, 5] (e' := [(0, .string (str s)), (2, .bool false), (3, .bool true), (4, .pointer (some ⟨g6, 0, none⟩)), (5, .iface 35 (.int .i64 3))]) (by kernel_rfl) ?_
  refine WQ.thenN ?_
  refine WE.seq ?_
  refine WE.seq ?_
  refine WE.region ?_
  refine WO.run 2 0 [(19, .int .i64 (s.length : Int)), (18, .string (str s))] (by kernel_rfl) (by kernel_rfl) ?_
  refine WO.one (SQ.F 2 (by kernel_rfl)) 20 (.bool (decide (((s.length : Int) : Int) > (300 : Int)))) (by kernel_rfl) ?_
  refine WO.topPT (((s.length : Int) : Int) > (300 : Int)) (by omega) ?_
  refine WO.done (by kernel_rfl) ?_
  refine WQ.keep [0, 2, 3, 4, 5, 20] (e' := [(0, .string (str s)), (2, .bool false), (3, .bool true), (4, .pointer (some ⟨g6, 0, none⟩)), (5, .iface 35 (.int .i64 3)), (20, .bool true)]) (by kernel_rfl) ?_
  refine WQ.thenN ?_
  refine WE.condT (by kernel_rfl) ?_
  refine WE.seq ?_
  refine WE.region ?_
  refine WO.run 7 0 [(27, .bool true), (26, .bool true), (25, .bool true), (24, .iface 35 (.int .i64 3)), (23, .iface 35 (.int .i64 3)), (22, .bool true), (21, .bool true)] (by kernel_rfl) (by kernel_rfl) ?_
  refine WO.ldB (SQ.S 7 (by kernel_rfl)) 28 [.string (⟨#[]⟩), .slice none 0 0, .int .i64 0, .int .i64 0, .int .i64 0] g6 0 (by kernel_rfl) (by kernel_rfl) (same HB13) (by kernel_rfl) ?_
  refine WO.run 1 8 [(29, .agg #[.string (⟨#[]⟩), .slice none 0 0, .int .i64 0, .int .i64 0, .int .i64 0])] (by kernel_rfl) (by kernel_rfl) ?_
  refine WO.call (SQ.E 9 (by kernel_rfl)) 30 (by kernel_rfl) (same_z _) ?_
  rintro _ w14 ⟨rfl, F15⟩
  refine ⟨_, rfl, trivial, ?_⟩
  have HB13 := Blk.keep HB13 F15 (nin0 _)
  have HE := HE.keep F15 (nin0 _)
  have HS := var_keep 3 (by kernel_rfl) HS F15 (nin0 _)
  have HR := var_keep 4 (by kernel_rfl) HR F15 (nin0 _)
  have HTab := tab_keep HTab F15 (nin0 _)
  have HA := Fr.step0 HA F15
  refine WO.run 2 10 [(2, .bool true), (31, .bool true)] (by kernel_rfl) (by kernel_rfl) ?_
  refine WO.done (by kernel_rfl) ?_
  refine WQ.keep [0, 2, 3, 4, 5] (e' := [(0, .string (str s)), (2, .bool true), (3, .bool true), (4, .pointer (some ⟨g6, 0, none⟩)), (5, .iface 35 (.int .i64 3))]) (by kernel_rfl) ?_
  refine WQ.thenN ?_
  refine WE.ret ?_
  refine WQ.thenR ?_
  refine WQ.ret (v := .bool true) (by kernel_rfl) ?_
  exact ⟨rfl, HA⟩
 cases hps_ : parseP s
 rotate_left
 ·
  rename_i q
  have hps := hps_
  refine WO.call (SQ.E 1 (by kernel_rfl)) 15 (by kernel_rfl) (parse_l s _ (by omega) HS HR) ?_
  intro e_ w16 hr_
  rw [hps] at hr_
  obtain ⟨g18, rfl, HB19, hg20, F17⟩ := hr_
  refine ⟨_, rfl, trivial, ?_⟩
  have ne_0_g18 : 0 ≠ g18 := Nat.ne_of_lt (Nat.lt_of_lt_of_le HE.lt hg20)
  have ne_3_g18 : 3 ≠ g18 := Nat.ne_of_lt (Nat.lt_of_lt_of_le (var_lt 3 (by kernel_rfl) HS) hg20)
  have ne_4_g18 : 4 ≠ g18 := Nat.ne_of_lt (Nat.lt_of_lt_of_le (var_lt 4 (by kernel_rfl) HR) hg20)
  have ne_2_g18 : 2 ≠ g18 := Nat.ne_of_lt (Nat.lt_of_lt_of_le (tab_lt HTab) hg20)
  have ge_HA_g18 := Nat.le_trans HA.size hg20
  have HE := HE.keep F17 (nin0 _)
  have HS := var_keep 3 (by kernel_rfl) HS F17 (nin0 _)
  have HR := var_keep 4 (by kernel_rfl) HR F17 (nin0 _)
  have HTab := tab_keep HTab F17 (nin0 _)
  have HA := Fr.step0 HA F17
  refine WO.run 3 2 [(17, .iface 67 (.pointer (some ⟨g18, 0, none⟩))), (16, .agg #[.string (⟨#[]⟩), .slice none 0 0, .int .i64 0, .int .i64 0, .int .i64 0]), (13, .tuple #[.agg #[.string (⟨#[]⟩), .slice none 0 0, .int .i64 0, .int .i64 0, .int .i64 0], .iface 67 (.pointer (some ⟨g18, 0, none⟩))])] (by kernel_rfl) (by kernel_rfl) ?_
  refine WO.bx (SQ.E 5 (by kernel_rfl)) 4 #[.string (⟨#[]⟩), .slice none 0 0, .int .i64 0, .int .i64 0, .int .i64 0] 25 (fun g => .pointer (some ⟨g, 0, none⟩)) (by kernel_rfl) (fun _ _ => trivial) ?_
  intro g21 w22 HB24 F23 le25 _
  have ne_g18_g21 : g18 ≠ g21 := Nat.ne_of_lt (Nat.lt_of_lt_of_le HB19.lt le25)
  have ne_0_g21 : 0 ≠ g21 := Nat.ne_of_lt (Nat.lt_of_lt_of_le HE.lt le25)
  have ne_3_g21 : 3 ≠ g21 := Nat.ne_of_lt (Nat.lt_of_lt_of_le (var_lt 3 (by kernel_rfl) HS) le25)
  have ne_4_g21 : 4 ≠ g21 := Nat.ne_of_lt (Nat.lt_of_lt_of_le (var_lt 4 (by kernel_rfl) HR) le25)
  have ne_2_g21 : 2 ≠ g21 := Nat.ne_of_lt (Nat.lt_of_lt_of_le (tab_lt HTab) le25)
  have ge_HA_g21 := Nat.le_trans HA.size le25
  have HB19 := Blk.keep HB19 F23 (nin0 _)
  have HE := HE.keep F23 (nin0 _)
  have HS := var_keep 3 (by kernel_rfl) HS F23 (nin0 _)
  have HR := var_keep 4 (by kernel_rfl) HR F23 (nin0 _)
  have HTab := tab_keep HTab F23 (nin0 _)
  have HA := Fr.step0 HA F23
  refine WO.st (SQ.E 6 (by kernel_rfl)) g21 0 [.string (⟨#[]⟩), .slice none 0 0, .int .i64 0, .int .i64 0, .int .i64 0] #[.string (⟨#[]⟩), .slice none 0 0, .int .i64 0, .int .i64 0, .int .i64 0] (by kernel_rfl) HB24 (by kernel_rfl) (by kernel_rfl) (fun _ _ => trivial) ?_
  intro w26 HB28 F27 _
  have HB19 := Blk.keep HB19 F27 (ninC ne_g18_g21 (nin0 _))
  have HE := HE.keep F27 (ninC ne_0_g21 (nin0 _))
  have HS := var_keep 3 (by kernel_rfl) HS F27 (ninC ne_3_g21 (nin0 _))
  have HR := var_keep 4 (by kernel_rfl) HR F27 (ninC ne_4_g21 (nin0 _))
  have HTab := tab_keep HTab F27 (ninC ne_2_g21 (nin0 _))
  have HA := Fr.step HA F27 (inSR ge_HA_g21 inS0)
  refine WO.run 1 7 [(5, .iface 67 (.pointer (some ⟨g18, 0, none⟩)))] (by kernel_rfl) (by kernel_rfl) ?_
  refine WO.done (by kernel_rfl) ?_
  refine WQ.keep [0, 2, 3, 4, 5] (e' := [(0, .string (str s)), (2, .bool false), (3, .bool true), (4, .pointer (some ⟨g21, 0, none⟩)), (5, .iface 67 (.pointer (some ⟨g18, 0, none⟩)))]) (by kernel_rfl) ?_
  refine WQ.thenN ?_
  refine WE.seq ?_
  refine WE.seq ?_
  refine WE.region ?_
  refine WO.run 2 0 [(19, .int .i64 (s.length : Int)), (18, .string (str s))] (by kernel_rfl) (by kernel_rfl) ?_
  refine WO.one (SQ.F 2 (by kernel_rfl)) 20 (.bool (decide (((s.length : Int) : Int) > (300 : Int)))) (by kernel_rfl) ?_
  refine WO.topPF (((s.length : Int) : Int) > (300 : Int)) (by omega) ?_
  refine WO.done (by kernel_rfl) ?_
  refine WQ.keep [0, 2, 3, 4, 5, 20] (e' := [(0, .string (str s)), (2, .bool false), (3, .bool true), (4, .pointer (some ⟨g21, 0, none⟩)), (5, .iface 67 (.pointer (some ⟨g18, 0, none⟩))), (20, .bool false)]) (by kernel_rfl) ?_
  refine WQ.thenN ?_
  refine WE.condF (by kernel_rfl) ?_
  refine WE.skip ?_
  refine WQ.thenN ?_
  refine WE.seq ?_
  refine WE.region ?_
  refine WO.run 1 0 [(33, .string (str s))] (by kernel_rfl) (by kernel_rfl) ?_
  refine WO.call (SQ.E 1 (by kernel_rfl)) 34 (by kernel_rfl) (parse_r s _ (by omega)) ?_
  intro e_ w29 hr_
  rw [hps_] at hr_
  obtain ⟨rfl, F30⟩ := hr_
  refine ⟨_, rfl, trivial, ?_⟩
  have HB19 := Blk.keep HB19 F30 (nin0 _)
  have HB28 := Blk.keep HB28 F30 (nin0 _)
  have HE := HE.keep F30 (nin0 _)
  have HS := var_keep 3 (by kernel_rfl) HS F30 (nin0 _)
  have HR := var_keep 4 (by kernel_rfl) HR F30 (nin0 _)
  have HTab := tab_keep HTab F30 (nin0 _)
  have HA := Fr.step0 HA F30
  refine WO.run 3 2 [(36, .int .i64 ((q : Nat) : Int)), (35, .agg #[.string (⟨#[]⟩), .slice none 0 0, .int .i64 0, .int .i64 0, .int .i64 0]), (32, .tuple #[.agg #[.string (⟨#[]⟩), .slice none 0 0, .int .i64 0, .int .i64 0, .int .i64 0], .int .i64 ((q : Nat) : Int)])] (by kernel_rfl) (by kernel_rfl) ?_
  refine WO.bx (SQ.E 5 (by kernel_rfl)) 6 #[.string (⟨#[]⟩), .slice none 0 0, .int .i64 0, .int .i64 0, .int .i64 0] 25 (fun g => .pointer (some ⟨g, 0, none⟩)) (by kernel_rfl) (fun _ _ => trivial) ?_
  intro g31 w32 HB34 F33 le35 _
  have ne_g18_g31 : g18 ≠ g31 := Nat.ne_of_lt (Nat.lt_of_lt_of_le HB19.lt le35)
  have ne_g21_g31 : g21 ≠ g31 := Nat.ne_of_lt (Nat.lt_of_lt_of_le HB28.lt le35)
  have ne_0_g31 : 0 ≠ g31 := Nat.ne_of_lt (Nat.lt_of_lt_of_le HE.lt le35)
  have ne_3_g31 : 3 ≠ g31 := Nat.ne_of_lt (Nat.lt_of_lt_of_le (var_lt 3 (by kernel_rfl) HS) le35)
  have ne_4_g31 : 4 ≠ g31 := Nat.ne_of_lt (Nat.lt_of_lt_of_le (var_lt 4 (by kernel_rfl) HR) le35)
  have ne_2_g31 : 2 ≠ g31 := Nat.ne_of_lt (Nat.lt_of_lt_of_le (tab_lt HTab) le35)
  have ge_HA_g31 := Nat.le_trans HA.size le35
  have HB19 := Blk.keep HB19 F33 (nin0 _)
  have HB28 := Blk.keep HB28 F33 (nin0 _)
  have HE := HE.keep F33 (nin0 _)
  have HS := var_keep 3 (by kernel_rfl) HS F33 (nin0 _)
  have HR := var_keep 4 (by kernel_rfl) HR F33 (nin0 _)
  have HTab := tab_keep HTab F33 (nin0 _)
  have HA := Fr.step0 HA F33
  refine WO.st (SQ.E 6 (by kernel_rfl)) g31 0 [.string (⟨#[]⟩), .slice none 0 0, .int .i64 0, .int .i64 0, .int .i64 0] #[.string (⟨#[]⟩), .slice none 0 0, .int .i64 0, .int .i64 0, .int .i64 0] (by kernel_rfl) HB34 (by kernel_rfl) (by kernel_rfl) (fun _ _ => trivial) ?_
  intro w36 HB38 F37 _
  have HB19 := Blk.keep HB19 F37 (ninC ne_g18_g31 (nin0 _))
  have HB28 := Blk.keep HB28 F37 (ninC ne_g21_g31 (nin0 _))
  have HE := HE.keep F37 (ninC ne_0_g31 (nin0 _))
  have HS := var_keep 3 (by kernel_rfl) HS F37 (ninC ne_3_g31 (nin0 _))
  have HR := var_keep 4 (by kernel_rfl) HR F37 (ninC ne_4_g31 (nin0 _))
  have HTab := tab_keep HTab F37 (ninC ne_2_g31 (nin0 _))
  have HA := Fr.step HA F37 (inSR ge_HA_g31 inS0)
  refine WO.run 1 7 [(7, .int .i64 ((q : Nat) : Int))] (by kernel_rfl) (by kernel_rfl) ?_
  refine WO.done (by kernel_rfl) ?_
  refine WQ.keep [2, 3, 4, 5, 6, 7] (e' := [(2, .bool false), (3, .bool true), (4, .pointer (some ⟨g21, 0, none⟩)), (5, .iface 67 (.pointer (some ⟨g18, 0, none⟩))), (6, .pointer (some ⟨g31, 0, none⟩)), (7, .int .i64 ((q : Nat) : Int))]) (by kernel_rfl) ?_
  refine WQ.thenN ?_
  refine WE.seq ?_
  refine WE.seq ?_
  refine WE.region ?_
  refine WO.run 1 0 [(37, .int .i64 ((q : Nat) : Int))] (by kernel_rfl) (by kernel_rfl) ?_
  refine WO.one (SQ.F 1 (by kernel_rfl)) 38 (.bool (decide (((q : Int) : Int) ≥ (0 : Int)))) (by kernel_rfl) ?_
  refine WO.topPT (((q : Int) : Int) ≥ (0 : Int)) (by omega) ?_
  refine WO.done (by kernel_rfl) ?_
  refine WQ.keep [2, 3, 4, 5, 6, 7, 38] (e' := [(2, .bool false), (3, .bool true), (4, .pointer (some ⟨g21, 0, none⟩)), (5, .iface 67 (.pointer (some ⟨g18, 0, none⟩))), (6, .pointer (some ⟨g31, 0, none⟩)), (7, .int .i64 ((q : Nat) : Int)), (38, .bool true)]) (by kernel_rfl) ?_
  refine WQ.thenN ?_
  refine WE.condT (by kernel_rfl) ?_
  refine WE.seq ?_
  refine WE.region ?_
  refine WO.run 4 0 [(42, .int .i64 ((q : Nat) : Int)), (41, .iface 67 (.pointer (some ⟨g18, 0, none⟩))), (40, .bool true), (39, .bool true)] (by kernel_rfl) (by kernel_rfl) ?_
  refine WO.call (SQ.E 4 (by kernel_rfl)) 43 (by kernel_rfl) (Errs.law_is g18 (((q : Nat) : Int) : Int) (((q : Nat) : Int) : Int) 2 _ HB19 HE) ?_
  rintro _ w39 ⟨rfl, HB19, F40⟩
  rw [decide_eq_true (show (((q : Nat) : Int) : Int) = (((q : Nat) : Int) : Int) by omega)]
  refine ⟨_, rfl, trivial, ?_⟩
  have HB28 := Blk.keep HB28 F40 (nin0 _)
  have HB38 := Blk.keep HB38 F40 (nin0 _)
  have HE := HE.keep F40 (nin0 _)
  have HS := var_keep 3 (by kernel_rfl) HS F40 (nin0 _)
  have HR := var_keep 4 (by kernel_rfl) HR F40 (nin0 _)
  have HTab := tab_keep HTab F40 (nin0 _)
  have HA := Fr.step0 HA F40
  refine WO.run 2 5 [(45, .bool true), (44, .bool true)] (by kernel_rfl) (by kernel_rfl) ?_
  refine WO.ldB (SQ.S 7 (by kernel_rfl)) 46 [.string (⟨#[]⟩), .slice none 0 0, .int .i64 0, .int .i64 0, .int .i64 0] g21 0 (by kernel_rfl) (by kernel_rfl) (same HB28) (by kernel_rfl) ?_
  refine WO.run 1 8 [(47, .agg #[.string (⟨#[]⟩), .slice none 0 0, .int .i64 0, .int .i64 0, .int .i64 0])] (by kernel_rfl) (by kernel_rfl) ?_
  refine WO.call (SQ.E 9 (by kernel_rfl)) 48 (by kernel_rfl) (same_z _) ?_
  rintro _ w41 ⟨rfl, F42⟩
  refine ⟨_, rfl, trivial, ?_⟩
  have HB28 := Blk.keep HB28 F42 (nin0 _)
  have HB38 := Blk.keep HB38 F42 (nin0 _)
  have HB19 := Blk.keep HB19 F42 (nin0 _)
  have HE := HE.keep F42 (nin0 _)
  have HS := var_keep 3 (by kernel_rfl) HS F42 (nin0 _)
  have HR := var_keep 4 (by kernel_rfl) HR F42 (nin0 _)
  have HTab := tab_keep HTab F42 (nin0 _)
  have HA := Fr.step0 HA F42
  refine WO.run 2 10 [(2, .bool true), (49, .bool true)] (by kernel_rfl) (by kernel_rfl) ?_
  refine WO.done (by kernel_rfl) ?_
  refine WQ.keep [2, 3, 4, 5, 6] (e' := [(2, .bool true), (3, .bool true), (4, .pointer (some ⟨g21, 0, none⟩)), (5, .iface 67 (.pointer (some ⟨g18, 0, none⟩))), (6, .pointer (some ⟨g31, 0, none⟩))]) (by kernel_rfl) ?_
  refine WQ.thenN ?_
  refine WE.ret ?_
  refine WQ.thenR ?_
  refine WQ.ret (v := .bool true) (by kernel_rfl) ?_
  exact ⟨rfl, HA⟩
 ·
  rename_i ev
  refine WO.call (SQ.E 1 (by kernel_rfl)) 15 (by kernel_rfl) (parse_l s _ (by omega) HS HR) ?_
  intro e_ w43 hr_
  rw [hps_] at hr_
  obtain ⟨A1_, n1_, c1_, F1_, rfl, HT1_, hn1_, hc1_, hg1_, F44⟩ := hr_
  refine ⟨_, rfl, trivial, ?_⟩
  have hg1r_ := fun y hy => Or.inr (a := y ∈ ([] : List Nat)) (hg1_ y hy)
  have nin_0_F1_ : 0 ∉ F1_ := grow_nin hg1r_ (nin0 _) (HE.lt)
  have nin_3_F1_ : 3 ∉ F1_ := grow_nin hg1r_ (nin0 _) ((var_lt 3 (by kernel_rfl) HS))
  have nin_4_F1_ : 4 ∉ F1_ := grow_nin hg1r_ (nin0 _) ((var_lt 4 (by kernel_rfl) HR))
  have nin_2_F1_ : 2 ∉ F1_ := grow_nin hg1r_ (nin0 _) ((tab_lt HTab))
  have ge_HA_F1_ : ∀ y ∈ F1_, (World.heap w).size ≤ y := grow_ge hg1r_ (by simp) HA.size
  have HE := HE.keep F44 (nin0 _)
  have HS := var_keep 3 (by kernel_rfl) HS F44 (nin0 _)
  have HR := var_keep 4 (by kernel_rfl) HR F44 (nin0 _)
  have HTab := tab_keep HTab F44 (nin0 _)
  have HA := Fr.step0 HA F44
  refine WO.run 3 2 [(17, .nilIface), (16, .agg #[.string (str ev.name), .slice A1_ n1_ c1_, .int .i64 ev.kind, .int .i64 ev.value, .int .i64 ev.time]), (13, .tuple #[.agg #[.string (str ev.name), .slice A1_ n1_ c1_, .int .i64 ev.kind, .int .i64 ev.value, .int .i64 ev.time], .nilIface])] (by kernel_rfl) (by kernel_rfl) ?_
  refine WO.bx (SQ.E 5 (by kernel_rfl)) 4 #[.string (⟨#[]⟩), .slice none 0 0, .int .i64 0, .int .i64 0, .int .i64 0] 25 (fun g => .pointer (some ⟨g, 0, none⟩)) (by kernel_rfl) (fun _ _ => trivial) ?_
  intro g45 w46 HB48 F47 le49 _
  have nin_g45_F1_ : g45 ∉ F1_ := new_nin HT1_.lt le49
  have ne_0_g45 : 0 ≠ g45 := Nat.ne_of_lt (Nat.lt_of_lt_of_le HE.lt le49)
  have ne_3_g45 : 3 ≠ g45 := Nat.ne_of_lt (Nat.lt_of_lt_of_le (var_lt 3 (by kernel_rfl) HS) le49)
  have ne_4_g45 : 4 ≠ g45 := Nat.ne_of_lt (Nat.lt_of_lt_of_le (var_lt 4 (by kernel_rfl) HR) le49)
  have ne_2_g45 : 2 ≠ g45 := Nat.ne_of_lt (Nat.lt_of_lt_of_le (tab_lt HTab) le49)
  have ge_HA_g45 := Nat.le_trans HA.size le49
  have HT1_ := HT1_.keep F47 (fun _ _ => nin0 _)
  have HE := HE.keep F47 (nin0 _)
  have HS := var_keep 3 (by kernel_rfl) HS F47 (nin0 _)
  have HR := var_keep 4 (by kernel_rfl) HR F47 (nin0 _)
  have HTab := tab_keep HTab F47 (nin0 _)
  have HA := Fr.step0 HA F47
  refine WO.st (SQ.E 6 (by kernel_rfl)) g45 0 [.string (str ev.name), .slice A1_ n1_ c1_, .int .i64 ev.kind, .int .i64 ev.value, .int .i64 ev.time] #[.string (str ev.name), .slice A1_ n1_ c1_, .int .i64 ev.kind, .int .i64 ev.value, .int .i64 ev.time] (by kernel_rfl) HB48 (by kernel_rfl) (by kernel_rfl) (fun _ _ => trivial) ?_
  intro w50 HB52 F51 _
  have HT1_ := HT1_.keep F51 (djB nin_g45_F1_)
  have HE := HE.keep F51 (ninC ne_0_g45 (nin0 _))
  have HS := var_keep 3 (by kernel_rfl) HS F51 (ninC ne_3_g45 (nin0 _))
  have HR := var_keep 4 (by kernel_rfl) HR F51 (ninC ne_4_g45 (nin0 _))
  have HTab := tab_keep HTab F51 (ninC ne_2_g45 (nin0 _))
  have HA := Fr.step HA F51 (inSR ge_HA_g45 inS0)
  refine WO.run 1 7 [(5, .nilIface)] (by kernel_rfl) (by kernel_rfl) ?_
  refine WO.done (by kernel_rfl) ?_
  refine WQ.keep [0, 2, 3, 4, 5] (e' := [(0, .string (str s)), (2, .bool false), (3, .bool true), (4, .pointer (some ⟨g45, 0, none⟩)), (5, .nilIface)]) (by kernel_rfl) ?_
  refine WQ.thenN ?_
  refine WE.seq ?_
  refine WE.seq ?_
  refine WE.region ?_
  refine WO.run 2 0 [(19, .int .i64 (s.length : Int)), (18, .string (str s))] (by kernel_rfl) (by kernel_rfl) ?_
  refine WO.one (SQ.F 2 (by kernel_rfl)) 20 (.bool (decide (((s.length : Int) : Int) > (300 : Int)))) (by kernel_rfl) ?_
  refine WO.topPF (((s.length : Int) : Int) > (300 : Int)) (by omega) ?_
  refine WO.done (by kernel_rfl) ?_
  refine WQ.keep [0, 2, 3, 4, 5, 20] (e' := [(0, .string (str s)), (2, .bool false), (3, .bool true), (4, .pointer (some ⟨g45, 0, none⟩)), (5, .nilIface), (20, .bool false)]) (by kernel_rfl) ?_
  refine WQ.thenN ?_
  refine WE.condF (by kernel_rfl) ?_
  refine WE.skip ?_
  refine WQ.thenN ?_
  refine WE.seq ?_
  refine WE.region ?_
  refine WO.run 1 0 [(33, .string (str s))] (by kernel_rfl) (by kernel_rfl) ?_
  refine WO.call (SQ.E 1 (by kernel_rfl)) 34 (by kernel_rfl) (parse_r s _ (by omega)) ?_
  intro e_ w53 hr_
  rw [hps_] at hr_
  obtain ⟨A2_, n2_, c2_, F2_, rfl, HT2_, hn2_, hc2_, hg2_, F54⟩ := hr_
  refine ⟨_, rfl, trivial, ?_⟩
  have hg2r_ := fun y hy => Or.inr (a := y ∈ ([] : List Nat)) (hg2_ y hy)
  have nin_g45_F2_ : g45 ∉ F2_ := grow_nin hg2r_ (nin0 _) HB52.lt
  have nin_0_F2_ : 0 ∉ F2_ := grow_nin hg2r_ (nin0 _) (HE.lt)
  have nin_3_F2_ : 3 ∉ F2_ := grow_nin hg2r_ (nin0 _) ((var_lt 3 (by kernel_rfl) HS))
  have nin_4_F2_ : 4 ∉ F2_ := grow_nin hg2r_ (nin0 _) ((var_lt 4 (by kernel_rfl) HR))
  have nin_2_F2_ : 2 ∉ F2_ := grow_nin hg2r_ (nin0 _) ((tab_lt HTab))
  have dj_F2__F1_ : ∀ y ∈ F2_, y ∉ F1_ := grow_dj hg2r_ (by simp) HT1_.lt
  have ge_HA_F2_ : ∀ y ∈ F2_, (World.heap w).size ≤ y := grow_ge hg2r_ (by simp) HA.size
  have HB52 := Blk.keep HB52 F54 (nin0 _)
  have HT1_ := HT1_.keep F54 (fun _ _ => nin0 _)
  have HE := HE.keep F54 (nin0 _)
  have HS := var_keep 3 (by kernel_rfl) HS F54 (nin0 _)
  have HR := var_keep 4 (by kernel_rfl) HR F54 (nin0 _)
  have HTab := tab_keep HTab F54 (nin0 _)
  have HA := Fr.step0 HA F54
  refine WO.run 3 2 [(36, .int .i64 (-1)), (35, .agg #[.string (str ev.name), .slice A2_ n2_ c2_, .int .i64 ev.kind, .int .i64 ev.value, .int .i64 ev.time]), (32, .tuple #[.agg #[.string (str ev.name), .slice A2_ n2_ c2_, .int .i64 ev.kind, .int .i64 ev.value, .int .i64 ev.time], .int .i64 (-1)])] (by kernel_rfl) (by kernel_rfl) ?_
  refine WO.bx (SQ.E 5 (by kernel_rfl)) 6 #[.string (⟨#[]⟩), .slice none 0 0, .int .i64 0, .int .i64 0, .int .i64 0] 25 (fun g => .pointer (some ⟨g, 0, none⟩)) (by kernel_rfl) (fun _ _ => trivial) ?_
  intro g55 w56 HB58 F57 le59 _
  have ne_g45_g55 : g45 ≠ g55 := Nat.ne_of_lt (Nat.lt_of_lt_of_le HB52.lt le59)
  have nin_g55_F1_ : g55 ∉ F1_ := new_nin HT1_.lt le59
  have nin_g55_F2_ : g55 ∉ F2_ := new_nin HT2_.lt le59
  have ne_0_g55 : 0 ≠ g55 := Nat.ne_of_lt (Nat.lt_of_lt_of_le HE.lt le59)
  have ne_3_g55 : 3 ≠ g55 := Nat.ne_of_lt (Nat.lt_of_lt_of_le (var_lt 3 (by kernel_rfl) HS) le59)
  have ne_4_g55 : 4 ≠ g55 := Nat.ne_of_lt (Nat.lt_of_lt_of_le (var_lt 4 (by kernel_rfl) HR) le59)
  have ne_2_g55 : 2 ≠ g55 := Nat.ne_of_lt (Nat.lt_of_lt_of_le (tab_lt HTab) le59)
  have ge_HA_g55 := Nat.le_trans HA.size le59
  have HB52 := Blk.keep HB52 F57 (nin0 _)
  have HT1_ := HT1_.keep F57 (fun _ _ => nin0 _)
  have HT2_ := HT2_.keep F57 (fun _ _ => nin0 _)
  have HE := HE.keep F57 (nin0 _)
  have HS := var_keep 3 (by kernel_rfl) HS F57 (nin0 _)
  have HR := var_keep 4 (by kernel_rfl) HR F57 (nin0 _)
  have HTab := tab_keep HTab F57 (nin0 _)
  have HA := Fr.step0 HA F57
  refine WO.st (SQ.E 6 (by kernel_rfl)) g55 0 [.string (str ev.name), .slice A2_ n2_ c2_, .int .i64 ev.kind, .int .i64 ev.value, .int .i64 ev.time] #[.string (str ev.name), .slice A2_ n2_ c2_, .int .i64 ev.kind, .int .i64 ev.value, .int .i64 ev.time] (by kernel_rfl) HB58 (by kernel_rfl) (by kernel_rfl) (fun _ _ => trivial) ?_
  intro w60 HB62 F61 _
  have HB52 := Blk.keep HB52 F61 (ninC ne_g45_g55 (nin0 _))
  have HT1_ := HT1_.keep F61 (djB nin_g55_F1_)
  have HT2_ := HT2_.keep F61 (djB nin_g55_F2_)
  have HE := HE.keep F61 (ninC ne_0_g55 (nin0 _))
  have HS := var_keep 3 (by kernel_rfl) HS F61 (ninC ne_3_g55 (nin0 _))
  have HR := var_keep 4 (by kernel_rfl) HR F61 (ninC ne_4_g55 (nin0 _))
  have HTab := tab_keep HTab F61 (ninC ne_2_g55 (nin0 _))
  have HA := Fr.step HA F61 (inSR ge_HA_g55 inS0)
  refine WO.run 1 7 [(7, .int .i64 (-1))] (by kernel_rfl) (by kernel_rfl) ?_
  refine WO.done (by kernel_rfl) ?_
  refine WQ.keep [2, 3, 4, 5, 6, 7] (e' := [(2, .bool false), (3, .bool true), (4, .pointer (some ⟨g45, 0, none⟩)), (5, .nilIface), (6, .pointer (some ⟨g55, 0, none⟩)), (7, .int .i64 (-1))]) (by kernel_rfl) ?_
  refine WQ.thenN ?_
  refine WE.seq ?_
  refine WE.seq ?_
  refine WE.region ?_
  refine WO.run 2 0 [(38, .bool false), (37, .int .i64 (-1))] (by kernel_rfl) (by kernel_rfl) ?_
  refine WO.done (by kernel_rfl) ?_
  refine WQ.keep [2, 3, 4, 5, 6, 7, 38] (e' := [(2, .bool false), (3, .bool true), (4, .pointer (some ⟨g45, 0, none⟩)), (5, .nilIface), (6, .pointer (some ⟨g55, 0, none⟩)), (7, .int .i64 (-1)), (38, .bool false)]) (by kernel_rfl) ?_
  refine WQ.thenN ?_
  refine WE.condF (by kernel_rfl) ?_
  refine WE.skip ?_
  refine WQ.thenN ?_
  refine WE.seq ?_
  have hmy_ := (parse_bwd hps_).1
  have h6_ := (may_parts hmy_).2.2.1
  refine WE.region ?_
  refine WO.run 6 0 [(55, .bool true), (54, .bool true), (53, .bool true), (52, .nilIface), (51, .bool true), (50, .bool true)] (by kernel_rfl) (by kernel_rfl) ?_
  refine WO.ldB (SQ.S 6 (by kernel_rfl)) 56 [.string (str ev.name), .slice A1_ n1_ c1_, .int .i64 ev.kind, .int .i64 ev.value, .int .i64 ev.time] g45 0 (by kernel_rfl) (by kernel_rfl) (same HB52) (by kernel_rfl) ?_
  refine WO.ldB (SQ.S 7 (by kernel_rfl)) 57 [.string (str ev.name), .slice A2_ n2_ c2_, .int .i64 ev.kind, .int .i64 ev.value, .int .i64 ev.time] g55 0 (by kernel_rfl) (by kernel_rfl) (same HB62) (by kernel_rfl) ?_
  refine WO.call (SQ.E 8 (by kernel_rfl)) 58 (by kernel_rfl) (same_t ev A1_ A2_ n1_ c1_ n2_ c2_ F1_ F2_ _ HT1_ hn1_ HT2_ hn2_ (by omega)) ?_
  rintro _ w63 ⟨rfl, F64⟩
  refine ⟨_, rfl, trivial, ?_⟩
  have HB52 := Blk.keep HB52 F64 (nin0 _)
  have HB62 := Blk.keep HB62 F64 (nin0 _)
  have HT1_ := HT1_.keep F64 (fun _ _ => nin0 _)
  have HT2_ := HT2_.keep F64 (fun _ _ => nin0 _)
  have HE := HE.keep F64 (nin0 _)
  have HS := var_keep 3 (by kernel_rfl) HS F64 (nin0 _)
  have HR := var_keep 4 (by kernel_rfl) HR F64 (nin0 _)
  have HTab := tab_keep HTab F64 (nin0 _)
  have HA := Fr.step0 HA F64
  refine WO.run 2 9 [(2, .bool true), (59, .bool true)] (by kernel_rfl) (by kernel_rfl) ?_
  refine WO.done (by kernel_rfl) ?_
  refine WQ.keep [2] (e' := [(2, .bool true)]) (by kernel_rfl) ?_
  refine WQ.thenN ?_
  refine WE.ret ?_
  refine WQ.ret (v := .bool true) (by kernel_rfl) ?_
  exact ⟨rfl, HA⟩
set_option maxRecDepth 100000 in
set_option maxHeartbeats 400000 in
theorem prints_any (ev : Ev) (A : Option Addr) (n cp : Nat) (F : List Nat) (w : World) (HT : VX cT 2 w F A ev.tags) (hn : ev.tags.length = n) (hnn : n ≤ 9223372036854775807) (hln : ev.name.length ≤ 9223372036854775807) (hlt : ∀ t ∈ ev.tags, t.1.length ≤ 9223372036854775807 ∧ t.2.length ≤ 9223372036854775807) (hv : -9223372036854775808 ≤ ev.value ∧ ev.value ≤ 9223372036854775807) (ht : -9223372036854775808 ≤ ev.time ∧ ev.time ≤ 9223372036854775807) (hPF : 2 ∉ F) (HE : Errs.ErrT w) (HS : VarI w "strconv.ErrSyntax") (HR : VarI w "strconv.ErrRange") (HTab : Lib.TabIs Tryd.prog w "internal/strconv.uint64pow10" .u64 Lib.pow10Tab) :
  Calls Tryd.prog 5 #[.agg #[.string (str ev.name), .slice A n cp, .int .i64 ev.kind, .int .i64 ev.value, .int .i64 ev.time]] w fun e w' => e = .returned (.bool true) ∧ Fr [] w w' := by
 have HA := Fr.refl [] w
 refine enter (N := 53) Tryd.func5 (c := _) rfl (by kernel_rfl) (by kernel_rfl) (e := [(0, .agg #[.string (str ev.name), .slice A n cp, .int .i64 ev.kind, .int .i64 ev.value, .int .i64 ev.time])]) (by kernel_rfl) ?_
 refine WE.seq ?_
 refine WE.region ?_
 refine WO.bx (SQ.E 0 (by kernel_rfl)) 1 #[.string (str ev.name), .slice A n cp, .int .i64 ev.kind, .int .i64 ev.value, .int .i64 ev.time] 25 (fun g => .pointer (some ⟨g, 0, none⟩)) (by kernel_rfl) (fun _ _ => trivial) ?_
 intro g1 w2 HB4 F3 le5 _
 have nin_g1_F : g1 ∉ F := new_nin HT.lt le5
 have ne_0_g1 : 0 ≠ g1 := Nat.ne_of_lt (Nat.lt_of_lt_of_le HE.lt le5)
 have ne_3_g1 : 3 ≠ g1 := Nat.ne_of_lt (Nat.lt_of_lt_of_le (var_lt 3 (by kernel_rfl) HS) le5)
 have ne_4_g1 : 4 ≠ g1 := Nat.ne_of_lt (Nat.lt_of_lt_of_le (var_lt 4 (by kernel_rfl) HR) le5)
 have ne_2_g1 : 2 ≠ g1 := Nat.ne_of_lt (Nat.lt_of_lt_of_le (tab_lt HTab) le5)
 have ge_HA_g1 := Nat.le_trans HA.size le5
 have HT := HT.keep F3 (fun _ _ => nin0 _)
 have HE := HE.keep F3 (nin0 _)
 have HS := var_keep 3 (by kernel_rfl) HS F3 (nin0 _)
 have HR := var_keep 4 (by kernel_rfl) HR F3 (nin0 _)
 have HTab := tab_keep HTab F3 (nin0 _)
 have HA := Fr.step0 HA F3
 refine WO.run 1 1 [(2, .bool false)] (by kernel_rfl) (by kernel_rfl) ?_
 refine WO.done (by kernel_rfl) ?_
 refine WQ.keep [1, 2] (e' := [(1, .pointer (some ⟨g1, 0, none⟩)), (2, .bool false)]) (by kernel_rfl) ?_
 refine WQ.thenN ?_
 refine WE.seq ?_
 refine WE.region ?_
 refine WO.call (SQ.E 0 (by kernel_rfl)) 8 (by kernel_rfl) (up_any _ HE HS HR HTab) ?_
 rintro _ w6 ⟨rfl, F7⟩
 refine ⟨_, rfl, trivial, ?_⟩
 have HB4 := Blk.keep HB4 F7 (nin0 _)
 have HT := HT.keep F7 (fun _ _ => nin0 _)
 have HE := HE.keep F7 (nin0 _)
 have HS := var_keep 3 (by kernel_rfl) HS F7 (nin0 _)
 have HR := var_keep 4 (by kernel_rfl) HR F7 (nin0 _)
 have HTab := tab_keep HTab F7 (nin0 _)
 have HA := Fr.step0 HA F7
 refine WO.run 1 1 [(3, .bool true)] (by kernel_rfl) (by kernel_rfl) ?_
 refine WO.done (by kernel_rfl) ?_
 refine WQ.keep [1, 2, 3] (e' := [(1, .pointer (some ⟨g1, 0, none⟩)), (2, .bool false), (3, .bool true)]) (by kernel_rfl) ?_
 refine WQ.thenN ?_
 refine WE.seq ?_
 refine WE.region ?_
 refine WO.ldB (SQ.S 0 (by kernel_rfl)) 9 [.string (str ev.name), .slice A n cp, .int .i64 ev.kind, .int .i64 ev.value, .int .i64 ev.time] g1 0 (by kernel_rfl) (by kernel_rfl) (same HB4) (by kernel_rfl) ?_
 refine WO.call (SQ.E 1 (by kernel_rfl)) 10 (by kernel_rfl) (few_f ev A n cp F _ HT hn hnn hln hlt) ?_
 rintro _ w8 ⟨rfl, F9⟩
 refine ⟨_, rfl, trivial, ?_⟩
 have HB4 := Blk.keep HB4 F9 (nin0 _)
 have HT := HT.keep F9 (fun _ _ => nin0 _)
 have HE := HE.keep F9 (nin0 _)
 have HS := var_keep 3 (by kernel_rfl) HS F9 (nin0 _)
 have HR := var_keep 4 (by kernel_rfl) HR F9 (nin0 _)
 have HTab := tab_keep HTab F9 (nin0 _)
 have HA := Fr.step0 HA F9
 rcases Bool.eq_false_or_eq_true (fewE ev) with hfew | hfew
 ·
  rw [hfew]
  refine WO.run 1 2 [(4, .bool true)] (by kernel_rfl) (by kernel_rfl) ?_
  refine WO.done (by kernel_rfl) ?_
  refine WQ.keep [1, 2, 3, 4] (e' := [(1, .pointer (some ⟨g1, 0, none⟩)), (2, .bool false), (3, .bool true), (4, .bool true)]) (by kernel_rfl) ?_
  refine WQ.thenN ?_
  refine WE.seq ?_
  refine WE.seq ?_
  refine WE.region ?_
  refine WO.run 2 0 [(12, .bool false), (11, .bool true)] (by kernel_rfl) (by kernel_rfl) ?_
  refine WO.done (by kernel_rfl) ?_
  refine WQ.keep [1, 2, 3, 12] (e' := [(1, .pointer (some ⟨g1, 0, none⟩)), (2, .bool false), (3, .bool true), (12, .bool false)]) (by kernel_rfl) ?_
  refine WQ.thenN ?_
  refine WE.condF (by kernel_rfl) ?_
  refine WE.skip ?_
  refine WQ.thenN ?_
  refine WE.seq ?_
  refine WE.region ?_
  refine WO.ldB (SQ.S 0 (by kernel_rfl)) 15 [.string (str ev.name), .slice A n cp, .int .i64 ev.kind, .int .i64 ev.value, .int .i64 ev.time] g1 0 (by kernel_rfl) (by kernel_rfl) (same HB4) (by kernel_rfl) ?_
  rcases Bool.eq_false_or_eq_true (mayE ev) with hmay | hmay
  ·
   obtain ⟨hp1, hp2, hp3, hp4, hp5⟩ := may_parts hmay
   refine WO.call (SQ.E 1 (by kernel_rfl)) 16 (by kernel_rfl) (print_l ev A n cp F _ HT hn hnn hln hlt hmay hfew hp4 hv ht HTab hPF) ?_
   rintro _ w10 ⟨rfl, F11⟩
   refine ⟨_, rfl, trivial, ?_⟩
   have HB4 := Blk.keep HB4 F11 (nin0 _)
   have HT := HT.keep F11 (fun _ _ => nin0 _)
   have HE := HE.keep F11 (nin0 _)
   have HS := var_keep 3 (by kernel_rfl) HS F11 (nin0 _)
   have HR := var_keep 4 (by kernel_rfl) HR F11 (nin0 _)
   have HTab := tab_keep HTab F11 (nin0 _)
   have HA := Fr.step0 HA F11
   refine WO.run 5 2 [(6, .nilIface), (5, .string (str (printT ev))), (18, .nilIface), (17, .string (str (printT ev))), (14, .tuple #[.string (str (printT ev)), .nilIface])] (by kernel_rfl) (by kernel_rfl) ?_
   refine WO.done (by kernel_rfl) ?_
   refine WQ.keep [1, 2, 3, 5, 6] (e' := [(1, .pointer (some ⟨g1, 0, none⟩)), (2, .bool false), (3, .bool true), (5, .string (str (printT ev))), (6, .nilIface)]) (by kernel_rfl) ?_
   refine WQ.thenN ?_
   refine WE.seq ?_
   refine WE.region ?_
   refine WO.ldB (SQ.S 0 (by kernel_rfl)) 19 [.string (str ev.name), .slice A n cp, .int .i64 ev.kind, .int .i64 ev.value, .int .i64 ev.time] g1 0 (by kernel_rfl) (by kernel_rfl) (same HB4) (by kernel_rfl) ?_
   refine WO.call (SQ.E 1 (by kernel_rfl)) 20 (by kernel_rfl) (may_r ev A n cp F _ HT hn hnn hln hlt) ?_
   rintro _ w12 ⟨rfl, F13⟩
   rw [hmay]
   refine ⟨_, rfl, trivial, ?_⟩
   have HB4 := Blk.keep HB4 F13 (nin0 _)
   have HT := HT.keep F13 (fun _ _ => nin0 _)
   have HE := HE.keep F13 (nin0 _)
   have HS := var_keep 3 (by kernel_rfl) HS F13 (nin0 _)
   have HR := var_keep 4 (by kernel_rfl) HR F13 (nin0 _)
   have HTab := tab_keep HTab F13 (nin0 _)
   have HA := Fr.step0 HA F13
   refine WO.run 1 2 [(7, .bool true)] (by kernel_rfl) (by kernel_rfl) ?_
   refine WO.done (by kernel_rfl) ?_
   refine WQ.keep [1, 2, 3, 5, 6, 7] (e' := [(1, .pointer (some ⟨g1, 0, none⟩)), (2, .bool false), (3, .bool true), (5, .string (str (printT ev))), (6, .nilIface), (7, .bool true)]) (by kernel_rfl) ?_
   refine WQ.thenN ?_
   refine WE.seq ?_
   refine WE.seq ?_
   refine WE.region ?_
   refine WO.run 2 0 [(22, .bool false), (21, .bool true)] (by kernel_rfl) (by kernel_rfl) ?_
   refine WO.done (by kernel_rfl) ?_
   refine WQ.keep [1, 2, 3, 5, 6, 22] (e' := [(1, .pointer (some ⟨g1, 0, none⟩)), (2, .bool false), (3, .bool true), (5, .string (str (printT ev))), (6, .nilIface), (22, .bool false)]) (by kernel_rfl) ?_
   refine WQ.thenN ?_
   refine WE.condF (by kernel_rfl) ?_
   refine WE.skip ?_
   refine WQ.thenN ?_
   refine WE.seq ?_
   refine WE.region ?_
   refine WO.run 2 0 [(39, .bool true), (38, .bool true)] (by kernel_rfl) (by kernel_rfl) ?_
   refine WO.ldB (SQ.S 2 (by kernel_rfl)) 40 [.string (str ev.name), .slice A n cp, .int .i64 ev.kind, .int .i64 ev.value, .int .i64 ev.time] g1 0 (by kernel_rfl) (by kernel_rfl) (same HB4) (by kernel_rfl) ?_
   refine WO.call (SQ.E 3 (by kernel_rfl)) 41 (by kernel_rfl) (may_l ev A n cp F _ HT hn hnn hln hlt) ?_
   rintro _ w14 ⟨rfl, F15⟩
   rw [hmay]
   refine ⟨_, rfl, trivial, ?_⟩
   have HB4 := Blk.keep HB4 F15 (nin0 _)
   have HT := HT.keep F15 (fun _ _ => nin0 _)
   have HE := HE.keep F15 (nin0 _)
   have HS := var_keep 3 (by kernel_rfl) HS F15 (nin0 _)
   have HR := var_keep 4 (by kernel_rfl) HR F15 (nin0 _)
   have HTab := tab_keep HTab F15 (nin0 _)
   have HA := Fr.step0 HA F15
   refine WO.run 7 4 [(48, .string (str (printT ev))), (47, .bool true), (46, .bool true), (45, .bool true), (44, .nilIface), (43, .bool true), (42, .bool true)] (by kernel_rfl) (by kernel_rfl) ?_
   refine WO.ldB (SQ.S 11 (by kernel_rfl)) 49 [.string (str ev.name), .slice A n cp, .int .i64 ev.kind, .int .i64 ev.value, .int .i64 ev.time] g1 0 (by kernel_rfl) (by kernel_rfl) (same HB4) (by kernel_rfl) ?_
   refine WO.call (SQ.E 12 (by kernel_rfl)) 50 (by kernel_rfl) (print_r ev A n cp F _ HT hn hnn hfew hp4 hv ht) ?_
   rintro _ w16 ⟨rfl, F17⟩
   refine ⟨_, rfl, trivial, ?_⟩
   have HB4 := Blk.keep HB4 F17 (nin0 _)
   have HT := HT.keep F17 (fun _ _ => nin0 _)
   have HE := HE.keep F17 (nin0 _)
   have HS := var_keep 3 (by kernel_rfl) HS F17 (nin0 _)
   have HR := var_keep 4 (by kernel_rfl) HR F17 (nin0 _)
   have HTab := tab_keep HTab F17 (nin0 _)
   have HA := Fr.step0 HA F17
   refine WO.one (SQ.F 13 (by kernel_rfl)) 51 (.bool ((str (printT ev)).toList == (str (printT ev)).toList)) (by kernel_rfl) ?_
   refine WO.top (v' := .bool (decide ((str (printT ev)) = (str (printT ev))))) (congrArg Value.bool (streq (str (printT ev)) (str (printT ev)))) ?_
   refine WO.run 2 14 [(2, .bool (decide ((str (printT ev)) = (str (printT ev))))), (52, .bool (decide ((str (printT ev)) = (str (printT ev)))))] (by kernel_rfl) (by kernel_rfl) ?_
   refine WO.done (by kernel_rfl) ?_
   refine WQ.keep [2] (e' := [(2, .bool (decide ((str (printT ev)) = (str (printT ev)))))]) (by kernel_rfl) ?_
   refine WQ.thenN ?_
   refine WE.ret ?_
   refine WQ.ret (v := .bool (decide ((str (printT ev)) = (str (printT ev))))) (by kernel_rfl) ?_
   exact ⟨by rw [decide_eq_true rfl], HA⟩
  ·
   refine WO.call (SQ.E 1 (by kernel_rfl)) 16 (by kernel_rfl) (print_no ev A n cp F _ HT hn hnn hln hlt hmay) ?_
   rintro _ w18 ⟨rfl, F19⟩
   refine ⟨_, rfl, trivial, ?_⟩
   have HB4 := Blk.keep HB4 F19 (nin0 _)
   have HT := HT.keep F19 (fun _ _ => nin0 _)
   have HE := HE.keep F19 (nin0 _)
   have HS := var_keep 3 (by kernel_rfl) HS F19 (nin0 _)
   have HR := var_keep 4 (by kernel_rfl) HR F19 (nin0 _)
   have HTab := tab_keep HTab F19 (nin0 _)
   have HA := Fr.step0 HA F19
   refine WO.run 5 2 [(6, .iface 35 (.int .i64 1)), (5, .string (⟨#[]⟩)), (18, .iface 35 (.int .i64 1)), (17, .string (⟨#[]⟩)), (14, .tuple #[.string (⟨#[]⟩), .iface 35 (.int .i64 1)])] (by kernel_rfl) (by kernel_rfl) ?_
   refine WO.done (by kernel_rfl) ?_
   refine WQ.keep [1, 2, 3, 5, 6] (e' := [(1, .pointer (some ⟨g1, 0, none⟩)), (2, .bool false), (3, .bool true), (5, .string (⟨#[]⟩)), (6, .iface 35 (.int .i64 1))]) (by kernel_rfl) ?_
   refine WQ.thenN ?_
   refine WE.seq ?_
   refine WE.region ?_
   refine WO.ldB (SQ.S 0 (by kernel_rfl)) 19 [.string (str ev.name), .slice A n cp, .int .i64 ev.kind, .int .i64 ev.value, .int .i64 ev.time] g1 0 (by kernel_rfl) (by kernel_rfl) (same HB4) (by kernel_rfl) ?_
   refine WO.call (SQ.E 1 (by kernel_rfl)) 20 (by kernel_rfl) (may_r ev A n cp F _ HT hn hnn hln hlt) ?_
   rintro _ w20 ⟨rfl, F21⟩
   rw [hmay]
   refine ⟨_, rfl, trivial, ?_⟩
   have HB4 := Blk.keep HB4 F21 (nin0 _)
   have HT := HT.keep F21 (fun _ _ => nin0 _)
   have HE := HE.keep F21 (nin0 _)
   have HS := var_keep 3 (by kernel_rfl) HS F21 (nin0 _)
   have HR := var_keep 4 (by kernel_rfl) HR F21 (nin0 _)
   have HTab := tab_keep HTab F21 (nin0 _)
   have HA := Fr.step0 HA F21
   refine WO.run 1 2 [(7, .bool false)] (by kernel_rfl) (by kernel_rfl) ?_
   refine WO.done (by kernel_rfl) ?_
   refine WQ.keep [1, 2, 3, 5, 6, 7] (e' := [(1, .pointer (some ⟨g1, 0, none⟩)), (2, .bool false), (3, .bool true), (5, .string (⟨#[]⟩)), (6, .iface 35 (.int .i64 1)), (7, .bool false)]) (by kernel_rfl) ?_
   refine WQ.thenN ?_
   refine WE.seq ?_
   refine WE.seq ?_
   refine WE.region ?_
   refine WO.run 2 0 [(22, .bool true), (21, .bool false)] (by kernel_rfl) (by kernel_rfl) ?_
   refine WO.done (by kernel_rfl) ?_
   refine WQ.keep [1, 2, 3, 5, 6, 22] (e' := [(1, .pointer (some ⟨g1, 0, none⟩)), (2, .bool false), (3, .bool true), (5, .string (⟨#[]⟩)), (6, .iface 35 (.int .i64 1)), (22, .bool true)]) (by kernel_rfl) ?_
   refine WQ.thenN ?_
   refine WE.condT (by kernel_rfl) ?_
   refine WE.seq ?_
   refine WE.region ?_
   refine WO.run 2 0 [(24, .bool true), (23, .bool true)] (by kernel_rfl) (by kernel_rfl) ?_
   refine WO.ldB (SQ.S 2 (by kernel_rfl)) 25 [.string (str ev.name), .slice A n cp, .int .i64 ev.kind, .int .i64 ev.value, .int .i64 ev.time] g1 0 (by kernel_rfl) (by kernel_rfl) (same HB4) (by kernel_rfl) ?_
   refine WO.call (SQ.E 3 (by kernel_rfl)) 26 (by kernel_rfl) (may_l ev A n cp F _ HT hn hnn hln hlt) ?_
   rintro _ w22 ⟨rfl, F23⟩
   rw [hmay]
   refine ⟨_, rfl, trivial, ?_⟩
   have HB4 := Blk.keep HB4 F23 (nin0 _)
   have HT := HT.keep F23 (fun _ _ => nin0 _)
   have HE := HE.keep F23 (nin0 _)
   have HS := var_keep 3 (by kernel_rfl) HS F23 (nin0 _)
   have HR := var_keep 4 (by kernel_rfl) HR F23 (nin0 _)
   have HTab := tab_keep HTab F23 (nin0 _)
   have HA := Fr.step0 HA F23
   refine WO.run 9 4 [(35, .string (⟨#[]⟩)), (34, .bool true), (33, .bool true), (32, .bool true), (31, .iface 35 (.int .i64 1)), (30, .iface 35 (.int .i64 1)), (29, .bool true), (28, .bool true), (27, .bool true)] (by kernel_rfl) (by kernel_rfl) ?_
   refine WO.one (SQ.F 13 (by kernel_rfl)) 36 (.bool ((⟨#[]⟩ : ByteArray).toList == (⟨#[]⟩ : ByteArray).toList)) (by kernel_rfl) ?_
   refine WO.top (v' := .bool (decide ((⟨#[]⟩ : ByteArray) = (⟨#[]⟩ : ByteArray)))) (congrArg Value.bool (streq (⟨#[]⟩ : ByteArray) (⟨#[]⟩ : ByteArray))) ?_
   refine WO.run 2 14 [(2, .bool (decide ((⟨#[]⟩ : ByteArray) = (⟨#[]⟩ : ByteArray)))), (37, .bool (decide ((⟨#[]⟩ : ByteArray) = (⟨#[]⟩ : ByteArray))))] (by kernel_rfl) (by kernel_rfl) ?_
   refine WO.done (by kernel_rfl) ?_
   refine WQ.keep [1, 2, 3, 5, 6] (e' := [(1, .pointer (some ⟨g1, 0, none⟩)), (2, .bool (decide ((⟨#[]⟩ : ByteArray) = (⟨#[]⟩ : ByteArray)))), (3, .bool true), (5, .string (⟨#[]⟩)), (6, .iface 35 (.int .i64 1))]) (by kernel_rfl) ?_
   refine WQ.thenN ?_
   refine WE.ret ?_
   refine WQ.thenR ?_
   refine WQ.ret (v := .bool (decide ((⟨#[]⟩ : ByteArray) = (⟨#[]⟩ : ByteArray)))) (by kernel_rfl) ?_
   exact ⟨by rw [decide_eq_true rfl], HA⟩
 ·
  rw [hfew]
  refine WO.run 1 2 [(4, .bool false)] (by kernel_rfl) (by kernel_rfl) ?_
  refine WO.done (by kernel_rfl) ?_
  refine WQ.keep [1, 2, 3, 4] (e' := [(1, .pointer (some ⟨g1, 0, none⟩)), (2, .bool false), (3, .bool true), (4, .bool false)]) (by kernel_rfl) ?_
  refine WQ.thenN ?_
  refine WE.seq ?_
  refine WE.seq ?_
  refine WE.region ?_
  refine WO.run 2 0 [(12, .bool true), (11, .bool false)] (by kernel_rfl) (by kernel_rfl) ?_
  refine WO.done (by kernel_rfl) ?_
  refine WQ.keep [1, 2, 3, 12] (e' := [(1, .pointer (some ⟨g1, 0, none⟩)), (2, .bool false), (3, .bool true), (12, .bool true)]) (by kernel_rfl) ?_
  refine WQ.thenN ?_
  refine WE.condT (by kernel_rfl) ?_
  refine WE.seq ?_
  refine WE.region ?_
  refine WO.run 2 0 [(2, .bool true), (13, .bool true)] (by kernel_rfl) (by kernel_rfl) ?_
  refine WO.done (by kernel_rfl) ?_
  refine WQ.keep [1, 2, 3] (e' := [(1, .pointer (some ⟨g1, 0, none⟩)), (2, .bool true), (3, .bool true)]) (by kernel_rfl) ?_
  refine WQ.thenN ?_
  refine WE.ret ?_
  refine WQ.thenR ?_
  refine WQ.ret (v := .bool true) (by kernel_rfl) ?_
  exact ⟨rfl, HA⟩
set_option maxRecDepth 100000 in
set_option maxHeartbeats 400000 in
theorem back_any (ev : Ev) (A : Option Addr) (n cp : Nat) (F : List Nat) (s : L) (w : World) (hs : s.length ≤ 9223372036854775807) (HT : VX cT 2 w F A ev.tags) (hn : ev.tags.length = n) (hnn : n ≤ 9223372036854775807) (hln : ev.name.length ≤ 9223372036854775807) (hlt : ∀ t ∈ ev.tags, t.1.length ≤ 9223372036854775807 ∧ t.2.length ≤ 9223372036854775807) (hv : -9223372036854775808 ≤ ev.value ∧ ev.value ≤ 9223372036854775807) (ht : -9223372036854775808 ≤ ev.time ∧ ev.time ≤ 9223372036854775807) (hPF : 2 ∉ F) (HE : Errs.ErrT w) (HS : VarI w "strconv.ErrSyntax") (HR : VarI w "strconv.ErrRange") (HTab : Lib.TabIs Tryd.prog w "internal/strconv.uint64pow10" .u64 Lib.pow10Tab) :
  Calls Tryd.prog 6 #[.agg #[.string (str ev.name), .slice A n cp, .int .i64 ev.kind, .int .i64 ev.value, .int .i64 ev.time], .string (str s)] w fun e w' => e = .returned (.bool true) ∧ Fr [] w w' := by
 have HA := Fr.refl [] w
 refine enter (N := 74) Tryd.func6 (c := _) rfl (by kernel_rfl) (by kernel_rfl) (e := [(0, .agg #[.string (str ev.name), .slice A n cp, .int .i64 ev.kind, .int .i64 ev.value, .int .i64 ev.time]), (1, .string (str s))]) (by kernel_rfl) ?_
 refine WE.seq ?_
 refine WE.region ?_
 refine WO.bx (SQ.E 0 (by kernel_rfl)) 2 #[.string (str ev.name), .slice A n cp, .int .i64 ev.kind, .int .i64 ev.value, .int .i64 ev.time] 25 (fun g => .pointer (some ⟨g, 0, none⟩)) (by kernel_rfl) (fun _ _ => trivial) ?_
 intro g1 w2 HB4 F3 le5 _
 have nin_g1_F : g1 ∉ F := new_nin HT.lt le5
 have ne_0_g1 : 0 ≠ g1 := Nat.ne_of_lt (Nat.lt_of_lt_of_le HE.lt le5)
 have ne_3_g1 : 3 ≠ g1 := Nat.ne_of_lt (Nat.lt_of_lt_of_le (var_lt 3 (by kernel_rfl) HS) le5)
 have ne_4_g1 : 4 ≠ g1 := Nat.ne_of_lt (Nat.lt_of_lt_of_le (var_lt 4 (by kernel_rfl) HR) le5)
 have ne_2_g1 : 2 ≠ g1 := Nat.ne_of_lt (Nat.lt_of_lt_of_le (tab_lt HTab) le5)
 have ge_HA_g1 := Nat.le_trans HA.size le5
 have HT := HT.keep F3 (fun _ _ => nin0 _)
 have HE := HE.keep F3 (nin0 _)
 have HS := var_keep 3 (by kernel_rfl) HS F3 (nin0 _)
 have HR := var_keep 4 (by kernel_rfl) HR F3 (nin0 _)
 have HTab := tab_keep HTab F3 (nin0 _)
 have HA := Fr.step0 HA F3
 refine WO.run 1 1 [(4, .bool false)] (by kernel_rfl) (by kernel_rfl) ?_
 refine WO.done (by kernel_rfl) ?_
 refine WQ.keep [1, 2, 4] (e' := [(1, .string (str s)), (2, .pointer (some ⟨g1, 0, none⟩)), (4, .bool false)]) (by kernel_rfl) ?_
 refine WQ.thenN ?_
 refine WE.seq ?_
 refine WE.region ?_
 refine WO.call (SQ.E 0 (by kernel_rfl)) 15 (by kernel_rfl) (up_any _ HE HS HR HTab) ?_
 rintro _ w6 ⟨rfl, F7⟩
 refine ⟨_, rfl, trivial, ?_⟩
 have HB4 := Blk.keep HB4 F7 (nin0 _)
 have HT := HT.keep F7 (fun _ _ => nin0 _)
 have HE := HE.keep F7 (nin0 _)
 have HS := var_keep 3 (by kernel_rfl) HS F7 (nin0 _)
 have HR := var_keep 4 (by kernel_rfl) HR F7 (nin0 _)
 have HTab := tab_keep HTab F7 (nin0 _)
 have HA := Fr.step0 HA F7
 refine WO.run 1 1 [(5, .bool true)] (by kernel_rfl) (by kernel_rfl) ?_
 refine WO.done (by kernel_rfl) ?_
 refine WQ.keep [1, 2, 4, 5] (e' := [(1, .string (str s)), (2, .pointer (some ⟨g1, 0, none⟩)), (4, .bool false), (5, .bool true)]) (by kernel_rfl) ?_
 refine WQ.thenN ?_
 refine WE.seq ?_
 refine WE.region ?_
 refine WO.ldB (SQ.S 0 (by kernel_rfl)) 16 [.string (str ev.name), .slice A n cp, .int .i64 ev.kind, .int .i64 ev.value, .int .i64 ev.time] g1 0 (by kernel_rfl) (by kernel_rfl) (same HB4) (by kernel_rfl) ?_
 refine WO.call (SQ.E 1 (by kernel_rfl)) 17 (by kernel_rfl) (few_f ev A n cp F _ HT hn hnn hln hlt) ?_
 rintro _ w8 ⟨rfl, F9⟩
 refine ⟨_, rfl, trivial, ?_⟩
 have HB4 := Blk.keep HB4 F9 (nin0 _)
 have HT := HT.keep F9 (fun _ _ => nin0 _)
 have HE := HE.keep F9 (nin0 _)
 have HS := var_keep 3 (by kernel_rfl) HS F9 (nin0 _)
 have HR := var_keep 4 (by kernel_rfl) HR F9 (nin0 _)
 have HTab := tab_keep HTab F9 (nin0 _)
 have HA := Fr.step0 HA F9
 rcases Bool.eq_false_or_eq_true (fewE ev) with hfew | hfew
 ·
  rw [hfew]
  refine WO.run 1 2 [(6, .bool true)] (by kernel_rfl) (by kernel_rfl) ?_
  refine WO.done (by kernel_rfl) ?_
  refine WQ.keep [1, 2, 4, 5, 6] (e' := [(1, .string (str s)), (2, .pointer (some ⟨g1, 0, none⟩)), (4, .bool false), (5, .bool true), (6, .bool true)]) (by kernel_rfl) ?_
  refine WQ.thenN ?_
  refine WE.seq ?_
  refine WE.seq ?_
  refine WE.region ?_
  refine WO.run 5 0 [(22, .int .i64 (s.length : Int)), (21, .string (str s)), (20, .bool false), (19, .bool false), (18, .bool true)] (by kernel_rfl) (by kernel_rfl) ?_
  refine WO.one (SQ.F 5 (by kernel_rfl)) 23 (.bool (decide (((s.length : Int) : Int) > (3000 : Int)))) (by kernel_rfl) ?_
  refine WO.topP (((s.length : Int) : Int) > (3000 : Int)) ?_ ?_
  ·
   intro h10
   refine WO.run 1 6 [(24, .bool true)] (by kernel_rfl) (by kernel_rfl) ?_
   refine WO.done (by kernel_rfl) ?_
   refine WQ.keep [1, 2, 4, 5, 24] (e' := [(1, .string (str s)), (2, .pointer (some ⟨g1, 0, none⟩)), (4, .bool false), (5, .bool true), (24, .bool true)]) (by kernel_rfl) ?_
   refine WQ.thenN ?_
   refine WE.condT (by kernel_rfl) ?_
   refine WE.seq ?_
   refine WE.region ?_
   refine WO.run 2 0 [(4, .bool true), (25, .bool true)] (by kernel_rfl) (by kernel_rfl) ?_
   refine WO.done (by kernel_rfl) ?_
   refine WQ.keep [1, 2, 4, 5] (e' := [(1, .string (str s)), (2, .pointer (some ⟨g1, 0, none⟩)), (4, .bool true), (5, .bool true)]) (by kernel_rfl) ?_
   refine WQ.thenN ?_
   refine WE.ret ?_
   refine WQ.thenR ?_
   refine WQ.ret (v := .bool true) (by kernel_rfl) ?_
   exact ⟨rfl, HA⟩
  intro h10
  refine WO.run 1 6 [(24, .bool false)] (by kernel_rfl) (by kernel_rfl) ?_
  refine WO.done (by kernel_rfl) ?_
  refine WQ.keep [1, 2, 4, 5, 24] (e' := [(1, .string (str s)), (2, .pointer (some ⟨g1, 0, none⟩)), (4, .bool false), (5, .bool true), (24, .bool false)]) (by kernel_rfl) ?_
  refine WQ.thenN ?_
  refine WE.condF (by kernel_rfl) ?_
  refine WE.skip ?_
  refine WQ.thenN ?_
  refine WE.seq ?_
  refine WE.region ?_
  refine WO.ldB (SQ.S 0 (by kernel_rfl)) 27 [.string (str ev.name), .slice A n cp, .int .i64 ev.kind, .int .i64 ev.value, .int .i64 ev.time] g1 0 (by kernel_rfl) (by kernel_rfl) (same HB4) (by kernel_rfl) ?_
  rcases Bool.eq_false_or_eq_true (mayE ev) with hmay | hmay
  ·
   obtain ⟨hp1, hp2, hp3, hp4, hp5⟩ := may_parts hmay
   refine WO.call (SQ.E 1 (by kernel_rfl)) 28 (by kernel_rfl) (print_l ev A n cp F _ HT hn hnn hln hlt hmay hfew hp4 hv ht HTab hPF) ?_
   rintro _ w11 ⟨rfl, F12⟩
   refine ⟨_, rfl, trivial, ?_⟩
   have HB4 := Blk.keep HB4 F12 (nin0 _)
   have HT := HT.keep F12 (fun _ _ => nin0 _)
   have HE := HE.keep F12 (nin0 _)
   have HS := var_keep 3 (by kernel_rfl) HS F12 (nin0 _)
   have HR := var_keep 4 (by kernel_rfl) HR F12 (nin0 _)
   have HTab := tab_keep HTab F12 (nin0 _)
   have HA := Fr.step0 HA F12
   refine WO.run 5 2 [(8, .nilIface), (7, .string (str (printT ev))), (30, .nilIface), (29, .string (str (printT ev))), (26, .tuple #[.string (str (printT ev)), .nilIface])] (by kernel_rfl) (by kernel_rfl) ?_
   refine WO.done (by kernel_rfl) ?_
   refine WQ.keep [1, 2, 4, 5, 7, 8] (e' := [(1, .string (str s)), (2, .pointer (some ⟨g1, 0, none⟩)), (4, .bool false), (5, .bool true), (7, .string (str (printT ev))), (8, .nilIface)]) (by kernel_rfl) ?_
   refine WQ.thenN ?_
   refine WE.seqJ (α := Unit) (E := fun _ => [(1, .string (str s)), (4, .bool false), (5, .bool true)]) (I := fun _ wr => Blk wr g1 #[.string (str ev.name), .slice A n cp, .int .i64 ev.kind, .int .i64 ev.value, .int .i64 ev.time] 25 ∧ VX cT 2 wr F A ev.tags ∧ Errs.ErrT wr ∧ VarI wr "strconv.ErrSyntax" ∧ VarI wr "strconv.ErrRange" ∧ Lib.TabIs Tryd.prog wr "internal/strconv.uint64pow10" .u64 Lib.pow10Tab ∧ Fr [] w wr) ?_ ?_
   ·
    rintro _ wr ⟨HB4, HT, HE, HS, HR, HTab, HA⟩
    refine WE.seq ?_
    refine WE.region ?_
    refine WO.run 1 0 [(52, .string (str s))] (by kernel_rfl) (by kernel_rfl) ?_
    rcases Nat.lt_or_ge 300 s.length with hL | hL
    ·
     refine WO.call (SQ.E 1 (by kernel_rfl)) 53 (by kernel_rfl) (parse_long s _ (by omega) (by omega)) ?_
     rintro _ w13 ⟨rfl, F14⟩
     refine ⟨_, rfl, trivial, ?_⟩
     have HB4 := Blk.keep HB4 F14 (nin0 _)
     have HT := HT.keep F14 (fun _ _ => nin0 _)
     have HE := HE.keep F14 (nin0 _)
     have HS := var_keep 3 (by kernel_rfl) HS F14 (nin0 _)
     have HR := var_keep 4 (by kernel_rfl) HR F14 (nin0 _)
     have HTab := tab_keep HTab F14 (nin0 _)
     have HA := Fr.step0 HA F14
     refine WO.run 3 2 [(55, .iface 35 (.int .i64 3)), (54, .agg #[.string (⟨#[]⟩), .slice none 0 0, .int .i64 0, .int .i64 0, .int .i64 0]), (51, .tuple #[.agg #[.string (⟨#[]⟩), .slice none 0 0, .int .i64 0, .int .i64 0, .int .i64 0], .iface 35 (.int .i64 3)])] (by kernel_rfl) (by kernel_rfl) ?_
     refine WO.bx (SQ.E 5 (by kernel_rfl)) 11 #[.string (⟨#[]⟩), .slice none 0 0, .int .i64 0, .int .i64 0, .int .i64 0] 25 (fun g => .pointer (some ⟨g, 0, none⟩)) (by kernel_rfl) (fun _ _ => trivial) ?_
     intro g15 w16 HB18 F17 le19 _
     have ne_g1_g15 : g1 ≠ g15 := Nat.ne_of_lt (Nat.lt_of_lt_of_le HB4.lt le19)
     have nin_g15_F : g15 ∉ F := new_nin HT.lt le19
     have ne_0_g15 : 0 ≠ g15 := Nat.ne_of_lt (Nat.lt_of_lt_of_le HE.lt le19)
     have ne_3_g15 : 3 ≠ g15 := Nat.ne_of_lt (Nat.lt_of_lt_of_le (var_lt 3 (by kernel_rfl) HS) le19)
     have ne_4_g15 : 4 ≠ g15 := Nat.ne_of_lt (Nat.lt_of_lt_of_le (var_lt 4 (by kernel_rfl) HR) le19)
     have ne_2_g15 : 2 ≠ g15 := Nat.ne_of_lt (Nat.lt_of_lt_of_le (tab_lt HTab) le19)
     have ge_HA_g15 := Nat.le_trans HA.size le19
     have HB4 := Blk.keep HB4 F17 (nin0 _)
     have HT := HT.keep F17 (fun _ _ => nin0 _)
     have HE := HE.keep F17 (nin0 _)
     have HS := var_keep 3 (by kernel_rfl) HS F17 (nin0 _)
     have HR := var_keep 4 (by kernel_rfl) HR F17 (nin0 _)
     have HTab := tab_keep HTab F17 (nin0 _)
     have HA := Fr.step0 HA F17
     refine WO.st (SQ.E 6 (by kernel_rfl)) g15 0 [.string (⟨#[]⟩), .slice none 0 0, .int .i64 0, .int .i64 0, .int .i64 0] #[.string (⟨#[]⟩), .slice none 0 0, .int .i64 0, .int .i64 0, .int .i64 0] (by kernel_rfl) HB18 (by kernel_rfl) (by kernel_rfl) (fun _ _ => trivial) ?_
     intro w20 HB22 F21 _
     have HB4 := Blk.keep HB4 F21 (ninC ne_g1_g15 (nin0 _))
     have HT := HT.keep F21 (djB nin_g15_F)
     have HE := HE.keep F21 (ninC ne_0_g15 (nin0 _))
     have HS := var_keep 3 (by kernel_rfl) HS F21 (ninC ne_3_g15 (nin0 _))
     have HR := var_keep 4 (by kernel_rfl) HR F21 (ninC ne_4_g15 (nin0 _))
     have HTab := tab_keep HTab F21 (ninC ne_2_g15 (nin0 _))
     have HA := Fr.step HA F21 (inSR ge_HA_g15 inS0)
     refine WO.run 1 7 [(12, .iface 35 (.int .i64 3))] (by kernel_rfl) (by kernel_rfl) ?_
     refine WO.done (by kernel_rfl) ?_
     refine WQ.keep [1, 4, 5, 11, 12] (e' := [(1, .string (str s)), (4, .bool false), (5, .bool true), (11, .pointer (some ⟨g15, 0, none⟩)), (12, .iface 35 (.int .i64 3))]) (by kernel_rfl) ?_
     refine WQ.thenN ?_
     refine WE.seq ?_
     refine WE.seq ?_
     refine WE.region ?_
     refine WO.run 2 0 [(57, .bool true), (56, .iface 35 (.int .i64 3))] (by kernel_rfl) (by kernel_rfl) ?_
     refine WO.done (by kernel_rfl) ?_
     refine WQ.keep [1, 4, 5, 11, 57] (e' := [(1, .string (str s)), (4, .bool false), (5, .bool true), (11, .pointer (some ⟨g15, 0, none⟩)), (57, .bool true)]) (by kernel_rfl) ?_
     refine WQ.thenN ?_
     refine WE.condT (by kernel_rfl) ?_
     refine WE.seq ?_
     refine WE.region ?_
     refine WO.run 2 0 [(4, .bool true), (58, .bool true)] (by kernel_rfl) (by kernel_rfl) ?_
     refine WO.done (by kernel_rfl) ?_
     refine WQ.keep [1, 4, 5, 11] (e' := [(1, .string (str s)), (4, .bool true), (5, .bool true), (11, .pointer (some ⟨g15, 0, none⟩))]) (by kernel_rfl) ?_
     refine WQ.thenN ?_
     refine WE.ret ?_
     refine WQ.thenR ?_
     refine WQ.ret (v := .bool true) (by kernel_rfl) ?_
     exact ⟨rfl, HA⟩
    cases hps_ : parseP s
    rotate_left
    ·
     rename_i q
     refine WO.call (SQ.E 1 (by kernel_rfl)) 53 (by kernel_rfl) (parse_l s _ hL HS HR) ?_
     intro e_ w23 hr_
     rw [hps_] at hr_
     obtain ⟨g25, rfl, HB26, hg27, F24⟩ := hr_
     refine ⟨_, rfl, trivial, ?_⟩
     have ne_g1_g25 : g1 ≠ g25 := Nat.ne_of_lt (Nat.lt_of_lt_of_le HB4.lt hg27)
     have nin_g25_F : g25 ∉ F := new_nin HT.lt hg27
     have ne_0_g25 : 0 ≠ g25 := Nat.ne_of_lt (Nat.lt_of_lt_of_le HE.lt hg27)
     have ne_3_g25 : 3 ≠ g25 := Nat.ne_of_lt (Nat.lt_of_lt_of_le (var_lt 3 (by kernel_rfl) HS) hg27)
     have ne_4_g25 : 4 ≠ g25 := Nat.ne_of_lt (Nat.lt_of_lt_of_le (var_lt 4 (by kernel_rfl) HR) hg27)
     have ne_2_g25 : 2 ≠ g25 := Nat.ne_of_lt (Nat.lt_of_lt_of_le (tab_lt HTab) hg27)
     have ge_HA_g25 := Nat.le_trans HA.size hg27
     have HB4 := Blk.keep HB4 F24 (nin0 _)
     have HT := HT.keep F24 (fun _ _ => nin0 _)
     have HE := HE.keep F24 (nin0 _)
     have HS := var_keep 3 (by kernel_rfl) HS F24 (nin0 _)
     have HR := var_keep 4 (by kernel_rfl) HR F24 (nin0 _)
     have HTab := tab_keep HTab F24 (nin0 _)
     have HA := Fr.step0 HA F24
     refine WO.run 3 2 [(55, .iface 67 (.pointer (some ⟨g25, 0, none⟩))), (54, .agg #[.string (⟨#[]⟩), .slice none 0 0, .int .i64 0, .int .i64 0, .int .i64 0]), (51, .tuple #[.agg #[.string (⟨#[]⟩), .slice none 0 0, .int .i64 0, .int .i64 0, .int .i64 0], .iface 67 (.pointer (some ⟨g25, 0, none⟩))])] (by kernel_rfl) (by kernel_rfl) ?_
     refine WO.bx (SQ.E 5 (by kernel_rfl)) 11 #[.string (⟨#[]⟩), .slice none 0 0, .int .i64 0, .int .i64 0, .int .i64 0] 25 (fun g => .pointer (some ⟨g, 0, none⟩)) (by kernel_rfl) (fun _ _ => trivial) ?_
     intro g28 w29 HB31 F30 le32 _
     have ne_g1_g28 : g1 ≠ g28 := Nat.ne_of_lt (Nat.lt_of_lt_of_le HB4.lt le32)
     have ne_g25_g28 : g25 ≠ g28 := Nat.ne_of_lt (Nat.lt_of_lt_of_le HB26.lt le32)
     have nin_g28_F : g28 ∉ F := new_nin HT.lt le32
     have ne_0_g28 : 0 ≠ g28 := Nat.ne_of_lt (Nat.lt_of_lt_of_le HE.lt le32)
     have ne_3_g28 : 3 ≠ g28 := Nat.ne_of_lt (Nat.lt_of_lt_of_le (var_lt 3 (by kernel_rfl) HS) le32)
     have ne_4_g28 : 4 ≠ g28 := Nat.ne_of_lt (Nat.lt_of_lt_of_le (var_lt 4 (by kernel_rfl) HR) le32)
     have ne_2_g28 : 2 ≠ g28 := Nat.ne_of_lt (Nat.lt_of_lt_of_le (tab_lt HTab) le32)
     have ge_HA_g28 := Nat.le_trans HA.size le32
     have HB4 := Blk.keep HB4 F30 (nin0 _)
     have HB26 := Blk.keep HB26 F30 (nin0 _)
     have HT := HT.keep F30 (fun _ _ => nin0 _)
     have HE := HE.keep F30 (nin0 _)
     have HS := var_keep 3 (by kernel_rfl) HS F30 (nin0 _)
     have HR := var_keep 4 (by kernel_rfl) HR F30 (nin0 _)
     have HTab := tab_keep HTab F30 (nin0 _)
     have HA := Fr.step0 HA F30
     refine WO.st (SQ.E 6 (by kernel_rfl)) g28 0 [.string (⟨#[]⟩), .slice none 0 0, .int .i64 0, .int .i64 0, .int .i64 0] #[.string (⟨#[]⟩), .slice none 0 0, .int .i64 0, .int .i64 0, .int .i64 0] (by kernel_rfl) HB31 (by kernel_rfl) (by kernel_rfl) (fun _ _ => trivial) ?_
     intro w33 HB35 F34 _
     have HB4 := Blk.keep HB4 F34 (ninC ne_g1_g28 (nin0 _))
     have HB26 := Blk.keep HB26 F34 (ninC ne_g25_g28 (nin0 _))
     have HT := HT.keep F34 (djB nin_g28_F)
     have HE := HE.keep F34 (ninC ne_0_g28 (nin0 _))
     have HS := var_keep 3 (by kernel_rfl) HS F34 (ninC ne_3_g28 (nin0 _))
     have HR := var_keep 4 (by kernel_rfl) HR F34 (ninC ne_4_g28 (nin0 _))
     have HTab := tab_keep HTab F34 (ninC ne_2_g28 (nin0 _))
     have HA := Fr.step HA F34 (inSR ge_HA_g28 inS0)
     refine WO.run 1 7 [(12, .iface 67 (.pointer (some ⟨g25, 0, none⟩)))] (by kernel_rfl) (by kernel_rfl) ?_
     refine WO.done (by kernel_rfl) ?_
     refine WQ.keep [1, 4, 5, 11, 12] (e' := [(1, .string (str s)), (4, .bool false), (5, .bool true), (11, .pointer (some ⟨g28, 0, none⟩)), (12, .iface 67 (.pointer (some ⟨g25, 0, none⟩)))]) (by kernel_rfl) ?_
     refine WQ.thenN ?_
     refine WE.seq ?_
     refine WE.seq ?_
     refine WE.region ?_
     refine WO.run 2 0 [(57, .bool true), (56, .iface 67 (.pointer (some ⟨g25, 0, none⟩)))] (by kernel_rfl) (by kernel_rfl) ?_
     refine WO.done (by kernel_rfl) ?_
     refine WQ.keep [1, 4, 5, 11, 57] (e' := [(1, .string (str s)), (4, .bool false), (5, .bool true), (11, .pointer (some ⟨g28, 0, none⟩)), (57, .bool true)]) (by kernel_rfl) ?_
     refine WQ.thenN ?_
     refine WE.condT (by kernel_rfl) ?_
     refine WE.seq ?_
     refine WE.region ?_
     refine WO.run 2 0 [(4, .bool true), (58, .bool true)] (by kernel_rfl) (by kernel_rfl) ?_
     refine WO.done (by kernel_rfl) ?_
     refine WQ.keep [1, 4, 5, 11] (e' := [(1, .string (str s)), (4, .bool true), (5, .bool true), (11, .pointer (some ⟨g28, 0, none⟩))]) (by kernel_rfl) ?_
     refine WQ.thenN ?_
     refine WE.ret ?_
     refine WQ.thenR ?_
     refine WQ.ret (v := .bool true) (by kernel_rfl) ?_
     exact ⟨rfl, HA⟩
    ·
     rename_i y
     refine WO.call (SQ.E 1 (by kernel_rfl)) 53 (by kernel_rfl) (parse_l s _ hL HS HR) ?_
     intro e_ w36 hr_
     rw [hps_] at hr_
     obtain ⟨A2_, n2_, c2_, F2_, rfl, HT2_, hn2_, hc2_, hg2_, F37⟩ := hr_
     refine ⟨_, rfl, trivial, ?_⟩
     have hg2r_ := fun y hy => Or.inr (a := y ∈ ([] : List Nat)) (hg2_ y hy)
     have nin_g1_F2_ : g1 ∉ F2_ := grow_nin hg2r_ (nin0 _) HB4.lt
     have nin_0_F2_ : 0 ∉ F2_ := grow_nin hg2r_ (nin0 _) (HE.lt)
     have nin_3_F2_ : 3 ∉ F2_ := grow_nin hg2r_ (nin0 _) ((var_lt 3 (by kernel_rfl) HS))
     have nin_4_F2_ : 4 ∉ F2_ := grow_nin hg2r_ (nin0 _) ((var_lt 4 (by kernel_rfl) HR))
     have nin_2_F2_ : 2 ∉ F2_ := grow_nin hg2r_ (nin0 _) ((tab_lt HTab))
     have dj_F2__F : ∀ y ∈ F2_, y ∉ F := grow_dj hg2r_ (by simp) HT.lt
     have ge_HA_F2_ : ∀ y ∈ F2_, (World.heap w).size ≤ y := grow_ge hg2r_ (by simp) HA.size
     have HB4 := Blk.keep HB4 F37 (nin0 _)
     have HT := HT.keep F37 (fun _ _ => nin0 _)
     have HE := HE.keep F37 (nin0 _)
     have HS := var_keep 3 (by kernel_rfl) HS F37 (nin0 _)
     have HR := var_keep 4 (by kernel_rfl) HR F37 (nin0 _)
     have HTab := tab_keep HTab F37 (nin0 _)
     have HA := Fr.step0 HA F37
     refine WO.run 3 2 [(55, .nilIface), (54, .agg #[.string (str y.name), .slice A2_ n2_ c2_, .int .i64 y.kind, .int .i64 y.value, .int .i64 y.time]), (51, .tuple #[.agg #[.string (str y.name), .slice A2_ n2_ c2_, .int .i64 y.kind, .int .i64 y.value, .int .i64 y.time], .nilIface])] (by kernel_rfl) (by kernel_rfl) ?_
     refine WO.bx (SQ.E 5 (by kernel_rfl)) 11 #[.string (⟨#[]⟩), .slice none 0 0, .int .i64 0, .int .i64 0, .int .i64 0] 25 (fun g => .pointer (some ⟨g, 0, none⟩)) (by kernel_rfl) (fun _ _ => trivial) ?_
     intro g38 w39 HB41 F40 le42 _
     have ne_g1_g38 : g1 ≠ g38 := Nat.ne_of_lt (Nat.lt_of_lt_of_le HB4.lt le42)
     have nin_g38_F : g38 ∉ F := new_nin HT.lt le42
     have nin_g38_F2_ : g38 ∉ F2_ := new_nin HT2_.lt le42
     have ne_0_g38 : 0 ≠ g38 := Nat.ne_of_lt (Nat.lt_of_lt_of_le HE.lt le42)
     have ne_3_g38 : 3 ≠ g38 := Nat.ne_of_lt (Nat.lt_of_lt_of_le (var_lt 3 (by kernel_rfl) HS) le42)
     have ne_4_g38 : 4 ≠ g38 := Nat.ne_of_lt (Nat.lt_of_lt_of_le (var_lt 4 (by kernel_rfl) HR) le42)
     have ne_2_g38 : 2 ≠ g38 := Nat.ne_of_lt (Nat.lt_of_lt_of_le (tab_lt HTab) le42)
     have ge_HA_g38 := Nat.le_trans HA.size le42
     have HB4 := Blk.keep HB4 F40 (nin0 _)
     have HT := HT.keep F40 (fun _ _ => nin0 _)
     have HT2_ := HT2_.keep F40 (fun _ _ => nin0 _)
     have HE := HE.keep F40 (nin0 _)
     have HS := var_keep 3 (by kernel_rfl) HS F40 (nin0 _)
     have HR := var_keep 4 (by kernel_rfl) HR F40 (nin0 _)
     have HTab := tab_keep HTab F40 (nin0 _)
     have HA := Fr.step0 HA F40
     refine WO.st (SQ.E 6 (by kernel_rfl)) g38 0 [.string (str y.name), .slice A2_ n2_ c2_, .int .i64 y.kind, .int .i64 y.value, .int .i64 y.time] #[.string (str y.name), .slice A2_ n2_ c2_, .int .i64 y.kind, .int .i64 y.value, .int .i64 y.time] (by kernel_rfl) HB41 (by kernel_rfl) (by kernel_rfl) (fun _ _ => trivial) ?_
     intro w43 HB45 F44 _
     have HB4 := Blk.keep HB4 F44 (ninC ne_g1_g38 (nin0 _))
     have HT := HT.keep F44 (djB nin_g38_F)
     have HT2_ := HT2_.keep F44 (djB nin_g38_F2_)
     have HE := HE.keep F44 (ninC ne_0_g38 (nin0 _))
     have HS := var_keep 3 (by kernel_rfl) HS F44 (ninC ne_3_g38 (nin0 _))
     have HR := var_keep 4 (by kernel_rfl) HR F44 (ninC ne_4_g38 (nin0 _))
     have HTab := tab_keep HTab F44 (ninC ne_2_g38 (nin0 _))
     have HA := Fr.step HA F44 (inSR ge_HA_g38 inS0)
     refine WO.run 1 7 [(12, .nilIface)] (by kernel_rfl) (by kernel_rfl) ?_
     refine WO.done (by kernel_rfl) ?_
     refine WQ.keep [1, 4, 5, 11, 12] (e' := [(1, .string (str s)), (4, .bool false), (5, .bool true), (11, .pointer (some ⟨g38, 0, none⟩)), (12, .nilIface)]) (by kernel_rfl) ?_
     refine WQ.thenN ?_
     refine WE.seq ?_
     refine WE.seq ?_
     refine WE.region ?_
     refine WO.run 2 0 [(57, .bool false), (56, .nilIface)] (by kernel_rfl) (by kernel_rfl) ?_
     refine WO.done (by kernel_rfl) ?_
     refine WQ.keep [1, 4, 5, 11, 57] (e' := [(1, .string (str s)), (4, .bool false), (5, .bool true), (11, .pointer (some ⟨g38, 0, none⟩)), (57, .bool false)]) (by kernel_rfl) ?_
     refine WQ.thenN ?_
     refine WE.condF (by kernel_rfl) ?_
     refine WE.skip ?_
     refine WQ.thenN ?_
     refine WE.seq ?_
     refine WE.region ?_
     refine WO.ldB (SQ.S 0 (by kernel_rfl)) 60 [.string (str y.name), .slice A2_ n2_ c2_, .int .i64 y.kind, .int .i64 y.value, .int .i64 y.time] g38 0 (by kernel_rfl) (by kernel_rfl) (same HB45) (by kernel_rfl) ?_
     obtain ⟨hmy, hpy, hvy1, hvy2⟩ := parse_bwd hps_
     obtain ⟨hy1, hy2, hy3, hy4, hy5, hy6⟩ := may_parts hmy
     have hwl_ := word_len hy2
     refine WO.call (SQ.E 1 (by kernel_rfl)) 61 (by kernel_rfl) (print_l y A2_ n2_ c2_ F2_ _ HT2_ hn2_ (by omega) (by omega) (fun t h_ => by have a_ := word_len (hy1 t h_).1; have b_ := word_len (hy1 t h_).2; omega) hmy (few_of hmy) hy4 ⟨hvy1, hvy2⟩ (by omega) HTab nin_2_F2_) ?_
     rintro _ w46 ⟨rfl, F47⟩
     rw [hpy]
     refine ⟨_, rfl, trivial, ?_⟩
     have HB4 := Blk.keep HB4 F47 (nin0 _)
     have HB45 := Blk.keep HB45 F47 (nin0 _)
     have HT := HT.keep F47 (fun _ _ => nin0 _)
     have HT2_ := HT2_.keep F47 (fun _ _ => nin0 _)
     have HE := HE.keep F47 (nin0 _)
     have HS := var_keep 3 (by kernel_rfl) HS F47 (nin0 _)
     have HR := var_keep 4 (by kernel_rfl) HR F47 (nin0 _)
     have HTab := tab_keep HTab F47 (nin0 _)
     have HA := Fr.step0 HA F47
     refine WO.run 5 2 [(14, .nilIface), (13, .string (str s)), (63, .nilIface), (62, .string (str s)), (59, .tuple #[.string (str s), .nilIface])] (by kernel_rfl) (by kernel_rfl) ?_
     refine WO.done (by kernel_rfl) ?_
     refine WQ.keep [1, 4, 5, 13, 14] (e' := [(1, .string (str s)), (4, .bool false), (5, .bool true), (13, .string (str s)), (14, .nilIface)]) (by kernel_rfl) ?_
     refine WQ.thenN ?_
     refine WE.seq ?_
     refine WE.region ?_
     refine WO.run 8 0 [(71, .string (str s)), (70, .string (str s)), (69, .bool true), (68, .bool true), (67, .bool true), (66, .nilIface), (65, .bool true), (64, .bool true)] (by kernel_rfl) (by kernel_rfl) ?_
     refine WO.one (SQ.F 8 (by kernel_rfl)) 72 (.bool ((str s).toList == (str s).toList)) (by kernel_rfl) ?_
     refine WO.top (v' := .bool (decide ((str s) = (str s)))) (congrArg Value.bool (streq (str s) (str s))) ?_
     refine WO.run 2 9 [(4, .bool (decide ((str s) = (str s)))), (73, .bool (decide ((str s) = (str s))))] (by kernel_rfl) (by kernel_rfl) ?_
     refine WO.done (by kernel_rfl) ?_
     refine WQ.keep [4] (e' := [(4, .bool (decide ((str s) = (str s))))]) (by kernel_rfl) ?_
     refine WQ.thenN ?_
     refine WE.ret ?_
     refine WQ.ret (v := .bool (decide ((str s) = (str s)))) (by kernel_rfl) ?_
     exact ⟨by rw [decide_eq_true rfl], HA⟩
   refine WE.seq ?_
   refine WE.region ?_
   refine WO.run 2 0 [(32, .bool true), (31, .nilIface)] (by kernel_rfl) (by kernel_rfl) ?_
   refine WO.done (by kernel_rfl) ?_
   refine WQ.keep [1, 2, 4, 5, 7, 32] (e' := [(1, .string (str s)), (2, .pointer (some ⟨g1, 0, none⟩)), (4, .bool false), (5, .bool true), (7, .string (str (printT ev))), (32, .bool true)]) (by kernel_rfl) ?_
   refine WQ.thenN ?_
   refine WE.condT (by kernel_rfl) ?_
   refine WE.seq ?_
   refine WE.region ?_
   refine WO.run 1 0 [(34, .string (str (printT ev)))] (by kernel_rfl) (by kernel_rfl) ?_
   refine WO.call (SQ.E 1 (by kernel_rfl)) 35 (by kernel_rfl) (parse_l (printT ev) _ (print_len hmay hv) HS HR) ?_
   intro e_ w48 hr_
   rw [parse_fwd hmay hv] at hr_
   obtain ⟨A1_, n1_, c1_, F1_, rfl, HT1_, hn1_, hc1_, hg1_, F49⟩ := hr_
   refine ⟨_, rfl, trivial, ?_⟩
   have hg1r_ := fun y hy => Or.inr (a := y ∈ ([] : List Nat)) (hg1_ y hy)
   have nin_g1_F1_ : g1 ∉ F1_ := grow_nin hg1r_ (nin0 _) HB4.lt
   have nin_0_F1_ : 0 ∉ F1_ := grow_nin hg1r_ (nin0 _) (HE.lt)
   have nin_3_F1_ : 3 ∉ F1_ := grow_nin hg1r_ (nin0 _) ((var_lt 3 (by kernel_rfl) HS))
   have nin_4_F1_ : 4 ∉ F1_ := grow_nin hg1r_ (nin0 _) ((var_lt 4 (by kernel_rfl) HR))
   have nin_2_F1_ : 2 ∉ F1_ := grow_nin hg1r_ (nin0 _) ((tab_lt HTab))
   have dj_F1__F : ∀ y ∈ F1_, y ∉ F := grow_dj hg1r_ (by simp) HT.lt
   have ge_HA_F1_ : ∀ y ∈ F1_, (World.heap w).size ≤ y := grow_ge hg1r_ (by simp) HA.size
   have HB4 := Blk.keep HB4 F49 (nin0 _)
   have HT := HT.keep F49 (fun _ _ => nin0 _)
   have HE := HE.keep F49 (nin0 _)
   have HS := var_keep 3 (by kernel_rfl) HS F49 (nin0 _)
   have HR := var_keep 4 (by kernel_rfl) HR F49 (nin0 _)
   have HTab := tab_keep HTab F49 (nin0 _)
   have HA := Fr.step0 HA F49
   refine WO.run 3 2 [(37, .nilIface), (36, .agg #[.string (str ev.name), .slice A1_ n1_ c1_, .int .i64 ev.kind, .int .i64 ev.value, .int .i64 ev.time]), (33, .tuple #[.agg #[.string (str ev.name), .slice A1_ n1_ c1_, .int .i64 ev.kind, .int .i64 ev.value, .int .i64 ev.time], .nilIface])] (by kernel_rfl) (by kernel_rfl) ?_
   refine WO.bx (SQ.E 5 (by kernel_rfl)) 9 #[.string (⟨#[]⟩), .slice none 0 0, .int .i64 0, .int .i64 0, .int .i64 0] 25 (fun g => .pointer (some ⟨g, 0, none⟩)) (by kernel_rfl) (fun _ _ => trivial) ?_
   intro g50 w51 HB53 F52 le54 _
   have ne_g1_g50 : g1 ≠ g50 := Nat.ne_of_lt (Nat.lt_of_lt_of_le HB4.lt le54)
   have nin_g50_F : g50 ∉ F := new_nin HT.lt le54
   have nin_g50_F1_ : g50 ∉ F1_ := new_nin HT1_.lt le54
   have ne_0_g50 : 0 ≠ g50 := Nat.ne_of_lt (Nat.lt_of_lt_of_le HE.lt le54)
   have ne_3_g50 : 3 ≠ g50 := Nat.ne_of_lt (Nat.lt_of_lt_of_le (var_lt 3 (by kernel_rfl) HS) le54)
   have ne_4_g50 : 4 ≠ g50 := Nat.ne_of_lt (Nat.lt_of_lt_of_le (var_lt 4 (by kernel_rfl) HR) le54)
   have ne_2_g50 : 2 ≠ g50 := Nat.ne_of_lt (Nat.lt_of_lt_of_le (tab_lt HTab) le54)
   have ge_HA_g50 := Nat.le_trans HA.size le54
   have HB4 := Blk.keep HB4 F52 (nin0 _)
   have HT := HT.keep F52 (fun _ _ => nin0 _)
   have HT1_ := HT1_.keep F52 (fun _ _ => nin0 _)
   have HE := HE.keep F52 (nin0 _)
   have HS := var_keep 3 (by kernel_rfl) HS F52 (nin0 _)
   have HR := var_keep 4 (by kernel_rfl) HR F52 (nin0 _)
   have HTab := tab_keep HTab F52 (nin0 _)
   have HA := Fr.step0 HA F52
   refine WO.st (SQ.E 6 (by kernel_rfl)) g50 0 [.string (str ev.name), .slice A1_ n1_ c1_, .int .i64 ev.kind, .int .i64 ev.value, .int .i64 ev.time] #[.string (str ev.name), .slice A1_ n1_ c1_, .int .i64 ev.kind, .int .i64 ev.value, .int .i64 ev.time] (by kernel_rfl) HB53 (by kernel_rfl) (by kernel_rfl) (fun _ _ => trivial) ?_
   intro w55 HB57 F56 _
   have HB4 := Blk.keep HB4 F56 (ninC ne_g1_g50 (nin0 _))
   have HT := HT.keep F56 (djB nin_g50_F)
   have HT1_ := HT1_.keep F56 (djB nin_g50_F1_)
   have HE := HE.keep F56 (ninC ne_0_g50 (nin0 _))
   have HS := var_keep 3 (by kernel_rfl) HS F56 (ninC ne_3_g50 (nin0 _))
   have HR := var_keep 4 (by kernel_rfl) HR F56 (ninC ne_4_g50 (nin0 _))
   have HTab := tab_keep HTab F56 (ninC ne_2_g50 (nin0 _))
   have HA := Fr.step HA F56 (inSR ge_HA_g50 inS0)
   refine WO.run 1 7 [(10, .nilIface)] (by kernel_rfl) (by kernel_rfl) ?_
   refine WO.done (by kernel_rfl) ?_
   refine WQ.keep [1, 2, 4, 5, 7, 9, 10] (e' := [(1, .string (str s)), (2, .pointer (some ⟨g1, 0, none⟩)), (4, .bool false), (5, .bool true), (7, .string (str (printT ev))), (9, .pointer (some ⟨g50, 0, none⟩)), (10, .nilIface)]) (by kernel_rfl) ?_
   refine WQ.thenN ?_
   refine WE.seq ?_
   refine WE.region ?_
   refine WO.run 3 0 [(40, .bool false), (39, .bool false), (38, .nilIface)] (by kernel_rfl) (by kernel_rfl) ?_
   refine WO.ldB (SQ.S 3 (by kernel_rfl)) 41 [.string (str ev.name), .slice A1_ n1_ c1_, .int .i64 ev.kind, .int .i64 ev.value, .int .i64 ev.time] g50 0 (by kernel_rfl) (by kernel_rfl) (same HB57) (by kernel_rfl) ?_
   refine WO.ldB (SQ.S 4 (by kernel_rfl)) 42 [.string (str ev.name), .slice A n cp, .int .i64 ev.kind, .int .i64 ev.value, .int .i64 ev.time] g1 0 (by kernel_rfl) (by kernel_rfl) (same HB4) (by kernel_rfl) ?_
   refine WO.call (SQ.E 5 (by kernel_rfl)) 43 (by kernel_rfl) (same_t ev A1_ A n1_ c1_ n cp F1_ F _ HT1_ hn1_ HT hn (by omega)) ?_
   rintro _ w58 ⟨rfl, F59⟩
   refine ⟨_, rfl, trivial, ?_⟩
   have HB4 := Blk.keep HB4 F59 (nin0 _)
   have HB57 := Blk.keep HB57 F59 (nin0 _)
   have HT := HT.keep F59 (fun _ _ => nin0 _)
   have HT1_ := HT1_.keep F59 (fun _ _ => nin0 _)
   have HE := HE.keep F59 (nin0 _)
   have HS := var_keep 3 (by kernel_rfl) HS F59 (nin0 _)
   have HR := var_keep 4 (by kernel_rfl) HR F59 (nin0 _)
   have HTab := tab_keep HTab F59 (nin0 _)
   have HA := Fr.step0 HA F59
   refine WO.run 5 6 [(48, .int .i64 ((printT ev).length : Int)), (47, .string (str (printT ev))), (46, .bool false), (45, .bool false), (44, .bool false)] (by kernel_rfl) (by kernel_rfl) ?_
   refine WO.one (SQ.F 11 (by kernel_rfl)) 49 (.bool (decide ((((printT ev).length : Int) : Int) > (300 : Int)))) (by kernel_rfl) ?_
   refine WO.topPF ((((printT ev).length : Int) : Int) > (300 : Int)) (by have h_ := print_len hmay hv; omega) ?_
   refine WO.run 1 12 [(50, .bool false)] (by kernel_rfl) (by kernel_rfl) ?_
   refine WO.done (by kernel_rfl) ?_
   refine WQ.keep [1, 4, 5, 50] (e' := [(1, .string (str s)), (4, .bool false), (5, .bool true), (50, .bool false)]) (by kernel_rfl) ?_
   refine WQ.thenN ?_
   refine WE.condF (by kernel_rfl) ?_
   refine WE.skip ?_
   refine WQ.round ?_
   intro a_ ha_
   refine ⟨(), ha_.keep [1, 4, 5] (by kernel_rfl), ?_⟩
   exact ⟨HB4, HT, HE, HS, HR, HTab, HA⟩
  ·
   refine WO.call (SQ.E 1 (by kernel_rfl)) 28 (by kernel_rfl) (print_no ev A n cp F _ HT hn hnn hln hlt hmay) ?_
   rintro _ w60 ⟨rfl, F61⟩
   refine ⟨_, rfl, trivial, ?_⟩
   have HB4 := Blk.keep HB4 F61 (nin0 _)
   have HT := HT.keep F61 (fun _ _ => nin0 _)
   have HE := HE.keep F61 (nin0 _)
   have HS := var_keep 3 (by kernel_rfl) HS F61 (nin0 _)
   have HR := var_keep 4 (by kernel_rfl) HR F61 (nin0 _)
   have HTab := tab_keep HTab F61 (nin0 _)
   have HA := Fr.step0 HA F61
   refine WO.run 5 2 [(8, .iface 35 (.int .i64 1)), (7, .string (⟨#[]⟩)), (30, .iface 35 (.int .i64 1)), (29, .string (⟨#[]⟩)), (26, .tuple #[.string (⟨#[]⟩), .iface 35 (.int .i64 1)])] (by kernel_rfl) (by kernel_rfl) ?_
   refine WO.done (by kernel_rfl) ?_
   refine WQ.keep [1, 2, 4, 5, 7, 8] (e' := [(1, .string (str s)), (2, .pointer (some ⟨g1, 0, none⟩)), (4, .bool false), (5, .bool true), (7, .string (⟨#[]⟩)), (8, .iface 35 (.int .i64 1))]) (by kernel_rfl) ?_
   refine WQ.thenN ?_
   refine WE.seqJ (α := Unit) (E := fun _ => [(1, .string (str s)), (4, .bool false), (5, .bool true)]) (I := fun _ wr => Blk wr g1 #[.string (str ev.name), .slice A n cp, .int .i64 ev.kind, .int .i64 ev.value, .int .i64 ev.time] 25 ∧ VX cT 2 wr F A ev.tags ∧ Errs.ErrT wr ∧ VarI wr "strconv.ErrSyntax" ∧ VarI wr "strconv.ErrRange" ∧ Lib.TabIs Tryd.prog wr "internal/strconv.uint64pow10" .u64 Lib.pow10Tab ∧ Fr [] w wr) ?_ ?_
   ·
    rintro _ wr ⟨HB4, HT, HE, HS, HR, HTab, HA⟩
    refine WE.seq ?_
    refine WE.region ?_
    refine WO.run 1 0 [(52, .string (str s))] (by kernel_rfl) (by kernel_rfl) ?_
    rcases Nat.lt_or_ge 300 s.length with hL | hL
    ·
     refine WO.call (SQ.E 1 (by kernel_rfl)) 53 (by kernel_rfl) (parse_long s _ (by omega) (by omega)) ?_
     rintro _ w62 ⟨rfl, F63⟩
     refine ⟨_, rfl, trivial, ?_⟩
     have HB4 := Blk.keep HB4 F63 (nin0 _)
     have HT := HT.keep F63 (fun _ _ => nin0 _)
     have HE := HE.keep F63 (nin0 _)
     have HS := var_keep 3 (by kernel_rfl) HS F63 (nin0 _)
     have HR := var_keep 4 (by kernel_rfl) HR F63 (nin0 _)
     have HTab := tab_keep HTab F63 (nin0 _)
     have HA := Fr.step0 HA F63
     refine WO.run 3 2 [(55, .iface 35 (.int .i64 3)), (54, .agg #[.string (⟨#[]⟩), .slice none 0 0, .int .i64 0, .int .i64 0, .int .i64 0]), (51, .tuple #[.agg #[.string (⟨#[]⟩), .slice none 0 0, .int .i64 0, .int .i64 0, .int .i64 0], .iface 35 (.int .i64 3)])] (by kernel_rfl) (by kernel_rfl) ?_
     refine WO.bx (SQ.E 5 (by kernel_rfl)) 11 #[.string (⟨#[]⟩), .slice none 0 0, .int .i64 0, .int .i64 0, .int .i64 0] 25 (fun g => .pointer (some ⟨g, 0, none⟩)) (by kernel_rfl) (fun _ _ => trivial) ?_
     intro g64 w65 HB67 F66 le68 _
     have ne_g1_g64 : g1 ≠ g64 := Nat.ne_of_lt (Nat.lt_of_lt_of_le HB4.lt le68)
     have nin_g64_F : g64 ∉ F := new_nin HT.lt le68
     have ne_0_g64 : 0 ≠ g64 := Nat.ne_of_lt (Nat.lt_of_lt_of_le HE.lt le68)
     have ne_3_g64 : 3 ≠ g64 := Nat.ne_of_lt (Nat.lt_of_lt_of_le (var_lt 3 (by kernel_rfl) HS) le68)
     have ne_4_g64 : 4 ≠ g64 := Nat.ne_of_lt (Nat.lt_of_lt_of_le (var_lt 4 (by kernel_rfl) HR) le68)
     have ne_2_g64 : 2 ≠ g64 := Nat.ne_of_lt (Nat.lt_of_lt_of_le (tab_lt HTab) le68)
     have ge_HA_g64 := Nat.le_trans HA.size le68
     have HB4 := Blk.keep HB4 F66 (nin0 _)
     have HT := HT.keep F66 (fun _ _ => nin0 _)
     have HE := HE.keep F66 (nin0 _)
     have HS := var_keep 3 (by kernel_rfl) HS F66 (nin0 _)
     have HR := var_keep 4 (by kernel_rfl) HR F66 (nin0 _)
     have HTab := tab_keep HTab F66 (nin0 _)
     have HA := Fr.step0 HA F66
     refine WO.st (SQ.E 6 (by kernel_rfl)) g64 0 [.string (⟨#[]⟩), .slice none 0 0, .int .i64 0, .int .i64 0, .int .i64 0] #[.string (⟨#[]⟩), .slice none 0 0, .int .i64 0, .int .i64 0, .int .i64 0] (by kernel_rfl) HB67 (by kernel_rfl) (by kernel_rfl) (fun _ _ => trivial) ?_
     intro w69 HB71 F70 _
     have HB4 := Blk.keep HB4 F70 (ninC ne_g1_g64 (nin0 _))
     have HT := HT.keep F70 (djB nin_g64_F)
     have HE := HE.keep F70 (ninC ne_0_g64 (nin0 _))
     have HS := var_keep 3 (by kernel_rfl) HS F70 (ninC ne_3_g64 (nin0 _))
     have HR := var_keep 4 (by kernel_rfl) HR F70 (ninC ne_4_g64 (nin0 _))
     have HTab := tab_keep HTab F70 (ninC ne_2_g64 (nin0 _))
     have HA := Fr.step HA F70 (inSR ge_HA_g64 inS0)
     refine WO.run 1 7 [(12, .iface 35 (.int .i64 3))] (by kernel_rfl) (by kernel_rfl) ?_
     refine WO.done (by kernel_rfl) ?_
     refine WQ.keep [1, 4, 5, 11, 12] (e' := [(1, .string (str s)), (4, .bool false), (5, .bool true), (11, .pointer (some ⟨g64, 0, none⟩)), (12, .iface 35 (.int .i64 3))]) (by kernel_rfl) ?_
     refine WQ.thenN ?_
     refine WE.seq ?_
     refine WE.seq ?_
     refine WE.region ?_
     refine WO.run 2 0 [(57, .bool true), (56, .iface 35 (.int .i64 3))] (by kernel_rfl) (by kernel_rfl) ?_
     refine WO.done (by kernel_rfl) ?_
     refine WQ.keep [1, 4, 5, 11, 57] (e' := [(1, .string (str s)), (4, .bool false), (5, .bool true), (11, .pointer (some ⟨g64, 0, none⟩)), (57, .bool true)]) (by kernel_rfl) ?_
     refine WQ.thenN ?_
     refine WE.condT (by kernel_rfl) ?_
     refine WE.seq ?_
     refine WE.region ?_
     refine WO.run 2 0 [(4, .bool true), (58, .bool true)] (by kernel_rfl) (by kernel_rfl) ?_
     refine WO.done (by kernel_rfl) ?_
     refine WQ.keep [1, 4, 5, 11] (e' := [(1, .string (str s)), (4, .bool true), (5, .bool true), (11, .pointer (some ⟨g64, 0, none⟩))]) (by kernel_rfl) ?_
     refine WQ.thenN ?_
     refine WE.ret ?_
     refine WQ.thenR ?_
     refine WQ.ret (v := .bool true) (by kernel_rfl) ?_
     exact ⟨rfl, HA⟩
    cases hps_ : parseP s
    rotate_left
    ·
     rename_i q
     refine WO.call (SQ.E 1 (by kernel_rfl)) 53 (by kernel_rfl) (parse_l s _ hL HS HR) ?_
     intro e_ w72 hr_
     rw [hps_] at hr_
     obtain ⟨g74, rfl, HB75, hg76, F73⟩ := hr_
     refine ⟨_, rfl, trivial, ?_⟩
     have ne_g1_g74 : g1 ≠ g74 := Nat.ne_of_lt (Nat.lt_of_lt_of_le HB4.lt hg76)
     have nin_g74_F : g74 ∉ F := new_nin HT.lt hg76
     have ne_0_g74 : 0 ≠ g74 := Nat.ne_of_lt (Nat.lt_of_lt_of_le HE.lt hg76)
     have ne_3_g74 : 3 ≠ g74 := Nat.ne_of_lt (Nat.lt_of_lt_of_le (var_lt 3 (by kernel_rfl) HS) hg76)
     have ne_4_g74 : 4 ≠ g74 := Nat.ne_of_lt (Nat.lt_of_lt_of_le (var_lt 4 (by kernel_rfl) HR) hg76)
     have ne_2_g74 : 2 ≠ g74 := Nat.ne_of_lt (Nat.lt_of_lt_of_le (tab_lt HTab) hg76)
     have ge_HA_g74 := Nat.le_trans HA.size hg76
     have HB4 := Blk.keep HB4 F73 (nin0 _)
     have HT := HT.keep F73 (fun _ _ => nin0 _)
     have HE := HE.keep F73 (nin0 _)
     have HS := var_keep 3 (by kernel_rfl) HS F73 (nin0 _)
     have HR := var_keep 4 (by kernel_rfl) HR F73 (nin0 _)
     have HTab := tab_keep HTab F73 (nin0 _)
     have HA := Fr.step0 HA F73
     refine WO.run 3 2 [(55, .iface 67 (.pointer (some ⟨g74, 0, none⟩))), (54, .agg #[.string (⟨#[]⟩), .slice none 0 0, .int .i64 0, .int .i64 0, .int .i64 0]), (51, .tuple #[.agg #[.string (⟨#[]⟩), .slice none 0 0, .int .i64 0, .int .i64 0, .int .i64 0], .iface 67 (.pointer (some ⟨g74, 0, none⟩))])] (by kernel_rfl) (by kernel_rfl) ?_
     refine WO.bx (SQ.E 5 (by kernel_rfl)) 11 #[.string (⟨#[]⟩), .slice none 0 0, .int .i64 0, .int .i64 0, .int .i64 0] 25 (fun g => .pointer (some ⟨g, 0, none⟩)) (by kernel_rfl) (fun _ _ => trivial) ?_
     intro g77 w78 HB80 F79 le81 _
     have ne_g1_g77 : g1 ≠ g77 := Nat.ne_of_lt (Nat.lt_of_lt_of_le HB4.lt le81)
     have ne_g74_g77 : g74 ≠ g77 := Nat.ne_of_lt (Nat.lt_of_lt_of_le HB75.lt le81)
     have nin_g77_F : g77 ∉ F := new_nin HT.lt le81
     have ne_0_g77 : 0 ≠ g77 := Nat.ne_of_lt (Nat.lt_of_lt_of_le HE.lt le81)
     have ne_3_g77 : 3 ≠ g77 := Nat.ne_of_lt (Nat.lt_of_lt_of_le (var_lt 3 (by kernel_rfl) HS) le81)
     have ne_4_g77 : 4 ≠ g77 := Nat.ne_of_lt (Nat.lt_of_lt_of_le (var_lt 4 (by kernel_rfl) HR) le81)
     have ne_2_g77 : 2 ≠ g77 := Nat.ne_of_lt (Nat.lt_of_lt_of_le (tab_lt HTab) le81)
     have ge_HA_g77 := Nat.le_trans HA.size le81
     have HB4 := Blk.keep HB4 F79 (nin0 _)
     have HB75 := Blk.keep HB75 F79 (nin0 _)
     have HT := HT.keep F79 (fun _ _ => nin0 _)
     have HE := HE.keep F79 (nin0 _)
     have HS := var_keep 3 (by kernel_rfl) HS F79 (nin0 _)
     have HR := var_keep 4 (by kernel_rfl) HR F79 (nin0 _)
     have HTab := tab_keep HTab F79 (nin0 _)
     have HA := Fr.step0 HA F79
     refine WO.st (SQ.E 6 (by kernel_rfl)) g77 0 [.string (⟨#[]⟩), .slice none 0 0, .int .i64 0, .int .i64 0, .int .i64 0] #[.string (⟨#[]⟩), .slice none 0 0, .int .i64 0, .int .i64 0, .int .i64 0] (by kernel_rfl) HB80 (by kernel_rfl) (by kernel_rfl) (fun _ _ => trivial) ?_
     intro w82 HB84 F83 _
     have HB4 := Blk.keep HB4 F83 (ninC ne_g1_g77 (nin0 _))
     have HB75 := Blk.keep HB75 F83 (ninC ne_g74_g77 (nin0 _))
     have HT := HT.keep F83 (djB nin_g77_F)
     have HE := HE.keep F83 (ninC ne_0_g77 (nin0 _))
     have HS := var_keep 3 (by kernel_rfl) HS F83 (ninC ne_3_g77 (nin0 _))
     have HR := var_keep 4 (by kernel_rfl) HR F83 (ninC ne_4_g77 (nin0 _))
     have HTab := tab_keep HTab F83 (ninC ne_2_g77 (nin0 _))
     have HA := Fr.step HA F83 (inSR ge_HA_g77 inS0)
     refine WO.run 1 7 [(12, .iface 67 (.pointer (some ⟨g74, 0, none⟩)))] (by kernel_rfl) (by kernel_rfl) ?_
     refine WO.done (by kernel_rfl) ?_
     refine WQ.keep [1, 4, 5, 11, 12] (e' := [(1, .string (str s)), (4, .bool false), (5, .bool true), (11, .pointer (some ⟨g77, 0, none⟩)), (12, .iface 67 (.pointer (some ⟨g74, 0, none⟩)))]) (by kernel_rfl) ?_
     refine WQ.thenN ?_
     refine WE.seq ?_
     refine WE.seq ?_
     refine WE.region ?_
     refine WO.run 2 0 [(57, .bool true), (56, .iface 67 (.pointer (some ⟨g74, 0, none⟩)))] (by kernel_rfl) (by kernel_rfl) ?_
     refine WO.done (by kernel_rfl) ?_
     refine WQ.keep [1, 4, 5, 11, 57] (e' := [(1, .string (str s)), (4, .bool false), (5, .bool true), (11, .pointer (some ⟨g77, 0, none⟩)), (57, .bool true)]) (by kernel_rfl) ?_
     refine WQ.thenN ?_
     refine WE.condT (by kernel_rfl) ?_
     refine WE.seq ?_
     refine WE.region ?_
     refine WO.run 2 0 [(4, .bool true), (58, .bool true)] (by kernel_rfl) (by kernel_rfl) ?_
     refine WO.done (by kernel_rfl) ?_
     refine WQ.keep [1, 4, 5, 11] (e' := [(1, .string (str s)), (4, .bool true), (5, .bool true), (11, .pointer (some ⟨g77, 0, none⟩))]) (by kernel_rfl) ?_
     refine WQ.thenN ?_
     refine WE.ret ?_
     refine WQ.thenR ?_
     refine WQ.ret (v := .bool true) (by kernel_rfl) ?_
     exact ⟨rfl, HA⟩
    ·
     rename_i y
     refine WO.call (SQ.E 1 (by kernel_rfl)) 53 (by kernel_rfl) (parse_l s _ hL HS HR) ?_
     intro e_ w85 hr_
     rw [hps_] at hr_
     obtain ⟨A2_, n2_, c2_, F2_, rfl, HT2_, hn2_, hc2_, hg2_, F86⟩ := hr_
     refine ⟨_, rfl, trivial, ?_⟩
     have hg2r_ := fun y hy => Or.inr (a := y ∈ ([] : List Nat)) (hg2_ y hy)
     have nin_g1_F2_ : g1 ∉ F2_ := grow_nin hg2r_ (nin0 _) HB4.lt
     have nin_0_F2_ : 0 ∉ F2_ := grow_nin hg2r_ (nin0 _) (HE.lt)
     have nin_3_F2_ : 3 ∉ F2_ := grow_nin hg2r_ (nin0 _) ((var_lt 3 (by kernel_rfl) HS))
     have nin_4_F2_ : 4 ∉ F2_ := grow_nin hg2r_ (nin0 _) ((var_lt 4 (by kernel_rfl) HR))
     have nin_2_F2_ : 2 ∉ F2_ := grow_nin hg2r_ (nin0 _) ((tab_lt HTab))
     have dj_F2__F : ∀ y ∈ F2_, y ∉ F := grow_dj hg2r_ (by simp) HT.lt
     have ge_HA_F2_ : ∀ y ∈ F2_, (World.heap w).size ≤ y := grow_ge hg2r_ (by simp) HA.size
     have HB4 := Blk.keep HB4 F86 (nin0 _)
     have HT := HT.keep F86 (fun _ _ => nin0 _)
     have HE := HE.keep F86 (nin0 _)
     have HS := var_keep 3 (by kernel_rfl) HS F86 (nin0 _)
     have HR := var_keep 4 (by kernel_rfl) HR F86 (nin0 _)
     have HTab := tab_keep HTab F86 (nin0 _)
     have HA := Fr.step0 HA F86
     refine WO.run 3 2 [(55, .nilIface), (54, .agg #[.string (str y.name), .slice A2_ n2_ c2_, .int .i64 y.kind, .int .i64 y.value, .int .i64 y.time]), (51, .tuple #[.agg #[.string (str y.name), .slice A2_ n2_ c2_, .int .i64 y.kind, .int .i64 y.value, .int .i64 y.time], .nilIface])] (by kernel_rfl) (by kernel_rfl) ?_
     refine WO.bx (SQ.E 5 (by kernel_rfl)) 11 #[.string (⟨#[]⟩), .slice none 0 0, .int .i64 0, .int .i64 0, .int .i64 0] 25 (fun g => .pointer (some ⟨g, 0, none⟩)) (by kernel_rfl) (fun _ _ => trivial) ?_
     intro g87 w88 HB90 F89 le91 _
     have ne_g1_g87 : g1 ≠ g87 := Nat.ne_of_lt (Nat.lt_of_lt_of_le HB4.lt le91)
     have nin_g87_F : g87 ∉ F := new_nin HT.lt le91
     have nin_g87_F2_ : g87 ∉ F2_ := new_nin HT2_.lt le91
     have ne_0_g87 : 0 ≠ g87 := Nat.ne_of_lt (Nat.lt_of_lt_of_le HE.lt le91)
     have ne_3_g87 : 3 ≠ g87 := Nat.ne_of_lt (Nat.lt_of_lt_of_le (var_lt 3 (by kernel_rfl) HS) le91)
     have ne_4_g87 : 4 ≠ g87 := Nat.ne_of_lt (Nat.lt_of_lt_of_le (var_lt 4 (by kernel_rfl) HR) le91)
     have ne_2_g87 : 2 ≠ g87 := Nat.ne_of_lt (Nat.lt_of_lt_of_le (tab_lt HTab) le91)
     have ge_HA_g87 := Nat.le_trans HA.size le91
     have HB4 := Blk.keep HB4 F89 (nin0 _)
     have HT := HT.keep F89 (fun _ _ => nin0 _)
     have HT2_ := HT2_.keep F89 (fun _ _ => nin0 _)
     have HE := HE.keep F89 (nin0 _)
     have HS := var_keep 3 (by kernel_rfl) HS F89 (nin0 _)
     have HR := var_keep 4 (by kernel_rfl) HR F89 (nin0 _)
     have HTab := tab_keep HTab F89 (nin0 _)
     have HA := Fr.step0 HA F89
     refine WO.st (SQ.E 6 (by kernel_rfl)) g87 0 [.string (str y.name), .slice A2_ n2_ c2_, .int .i64 y.kind, .int .i64 y.value, .int .i64 y.time] #[.string (str y.name), .slice A2_ n2_ c2_, .int .i64 y.kind, .int .i64 y.value, .int .i64 y.time] (by kernel_rfl) HB90 (by kernel_rfl) (by kernel_rfl) (fun _ _ => trivial) ?_
     intro w92 HB94 F93 _
     have HB4 := Blk.keep HB4 F93 (ninC ne_g1_g87 (nin0 _))
     have HT := HT.keep F93 (djB nin_g87_F)
     have HT2_ := HT2_.keep F93 (djB nin_g87_F2_)
     have HE := HE.keep F93 (ninC ne_0_g87 (nin0 _))
     have HS := var_keep 3 (by kernel_rfl) HS F93 (ninC ne_3_g87 (nin0 _))
     have HR := var_keep 4 (by kernel_rfl) HR F93 (ninC ne_4_g87 (nin0 _))
     have HTab := tab_keep HTab F93 (ninC ne_2_g87 (nin0 _))
     have HA := Fr.step HA F93 (inSR ge_HA_g87 inS0)
     refine WO.run 1 7 [(12, .nilIface)] (by kernel_rfl) (by kernel_rfl) ?_
     refine WO.done (by kernel_rfl) ?_
     refine WQ.keep [1, 4, 5, 11, 12] (e' := [(1, .string (str s)), (4, .bool false), (5, .bool true), (11, .pointer (some ⟨g87, 0, none⟩)), (12, .nilIface)]) (by kernel_rfl) ?_
     refine WQ.thenN ?_
     refine WE.seq ?_
     refine WE.seq ?_
     refine WE.region ?_
     refine WO.run 2 0 [(57, .bool false), (56, .nilIface)] (by kernel_rfl) (by kernel_rfl) ?_
     refine WO.done (by kernel_rfl) ?_
     refine WQ.keep [1, 4, 5, 11, 57] (e' := [(1, .string (str s)), (4, .bool false), (5, .bool true), (11, .pointer (some ⟨g87, 0, none⟩)), (57, .bool false)]) (by kernel_rfl) ?_
     refine WQ.thenN ?_
     refine WE.condF (by kernel_rfl) ?_
     refine WE.skip ?_
     refine WQ.thenN ?_
     refine WE.seq ?_
     refine WE.region ?_
     refine WO.ldB (SQ.S 0 (by kernel_rfl)) 60 [.string (str y.name), .slice A2_ n2_ c2_, .int .i64 y.kind, .int .i64 y.value, .int .i64 y.time] g87 0 (by kernel_rfl) (by kernel_rfl) (same HB94) (by kernel_rfl) ?_
     obtain ⟨hmy, hpy, hvy1, hvy2⟩ := parse_bwd hps_
     obtain ⟨hy1, hy2, hy3, hy4, hy5, hy6⟩ := may_parts hmy
     have hwl_ := word_len hy2
     refine WO.call (SQ.E 1 (by kernel_rfl)) 61 (by kernel_rfl) (print_l y A2_ n2_ c2_ F2_ _ HT2_ hn2_ (by omega) (by omega) (fun t h_ => by have a_ := word_len (hy1 t h_).1; have b_ := word_len (hy1 t h_).2; omega) hmy (few_of hmy) hy4 ⟨hvy1, hvy2⟩ (by omega) HTab nin_2_F2_) ?_
     rintro _ w95 ⟨rfl, F96⟩
     rw [hpy]
     refine ⟨_, rfl, trivial, ?_⟩
     have HB4 := Blk.keep HB4 F96 (nin0 _)
     have HB94 := Blk.keep HB94 F96 (nin0 _)
     have HT := HT.keep F96 (fun _ _ => nin0 _)
     have HT2_ := HT2_.keep F96 (fun _ _ => nin0 _)
     have HE := HE.keep F96 (nin0 _)
     have HS := var_keep 3 (by kernel_rfl) HS F96 (nin0 _)
     have HR := var_keep 4 (by kernel_rfl) HR F96 (nin0 _)
     have HTab := tab_keep HTab F96 (nin0 _)
     have HA := Fr.step0 HA F96
     refine WO.run 5 2 [(14, .nilIface), (13, .string (str s)), (63, .nilIface), (62, .string (str s)), (59, .tuple #[.string (str s), .nilIface])] (by kernel_rfl) (by kernel_rfl) ?_
     refine WO.done (by kernel_rfl) ?_
     refine WQ.keep [1, 4, 5, 13, 14] (e' := [(1, .string (str s)), (4, .bool false), (5, .bool true), (13, .string (str s)), (14, .nilIface)]) (by kernel_rfl) ?_
     refine WQ.thenN ?_
     refine WE.seq ?_
     refine WE.region ?_
     refine WO.run 8 0 [(71, .string (str s)), (70, .string (str s)), (69, .bool true), (68, .bool true), (67, .bool true), (66, .nilIface), (65, .bool true), (64, .bool true)] (by kernel_rfl) (by kernel_rfl) ?_
     refine WO.one (SQ.F 8 (by kernel_rfl)) 72 (.bool ((str s).toList == (str s).toList)) (by kernel_rfl) ?_
     refine WO.top (v' := .bool (decide ((str s) = (str s)))) (congrArg Value.bool (streq (str s) (str s))) ?_
     refine WO.run 2 9 [(4, .bool (decide ((str s) = (str s)))), (73, .bool (decide ((str s) = (str s))))] (by kernel_rfl) (by kernel_rfl) ?_
     refine WO.done (by kernel_rfl) ?_
     refine WQ.keep [4] (e' := [(4, .bool (decide ((str s) = (str s))))]) (by kernel_rfl) ?_
     refine WQ.thenN ?_
     refine WE.ret ?_
     refine WQ.ret (v := .bool (decide ((str s) = (str s)))) (by kernel_rfl) ?_
     exact ⟨by rw [decide_eq_true rfl], HA⟩
   refine WE.seq ?_
   refine WE.region ?_
   refine WO.run 2 0 [(32, .bool false), (31, .iface 35 (.int .i64 1))] (by kernel_rfl) (by kernel_rfl) ?_
   refine WO.done (by kernel_rfl) ?_
   refine WQ.keep [1, 2, 4, 5, 7, 32] (e' := [(1, .string (str s)), (2, .pointer (some ⟨g1, 0, none⟩)), (4, .bool false), (5, .bool true), (7, .string (⟨#[]⟩)), (32, .bool false)]) (by kernel_rfl) ?_
   refine WQ.thenN ?_
   refine WE.condF (by kernel_rfl) ?_
   refine WE.skip ?_
   refine WQ.round ?_
   intro a_ ha_
   refine ⟨(), ha_.keep [1, 4, 5] (by kernel_rfl), ?_⟩
   exact ⟨HB4, HT, HE, HS, HR, HTab, HA⟩
 ·
  rw [hfew]
  refine WO.run 1 2 [(6, .bool false)] (by kernel_rfl) (by kernel_rfl) ?_
  refine WO.done (by kernel_rfl) ?_
  refine WQ.keep [1, 2, 4, 5, 6] (e' := [(1, .string (str s)), (2, .pointer (some ⟨g1, 0, none⟩)), (4, .bool false), (5, .bool true), (6, .bool false)]) (by kernel_rfl) ?_
  refine WQ.thenN ?_
  refine WE.seq ?_
  refine WE.seq ?_
  refine WE.region ?_
  refine WO.run 7 0 [(24, .bool true), (23, undef), (22, undef), (21, undef), (20, .bool true), (19, .bool true), (18, .bool false)] (by kernel_rfl) (by kernel_rfl) ?_
  refine WO.done (by kernel_rfl) ?_
  refine WQ.keep [1, 2, 4, 5, 24] (e' := [(1, .string (str s)), (2, .pointer (some ⟨g1, 0, none⟩)), (4, .bool false), (5, .bool true), (24, .bool true)]) (by kernel_rfl) ?_
  refine WQ.thenN ?_
  refine WE.condT (by kernel_rfl) ?_
  refine WE.seq ?_
  refine WE.region ?_
  refine WO.run 2 0 [(4, .bool true), (25, .bool true)] (by kernel_rfl) (by kernel_rfl) ?_
  refine WO.done (by kernel_rfl) ?_
  refine WQ.keep [1, 2, 4, 5] (e' := [(1, .string (str s)), (2, .pointer (some ⟨g1, 0, none⟩)), (4, .bool true), (5, .bool true)]) (by kernel_rfl) ?_
  refine WQ.thenN ?_
  refine WE.ret ?_
  refine WQ.thenR ?_
  refine WQ.ret (v := .bool true) (by kernel_rfl) ?_
  exact ⟨rfl, HA⟩
end Go.Proofs.YtdhonbahpcmmnaaDoor.Line
