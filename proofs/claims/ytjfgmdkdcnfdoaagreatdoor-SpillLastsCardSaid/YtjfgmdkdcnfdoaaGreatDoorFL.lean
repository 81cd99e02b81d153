/- Layer 21's statement SpillLasts. -/
import Derived.Test.YtjfgmdkdcnfdoaaGreatDoorSD
set_option linter.unusedVariables false
set_option linter.unusedSimpArgs false
namespace Go.Proofs.YtjfgmdkdcnfdoaaGreatDoor.Jrn
open Go Go.RowKit Go.Proofs.YtjfgmdkdcnfdoaaGreatDoor Go.Proofs.YtjfgmdkdcnfdoaaGreatDoor.Eng Go.Proofs.YtjfgmdkdcnfdoaaGreatDoor.Eng.Sep Go.Proofs.YtjfgmdkdcnfdoaaGreatDoorW.PrintWords
open Go.Proofs.YtjfgmdkdcnfdoaaGreatDoor.Disk
open Go.Proofs.YtjfgmdkdcnfdoaaGreatDoor.Wire (enc encT rText)
def fI : Nat → Nat := fun i => i
def cS (r : List UInt8) : List Value := [.string (str r)]
def gS (q : List (List UInt8)) (i : Nat) : List UInt8 := q.getD i []
theorem gS_some (q : List (List UInt8)) (i : Nat) (h : i < q.length) : q[i]? = some (gS q i) := by
 unfold gS
 rw [List.getD_eq_getElem?_getD, List.getElem?_eq_getElem h]
 rfl
theorem cS_len (l : List (List UInt8)) : ∀ x ∈ l.map cS, x.length = 1 := by
 intro x hx
 obtain ⟨b, _, rfl⟩ := List.mem_map.1 hx
 rfl
theorem cS_one (l : List (List UInt8)) : ∀ x ∈ l.map cS, x.all oneB = true := by
 intro x hx
 obtain ⟨b, _, rfl⟩ := List.mem_map.1 hx
 rfl
theorem et_s : ET Tryz.prog 103 9 1 16 := by
 obtain ⟨i, h1, h2, h3, h4⟩ := info_parts (P := Tryz.prog) (e := 9) (z := .string ⟨#[]⟩) (size := 1) (bytes := 16) (by kernel_rfl)
 exact ⟨by kernel_rfl, ⟨i, _, h1, h2, h3, h4, rfl⟩, by decide⟩
theorem rows_len0 (k : Nat) : (rows fI 0 k).length = k := by rw [rows_len]; rfl
theorem rows_g (f : Nat → Nat) {k a : Nat} (h : a < k) : gS (rows f 0 k) a = encB a (f a) := by
 have h1 := gS_some (rows f 0 k) a (by rw [rows_len]; omega)
 rw [rows_at f (by omega), Nat.zero_add] at h1
 exact (Option.some.inj h1).symm
set_option maxRecDepth 100000 in
set_option maxHeartbeats 400000 in
theorem up21_ct  :
  Ct Tryz.prog 31 #[] [] [] (fun (_ : Unit) => True) (fun _ => (.bool true, [])) := by
 refine Ct.mk fun w T_ H => ?_
 refine enter (N := 71) Tryz.func31 (c := _) rfl (by kernel_rfl) (by kernel_rfl) (e := []) (by kernel_rfl) ?_
 refine WE.seq ?_
 refine WE.region ?_
 refine WO.run 1 0 [(0, .bool false)] (by kernel_rfl) (by kernel_rfl) ?_
 refine WO.done (by kernel_rfl) ?_
 refine WQ.thenN ?_
 refine WE.seq ?_
 refine WE.region ?_
 refine Sc H 12 (dnew_ct 100 (by decide)) [] [] ?_
 rintro gd w _ H
 replace H := H.conv [0] (Ent.newD gd (fun _ => 7) 100 (by decide))
 refine WO.run 5 1 [(2, .nilIface), (1, .pointer (some ⟨gd, 0, none⟩)), (14, .nilIface), (13, .pointer (some ⟨gd, 0, none⟩)), (11, .tuple #[.pointer (some ⟨gd, 0, none⟩), .nilIface])] (by kernel_rfl) (by kernel_rfl) ?_
 refine WO.done (by kernel_rfl) ?_
 refine WQ.keep [0, 1, 2] (e' := [(0, .bool false), (1, .pointer (some ⟨gd, 0, none⟩)), (2, .nilIface)]) (by kernel_rfl) ?_
 refine WQ.thenN ?_
 refine WE.seq ?_
 refine WE.seq ?_
 refine WE.region ?_
 refine WO.run 6 0 [(20, .bool false), (19, .bool false), (18, .nilIface), (17, .bool false), (16, .bool false), (15, .pointer (some ⟨gd, 0, none⟩))] (by kernel_rfl) (by kernel_rfl) ?_
 refine WO.done (by kernel_rfl) ?_
 refine WQ.keep [0, 1, 20] (e' := [(0, .bool false), (1, .pointer (some ⟨gd, 0, none⟩)), (20, .bool false)]) (by kernel_rfl) ?_
 refine WQ.thenN ?_
 refine WE.condF (by kernel_rfl) ?_
 refine WE.skip ?_
 refine WQ.thenN ?_
 refine WE.seq ?_
 refine WE.region ?_
 refine WO.run 1 0 [(22, .pointer (some ⟨gd, 0, none⟩))] (by kernel_rfl) (by kernel_rfl) ?_
 refine Sc H 23 (sdopen_ct gd 2 2 100 0 0 (fun _ => 7) false (by omega) (by omega) (by omega) (fun _ _ => by decide)) [0] [] ?_
 rintro ⟨gs, a⟩ w ⟨ha1, ha2, ha3⟩ H
 dsimp only at ha1 ha2 ha3
 obtain rfl : a = 0 := by omega
 dsimp only at H ⊢
 refine WO.run 5 2 [(4, .nilIface), (3, .pointer (some ⟨gs, 0, none⟩)), (25, .nilIface), (24, .pointer (some ⟨gs, 0, none⟩)), (21, .tuple #[.pointer (some ⟨gs, 0, none⟩), .nilIface])] (by kernel_rfl) (by kernel_rfl) ?_
 refine WO.done (by kernel_rfl) ?_
 refine WQ.keep [0, 1, 3, 4] (e' := [(0, .bool false), (1, .pointer (some ⟨gd, 0, none⟩)), (3, .pointer (some ⟨gs, 0, none⟩)), (4, .nilIface)]) (by kernel_rfl) ?_
 refine WQ.thenN ?_
 refine WE.seq ?_
 refine WE.region ?_
 refine WO.run 1 0 [(27, .pointer (some ⟨gd, 0, none⟩))] (by kernel_rfl) (by kernel_rfl) ?_
 refine Sc H 28 (sopen_room gd 2 0 (by omega)) [] [] ?_
 rintro ⟨⟩ w _ H
 refine WO.run 5 2 [(6, .iface 88 (.int .i64 1)), (5, .pointer none), (30, .iface 88 (.int .i64 1)), (29, .pointer none), (26, .tuple #[.pointer none, .iface 88 (.int .i64 1)])] (by kernel_rfl) (by kernel_rfl) ?_
 refine WO.done (by kernel_rfl) ?_
 refine WQ.keep [0, 3, 4, 6] (e' := [(0, .bool false), (3, .pointer (some ⟨gs, 0, none⟩)), (4, .nilIface), (6, .iface 88 (.int .i64 1))]) (by kernel_rfl) ?_
 refine WQ.thenN ?_
 refine WE.seq ?_
 refine WE.seq ?_
 refine WE.region ?_
 refine WO.run 6 0 [(36, .bool false), (35, .bool false), (34, .nilIface), (33, .bool false), (32, .bool false), (31, .pointer (some ⟨gs, 0, none⟩))] (by kernel_rfl) (by kernel_rfl) ?_
 refine WO.done (by kernel_rfl) ?_
 refine WQ.keep [0, 3, 6, 36] (e' := [(0, .bool false), (3, .pointer (some ⟨gs, 0, none⟩)), (6, .iface 88 (.int .i64 1)), (36, .bool false)]) (by kernel_rfl) ?_
 refine WQ.thenN ?_
 refine WE.condF (by kernel_rfl) ?_
 refine WE.skip ?_
 refine WQ.thenN ?_
 refine WE.seq ?_
 refine WE.region ?_
 refine WO.run 2 0 [(38, .agg #[.int .i64 0, .int .i64 7, .slice none 0 0]), (37, .pointer (some ⟨gs, 0, none⟩))] (by kernel_rfl) (by kernel_rfl) ?_
 refine Sc H 39 (sdput_ct gs gd 2 2 100 0 0 (fun _ => 7) 7 (by omega) rfl (by decide) (by omega) (by omega)) [0] [] ?_
 rintro ⟨⟩ w _ H
 refine WO.run 1 3 [(7, .nilIface)] (by kernel_rfl) (by kernel_rfl) ?_
 refine WO.done (by kernel_rfl) ?_
 refine WQ.keep [0, 3, 6, 7] (e' := [(0, .bool false), (3, .pointer (some ⟨gs, 0, none⟩)), (6, .iface 88 (.int .i64 1)), (7, .nilIface)]) (by kernel_rfl) ?_
 refine WQ.thenN ?_
 refine WE.seq ?_
 refine WE.region ?_
 refine WO.run 1 0 [(41, .pointer (some ⟨gs, 0, none⟩))] (by kernel_rfl) (by kernel_rfl) ?_
 refine Sc H 42 (sdhead_ct gs gd 2 2 100 0 (0 + 1) (fun _ => 7) (by omega) (by omega) (by decide)) [] [0] ?_
 rintro ⟨A1, cp2⟩ w hccp2 H
 refine WO.run 4 2 [(45, .bool true), (44, .slice A1 ((encB 0 ((fun _ => 7) 0)).length) cp2), (43, .agg #[.int .i64 0, .int .i64 7, .slice none 0 0]), (40, .tuple #[.agg #[.int .i64 0, .int .i64 7, .slice none 0 0], .slice A1 ((encB 0 ((fun _ => 7) 0)).length) cp2, .bool true])] (by kernel_rfl) (by kernel_rfl) ?_
 refine Sb H 8 #[.int .i64 0, .int .i64 0, .slice none 0 0] 42 (fun g => .pointer (some ⟨g, 0, none⟩)) ?_
 intro g3 w H
 refine Ss H 0 0 #[.int .i64 0, .int .i64 7, .slice none 0 0] ?_
 intro w H
 refine WO.run 2 8 [(10, .bool true), (9, .slice A1 ((encB 0 ((fun _ => 7) 0)).length) cp2)] (by kernel_rfl) (by kernel_rfl) ?_
 refine WO.done (by kernel_rfl) ?_
 refine WQ.keep [0, 3, 6, 7, 8, 10] (e' := [(0, .bool false), (3, .pointer (some ⟨gs, 0, none⟩)), (6, .iface 88 (.int .i64 1)), (7, .nilIface), (8, .pointer (some ⟨g3, 0, none⟩)), (10, .bool true)]) (by kernel_rfl) ?_
 refine WQ.thenN ?_
 refine WE.seq ?_
 refine WE.region ?_
 refine WO.run 12 0 [(57, .pointer (some ⟨g3, 1, none⟩)), (56, .bool true), (55, .bool true), (54, .bool true), (53, .bool true), (52, .bool true), (51, .bool true), (50, .nilIface), (49, .bool true), (48, .bool true), (47, .iface 88 (.int .i64 1)), (46, .iface 88 (.int .i64 1))] (by kernel_rfl) (by kernel_rfl) ?_
 refine WO.ld (SQ.S 12 (by kernel_rfl)) 58 (.int .i64 7) (by kernel_rfl) (H.cell 0 1) ?_
 refine WO.run 4 13 [(62, .pointer (some ⟨gs, 0, none⟩)), (61, .bool true), (60, .bool true), (59, .bool true)] (by kernel_rfl) (by kernel_rfl) ?_
 refine Sc H 63 (sdlen_ct gs gd 2 2 100 0 (0 + 1) (fun _ => 7) (by omega)) [] [2] ?_
 rintro ⟨⟩ w _ H
 refine WO.run 4 18 [(67, .pointer (some ⟨gs, 0, none⟩)), (66, .bool true), (65, .bool true), (64, .bool true)] (by kernel_rfl) (by kernel_rfl) ?_
 refine Sc H 68 (sdnext_ct gs gd 2 2 100 0 (0 + 1) (fun _ => 7) (by omega)) [] [2] ?_
 rintro ⟨⟩ w _ H
 refine WO.run 3 23 [(0, .bool true), (70, .bool true), (69, .bool true)] (by kernel_rfl) (by kernel_rfl) ?_
 refine WO.done (by kernel_rfl) ?_
 refine WQ.keep [0] (e' := [(0, .bool true)]) (by kernel_rfl) ?_
 refine WQ.thenN ?_
 refine WE.ret ?_
 refine WQ.ret (v := .bool true) (by kernel_rfl) ?_
 exact H.leaf () [] trivial
set_option maxRecDepth 100000 in
set_option maxHeartbeats 2000000 in
theorem lasts_ct (many n acks keep : Int) (hkr : -9223372036854775808 ≤ keep ∧ keep ≤ 9223372036854775807) :
  Ct Tryz.prog 6 #[.int .i64 many, .int .i64 n, .int .i64 acks, .int .i64 keep] [] [] (fun (_ : Unit) => True) (fun _ => (.bool true, [])) := by
 refine Ct.mk fun w T_ H => ?_
 refine enter (N := 192) Tryz.func6 (c := _) rfl (by kernel_rfl) (by kernel_rfl) (e := [(0, .int .i64 many), (1, .int .i64 n), (2, .int .i64 acks), (3, .int .i64 keep)]) (by kernel_rfl) ?_
 refine WE.seq ?_
 refine WE.region ?_
 refine WO.run 1 0 [(8, .bool false)] (by kernel_rfl) (by kernel_rfl) ?_
 refine WO.done (by kernel_rfl) ?_
 refine WQ.keep [0, 1, 2, 3, 8] (e' := [(0, .int .i64 many), (1, .int .i64 n), (2, .int .i64 acks), (3, .int .i64 keep), (8, .bool false)]) (by kernel_rfl) ?_
 refine WQ.thenN ?_
 refine WE.seq ?_
 refine WE.region ?_
 refine Sc H 27 (up21_ct) [] [] ?_
 rintro ⟨⟩ w _ H
 refine WO.run 1 1 [(9, .bool true)] (by kernel_rfl) (by kernel_rfl) ?_
 refine WO.done (by kernel_rfl) ?_
 refine WQ.keep [0, 1, 2, 3, 8, 9] (e' := [(0, .int .i64 many), (1, .int .i64 n), (2, .int .i64 acks), (3, .int .i64 keep), (8, .bool false), (9, .bool true)]) (by kernel_rfl) ?_
 refine WQ.thenN ?_
 refine WE.seq ?_
 refine WE.region ?_
 refine Sc H 29 (dnew_ct 60000 (by decide)) [] [] ?_
 rintro gd w _ H
 replace H := H.conv [0] (Ent.newD gd fI 60000 (by decide))
 refine WO.run 5 1 [(11, .nilIface), (10, .pointer (some ⟨gd, 0, none⟩)), (31, .nilIface), (30, .pointer (some ⟨gd, 0, none⟩)), (28, .tuple #[.pointer (some ⟨gd, 0, none⟩), .nilIface])] (by kernel_rfl) (by kernel_rfl) ?_
 refine WO.done (by kernel_rfl) ?_
 refine WQ.keep [0, 1, 2, 3, 8, 9, 10, 11] (e' := [(0, .int .i64 many), (1, .int .i64 n), (2, .int .i64 acks), (3, .int .i64 keep), (8, .bool false), (9, .bool true), (10, .pointer (some ⟨gd, 0, none⟩)), (11, .nilIface)]) (by kernel_rfl) ?_
 refine WQ.thenN ?_
 refine WE.seq ?_
 refine WE.seq ?_
 refine WE.region ?_
 refine WO.run 8 0 [(39, .int .i64 n), (38, .bool false), (37, .bool false), (36, .bool false), (35, .nilIface), (34, .bool false), (33, .bool false), (32, .pointer (some ⟨gd, 0, none⟩))] (by kernel_rfl) (by kernel_rfl) ?_
 refine WO.one (SQ.F 8 (by kernel_rfl)) 40 (.bool (decide ((n : Int) < 0))) (by kernel_rfl) ?_
 refine WO.topP ((n : Int) < 0) ?_ ?_
 ·
  intro h1
  refine WO.run 14 9 [(54, .bool true), (53, undef), (52, undef), (51, undef), (50, .bool true), (49, .bool true), (48, undef), (47, undef), (46, .bool true), (45, .bool true), (44, undef), (43, undef), (42, .bool true), (41, .bool true)] (by kernel_rfl) (by kernel_rfl) ?_
  refine WO.done (by kernel_rfl) ?_
  refine WQ.keep [0, 1, 2, 3, 8, 9, 10, 11, 54] (e' := [(0, .int .i64 many), (1, .int .i64 n), (2, .int .i64 acks), (3, .int .i64 keep), (8, .bool false), (9, .bool true), (10, .pointer (some ⟨gd, 0, none⟩)), (11, .nilIface), (54, .bool true)]) (by kernel_rfl) ?_
  refine WQ.thenN ?_
  refine WE.condT (by kernel_rfl) ?_
  refine WE.seq ?_
  refine WE.region ?_
  refine WO.run 10 0 [(8, .bool true), (63, .bool true), (62, .bool true), (61, .nilIface), (60, .bool true), (59, .bool true), (58, .bool true), (57, .pointer (some ⟨gd, 0, none⟩)), (56, .bool true), (55, .bool true)] (by kernel_rfl) (by kernel_rfl) ?_
  refine WO.done (by kernel_rfl) ?_
  refine WQ.keep [0, 1, 2, 3, 8, 9, 10] (e' := [(0, .int .i64 many), (1, .int .i64 n), (2, .int .i64 acks), (3, .int .i64 keep), (8, .bool true), (9, .bool true), (10, .pointer (some ⟨gd, 0, none⟩))]) (by kernel_rfl) ?_
  refine WQ.thenN ?_
  refine WE.ret ?_
  refine WQ.thenR ?_
  refine WQ.ret (v := .bool true) (by kernel_rfl) ?_
  exact H.leaf () [] trivial
 intro h1
 refine WO.run 3 9 [(43, .int .i64 n), (42, .bool false), (41, .bool false)] (by kernel_rfl) (by kernel_rfl) ?_
 refine WO.one (SQ.F 12 (by kernel_rfl)) 44 (.bool (decide ((n : Int) > 40))) (by kernel_rfl) ?_
 refine WO.topP ((n : Int) > 40) ?_ ?_
 ·
  intro h2
  refine WO.run 10 13 [(54, .bool true), (53, undef), (52, undef), (51, undef), (50, .bool true), (49, .bool true), (48, undef), (47, undef), (46, .bool true), (45, .bool true)] (by kernel_rfl) (by kernel_rfl) ?_
  refine WO.done (by kernel_rfl) ?_
  refine WQ.keep [0, 1, 2, 3, 8, 9, 10, 11, 54] (e' := [(0, .int .i64 many), (1, .int .i64 n), (2, .int .i64 acks), (3, .int .i64 keep), (8, .bool false), (9, .bool true), (10, .pointer (some ⟨gd, 0, none⟩)), (11, .nilIface), (54, .bool true)]) (by kernel_rfl) ?_
  refine WQ.thenN ?_
  refine WE.condT (by kernel_rfl) ?_
  refine WE.seq ?_
  refine WE.region ?_
  refine WO.run 10 0 [(8, .bool true), (63, .bool true), (62, .bool true), (61, .nilIface), (60, .bool true), (59, .bool true), (58, .bool true), (57, .pointer (some ⟨gd, 0, none⟩)), (56, .bool true), (55, .bool true)] (by kernel_rfl) (by kernel_rfl) ?_
  refine WO.done (by kernel_rfl) ?_
  refine WQ.keep [0, 1, 2, 3, 8, 9, 10] (e' := [(0, .int .i64 many), (1, .int .i64 n), (2, .int .i64 acks), (3, .int .i64 keep), (8, .bool true), (9, .bool true), (10, .pointer (some ⟨gd, 0, none⟩))]) (by kernel_rfl) ?_
  refine WQ.thenN ?_
  refine WE.ret ?_
  refine WQ.thenR ?_
  refine WQ.ret (v := .bool true) (by kernel_rfl) ?_
  exact H.leaf () [] trivial
 intro h2
 refine WO.run 3 13 [(47, .int .i64 acks), (46, .bool false), (45, .bool false)] (by kernel_rfl) (by kernel_rfl) ?_
 refine WO.one (SQ.F 16 (by kernel_rfl)) 48 (.bool (decide ((acks : Int) < 0))) (by kernel_rfl) ?_
 refine WO.topP ((acks : Int) < 0) ?_ ?_
 ·
  intro h3
  refine WO.run 6 17 [(54, .bool true), (53, undef), (52, undef), (51, undef), (50, .bool true), (49, .bool true)] (by kernel_rfl) (by kernel_rfl) ?_
  refine WO.done (by kernel_rfl) ?_
  refine WQ.keep [0, 1, 2, 3, 8, 9, 10, 11, 54] (e' := [(0, .int .i64 many), (1, .int .i64 n), (2, .int .i64 acks), (3, .int .i64 keep), (8, .bool false), (9, .bool true), (10, .pointer (some ⟨gd, 0, none⟩)), (11, .nilIface), (54, .bool true)]) (by kernel_rfl) ?_
  refine WQ.thenN ?_
  refine WE.condT (by kernel_rfl) ?_
  refine WE.seq ?_
  refine WE.region ?_
  refine WO.run 10 0 [(8, .bool true), (63, .bool true), (62, .bool true), (61, .nilIface), (60, .bool true), (59, .bool true), (58, .bool true), (57, .pointer (some ⟨gd, 0, none⟩)), (56, .bool true), (55, .bool true)] (by kernel_rfl) (by kernel_rfl) ?_
  refine WO.done (by kernel_rfl) ?_
  refine WQ.keep [0, 1, 2, 3, 8, 9, 10] (e' := [(0, .int .i64 many), (1, .int .i64 n), (2, .int .i64 acks), (3, .int .i64 keep), (8, .bool true), (9, .bool true), (10, .pointer (some ⟨gd, 0, none⟩))]) (by kernel_rfl) ?_
  refine WQ.thenN ?_
  refine WE.ret ?_
  refine WQ.thenR ?_
  refine WQ.ret (v := .bool true) (by kernel_rfl) ?_
  exact H.leaf () [] trivial
 intro h3
 refine WO.run 4 17 [(52, .int .i64 n), (51, .int .i64 acks), (50, .bool false), (49, .bool false)] (by kernel_rfl) (by kernel_rfl) ?_
 refine WO.one (SQ.F 21 (by kernel_rfl)) 53 (.bool (decide ((acks : Int) > n))) (by kernel_rfl) ?_
 refine WO.topP ((acks : Int) > n) ?_ ?_
 ·
  intro h4
  refine WO.run 1 22 [(54, .bool true)] (by kernel_rfl) (by kernel_rfl) ?_
  refine WO.done (by kernel_rfl) ?_
  refine WQ.keep [0, 1, 2, 3, 8, 9, 10, 11, 54] (e' := [(0, .int .i64 many), (1, .int .i64 n), (2, .int .i64 acks), (3, .int .i64 keep), (8, .bool false), (9, .bool true), (10, .pointer (some ⟨gd, 0, none⟩)), (11, .nilIface), (54, .bool true)]) (by kernel_rfl) ?_
  refine WQ.thenN ?_
  refine WE.condT (by kernel_rfl) ?_
  refine WE.seq ?_
  refine WE.region ?_
  refine WO.run 10 0 [(8, .bool true), (63, .bool true), (62, .bool true), (61, .nilIface), (60, .bool true), (59, .bool true), (58, .bool true), (57, .pointer (some ⟨gd, 0, none⟩)), (56, .bool true), (55, .bool true)] (by kernel_rfl) (by kernel_rfl) ?_
  refine WO.done (by kernel_rfl) ?_
  refine WQ.keep [0, 1, 2, 3, 8, 9, 10] (e' := [(0, .int .i64 many), (1, .int .i64 n), (2, .int .i64 acks), (3, .int .i64 keep), (8, .bool true), (9, .bool true), (10, .pointer (some ⟨gd, 0, none⟩))]) (by kernel_rfl) ?_
  refine WQ.thenN ?_
  refine WE.ret ?_
  refine WQ.thenR ?_
  refine WQ.ret (v := .bool true) (by kernel_rfl) ?_
  exact H.leaf () [] trivial
 intro h4
 refine WO.run 1 22 [(54, .bool false)] (by kernel_rfl) (by kernel_rfl) ?_
 refine WO.done (by kernel_rfl) ?_
 refine WQ.keep [0, 1, 2, 3, 8, 9, 10, 11, 54] (e' := [(0, .int .i64 many), (1, .int .i64 n), (2, .int .i64 acks), (3, .int .i64 keep), (8, .bool false), (9, .bool true), (10, .pointer (some ⟨gd, 0, none⟩)), (11, .nilIface), (54, .bool false)]) (by kernel_rfl) ?_
 refine WQ.thenN ?_
 refine WE.condF (by kernel_rfl) ?_
 refine WE.skip ?_
 refine WQ.thenN ?_
 refine WE.seq ?_
 by_cases hm : many < 1 ∨ 100 < many
 ·
  refine WE.region ?_
  refine WO.run 2 0 [(66, .int .i64 many), (65, .pointer (some ⟨gd, 0, none⟩))] (by kernel_rfl) (by kernel_rfl) ?_
  refine Sc H 67 (sopen_many gd many 1000 (by omega) hm) [] [] ?_
  rintro ⟨⟩ w _ H
  refine WO.run 5 3 [(13, .iface 88 (.int .i64 1)), (12, .pointer none), (69, .iface 88 (.int .i64 1)), (68, .pointer none), (64, .tuple #[.pointer none, .iface 88 (.int .i64 1)])] (by kernel_rfl) (by kernel_rfl) ?_
  refine WO.done (by kernel_rfl) ?_
  refine WQ.keep [0, 1, 2, 3, 8, 9, 10, 12, 13] (e' := [(0, .int .i64 many), (1, .int .i64 n), (2, .int .i64 acks), (3, .int .i64 keep), (8, .bool false), (9, .bool true), (10, .pointer (some ⟨gd, 0, none⟩)), (12, .pointer none), (13, .iface 88 (.int .i64 1))]) (by kernel_rfl) ?_
  refine WQ.thenN ?_
  refine WE.seq ?_
  refine WE.seq ?_
  refine WE.region ?_
  refine WO.run 6 0 [(75, .bool true), (74, undef), (73, undef), (72, .bool true), (71, .bool true), (70, .pointer none)] (by kernel_rfl) (by kernel_rfl) ?_
  refine WO.done (by kernel_rfl) ?_
  refine WQ.keep [0, 1, 2, 3, 8, 9, 10, 12, 75] (e' := [(0, .int .i64 many), (1, .int .i64 n), (2, .int .i64 acks), (3, .int .i64 keep), (8, .bool false), (9, .bool true), (10, .pointer (some ⟨gd, 0, none⟩)), (12, .pointer none), (75, .bool true)]) (by kernel_rfl) ?_
  refine WQ.thenN ?_
  refine WE.condT (by kernel_rfl) ?_
  refine WE.seq ?_
  refine WE.region ?_
  refine WO.run 6 0 [(8, .bool true), (80, .bool true), (79, .bool true), (78, .pointer none), (77, .bool true), (76, .bool true)] (by kernel_rfl) (by kernel_rfl) ?_
  refine WO.done (by kernel_rfl) ?_
  refine WQ.keep [0, 1, 2, 3, 8, 9, 10, 12] (e' := [(0, .int .i64 many), (1, .int .i64 n), (2, .int .i64 acks), (3, .int .i64 keep), (8, .bool true), (9, .bool true), (10, .pointer (some ⟨gd, 0, none⟩)), (12, .pointer none)]) (by kernel_rfl) ?_
  refine WQ.thenN ?_
  refine WE.ret ?_
  refine WQ.thenR ?_
  refine WQ.ret (v := .bool true) (by kernel_rfl) ?_
  exact H.leaf () [] trivial
 obtain ⟨n', rfl⟩ : ∃ k : Nat, (k : Int) = n := ⟨n.toNat, by omega⟩
 obtain ⟨ac, rfl⟩ : ∃ k : Nat, (k : Int) = acks := ⟨acks.toNat, by omega⟩
 refine WE.region ?_
 refine WO.run 2 0 [(66, .int .i64 many), (65, .pointer (some ⟨gd, 0, none⟩))] (by kernel_rfl) (by kernel_rfl) ?_
 refine Sc H 67 (sdopen_ct gd many 1000 60000 0 0 fI false (by omega) (by omega) (by omega) (fun _ h => absurd h (Nat.not_lt_zero _))) [0] [] ?_
 rintro ⟨gs, a⟩ w ⟨ha1, ha2, ha3⟩ H
 dsimp only at ha1 ha2 ha3
 obtain rfl : a = 0 := by omega
 dsimp only at H ⊢
 refine WO.run 5 3 [(13, .nilIface), (12, .pointer (some ⟨gs, 0, none⟩)), (69, .nilIface), (68, .pointer (some ⟨gs, 0, none⟩)), (64, .tuple #[.pointer (some ⟨gs, 0, none⟩), .nilIface])] (by kernel_rfl) (by kernel_rfl) ?_
 refine WO.done (by kernel_rfl) ?_
 refine WQ.keep [0, 1, 2, 3, 8, 9, 10, 12, 13] (e' := [(0, .int .i64 many), (1, .int .i64 (n' : Int)), (2, .int .i64 (ac : Int)), (3, .int .i64 keep), (8, .bool false), (9, .bool true), (10, .pointer (some ⟨gd, 0, none⟩)), (12, .pointer (some ⟨gs, 0, none⟩)), (13, .nilIface)]) (by kernel_rfl) ?_
 refine WQ.thenN ?_
 refine WE.seq ?_
 refine WE.seq ?_
 refine WE.region ?_
 refine WO.run 6 0 [(75, .bool false), (74, .bool false), (73, .nilIface), (72, .bool false), (71, .bool false), (70, .pointer (some ⟨gs, 0, none⟩))] (by kernel_rfl) (by kernel_rfl) ?_
 refine WO.done (by kernel_rfl) ?_
 refine WQ.keep [0, 1, 2, 3, 8, 9, 10, 12, 75] (e' := [(0, .int .i64 many), (1, .int .i64 (n' : Int)), (2, .int .i64 (ac : Int)), (3, .int .i64 keep), (8, .bool false), (9, .bool true), (10, .pointer (some ⟨gd, 0, none⟩)), (12, .pointer (some ⟨gs, 0, none⟩)), (75, .bool false)]) (by kernel_rfl) ?_
 refine WQ.thenN ?_
 refine WE.condF (by kernel_rfl) ?_
 refine WE.skip ?_
 refine WQ.thenN ?_
 refine WE.seq ?_
 refine WE.region ?_
 refine WO.run 1 0 [(14, .slice none 0 0)] (by kernel_rfl) (by kernel_rfl) ?_
 refine WO.done (by kernel_rfl) ?_
 refine WQ.keep [0, 1, 2, 3, 8, 9, 10, 12, 14] (e' := [(0, .int .i64 many), (1, .int .i64 (n' : Int)), (2, .int .i64 (ac : Int)), (3, .int .i64 keep), (8, .bool false), (9, .bool true), (10, .pointer (some ⟨gd, 0, none⟩)), (12, .pointer (some ⟨gs, 0, none⟩)), (14, .slice none 0 0)]) (by kernel_rfl) ?_
 refine WQ.thenN ?_
 refine WE.seq ?_
 refine WE.seq ?_
 refine WE.region ?_
 refine WO.run 1 0 [(15, .int .i64 0)] (by kernel_rfl) (by kernel_rfl) ?_
 refine WO.done (by kernel_rfl) ?_
 refine WQ.keep [0, 1, 2, 3, 8, 9, 10, 12, 14, 15] (e' := [(0, .int .i64 many), (1, .int .i64 (n' : Int)), (2, .int .i64 (ac : Int)), (3, .int .i64 keep), (8, .bool false), (9, .bool true), (10, .pointer (some ⟨gd, 0, none⟩)), (12, .pointer (some ⟨gs, 0, none⟩)), (14, .slice none 0 0), (15, .int .i64 0)]) (by kernel_rfl) ?_
 refine WQ.thenN ?_
 refine WE.block ?_
 refine Sloop (α := Nat) (fun i => [(0, .int .i64 many), (1, .int .i64 (n' : Int)), (2, .int .i64 (ac : Int)), (3, .int .i64 keep), (8, .bool false), (9, .bool true), (10, .pointer (some ⟨gd, 0, none⟩)), (12, .pointer (some ⟨gs, 0, none⟩)), (14, .slice none 0 0), (15, .int .i64 (i : Int))]) (fun i => [rSD gs gd many 1000 60000 0 i fI]) (fun i => i ≤ n') (fun i => n' - i) 0 [0, 1, 2, 3, 8, 9, 10, 12, 14, 15] [0] H (Nat.zero_le _) ?_
 rintro i w hi H
 refine WE.seq ?_
 refine WE.seq ?_
 refine WE.region ?_
 refine WO.run 2 0 [(82, .int .i64 (n' : Int)), (81, .int .i64 (i : Int))] (by kernel_rfl) (by kernel_rfl) ?_
 refine WO.one (SQ.F 2 (by kernel_rfl)) 83 (.bool (decide (((i : Int) : Int) < (n' : Int)))) (by kernel_rfl) ?_
 refine WO.topP (((i : Int) : Int) < (n' : Int)) ?_ ?_
 ·
  intro h5
  refine WO.done (by kernel_rfl) ?_
  refine WQ.keep [0, 1, 2, 3, 8, 9, 10, 12, 14, 15, 83] (e' := [(0, .int .i64 many), (1, .int .i64 (n' : Int)), (2, .int .i64 (ac : Int)), (3, .int .i64 keep), (8, .bool false), (9, .bool true), (10, .pointer (some ⟨gd, 0, none⟩)), (12, .pointer (some ⟨gs, 0, none⟩)), (14, .slice none 0 0), (15, .int .i64 (i : Int)), (83, .bool true)]) (by kernel_rfl) ?_
  refine WQ.thenN ?_
  refine WE.condT (by kernel_rfl) ?_
  refine WE.skip ?_
  refine WQ.thenN ?_
  refine WE.seq ?_
  refine WE.block ?_
  refine WE.seq ?_
  refine WE.region ?_
  refine WO.run 4 0 [(89, .agg #[.int .i64 (i : Int), .int .i64 (i : Int), .slice none 0 0]), (88, .int .i64 (i : Int)), (87, .int .i64 (i : Int)), (86, .pointer (some ⟨gs, 0, none⟩))] (by kernel_rfl) (by kernel_rfl) ?_
  refine Sc H 90 (sdput_ct gs gd many 1000 60000 0 i fI i (by omega) rfl (by omega) (by omega) (by omega)) [0] [] ?_
  rintro ⟨⟩ w _ H
  refine WO.run 1 5 [(16, .nilIface)] (by kernel_rfl) (by kernel_rfl) ?_
  refine WO.done (by kernel_rfl) ?_
  refine WQ.keep [0, 1, 2, 3, 8, 9, 10, 12, 14, 15, 16] (e' := [(0, .int .i64 many), (1, .int .i64 (n' : Int)), (2, .int .i64 (ac : Int)), (3, .int .i64 keep), (8, .bool false), (9, .bool true), (10, .pointer (some ⟨gd, 0, none⟩)), (12, .pointer (some ⟨gs, 0, none⟩)), (14, .slice none 0 0), (15, .int .i64 (i : Int)), (16, .nilIface)]) (by kernel_rfl) ?_
  refine WQ.thenN ?_
  refine WE.seq ?_
  refine WE.region ?_
  refine WO.run 2 0 [(92, .bool false), (91, .nilIface)] (by kernel_rfl) (by kernel_rfl) ?_
  refine WO.done (by kernel_rfl) ?_
  refine WQ.keep [0, 1, 2, 3, 8, 9, 10, 12, 14, 15, 92] (e' := [(0, .int .i64 many), (1, .int .i64 (n' : Int)), (2, .int .i64 (ac : Int)), (3, .int .i64 keep), (8, .bool false), (9, .bool true), (10, .pointer (some ⟨gd, 0, none⟩)), (12, .pointer (some ⟨gs, 0, none⟩)), (14, .slice none 0 0), (15, .int .i64 (i : Int)), (92, .bool false)]) (by kernel_rfl) ?_
  refine WQ.thenN ?_
  refine WE.condF (by kernel_rfl) ?_
  refine WE.skip ?_
  refine WQ.blkN ?_
  refine WQ.thenN ?_
  refine WE.region ?_
  refine WO.run 1 0 [(84, .int .i64 (i : Int))] (by kernel_rfl) (by kernel_rfl) ?_
  refine WO.one (SQ.F 1 (by kernel_rfl)) 85 (.int .i64 (IntKind.i64.wrap ((i : Int) + 1))) (by kernel_rfl) ?_
  refine WO.top (v' := .int .i64 ((i + 1 : Nat) : Int)) (wrap_i64 (by omega) (by omega)) ?_
  refine WO.run 1 2 [(15, .int .i64 ((i + 1 : Nat) : Int))] (by kernel_rfl) (by kernel_rfl) ?_
  refine WO.done (by kernel_rfl) ?_
  refine WQ.keep [0, 1, 2, 3, 8, 9, 10, 12, 14, 15] (e' := [(0, .int .i64 many), (1, .int .i64 (n' : Int)), (2, .int .i64 (ac : Int)), (3, .int .i64 keep), (8, .bool false), (9, .bool true), (10, .pointer (some ⟨gd, 0, none⟩)), (12, .pointer (some ⟨gs, 0, none⟩)), (14, .slice none 0 0), (15, .int .i64 ((i + 1 : Nat) : Int))]) (by kernel_rfl) ?_
  refine WQ.round fun a_ ha_ => ⟨i + 1, ?_, ha_.keep [0, 1, 2, 3, 8, 9, 10, 12, 14, 15] (by kernel_rfl), ?_, H.sub [0]⟩
  ·
   show n' - (i + 1) < n' - i; omega
  exact by omega
 intro h5
 refine WO.done (by kernel_rfl) ?_
 refine WQ.keep [0, 1, 2, 3, 8, 9, 10, 12, 14, 15, 83] (e' := [(0, .int .i64 many), (1, .int .i64 (n' : Int)), (2, .int .i64 (ac : Int)), (3, .int .i64 keep), (8, .bool false), (9, .bool true), (10, .pointer (some ⟨gd, 0, none⟩)), (12, .pointer (some ⟨gs, 0, none⟩)), (14, .slice none 0 0), (15, .int .i64 (i : Int)), (83, .bool false)]) (by kernel_rfl) ?_
 refine WQ.thenN ?_
 refine WE.condF (by kernel_rfl) ?_
 refine WE.exit ?_
 refine WQ.thenE ?_
 refine WQ.thenE ?_
 refine WQ.blkE ?_
 refine WQ.thenN ?_
 refine WE.seq ?_
 refine WE.seq ?_
 obtain rfl : i = n' := by omega
 refine WE.region ?_
 refine WO.run 1 0 [(17, .int .i64 0)] (by kernel_rfl) (by kernel_rfl) ?_
 refine WO.done (by kernel_rfl) ?_
 refine WQ.keep [0, 1, 2, 3, 8, 9, 10, 12, 14, 17] (e' := [(0, .int .i64 many), (1, .int .i64 (i : Int)), (2, .int .i64 (ac : Int)), (3, .int .i64 keep), (8, .bool false), (9, .bool true), (10, .pointer (some ⟨gd, 0, none⟩)), (12, .pointer (some ⟨gs, 0, none⟩)), (14, .slice none 0 0), (17, .int .i64 0)]) (by kernel_rfl) ?_
 refine WQ.thenN ?_
 refine WE.block ?_
 replace H := H.add (rY 9 1 (.slice none 0 0) (List.map cS (rows fI 0 0))) (OwnY.nil _ _ _)
 refine Sloop (α := Nat × (Option Addr) × Nat) (fun ⟨k, Aa, ca⟩ => [(0, .int .i64 many), (1, .int .i64 (i : Int)), (2, .int .i64 (ac : Int)), (3, .int .i64 keep), (8, .bool false), (9, .bool true), (10, .pointer (some ⟨gd, 0, none⟩)), (12, .pointer (some ⟨gs, 0, none⟩)), (14, .slice Aa k ca), (17, .int .i64 (k : Int))]) (fun ⟨k, Aa, ca⟩ => [rSD gs gd many 1000 60000 k i fI, rY 9 1 (.slice Aa k ca) (List.map cS (rows fI 0 k))]) (fun ⟨k, Aa, ca⟩ => k ≤ i ∧ k ≤ ac) (fun ⟨k, Aa, ca⟩ => i - k) (0, none, 0) [0, 1, 2, 3, 8, 9, 10, 12, 14, 17] [1, 0] H (⟨Nat.zero_le _, Nat.zero_le _⟩) ?_
 rintro ⟨k, Aa, ca⟩ w ⟨hk, hka⟩ H
 refine WE.seq ?_
 refine WE.seq ?_
 refine WE.region ?_
 refine WO.run 2 0 [(94, .int .i64 (i : Int)), (93, .int .i64 (k : Int))] (by kernel_rfl) (by kernel_rfl) ?_
 refine WO.one (SQ.F 2 (by kernel_rfl)) 95 (.bool (decide (((k : Int) : Int) < (i : Int)))) (by kernel_rfl) ?_
 refine WO.topP (((k : Int) : Int) < (i : Int)) ?_ ?_
 ·
  intro h6
  refine WO.done (by kernel_rfl) ?_
  refine WQ.keep [0, 1, 2, 3, 8, 9, 10, 12, 14, 17, 95] (e' := [(0, .int .i64 many), (1, .int .i64 (i : Int)), (2, .int .i64 (ac : Int)), (3, .int .i64 keep), (8, .bool false), (9, .bool true), (10, .pointer (some ⟨gd, 0, none⟩)), (12, .pointer (some ⟨gs, 0, none⟩)), (14, .slice Aa k ca), (17, .int .i64 (k : Int)), (95, .bool true)]) (by kernel_rfl) ?_
  refine WQ.thenN ?_
  refine WE.condT (by kernel_rfl) ?_
  refine WE.skip ?_
  refine WQ.thenN ?_
  refine WE.seq ?_
  refine WE.block ?_
  refine WE.seq ?_
  refine WE.region ?_
  refine WO.run 1 0 [(99, .pointer (some ⟨gs, 0, none⟩))] (by kernel_rfl) (by kernel_rfl) ?_
  refine Sc H 100 (sdhead_ct gs gd many 1000 60000 k i fI (by omega) (by omega) (by unfold fI; omega)) [] [0] ?_
  rintro ⟨A7, cp8⟩ w hccp8 H
  refine WO.run 4 2 [(103, .bool true), (102, .slice A7 ((encB k (fI k)).length) cp8), (101, .agg #[.int .i64 (k : Int), .int .i64 (k : Int), .slice none 0 0]), (98, .tuple #[.agg #[.int .i64 (k : Int), .int .i64 (k : Int), .slice none 0 0], .slice A7 ((encB k (fI k)).length) cp8, .bool true])] (by kernel_rfl) (by kernel_rfl) ?_
  refine Sb H 18 #[.int .i64 0, .int .i64 0, .slice none 0 0] 42 (fun g => .pointer (some ⟨g, 0, none⟩)) ?_
  intro g9 w H
  refine Ss H 0 0 #[.int .i64 (k : Int), .int .i64 (k : Int), .slice none 0 0] ?_
  intro w H
  refine WO.run 2 8 [(20, .bool true), (19, .slice A7 ((encB k (fI k)).length) cp8)] (by kernel_rfl) (by kernel_rfl) ?_
  refine WO.done (by kernel_rfl) ?_
  refine WQ.keep [0, 1, 2, 3, 8, 9, 10, 12, 14, 17, 19, 20] (e' := [(0, .int .i64 many), (1, .int .i64 (i : Int)), (2, .int .i64 (ac : Int)), (3, .int .i64 keep), (8, .bool false), (9, .bool true), (10, .pointer (some ⟨gd, 0, none⟩)), (12, .pointer (some ⟨gs, 0, none⟩)), (14, .slice Aa k ca), (17, .int .i64 (k : Int)), (19, .slice A7 ((encB k (fI k)).length) cp8), (20, .bool true)]) (by kernel_rfl) ?_
  refine WQ.thenN ?_
  refine WE.seq ?_
  refine WE.seq ?_
  refine WE.region ?_
  refine WO.run 2 0 [(105, .bool false), (104, .bool true)] (by kernel_rfl) (by kernel_rfl) ?_
  refine WO.done (by kernel_rfl) ?_
  refine WQ.keep [0, 1, 2, 3, 8, 9, 10, 12, 14, 17, 19, 105] (e' := [(0, .int .i64 many), (1, .int .i64 (i : Int)), (2, .int .i64 (ac : Int)), (3, .int .i64 keep), (8, .bool false), (9, .bool true), (10, .pointer (some ⟨gd, 0, none⟩)), (12, .pointer (some ⟨gs, 0, none⟩)), (14, .slice Aa k ca), (17, .int .i64 (k : Int)), (19, .slice A7 ((encB k (fI k)).length) cp8), (105, .bool false)]) (by kernel_rfl) ?_
  refine WQ.thenN ?_
  refine WE.condF (by kernel_rfl) ?_
  refine WE.skip ?_
  refine WQ.thenN ?_
  refine WE.seq ?_
  refine WE.region ?_
  refine WO.run 2 0 [(107, .slice A7 ((encB k (fI k)).length) cp8), (106, .slice Aa k ca)] (by kernel_rfl) (by kernel_rfl) ?_
  obtain ⟨F10, HV11⟩ := H.at 1 (rV cB 1 A7 (encB k (fI k)))
  refine WO.b2s (v := .slice A7 ((encB k (fI k)).length) cp8) (SQ.S 2 (by kernel_rfl)) 108 Wire.byt (encB k (fI k)) (n := ((encB k (fI k)).length)) (rfl : List.length (encB k (fI k)) = _) (by kernel_rfl) (same (VX.srcN HV11 (rfl : List.length (encB k (fI k)) = _) (cB_len _) (cB_one _) cp8)) ?_
  refine Sb H 109 #[.string (str (encB k (fI k)))] 9 (fun g => .slice (some ⟨g, 0, none⟩) 1 1) ?_
  intro g12 w H
  refine Gay (SQ.E 4 (by kernel_rfl)) H 4 110 (A := Aa) (c := ca) (xv := .slice (some ⟨g12, 0, none⟩) 1 1) (n := k) (m := 1) et_s (List.map cS (rows fI 0 k)) (List.map cS ([(encB k (fI k))])) ((List.length_map _).trans ((rows_len0 k))) (by rw [List.length_map] <;> first | rfl | omega | (simp <;> omega)) (by omega) (RowB.src (RowB.of_blk (n := 1) (H.blk 0) (List.map cS [(encB k (fI k))]) rfl rfl (cS_len _) (cS_one _) (by omega))) (cS_len _) (cS_one _) (by omega) (by omega) (fun _ => trivial) ?_
  intro A13 cap14 w hccap14 H
  rw [← List.map_append] at H
  refine WO.run 1 5 [(14, .slice A13 (k + 1) cap14)] (by kernel_rfl) (by kernel_rfl) ?_
  refine WO.done (by kernel_rfl) ?_
  refine WQ.keep [0, 1, 2, 3, 8, 9, 10, 12, 14, 17] (e' := [(0, .int .i64 many), (1, .int .i64 (i : Int)), (2, .int .i64 (ac : Int)), (3, .int .i64 keep), (8, .bool false), (9, .bool true), (10, .pointer (some ⟨gd, 0, none⟩)), (12, .pointer (some ⟨gs, 0, none⟩)), (14, .slice A13 (k + 1) cap14), (17, .int .i64 (k : Int))]) (by kernel_rfl) ?_
  refine WQ.thenN ?_
  refine WE.seq ?_
  refine WE.seq ?_
  rw [← rows_snoc fI (Nat.zero_le k)] at H
  refine WE.region ?_
  refine WO.run 2 0 [(112, .int .i64 (ac : Int)), (111, .int .i64 (k : Int))] (by kernel_rfl) (by kernel_rfl) ?_
  refine WO.one (SQ.F 2 (by kernel_rfl)) 113 (.bool (decide (((k : Int) : Int) ≥ (ac : Int)))) (by kernel_rfl) ?_
  refine WO.topP (((k : Int) : Int) ≥ (ac : Int)) ?_ ?_
  ·
   intro h15
   refine WO.done (by kernel_rfl) ?_
   refine WQ.keep [0, 1, 2, 3, 8, 9, 10, 12, 14, 17, 113] (e' := [(0, .int .i64 many), (1, .int .i64 (i : Int)), (2, .int .i64 (ac : Int)), (3, .int .i64 keep), (8, .bool false), (9, .bool true), (10, .pointer (some ⟨gd, 0, none⟩)), (12, .pointer (some ⟨gs, 0, none⟩)), (14, .slice A13 (k + 1) cap14), (17, .int .i64 (k : Int)), (113, .bool true)]) (by kernel_rfl) ?_
   refine WQ.thenN ?_
   refine WE.condT (by kernel_rfl) ?_
   refine WE.exit ?_
   refine WQ.thenE ?_
   refine WQ.blkX (by kernel_rfl) ?_
   refine WQ.thenE ?_
   refine WQ.thenE ?_
   refine WQ.blkE ?_
   refine WQ.thenN ?_
   refine WE.seq ?_
   refine WE.region ?_
   refine WO.run 2 0 [(120, .int .i64 keep), (119, .pointer (some ⟨gd, 0, none⟩))] (by kernel_rfl) (by kernel_rfl) ?_
   refine Sc H 121 (sdcrash_ct gs gd many 1000 60000 k i fI keep (by omega) hkr) [4] [] ?_
   rintro ⟨⟩ w _ H
   refine WO.done (by kernel_rfl) ?_
   refine WQ.keep [0, 1, 2, 8, 9, 10, 14] (e' := [(0, .int .i64 many), (1, .int .i64 (i : Int)), (2, .int .i64 (ac : Int)), (8, .bool false), (9, .bool true), (10, .pointer (some ⟨gd, 0, none⟩)), (14, .slice A13 (k + 1) cap14)]) (by kernel_rfl) ?_
   refine WQ.thenN ?_
   refine WE.seq ?_
   refine WE.region ?_
   refine WO.run 2 0 [(124, .int .i64 many), (123, .pointer (some ⟨gd, 0, none⟩))] (by kernel_rfl) (by kernel_rfl) ?_
   refine Sc H 125 (sdopen_ct gd many 1000 60000 k i fI true (by omega) (by omega) (by omega) (fun j hj => by show j ≤ _; omega)) [0] [] ?_
   rintro ⟨g2, a⟩ w ⟨ha1, ha2, ha3⟩ H
   dsimp only at ha1 ha2 ha3
   refine WO.run 5 3 [(23, .nilIface), (22, .pointer (some ⟨g2, 0, none⟩)), (127, .nilIface), (126, .pointer (some ⟨g2, 0, none⟩)), (122, .tuple #[.pointer (some ⟨g2, 0, none⟩), .nilIface])] (by kernel_rfl) (by kernel_rfl) ?_
   refine WO.done (by kernel_rfl) ?_
   refine WQ.keep [1, 2, 8, 9, 14, 22, 23] (e' := [(1, .int .i64 (i : Int)), (2, .int .i64 (ac : Int)), (8, .bool false), (9, .bool true), (14, .slice A13 (k + 1) cap14), (22, .pointer (some ⟨g2, 0, none⟩)), (23, .nilIface)]) (by kernel_rfl) ?_
   refine WQ.thenN ?_
   refine WE.seq ?_
   refine WE.seq ?_
   refine WE.region ?_
   refine WO.run 6 0 [(133, .bool false), (132, .bool false), (131, .nilIface), (130, .bool false), (129, .bool false), (128, .pointer (some ⟨g2, 0, none⟩))] (by kernel_rfl) (by kernel_rfl) ?_
   refine WO.done (by kernel_rfl) ?_
   refine WQ.keep [1, 2, 8, 9, 14, 22, 133] (e' := [(1, .int .i64 (i : Int)), (2, .int .i64 (ac : Int)), (8, .bool false), (9, .bool true), (14, .slice A13 (k + 1) cap14), (22, .pointer (some ⟨g2, 0, none⟩)), (133, .bool false)]) (by kernel_rfl) ?_
   refine WQ.thenN ?_
   refine WE.condF (by kernel_rfl) ?_
   refine WE.skip ?_
   refine WQ.thenN ?_
   refine WE.seq ?_
   by_cases hz : i = 0
   ·
    refine WE.region ?_
    refine WO.run 1 0 [(135, .pointer (some ⟨g2, 0, none⟩))] (by kernel_rfl) (by kernel_rfl) ?_
    refine Sc H 136 (sdheadno_ct g2 gd many 1000 60000 a i fI (by omega) (by omega)) [] [0] ?_
    rintro ⟨⟩ w _ H
    refine WO.run 4 2 [(139, .bool false), (138, .slice none 0 0), (137, .agg #[.int .i64 0, .int .i64 0, .slice none 0 0]), (134, .tuple #[.agg #[.int .i64 0, .int .i64 0, .slice none 0 0], .slice none 0 0, .bool false])] (by kernel_rfl) (by kernel_rfl) ?_
    refine Sb H 24 #[.int .i64 0, .int .i64 0, .slice none 0 0] 42 (fun g => .pointer (some ⟨g, 0, none⟩)) ?_
    intro g16 w H
    refine Ss H 0 0 #[.int .i64 0, .int .i64 0, .slice none 0 0] ?_
    intro w H
    refine WO.run 2 8 [(26, .bool false), (25, .slice none 0 0)] (by kernel_rfl) (by kernel_rfl) ?_
    refine WO.done (by kernel_rfl) ?_
    refine WQ.keep [1, 2, 8, 9, 14, 22, 24, 25, 26] (e' := [(1, .int .i64 (i : Int)), (2, .int .i64 (ac : Int)), (8, .bool false), (9, .bool true), (14, .slice A13 (k + 1) cap14), (22, .pointer (some ⟨g2, 0, none⟩)), (24, .pointer (some ⟨g16, 0, none⟩)), (25, .slice none 0 0), (26, .bool false)]) (by kernel_rfl) ?_
    refine WQ.thenN ?_
    refine WE.seq ?_
    refine WE.seq ?_
    refine WE.region ?_
    refine WO.run 1 0 [(140, .pointer (some ⟨g2, 0, none⟩))] (by kernel_rfl) (by kernel_rfl) ?_
    refine Sc H 141 (sdnext_ct g2 gd many 1000 60000 a i fI (by omega)) [] [1] ?_
    rintro ⟨⟩ w _ H
    refine WO.run 1 2 [(142, .int .i64 (i : Int))] (by kernel_rfl) (by kernel_rfl) ?_
    refine WO.one (SQ.F 3 (by kernel_rfl)) 143 (.bool (!decide (((i : Int) : Int) = (i : Int)))) (by kernel_rfl) ?_
    refine WO.topNT (((i : Int) : Int) = (i : Int)) (by rfl) ?_
    refine WO.run 2 4 [(145, .pointer (some ⟨g2, 0, none⟩)), (144, .bool false)] (by kernel_rfl) (by kernel_rfl) ?_
    refine Sc H 146 (sdlen_ct g2 gd many 1000 60000 a i fI (by omega)) [] [1] ?_
    rintro ⟨⟩ w _ H
    refine WO.run 2 7 [(148, .int .i64 (ac : Int)), (147, .int .i64 (i : Int))] (by kernel_rfl) (by kernel_rfl) ?_
    refine WO.one (SQ.F 9 (by kernel_rfl)) 149 (.int .i64 (IntKind.i64.wrap ((i : Int) - (ac : Int)))) (by kernel_rfl) ?_
    refine WO.top (v' := .int .i64 ((i - ac : Nat) : Int)) (wrap_i64 (by omega) (by omega)) ?_
    refine WO.one (SQ.F 10 (by kernel_rfl)) 150 (.bool (decide (((i : Int) - (a : Int) : Int) < ((i - ac : Nat) : Int)))) (by kernel_rfl) ?_
    refine WO.topPF (((i : Int) - (a : Int) : Int) < ((i - ac : Nat) : Int)) (by omega) ?_
    refine WO.run 4 11 [(154, .pointer (some ⟨g2, 0, none⟩)), (153, .bool false), (152, .bool false), (151, .bool false)] (by kernel_rfl) (by kernel_rfl) ?_
    refine Sc H 155 (sdlen_ct g2 gd many 1000 60000 a i fI (by omega)) [] [1] ?_
    rintro ⟨⟩ w _ H
    refine WO.one (SQ.F 16 (by kernel_rfl)) 156 (.bool (decide (((i : Int) - (a : Int) : Int) > 0))) (by kernel_rfl) ?_
    refine WO.top (v' := .bool false) (congrArg Value.bool (decide_eq_false (by omega))) ?_
    refine WO.run 2 17 [(158, .bool false), (157, .bool false)] (by kernel_rfl) (by kernel_rfl) ?_
    refine WO.done (by kernel_rfl) ?_
    refine WQ.keep [1, 2, 8, 9, 14, 22, 24, 25, 26, 158] (e' := [(1, .int .i64 (i : Int)), (2, .int .i64 (ac : Int)), (8, .bool false), (9, .bool true), (14, .slice A13 (k + 1) cap14), (22, .pointer (some ⟨g2, 0, none⟩)), (24, .pointer (some ⟨g16, 0, none⟩)), (25, .slice none 0 0), (26, .bool false), (158, .bool false)]) (by kernel_rfl) ?_
    refine WQ.thenN ?_
    refine WE.condF (by kernel_rfl) ?_
    refine WE.skip ?_
    refine WQ.thenN ?_
    refine WE.seq ?_
    refine WE.seq ?_
    refine WE.region ?_
    refine WO.run 2 0 [(160, .bool true), (159, .bool false)] (by kernel_rfl) (by kernel_rfl) ?_
    refine WO.done (by kernel_rfl) ?_
    refine WQ.keep [1, 2, 8, 9, 14, 22, 24, 25, 160] (e' := [(1, .int .i64 (i : Int)), (2, .int .i64 (ac : Int)), (8, .bool false), (9, .bool true), (14, .slice A13 (k + 1) cap14), (22, .pointer (some ⟨g2, 0, none⟩)), (24, .pointer (some ⟨g16, 0, none⟩)), (25, .slice none 0 0), (160, .bool true)]) (by kernel_rfl) ?_
    refine WQ.thenN ?_
    refine WE.condT (by kernel_rfl) ?_
    refine WE.seq ?_
    refine WE.region ?_
    refine WO.run 3 0 [(163, .int .i64 (i : Int)), (162, .bool true), (161, .bool true)] (by kernel_rfl) (by kernel_rfl) ?_
    refine WO.one (SQ.F 3 (by kernel_rfl)) 164 (.bool (decide (((i : Int) : Int) = (0 : Int)))) (by kernel_rfl) ?_
    refine WO.top (v' := .bool true) (congrArg Value.bool (decide_eq_true (by omega))) ?_
    refine WO.run 2 4 [(8, .bool true), (165, .bool true)] (by kernel_rfl) (by kernel_rfl) ?_
    refine WO.done (by kernel_rfl) ?_
    refine WQ.keep [1, 2, 8, 9, 14, 22, 24, 25] (e' := [(1, .int .i64 (i : Int)), (2, .int .i64 (ac : Int)), (8, .bool true), (9, .bool true), (14, .slice A13 (k + 1) cap14), (22, .pointer (some ⟨g2, 0, none⟩)), (24, .pointer (some ⟨g16, 0, none⟩)), (25, .slice none 0 0)]) (by kernel_rfl) ?_
    refine WQ.thenN ?_
    refine WE.ret ?_
    refine WQ.thenR ?_
    refine WQ.ret (v := .bool true) (by kernel_rfl) ?_
    exact H.leaf () [] trivial
   refine WE.region ?_
   refine WO.run 1 0 [(135, .pointer (some ⟨g2, 0, none⟩))] (by kernel_rfl) (by kernel_rfl) ?_
   refine Sc H 136 (sdhead_ct g2 gd many 1000 60000 a i fI (by omega) (by omega) (by unfold fI; omega)) [] [0] ?_
   rintro ⟨A17, cp18⟩ w hccp18 H
   refine WO.run 4 2 [(139, .bool true), (138, .slice A17 ((encB a (fI a)).length) cp18), (137, .agg #[.int .i64 (a : Int), .int .i64 (a : Int), .slice none 0 0]), (134, .tuple #[.agg #[.int .i64 (a : Int), .int .i64 (a : Int), .slice none 0 0], .slice A17 ((encB a (fI a)).length) cp18, .bool true])] (by kernel_rfl) (by kernel_rfl) ?_
   refine Sb H 24 #[.int .i64 0, .int .i64 0, .slice none 0 0] 42 (fun g => .pointer (some ⟨g, 0, none⟩)) ?_
   intro g19 w H
   refine Ss H 0 0 #[.int .i64 (a : Int), .int .i64 (a : Int), .slice none 0 0] ?_
   intro w H
   refine WO.run 2 8 [(26, .bool true), (25, .slice A17 ((encB a (fI a)).length) cp18)] (by kernel_rfl) (by kernel_rfl) ?_
   refine WO.done (by kernel_rfl) ?_
   refine WQ.keep [1, 2, 8, 9, 14, 22, 24, 25, 26] (e' := [(1, .int .i64 (i : Int)), (2, .int .i64 (ac : Int)), (8, .bool false), (9, .bool true), (14, .slice A13 (k + 1) cap14), (22, .pointer (some ⟨g2, 0, none⟩)), (24, .pointer (some ⟨g19, 0, none⟩)), (25, .slice A17 ((encB a (fI a)).length) cp18), (26, .bool true)]) (by kernel_rfl) ?_
   refine WQ.thenN ?_
   refine WE.seq ?_
   refine WE.seq ?_
   refine WE.region ?_
   refine WO.run 1 0 [(140, .pointer (some ⟨g2, 0, none⟩))] (by kernel_rfl) (by kernel_rfl) ?_
   refine Sc H 141 (sdnext_ct g2 gd many 1000 60000 a i fI (by omega)) [] [2] ?_
   rintro ⟨⟩ w _ H
   refine WO.run 1 2 [(142, .int .i64 (i : Int))] (by kernel_rfl) (by kernel_rfl) ?_
   refine WO.one (SQ.F 3 (by kernel_rfl)) 143 (.bool (!decide (((i : Int) : Int) = (i : Int)))) (by kernel_rfl) ?_
   refine WO.topNT (((i : Int) : Int) = (i : Int)) (by rfl) ?_
   refine WO.run 2 4 [(145, .pointer (some ⟨g2, 0, none⟩)), (144, .bool false)] (by kernel_rfl) (by kernel_rfl) ?_
   refine Sc H 146 (sdlen_ct g2 gd many 1000 60000 a i fI (by omega)) [] [2] ?_
   rintro ⟨⟩ w _ H
   refine WO.run 2 7 [(148, .int .i64 (ac : Int)), (147, .int .i64 (i : Int))] (by kernel_rfl) (by kernel_rfl) ?_
   refine WO.one (SQ.F 9 (by kernel_rfl)) 149 (.int .i64 (IntKind.i64.wrap ((i : Int) - (ac : Int)))) (by kernel_rfl) ?_
   refine WO.top (v' := .int .i64 ((i - ac : Nat) : Int)) (wrap_i64 (by omega) (by omega)) ?_
   refine WO.one (SQ.F 10 (by kernel_rfl)) 150 (.bool (decide (((i : Int) - (a : Int) : Int) < ((i - ac : Nat) : Int)))) (by kernel_rfl) ?_
   refine WO.topPF (((i : Int) - (a : Int) : Int) < ((i - ac : Nat) : Int)) (by omega) ?_
   refine WO.run 4 11 [(154, .pointer (some ⟨g2, 0, none⟩)), (153, .bool true), (152, .bool false), (151, .bool false)] (by kernel_rfl) (by kernel_rfl) ?_
   refine Sc H 155 (sdlen_ct g2 gd many 1000 60000 a i fI (by omega)) [] [2] ?_
   rintro ⟨⟩ w _ H
   refine WO.one (SQ.F 16 (by kernel_rfl)) 156 (.bool (decide (((i : Int) - (a : Int) : Int) > 0))) (by kernel_rfl) ?_
   refine WO.top (v' := .bool true) (congrArg Value.bool (decide_eq_true (by omega))) ?_
   refine WO.run 2 17 [(158, .bool false), (157, .bool false)] (by kernel_rfl) (by kernel_rfl) ?_
   refine WO.done (by kernel_rfl) ?_
   refine WQ.keep [1, 2, 8, 9, 14, 22, 24, 25, 26, 158] (e' := [(1, .int .i64 (i : Int)), (2, .int .i64 (ac : Int)), (8, .bool false), (9, .bool true), (14, .slice A13 (k + 1) cap14), (22, .pointer (some ⟨g2, 0, none⟩)), (24, .pointer (some ⟨g19, 0, none⟩)), (25, .slice A17 ((encB a (fI a)).length) cp18), (26, .bool true), (158, .bool false)]) (by kernel_rfl) ?_
   refine WQ.thenN ?_
   refine WE.condF (by kernel_rfl) ?_
   refine WE.skip ?_
   refine WQ.thenN ?_
   refine WE.seq ?_
   refine WE.seq ?_
   refine WE.region ?_
   refine WO.run 2 0 [(160, .bool false), (159, .bool true)] (by kernel_rfl) (by kernel_rfl) ?_
   refine WO.done (by kernel_rfl) ?_
   refine WQ.keep [1, 2, 8, 9, 14, 22, 24, 25, 160] (e' := [(1, .int .i64 (i : Int)), (2, .int .i64 (ac : Int)), (8, .bool false), (9, .bool true), (14, .slice A13 (k + 1) cap14), (22, .pointer (some ⟨g2, 0, none⟩)), (24, .pointer (some ⟨g19, 0, none⟩)), (25, .slice A17 ((encB a (fI a)).length) cp18), (160, .bool false)]) (by kernel_rfl) ?_
   refine WQ.thenN ?_
   refine WE.condF (by kernel_rfl) ?_
   refine WE.skip ?_
   refine WQ.thenN ?_
   refine WE.seq ?_
   refine WE.draw [.free, .free, .free, .still, .free, .free, .free, .free, .free, .still, .free, .free, .effR, .free, .free, .free, .free, .free, .effR, .free, .free, .still, .free, .effR, .free, .free, .free] (Kp [g19]) (kpR _) (by kernel_rfl) 27 (Array.replicate 27 false) (by kernel_rfl) rfl ?_
   intro w F_ _
   replace H := H.step0 F_
   refine WO.one (SA.F (kpR _) (kpT _) _ 0 _ (by kernel_rfl)) 166 (.bool true) (by kernel_rfl) ?_
   refine WO.one (SA.F (kpR _) (kpT _) _ 1 _ (by kernel_rfl)) 167 (.bool true) (by kernel_rfl) ?_
   refine WO.one (SA.F (kpR _) (kpT _) _ 2 _ (by kernel_rfl)) 168 (.pointer (some ⟨g19, 0, none⟩)) (by kernel_rfl) ?_
   refine WO.ld (SA.S (kpR _) (kpT _) _ 3 _ (by kernel_rfl)) 169 (.int .i64 (a : Int)) (by kernel_rfl) (fun _ k_ => ((H.blk 0).kp k_ (by show g19 ∈ ([g19] : List Nat); simp)).at 0 (by kernel_rfl)) ?_
   refine WO.one (SA.F (kpR _) (kpT _) _ 4 _ (by kernel_rfl)) 170 (.int .i64 (ac : Int)) (by kernel_rfl) ?_
   refine WO.one (SA.F (kpR _) (kpT _) _ 5 _ (by kernel_rfl)) 171 (.bool (decide (((a : Int) : Int) ≤ (ac : Int)))) (by kernel_rfl) ?_
   refine WO.top (v' := .bool true) (congrArg Value.bool (decide_eq_true (by omega))) ?_
   refine WO.one (SA.F (kpR _) (kpT _) _ 6 _ (by kernel_rfl)) 172 (.bool true) (by kernel_rfl) ?_
   refine WO.one (SA.F (kpR _) (kpT _) _ 7 _ (by kernel_rfl)) 173 (.bool true) (by kernel_rfl) ?_
   refine WO.one (SA.F (kpR _) (kpT _) _ 8 _ (by kernel_rfl)) 174 (.pointer (some ⟨g19, 0, none⟩)) (by kernel_rfl) ?_
   refine WO.ld (SA.S (kpR _) (kpT _) _ 9 _ (by kernel_rfl)) 175 (.int .i64 (a : Int)) (by kernel_rfl) (fun _ k_ => ((H.blk 0).kp k_ (by show g19 ∈ ([g19] : List Nat); simp)).at 0 (by kernel_rfl)) ?_
   refine WO.one (SA.F (kpR _) (kpT _) _ 10 _ (by kernel_rfl)) 176 (.int .i64 (i : Int)) (by kernel_rfl) ?_
   refine WO.one (SA.F (kpR _) (kpT _) _ 11 _ (by kernel_rfl)) 177 (.pointer (some ⟨g2, 0, none⟩)) (by kernel_rfl) ?_
   refine GcK (SA.ER _ 12 _ (by kernel_rfl) rfl) H 178 (sdlen_ct g2 gd many 1000 60000 a i fI (by omega)) [] [2] [0] ?_
   rintro ⟨⟩ w _ H
   refine WO.one (SA.F (kpR _) (kpT _) _ 13 _ (by kernel_rfl)) 179 (.int .i64 (IntKind.i64.wrap ((i : Int) - ((i : Int) - (a : Int))))) (by kernel_rfl) ?_
   refine WO.top (v' := .int .i64 ((i : Int) - ((i : Int) - (a : Int)))) (wrap_i64 (by omega) (by omega)) ?_
   refine WO.one (SA.F (kpR _) (kpT _) _ 14 _ (by kernel_rfl)) 180 (.bool (decide (((a : Int) : Int) = ((i : Int) - ((i : Int) - (a : Int)))))) (by kernel_rfl) ?_
   refine WO.top (v' := .bool true) (congrArg Value.bool (decide_eq_true (by omega))) ?_
   refine WO.one (SA.F (kpR _) (kpT _) _ 15 _ (by kernel_rfl)) 181 (.bool true) (by kernel_rfl) ?_
   refine WO.one (SA.F (kpR _) (kpT _) _ 16 _ (by kernel_rfl)) 182 (.bool true) (by kernel_rfl) ?_
   refine WO.one (SA.F (kpR _) (kpT _) _ 17 _ (by kernel_rfl)) 183 (.slice A17 ((encB a (fI a)).length) cp18) (by kernel_rfl) ?_
   refine WO.one (SA.F (kpR _) (kpT _) _ 19 _ (by kernel_rfl)) 185 (.slice A13 (k + 1) cap14) (by kernel_rfl) ?_
   refine WO.one (SA.F (kpR _) (kpT _) _ 20 _ (by kernel_rfl)) 186 (.pointer (some ⟨g19, 0, none⟩)) (by kernel_rfl) ?_
   refine WO.ld (SA.S (kpR _) (kpT _) _ 21 _ (by kernel_rfl)) 187 (.int .i64 (a : Int)) (by kernel_rfl) (fun _ k_ => ((H.blk 0).kp k_ (by show g19 ∈ ([g19] : List Nat); simp)).at 0 (by kernel_rfl)) ?_
   obtain ⟨ad20, hA21⟩ := H.yaddr 3 cS 9 1 A13 (k + 1) cap14 (rows fI 0 (k + 1)) (k := a) (by have := (rows_len0 (k + 1)); omega)
   refine WO.ixo (SA.F (kpR _) (kpT _) _ 22 _ (by kernel_rfl)) 188 (k + 1) 1 a (a : Int) hA21 (by kernel_rfl) rfl (by omega) ?_
   refine WO.toX ?_
   refine WO.fork2 18 23 (by kernel_rfl) ?_ ?_
   ·
    obtain ⟨F22, HV23⟩ := H.at 1 (rV cB 1 A17 (encB a (fI a)))
    refine WO.b2sE (v := .slice A17 ((encB a (fI a)).length) cp18) (SAx.nowR _ 18 _ (by kernel_rfl) rfl) 184 Wire.byt (encB a (fI a)) (n := ((encB a (fI a)).length)) (rfl : List.length (encB a (fI a)) = _) (by kernel_rfl) (VX.srcN HV23 (rfl : List.length (encB a (fI a)) = _) (cB_len _) (cB_one _) cp18) (H.kpF [0]) ?_
    refine WO.ldE (SAx.E (SA.ER _ 23 _ (by kernel_rfl) rfl)) 189 (.string (str (gS (rows fI 0 (k + 1)) a))) (H.kpF [0]) (by kernel_rfl) ((H.ycell0 3 cS 9 1 A13 (k + 1) cap14 (rows fI 0 (k + 1)) hA21 (gS_some (rows fI 0 (k + 1)) a (by have := (rows_len0 (k + 1)); omega))) _ (sameR _)) ?_
    refine WO.one (SAx.F (SA.F (kpR _) (kpT _) _ 24 _ (by kernel_rfl))) 190 (.bool ((str (encB a (fI a))).toList == (str (gS (rows fI 0 (k + 1)) a)).toList)) (by kernel_rfl) ?_
    refine WO.top (v' := .bool true) (congrArg Value.bool (beq_iff_eq.2 (congrArg (fun l => (str l).toList) (rows_g fI (by omega)).symm))) ?_
    refine WO.one (SAx.F (SA.F (kpR _) (kpT _) _ 25 _ (by kernel_rfl))) 191 (.bool true) (by kernel_rfl) ?_
    refine WO.one (SAx.F (SA.F (kpR _) (kpT _) _ 26 _ (by kernel_rfl))) 8 (.bool true) (by kernel_rfl) ?_
    refine WO.doneX (by kernel_rfl) ?_
    refine WQ.keep [8] (e' := [(8, .bool true)]) (by kernel_rfl) ?_
    refine WQ.thenN ?_
    refine WE.ret ?_
    refine WQ.ret (v := .bool true) (by kernel_rfl) ?_
    exact H.leaf () [] trivial
   ·
    refine WO.ldE (SAx.nowR _ 23 _ (by kernel_rfl) rfl) 189 (.string (str (gS (rows fI 0 (k + 1)) a))) (H.kpF [0]) (by kernel_rfl) ((H.ycell0 3 cS 9 1 A13 (k + 1) cap14 (rows fI 0 (k + 1)) hA21 (gS_some (rows fI 0 (k + 1)) a (by have := (rows_len0 (k + 1)); omega))) _ (sameR _)) ?_
    obtain ⟨F24, HV25⟩ := H.at 1 (rV cB 1 A17 (encB a (fI a)))
    refine WO.b2sE (v := .slice A17 ((encB a (fI a)).length) cp18) (SAx.E (SA.ER _ 18 _ (by kernel_rfl) rfl)) 184 Wire.byt (encB a (fI a)) (n := ((encB a (fI a)).length)) (rfl : List.length (encB a (fI a)) = _) (by kernel_rfl) (VX.srcN HV25 (rfl : List.length (encB a (fI a)) = _) (cB_len _) (cB_one _) cp18) (H.kpF [0]) ?_
    refine WO.one (SAx.F (SA.F (kpR _) (kpT _) _ 24 _ (by kernel_rfl))) 190 (.bool ((str (encB a (fI a))).toList == (str (gS (rows fI 0 (k + 1)) a)).toList)) (by kernel_rfl) ?_
    refine WO.top (v' := .bool true) (congrArg Value.bool (beq_iff_eq.2 (congrArg (fun l => (str l).toList) (rows_g fI (by omega)).symm))) ?_
    refine WO.one (SAx.F (SA.F (kpR _) (kpT _) _ 25 _ (by kernel_rfl))) 191 (.bool true) (by kernel_rfl) ?_
    refine WO.one (SAx.F (SA.F (kpR _) (kpT _) _ 26 _ (by kernel_rfl))) 8 (.bool true) (by kernel_rfl) ?_
    refine WO.doneX (by kernel_rfl) ?_
    refine WQ.keep [8] (e' := [(8, .bool true)]) (by kernel_rfl) ?_
    refine WQ.thenN ?_
    refine WE.ret ?_
    refine WQ.ret (v := .bool true) (by kernel_rfl) ?_
    exact H.leaf () [] trivial
  intro h15
  refine WO.done (by kernel_rfl) ?_
  refine WQ.keep [0, 1, 2, 3, 8, 9, 10, 12, 14, 17, 113] (e' := [(0, .int .i64 many), (1, .int .i64 (i : Int)), (2, .int .i64 (ac : Int)), (3, .int .i64 keep), (8, .bool false), (9, .bool true), (10, .pointer (some ⟨gd, 0, none⟩)), (12, .pointer (some ⟨gs, 0, none⟩)), (14, .slice A13 (k + 1) cap14), (17, .int .i64 (k : Int)), (113, .bool false)]) (by kernel_rfl) ?_
  refine WQ.thenN ?_
  refine WE.condF (by kernel_rfl) ?_
  refine WE.skip ?_
  refine WQ.thenN ?_
  refine WE.seq ?_
  refine WE.region ?_
  refine WO.run 2 0 [(115, .int .i64 (k : Int)), (114, .pointer (some ⟨gs, 0, none⟩))] (by kernel_rfl) (by kernel_rfl) ?_
  refine Sc H 116 (sdack_ct gs gd many 1000 60000 k i fI (by omega) (by omega)) [4] [] ?_
  rintro ⟨⟩ w _ H
  refine WO.run 1 3 [(21, .nilIface)] (by kernel_rfl) (by kernel_rfl) ?_
  refine WO.done (by kernel_rfl) ?_
  refine WQ.keep [0, 1, 2, 3, 8, 9, 10, 12, 14, 17, 21] (e' := [(0, .int .i64 many), (1, .int .i64 (i : Int)), (2, .int .i64 (ac : Int)), (3, .int .i64 keep), (8, .bool false), (9, .bool true), (10, .pointer (some ⟨gd, 0, none⟩)), (12, .pointer (some ⟨gs, 0, none⟩)), (14, .slice A13 (k + 1) cap14), (17, .int .i64 (k : Int)), (21, .nilIface)]) (by kernel_rfl) ?_
  refine WQ.thenN ?_
  refine WE.seq ?_
  refine WE.region ?_
  refine WO.run 2 0 [(118, .bool false), (117, .nilIface)] (by kernel_rfl) (by kernel_rfl) ?_
  refine WO.done (by kernel_rfl) ?_
  refine WQ.keep [0, 1, 2, 3, 8, 9, 10, 12, 14, 17, 118] (e' := [(0, .int .i64 many), (1, .int .i64 (i : Int)), (2, .int .i64 (ac : Int)), (3, .int .i64 keep), (8, .bool false), (9, .bool true), (10, .pointer (some ⟨gd, 0, none⟩)), (12, .pointer (some ⟨gs, 0, none⟩)), (14, .slice A13 (k + 1) cap14), (17, .int .i64 (k : Int)), (118, .bool false)]) (by kernel_rfl) ?_
  refine WQ.thenN ?_
  refine WE.condF (by kernel_rfl) ?_
  refine WE.skip ?_
  refine WQ.blkN ?_
  refine WQ.thenN ?_
  refine WE.region ?_
  refine WO.run 1 0 [(96, .int .i64 (k : Int))] (by kernel_rfl) (by kernel_rfl) ?_
  refine WO.one (SQ.F 1 (by kernel_rfl)) 97 (.int .i64 (IntKind.i64.wrap ((k : Int) + 1))) (by kernel_rfl) ?_
  refine WO.top (v' := .int .i64 ((k + 1 : Nat) : Int)) (wrap_i64 (by omega) (by omega)) ?_
  refine WO.run 1 2 [(17, .int .i64 ((k + 1 : Nat) : Int))] (by kernel_rfl) (by kernel_rfl) ?_
  refine WO.done (by kernel_rfl) ?_
  refine WQ.keep [0, 1, 2, 3, 8, 9, 10, 12, 14, 17] (e' := [(0, .int .i64 many), (1, .int .i64 (i : Int)), (2, .int .i64 (ac : Int)), (3, .int .i64 keep), (8, .bool false), (9, .bool true), (10, .pointer (some ⟨gd, 0, none⟩)), (12, .pointer (some ⟨gs, 0, none⟩)), (14, .slice A13 (k + 1) cap14), (17, .int .i64 ((k + 1 : Nat) : Int))]) (by kernel_rfl) ?_
  refine WQ.round fun a_ ha_ => ⟨(k + 1, A13, cap14), ?_, ha_.keep [0, 1, 2, 3, 8, 9, 10, 12, 14, 17] (by kernel_rfl), ?_, H.sub [0, 0]⟩
  ·
   show i - (k + 1) < i - k; omega
  exact ⟨by omega, by omega⟩
 intro h6
 refine WO.done (by kernel_rfl) ?_
 refine WQ.keep [0, 1, 2, 3, 8, 9, 10, 12, 14, 17, 95] (e' := [(0, .int .i64 many), (1, .int .i64 (i : Int)), (2, .int .i64 (ac : Int)), (3, .int .i64 keep), (8, .bool false), (9, .bool true), (10, .pointer (some ⟨gd, 0, none⟩)), (12, .pointer (some ⟨gs, 0, none⟩)), (14, .slice Aa k ca), (17, .int .i64 (k : Int)), (95, .bool false)]) (by kernel_rfl) ?_
 refine WQ.thenN ?_
 refine WE.condF (by kernel_rfl) ?_
 refine WE.exit ?_
 refine WQ.thenE ?_
 refine WQ.thenE ?_
 refine WQ.blkE ?_
 refine WQ.thenN ?_
 refine WE.seq ?_
 refine WE.region ?_
 refine WO.run 2 0 [(120, .int .i64 keep), (119, .pointer (some ⟨gd, 0, none⟩))] (by kernel_rfl) (by kernel_rfl) ?_
 refine Sc H 121 (sdcrash_ct gs gd many 1000 60000 k i fI keep (by omega) hkr) [0] [] ?_
 rintro ⟨⟩ w _ H
 refine WO.done (by kernel_rfl) ?_
 refine WQ.keep [0, 1, 2, 8, 9, 10, 14] (e' := [(0, .int .i64 many), (1, .int .i64 (i : Int)), (2, .int .i64 (ac : Int)), (8, .bool false), (9, .bool true), (10, .pointer (some ⟨gd, 0, none⟩)), (14, .slice Aa k ca)]) (by kernel_rfl) ?_
 refine WQ.thenN ?_
 refine WE.seq ?_
 refine WE.region ?_
 refine WO.run 2 0 [(124, .int .i64 many), (123, .pointer (some ⟨gd, 0, none⟩))] (by kernel_rfl) (by kernel_rfl) ?_
 refine Sc H 125 (sdopen_ct gd many 1000 60000 k i fI true (by omega) (by omega) (by omega) (fun j hj => by show j ≤ _; omega)) [0] [] ?_
 rintro ⟨g2, a⟩ w ⟨ha1, ha2, ha3⟩ H
 dsimp only at ha1 ha2 ha3
 refine WO.run 5 3 [(23, .nilIface), (22, .pointer (some ⟨g2, 0, none⟩)), (127, .nilIface), (126, .pointer (some ⟨g2, 0, none⟩)), (122, .tuple #[.pointer (some ⟨g2, 0, none⟩), .nilIface])] (by kernel_rfl) (by kernel_rfl) ?_
 refine WO.done (by kernel_rfl) ?_
 refine WQ.keep [1, 2, 8, 9, 14, 22, 23] (e' := [(1, .int .i64 (i : Int)), (2, .int .i64 (ac : Int)), (8, .bool false), (9, .bool true), (14, .slice Aa k ca), (22, .pointer (some ⟨g2, 0, none⟩)), (23, .nilIface)]) (by kernel_rfl) ?_
 refine WQ.thenN ?_
 refine WE.seq ?_
 refine WE.seq ?_
 refine WE.region ?_
 refine WO.run 6 0 [(133, .bool false), (132, .bool false), (131, .nilIface), (130, .bool false), (129, .bool false), (128, .pointer (some ⟨g2, 0, none⟩))] (by kernel_rfl) (by kernel_rfl) ?_
 refine WO.done (by kernel_rfl) ?_
 refine WQ.keep [1, 2, 8, 9, 14, 22, 133] (e' := [(1, .int .i64 (i : Int)), (2, .int .i64 (ac : Int)), (8, .bool false), (9, .bool true), (14, .slice Aa k ca), (22, .pointer (some ⟨g2, 0, none⟩)), (133, .bool false)]) (by kernel_rfl) ?_
 refine WQ.thenN ?_
 refine WE.condF (by kernel_rfl) ?_
 refine WE.skip ?_
 refine WQ.thenN ?_
 refine WE.seq ?_
 by_cases hz : i = 0
 ·
  refine WE.region ?_
  refine WO.run 1 0 [(135, .pointer (some ⟨g2, 0, none⟩))] (by kernel_rfl) (by kernel_rfl) ?_
  refine Sc H 136 (sdheadno_ct g2 gd many 1000 60000 a i fI (by omega) (by omega)) [] [0] ?_
  rintro ⟨⟩ w _ H
  refine WO.run 4 2 [(139, .bool false), (138, .slice none 0 0), (137, .agg #[.int .i64 0, .int .i64 0, .slice none 0 0]), (134, .tuple #[.agg #[.int .i64 0, .int .i64 0, .slice none 0 0], .slice none 0 0, .bool false])] (by kernel_rfl) (by kernel_rfl) ?_
  refine Sb H 24 #[.int .i64 0, .int .i64 0, .slice none 0 0] 42 (fun g => .pointer (some ⟨g, 0, none⟩)) ?_
  intro g26 w H
  refine Ss H 0 0 #[.int .i64 0, .int .i64 0, .slice none 0 0] ?_
  intro w H
  refine WO.run 2 8 [(26, .bool false), (25, .slice none 0 0)] (by kernel_rfl) (by kernel_rfl) ?_
  refine WO.done (by kernel_rfl) ?_
  refine WQ.keep [1, 2, 8, 9, 14, 22, 24, 25, 26] (e' := [(1, .int .i64 (i : Int)), (2, .int .i64 (ac : Int)), (8, .bool false), (9, .bool true), (14, .slice Aa k ca), (22, .pointer (some ⟨g2, 0, none⟩)), (24, .pointer (some ⟨g26, 0, none⟩)), (25, .slice none 0 0), (26, .bool false)]) (by kernel_rfl) ?_
  refine WQ.thenN ?_
  refine WE.seq ?_
  refine WE.seq ?_
  refine WE.region ?_
  refine WO.run 1 0 [(140, .pointer (some ⟨g2, 0, none⟩))] (by kernel_rfl) (by kernel_rfl) ?_
  refine Sc H 141 (sdnext_ct g2 gd many 1000 60000 a i fI (by omega)) [] [1] ?_
  rintro ⟨⟩ w _ H
  refine WO.run 1 2 [(142, .int .i64 (i : Int))] (by kernel_rfl) (by kernel_rfl) ?_
  refine WO.one (SQ.F 3 (by kernel_rfl)) 143 (.bool (!decide (((i : Int) : Int) = (i : Int)))) (by kernel_rfl) ?_
  refine WO.topNT (((i : Int) : Int) = (i : Int)) (by rfl) ?_
  refine WO.run 2 4 [(145, .pointer (some ⟨g2, 0, none⟩)), (144, .bool false)] (by kernel_rfl) (by kernel_rfl) ?_
  refine Sc H 146 (sdlen_ct g2 gd many 1000 60000 a i fI (by omega)) [] [1] ?_
  rintro ⟨⟩ w _ H
  refine WO.run 2 7 [(148, .int .i64 (ac : Int)), (147, .int .i64 (i : Int))] (by kernel_rfl) (by kernel_rfl) ?_
  refine WO.one (SQ.F 9 (by kernel_rfl)) 149 (.int .i64 (IntKind.i64.wrap ((i : Int) - (ac : Int)))) (by kernel_rfl) ?_
  refine WO.top (v' := .int .i64 ((i - ac : Nat) : Int)) (wrap_i64 (by omega) (by omega)) ?_
  refine WO.one (SQ.F 10 (by kernel_rfl)) 150 (.bool (decide (((i : Int) - (a : Int) : Int) < ((i - ac : Nat) : Int)))) (by kernel_rfl) ?_
  refine WO.topPF (((i : Int) - (a : Int) : Int) < ((i - ac : Nat) : Int)) (by omega) ?_
  refine WO.run 4 11 [(154, .pointer (some ⟨g2, 0, none⟩)), (153, .bool false), (152, .bool false), (151, .bool false)] (by kernel_rfl) (by kernel_rfl) ?_
  refine Sc H 155 (sdlen_ct g2 gd many 1000 60000 a i fI (by omega)) [] [1] ?_
  rintro ⟨⟩ w _ H
  refine WO.one (SQ.F 16 (by kernel_rfl)) 156 (.bool (decide (((i : Int) - (a : Int) : Int) > 0))) (by kernel_rfl) ?_
  refine WO.top (v' := .bool false) (congrArg Value.bool (decide_eq_false (by omega))) ?_
  refine WO.run 2 17 [(158, .bool false), (157, .bool false)] (by kernel_rfl) (by kernel_rfl) ?_
  refine WO.done (by kernel_rfl) ?_
  refine WQ.keep [1, 2, 8, 9, 14, 22, 24, 25, 26, 158] (e' := [(1, .int .i64 (i : Int)), (2, .int .i64 (ac : Int)), (8, .bool false), (9, .bool true), (14, .slice Aa k ca), (22, .pointer (some ⟨g2, 0, none⟩)), (24, .pointer (some ⟨g26, 0, none⟩)), (25, .slice none 0 0), (26, .bool false), (158, .bool false)]) (by kernel_rfl) ?_
  refine WQ.thenN ?_
  refine WE.condF (by kernel_rfl) ?_
  refine WE.skip ?_
  refine WQ.thenN ?_
  refine WE.seq ?_
  refine WE.seq ?_
  refine WE.region ?_
  refine WO.run 2 0 [(160, .bool true), (159, .bool false)] (by kernel_rfl) (by kernel_rfl) ?_
  refine WO.done (by kernel_rfl) ?_
  refine WQ.keep [1, 2, 8, 9, 14, 22, 24, 25, 160] (e' := [(1, .int .i64 (i : Int)), (2, .int .i64 (ac : Int)), (8, .bool false), (9, .bool true), (14, .slice Aa k ca), (22, .pointer (some ⟨g2, 0, none⟩)), (24, .pointer (some ⟨g26, 0, none⟩)), (25, .slice none 0 0), (160, .bool true)]) (by kernel_rfl) ?_
  refine WQ.thenN ?_
  refine WE.condT (by kernel_rfl) ?_
  refine WE.seq ?_
  refine WE.region ?_
  refine WO.run 3 0 [(163, .int .i64 (i : Int)), (162, .bool true), (161, .bool true)] (by kernel_rfl) (by kernel_rfl) ?_
  refine WO.one (SQ.F 3 (by kernel_rfl)) 164 (.bool (decide (((i : Int) : Int) = (0 : Int)))) (by kernel_rfl) ?_
  refine WO.top (v' := .bool true) (congrArg Value.bool (decide_eq_true (by omega))) ?_
  refine WO.run 2 4 [(8, .bool true), (165, .bool true)] (by kernel_rfl) (by kernel_rfl) ?_
  refine WO.done (by kernel_rfl) ?_
  refine WQ.keep [1, 2, 8, 9, 14, 22, 24, 25] (e' := [(1, .int .i64 (i : Int)), (2, .int .i64 (ac : Int)), (8, .bool true), (9, .bool true), (14, .slice Aa k ca), (22, .pointer (some ⟨g2, 0, none⟩)), (24, .pointer (some ⟨g26, 0, none⟩)), (25, .slice none 0 0)]) (by kernel_rfl) ?_
  refine WQ.thenN ?_
  refine WE.ret ?_
  refine WQ.thenR ?_
  refine WQ.ret (v := .bool true) (by kernel_rfl) ?_
  exact H.leaf () [] trivial
 refine WE.region ?_
 refine WO.run 1 0 [(135, .pointer (some ⟨g2, 0, none⟩))] (by kernel_rfl) (by kernel_rfl) ?_
 refine Sc H 136 (sdhead_ct g2 gd many 1000 60000 a i fI (by omega) (by omega) (by unfold fI; omega)) [] [0] ?_
 rintro ⟨A27, cp28⟩ w hccp28 H
 refine WO.run 4 2 [(139, .bool true), (138, .slice A27 ((encB a (fI a)).length) cp28), (137, .agg #[.int .i64 (a : Int), .int .i64 (a : Int), .slice none 0 0]), (134, .tuple #[.agg #[.int .i64 (a : Int), .int .i64 (a : Int), .slice none 0 0], .slice A27 ((encB a (fI a)).length) cp28, .bool true])] (by kernel_rfl) (by kernel_rfl) ?_
 refine Sb H 24 #[.int .i64 0, .int .i64 0, .slice none 0 0] 42 (fun g => .pointer (some ⟨g, 0, none⟩)) ?_
 intro g29 w H
 refine Ss H 0 0 #[.int .i64 (a : Int), .int .i64 (a : Int), .slice none 0 0] ?_
 intro w H
 refine WO.run 2 8 [(26, .bool true), (25, .slice A27 ((encB a (fI a)).length) cp28)] (by kernel_rfl) (by kernel_rfl) ?_
 refine WO.done (by kernel_rfl) ?_
 refine WQ.keep [1, 2, 8, 9, 14, 22, 24, 25, 26] (e' := [(1, .int .i64 (i : Int)), (2, .int .i64 (ac : Int)), (8, .bool false), (9, .bool true), (14, .slice Aa k ca), (22, .pointer (some ⟨g2, 0, none⟩)), (24, .pointer (some ⟨g29, 0, none⟩)), (25, .slice A27 ((encB a (fI a)).length) cp28), (26, .bool true)]) (by kernel_rfl) ?_
 refine WQ.thenN ?_
 refine WE.seq ?_
 refine WE.seq ?_
 refine WE.region ?_
 refine WO.run 1 0 [(140, .pointer (some ⟨g2, 0, none⟩))] (by kernel_rfl) (by kernel_rfl) ?_
 refine Sc H 141 (sdnext_ct g2 gd many 1000 60000 a i fI (by omega)) [] [2] ?_
 rintro ⟨⟩ w _ H
 refine WO.run 1 2 [(142, .int .i64 (i : Int))] (by kernel_rfl) (by kernel_rfl) ?_
 refine WO.one (SQ.F 3 (by kernel_rfl)) 143 (.bool (!decide (((i : Int) : Int) = (i : Int)))) (by kernel_rfl) ?_
 refine WO.topNT (((i : Int) : Int) = (i : Int)) (by rfl) ?_
 refine WO.run 2 4 [(145, .pointer (some ⟨g2, 0, none⟩)), (144, .bool false)] (by kernel_rfl) (by kernel_rfl) ?_
 refine Sc H 146 (sdlen_ct g2 gd many 1000 60000 a i fI (by omega)) [] [2] ?_
 rintro ⟨⟩ w _ H
 refine WO.run 2 7 [(148, .int .i64 (ac : Int)), (147, .int .i64 (i : Int))] (by kernel_rfl) (by kernel_rfl) ?_
 refine WO.one (SQ.F 9 (by kernel_rfl)) 149 (.int .i64 (IntKind.i64.wrap ((i : Int) - (ac : Int)))) (by kernel_rfl) ?_
 refine WO.top (v' := .int .i64 ((i - ac : Nat) : Int)) (wrap_i64 (by omega) (by omega)) ?_
 refine WO.one (SQ.F 10 (by kernel_rfl)) 150 (.bool (decide (((i : Int) - (a : Int) : Int) < ((i - ac : Nat) : Int)))) (by kernel_rfl) ?_
 refine WO.topPF (((i : Int) - (a : Int) : Int) < ((i - ac : Nat) : Int)) (by omega) ?_
 refine WO.run 4 11 [(154, .pointer (some ⟨g2, 0, none⟩)), (153, .bool true), (152, .bool false), (151, .bool false)] (by kernel_rfl) (by kernel_rfl) ?_
 refine Sc H 155 (sdlen_ct g2 gd many 1000 60000 a i fI (by omega)) [] [2] ?_
 rintro ⟨⟩ w _ H
 refine WO.one (SQ.F 16 (by kernel_rfl)) 156 (.bool (decide (((i : Int) - (a : Int) : Int) > 0))) (by kernel_rfl) ?_
 refine WO.top (v' := .bool true) (congrArg Value.bool (decide_eq_true (by omega))) ?_
 refine WO.run 2 17 [(158, .bool false), (157, .bool false)] (by kernel_rfl) (by kernel_rfl) ?_
 refine WO.done (by kernel_rfl) ?_
 refine WQ.keep [1, 2, 8, 9, 14, 22, 24, 25, 26, 158] (e' := [(1, .int .i64 (i : Int)), (2, .int .i64 (ac : Int)), (8, .bool false), (9, .bool true), (14, .slice Aa k ca), (22, .pointer (some ⟨g2, 0, none⟩)), (24, .pointer (some ⟨g29, 0, none⟩)), (25, .slice A27 ((encB a (fI a)).length) cp28), (26, .bool true), (158, .bool false)]) (by kernel_rfl) ?_
 refine WQ.thenN ?_
 refine WE.condF (by kernel_rfl) ?_
 refine WE.skip ?_
 refine WQ.thenN ?_
 refine WE.seq ?_
 refine WE.seq ?_
 refine WE.region ?_
 refine WO.run 2 0 [(160, .bool false), (159, .bool true)] (by kernel_rfl) (by kernel_rfl) ?_
 refine WO.done (by kernel_rfl) ?_
 refine WQ.keep [1, 2, 8, 9, 14, 22, 24, 25, 160] (e' := [(1, .int .i64 (i : Int)), (2, .int .i64 (ac : Int)), (8, .bool false), (9, .bool true), (14, .slice Aa k ca), (22, .pointer (some ⟨g2, 0, none⟩)), (24, .pointer (some ⟨g29, 0, none⟩)), (25, .slice A27 ((encB a (fI a)).length) cp28), (160, .bool false)]) (by kernel_rfl) ?_
 refine WQ.thenN ?_
 refine WE.condF (by kernel_rfl) ?_
 refine WE.skip ?_
 refine WQ.thenN ?_
 refine WE.seq ?_
 refine WE.draw [.free, .free, .free, .still, .free, .free, .free, .free, .free, .still, .free, .free, .effR, .free, .free, .free, .free, .free, .effR, .free, .free, .still, .free, .effR, .free, .free, .free] (Kp [g29]) (kpR _) (by kernel_rfl) 27 (Array.replicate 27 false) (by kernel_rfl) rfl ?_
 intro w F_ _
 replace H := H.step0 F_
 refine WO.one (SA.F (kpR _) (kpT _) _ 0 _ (by kernel_rfl)) 166 (.bool true) (by kernel_rfl) ?_
 refine WO.one (SA.F (kpR _) (kpT _) _ 1 _ (by kernel_rfl)) 167 (.bool true) (by kernel_rfl) ?_
 refine WO.one (SA.F (kpR _) (kpT _) _ 2 _ (by kernel_rfl)) 168 (.pointer (some ⟨g29, 0, none⟩)) (by kernel_rfl) ?_
 refine WO.ld (SA.S (kpR _) (kpT _) _ 3 _ (by kernel_rfl)) 169 (.int .i64 (a : Int)) (by kernel_rfl) (fun _ k_ => ((H.blk 0).kp k_ (by show g29 ∈ ([g29] : List Nat); simp)).at 0 (by kernel_rfl)) ?_
 refine WO.one (SA.F (kpR _) (kpT _) _ 4 _ (by kernel_rfl)) 170 (.int .i64 (ac : Int)) (by kernel_rfl) ?_
 refine WO.one (SA.F (kpR _) (kpT _) _ 5 _ (by kernel_rfl)) 171 (.bool (decide (((a : Int) : Int) ≤ (ac : Int)))) (by kernel_rfl) ?_
 refine WO.top (v' := .bool true) (congrArg Value.bool (decide_eq_true (by omega))) ?_
 refine WO.one (SA.F (kpR _) (kpT _) _ 6 _ (by kernel_rfl)) 172 (.bool true) (by kernel_rfl) ?_
 refine WO.one (SA.F (kpR _) (kpT _) _ 7 _ (by kernel_rfl)) 173 (.bool true) (by kernel_rfl) ?_
 refine WO.one (SA.F (kpR _) (kpT _) _ 8 _ (by kernel_rfl)) 174 (.pointer (some ⟨g29, 0, none⟩)) (by kernel_rfl) ?_
 refine WO.ld (SA.S (kpR _) (kpT _) _ 9 _ (by kernel_rfl)) 175 (.int .i64 (a : Int)) (by kernel_rfl) (fun _ k_ => ((H.blk 0).kp k_ (by show g29 ∈ ([g29] : List Nat); simp)).at 0 (by kernel_rfl)) ?_
 refine WO.one (SA.F (kpR _) (kpT _) _ 10 _ (by kernel_rfl)) 176 (.int .i64 (i : Int)) (by kernel_rfl) ?_
 refine WO.one (SA.F (kpR _) (kpT _) _ 11 _ (by kernel_rfl)) 177 (.pointer (some ⟨g2, 0, none⟩)) (by kernel_rfl) ?_
 refine GcK (SA.ER _ 12 _ (by kernel_rfl) rfl) H 178 (sdlen_ct g2 gd many 1000 60000 a i fI (by omega)) [] [2] [0] ?_
 rintro ⟨⟩ w _ H
 refine WO.one (SA.F (kpR _) (kpT _) _ 13 _ (by kernel_rfl)) 179 (.int .i64 (IntKind.i64.wrap ((i : Int) - ((i : Int) - (a : Int))))) (by kernel_rfl) ?_
 refine WO.top (v' := .int .i64 ((i : Int) - ((i : Int) - (a : Int)))) (wrap_i64 (by omega) (by omega)) ?_
 refine WO.one (SA.F (kpR _) (kpT _) _ 14 _ (by kernel_rfl)) 180 (.bool (decide (((a : Int) : Int) = ((i : Int) - ((i : Int) - (a : Int)))))) (by kernel_rfl) ?_
 refine WO.top (v' := .bool true) (congrArg Value.bool (decide_eq_true (by omega))) ?_
 refine WO.one (SA.F (kpR _) (kpT _) _ 15 _ (by kernel_rfl)) 181 (.bool true) (by kernel_rfl) ?_
 refine WO.one (SA.F (kpR _) (kpT _) _ 16 _ (by kernel_rfl)) 182 (.bool true) (by kernel_rfl) ?_
 refine WO.one (SA.F (kpR _) (kpT _) _ 17 _ (by kernel_rfl)) 183 (.slice A27 ((encB a (fI a)).length) cp28) (by kernel_rfl) ?_
 refine WO.one (SA.F (kpR _) (kpT _) _ 19 _ (by kernel_rfl)) 185 (.slice Aa k ca) (by kernel_rfl) ?_
 refine WO.one (SA.F (kpR _) (kpT _) _ 20 _ (by kernel_rfl)) 186 (.pointer (some ⟨g29, 0, none⟩)) (by kernel_rfl) ?_
 refine WO.ld (SA.S (kpR _) (kpT _) _ 21 _ (by kernel_rfl)) 187 (.int .i64 (a : Int)) (by kernel_rfl) (fun _ k_ => ((H.blk 0).kp k_ (by show g29 ∈ ([g29] : List Nat); simp)).at 0 (by kernel_rfl)) ?_
 obtain ⟨ad30, hA31⟩ := H.yaddr 3 cS 9 1 Aa k ca (rows fI 0 k) (k := a) (by have := (rows_len0 k); omega)
 refine WO.ixo (SA.F (kpR _) (kpT _) _ 22 _ (by kernel_rfl)) 188 k 1 a (a : Int) hA31 (by kernel_rfl) rfl (by omega) ?_
 refine WO.toX ?_
 refine WO.fork2 18 23 (by kernel_rfl) ?_ ?_
 ·
  obtain ⟨F32, HV33⟩ := H.at 1 (rV cB 1 A27 (encB a (fI a)))
  refine WO.b2sE (v := .slice A27 ((encB a (fI a)).length) cp28) (SAx.nowR _ 18 _ (by kernel_rfl) rfl) 184 Wire.byt (encB a (fI a)) (n := ((encB a (fI a)).length)) (rfl : List.length (encB a (fI a)) = _) (by kernel_rfl) (VX.srcN HV33 (rfl : List.length (encB a (fI a)) = _) (cB_len _) (cB_one _) cp28) (H.kpF [0]) ?_
  refine WO.ldE (SAx.E (SA.ER _ 23 _ (by kernel_rfl) rfl)) 189 (.string (str (gS (rows fI 0 k) a))) (H.kpF [0]) (by kernel_rfl) ((H.ycell0 3 cS 9 1 Aa k ca (rows fI 0 k) hA31 (gS_some (rows fI 0 k) a (by have := (rows_len0 k); omega))) _ (sameR _)) ?_
  refine WO.one (SAx.F (SA.F (kpR _) (kpT _) _ 24 _ (by kernel_rfl))) 190 (.bool ((str (encB a (fI a))).toList == (str (gS (rows fI 0 k) a)).toList)) (by kernel_rfl) ?_
  refine WO.top (v' := .bool true) (congrArg Value.bool (beq_iff_eq.2 (congrArg (fun l => (str l).toList) (rows_g fI (by omega)).symm))) ?_
  refine WO.one (SAx.F (SA.F (kpR _) (kpT _) _ 25 _ (by kernel_rfl))) 191 (.bool true) (by kernel_rfl) ?_
  refine WO.one (SAx.F (SA.F (kpR _) (kpT _) _ 26 _ (by kernel_rfl))) 8 (.bool true) (by kernel_rfl) ?_
  refine WO.doneX (by kernel_rfl) ?_
  refine WQ.keep [8] (e' := [(8, .bool true)]) (by kernel_rfl) ?_
  refine WQ.thenN ?_
  refine WE.ret ?_
  refine WQ.ret (v := .bool true) (by kernel_rfl) ?_
  exact H.leaf () [] trivial
 ·
  refine WO.ldE (SAx.nowR _ 23 _ (by kernel_rfl) rfl) 189 (.string (str (gS (rows fI 0 k) a))) (H.kpF [0]) (by kernel_rfl) ((H.ycell0 3 cS 9 1 Aa k ca (rows fI 0 k) hA31 (gS_some (rows fI 0 k) a (by have := (rows_len0 k); omega))) _ (sameR _)) ?_
  obtain ⟨F34, HV35⟩ := H.at 1 (rV cB 1 A27 (encB a (fI a)))
  refine WO.b2sE (v := .slice A27 ((encB a (fI a)).length) cp28) (SAx.E (SA.ER _ 18 _ (by kernel_rfl) rfl)) 184 Wire.byt (encB a (fI a)) (n := ((encB a (fI a)).length)) (rfl : List.length (encB a (fI a)) = _) (by kernel_rfl) (VX.srcN HV35 (rfl : List.length (encB a (fI a)) = _) (cB_len _) (cB_one _) cp28) (H.kpF [0]) ?_
  refine WO.one (SAx.F (SA.F (kpR _) (kpT _) _ 24 _ (by kernel_rfl))) 190 (.bool ((str (encB a (fI a))).toList == (str (gS (rows fI 0 k) a)).toList)) (by kernel_rfl) ?_
  refine WO.top (v' := .bool true) (congrArg Value.bool (beq_iff_eq.2 (congrArg (fun l => (str l).toList) (rows_g fI (by omega)).symm))) ?_
  refine WO.one (SAx.F (SA.F (kpR _) (kpT _) _ 25 _ (by kernel_rfl))) 191 (.bool true) (by kernel_rfl) ?_
  refine WO.one (SAx.F (SA.F (kpR _) (kpT _) _ 26 _ (by kernel_rfl))) 8 (.bool true) (by kernel_rfl) ?_
  refine WO.doneX (by kernel_rfl) ?_
  refine WQ.keep [8] (e' := [(8, .bool true)]) (by kernel_rfl) ?_
  refine WQ.thenN ?_
  refine WE.ret ?_
  refine WQ.ret (v := .bool true) (by kernel_rfl) ?_
  exact H.leaf () [] trivial
end Go.Proofs.YtjfgmdkdcnfdoaaGreatDoor.Jrn
