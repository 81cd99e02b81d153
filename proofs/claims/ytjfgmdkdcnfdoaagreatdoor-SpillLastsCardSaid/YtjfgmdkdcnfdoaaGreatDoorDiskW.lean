/- Layer 8's walks: the disk's operations, case by case. -/
import Derived.Test.YtjfgmdkdcnfdoaaGreatDoorDiskRep
set_option linter.unusedVariables false
set_option linter.unusedSimpArgs false
namespace Go.Proofs.YtjfgmdkdcnfdoaaGreatDoor.Disk
open Go Go.RowKit Go.Proofs.YtjfgmdkdcnfdoaaGreatDoor Go.Proofs.YtjfgmdkdcnfdoaaGreatDoor.Eng Go.Proofs.YtjfgmdkdcnfdoaaGreatDoorW.PrintWords
theorem byt : BT Tryz.prog 69 5 9 := ⟨by kernel_rfl, by kernel_rfl, by kernel_rfl⟩
theorem et_b : ET Tryz.prog 69 5 1 1 := by
 obtain ⟨i, h1, h2, h3, h4⟩ := info_parts (P := Tryz.prog) (e := 5) (z := .int .u8 0) (size := 1) (bytes := 1) (by kernel_rfl)
 exact ⟨by kernel_rfl, ⟨i, _, h1, h2, h3, h4, rfl⟩, by decide⟩
theorem hz_b : ∃ i, Tryz.prog.info? 5 = some i ∧ i.zero = some (.int .u8 0) := by
 obtain ⟨i, h1, h2, h3, h4⟩ := info_parts (P := Tryz.prog) (e := 5) (z := .int .u8 0) (size := 1) (bytes := 1) (by kernel_rfl)
 exact ⟨i, h1, h2⟩
theorem mt : MT Tryz.prog 144 3 190 := ⟨by kernel_rfl, by kernel_rfl, fun w => by kernel_rfl⟩
def sumL (ln : Nat → Nat) (es : List (Int × Nat)) : Nat := (es.map fun e => ln e.2).sum
theorem sumL_cons (ln : Nat → Nat) (e : Int × Nat) (es : List (Int × Nat)) : sumL ln (e :: es) = ln e.2 + sumL ln es := by
 unfold sumL
 simp
theorem sumL_le {ln : Nat → Nat} {e : Int × Nat} : ∀ {es : List (Int × Nat)}, e ∈ es → ln e.2 ≤ sumL ln es
 | x :: r, h => by
  rw [sumL_cons]
  rcases List.mem_cons.1 h with rfl | h
  ·
   omega
  ·
   have := sumL_le (ln := ln) h
   omega
theorem filter_no {es : List (Int × Nat)} {n : Int} (h : n ∉ es.map (·.1)) : (es.filter fun e => !decide (e.1 = n)) = es := List.filter_eq_self.2 fun e he => by
 have : e.1 ≠ n := fun h1 => h (List.mem_map.2 ⟨e, he, h1⟩)
 simpa using this
theorem sumL_take {ln : Nat → Nat} {z : Int × Nat} : ∀ {td : List (Int × Nat)}, (td.map (·.1)).Nodup → z ∈ td → sumL ln td = ln z.2 + sumL ln (td.filter fun e => !decide (e.1 = z.1))
 | x :: r, hn, h => by
  simp only [List.map_cons, List.nodup_cons] at hn
  rw [sumL_cons]
  rcases List.mem_cons.1 h with rfl | h
  ·
   rw [List.filter_cons, if_neg (by simp), filter_no hn.1]
  ·
   have hne : x.1 ≠ z.1 := fun h1 => hn.1 (List.mem_map.2 ⟨z, h, h1.symm⟩)
   rw [List.filter_cons, if_pos (by simpa using hne), sumL_cons, sumL_take hn.2 h]
   omega
theorem filter_lt {td : List (Int × Nat)} {z : Int × Nat} (h : z ∈ td) : (td.filter fun e => !decide (e.1 = z.1)).length < td.length := by
 exact List.length_filter_lt_length_iff_exists.2 ⟨z, h, by simp⟩
def PLn (w : World) (FP : List Nat) (es : List (Int × Nat)) (ln : Nat → Nat) : Prop := (∀ y ∈ FP, y < w.heap.size) ∧ ∀ e ∈ es, e.2 ∈ FP ∧ ∃ (A : Option Addr) (c : Nat) (s : Int), Blk w e.2 #[.slice A (ln e.2) c, .int .i64 s] 193
theorem PLn.keep {w w1 : World} {S FP : List Nat} {es : List (Int × Nat)} {ln : Nat → Nat} (h : PLn w FP es ln) (k : Fr S w w1) (hn : ∀ y ∈ FP, y ∉ S) : PLn w1 FP es ln := by
 refine ⟨fun y hy => Nat.lt_of_lt_of_le (h.1 y hy) k.size, fun e he => ?_⟩
 obtain ⟨h1, A, c, s, h2⟩ := h.2 e he
 exact ⟨h1, A, c, s, h2.keep k (hn _ h1)⟩
theorem PLn.lt {w : World} {FP : List Nat} {es : List (Int × Nat)} {ln : Nat → Nat} (h : PLn w FP es ln) : ∀ y ∈ FP, y < w.heap.size := h.1
theorem PLn.at {w : World} {FP : List Nat} {es : List (Int × Nat)} {ln : Nat → Nat} (h : PLn w FP es ln) {e : Int × Nat} (he : e ∈ es) : ∃ (A : Option Addr) (c : Nat) (s : Int), Blk w e.2 #[.slice A (ln e.2) c, .int .i64 s] 193 := (h.2 e he).2
set_option maxRecDepth 100000 in
set_option maxHeartbeats 400000 in
theorem new_ok (r : Int) (w : World) (h : ¬ (r < 1 ∨ 65536 < r)) :
  Calls Tryz.prog 18 #[.int .i64 r] w fun e w' => ∃ g m, e = .returned (.tuple #[.pointer (some ⟨g, 0, none⟩), .nilIface]) ∧ Blk w' g #[.int .i64 r, .map (some m), .bool false] 146 ∧ MapI Tryz.prog 3 w' m [] ∧ Fr [] w w' ∧ w.heap.size ≤ g ∧ w.heap.size ≤ m ∧ g ≠ m := by
 have HA := Fr.refl [] w
 refine enter (N := 15) Tryz.func18 (c := _) rfl (by kernel_rfl) (by kernel_rfl) (e := [(0, .int .i64 r)]) (by kernel_rfl) ?_
 refine WE.seq ?_
 refine WE.region ?_
 refine WO.run 2 0 [(3, .nilIface), (2, .pointer none)] (by kernel_rfl) (by kernel_rfl) ?_
 refine WO.done (by kernel_rfl) ?_
 refine WQ.keep [0, 2, 3] (e' := [(0, .int .i64 r), (2, .pointer none), (3, .nilIface)]) (by kernel_rfl) ?_
 refine WQ.thenN ?_
 refine WE.seq ?_
 refine WE.seq ?_
 refine WE.region ?_
 refine WO.run 1 0 [(4, .int .i64 r)] (by kernel_rfl) (by kernel_rfl) ?_
 refine WO.one (SQ.F 1 (by kernel_rfl)) 5 (.bool (decide ((r : Int) < 1))) (by kernel_rfl) ?_
 refine WO.topPF ((r : Int) < 1) (by omega) ?_
 refine WO.run 2 2 [(7, .int .i64 r), (6, .bool false)] (by kernel_rfl) (by kernel_rfl) ?_
 refine WO.one (SQ.F 4 (by kernel_rfl)) 8 (.bool (decide ((r : Int) > 65536))) (by kernel_rfl) ?_
 refine WO.topPF ((r : Int) > 65536) (by omega) ?_
 refine WO.run 1 5 [(9, .bool false)] (by kernel_rfl) (by kernel_rfl) ?_
 refine WO.done (by kernel_rfl) ?_
 refine WQ.keep [0, 2, 3, 9] (e' := [(0, .int .i64 r), (2, .pointer none), (3, .nilIface), (9, .bool false)]) (by kernel_rfl) ?_
 refine WQ.thenN ?_
 refine WE.condF (by kernel_rfl) ?_
 refine WE.skip ?_
 refine WQ.thenN ?_
 refine WE.seq ?_
 refine WE.region ?_
 refine WO.run 1 0 [(11, .int .i64 r)] (by kernel_rfl) (by kernel_rfl) ?_
 refine WO.mm (SQ.E 1 (by kernel_rfl)) 12 3 (by kernel_rfl) (fun _ _ => trivial) ?_
 intro m1 w2 HM3 F4 le5 _
 have ge_HA_m1 := Nat.le_trans HA.size le5
 have HA := Fr.step0 HA F4
 refine WO.run 1 2 [(13, .agg #[.int .i64 r, .map (some m1), .bool false])] (by kernel_rfl) (by kernel_rfl) ?_
 refine WO.bx (SQ.E 3 (by kernel_rfl)) 14 #[.int .i64 r, .map (some m1), .bool false] 146 (fun g => .pointer (some ⟨g, 0, none⟩)) (by kernel_rfl) (fun _ _ => trivial) ?_
 intro g6 w7 HB9 F8 le10 _
 have ne_m1_g6 : m1 ≠ g6 := Nat.ne_of_lt (Nat.lt_of_lt_of_le HM3.lt le10)
 have ge_HA_g6 := Nat.le_trans HA.size le10
 have HM3 := HM3.keep F8 (nin0 _)
 have HA := Fr.step0 HA F8
 refine WO.run 2 4 [(3, .nilIface), (2, .pointer (some ⟨g6, 0, none⟩))] (by kernel_rfl) (by kernel_rfl) ?_
 refine WO.done (by kernel_rfl) ?_
 refine WQ.keep [0, 2, 3, 9] (e' := [(0, .int .i64 r), (2, .pointer (some ⟨g6, 0, none⟩)), (3, .nilIface), (9, .bool false)]) (by kernel_rfl) ?_
 refine WQ.thenN ?_
 refine WE.ret ?_
 refine WQ.ret (v := .tuple #[.pointer (some ⟨g6, 0, none⟩), .nilIface]) (by kernel_rfl) ?_
 exact ⟨g6, m1, rfl, HB9, HM3, HA, ge_HA_g6, ge_HA_m1, (Ne.symm ne_m1_g6)⟩
set_option maxRecDepth 100000 in
set_option maxHeartbeats 400000 in
theorem part_down (g m : Nat) (room : Int) (es : List (Int × Nat)) (n : Int) (w : World) (HB : Blk w g #[.int .i64 room, .map (some m), .bool true] 146) (HM : MapI Tryz.prog 3 w m es) (hgm : g ≠ m) (hj : -9223372036854775808 ≤ n ∧ n ≤ 9223372036854775807)  :
  Calls Tryz.prog 243 #[.pointer (some ⟨g, 0, none⟩), .int .i64 n] w fun e w' => e = .returned (.tuple #[.pointer none, .iface 88 (.int .i64 10)]) ∧ Fr [] w w' := by
 have HA := Fr.refl [] w
 refine enter (N := 26) Tryz.func243 (c := _) rfl (by kernel_rfl) (by kernel_rfl) (e := [(0, .pointer (some ⟨g, 0, none⟩)), (1, .int .i64 n)]) (by kernel_rfl) ?_
 refine WE.seq ?_
 refine WE.region ?_
 refine WO.run 2 0 [(5, .nilIface), (4, .pointer none)] (by kernel_rfl) (by kernel_rfl) ?_
 refine WO.done (by kernel_rfl) ?_
 refine WQ.keep [0, 1, 4, 5] (e' := [(0, .pointer (some ⟨g, 0, none⟩)), (1, .int .i64 n), (4, .pointer none), (5, .nilIface)]) (by kernel_rfl) ?_
 refine WQ.thenN ?_
 refine WE.seq ?_
 refine WE.seq ?_
 refine WE.region ?_
 refine WO.run 3 0 [(10, .pointer (some ⟨g, 2, none⟩)), (9, .pointer (some ⟨g, 0, none⟩)), (8, .pointer (some ⟨g, 0, none⟩))] (by kernel_rfl) (by kernel_rfl) ?_
 refine WO.ld (SQ.S 3 (by kernel_rfl)) 11 (.bool true) (by kernel_rfl) (same (HB.at 2 (by kernel_rfl))) ?_
 refine WO.done (by kernel_rfl) ?_
 refine WQ.keep [0, 1, 4, 5, 11] (e' := [(0, .pointer (some ⟨g, 0, none⟩)), (1, .int .i64 n), (4, .pointer none), (5, .nilIface), (11, .bool true)]) (by kernel_rfl) ?_
 refine WQ.thenN ?_
 refine WE.condT (by kernel_rfl) ?_
 refine WE.seq ?_
 refine WE.region ?_
 refine WO.run 3 0 [(5, .iface 88 (.int .i64 10)), (4, .pointer none), (12, .iface 88 (.int .i64 10))] (by kernel_rfl) (by kernel_rfl) ?_
 refine WO.done (by kernel_rfl) ?_
 refine WQ.keep [0, 1, 4, 5, 11] (e' := [(0, .pointer (some ⟨g, 0, none⟩)), (1, .int .i64 n), (4, .pointer none), (5, .iface 88 (.int .i64 10)), (11, .bool true)]) (by kernel_rfl) ?_
 refine WQ.thenN ?_
 refine WE.ret ?_
 refine WQ.thenR ?_
 refine WQ.ret (v := .tuple #[.pointer none, .iface 88 (.int .i64 10)]) (by kernel_rfl) ?_
 exact ⟨rfl, HA⟩
set_option maxRecDepth 100000 in
set_option maxHeartbeats 400000 in
theorem part_none (g m : Nat) (room : Int) (es : List (Int × Nat)) (n : Int) (w : World) (HB : Blk w g #[.int .i64 room, .map (some m), .bool false] 146) (HM : MapI Tryz.prog 3 w m es) (hgm : g ≠ m) (hj : -9223372036854775808 ≤ n ∧ n ≤ 9223372036854775807) (hno : es.any (fun e => decide (e.1 = n)) = false) (hv : lkV es n = .pointer none) :
  Calls Tryz.prog 243 #[.pointer (some ⟨g, 0, none⟩), .int .i64 n] w fun e w' => e = .returned (.tuple #[.pointer none, .iface 88 (.int .i64 4)]) ∧ Fr [] w w' := by
 have HA := Fr.refl [] w
 refine enter (N := 26) Tryz.func243 (c := _) rfl (by kernel_rfl) (by kernel_rfl) (e := [(0, .pointer (some ⟨g, 0, none⟩)), (1, .int .i64 n)]) (by kernel_rfl) ?_
 refine WE.seq ?_
 refine WE.region ?_
 refine WO.run 2 0 [(5, .nilIface), (4, .pointer none)] (by kernel_rfl) (by kernel_rfl) ?_
 refine WO.done (by kernel_rfl) ?_
 refine WQ.keep [0, 1, 4, 5] (e' := [(0, .pointer (some ⟨g, 0, none⟩)), (1, .int .i64 n), (4, .pointer none), (5, .nilIface)]) (by kernel_rfl) ?_
 refine WQ.thenN ?_
 refine WE.seq ?_
 refine WE.seq ?_
 refine WE.region ?_
 refine WO.run 3 0 [(10, .pointer (some ⟨g, 2, none⟩)), (9, .pointer (some ⟨g, 0, none⟩)), (8, .pointer (some ⟨g, 0, none⟩))] (by kernel_rfl) (by kernel_rfl) ?_
 refine WO.ld (SQ.S 3 (by kernel_rfl)) 11 (.bool false) (by kernel_rfl) (same (HB.at 2 (by kernel_rfl))) ?_
 refine WO.done (by kernel_rfl) ?_
 refine WQ.keep [0, 1, 4, 5, 11] (e' := [(0, .pointer (some ⟨g, 0, none⟩)), (1, .int .i64 n), (4, .pointer none), (5, .nilIface), (11, .bool false)]) (by kernel_rfl) ?_
 refine WQ.thenN ?_
 refine WE.condF (by kernel_rfl) ?_
 refine WE.skip ?_
 refine WQ.thenN ?_
 refine WE.seq ?_
 refine WE.region ?_
 refine WO.run 3 0 [(16, .pointer (some ⟨g, 1, none⟩)), (15, .pointer (some ⟨g, 0, none⟩)), (14, .pointer (some ⟨g, 0, none⟩))] (by kernel_rfl) (by kernel_rfl) ?_
 refine WO.ld (SQ.S 3 (by kernel_rfl)) 17 (.map (some m)) (by kernel_rfl) (same (HB.at 1 (by kernel_rfl))) ?_
 refine WO.run 1 4 [(18, .int .i64 n)] (by kernel_rfl) (by kernel_rfl) ?_
 refine WO.lkOk (SQ.S 5 (by kernel_rfl)) 19 mt (j := n) (by kernel_rfl) (same HM) hj ?_
 refine WO.top (v' := .tuple #[.pointer none, .bool false]) (by rw [hv, hno]) ?_
 refine WO.run 5 6 [(7, .bool false), (6, .pointer none), (21, .bool false), (20, .pointer none), (13, .tuple #[.pointer none, .bool false])] (by kernel_rfl) (by kernel_rfl) ?_
 refine WO.done (by kernel_rfl) ?_
 refine WQ.keep [0, 1, 4, 5, 6, 7, 11] (e' := [(0, .pointer (some ⟨g, 0, none⟩)), (1, .int .i64 n), (4, .pointer none), (5, .nilIface), (6, .pointer none), (7, .bool false), (11, .bool false)]) (by kernel_rfl) ?_
 refine WQ.thenN ?_
 refine WE.seq ?_
 refine WE.seq ?_
 refine WE.region ?_
 refine WO.run 2 0 [(23, .bool true), (22, .bool false)] (by kernel_rfl) (by kernel_rfl) ?_
 refine WO.done (by kernel_rfl) ?_
 refine WQ.keep [0, 1, 4, 5, 6, 7, 11, 23] (e' := [(0, .pointer (some ⟨g, 0, none⟩)), (1, .int .i64 n), (4, .pointer none), (5, .nilIface), (6, .pointer none), (7, .bool false), (11, .bool false), (23, .bool true)]) (by kernel_rfl) ?_
 refine WQ.thenN ?_
 refine WE.condT (by kernel_rfl) ?_
 refine WE.seq ?_
 refine WE.region ?_
 refine WO.run 3 0 [(5, .iface 88 (.int .i64 4)), (4, .pointer none), (24, .iface 88 (.int .i64 4))] (by kernel_rfl) (by kernel_rfl) ?_
 refine WO.done (by kernel_rfl) ?_
 refine WQ.keep [0, 1, 4, 5, 6, 7, 11, 23] (e' := [(0, .pointer (some ⟨g, 0, none⟩)), (1, .int .i64 n), (4, .pointer none), (5, .iface 88 (.int .i64 4)), (6, .pointer none), (7, .bool false), (11, .bool false), (23, .bool true)]) (by kernel_rfl) ?_
 refine WQ.thenN ?_
 refine WE.ret ?_
 refine WQ.thenR ?_
 refine WQ.ret (v := .tuple #[.pointer none, .iface 88 (.int .i64 4)]) (by kernel_rfl) ?_
 exact ⟨rfl, HA⟩
set_option maxRecDepth 100000 in
set_option maxHeartbeats 400000 in
theorem part_some (g m : Nat) (room : Int) (es : List (Int × Nat)) (n : Int) (w : World) (HB : Blk w g #[.int .i64 room, .map (some m), .bool false] 146) (HM : MapI Tryz.prog 3 w m es) (hgm : g ≠ m) (hj : -9223372036854775808 ≤ n ∧ n ≤ 9223372036854775807) (k : Nat) (hv : lkV es n = .pointer (some ⟨k, 0, none⟩)) (hhas : es.any (fun e => decide (e.1 = n)) = true) :
  Calls Tryz.prog 243 #[.pointer (some ⟨g, 0, none⟩), .int .i64 n] w fun e w' => e = .returned (.tuple #[.pointer (some ⟨k, 0, none⟩), .nilIface]) ∧ Fr [] w w' := by
 have HA := Fr.refl [] w
 refine enter (N := 26) Tryz.func243 (c := _) rfl (by kernel_rfl) (by kernel_rfl) (e := [(0, .pointer (some ⟨g, 0, none⟩)), (1, .int .i64 n)]) (by kernel_rfl) ?_
 refine WE.seq ?_
 refine WE.region ?_
 refine WO.run 2 0 [(5, .nilIface), (4, .pointer none)] (by kernel_rfl) (by kernel_rfl) ?_
 refine WO.done (by kernel_rfl) ?_
 refine WQ.keep [0, 1, 4, 5] (e' := [(0, .pointer (some ⟨g, 0, none⟩)), (1, .int .i64 n), (4, .pointer none), (5, .nilIface)]) (by kernel_rfl) ?_
 refine WQ.thenN ?_
 refine WE.seq ?_
 refine WE.seq ?_
 refine WE.region ?_
 refine WO.run 3 0 [(10, .pointer (some ⟨g, 2, none⟩)), (9, .pointer (some ⟨g, 0, none⟩)), (8, .pointer (some ⟨g, 0, none⟩))] (by kernel_rfl) (by kernel_rfl) ?_
 refine WO.ld (SQ.S 3 (by kernel_rfl)) 11 (.bool false) (by kernel_rfl) (same (HB.at 2 (by kernel_rfl))) ?_
 refine WO.done (by kernel_rfl) ?_
 refine WQ.keep [0, 1, 4, 5, 11] (e' := [(0, .pointer (some ⟨g, 0, none⟩)), (1, .int .i64 n), (4, .pointer none), (5, .nilIface), (11, .bool false)]) (by kernel_rfl) ?_
 refine WQ.thenN ?_
 refine WE.condF (by kernel_rfl) ?_
 refine WE.skip ?_
 refine WQ.thenN ?_
 refine WE.seq ?_
 refine WE.region ?_
 refine WO.run 3 0 [(16, .pointer (some ⟨g, 1, none⟩)), (15, .pointer (some ⟨g, 0, none⟩)), (14, .pointer (some ⟨g, 0, none⟩))] (by kernel_rfl) (by kernel_rfl) ?_
 refine WO.ld (SQ.S 3 (by kernel_rfl)) 17 (.map (some m)) (by kernel_rfl) (same (HB.at 1 (by kernel_rfl))) ?_
 refine WO.run 1 4 [(18, .int .i64 n)] (by kernel_rfl) (by kernel_rfl) ?_
 refine WO.lkOk (SQ.S 5 (by kernel_rfl)) 19 mt (j := n) (by kernel_rfl) (same HM) hj ?_
 refine WO.top (v' := .tuple #[.pointer (some ⟨k, 0, none⟩), .bool true]) (by rw [hv, hhas]) ?_
 refine WO.run 5 6 [(7, .bool true), (6, .pointer (some ⟨k, 0, none⟩)), (21, .bool true), (20, .pointer (some ⟨k, 0, none⟩)), (13, .tuple #[.pointer (some ⟨k, 0, none⟩), .bool true])] (by kernel_rfl) (by kernel_rfl) ?_
 refine WO.done (by kernel_rfl) ?_
 refine WQ.keep [0, 1, 4, 5, 6, 7, 11] (e' := [(0, .pointer (some ⟨g, 0, none⟩)), (1, .int .i64 n), (4, .pointer none), (5, .nilIface), (6, .pointer (some ⟨k, 0, none⟩)), (7, .bool true), (11, .bool false)]) (by kernel_rfl) ?_
 refine WQ.thenN ?_
 refine WE.seq ?_
 refine WE.seq ?_
 refine WE.region ?_
 refine WO.run 2 0 [(23, .bool false), (22, .bool true)] (by kernel_rfl) (by kernel_rfl) ?_
 refine WO.done (by kernel_rfl) ?_
 refine WQ.keep [0, 1, 4, 5, 6, 7, 11, 23] (e' := [(0, .pointer (some ⟨g, 0, none⟩)), (1, .int .i64 n), (4, .pointer none), (5, .nilIface), (6, .pointer (some ⟨k, 0, none⟩)), (7, .bool true), (11, .bool false), (23, .bool false)]) (by kernel_rfl) ?_
 refine WQ.thenN ?_
 refine WE.condF (by kernel_rfl) ?_
 refine WE.skip ?_
 refine WQ.thenN ?_
 refine WE.seq ?_
 refine WE.region ?_
 refine WO.run 3 0 [(5, .nilIface), (4, .pointer (some ⟨k, 0, none⟩)), (25, .pointer (some ⟨k, 0, none⟩))] (by kernel_rfl) (by kernel_rfl) ?_
 refine WO.done (by kernel_rfl) ?_
 refine WQ.keep [0, 1, 4, 5, 6, 7, 11, 23] (e' := [(0, .pointer (some ⟨g, 0, none⟩)), (1, .int .i64 n), (4, .pointer (some ⟨k, 0, none⟩)), (5, .nilIface), (6, .pointer (some ⟨k, 0, none⟩)), (7, .bool true), (11, .bool false), (23, .bool false)]) (by kernel_rfl) ?_
 refine WQ.thenN ?_
 refine WE.ret ?_
 refine WQ.ret (v := .tuple #[.pointer (some ⟨k, 0, none⟩), .nilIface]) (by kernel_rfl) ?_
 exact ⟨rfl, HA⟩
set_option maxRecDepth 100000 in
set_option maxHeartbeats 400000 in
theorem sync_down (g m : Nat) (room : Int) (es : List (Int × Nat)) (n : Int) (w : World) (HB : Blk w g #[.int .i64 room, .map (some m), .bool true] 146) (HM : MapI Tryz.prog 3 w m es) (hgm : g ≠ m) (hj : -9223372036854775808 ≤ n ∧ n ≤ 9223372036854775807)  :
  Calls Tryz.prog 192 #[.pointer (some ⟨g, 0, none⟩), .int .i64 n] w fun e w' => e = .returned (.iface 88 (.int .i64 10)) ∧ Fr [] w w' := by
 have HA := Fr.refl [] w
 refine enter (N := 24) Tryz.func192 (c := _) rfl (by kernel_rfl) (by kernel_rfl) (e := [(0, .pointer (some ⟨g, 0, none⟩)), (1, .int .i64 n)]) (by kernel_rfl) ?_
 refine WE.seq ?_
 refine WE.region ?_
 refine WO.run 1 0 [(4, .nilIface)] (by kernel_rfl) (by kernel_rfl) ?_
 refine WO.done (by kernel_rfl) ?_
 refine WQ.keep [0, 1, 4] (e' := [(0, .pointer (some ⟨g, 0, none⟩)), (1, .int .i64 n), (4, .nilIface)]) (by kernel_rfl) ?_
 refine WQ.thenN ?_
 refine WE.seq ?_
 refine WE.region ?_
 refine WO.run 2 0 [(9, .int .i64 n), (8, .pointer (some ⟨g, 0, none⟩))] (by kernel_rfl) (by kernel_rfl) ?_
 refine WO.call (SQ.E 2 (by kernel_rfl)) 10 (by kernel_rfl) (part_down g m room es n _ HB HM hgm hj) ?_
 rintro _ w1 ⟨rfl, F2⟩
 refine ⟨_, rfl, trivial, ?_⟩
 have HB := Blk.keep HB F2 (nin0 _)
 have HM := HM.keep F2 (nin0 _)
 have HA := Fr.step0 HA F2
 refine WO.run 5 3 [(6, .iface 88 (.int .i64 10)), (5, .pointer none), (12, .iface 88 (.int .i64 10)), (11, .pointer none), (7, .tuple #[.pointer none, .iface 88 (.int .i64 10)])] (by kernel_rfl) (by kernel_rfl) ?_
 refine WO.done (by kernel_rfl) ?_
 refine WQ.keep [0, 1, 4, 5, 6] (e' := [(0, .pointer (some ⟨g, 0, none⟩)), (1, .int .i64 n), (4, .nilIface), (5, .pointer none), (6, .iface 88 (.int .i64 10))]) (by kernel_rfl) ?_
 refine WQ.thenN ?_
 refine WE.seq ?_
 refine WE.seq ?_
 refine WE.region ?_
 refine WO.run 2 0 [(14, .bool true), (13, .iface 88 (.int .i64 10))] (by kernel_rfl) (by kernel_rfl) ?_
 refine WO.done (by kernel_rfl) ?_
 refine WQ.keep [0, 1, 4, 5, 6, 14] (e' := [(0, .pointer (some ⟨g, 0, none⟩)), (1, .int .i64 n), (4, .nilIface), (5, .pointer none), (6, .iface 88 (.int .i64 10)), (14, .bool true)]) (by kernel_rfl) ?_
 refine WQ.thenN ?_
 refine WE.condT (by kernel_rfl) ?_
 refine WE.seq ?_
 refine WE.region ?_
 refine WO.run 2 0 [(4, .iface 88 (.int .i64 10)), (15, .iface 88 (.int .i64 10))] (by kernel_rfl) (by kernel_rfl) ?_
 refine WO.done (by kernel_rfl) ?_
 refine WQ.keep [0, 1, 4, 5, 6, 14] (e' := [(0, .pointer (some ⟨g, 0, none⟩)), (1, .int .i64 n), (4, .iface 88 (.int .i64 10)), (5, .pointer none), (6, .iface 88 (.int .i64 10)), (14, .bool true)]) (by kernel_rfl) ?_
 refine WQ.thenN ?_
 refine WE.ret ?_
 refine WQ.thenR ?_
 refine WQ.ret (v := .iface 88 (.int .i64 10)) (by kernel_rfl) ?_
 exact ⟨rfl, HA⟩
set_option maxRecDepth 100000 in
set_option maxHeartbeats 400000 in
theorem sync_none (g m : Nat) (room : Int) (es : List (Int × Nat)) (n : Int) (w : World) (HB : Blk w g #[.int .i64 room, .map (some m), .bool false] 146) (HM : MapI Tryz.prog 3 w m es) (hgm : g ≠ m) (hj : -9223372036854775808 ≤ n ∧ n ≤ 9223372036854775807) (hno : es.any (fun e => decide (e.1 = n)) = false) (hv : lkV es n = .pointer none) :
  Calls Tryz.prog 192 #[.pointer (some ⟨g, 0, none⟩), .int .i64 n] w fun e w' => e = .returned (.iface 88 (.int .i64 4)) ∧ Fr [] w w' := by
 have HA := Fr.refl [] w
 refine enter (N := 24) Tryz.func192 (c := _) rfl (by kernel_rfl) (by kernel_rfl) (e := [(0, .pointer (some ⟨g, 0, none⟩)), (1, .int .i64 n)]) (by kernel_rfl) ?_
 refine WE.seq ?_
 refine WE.region ?_
 refine WO.run 1 0 [(4, .nilIface)] (by kernel_rfl) (by kernel_rfl) ?_
 refine WO.done (by kernel_rfl) ?_
 refine WQ.keep [0, 1, 4] (e' := [(0, .pointer (some ⟨g, 0, none⟩)), (1, .int .i64 n), (4, .nilIface)]) (by kernel_rfl) ?_
 refine WQ.thenN ?_
 refine WE.seq ?_
 refine WE.region ?_
 refine WO.run 2 0 [(9, .int .i64 n), (8, .pointer (some ⟨g, 0, none⟩))] (by kernel_rfl) (by kernel_rfl) ?_
 refine WO.call (SQ.E 2 (by kernel_rfl)) 10 (by kernel_rfl) (part_none g m room es n _ HB HM hgm hj hno hv) ?_
 rintro _ w1 ⟨rfl, F2⟩
 refine ⟨_, rfl, trivial, ?_⟩
 have HB := Blk.keep HB F2 (nin0 _)
 have HM := HM.keep F2 (nin0 _)
 have HA := Fr.step0 HA F2
 refine WO.run 5 3 [(6, .iface 88 (.int .i64 4)), (5, .pointer none), (12, .iface 88 (.int .i64 4)), (11, .pointer none), (7, .tuple #[.pointer none, .iface 88 (.int .i64 4)])] (by kernel_rfl) (by kernel_rfl) ?_
 refine WO.done (by kernel_rfl) ?_
 refine WQ.keep [0, 1, 4, 5, 6] (e' := [(0, .pointer (some ⟨g, 0, none⟩)), (1, .int .i64 n), (4, .nilIface), (5, .pointer none), (6, .iface 88 (.int .i64 4))]) (by kernel_rfl) ?_
 refine WQ.thenN ?_
 refine WE.seq ?_
 refine WE.seq ?_
 refine WE.region ?_
 refine WO.run 2 0 [(14, .bool true), (13, .iface 88 (.int .i64 4))] (by kernel_rfl) (by kernel_rfl) ?_
 refine WO.done (by kernel_rfl) ?_
 refine WQ.keep [0, 1, 4, 5, 6, 14] (e' := [(0, .pointer (some ⟨g, 0, none⟩)), (1, .int .i64 n), (4, .nilIface), (5, .pointer none), (6, .iface 88 (.int .i64 4)), (14, .bool true)]) (by kernel_rfl) ?_
 refine WQ.thenN ?_
 refine WE.condT (by kernel_rfl) ?_
 refine WE.seq ?_
 refine WE.region ?_
 refine WO.run 2 0 [(4, .iface 88 (.int .i64 4)), (15, .iface 88 (.int .i64 4))] (by kernel_rfl) (by kernel_rfl) ?_
 refine WO.done (by kernel_rfl) ?_
 refine WQ.keep [0, 1, 4, 5, 6, 14] (e' := [(0, .pointer (some ⟨g, 0, none⟩)), (1, .int .i64 n), (4, .iface 88 (.int .i64 4)), (5, .pointer none), (6, .iface 88 (.int .i64 4)), (14, .bool true)]) (by kernel_rfl) ?_
 refine WQ.thenN ?_
 refine WE.ret ?_
 refine WQ.thenR ?_
 refine WQ.ret (v := .iface 88 (.int .i64 4)) (by kernel_rfl) ?_
 exact ⟨rfl, HA⟩
set_option maxRecDepth 100000 in
set_option maxHeartbeats 400000 in
theorem sync_some (g m : Nat) (room : Int) (es : List (Int × Nat)) (n : Int) (w : World) (A : Option Addr) (bl cap s : Nat) (HB : Blk w g #[.int .i64 room, .map (some m), .bool false] 146) (HM : MapI Tryz.prog 3 w m es) (hgm : g ≠ m) (hj : -9223372036854775808 ≤ n ∧ n ≤ 9223372036854775807) (k : Nat) (hv : lkV es n = .pointer (some ⟨k, 0, none⟩)) (hhas : es.any (fun e => decide (e.1 = n)) = true) (HP : Blk w k #[.slice A bl cap, .int .i64 (s : Int)] 193) (hgk : g ≠ k) (hmk : m ≠ k) :
  Calls Tryz.prog 192 #[.pointer (some ⟨g, 0, none⟩), .int .i64 n] w fun e w' => e = .returned .nilIface ∧ Blk w' k #[.slice A bl cap, .int .i64 (bl : Int)] 193 ∧ Fr [k] w w' := by
 have HA := Fr.refl [k] w
 refine enter (N := 24) Tryz.func192 (c := _) rfl (by kernel_rfl) (by kernel_rfl) (e := [(0, .pointer (some ⟨g, 0, none⟩)), (1, .int .i64 n)]) (by kernel_rfl) ?_
 refine WE.seq ?_
 refine WE.region ?_
 refine WO.run 1 0 [(4, .nilIface)] (by kernel_rfl) (by kernel_rfl) ?_
 refine WO.done (by kernel_rfl) ?_
 refine WQ.keep [0, 1, 4] (e' := [(0, .pointer (some ⟨g, 0, none⟩)), (1, .int .i64 n), (4, .nilIface)]) (by kernel_rfl) ?_
 refine WQ.thenN ?_
 refine WE.seq ?_
 refine WE.region ?_
 refine WO.run 2 0 [(9, .int .i64 n), (8, .pointer (some ⟨g, 0, none⟩))] (by kernel_rfl) (by kernel_rfl) ?_
 refine WO.call (SQ.E 2 (by kernel_rfl)) 10 (by kernel_rfl) (part_some g m room es n _ HB HM hgm hj k hv hhas) ?_
 rintro _ w1 ⟨rfl, F2⟩
 refine ⟨_, rfl, trivial, ?_⟩
 have HB := Blk.keep HB F2 (nin0 _)
 have HP := Blk.keep HP F2 (nin0 _)
 have HM := HM.keep F2 (nin0 _)
 have HA := Fr.step0 HA F2
 refine WO.run 5 3 [(6, .nilIface), (5, .pointer (some ⟨k, 0, none⟩)), (12, .nilIface), (11, .pointer (some ⟨k, 0, none⟩)), (7, .tuple #[.pointer (some ⟨k, 0, none⟩), .nilIface])] (by kernel_rfl) (by kernel_rfl) ?_
 refine WO.done (by kernel_rfl) ?_
 refine WQ.keep [0, 1, 4, 5, 6] (e' := [(0, .pointer (some ⟨g, 0, none⟩)), (1, .int .i64 n), (4, .nilIface), (5, .pointer (some ⟨k, 0, none⟩)), (6, .nilIface)]) (by kernel_rfl) ?_
 refine WQ.thenN ?_
 refine WE.seq ?_
 refine WE.seq ?_
 refine WE.region ?_
 refine WO.run 2 0 [(14, .bool false), (13, .nilIface)] (by kernel_rfl) (by kernel_rfl) ?_
 refine WO.done (by kernel_rfl) ?_
 refine WQ.keep [0, 1, 4, 5, 6, 14] (e' := [(0, .pointer (some ⟨g, 0, none⟩)), (1, .int .i64 n), (4, .nilIface), (5, .pointer (some ⟨k, 0, none⟩)), (6, .nilIface), (14, .bool false)]) (by kernel_rfl) ?_
 refine WQ.thenN ?_
 refine WE.condF (by kernel_rfl) ?_
 refine WE.skip ?_
 refine WQ.thenN ?_
 refine WE.seq ?_
 refine WE.region ?_
 refine WO.run 4 0 [(19, .pointer (some ⟨k, 0, none⟩)), (18, .pointer (some ⟨k, 0, none⟩)), (17, .pointer (some ⟨k, 0, none⟩)), (16, .pointer (some ⟨k, 0, none⟩))] (by kernel_rfl) (by kernel_rfl) ?_
 refine WO.ld (SQ.S 4 (by kernel_rfl)) 20 (.slice A bl cap) (by kernel_rfl) (same (HP.at 0 (by kernel_rfl))) ?_
 refine WO.run 3 5 [(23, .pointer (some ⟨k, 1, none⟩)), (22, .pointer (some ⟨k, 0, none⟩)), (21, .int .i64 (bl : Int))] (by kernel_rfl) (by kernel_rfl) ?_
 refine WO.st (SQ.E 8 (by kernel_rfl)) k 1 [.int .i64 (bl : Int)] #[.slice A bl cap, .int .i64 (bl : Int)] (by kernel_rfl) HP (by kernel_rfl) (by kernel_rfl) (fun _ _ => trivial) ?_
 intro w3 HB5 F4 _
 have HB := Blk.keep HB F4 (ninC hgk (nin0 _))
 have HM := HM.keep F4 (ninC hmk (nin0 _))
 have HA := Fr.step HA F4 (inSL (by simp) inS0)
 refine WO.done (by kernel_rfl) ?_
 refine WQ.keep [0, 1, 4, 5, 6, 14] (e' := [(0, .pointer (some ⟨g, 0, none⟩)), (1, .int .i64 n), (4, .nilIface), (5, .pointer (some ⟨k, 0, none⟩)), (6, .nilIface), (14, .bool false)]) (by kernel_rfl) ?_
 refine WQ.thenN ?_
 refine WE.seq ?_
 refine WE.region ?_
 refine WO.run 1 0 [(4, .nilIface)] (by kernel_rfl) (by kernel_rfl) ?_
 refine WO.done (by kernel_rfl) ?_
 refine WQ.keep [0, 1, 4, 5, 6, 14] (e' := [(0, .pointer (some ⟨g, 0, none⟩)), (1, .int .i64 n), (4, .nilIface), (5, .pointer (some ⟨k, 0, none⟩)), (6, .nilIface), (14, .bool false)]) (by kernel_rfl) ?_
 refine WQ.thenN ?_
 refine WE.ret ?_
 refine WQ.ret (v := .nilIface) (by kernel_rfl) ?_
 exact ⟨rfl, HB5, HA⟩
set_option maxRecDepth 100000 in
set_option maxHeartbeats 400000 in
theorem cut_down (g m : Nat) (room : Int) (es : List (Int × Nat)) (n : Int) (w : World) (z : Int) (HB : Blk w g #[.int .i64 room, .map (some m), .bool true] 146) (HM : MapI Tryz.prog 3 w m es) (hgm : g ≠ m) (hj : -9223372036854775808 ≤ n ∧ n ≤ 9223372036854775807)  :
  Calls Tryz.prog 236 #[.pointer (some ⟨g, 0, none⟩), .int .i64 n, .int .i64 z] w fun e w' => e = .returned (.iface 88 (.int .i64 10)) ∧ Fr [] w w' := by
 have HA := Fr.refl [] w
 refine enter (N := 43) Tryz.func236 (c := _) rfl (by kernel_rfl) (by kernel_rfl) (e := [(0, .pointer (some ⟨g, 0, none⟩)), (1, .int .i64 n), (2, .int .i64 z)]) (by kernel_rfl) ?_
 refine WE.seq ?_
 refine WE.region ?_
 refine WO.run 1 0 [(6, .nilIface)] (by kernel_rfl) (by kernel_rfl) ?_
 refine WO.done (by kernel_rfl) ?_
 refine WQ.keep [0, 1, 2, 6] (e' := [(0, .pointer (some ⟨g, 0, none⟩)), (1, .int .i64 n), (2, .int .i64 z), (6, .nilIface)]) (by kernel_rfl) ?_
 refine WQ.thenN ?_
 refine WE.seq ?_
 refine WE.region ?_
 refine WO.run 2 0 [(11, .int .i64 n), (10, .pointer (some ⟨g, 0, none⟩))] (by kernel_rfl) (by kernel_rfl) ?_
 refine WO.call (SQ.E 2 (by kernel_rfl)) 12 (by kernel_rfl) (part_down g m room es n _ HB HM hgm hj) ?_
 rintro _ w1 ⟨rfl, F2⟩
 refine ⟨_, rfl, trivial, ?_⟩
 have HB := Blk.keep HB F2 (nin0 _)
 have HM := HM.keep F2 (nin0 _)
 have HA := Fr.step0 HA F2
 refine WO.run 5 3 [(8, .iface 88 (.int .i64 10)), (7, .pointer none), (14, .iface 88 (.int .i64 10)), (13, .pointer none), (9, .tuple #[.pointer none, .iface 88 (.int .i64 10)])] (by kernel_rfl) (by kernel_rfl) ?_
 refine WO.done (by kernel_rfl) ?_
 refine WQ.keep [0, 1, 2, 6, 7, 8] (e' := [(0, .pointer (some ⟨g, 0, none⟩)), (1, .int .i64 n), (2, .int .i64 z), (6, .nilIface), (7, .pointer none), (8, .iface 88 (.int .i64 10))]) (by kernel_rfl) ?_
 refine WQ.thenN ?_
 refine WE.seq ?_
 refine WE.seq ?_
 refine WE.region ?_
 refine WO.run 2 0 [(16, .bool true), (15, .iface 88 (.int .i64 10))] (by kernel_rfl) (by kernel_rfl) ?_
 refine WO.done (by kernel_rfl) ?_
 refine WQ.keep [0, 1, 2, 6, 7, 8, 16] (e' := [(0, .pointer (some ⟨g, 0, none⟩)), (1, .int .i64 n), (2, .int .i64 z), (6, .nilIface), (7, .pointer none), (8, .iface 88 (.int .i64 10)), (16, .bool true)]) (by kernel_rfl) ?_
 refine WQ.thenN ?_
 refine WE.condT (by kernel_rfl) ?_
 refine WE.seq ?_
 refine WE.region ?_
 refine WO.run 2 0 [(6, .iface 88 (.int .i64 10)), (17, .iface 88 (.int .i64 10))] (by kernel_rfl) (by kernel_rfl) ?_
 refine WO.done (by kernel_rfl) ?_
 refine WQ.keep [0, 1, 2, 6, 7, 8, 16] (e' := [(0, .pointer (some ⟨g, 0, none⟩)), (1, .int .i64 n), (2, .int .i64 z), (6, .iface 88 (.int .i64 10)), (7, .pointer none), (8, .iface 88 (.int .i64 10)), (16, .bool true)]) (by kernel_rfl) ?_
 refine WQ.thenN ?_
 refine WE.ret ?_
 refine WQ.thenR ?_
 refine WQ.ret (v := .iface 88 (.int .i64 10)) (by kernel_rfl) ?_
 exact ⟨rfl, HA⟩
set_option maxRecDepth 100000 in
set_option maxHeartbeats 400000 in
theorem cut_none (g m : Nat) (room : Int) (es : List (Int × Nat)) (n : Int) (w : World) (z : Int) (HB : Blk w g #[.int .i64 room, .map (some m), .bool false] 146) (HM : MapI Tryz.prog 3 w m es) (hgm : g ≠ m) (hj : -9223372036854775808 ≤ n ∧ n ≤ 9223372036854775807) (hno : es.any (fun e => decide (e.1 = n)) = false) (hv : lkV es n = .pointer none) :
  Calls Tryz.prog 236 #[.pointer (some ⟨g, 0, none⟩), .int .i64 n, .int .i64 z] w fun e w' => e = .returned (.iface 88 (.int .i64 4)) ∧ Fr [] w w' := by
 have HA := Fr.refl [] w
 refine enter (N := 43) Tryz.func236 (c := _) rfl (by kernel_rfl) (by kernel_rfl) (e := [(0, .pointer (some ⟨g, 0, none⟩)), (1, .int .i64 n), (2, .int .i64 z)]) (by kernel_rfl) ?_
 refine WE.seq ?_
 refine WE.region ?_
 refine WO.run 1 0 [(6, .nilIface)] (by kernel_rfl) (by kernel_rfl) ?_
 refine WO.done (by kernel_rfl) ?_
 refine WQ.keep [0, 1, 2, 6] (e' := [(0, .pointer (some ⟨g, 0, none⟩)), (1, .int .i64 n), (2, .int .i64 z), (6, .nilIface)]) (by kernel_rfl) ?_
 refine WQ.thenN ?_
 refine WE.seq ?_
 refine WE.region ?_
 refine WO.run 2 0 [(11, .int .i64 n), (10, .pointer (some ⟨g, 0, none⟩))] (by kernel_rfl) (by kernel_rfl) ?_
 refine WO.call (SQ.E 2 (by kernel_rfl)) 12 (by kernel_rfl) (part_none g m room es n _ HB HM hgm hj hno hv) ?_
 rintro _ w1 ⟨rfl, F2⟩
 refine ⟨_, rfl, trivial, ?_⟩
 have HB := Blk.keep HB F2 (nin0 _)
 have HM := HM.keep F2 (nin0 _)
 have HA := Fr.step0 HA F2
 refine WO.run 5 3 [(8, .iface 88 (.int .i64 4)), (7, .pointer none), (14, .iface 88 (.int .i64 4)), (13, .pointer none), (9, .tuple #[.pointer none, .iface 88 (.int .i64 4)])] (by kernel_rfl) (by kernel_rfl) ?_
 refine WO.done (by kernel_rfl) ?_
 refine WQ.keep [0, 1, 2, 6, 7, 8] (e' := [(0, .pointer (some ⟨g, 0, none⟩)), (1, .int .i64 n), (2, .int .i64 z), (6, .nilIface), (7, .pointer none), (8, .iface 88 (.int .i64 4))]) (by kernel_rfl) ?_
 refine WQ.thenN ?_
 refine WE.seq ?_
 refine WE.seq ?_
 refine WE.region ?_
 refine WO.run 2 0 [(16, .bool true), (15, .iface 88 (.int .i64 4))] (by kernel_rfl) (by kernel_rfl) ?_
 refine WO.done (by kernel_rfl) ?_
 refine WQ.keep [0, 1, 2, 6, 7, 8, 16] (e' := [(0, .pointer (some ⟨g, 0, none⟩)), (1, .int .i64 n), (2, .int .i64 z), (6, .nilIface), (7, .pointer none), (8, .iface 88 (.int .i64 4)), (16, .bool true)]) (by kernel_rfl) ?_
 refine WQ.thenN ?_
 refine WE.condT (by kernel_rfl) ?_
 refine WE.seq ?_
 refine WE.region ?_
 refine WO.run 2 0 [(6, .iface 88 (.int .i64 4)), (17, .iface 88 (.int .i64 4))] (by kernel_rfl) (by kernel_rfl) ?_
 refine WO.done (by kernel_rfl) ?_
 refine WQ.keep [0, 1, 2, 6, 7, 8, 16] (e' := [(0, .pointer (some ⟨g, 0, none⟩)), (1, .int .i64 n), (2, .int .i64 z), (6, .iface 88 (.int .i64 4)), (7, .pointer none), (8, .iface 88 (.int .i64 4)), (16, .bool true)]) (by kernel_rfl) ?_
 refine WQ.thenN ?_
 refine WE.ret ?_
 refine WQ.thenR ?_
 refine WQ.ret (v := .iface 88 (.int .i64 4)) (by kernel_rfl) ?_
 exact ⟨rfl, HA⟩
set_option maxRecDepth 100000 in
set_option maxHeartbeats 400000 in
theorem cut_bad (g m : Nat) (room : Int) (es : List (Int × Nat)) (n : Int) (w : World) (A : Option Addr) (bl cap s : Nat) (z : Int) (HB : Blk w g #[.int .i64 room, .map (some m), .bool false] 146) (HM : MapI Tryz.prog 3 w m es) (hgm : g ≠ m) (hj : -9223372036854775808 ≤ n ∧ n ≤ 9223372036854775807) (k : Nat) (hv : lkV es n = .pointer (some ⟨k, 0, none⟩)) (hhas : es.any (fun e => decide (e.1 = n)) = true) (HP : Blk w k #[.slice A bl cap, .int .i64 (s : Int)] 193) (hgk : g ≠ k) (hmk : m ≠ k) (hz : z < 0 ∨ (bl : Int) < z) :
  Calls Tryz.prog 236 #[.pointer (some ⟨g, 0, none⟩), .int .i64 n, .int .i64 z] w fun e w' => e = .returned (.iface 88 (.int .i64 1)) ∧ Fr [] w w' := by
 have HA := Fr.refl [] w
 refine enter (N := 43) Tryz.func236 (c := _) rfl (by kernel_rfl) (by kernel_rfl) (e := [(0, .pointer (some ⟨g, 0, none⟩)), (1, .int .i64 n), (2, .int .i64 z)]) (by kernel_rfl) ?_
 refine WE.seq ?_
 refine WE.region ?_
 refine WO.run 1 0 [(6, .nilIface)] (by kernel_rfl) (by kernel_rfl) ?_
 refine WO.done (by kernel_rfl) ?_
 refine WQ.keep [0, 1, 2, 6] (e' := [(0, .pointer (some ⟨g, 0, none⟩)), (1, .int .i64 n), (2, .int .i64 z), (6, .nilIface)]) (by kernel_rfl) ?_
 refine WQ.thenN ?_
 refine WE.seq ?_
 refine WE.region ?_
 refine WO.run 2 0 [(11, .int .i64 n), (10, .pointer (some ⟨g, 0, none⟩))] (by kernel_rfl) (by kernel_rfl) ?_
 refine WO.call (SQ.E 2 (by kernel_rfl)) 12 (by kernel_rfl) (part_some g m room es n _ HB HM hgm hj k hv hhas) ?_
 rintro _ w1 ⟨rfl, F2⟩
 refine ⟨_, rfl, trivial, ?_⟩
 have HB := Blk.keep HB F2 (nin0 _)
 have HP := Blk.keep HP F2 (nin0 _)
 have HM := HM.keep F2 (nin0 _)
 have HA := Fr.step0 HA F2
 refine WO.run 5 3 [(8, .nilIface), (7, .pointer (some ⟨k, 0, none⟩)), (14, .nilIface), (13, .pointer (some ⟨k, 0, none⟩)), (9, .tuple #[.pointer (some ⟨k, 0, none⟩), .nilIface])] (by kernel_rfl) (by kernel_rfl) ?_
 refine WO.done (by kernel_rfl) ?_
 refine WQ.keep [0, 1, 2, 6, 7, 8] (e' := [(0, .pointer (some ⟨g, 0, none⟩)), (1, .int .i64 n), (2, .int .i64 z), (6, .nilIface), (7, .pointer (some ⟨k, 0, none⟩)), (8, .nilIface)]) (by kernel_rfl) ?_
 refine WQ.thenN ?_
 refine WE.seq ?_
 refine WE.seq ?_
 refine WE.region ?_
 refine WO.run 2 0 [(16, .bool false), (15, .nilIface)] (by kernel_rfl) (by kernel_rfl) ?_
 refine WO.done (by kernel_rfl) ?_
 refine WQ.keep [0, 1, 2, 6, 7, 8, 16] (e' := [(0, .pointer (some ⟨g, 0, none⟩)), (1, .int .i64 n), (2, .int .i64 z), (6, .nilIface), (7, .pointer (some ⟨k, 0, none⟩)), (8, .nilIface), (16, .bool false)]) (by kernel_rfl) ?_
 refine WQ.thenN ?_
 refine WE.condF (by kernel_rfl) ?_
 refine WE.skip ?_
 refine WQ.thenN ?_
 refine WE.seq ?_
 refine WE.seq ?_
 refine WE.region ?_
 refine WO.run 1 0 [(18, .int .i64 z)] (by kernel_rfl) (by kernel_rfl) ?_
 refine WO.one (SQ.F 1 (by kernel_rfl)) 19 (.bool (decide ((z : Int) < 0))) (by kernel_rfl) ?_
 refine WO.topP ((z : Int) < 0) ?_ ?_
 ·
  intro h3
  refine WO.run 9 2 [(28, .bool true), (27, undef), (26, undef), (25, undef), (24, undef), (23, undef), (22, undef), (21, undef), (20, .bool true)] (by kernel_rfl) (by kernel_rfl) ?_
  refine WO.done (by kernel_rfl) ?_
  refine WQ.keep [0, 1, 2, 6, 7, 8, 16, 28] (e' := [(0, .pointer (some ⟨g, 0, none⟩)), (1, .int .i64 n), (2, .int .i64 z), (6, .nilIface), (7, .pointer (some ⟨k, 0, none⟩)), (8, .nilIface), (16, .bool false), (28, .bool true)]) (by kernel_rfl) ?_
  refine WQ.thenN ?_
  refine WE.condT (by kernel_rfl) ?_
  refine WE.seq ?_
  refine WE.region ?_
  refine WO.run 2 0 [(6, .iface 88 (.int .i64 1)), (29, .iface 88 (.int .i64 1))] (by kernel_rfl) (by kernel_rfl) ?_
  refine WO.done (by kernel_rfl) ?_
  refine WQ.keep [0, 1, 2, 6, 7, 8, 16, 28] (e' := [(0, .pointer (some ⟨g, 0, none⟩)), (1, .int .i64 n), (2, .int .i64 z), (6, .iface 88 (.int .i64 1)), (7, .pointer (some ⟨k, 0, none⟩)), (8, .nilIface), (16, .bool false), (28, .bool true)]) (by kernel_rfl) ?_
  refine WQ.thenN ?_
  refine WE.ret ?_
  refine WQ.thenR ?_
  refine WQ.ret (v := .iface 88 (.int .i64 1)) (by kernel_rfl) ?_
  exact ⟨rfl, HA⟩
 intro h3
 refine WO.run 5 2 [(24, .pointer (some ⟨k, 0, none⟩)), (23, .pointer (some ⟨k, 0, none⟩)), (22, .pointer (some ⟨k, 0, none⟩)), (21, .int .i64 z), (20, .bool false)] (by kernel_rfl) (by kernel_rfl) ?_
 refine WO.ld (SQ.S 7 (by kernel_rfl)) 25 (.slice A bl cap) (by kernel_rfl) (same (HP.at 0 (by kernel_rfl))) ?_
 refine WO.run 1 8 [(26, .int .i64 (bl : Int))] (by kernel_rfl) (by kernel_rfl) ?_
 refine WO.one (SQ.F 9 (by kernel_rfl)) 27 (.bool (decide ((z : Int) > (bl : Int)))) (by kernel_rfl) ?_
 refine WO.topPT ((z : Int) > (bl : Int)) (by omega) ?_
 refine WO.run 1 10 [(28, .bool true)] (by kernel_rfl) (by kernel_rfl) ?_
 refine WO.done (by kernel_rfl) ?_
 refine WQ.keep [0, 1, 2, 6, 7, 8, 16, 28] (e' := [(0, .pointer (some ⟨g, 0, none⟩)), (1, .int .i64 n), (2, .int .i64 z), (6, .nilIface), (7, .pointer (some ⟨k, 0, none⟩)), (8, .nilIface), (16, .bool false), (28, .bool true)]) (by kernel_rfl) ?_
 refine WQ.thenN ?_
 refine WE.condT (by kernel_rfl) ?_
 refine WE.seq ?_
 refine WE.region ?_
 refine WO.run 2 0 [(6, .iface 88 (.int .i64 1)), (29, .iface 88 (.int .i64 1))] (by kernel_rfl) (by kernel_rfl) ?_
 refine WO.done (by kernel_rfl) ?_
 refine WQ.keep [0, 1, 2, 6, 7, 8, 16, 28] (e' := [(0, .pointer (some ⟨g, 0, none⟩)), (1, .int .i64 n), (2, .int .i64 z), (6, .iface 88 (.int .i64 1)), (7, .pointer (some ⟨k, 0, none⟩)), (8, .nilIface), (16, .bool false), (28, .bool true)]) (by kernel_rfl) ?_
 refine WQ.thenN ?_
 refine WE.ret ?_
 refine WQ.thenR ?_
 refine WQ.ret (v := .iface 88 (.int .i64 1)) (by kernel_rfl) ?_
 exact ⟨rfl, HA⟩
set_option maxRecDepth 100000 in
set_option maxHeartbeats 400000 in
theorem cut_some (g m : Nat) (room : Int) (es : List (Int × Nat)) (n : Int) (w : World) (A : Option Addr) (bl cap s : Nat) (z : Nat) (HB : Blk w g #[.int .i64 room, .map (some m), .bool false] 146) (HM : MapI Tryz.prog 3 w m es) (hgm : g ≠ m) (hj : -9223372036854775808 ≤ n ∧ n ≤ 9223372036854775807) (k : Nat) (hv : lkV es n = .pointer (some ⟨k, 0, none⟩)) (hhas : es.any (fun e => decide (e.1 = n)) = true) (HP : Blk w k #[.slice A bl cap, .int .i64 (s : Int)] 193) (hgk : g ≠ k) (hmk : m ≠ k) (hz : z ≤ bl) (hcap : bl ≤ cap) (hb : bl ≤ 1000000) :
  Calls Tryz.prog 236 #[.pointer (some ⟨g, 0, none⟩), .int .i64 n, .int .i64 (z : Int)] w fun e w' => e = .returned .nilIface ∧ Blk w' k #[.slice A z cap, .int .i64 (z : Int)] 193 ∧ Fr [k] w w' := by
 have HA := Fr.refl [k] w
 refine enter (N := 43) Tryz.func236 (c := _) rfl (by kernel_rfl) (by kernel_rfl) (e := [(0, .pointer (some ⟨g, 0, none⟩)), (1, .int .i64 n), (2, .int .i64 (z : Int))]) (by kernel_rfl) ?_
 refine WE.seq ?_
 refine WE.region ?_
 refine WO.run 1 0 [(6, .nilIface)] (by kernel_rfl) (by kernel_rfl) ?_
 refine WO.done (by kernel_rfl) ?_
 refine WQ.keep [0, 1, 2, 6] (e' := [(0, .pointer (some ⟨g, 0, none⟩)), (1, .int .i64 n), (2, .int .i64 (z : Int)), (6, .nilIface)]) (by kernel_rfl) ?_
 refine WQ.thenN ?_
 refine WE.seq ?_
 refine WE.region ?_
 refine WO.run 2 0 [(11, .int .i64 n), (10, .pointer (some ⟨g, 0, none⟩))] (by kernel_rfl) (by kernel_rfl) ?_
 refine WO.call (SQ.E 2 (by kernel_rfl)) 12 (by kernel_rfl) (part_some g m room es n _ HB HM hgm hj k hv hhas) ?_
 rintro _ w1 ⟨rfl, F2⟩
 refine ⟨_, rfl, trivial, ?_⟩
 have HB := Blk.keep HB F2 (nin0 _)
 have HP := Blk.keep HP F2 (nin0 _)
 have HM := HM.keep F2 (nin0 _)
 have HA := Fr.step0 HA F2
 refine WO.run 5 3 [(8, .nilIface), (7, .pointer (some ⟨k, 0, none⟩)), (14, .nilIface), (13, .pointer (some ⟨k, 0, none⟩)), (9, .tuple #[.pointer (some ⟨k, 0, none⟩), .nilIface])] (by kernel_rfl) (by kernel_rfl) ?_
 refine WO.done (by kernel_rfl) ?_
 refine WQ.keep [0, 1, 2, 6, 7, 8] (e' := [(0, .pointer (some ⟨g, 0, none⟩)), (1, .int .i64 n), (2, .int .i64 (z : Int)), (6, .nilIface), (7, .pointer (some ⟨k, 0, none⟩)), (8, .nilIface)]) (by kernel_rfl) ?_
 refine WQ.thenN ?_
 refine WE.seq ?_
 refine WE.seq ?_
 refine WE.region ?_
 refine WO.run 2 0 [(16, .bool false), (15, .nilIface)] (by kernel_rfl) (by kernel_rfl) ?_
 refine WO.done (by kernel_rfl) ?_
 refine WQ.keep [0, 1, 2, 6, 7, 8, 16] (e' := [(0, .pointer (some ⟨g, 0, none⟩)), (1, .int .i64 n), (2, .int .i64 (z : Int)), (6, .nilIface), (7, .pointer (some ⟨k, 0, none⟩)), (8, .nilIface), (16, .bool false)]) (by kernel_rfl) ?_
 refine WQ.thenN ?_
 refine WE.condF (by kernel_rfl) ?_
 refine WE.skip ?_
 refine WQ.thenN ?_
 refine WE.seq ?_
 refine WE.seq ?_
 refine WE.region ?_
 refine WO.run 1 0 [(18, .int .i64 (z : Int))] (by kernel_rfl) (by kernel_rfl) ?_
 refine WO.one (SQ.F 1 (by kernel_rfl)) 19 (.bool (decide (((z : Int) : Int) < (0 : Int)))) (by kernel_rfl) ?_
 refine WO.topPF (((z : Int) : Int) < (0 : Int)) (by omega) ?_
 refine WO.run 5 2 [(24, .pointer (some ⟨k, 0, none⟩)), (23, .pointer (some ⟨k, 0, none⟩)), (22, .pointer (some ⟨k, 0, none⟩)), (21, .int .i64 (z : Int)), (20, .bool false)] (by kernel_rfl) (by kernel_rfl) ?_
 refine WO.ld (SQ.S 7 (by kernel_rfl)) 25 (.slice A bl cap) (by kernel_rfl) (same (HP.at 0 (by kernel_rfl))) ?_
 refine WO.run 1 8 [(26, .int .i64 (bl : Int))] (by kernel_rfl) (by kernel_rfl) ?_
 refine WO.one (SQ.F 9 (by kernel_rfl)) 27 (.bool (decide (((z : Int) : Int) > (bl : Int)))) (by kernel_rfl) ?_
 refine WO.topPF (((z : Int) : Int) > (bl : Int)) (by omega) ?_
 refine WO.run 1 10 [(28, .bool false)] (by kernel_rfl) (by kernel_rfl) ?_
 refine WO.done (by kernel_rfl) ?_
 refine WQ.keep [0, 1, 2, 6, 7, 8, 16, 28] (e' := [(0, .pointer (some ⟨g, 0, none⟩)), (1, .int .i64 n), (2, .int .i64 (z : Int)), (6, .nilIface), (7, .pointer (some ⟨k, 0, none⟩)), (8, .nilIface), (16, .bool false), (28, .bool false)]) (by kernel_rfl) ?_
 refine WQ.thenN ?_
 refine WE.condF (by kernel_rfl) ?_
 refine WE.skip ?_
 refine WQ.thenN ?_
 refine WE.seq ?_
 refine WE.region ?_
 refine WO.run 5 0 [(34, .pointer (some ⟨k, 0, none⟩)), (33, .pointer (some ⟨k, 0, none⟩)), (32, .pointer (some ⟨k, 0, none⟩)), (31, .pointer (some ⟨k, 0, none⟩)), (30, .pointer (some ⟨k, 0, none⟩))] (by kernel_rfl) (by kernel_rfl) ?_
 refine WO.ld (SQ.S 5 (by kernel_rfl)) 35 (.slice A bl cap) (by kernel_rfl) (same (HP.at 0 (by kernel_rfl))) ?_
 refine WO.run 1 6 [(36, .int .i64 (z : Int))] (by kernel_rfl) (by kernel_rfl) ?_
 refine WO.sl (SQ.F 7 (by kernel_rfl)) 37 0 z A bl cap 1 none (some (z : Int)) (by kernel_rfl) (by rfl) (by simp only [Option.getD_some] <;> omega) (by omega) (by omega) ?_
 refine WO.top (sl0 _ _ _ _) ?_
 refine WO.run 3 8 [(40, .pointer (some ⟨k, 0, none⟩)), (39, .pointer (some ⟨k, 0, none⟩)), (38, .int .i64 (z : Int))] (by kernel_rfl) (by kernel_rfl) ?_
 refine WO.st (SQ.E 11 (by kernel_rfl)) k 0 [.slice A z cap] #[.slice A z cap, .int .i64 (s : Int)] (by kernel_rfl) HP (by kernel_rfl) (by kernel_rfl) (fun _ _ => trivial) ?_
 intro w3 HB5 F4 _
 have HB := Blk.keep HB F4 (ninC hgk (nin0 _))
 have HM := HM.keep F4 (ninC hmk (nin0 _))
 have HA := Fr.step HA F4 (inSL (by simp) inS0)
 refine WO.run 2 12 [(42, .pointer (some ⟨k, 1, none⟩)), (41, .pointer (some ⟨k, 0, none⟩))] (by kernel_rfl) (by kernel_rfl) ?_
 refine WO.st (SQ.E 14 (by kernel_rfl)) k 1 [.int .i64 (z : Int)] #[.slice A z cap, .int .i64 (z : Int)] (by kernel_rfl) HB5 (by kernel_rfl) (by kernel_rfl) (fun _ _ => trivial) ?_
 intro w6 HB8 F7 _
 have HB := Blk.keep HB F7 (ninC hgk (nin0 _))
 have HM := HM.keep F7 (ninC hmk (nin0 _))
 have HA := Fr.step HA F7 (inSL (by simp) inS0)
 refine WO.done (by kernel_rfl) ?_
 refine WQ.keep [0, 1, 2, 6, 7, 8, 16, 28] (e' := [(0, .pointer (some ⟨g, 0, none⟩)), (1, .int .i64 n), (2, .int .i64 (z : Int)), (6, .nilIface), (7, .pointer (some ⟨k, 0, none⟩)), (8, .nilIface), (16, .bool false), (28, .bool false)]) (by kernel_rfl) ?_
 refine WQ.thenN ?_
 refine WE.seq ?_
 refine WE.region ?_
 refine WO.run 1 0 [(6, .nilIface)] (by kernel_rfl) (by kernel_rfl) ?_
 refine WO.done (by kernel_rfl) ?_
 refine WQ.keep [0, 1, 2, 6, 7, 8, 16, 28] (e' := [(0, .pointer (some ⟨g, 0, none⟩)), (1, .int .i64 n), (2, .int .i64 (z : Int)), (6, .nilIface), (7, .pointer (some ⟨k, 0, none⟩)), (8, .nilIface), (16, .bool false), (28, .bool false)]) (by kernel_rfl) ?_
 refine WQ.thenN ?_
 refine WE.ret ?_
 refine WQ.ret (v := .nilIface) (by kernel_rfl) ?_
 exact ⟨rfl, HB8, HA⟩
set_option maxRecDepth 100000 in
set_option maxHeartbeats 400000 in
theorem remove_down (g m : Nat) (room : Int) (es : List (Int × Nat)) (n : Int) (w : World) (HB : Blk w g #[.int .i64 room, .map (some m), .bool true] 146) (HM : MapI Tryz.prog 3 w m es) (hgm : g ≠ m) (hj : -9223372036854775808 ≤ n ∧ n ≤ 9223372036854775807)  :
  Calls Tryz.prog 197 #[.pointer (some ⟨g, 0, none⟩), .int .i64 n] w fun e w' => e = .returned (.iface 88 (.int .i64 10)) ∧ Fr [] w w' := by
 have HA := Fr.refl [] w
 refine enter (N := 21) Tryz.func197 (c := _) rfl (by kernel_rfl) (by kernel_rfl) (e := [(0, .pointer (some ⟨g, 0, none⟩)), (1, .int .i64 n)]) (by kernel_rfl) ?_
 refine WE.seq ?_
 refine WE.region ?_
 refine WO.run 1 0 [(4, .nilIface)] (by kernel_rfl) (by kernel_rfl) ?_
 refine WO.done (by kernel_rfl) ?_
 refine WQ.keep [0, 1, 4] (e' := [(0, .pointer (some ⟨g, 0, none⟩)), (1, .int .i64 n), (4, .nilIface)]) (by kernel_rfl) ?_
 refine WQ.thenN ?_
 refine WE.seq ?_
 refine WE.seq ?_
 refine WE.region ?_
 refine WO.run 2 0 [(9, .int .i64 n), (8, .pointer (some ⟨g, 0, none⟩))] (by kernel_rfl) (by kernel_rfl) ?_
 refine WO.call (SQ.E 2 (by kernel_rfl)) 10 (by kernel_rfl) (part_down g m room es n _ HB HM hgm hj) ?_
 rintro _ w1 ⟨rfl, F2⟩
 refine ⟨_, rfl, trivial, ?_⟩
 have HB := Blk.keep HB F2 (nin0 _)
 have HM := HM.keep F2 (nin0 _)
 have HA := Fr.step0 HA F2
 refine WO.run 5 3 [(6, .iface 88 (.int .i64 10)), (5, .pointer none), (12, .iface 88 (.int .i64 10)), (11, .pointer none), (7, .tuple #[.pointer none, .iface 88 (.int .i64 10)])] (by kernel_rfl) (by kernel_rfl) ?_
 refine WO.done (by kernel_rfl) ?_
 refine WQ.keep [0, 1, 4, 6] (e' := [(0, .pointer (some ⟨g, 0, none⟩)), (1, .int .i64 n), (4, .nilIface), (6, .iface 88 (.int .i64 10))]) (by kernel_rfl) ?_
 refine WQ.thenN ?_
 refine WE.seq ?_
 refine WE.region ?_
 refine WO.run 2 0 [(14, .bool true), (13, .iface 88 (.int .i64 10))] (by kernel_rfl) (by kernel_rfl) ?_
 refine WO.done (by kernel_rfl) ?_
 refine WQ.keep [0, 1, 4, 6, 14] (e' := [(0, .pointer (some ⟨g, 0, none⟩)), (1, .int .i64 n), (4, .nilIface), (6, .iface 88 (.int .i64 10)), (14, .bool true)]) (by kernel_rfl) ?_
 refine WQ.thenN ?_
 refine WE.condT (by kernel_rfl) ?_
 refine WE.seq ?_
 refine WE.region ?_
 refine WO.run 2 0 [(4, .iface 88 (.int .i64 10)), (15, .iface 88 (.int .i64 10))] (by kernel_rfl) (by kernel_rfl) ?_
 refine WO.done (by kernel_rfl) ?_
 refine WQ.keep [0, 1, 4, 6, 14] (e' := [(0, .pointer (some ⟨g, 0, none⟩)), (1, .int .i64 n), (4, .iface 88 (.int .i64 10)), (6, .iface 88 (.int .i64 10)), (14, .bool true)]) (by kernel_rfl) ?_
 refine WQ.thenN ?_
 refine WE.ret ?_
 refine WQ.thenR ?_
 refine WQ.ret (v := .iface 88 (.int .i64 10)) (by kernel_rfl) ?_
 exact ⟨rfl, HA⟩
set_option maxRecDepth 100000 in
set_option maxHeartbeats 400000 in
theorem remove_none (g m : Nat) (room : Int) (es : List (Int × Nat)) (n : Int) (w : World) (HB : Blk w g #[.int .i64 room, .map (some m), .bool false] 146) (HM : MapI Tryz.prog 3 w m es) (hgm : g ≠ m) (hj : -9223372036854775808 ≤ n ∧ n ≤ 9223372036854775807) (hno : es.any (fun e => decide (e.1 = n)) = false) (hv : lkV es n = .pointer none) :
  Calls Tryz.prog 197 #[.pointer (some ⟨g, 0, none⟩), .int .i64 n] w fun e w' => e = .returned (.iface 88 (.int .i64 4)) ∧ Fr [] w w' := by
 have HA := Fr.refl [] w
 refine enter (N := 21) Tryz.func197 (c := _) rfl (by kernel_rfl) (by kernel_rfl) (e := [(0, .pointer (some ⟨g, 0, none⟩)), (1, .int .i64 n)]) (by kernel_rfl) ?_
 refine WE.seq ?_
 refine WE.region ?_
 refine WO.run 1 0 [(4, .nilIface)] (by kernel_rfl) (by kernel_rfl) ?_
 refine WO.done (by kernel_rfl) ?_
 refine WQ.keep [0, 1, 4] (e' := [(0, .pointer (some ⟨g, 0, none⟩)), (1, .int .i64 n), (4, .nilIface)]) (by kernel_rfl) ?_
 refine WQ.thenN ?_
 refine WE.seq ?_
 refine WE.seq ?_
 refine WE.region ?_
 refine WO.run 2 0 [(9, .int .i64 n), (8, .pointer (some ⟨g, 0, none⟩))] (by kernel_rfl) (by kernel_rfl) ?_
 refine WO.call (SQ.E 2 (by kernel_rfl)) 10 (by kernel_rfl) (part_none g m room es n _ HB HM hgm hj hno hv) ?_
 rintro _ w1 ⟨rfl, F2⟩
 refine ⟨_, rfl, trivial, ?_⟩
 have HB := Blk.keep HB F2 (nin0 _)
 have HM := HM.keep F2 (nin0 _)
 have HA := Fr.step0 HA F2
 refine WO.run 5 3 [(6, .iface 88 (.int .i64 4)), (5, .pointer none), (12, .iface 88 (.int .i64 4)), (11, .pointer none), (7, .tuple #[.pointer none, .iface 88 (.int .i64 4)])] (by kernel_rfl) (by kernel_rfl) ?_
 refine WO.done (by kernel_rfl) ?_
 refine WQ.keep [0, 1, 4, 6] (e' := [(0, .pointer (some ⟨g, 0, none⟩)), (1, .int .i64 n), (4, .nilIface), (6, .iface 88 (.int .i64 4))]) (by kernel_rfl) ?_
 refine WQ.thenN ?_
 refine WE.seq ?_
 refine WE.region ?_
 refine WO.run 2 0 [(14, .bool true), (13, .iface 88 (.int .i64 4))] (by kernel_rfl) (by kernel_rfl) ?_
 refine WO.done (by kernel_rfl) ?_
 refine WQ.keep [0, 1, 4, 6, 14] (e' := [(0, .pointer (some ⟨g, 0, none⟩)), (1, .int .i64 n), (4, .nilIface), (6, .iface 88 (.int .i64 4)), (14, .bool true)]) (by kernel_rfl) ?_
 refine WQ.thenN ?_
 refine WE.condT (by kernel_rfl) ?_
 refine WE.seq ?_
 refine WE.region ?_
 refine WO.run 2 0 [(4, .iface 88 (.int .i64 4)), (15, .iface 88 (.int .i64 4))] (by kernel_rfl) (by kernel_rfl) ?_
 refine WO.done (by kernel_rfl) ?_
 refine WQ.keep [0, 1, 4, 6, 14] (e' := [(0, .pointer (some ⟨g, 0, none⟩)), (1, .int .i64 n), (4, .iface 88 (.int .i64 4)), (6, .iface 88 (.int .i64 4)), (14, .bool true)]) (by kernel_rfl) ?_
 refine WQ.thenN ?_
 refine WE.ret ?_
 refine WQ.thenR ?_
 refine WQ.ret (v := .iface 88 (.int .i64 4)) (by kernel_rfl) ?_
 exact ⟨rfl, HA⟩
set_option maxRecDepth 100000 in
set_option maxHeartbeats 400000 in
theorem remove_some (g m : Nat) (room : Int) (es : List (Int × Nat)) (n : Int) (w : World) (HB : Blk w g #[.int .i64 room, .map (some m), .bool false] 146) (HM : MapI Tryz.prog 3 w m es) (hgm : g ≠ m) (hj : -9223372036854775808 ≤ n ∧ n ≤ 9223372036854775807) (k : Nat) (hv : lkV es n = .pointer (some ⟨k, 0, none⟩)) (hhas : es.any (fun e => decide (e.1 = n)) = true) :
  Calls Tryz.prog 197 #[.pointer (some ⟨g, 0, none⟩), .int .i64 n] w fun e w' => e = .returned .nilIface ∧ MapI Tryz.prog 3 w' m (es.filter fun e => !decide (e.1 = n)) ∧ Fr [m] w w' := by
 have HA := Fr.refl [m] w
 refine enter (N := 21) Tryz.func197 (c := _) rfl (by kernel_rfl) (by kernel_rfl) (e := [(0, .pointer (some ⟨g, 0, none⟩)), (1, .int .i64 n)]) (by kernel_rfl) ?_
 refine WE.seq ?_
 refine WE.region ?_
 refine WO.run 1 0 [(4, .nilIface)] (by kernel_rfl) (by kernel_rfl) ?_
 refine WO.done (by kernel_rfl) ?_
 refine WQ.keep [0, 1, 4] (e' := [(0, .pointer (some ⟨g, 0, none⟩)), (1, .int .i64 n), (4, .nilIface)]) (by kernel_rfl) ?_
 refine WQ.thenN ?_
 refine WE.seq ?_
 refine WE.seq ?_
 refine WE.region ?_
 refine WO.run 2 0 [(9, .int .i64 n), (8, .pointer (some ⟨g, 0, none⟩))] (by kernel_rfl) (by kernel_rfl) ?_
 refine WO.call (SQ.E 2 (by kernel_rfl)) 10 (by kernel_rfl) (part_some g m room es n _ HB HM hgm hj k hv hhas) ?_
 rintro _ w1 ⟨rfl, F2⟩
 refine ⟨_, rfl, trivial, ?_⟩
 have HB := Blk.keep HB F2 (nin0 _)
 have HM := HM.keep F2 (nin0 _)
 have HA := Fr.step0 HA F2
 refine WO.run 5 3 [(6, .nilIface), (5, .pointer (some ⟨k, 0, none⟩)), (12, .nilIface), (11, .pointer (some ⟨k, 0, none⟩)), (7, .tuple #[.pointer (some ⟨k, 0, none⟩), .nilIface])] (by kernel_rfl) (by kernel_rfl) ?_
 refine WO.done (by kernel_rfl) ?_
 refine WQ.keep [0, 1, 4, 6] (e' := [(0, .pointer (some ⟨g, 0, none⟩)), (1, .int .i64 n), (4, .nilIface), (6, .nilIface)]) (by kernel_rfl) ?_
 refine WQ.thenN ?_
 refine WE.seq ?_
 refine WE.region ?_
 refine WO.run 2 0 [(14, .bool false), (13, .nilIface)] (by kernel_rfl) (by kernel_rfl) ?_
 refine WO.done (by kernel_rfl) ?_
 refine WQ.keep [0, 1, 4, 6, 14] (e' := [(0, .pointer (some ⟨g, 0, none⟩)), (1, .int .i64 n), (4, .nilIface), (6, .nilIface), (14, .bool false)]) (by kernel_rfl) ?_
 refine WQ.thenN ?_
 refine WE.condF (by kernel_rfl) ?_
 refine WE.skip ?_
 refine WQ.thenN ?_
 refine WE.seq ?_
 refine WE.region ?_
 refine WO.run 3 0 [(18, .pointer (some ⟨g, 1, none⟩)), (17, .pointer (some ⟨g, 0, none⟩)), (16, .pointer (some ⟨g, 0, none⟩))] (by kernel_rfl) (by kernel_rfl) ?_
 refine WO.ld (SQ.S 3 (by kernel_rfl)) 19 (.map (some m)) (by kernel_rfl) (same (HB.at 1 (by kernel_rfl))) ?_
 refine WO.run 1 4 [(20, .int .i64 n)] (by kernel_rfl) (by kernel_rfl) ?_
 refine WO.dl (dd := none) (SQ.E 5 (by kernel_rfl)) mt (j := n) (by kernel_rfl) HM hj (fun _ _ => trivial) ?_
 intro w3 HM5 F4
 have HB := Blk.keep HB F4 (ninC hgm (nin0 _))
 have HA := Fr.step HA F4 (inSL (by simp) inS0)
 refine WO.done (by kernel_rfl) ?_
 refine WQ.keep [0, 1, 4, 6, 14] (e' := [(0, .pointer (some ⟨g, 0, none⟩)), (1, .int .i64 n), (4, .nilIface), (6, .nilIface), (14, .bool false)]) (by kernel_rfl) ?_
 refine WQ.thenN ?_
 refine WE.seq ?_
 refine WE.region ?_
 refine WO.run 1 0 [(4, .nilIface)] (by kernel_rfl) (by kernel_rfl) ?_
 refine WO.done (by kernel_rfl) ?_
 refine WQ.keep [0, 1, 4, 6, 14] (e' := [(0, .pointer (some ⟨g, 0, none⟩)), (1, .int .i64 n), (4, .nilIface), (6, .nilIface), (14, .bool false)]) (by kernel_rfl) ?_
 refine WQ.thenN ?_
 refine WE.ret ?_
 refine WQ.ret (v := .nilIface) (by kernel_rfl) ?_
 exact ⟨rfl, HM5, HA⟩
set_option maxRecDepth 100000 in
set_option maxHeartbeats 400000 in
theorem clone_nil (w : World) :
  Calls Tryz.prog 191 #[.slice none 0 0] w fun e w' => e = .returned (.slice none 0 0) ∧ Fr [] w w' := by
 have HA := Fr.refl [] w
 refine enter (N := 8) Tryz.func191 (c := _) rfl (by kernel_rfl) (by kernel_rfl) (e := [(0, .slice none 0 0)]) (by kernel_rfl) ?_
 refine WE.seq ?_
 refine WE.region ?_
 refine WO.run 1 0 [(2, .slice none 0 0)] (by kernel_rfl) (by kernel_rfl) ?_
 refine WO.done (by kernel_rfl) ?_
 refine WQ.keep [0, 2] (e' := [(0, .slice none 0 0), (2, .slice none 0 0)]) (by kernel_rfl) ?_
 refine WQ.thenN ?_
 refine WE.seq ?_
 refine WE.seq ?_
 refine WE.region ?_
 refine WO.run 2 0 [(4, .bool true), (3, .slice none 0 0)] (by kernel_rfl) (by kernel_rfl) ?_
 refine WO.done (by kernel_rfl) ?_
 refine WQ.keep [0, 2, 4] (e' := [(0, .slice none 0 0), (2, .slice none 0 0), (4, .bool true)]) (by kernel_rfl) ?_
 refine WQ.thenN ?_
 refine WE.condT (by kernel_rfl) ?_
 refine WE.seq ?_
 refine WE.region ?_
 refine WO.run 1 0 [(2, .slice none 0 0)] (by kernel_rfl) (by kernel_rfl) ?_
 refine WO.done (by kernel_rfl) ?_
 refine WQ.keep [0, 2, 4] (e' := [(0, .slice none 0 0), (2, .slice none 0 0), (4, .bool true)]) (by kernel_rfl) ?_
 refine WQ.thenN ?_
 refine WE.ret ?_
 refine WQ.thenR ?_
 refine WQ.ret (v := .slice none 0 0) (by kernel_rfl) ?_
 exact ⟨rfl, HA⟩
set_option maxRecDepth 100000 in
set_option maxHeartbeats 400000 in
theorem clone_row (b n cap : Nat) (q : List UInt8) (w : World) (HR : RowB w b 5 1 cap (q.map cB)) (hq : q.length = n) (hl : q.length ≤ 1000000000) :
  Calls Tryz.prog 191 #[.slice (some ⟨b, 0, none⟩) n cap] w fun e w' => ∃ b cap, e = .returned (.slice (some ⟨b, 0, none⟩) q.length cap) ∧ RowB w' b 5 1 cap (q.map cB) ∧ Fr [] w w' ∧ w.heap.size ≤ b := by
 have HA := Fr.refl [] w
 refine enter (N := 8) Tryz.func191 (c := _) rfl (by kernel_rfl) (by kernel_rfl) (e := [(0, .slice (some ⟨b, 0, none⟩) n cap)]) (by kernel_rfl) ?_
 refine WE.seq ?_
 refine WE.region ?_
 refine WO.run 1 0 [(2, .slice none 0 0)] (by kernel_rfl) (by kernel_rfl) ?_
 refine WO.done (by kernel_rfl) ?_
 refine WQ.keep [0, 2] (e' := [(0, .slice (some ⟨b, 0, none⟩) n cap), (2, .slice none 0 0)]) (by kernel_rfl) ?_
 refine WQ.thenN ?_
 refine WE.seq ?_
 refine WE.seq ?_
 refine WE.region ?_
 refine WO.run 2 0 [(4, .bool false), (3, .slice (some ⟨b, 0, none⟩) n cap)] (by kernel_rfl) (by kernel_rfl) ?_
 refine WO.done (by kernel_rfl) ?_
 refine WQ.keep [0, 2, 4] (e' := [(0, .slice (some ⟨b, 0, none⟩) n cap), (2, .slice none 0 0), (4, .bool false)]) (by kernel_rfl) ?_
 refine WQ.thenN ?_
 refine WE.condF (by kernel_rfl) ?_
 refine WE.skip ?_
 refine WQ.thenN ?_
 refine WE.seq ?_
 refine WE.region ?_
 refine WO.bx (SQ.E 0 (by kernel_rfl)) 5 #[] 5 (fun g => .slice (some ⟨g, 0, none⟩) 0 0) (by kernel_rfl) (fun _ _ => trivial) ?_
 intro g1 w2 HB4 F3 le5 _
 have ne_b_g1 : b ≠ g1 := Nat.ne_of_lt (Nat.lt_of_lt_of_le HR.lt le5)
 have ge_HA_g1 := Nat.le_trans HA.size le5
 have HR := RowB.keep HR F3 (nin0 _)
 have HA := Fr.step0 HA F3
 refine WO.run 1 1 [(6, .slice (some ⟨b, 0, none⟩) n cap)] (by kernel_rfl) (by kernel_rfl) ?_
 have HR11 := RowB.of_blk (n := 0) HB4 (List.map cB []) rfl rfl (cB_len _) (cB_one _) (by omega)
 refine WO.appRow (SQ.E 2 (by kernel_rfl)) 7 (n := 0) (m := n) (ys := List.map cB q) et_b HR11 ((List.length_map _).trans ((rfl : List.length ([] : List UInt8) = 0))) (by rw [List.length_map] <;> first | rfl | omega | (simp <;> omega)) (by have := HR.src; rw [List.length_map, hq] at this; exact this) (cB_len _) (cB_one _) (by kernel_rfl) (by omega) (by omega) (fun _ _ => trivial) ?_
 intro b6 cap7 w8 HR9 F10 hb12
 have ne_b_b6 : b ≠ b6 := hb12.elim (fun h => h ▸ ne_b_g1) (fun h => Nat.ne_of_lt (Nat.lt_of_lt_of_le HR.lt h))
 have in_HA_b6 : b6 ∈ [] ∨ (World.heap w).size ≤ b6 := hb12.elim (fun h => Or.inr (h ▸ ge_HA_g1)) (fun h => Or.inr (Nat.le_trans HA.size h))
 have HR := RowB.keep HR F10 (ninC ne_b_g1 (nin0 _))
 have HA := Fr.step HA F10 (inSR ge_HA_g1 inS0)
 have HR9 : RowB w8 b6 5 1 cap7 ((([] : List UInt8) ++ q).map cB) := by rw [List.map_append]; exact HR9
 refine WO.run 1 3 [(2, .slice (some ⟨b6, 0, none⟩) (0 + n) cap7)] (by kernel_rfl) (by kernel_rfl) ?_
 refine WO.done (by kernel_rfl) ?_
 refine WQ.keep [0, 2, 4] (e' := [(0, .slice (some ⟨b, 0, none⟩) n cap), (2, .slice (some ⟨b6, 0, none⟩) (0 + n) cap7), (4, .bool false)]) (by kernel_rfl) ?_
 refine WQ.thenN ?_
 refine WE.ret ?_
 refine WQ.ret (v := .slice (some ⟨b6, 0, none⟩) (0 + n) cap7) (by kernel_rfl) ?_
 exact ⟨b6, cap7, by simp [← hq], by have h_ := HR9; rw [List.nil_append] at h_; exact h_, HA, in_HA_b6.resolve_left (by simp)⟩
theorem clone_own (F : List Nat) (v : Value) (q : List UInt8) (w : World) (h : OwnX 5 1 w F v (q.map cB)) (hl : q.length ≤ 1000000000) :
  Calls Tryz.prog 191 #[v] w fun e w' => ∃ v' F', e = .returned v' ∧ OwnX 5 1 w' F' v' (q.map cB) ∧ Fr [] w w' ∧ ∀ y ∈ F', w.heap.size ≤ y := by
 rcases h with ⟨rfl, rfl, h3⟩ | ⟨b, cap, rfl, rfl, h3⟩
 ·
  refine (clone_nil w).mono fun e w' h => ?_
  obtain ⟨rfl, h2⟩ := h
  exact ⟨_, [], rfl, .inl ⟨rfl, rfl, h3⟩, h2, by simp⟩
 ·
  refine (clone_row b _ cap q w h3 (List.length_map _).symm hl).mono fun e w' h => ?_
  obtain ⟨b', cap', rfl, h4, h5, h6⟩ := h
  exact ⟨_, [b'], rfl, OwnX.row h4 (List.length_map _), h5, by simpa using h6⟩
set_option maxRecDepth 100000 in
set_option maxHeartbeats 400000 in
theorem read_down (g m : Nat) (room : Int) (es : List (Int × Nat)) (n : Int) (w : World) (HB : Blk w g #[.int .i64 room, .map (some m), .bool true] 146) (HM : MapI Tryz.prog 3 w m es) (hgm : g ≠ m) (hj : -9223372036854775808 ≤ n ∧ n ≤ 9223372036854775807)  :
  Calls Tryz.prog 234 #[.pointer (some ⟨g, 0, none⟩), .int .i64 n] w fun e w' => e = .returned (.tuple #[.slice none 0 0, .iface 88 (.int .i64 10)]) ∧ Fr [] w w' := by
 have HA := Fr.refl [] w
 refine enter (N := 22) Tryz.func234 (c := _) rfl (by kernel_rfl) (by kernel_rfl) (e := [(0, .pointer (some ⟨g, 0, none⟩)), (1, .int .i64 n)]) (by kernel_rfl) ?_
 refine WE.seq ?_
 refine WE.region ?_
 refine WO.run 2 0 [(5, .nilIface), (4, .slice none 0 0)] (by kernel_rfl) (by kernel_rfl) ?_
 refine WO.done (by kernel_rfl) ?_
 refine WQ.keep [0, 1, 4, 5] (e' := [(0, .pointer (some ⟨g, 0, none⟩)), (1, .int .i64 n), (4, .slice none 0 0), (5, .nilIface)]) (by kernel_rfl) ?_
 refine WQ.thenN ?_
 refine WE.seq ?_
 refine WE.region ?_
 refine WO.run 2 0 [(10, .int .i64 n), (9, .pointer (some ⟨g, 0, none⟩))] (by kernel_rfl) (by kernel_rfl) ?_
 refine WO.call (SQ.E 2 (by kernel_rfl)) 11 (by kernel_rfl) (part_down g m room es n _ HB HM hgm hj) ?_
 rintro _ w1 ⟨rfl, F2⟩
 refine ⟨_, rfl, trivial, ?_⟩
 have HB := Blk.keep HB F2 (nin0 _)
 have HM := HM.keep F2 (nin0 _)
 have HA := Fr.step0 HA F2
 refine WO.run 5 3 [(7, .iface 88 (.int .i64 10)), (6, .pointer none), (13, .iface 88 (.int .i64 10)), (12, .pointer none), (8, .tuple #[.pointer none, .iface 88 (.int .i64 10)])] (by kernel_rfl) (by kernel_rfl) ?_
 refine WO.done (by kernel_rfl) ?_
 refine WQ.keep [0, 1, 4, 5, 6, 7] (e' := [(0, .pointer (some ⟨g, 0, none⟩)), (1, .int .i64 n), (4, .slice none 0 0), (5, .nilIface), (6, .pointer none), (7, .iface 88 (.int .i64 10))]) (by kernel_rfl) ?_
 refine WQ.thenN ?_
 refine WE.seq ?_
 refine WE.seq ?_
 refine WE.region ?_
 refine WO.run 2 0 [(15, .bool true), (14, .iface 88 (.int .i64 10))] (by kernel_rfl) (by kernel_rfl) ?_
 refine WO.done (by kernel_rfl) ?_
 refine WQ.keep [0, 1, 4, 5, 6, 7, 15] (e' := [(0, .pointer (some ⟨g, 0, none⟩)), (1, .int .i64 n), (4, .slice none 0 0), (5, .nilIface), (6, .pointer none), (7, .iface 88 (.int .i64 10)), (15, .bool true)]) (by kernel_rfl) ?_
 refine WQ.thenN ?_
 refine WE.condT (by kernel_rfl) ?_
 refine WE.seq ?_
 refine WE.region ?_
 refine WO.run 3 0 [(5, .iface 88 (.int .i64 10)), (4, .slice none 0 0), (16, .iface 88 (.int .i64 10))] (by kernel_rfl) (by kernel_rfl) ?_
 refine WO.done (by kernel_rfl) ?_
 refine WQ.keep [0, 1, 4, 5, 6, 7, 15] (e' := [(0, .pointer (some ⟨g, 0, none⟩)), (1, .int .i64 n), (4, .slice none 0 0), (5, .iface 88 (.int .i64 10)), (6, .pointer none), (7, .iface 88 (.int .i64 10)), (15, .bool true)]) (by kernel_rfl) ?_
 refine WQ.thenN ?_
 refine WE.ret ?_
 refine WQ.thenR ?_
 refine WQ.ret (v := .tuple #[.slice none 0 0, .iface 88 (.int .i64 10)]) (by kernel_rfl) ?_
 exact ⟨rfl, HA⟩
set_option maxRecDepth 100000 in
set_option maxHeartbeats 400000 in
theorem read_none (g m : Nat) (room : Int) (es : List (Int × Nat)) (n : Int) (w : World) (HB : Blk w g #[.int .i64 room, .map (some m), .bool false] 146) (HM : MapI Tryz.prog 3 w m es) (hgm : g ≠ m) (hj : -9223372036854775808 ≤ n ∧ n ≤ 9223372036854775807) (hno : es.any (fun e => decide (e.1 = n)) = false) (hv : lkV es n = .pointer none) :
  Calls Tryz.prog 234 #[.pointer (some ⟨g, 0, none⟩), .int .i64 n] w fun e w' => e = .returned (.tuple #[.slice none 0 0, .iface 88 (.int .i64 4)]) ∧ Fr [] w w' := by
 have HA := Fr.refl [] w
 refine enter (N := 22) Tryz.func234 (c := _) rfl (by kernel_rfl) (by kernel_rfl) (e := [(0, .pointer (some ⟨g, 0, none⟩)), (1, .int .i64 n)]) (by kernel_rfl) ?_
 refine WE.seq ?_
 refine WE.region ?_
 refine WO.run 2 0 [(5, .nilIface), (4, .slice none 0 0)] (by kernel_rfl) (by kernel_rfl) ?_
 refine WO.done (by kernel_rfl) ?_
 refine WQ.keep [0, 1, 4, 5] (e' := [(0, .pointer (some ⟨g, 0, none⟩)), (1, .int .i64 n), (4, .slice none 0 0), (5, .nilIface)]) (by kernel_rfl) ?_
 refine WQ.thenN ?_
 refine WE.seq ?_
 refine WE.region ?_
 refine WO.run 2 0 [(10, .int .i64 n), (9, .pointer (some ⟨g, 0, none⟩))] (by kernel_rfl) (by kernel_rfl) ?_
 refine WO.call (SQ.E 2 (by kernel_rfl)) 11 (by kernel_rfl) (part_none g m room es n _ HB HM hgm hj hno hv) ?_
 rintro _ w1 ⟨rfl, F2⟩
 refine ⟨_, rfl, trivial, ?_⟩
 have HB := Blk.keep HB F2 (nin0 _)
 have HM := HM.keep F2 (nin0 _)
 have HA := Fr.step0 HA F2
 refine WO.run 5 3 [(7, .iface 88 (.int .i64 4)), (6, .pointer none), (13, .iface 88 (.int .i64 4)), (12, .pointer none), (8, .tuple #[.pointer none, .iface 88 (.int .i64 4)])] (by kernel_rfl) (by kernel_rfl) ?_
 refine WO.done (by kernel_rfl) ?_
 refine WQ.keep [0, 1, 4, 5, 6, 7] (e' := [(0, .pointer (some ⟨g, 0, none⟩)), (1, .int .i64 n), (4, .slice none 0 0), (5, .nilIface), (6, .pointer none), (7, .iface 88 (.int .i64 4))]) (by kernel_rfl) ?_
 refine WQ.thenN ?_
 refine WE.seq ?_
 refine WE.seq ?_
 refine WE.region ?_
 refine WO.run 2 0 [(15, .bool true), (14, .iface 88 (.int .i64 4))] (by kernel_rfl) (by kernel_rfl) ?_
 refine WO.done (by kernel_rfl) ?_
 refine WQ.keep [0, 1, 4, 5, 6, 7, 15] (e' := [(0, .pointer (some ⟨g, 0, none⟩)), (1, .int .i64 n), (4, .slice none 0 0), (5, .nilIface), (6, .pointer none), (7, .iface 88 (.int .i64 4)), (15, .bool true)]) (by kernel_rfl) ?_
 refine WQ.thenN ?_
 refine WE.condT (by kernel_rfl) ?_
 refine WE.seq ?_
 refine WE.region ?_
 refine WO.run 3 0 [(5, .iface 88 (.int .i64 4)), (4, .slice none 0 0), (16, .iface 88 (.int .i64 4))] (by kernel_rfl) (by kernel_rfl) ?_
 refine WO.done (by kernel_rfl) ?_
 refine WQ.keep [0, 1, 4, 5, 6, 7, 15] (e' := [(0, .pointer (some ⟨g, 0, none⟩)), (1, .int .i64 n), (4, .slice none 0 0), (5, .iface 88 (.int .i64 4)), (6, .pointer none), (7, .iface 88 (.int .i64 4)), (15, .bool true)]) (by kernel_rfl) ?_
 refine WQ.thenN ?_
 refine WE.ret ?_
 refine WQ.thenR ?_
 refine WQ.ret (v := .tuple #[.slice none 0 0, .iface 88 (.int .i64 4)]) (by kernel_rfl) ?_
 exact ⟨rfl, HA⟩
set_option maxRecDepth 100000 in
set_option maxHeartbeats 400000 in
theorem read_some (g m : Nat) (room : Int) (es : List (Int × Nat)) (n : Int) (w : World) (A : Option Addr) (cap s : Nat) (q : List UInt8) (F : List Nat) (HB : Blk w g #[.int .i64 room, .map (some m), .bool false] 146) (HM : MapI Tryz.prog 3 w m es) (hgm : g ≠ m) (hj : -9223372036854775808 ≤ n ∧ n ≤ 9223372036854775807) (k : Nat) (hv : lkV es n = .pointer (some ⟨k, 0, none⟩)) (hhas : es.any (fun e => decide (e.1 = n)) = true) (HP : Blk w k #[.slice A q.length cap, .int .i64 (s : Int)] 193) (hgk : g ≠ k) (hmk : m ≠ k) (HO : OwnX 5 1 w F (.slice A q.length cap) (q.map cB)) (hl : q.length ≤ 1000000000) (hgF : g ∉ F) (hmF : m ∉ F) (hkF : k ∉ F) :
  Calls Tryz.prog 234 #[.pointer (some ⟨g, 0, none⟩), .int .i64 n] w fun e w' => ∃ v F', e = .returned (.tuple #[v, .nilIface]) ∧ OwnX 5 1 w' F' v (q.map cB) ∧ Fr [] w w' ∧ ∀ y ∈ F', w.heap.size ≤ y := by
 have HA := Fr.refl [] w
 refine enter (N := 22) Tryz.func234 (c := _) rfl (by kernel_rfl) (by kernel_rfl) (e := [(0, .pointer (some ⟨g, 0, none⟩)), (1, .int .i64 n)]) (by kernel_rfl) ?_
 refine WE.seq ?_
 refine WE.region ?_
 refine WO.run 2 0 [(5, .nilIface), (4, .slice none 0 0)] (by kernel_rfl) (by kernel_rfl) ?_
 refine WO.done (by kernel_rfl) ?_
 refine WQ.keep [0, 1, 4, 5] (e' := [(0, .pointer (some ⟨g, 0, none⟩)), (1, .int .i64 n), (4, .slice none 0 0), (5, .nilIface)]) (by kernel_rfl) ?_
 refine WQ.thenN ?_
 refine WE.seq ?_
 refine WE.region ?_
 refine WO.run 2 0 [(10, .int .i64 n), (9, .pointer (some ⟨g, 0, none⟩))] (by kernel_rfl) (by kernel_rfl) ?_
 refine WO.call (SQ.E 2 (by kernel_rfl)) 11 (by kernel_rfl) (part_some g m room es n _ HB HM hgm hj k hv hhas) ?_
 rintro _ w1 ⟨rfl, F2⟩
 refine ⟨_, rfl, trivial, ?_⟩
 have HB := Blk.keep HB F2 (nin0 _)
 have HP := Blk.keep HP F2 (nin0 _)
 have HO := HO.keep F2 (fun _ _ => nin0 _)
 have HM := HM.keep F2 (nin0 _)
 have HA := Fr.step0 HA F2
 refine WO.run 5 3 [(7, .nilIface), (6, .pointer (some ⟨k, 0, none⟩)), (13, .nilIface), (12, .pointer (some ⟨k, 0, none⟩)), (8, .tuple #[.pointer (some ⟨k, 0, none⟩), .nilIface])] (by kernel_rfl) (by kernel_rfl) ?_
 refine WO.done (by kernel_rfl) ?_
 refine WQ.keep [0, 1, 4, 5, 6, 7] (e' := [(0, .pointer (some ⟨g, 0, none⟩)), (1, .int .i64 n), (4, .slice none 0 0), (5, .nilIface), (6, .pointer (some ⟨k, 0, none⟩)), (7, .nilIface)]) (by kernel_rfl) ?_
 refine WQ.thenN ?_
 refine WE.seq ?_
 refine WE.seq ?_
 refine WE.region ?_
 refine WO.run 2 0 [(15, .bool false), (14, .nilIface)] (by kernel_rfl) (by kernel_rfl) ?_
 refine WO.done (by kernel_rfl) ?_
 refine WQ.keep [0, 1, 4, 5, 6, 7, 15] (e' := [(0, .pointer (some ⟨g, 0, none⟩)), (1, .int .i64 n), (4, .slice none 0 0), (5, .nilIface), (6, .pointer (some ⟨k, 0, none⟩)), (7, .nilIface), (15, .bool false)]) (by kernel_rfl) ?_
 refine WQ.thenN ?_
 refine WE.condF (by kernel_rfl) ?_
 refine WE.skip ?_
 refine WQ.thenN ?_
 refine WE.seq ?_
 have HA0 := HA
 refine WE.region ?_
 refine WO.run 3 0 [(19, .pointer (some ⟨k, 0, none⟩)), (18, .pointer (some ⟨k, 0, none⟩)), (17, .pointer (some ⟨k, 0, none⟩))] (by kernel_rfl) (by kernel_rfl) ?_
 refine WO.ld (SQ.S 3 (by kernel_rfl)) 20 (.slice A q.length cap) (by kernel_rfl) (same (HP.at 0 (by kernel_rfl))) ?_
 refine WO.call (SQ.E 4 (by kernel_rfl)) 21 (by kernel_rfl) (clone_own F (.slice A q.length cap) q _ HO hl) ?_
 rintro _ w3 ⟨v5, G6, rfl, HO7, F4, ge8⟩
 refine ⟨_, rfl, trivial, ?_⟩
 have HB := Blk.keep HB F4 (nin0 _)
 have HP := Blk.keep HP F4 (nin0 _)
 have HO := HO.keep F4 (fun _ _ => nin0 _)
 have HM := HM.keep F4 (nin0 _)
 have HA := Fr.step0 HA F4
 have ge_HA_G6 := fun y hy => Nat.le_trans HA0.size (ge8 y hy)
 refine WO.run 2 5 [(5, .nilIface), (4, v5)] (by kernel_rfl) (by kernel_rfl) ?_
 refine WO.done (by kernel_rfl) ?_
 refine WQ.keep [0, 1, 4, 5, 6, 7, 15] (e' := [(0, .pointer (some ⟨g, 0, none⟩)), (1, .int .i64 n), (4, v5), (5, .nilIface), (6, .pointer (some ⟨k, 0, none⟩)), (7, .nilIface), (15, .bool false)]) (by kernel_rfl) ?_
 refine WQ.thenN ?_
 refine WE.ret ?_
 refine WQ.ret (v := .tuple #[v5, .nilIface]) (by kernel_rfl) ?_
 exact ⟨v5, G6, rfl, HO7, HA, ge_HA_G6⟩
set_option maxRecDepth 100000 in
set_option maxHeartbeats 400000 in
theorem up_any (g : Nat) (a b : Value) (d : Bool) (w : World) (HB : Blk w g #[a, b, .bool d] 146) :
  Calls Tryz.prog 177 #[.pointer (some ⟨g, 0, none⟩)] w fun e w' => e = .returned (.tuple #[]) ∧ Blk w' g #[a, b, .bool false] 146 ∧ Fr [g] w w' := by
 have HA := Fr.refl [g] w
 refine enter (N := 5) Tryz.func177 (c := _) rfl (by kernel_rfl) (by kernel_rfl) (e := [(0, .pointer (some ⟨g, 0, none⟩))]) (by kernel_rfl) ?_
 refine WE.region ?_
 refine WO.run 3 0 [(4, .pointer (some ⟨g, 2, none⟩)), (3, .pointer (some ⟨g, 0, none⟩)), (2, .pointer (some ⟨g, 0, none⟩))] (by kernel_rfl) (by kernel_rfl) ?_
 refine WO.st (SQ.E 3 (by kernel_rfl)) g 2 [.bool false] #[a, b, .bool false] (by kernel_rfl) HB (by kernel_rfl) (by kernel_rfl) (fun _ _ => trivial) ?_
 intro w1 HB3 F2 _
 have HA := Fr.step HA F2 (inSL (by simp) inS0)
 refine WO.done (by kernel_rfl) ?_
 refine WQ.keep [0] (e' := [(0, .pointer (some ⟨g, 0, none⟩))]) (by kernel_rfl) ?_
 refine WQ.fall (v := .tuple #[]) (by kernel_rfl) ?_
 exact ⟨rfl, HB3, HA⟩
set_option maxRecDepth 100000 in
set_option maxHeartbeats 400000 in
theorem used_any (g m : Nat) (room : Int) (dn : Bool) (es : List (Int × Nat)) (ln : Nat → Nat) (FP : List Nat) (w : World) (HB : Blk w g #[.int .i64 room, .map (some m), .bool dn] 146) (HM : MapI Tryz.prog 3 w m es) (HL : PLn w FP es ln) (hgm : g ≠ m) (hgP : g ∉ FP) (hmP : m ∉ FP) (hnd : (es.map (·.1)).Nodup) (hs : sumL ln es ≤ 1000000) :
  Calls Tryz.prog 50 #[.pointer (some ⟨g, 0, none⟩)] w fun e w' => e = .returned (.int .i64 (sumL ln es : Int)) ∧ Fr [] w w' := by
 have HA := Fr.refl [] w
 refine enter (N := 23) Tryz.func50 (c := _) rfl (by kernel_rfl) (by kernel_rfl) (e := [(0, .pointer (some ⟨g, 0, none⟩))]) (by kernel_rfl) ?_
 refine WE.seq ?_
 refine WE.region ?_
 refine WO.run 1 0 [(2, .int .i64 0)] (by kernel_rfl) (by kernel_rfl) ?_
 refine WO.done (by kernel_rfl) ?_
 refine WQ.keep [0, 2] (e' := [(0, .pointer (some ⟨g, 0, none⟩)), (2, .int .i64 0)]) (by kernel_rfl) ?_
 refine WQ.thenN ?_
 refine WE.seq ?_
 refine WE.region ?_
 refine WO.run 1 0 [(3, .int .i64 0)] (by kernel_rfl) (by kernel_rfl) ?_
 refine WO.done (by kernel_rfl) ?_
 refine WQ.keep [0, 2, 3] (e' := [(0, .pointer (some ⟨g, 0, none⟩)), (2, .int .i64 0), (3, .int .i64 0)]) (by kernel_rfl) ?_
 refine WQ.thenN ?_
 refine WE.seq ?_
 refine WE.seq ?_
 refine WE.region ?_
 refine WO.run 3 0 [(8, .pointer (some ⟨g, 1, none⟩)), (7, .pointer (some ⟨g, 0, none⟩)), (6, .pointer (some ⟨g, 0, none⟩))] (by kernel_rfl) (by kernel_rfl) ?_
 refine WO.ld (SQ.S 3 (by kernel_rfl)) 9 (.map (some m)) (by kernel_rfl) (same (HB.at 1 (by kernel_rfl))) ?_
 refine WO.rg (SQ.E 4 (by kernel_rfl)) 10 mt (by kernel_rfl) HM (fun _ _ => trivial) ?_
 intro r1 w2 HG3 F4 le5 _
 have ne_g_r1 : g ≠ r1 := Nat.ne_of_lt (Nat.lt_of_lt_of_le HB.lt le5)
 have nin_r1_FP : r1 ∉ FP := new_nin HL.lt le5
 have ne_m_r1 : m ≠ r1 := Nat.ne_of_lt (Nat.lt_of_lt_of_le HM.lt le5)
 have ge_HA_r1 := Nat.le_trans HA.size le5
 have HB := Blk.keep HB F4 (nin0 _)
 have HL := HL.keep F4 (fun _ _ => nin0 _)
 have HM := HM.keep F4 (nin0 _)
 have HA := Fr.step0 HA F4
 refine WO.done (by kernel_rfl) ?_
 refine WQ.keep [0, 2, 3, 10] (e' := [(0, .pointer (some ⟨g, 0, none⟩)), (2, .int .i64 0), (3, .int .i64 0), (10, .pointer (some ⟨r1, 0, none⟩))]) (by kernel_rfl) ?_
 refine WQ.thenN ?_
 refine WE.block ?_
 refine WE.loop (α := Nat × List (Int × Nat)) (E := fun ⟨acc, td⟩ => [(3, .int .i64 (acc : Int)), (10, .pointer (some ⟨r1, 0, none⟩))]) (I := fun ⟨acc, td⟩ wr => acc + sumL ln td = sumL ln es ∧ (td.map (·.1)).Nodup ∧ (∀ e ∈ td, e ∈ es) ∧ Rng Tryz.prog 3 wr m r1 es td ∧ PLn wr FP es ln ∧ Fr [] w wr) (m := fun ⟨acc, td⟩ => td.length) (0, es) [3, 10] (by kernel_rfl) ?_ ?_
 ·
  exact ⟨Nat.zero_add _, hnd, fun _ h => h, HG3, HL, HA⟩
 rintro ⟨acc, td⟩ wr ⟨hsum, hnt, htd, HG, HL, HA⟩
 dsimp only at hsum hnt htd HG ⊢
 refine WE.seq ?_
 refine WE.region ?_
 refine WO.nx (SQ.E 0 (by kernel_rfl)) 11 mt hnd (by kernel_rfl) HG (fun _ _ => trivial) ?_ ?_
 ·
  intro h6
  refine WO.run 1 1 [(12, .bool false)] (by kernel_rfl) (by kernel_rfl) ?_
  refine WO.done (by kernel_rfl) ?_
  refine WQ.keep [3, 10, 12] (e' := [(3, .int .i64 (acc : Int)), (10, .pointer (some ⟨r1, 0, none⟩)), (12, .bool false)]) (by kernel_rfl) ?_
  refine WQ.thenN ?_
  refine WE.seq ?_
  refine WE.condF (by kernel_rfl) ?_
  refine WE.exit ?_
  refine WQ.thenE ?_
  refine WQ.thenE ?_
  refine WQ.blkE ?_
  refine WQ.thenN ?_
  refine WE.seq ?_
  refine WE.region ?_
  refine WO.run 2 0 [(2, .int .i64 (acc : Int)), (22, .int .i64 (acc : Int))] (by kernel_rfl) (by kernel_rfl) ?_
  refine WO.done (by kernel_rfl) ?_
  refine WQ.keep [2, 3, 10, 12] (e' := [(2, .int .i64 (acc : Int)), (3, .int .i64 (acc : Int)), (10, .pointer (some ⟨r1, 0, none⟩)), (12, .bool false)]) (by kernel_rfl) ?_
  refine WQ.thenN ?_
  refine WE.ret ?_
  refine WQ.ret (v := .int .i64 (acc : Int)) (by kernel_rfl) ?_
  exact ⟨by rw [show acc = sumL ln es by rw [h6] at hsum; simpa [sumL] using hsum], HA⟩
 ·
  intro z7 w8 hz9 HG10 HX11 F12 _
  have HL := HL.keep F12 (djB nin_r1_FP)
  have HA := Fr.step HA F12 (inSR ge_HA_r1 inS0)
  refine WO.run 1 1 [(12, .bool true)] (by kernel_rfl) (by kernel_rfl) ?_
  refine WO.done (by kernel_rfl) ?_
  refine WQ.keep [3, 10, 12] (e' := [(3, .int .i64 (acc : Int)), (10, .pointer (some ⟨r1, 0, none⟩)), (12, .bool true)]) (by kernel_rfl) ?_
  refine WQ.thenN ?_
  refine WE.seq ?_
  refine WE.condT (by kernel_rfl) ?_
  refine WE.skip ?_
  refine WQ.thenN ?_
  refine WE.block ?_
  refine WE.seq ?_
  refine WE.region ?_
  refine WO.en (SQ.S 0 (by kernel_rfl)) 13 (by kernel_rfl) (same HX11) ?_
  refine WO.run 2 1 [(5, .pointer (some ⟨z7.2, 0, none⟩)), (14, .pointer (some ⟨z7.2, 0, none⟩))] (by kernel_rfl) (by kernel_rfl) ?_
  refine WO.done (by kernel_rfl) ?_
  refine WQ.keep [3, 5, 10, 12] (e' := [(3, .int .i64 (acc : Int)), (5, .pointer (some ⟨z7.2, 0, none⟩)), (10, .pointer (some ⟨r1, 0, none⟩)), (12, .bool true)]) (by kernel_rfl) ?_
  refine WQ.thenN ?_
  obtain ⟨Az, cz, sz, HBz⟩ := HL.at (htd _ hz9)
  have hle := sumL_le (ln := ln) (htd _ hz9)
  have hacc := sumL_take (ln := ln) hnt hz9
  refine WE.region ?_
  refine WO.run 4 0 [(18, .pointer (some ⟨z7.2, 0, none⟩)), (17, .pointer (some ⟨z7.2, 0, none⟩)), (16, .pointer (some ⟨z7.2, 0, none⟩)), (15, .int .i64 (acc : Int))] (by kernel_rfl) (by kernel_rfl) ?_
  refine WO.ld (SQ.S 4 (by kernel_rfl)) 19 (.slice Az (ln z7.2) cz) (by kernel_rfl) (same (HBz.at 0 (by kernel_rfl))) ?_
  refine WO.run 1 5 [(20, .int .i64 (ln z7.2 : Int))] (by kernel_rfl) (by kernel_rfl) ?_
  refine WO.one (SQ.F 6 (by kernel_rfl)) 21 (.int .i64 (IntKind.i64.wrap ((acc : Int) + (ln z7.2 : Int)))) (by kernel_rfl) ?_
  refine WO.top (v' := .int .i64 ((acc + (ln z7.2) : Nat) : Int)) (wrap_i64 (by omega) (by omega)) ?_
  refine WO.run 1 7 [(3, .int .i64 ((acc + (ln z7.2) : Nat) : Int))] (by kernel_rfl) (by kernel_rfl) ?_
  refine WO.done (by kernel_rfl) ?_
  refine WQ.keep [3, 5, 10, 12] (e' := [(3, .int .i64 ((acc + (ln z7.2) : Nat) : Int)), (5, .pointer (some ⟨z7.2, 0, none⟩)), (10, .pointer (some ⟨r1, 0, none⟩)), (12, .bool true)]) (by kernel_rfl) ?_
  refine WQ.blkN ?_
  refine WQ.round ?_
  intro a_ ha_
  refine ⟨(acc + ln z7.2, td.filter fun e => !decide (e.1 = z7.1)), ?_, ha_.keep [3, 10] (by kernel_rfl), ?_⟩
  ·
   exact filter_lt hz9
  ·
   exact ⟨by have h_ := sumL_take (ln := ln) hnt hz9; show acc + ln z7.2 + sumL ln (td.filter fun e => !decide (e.1 = z7.1)) = sumL ln es; omega, (List.filter_sublist.map _).nodup hnt, fun e he => htd e (List.mem_filter.1 he).1, HG10, HL, HA⟩
set_option maxRecDepth 100000 in
set_option maxHeartbeats 400000 in
theorem append_down (g m : Nat) (room : Int) (es : List (Int × Nat)) (n : Int) (w : World) (Ab : Option Addr) (nb cb : Nat) (l : List UInt8) (FB : List Nat) (HB : Blk w g #[.int .i64 room, .map (some m), .bool true] 146) (HM : MapI Tryz.prog 3 w m es) (hgm : g ≠ m) (hj : -9223372036854775808 ≤ n ∧ n ≤ 9223372036854775807) :
  Calls Tryz.prog 32 #[.pointer (some ⟨g, 0, none⟩), .int .i64 n, .slice Ab nb cb] w fun e w' => e = .returned (.iface 88 (.int .i64 10)) ∧ Fr [] w w' := by
 have HA := Fr.refl [] w
 refine enter (N := 59) Tryz.func32 (c := _) rfl (by kernel_rfl) (by kernel_rfl) (e := [(0, .pointer (some ⟨g, 0, none⟩)), (1, .int .i64 n), (2, .slice Ab nb cb)]) (by kernel_rfl) ?_
 refine WE.seq ?_
 refine WE.region ?_
 refine WO.run 1 0 [(6, .nilIface)] (by kernel_rfl) (by kernel_rfl) ?_
 refine WO.done (by kernel_rfl) ?_
 refine WQ.keep [0, 1, 2, 6] (e' := [(0, .pointer (some ⟨g, 0, none⟩)), (1, .int .i64 n), (2, .slice Ab nb cb), (6, .nilIface)]) (by kernel_rfl) ?_
 refine WQ.thenN ?_
 refine WE.seq ?_
 refine WE.block ?_
 refine WE.seq ?_
 refine WE.region ?_
 refine WO.run 3 0 [(12, .pointer (some ⟨g, 2, none⟩)), (11, .pointer (some ⟨g, 0, none⟩)), (10, .pointer (some ⟨g, 0, none⟩))] (by kernel_rfl) (by kernel_rfl) ?_
 refine WO.ld (SQ.S 3 (by kernel_rfl)) 13 (.bool true) (by kernel_rfl) (same (HB.at 2 (by kernel_rfl))) ?_
 refine WO.run 1 4 [(9, .bool true)] (by kernel_rfl) (by kernel_rfl) ?_
 refine WO.done (by kernel_rfl) ?_
 refine WQ.keep [0, 1, 2, 6, 9] (e' := [(0, .pointer (some ⟨g, 0, none⟩)), (1, .int .i64 n), (2, .slice Ab nb cb), (6, .nilIface), (9, .bool true)]) (by kernel_rfl) ?_
 refine WQ.thenN ?_
 refine WE.condT (by kernel_rfl) ?_
 refine WE.seq ?_
 refine WE.region ?_
 refine WO.run 2 0 [(6, .iface 88 (.int .i64 10)), (14, .iface 88 (.int .i64 10))] (by kernel_rfl) (by kernel_rfl) ?_
 refine WO.done (by kernel_rfl) ?_
 refine WQ.keep [0, 1, 2, 6, 9] (e' := [(0, .pointer (some ⟨g, 0, none⟩)), (1, .int .i64 n), (2, .slice Ab nb cb), (6, .iface 88 (.int .i64 10)), (9, .bool true)]) (by kernel_rfl) ?_
 refine WQ.thenN ?_
 refine WE.ret ?_
 refine WQ.blkR ?_
 refine WQ.thenR ?_
 refine WQ.ret (v := .iface 88 (.int .i64 10)) (by kernel_rfl) ?_
 exact ⟨rfl, HA⟩
set_option maxRecDepth 100000 in
set_option maxHeartbeats 400000 in
theorem append_neg (g m : Nat) (room : Int) (es : List (Int × Nat)) (n : Int) (w : World) (Ab : Option Addr) (nb cb : Nat) (l : List UInt8) (FB : List Nat) (HB : Blk w g #[.int .i64 room, .map (some m), .bool false] 146) (HM : MapI Tryz.prog 3 w m es) (hgm : g ≠ m) (hj : -9223372036854775808 ≤ n ∧ n ≤ 9223372036854775807) (hneg : n < 0) :
  Calls Tryz.prog 32 #[.pointer (some ⟨g, 0, none⟩), .int .i64 n, .slice Ab nb cb] w fun e w' => e = .returned (.iface 88 (.int .i64 1)) ∧ Fr [] w w' := by
 have HA := Fr.refl [] w
 refine enter (N := 59) Tryz.func32 (c := _) rfl (by kernel_rfl) (by kernel_rfl) (e := [(0, .pointer (some ⟨g, 0, none⟩)), (1, .int .i64 n), (2, .slice Ab nb cb)]) (by kernel_rfl) ?_
 refine WE.seq ?_
 refine WE.region ?_
 refine WO.run 1 0 [(6, .nilIface)] (by kernel_rfl) (by kernel_rfl) ?_
 refine WO.done (by kernel_rfl) ?_
 refine WQ.keep [0, 1, 2, 6] (e' := [(0, .pointer (some ⟨g, 0, none⟩)), (1, .int .i64 n), (2, .slice Ab nb cb), (6, .nilIface)]) (by kernel_rfl) ?_
 refine WQ.thenN ?_
 refine WE.seq ?_
 refine WE.block ?_
 refine WE.seq ?_
 refine WE.region ?_
 refine WO.run 3 0 [(12, .pointer (some ⟨g, 2, none⟩)), (11, .pointer (some ⟨g, 0, none⟩)), (10, .pointer (some ⟨g, 0, none⟩))] (by kernel_rfl) (by kernel_rfl) ?_
 refine WO.ld (SQ.S 3 (by kernel_rfl)) 13 (.bool false) (by kernel_rfl) (same (HB.at 2 (by kernel_rfl))) ?_
 refine WO.run 1 4 [(9, .bool false)] (by kernel_rfl) (by kernel_rfl) ?_
 refine WO.done (by kernel_rfl) ?_
 refine WQ.keep [0, 1, 2, 6, 9] (e' := [(0, .pointer (some ⟨g, 0, none⟩)), (1, .int .i64 n), (2, .slice Ab nb cb), (6, .nilIface), (9, .bool false)]) (by kernel_rfl) ?_
 refine WQ.thenN ?_
 refine WE.condF (by kernel_rfl) ?_
 refine WE.seq ?_
 refine WE.region ?_
 refine WO.run 1 0 [(16, .int .i64 n)] (by kernel_rfl) (by kernel_rfl) ?_
 refine WO.one (SQ.F 1 (by kernel_rfl)) 17 (.bool (decide ((n : Int) < 0))) (by kernel_rfl) ?_
 refine WO.topPT ((n : Int) < 0) (by omega) ?_
 refine WO.run 1 2 [(15, .bool true)] (by kernel_rfl) (by kernel_rfl) ?_
 refine WO.done (by kernel_rfl) ?_
 refine WQ.keep [0, 1, 2, 6, 9, 15] (e' := [(0, .pointer (some ⟨g, 0, none⟩)), (1, .int .i64 n), (2, .slice Ab nb cb), (6, .nilIface), (9, .bool false), (15, .bool true)]) (by kernel_rfl) ?_
 refine WQ.thenN ?_
 refine WE.condT (by kernel_rfl) ?_
 refine WE.seq ?_
 refine WE.region ?_
 refine WO.run 2 0 [(6, .iface 88 (.int .i64 1)), (18, .iface 88 (.int .i64 1))] (by kernel_rfl) (by kernel_rfl) ?_
 refine WO.done (by kernel_rfl) ?_
 refine WQ.keep [0, 1, 2, 6, 9, 15] (e' := [(0, .pointer (some ⟨g, 0, none⟩)), (1, .int .i64 n), (2, .slice Ab nb cb), (6, .iface 88 (.int .i64 1)), (9, .bool false), (15, .bool true)]) (by kernel_rfl) ?_
 refine WQ.thenN ?_
 refine WE.ret ?_
 refine WQ.blkR ?_
 refine WQ.thenR ?_
 refine WQ.ret (v := .iface 88 (.int .i64 1)) (by kernel_rfl) ?_
 exact ⟨rfl, HA⟩
set_option maxRecDepth 100000 in
set_option maxHeartbeats 400000 in
theorem append_full (g m : Nat) (room : Int) (es : List (Int × Nat)) (n : Int) (w : World) (Ab : Option Addr) (nb cb : Nat) (l : List UInt8) (FB : List Nat) (ln : Nat → Nat) (FP : List Nat) (HB : Blk w g #[.int .i64 room, .map (some m), .bool false] 146) (HM : MapI Tryz.prog 3 w m es) (hgm : g ≠ m) (hj : -9223372036854775808 ≤ n ∧ n ≤ 9223372036854775807) (HL : PLn w FP es ln) (hgP : g ∉ FP) (hmP : m ∉ FP) (hnd : (es.map (·.1)).Nodup) (hs : sumL ln es ≤ 1000000) (hr : 1 ≤ room ∧ room ≤ 65536) (hpos : ¬ n < 0) (hful : room - (sumL ln es : Int) < (nb : Int)) (hnb : nb ≤ 1000000000) :
  Calls Tryz.prog 32 #[.pointer (some ⟨g, 0, none⟩), .int .i64 n, .slice Ab nb cb] w fun e w' => e = .returned (.iface 88 (.int .i64 6)) ∧ Fr [] w w' := by
 have HA := Fr.refl [] w
 refine enter (N := 59) Tryz.func32 (c := _) rfl (by kernel_rfl) (by kernel_rfl) (e := [(0, .pointer (some ⟨g, 0, none⟩)), (1, .int .i64 n), (2, .slice Ab nb cb)]) (by kernel_rfl) ?_
 refine WE.seq ?_
 refine WE.region ?_
 refine WO.run 1 0 [(6, .nilIface)] (by kernel_rfl) (by kernel_rfl) ?_
 refine WO.done (by kernel_rfl) ?_
 refine WQ.keep [0, 1, 2, 6] (e' := [(0, .pointer (some ⟨g, 0, none⟩)), (1, .int .i64 n), (2, .slice Ab nb cb), (6, .nilIface)]) (by kernel_rfl) ?_
 refine WQ.thenN ?_
 refine WE.seq ?_
 refine WE.block ?_
 refine WE.seq ?_
 refine WE.region ?_
 refine WO.run 3 0 [(12, .pointer (some ⟨g, 2, none⟩)), (11, .pointer (some ⟨g, 0, none⟩)), (10, .pointer (some ⟨g, 0, none⟩))] (by kernel_rfl) (by kernel_rfl) ?_
 refine WO.ld (SQ.S 3 (by kernel_rfl)) 13 (.bool false) (by kernel_rfl) (same (HB.at 2 (by kernel_rfl))) ?_
 refine WO.run 1 4 [(9, .bool false)] (by kernel_rfl) (by kernel_rfl) ?_
 refine WO.done (by kernel_rfl) ?_
 refine WQ.keep [0, 1, 2, 6, 9] (e' := [(0, .pointer (some ⟨g, 0, none⟩)), (1, .int .i64 n), (2, .slice Ab nb cb), (6, .nilIface), (9, .bool false)]) (by kernel_rfl) ?_
 refine WQ.thenN ?_
 refine WE.condF (by kernel_rfl) ?_
 refine WE.seq ?_
 refine WE.region ?_
 refine WO.run 1 0 [(16, .int .i64 n)] (by kernel_rfl) (by kernel_rfl) ?_
 refine WO.one (SQ.F 1 (by kernel_rfl)) 17 (.bool (decide ((n : Int) < 0))) (by kernel_rfl) ?_
 refine WO.topPF ((n : Int) < 0) (by omega) ?_
 refine WO.run 1 2 [(15, .bool false)] (by kernel_rfl) (by kernel_rfl) ?_
 refine WO.done (by kernel_rfl) ?_
 refine WQ.keep [0, 1, 2, 6, 9, 15] (e' := [(0, .pointer (some ⟨g, 0, none⟩)), (1, .int .i64 n), (2, .slice Ab nb cb), (6, .nilIface), (9, .bool false), (15, .bool false)]) (by kernel_rfl) ?_
 refine WQ.thenN ?_
 refine WE.condF (by kernel_rfl) ?_
 refine WE.seq ?_
 have hz1 : (World.heap w).size ≤ (World.heap w).size := Nat.le_refl _
 have ltz_g := HB.lt
 have ltz_FP := HL.lt
 refine WE.draw [.free, .free, .free, .free, .free, .still, .free, .effR, .free, .free, .free] (FrB (World.heap w).size) (frBR _) (by kernel_rfl) 11 (Array.replicate 11 false) (by kernel_rfl) rfl ?_
 intro w2 F3 _
 have HB := Blk.keep HB F3 (nin0 _)
 have HL := HL.keep F3 (fun _ _ => nin0 _)
 have HM := HM.keep F3 (nin0 _)
 have hz1 := Nat.le_trans hz1 F3.size
 have HA := Fr.step0 HA F3
 refine WO.one (SA.F (frBR _) (frBT _) _ 0 _ (by kernel_rfl)) 20 (.slice Ab nb cb) (by kernel_rfl) ?_
 refine WO.one (SA.F (frBR _) (frBT _) _ 1 _ (by kernel_rfl)) 21 (.int .i64 (nb : Int)) (by kernel_rfl) ?_
 refine WO.one (SA.F (frBR _) (frBT _) _ 2 _ (by kernel_rfl)) 22 (.pointer (some ⟨g, 0, none⟩)) (by kernel_rfl) ?_
 refine WO.one (SA.F (frBR _) (frBT _) _ 3 _ (by kernel_rfl)) 23 (.pointer (some ⟨g, 0, none⟩)) (by kernel_rfl) ?_
 refine WO.one (SA.F (frBR _) (frBT _) _ 4 _ (by kernel_rfl)) 24 (.pointer (some ⟨g, 0, none⟩)) (by kernel_rfl) ?_
 refine WO.ld (SA.S (frBR _) (frBT _) _ 5 _ (by kernel_rfl)) 25 (.int .i64 room) (by kernel_rfl) (fun _ k => (HB.keepB k ltz_g).at 0 (by kernel_rfl)) ?_
 refine WO.one (SA.F (frBR _) (frBT _) _ 6 _ (by kernel_rfl)) 26 (.pointer (some ⟨g, 0, none⟩)) (by kernel_rfl) ?_
 refine WO.call (SA.ER _ 7 _ (by kernel_rfl) rfl) 27 (by kernel_rfl) (used_any g m room false es ln FP _ HB HM HL hgm hgP hmP hnd hs) ?_
 rintro _ w4 ⟨rfl, F5⟩
 refine ⟨_, rfl, (frB_of hz1 (by simp)) _ F5, ?_⟩
 have HB := Blk.keep HB F5 (nin0 _)
 have HL := HL.keep F5 (fun _ _ => nin0 _)
 have HM := HM.keep F5 (nin0 _)
 have hz1 := Nat.le_trans hz1 F5.size
 have HA := Fr.step0 HA F5
 refine WO.one (SA.F (frBR _) (frBT _) _ 8 _ (by kernel_rfl)) 28 (.int .i64 (IntKind.i64.wrap (room - ((sumL ln es : Nat) : Int)))) (by kernel_rfl) ?_
 refine WO.top (v' := .int .i64 (room - ((sumL ln es : Nat) : Int))) (wrap_i64 (by omega) (by omega)) ?_
 refine WO.one (SA.F (frBR _) (frBT _) _ 9 _ (by kernel_rfl)) 29 (.bool (decide (((nb : Int) : Int) > (room - ((sumL ln es : Nat) : Int))))) (by kernel_rfl) ?_
 refine WO.topPT (((nb : Int) : Int) > (room - ((sumL ln es : Nat) : Int))) (by omega) ?_
 refine WO.one (SA.F (frBR _) (frBT _) _ 10 _ (by kernel_rfl)) 19 (.bool true) (by kernel_rfl) ?_
 refine WO.doneA (by kernel_rfl) ?_
 refine WQ.keep [0, 1, 2, 6, 9, 15, 19] (e' := [(0, .pointer (some ⟨g, 0, none⟩)), (1, .int .i64 n), (2, .slice Ab nb cb), (6, .nilIface), (9, .bool false), (15, .bool false), (19, .bool true)]) (by kernel_rfl) ?_
 refine WQ.thenN ?_
 refine WE.condT (by kernel_rfl) ?_
 refine WE.seq ?_
 refine WE.region ?_
 refine WO.run 2 0 [(6, .iface 88 (.int .i64 6)), (30, .iface 88 (.int .i64 6))] (by kernel_rfl) (by kernel_rfl) ?_
 refine WO.done (by kernel_rfl) ?_
 refine WQ.keep [0, 1, 2, 6, 9, 15, 19] (e' := [(0, .pointer (some ⟨g, 0, none⟩)), (1, .int .i64 n), (2, .slice Ab nb cb), (6, .iface 88 (.int .i64 6)), (9, .bool false), (15, .bool false), (19, .bool true)]) (by kernel_rfl) ?_
 refine WQ.thenN ?_
 refine WE.ret ?_
 refine WQ.blkR ?_
 refine WQ.thenR ?_
 refine WQ.ret (v := .iface 88 (.int .i64 6)) (by kernel_rfl) ?_
 exact ⟨rfl, HA⟩
set_option maxRecDepth 100000 in
set_option maxHeartbeats 400000 in
theorem append_some (g m : Nat) (room : Int) (es : List (Int × Nat)) (n : Int) (w : World) (Ab : Option Addr) (nb cb : Nat) (l : List UInt8) (FB : List Nat) (ln : Nat → Nat) (FP : List Nat) (A : Option Addr) (cap s : Nat) (q : List UInt8) (F : List Nat) (HB : Blk w g #[.int .i64 room, .map (some m), .bool false] 146) (HM : MapI Tryz.prog 3 w m es) (hgm : g ≠ m) (hj : -9223372036854775808 ≤ n ∧ n ≤ 9223372036854775807) (k : Nat) (hv : lkV es n = .pointer (some ⟨k, 0, none⟩)) (hhas : es.any (fun e => decide (e.1 = n)) = true) (HV : VX cB 1 w FB Ab l) (hn : l.length = nb) (hlb : l.length ≤ 1000000000) (HL : PLn w FP es ln) (hgP : g ∉ FP) (hmP : m ∉ FP) (hnd : (es.map (·.1)).Nodup) (hs : sumL ln es ≤ 1000000) (hr : 1 ≤ room ∧ room ≤ 65536) (HP : Blk w k #[.slice A q.length cap, .int .i64 (s : Int)] 193) (HO : OwnX 5 1 w F (.slice A q.length cap) (q.map cB)) (hgk : g ≠ k) (hmk : m ≠ k) (hgF : g ∉ F) (hmF : m ∉ F) (hkF : k ∉ F) (hgB : g ∉ FB) (hmB : m ∉ FB) (hkB : k ∉ FB) (hFB : ∀ y ∈ F, y ∉ FB) (hpos : ¬ n < 0) (hful : ¬ room - (sumL ln es : Int) < (nb : Int)) (hql : q.length ≤ 1000000) :
  Calls Tryz.prog 32 #[.pointer (some ⟨g, 0, none⟩), .int .i64 n, .slice Ab nb cb] w fun e w' => ∃ A' cap' F', e = .returned .nilIface ∧ Blk w' k #[.slice A' (q ++ l).length cap', .int .i64 (s : Int)] 193 ∧ OwnX 5 1 w' F' (.slice A' (q ++ l).length cap') ((q ++ l).map cB) ∧ Fr (k :: F) w w' ∧ ∀ y ∈ F', y ∈ F ∨ w.heap.size ≤ y := by
 have HA := Fr.refl (k :: F) w
 refine enter (N := 59) Tryz.func32 (c := _) rfl (by kernel_rfl) (by kernel_rfl) (e := [(0, .pointer (some ⟨g, 0, none⟩)), (1, .int .i64 n), (2, .slice Ab nb cb)]) (by kernel_rfl) ?_
 refine WE.seq ?_
 refine WE.region ?_
 refine WO.run 1 0 [(6, .nilIface)] (by kernel_rfl) (by kernel_rfl) ?_
 refine WO.done (by kernel_rfl) ?_
 refine WQ.keep [0, 1, 2, 6] (e' := [(0, .pointer (some ⟨g, 0, none⟩)), (1, .int .i64 n), (2, .slice Ab nb cb), (6, .nilIface)]) (by kernel_rfl) ?_
 refine WQ.thenN ?_
 refine WE.seq ?_
 refine WE.block ?_
 refine WE.seq ?_
 refine WE.region ?_
 refine WO.run 3 0 [(12, .pointer (some ⟨g, 2, none⟩)), (11, .pointer (some ⟨g, 0, none⟩)), (10, .pointer (some ⟨g, 0, none⟩))] (by kernel_rfl) (by kernel_rfl) ?_
 refine WO.ld (SQ.S 3 (by kernel_rfl)) 13 (.bool false) (by kernel_rfl) (same (HB.at 2 (by kernel_rfl))) ?_
 refine WO.run 1 4 [(9, .bool false)] (by kernel_rfl) (by kernel_rfl) ?_
 refine WO.done (by kernel_rfl) ?_
 refine WQ.keep [0, 1, 2, 6, 9] (e' := [(0, .pointer (some ⟨g, 0, none⟩)), (1, .int .i64 n), (2, .slice Ab nb cb), (6, .nilIface), (9, .bool false)]) (by kernel_rfl) ?_
 refine WQ.thenN ?_
 refine WE.condF (by kernel_rfl) ?_
 refine WE.seq ?_
 refine WE.region ?_
 refine WO.run 1 0 [(16, .int .i64 n)] (by kernel_rfl) (by kernel_rfl) ?_
 refine WO.one (SQ.F 1 (by kernel_rfl)) 17 (.bool (decide ((n : Int) < 0))) (by kernel_rfl) ?_
 refine WO.topPF ((n : Int) < 0) (by omega) ?_
 refine WO.run 1 2 [(15, .bool false)] (by kernel_rfl) (by kernel_rfl) ?_
 refine WO.done (by kernel_rfl) ?_
 refine WQ.keep [0, 1, 2, 6, 9, 15] (e' := [(0, .pointer (some ⟨g, 0, none⟩)), (1, .int .i64 n), (2, .slice Ab nb cb), (6, .nilIface), (9, .bool false), (15, .bool false)]) (by kernel_rfl) ?_
 refine WQ.thenN ?_
 refine WE.condF (by kernel_rfl) ?_
 refine WE.seq ?_
 have hz1 : (World.heap w).size ≤ (World.heap w).size := Nat.le_refl _
 have ltz_g := HB.lt
 have ltz_k := HP.lt
 have ltz_FP := HL.lt
 have ltz_F := HO.lt
 have ltz_FB := HV.lt
 refine WE.draw [.free, .free, .free, .free, .free, .still, .free, .effR, .free, .free, .free] (FrB (World.heap w).size) (frBR _) (by kernel_rfl) 11 (Array.replicate 11 false) (by kernel_rfl) rfl ?_
 intro w2 F3 _
 have HB := Blk.keep HB F3 (nin0 _)
 have HP := Blk.keep HP F3 (nin0 _)
 have HL := HL.keep F3 (fun _ _ => nin0 _)
 have HO := HO.keep F3 (fun _ _ => nin0 _)
 have HV := HV.keep F3 (fun _ _ => nin0 _)
 have HM := HM.keep F3 (nin0 _)
 have hz1 := Nat.le_trans hz1 F3.size
 have HA := Fr.step0 HA F3
 refine WO.one (SA.F (frBR _) (frBT _) _ 0 _ (by kernel_rfl)) 20 (.slice Ab nb cb) (by kernel_rfl) ?_
 refine WO.one (SA.F (frBR _) (frBT _) _ 1 _ (by kernel_rfl)) 21 (.int .i64 (nb : Int)) (by kernel_rfl) ?_
 refine WO.one (SA.F (frBR _) (frBT _) _ 2 _ (by kernel_rfl)) 22 (.pointer (some ⟨g, 0, none⟩)) (by kernel_rfl) ?_
 refine WO.one (SA.F (frBR _) (frBT _) _ 3 _ (by kernel_rfl)) 23 (.pointer (some ⟨g, 0, none⟩)) (by kernel_rfl) ?_
 refine WO.one (SA.F (frBR _) (frBT _) _ 4 _ (by kernel_rfl)) 24 (.pointer (some ⟨g, 0, none⟩)) (by kernel_rfl) ?_
 refine WO.ld (SA.S (frBR _) (frBT _) _ 5 _ (by kernel_rfl)) 25 (.int .i64 room) (by kernel_rfl) (fun _ k => (HB.keepB k ltz_g).at 0 (by kernel_rfl)) ?_
 refine WO.one (SA.F (frBR _) (frBT _) _ 6 _ (by kernel_rfl)) 26 (.pointer (some ⟨g, 0, none⟩)) (by kernel_rfl) ?_
 refine WO.call (SA.ER _ 7 _ (by kernel_rfl) rfl) 27 (by kernel_rfl) (used_any g m room false es ln FP _ HB HM HL hgm hgP hmP hnd hs) ?_
 rintro _ w4 ⟨rfl, F5⟩
 refine ⟨_, rfl, (frB_of hz1 (by simp)) _ F5, ?_⟩
 have HB := Blk.keep HB F5 (nin0 _)
 have HP := Blk.keep HP F5 (nin0 _)
 have HL := HL.keep F5 (fun _ _ => nin0 _)
 have HO := HO.keep F5 (fun _ _ => nin0 _)
 have HV := HV.keep F5 (fun _ _ => nin0 _)
 have HM := HM.keep F5 (nin0 _)
 have hz1 := Nat.le_trans hz1 F5.size
 have HA := Fr.step0 HA F5
 refine WO.one (SA.F (frBR _) (frBT _) _ 8 _ (by kernel_rfl)) 28 (.int .i64 (IntKind.i64.wrap (room - ((sumL ln es : Nat) : Int)))) (by kernel_rfl) ?_
 refine WO.top (v' := .int .i64 (room - ((sumL ln es : Nat) : Int))) (wrap_i64 (by omega) (by omega)) ?_
 refine WO.one (SA.F (frBR _) (frBT _) _ 9 _ (by kernel_rfl)) 29 (.bool (decide (((nb : Int) : Int) > (room - ((sumL ln es : Nat) : Int))))) (by kernel_rfl) ?_
 refine WO.topPF (((nb : Int) : Int) > (room - ((sumL ln es : Nat) : Int))) (by omega) ?_
 refine WO.one (SA.F (frBR _) (frBT _) _ 10 _ (by kernel_rfl)) 19 (.bool false) (by kernel_rfl) ?_
 refine WO.doneA (by kernel_rfl) ?_
 refine WQ.keep [0, 1, 2, 6, 9, 15, 19] (e' := [(0, .pointer (some ⟨g, 0, none⟩)), (1, .int .i64 n), (2, .slice Ab nb cb), (6, .nilIface), (9, .bool false), (15, .bool false), (19, .bool false)]) (by kernel_rfl) ?_
 refine WQ.thenN ?_
 refine WE.condF (by kernel_rfl) ?_
 refine WE.skip ?_
 refine WQ.blkN ?_
 refine WQ.thenN ?_
 refine WE.seq ?_
 refine WE.region ?_
 refine WO.run 3 0 [(34, .pointer (some ⟨g, 1, none⟩)), (33, .pointer (some ⟨g, 0, none⟩)), (32, .pointer (some ⟨g, 0, none⟩))] (by kernel_rfl) (by kernel_rfl) ?_
 refine WO.ld (SQ.S 3 (by kernel_rfl)) 35 (.map (some m)) (by kernel_rfl) (same (HB.at 1 (by kernel_rfl))) ?_
 refine WO.run 1 4 [(36, .int .i64 n)] (by kernel_rfl) (by kernel_rfl) ?_
 refine WO.lkOk (SQ.S 5 (by kernel_rfl)) 37 mt (j := n) (by kernel_rfl) (same HM) hj ?_
 refine WO.top (v' := .tuple #[.pointer (some ⟨k, 0, none⟩), .bool true]) (by rw [hv, hhas]) ?_
 refine WO.run 5 6 [(8, .bool true), (7, .pointer (some ⟨k, 0, none⟩)), (39, .bool true), (38, .pointer (some ⟨k, 0, none⟩)), (31, .tuple #[.pointer (some ⟨k, 0, none⟩), .bool true])] (by kernel_rfl) (by kernel_rfl) ?_
 refine WO.done (by kernel_rfl) ?_
 refine WQ.keep [0, 1, 2, 6, 7, 8, 9, 15, 19] (e' := [(0, .pointer (some ⟨g, 0, none⟩)), (1, .int .i64 n), (2, .slice Ab nb cb), (6, .nilIface), (7, .pointer (some ⟨k, 0, none⟩)), (8, .bool true), (9, .bool false), (15, .bool false), (19, .bool false)]) (by kernel_rfl) ?_
 refine WQ.thenN ?_
 refine WE.seq ?_
 refine WE.seq ?_
 refine WE.region ?_
 refine WO.run 2 0 [(41, .bool false), (40, .bool true)] (by kernel_rfl) (by kernel_rfl) ?_
 refine WO.done (by kernel_rfl) ?_
 refine WQ.keep [0, 1, 2, 6, 7, 8, 9, 15, 19, 41] (e' := [(0, .pointer (some ⟨g, 0, none⟩)), (1, .int .i64 n), (2, .slice Ab nb cb), (6, .nilIface), (7, .pointer (some ⟨k, 0, none⟩)), (8, .bool true), (9, .bool false), (15, .bool false), (19, .bool false), (41, .bool false)]) (by kernel_rfl) ?_
 refine WQ.thenN ?_
 refine WE.condF (by kernel_rfl) ?_
 refine WE.skip ?_
 refine WQ.thenN ?_
 refine WE.seq ?_
 refine WE.region ?_
 refine WO.run 4 0 [(53, .pointer (some ⟨k, 0, none⟩)), (52, .pointer (some ⟨k, 0, none⟩)), (51, .pointer (some ⟨k, 0, none⟩)), (50, .pointer (some ⟨k, 0, none⟩))] (by kernel_rfl) (by kernel_rfl) ?_
 refine WO.ld (SQ.S 4 (by kernel_rfl)) 54 (.slice A q.length cap) (by kernel_rfl) (same (HP.at 0 (by kernel_rfl))) ?_
 refine WO.run 1 5 [(55, .slice Ab nb cb)] (by kernel_rfl) (by kernel_rfl) ?_
 refine WO.appX (SQ.E 6 (by kernel_rfl)) 56 (m := nb) (ys := List.map cB l) et_b HO (by rw [List.length_map] <;> first | rfl | omega | (simp <;> omega)) (HV.srcN hn (cB_len _) (cB_one _) cb) (cB_len _) (cB_one _) (by kernel_rfl) (by rw [List.length_map]; first | omega | (simp only [List.length_nil]; omega) | (simp only [List.length_append, List.length_cons, List.length_nil]; omega)) (by rw [List.length_map]; first | omega | (simp only [List.length_nil]; omega) | (simp only [List.length_append, List.length_cons, List.length_nil]; omega)) (fun _ _ => trivial) ?_
 intro v11 w12 G13 HO14 F15 hg16
 rw [← List.map_append] at HO14
 have hgF_ := fun y hy => (hg16 y hy).imp id (Nat.le_trans HA.size)
 have nin_g_G13 : g ∉ G13 := grow_nin hg16 hgF HB.lt
 have nin_k_G13 : k ∉ G13 := grow_nin hg16 hkF HP.lt
 have nin_m_G13 : m ∉ G13 := grow_nin hg16 hmF (HM.lt)
 have dj_G13_FB : ∀ y ∈ G13, y ∉ FB := grow_dj hg16 hFB HV.lt
 have inF_HA_G13 : ∀ y ∈ G13, y ∈ k :: F ∨ (World.heap w).size ≤ y := grow_in hg16 (fun y hy => .inl (List.mem_cons_of_mem _ hy)) HA.size
 have HB := Blk.keep HB F15 hgF
 have HP := Blk.keep HP F15 hkF
 have HV := HV.keep F15 (dj_symm hFB)
 have HM := HM.keep F15 hmF
 have HA := Fr.step HA F15 (fun y hy => .inl (List.mem_cons_of_mem _ hy))
 obtain ⟨A17, cap18, rfl⟩ := HO14.sliceN (List.length_map _)
 have := @List.length_append _ q l
 refine WO.run 2 7 [(58, .pointer (some ⟨k, 0, none⟩)), (57, .pointer (some ⟨k, 0, none⟩))] (by kernel_rfl) (by kernel_rfl) ?_
 refine WO.st (SQ.E 9 (by kernel_rfl)) k 0 [.slice A17 ((q ++ l).length) cap18] #[.slice A17 ((q ++ l).length) cap18, .int .i64 (s : Int)] (by kernel_rfl) HP (by kernel_rfl) (by kernel_rfl) (fun _ _ => trivial) ?_
 intro w19 HB21 F20 _
 have HB := Blk.keep HB F20 (ninC hgk (nin0 _))
 have HV := HV.keep F20 (djB hkB)
 have HO14 := HO14.keep F20 (djB nin_k_G13)
 have HM := HM.keep F20 (ninC hmk (nin0 _))
 have HA := Fr.step HA F20 (inSL (by simp) inS0)
 refine WO.done (by kernel_rfl) ?_
 refine WQ.keep [0, 1, 2, 6, 7, 8, 9, 15, 19, 41] (e' := [(0, .pointer (some ⟨g, 0, none⟩)), (1, .int .i64 n), (2, .slice Ab nb cb), (6, .nilIface), (7, .pointer (some ⟨k, 0, none⟩)), (8, .bool true), (9, .bool false), (15, .bool false), (19, .bool false), (41, .bool false)]) (by kernel_rfl) ?_
 refine WQ.thenN ?_
 refine WE.seq ?_
 refine WE.region ?_
 refine WO.run 1 0 [(6, .nilIface)] (by kernel_rfl) (by kernel_rfl) ?_
 refine WO.done (by kernel_rfl) ?_
 refine WQ.keep [0, 1, 2, 6, 7, 8, 9, 15, 19, 41] (e' := [(0, .pointer (some ⟨g, 0, none⟩)), (1, .int .i64 n), (2, .slice Ab nb cb), (6, .nilIface), (7, .pointer (some ⟨k, 0, none⟩)), (8, .bool true), (9, .bool false), (15, .bool false), (19, .bool false), (41, .bool false)]) (by kernel_rfl) ?_
 refine WQ.thenN ?_
 refine WE.ret ?_
 refine WQ.ret (v := .nilIface) (by kernel_rfl) ?_
 exact ⟨A17, cap18, G13, rfl, HB21, HO14, HA, hgF_⟩
set_option maxRecDepth 100000 in
set_option maxHeartbeats 400000 in
theorem append_new (g m : Nat) (room : Int) (es : List (Int × Nat)) (n : Int) (w : World) (Ab : Option Addr) (nb cb : Nat) (l : List UInt8) (FB : List Nat) (ln : Nat → Nat) (FP : List Nat) (HB : Blk w g #[.int .i64 room, .map (some m), .bool false] 146) (HM : MapI Tryz.prog 3 w m es) (hgm : g ≠ m) (hj : -9223372036854775808 ≤ n ∧ n ≤ 9223372036854775807) (hno : es.any (fun e => decide (e.1 = n)) = false) (hv : lkV es n = .pointer none) (HV : VX cB 1 w FB Ab l) (hn : l.length = nb) (hlb : l.length ≤ 1000000000) (HL : PLn w FP es ln) (hgP : g ∉ FP) (hmP : m ∉ FP) (hnd : (es.map (·.1)).Nodup) (hs : sumL ln es ≤ 1000000) (hr : 1 ≤ room ∧ room ≤ 65536) (hgB : g ∉ FB) (hmB : m ∉ FB) (hpos : ¬ n < 0) (hful : ¬ room - (sumL ln es : Int) < (nb : Int)) (hel : es.length ≤ 1000000) :
  Calls Tryz.prog 32 #[.pointer (some ⟨g, 0, none⟩), .int .i64 n, .slice Ab nb cb] w fun e w' => ∃ k A' cap' F', e = .returned .nilIface ∧ MapI Tryz.prog 3 w' m (insE (n, k) es) ∧ Blk w' k #[.slice A' ([] ++ l).length cap', .int .i64 0] 193 ∧ OwnX 5 1 w' F' (.slice A' ([] ++ l).length cap') (([] ++ l).map cB) ∧ Fr [m] w w' ∧ w.heap.size ≤ k ∧ (∀ y ∈ F', w.heap.size ≤ y) ∧ k ∉ F' := by
 have HA := Fr.refl [m] w
 refine enter (N := 59) Tryz.func32 (c := _) rfl (by kernel_rfl) (by kernel_rfl) (e := [(0, .pointer (some ⟨g, 0, none⟩)), (1, .int .i64 n), (2, .slice Ab nb cb)]) (by kernel_rfl) ?_
 refine WE.seq ?_
 refine WE.region ?_
 refine WO.run 1 0 [(6, .nilIface)] (by kernel_rfl) (by kernel_rfl) ?_
 refine WO.done (by kernel_rfl) ?_
 refine WQ.keep [0, 1, 2, 6] (e' := [(0, .pointer (some ⟨g, 0, none⟩)), (1, .int .i64 n), (2, .slice Ab nb cb), (6, .nilIface)]) (by kernel_rfl) ?_
 refine WQ.thenN ?_
 refine WE.seq ?_
 refine WE.block ?_
 refine WE.seq ?_
 refine WE.region ?_
 refine WO.run 3 0 [(12, .pointer (some ⟨g, 2, none⟩)), (11, .pointer (some ⟨g, 0, none⟩)), (10, .pointer (some ⟨g, 0, none⟩))] (by kernel_rfl) (by kernel_rfl) ?_
 refine WO.ld (SQ.S 3 (by kernel_rfl)) 13 (.bool false) (by kernel_rfl) (same (HB.at 2 (by kernel_rfl))) ?_
 refine WO.run 1 4 [(9, .bool false)] (by kernel_rfl) (by kernel_rfl) ?_
 refine WO.done (by kernel_rfl) ?_
 refine WQ.keep [0, 1, 2, 6, 9] (e' := [(0, .pointer (some ⟨g, 0, none⟩)), (1, .int .i64 n), (2, .slice Ab nb cb), (6, .nilIface), (9, .bool false)]) (by kernel_rfl) ?_
 refine WQ.thenN ?_
 refine WE.condF (by kernel_rfl) ?_
 refine WE.seq ?_
 refine WE.region ?_
 refine WO.run 1 0 [(16, .int .i64 n)] (by kernel_rfl) (by kernel_rfl) ?_
 refine WO.one (SQ.F 1 (by kernel_rfl)) 17 (.bool (decide ((n : Int) < 0))) (by kernel_rfl) ?_
 refine WO.topPF ((n : Int) < 0) (by omega) ?_
 refine WO.run 1 2 [(15, .bool false)] (by kernel_rfl) (by kernel_rfl) ?_
 refine WO.done (by kernel_rfl) ?_
 refine WQ.keep [0, 1, 2, 6, 9, 15] (e' := [(0, .pointer (some ⟨g, 0, none⟩)), (1, .int .i64 n), (2, .slice Ab nb cb), (6, .nilIface), (9, .bool false), (15, .bool false)]) (by kernel_rfl) ?_
 refine WQ.thenN ?_
 refine WE.condF (by kernel_rfl) ?_
 refine WE.seq ?_
 have hz1 : (World.heap w).size ≤ (World.heap w).size := Nat.le_refl _
 have ltz_g := HB.lt
 have ltz_FP := HL.lt
 have ltz_FB := HV.lt
 refine WE.draw [.free, .free, .free, .free, .free, .still, .free, .effR, .free, .free, .free] (FrB (World.heap w).size) (frBR _) (by kernel_rfl) 11 (Array.replicate 11 false) (by kernel_rfl) rfl ?_
 intro w2 F3 _
 have HB := Blk.keep HB F3 (nin0 _)
 have HL := HL.keep F3 (fun _ _ => nin0 _)
 have HV := HV.keep F3 (fun _ _ => nin0 _)
 have HM := HM.keep F3 (nin0 _)
 have hz1 := Nat.le_trans hz1 F3.size
 have HA := Fr.step0 HA F3
 refine WO.one (SA.F (frBR _) (frBT _) _ 0 _ (by kernel_rfl)) 20 (.slice Ab nb cb) (by kernel_rfl) ?_
 refine WO.one (SA.F (frBR _) (frBT _) _ 1 _ (by kernel_rfl)) 21 (.int .i64 (nb : Int)) (by kernel_rfl) ?_
 refine WO.one (SA.F (frBR _) (frBT _) _ 2 _ (by kernel_rfl)) 22 (.pointer (some ⟨g, 0, none⟩)) (by kernel_rfl) ?_
 refine WO.one (SA.F (frBR _) (frBT _) _ 3 _ (by kernel_rfl)) 23 (.pointer (some ⟨g, 0, none⟩)) (by kernel_rfl) ?_
 refine WO.one (SA.F (frBR _) (frBT _) _ 4 _ (by kernel_rfl)) 24 (.pointer (some ⟨g, 0, none⟩)) (by kernel_rfl) ?_
 refine WO.ld (SA.S (frBR _) (frBT _) _ 5 _ (by kernel_rfl)) 25 (.int .i64 room) (by kernel_rfl) (fun _ k => (HB.keepB k ltz_g).at 0 (by kernel_rfl)) ?_
 refine WO.one (SA.F (frBR _) (frBT _) _ 6 _ (by kernel_rfl)) 26 (.pointer (some ⟨g, 0, none⟩)) (by kernel_rfl) ?_
 refine WO.call (SA.ER _ 7 _ (by kernel_rfl) rfl) 27 (by kernel_rfl) (used_any g m room false es ln FP _ HB HM HL hgm hgP hmP hnd hs) ?_
 rintro _ w4 ⟨rfl, F5⟩
 refine ⟨_, rfl, (frB_of hz1 (by simp)) _ F5, ?_⟩
 have HB := Blk.keep HB F5 (nin0 _)
 have HL := HL.keep F5 (fun _ _ => nin0 _)
 have HV := HV.keep F5 (fun _ _ => nin0 _)
 have HM := HM.keep F5 (nin0 _)
 have hz1 := Nat.le_trans hz1 F5.size
 have HA := Fr.step0 HA F5
 refine WO.one (SA.F (frBR _) (frBT _) _ 8 _ (by kernel_rfl)) 28 (.int .i64 (IntKind.i64.wrap (room - ((sumL ln es : Nat) : Int)))) (by kernel_rfl) ?_
 refine WO.top (v' := .int .i64 (room - ((sumL ln es : Nat) : Int))) (wrap_i64 (by omega) (by omega)) ?_
 refine WO.one (SA.F (frBR _) (frBT _) _ 9 _ (by kernel_rfl)) 29 (.bool (decide (((nb : Int) : Int) > (room - ((sumL ln es : Nat) : Int))))) (by kernel_rfl) ?_
 refine WO.topPF (((nb : Int) : Int) > (room - ((sumL ln es : Nat) : Int))) (by omega) ?_
 refine WO.one (SA.F (frBR _) (frBT _) _ 10 _ (by kernel_rfl)) 19 (.bool false) (by kernel_rfl) ?_
 refine WO.doneA (by kernel_rfl) ?_
 refine WQ.keep [0, 1, 2, 6, 9, 15, 19] (e' := [(0, .pointer (some ⟨g, 0, none⟩)), (1, .int .i64 n), (2, .slice Ab nb cb), (6, .nilIface), (9, .bool false), (15, .bool false), (19, .bool false)]) (by kernel_rfl) ?_
 refine WQ.thenN ?_
 refine WE.condF (by kernel_rfl) ?_
 refine WE.skip ?_
 refine WQ.blkN ?_
 refine WQ.thenN ?_
 refine WE.seq ?_
 refine WE.region ?_
 refine WO.run 3 0 [(34, .pointer (some ⟨g, 1, none⟩)), (33, .pointer (some ⟨g, 0, none⟩)), (32, .pointer (some ⟨g, 0, none⟩))] (by kernel_rfl) (by kernel_rfl) ?_
 refine WO.ld (SQ.S 3 (by kernel_rfl)) 35 (.map (some m)) (by kernel_rfl) (same (HB.at 1 (by kernel_rfl))) ?_
 refine WO.run 1 4 [(36, .int .i64 n)] (by kernel_rfl) (by kernel_rfl) ?_
 refine WO.lkOk (SQ.S 5 (by kernel_rfl)) 37 mt (j := n) (by kernel_rfl) (same HM) hj ?_
 refine WO.top (v' := .tuple #[.pointer none, .bool false]) (by rw [hv, hno]) ?_
 refine WO.run 5 6 [(8, .bool false), (7, .pointer none), (39, .bool false), (38, .pointer none), (31, .tuple #[.pointer none, .bool false])] (by kernel_rfl) (by kernel_rfl) ?_
 refine WO.done (by kernel_rfl) ?_
 refine WQ.keep [0, 1, 2, 6, 7, 8, 9, 15, 19] (e' := [(0, .pointer (some ⟨g, 0, none⟩)), (1, .int .i64 n), (2, .slice Ab nb cb), (6, .nilIface), (7, .pointer none), (8, .bool false), (9, .bool false), (15, .bool false), (19, .bool false)]) (by kernel_rfl) ?_
 refine WQ.thenN ?_
 refine WE.seq ?_
 refine WE.seq ?_
 refine WE.region ?_
 refine WO.run 2 0 [(41, .bool true), (40, .bool false)] (by kernel_rfl) (by kernel_rfl) ?_
 refine WO.done (by kernel_rfl) ?_
 refine WQ.keep [0, 1, 2, 6, 7, 8, 9, 15, 19, 41] (e' := [(0, .pointer (some ⟨g, 0, none⟩)), (1, .int .i64 n), (2, .slice Ab nb cb), (6, .nilIface), (7, .pointer none), (8, .bool false), (9, .bool false), (15, .bool false), (19, .bool false), (41, .bool true)]) (by kernel_rfl) ?_
 refine WQ.thenN ?_
 refine WE.condT (by kernel_rfl) ?_
 refine WE.seq ?_
 refine WE.region ?_
 refine WO.run 1 0 [(42, .agg #[.slice none 0 0, .int .i64 0])] (by kernel_rfl) (by kernel_rfl) ?_
 refine WO.bx (SQ.E 1 (by kernel_rfl)) 43 #[.slice none 0 0, .int .i64 0] 193 (fun g => .pointer (some ⟨g, 0, none⟩)) (by kernel_rfl) (fun _ _ => trivial) ?_
 intro g6 w7 HB9 F8 le10 _
 have ne_g_g6 : g ≠ g6 := Nat.ne_of_lt (Nat.lt_of_lt_of_le HB.lt le10)
 have nin_g6_FB : g6 ∉ FB := new_nin HV.lt le10
 have ne_m_g6 : m ≠ g6 := Nat.ne_of_lt (Nat.lt_of_lt_of_le HM.lt le10)
 have ge_HA_g6 := Nat.le_trans HA.size le10
 have HB := Blk.keep HB F8 (nin0 _)
 have HV := HV.keep F8 (fun _ _ => nin0 _)
 have HM := HM.keep F8 (nin0 _)
 have HA := Fr.step0 HA F8
 refine WO.run 1 2 [(7, .pointer (some ⟨g6, 0, none⟩))] (by kernel_rfl) (by kernel_rfl) ?_
 refine WO.done (by kernel_rfl) ?_
 refine WQ.keep [0, 1, 2, 6, 7, 8, 9, 15, 19, 41] (e' := [(0, .pointer (some ⟨g, 0, none⟩)), (1, .int .i64 n), (2, .slice Ab nb cb), (6, .nilIface), (7, .pointer (some ⟨g6, 0, none⟩)), (8, .bool false), (9, .bool false), (15, .bool false), (19, .bool false), (41, .bool true)]) (by kernel_rfl) ?_
 refine WQ.thenN ?_
 refine WE.region ?_
 refine WO.run 3 0 [(46, .pointer (some ⟨g, 1, none⟩)), (45, .pointer (some ⟨g, 0, none⟩)), (44, .pointer (some ⟨g, 0, none⟩))] (by kernel_rfl) (by kernel_rfl) ?_
 refine WO.ld (SQ.S 3 (by kernel_rfl)) 47 (.map (some m)) (by kernel_rfl) (same (HB.at 1 (by kernel_rfl))) ?_
 refine WO.run 2 4 [(49, .pointer (some ⟨g6, 0, none⟩)), (48, .int .i64 n)] (by kernel_rfl) (by kernel_rfl) ?_
 refine WO.up (SQ.E 6 (by kernel_rfl)) mt (j := n) (b := g6) (by kernel_rfl) HM hj hno hel (fun _ _ => trivial) ?_
 intro w11 HM13 F12
 have HB := Blk.keep HB F12 (ninC hgm (nin0 _))
 have HB9 := Blk.keep HB9 F12 (ninC (Ne.symm ne_m_g6) (nin0 _))
 have HV := HV.keep F12 (djB hmB)
 have HA := Fr.step HA F12 (inSL (by simp) inS0)
 refine WO.done (by kernel_rfl) ?_
 refine WQ.keep [0, 1, 2, 6, 7, 8, 9, 15, 19, 41] (e' := [(0, .pointer (some ⟨g, 0, none⟩)), (1, .int .i64 n), (2, .slice Ab nb cb), (6, .nilIface), (7, .pointer (some ⟨g6, 0, none⟩)), (8, .bool false), (9, .bool false), (15, .bool false), (19, .bool false), (41, .bool true)]) (by kernel_rfl) ?_
 refine WQ.thenN ?_
 refine WE.seq ?_
 refine WE.region ?_
 refine WO.run 4 0 [(53, .pointer (some ⟨g6, 0, none⟩)), (52, .pointer (some ⟨g6, 0, none⟩)), (51, .pointer (some ⟨g6, 0, none⟩)), (50, .pointer (some ⟨g6, 0, none⟩))] (by kernel_rfl) (by kernel_rfl) ?_
 refine WO.ld (SQ.S 4 (by kernel_rfl)) 54 (.slice none 0 0) (by kernel_rfl) (same (HB9.at 0 (by kernel_rfl))) ?_
 refine WO.run 1 5 [(55, .slice Ab nb cb)] (by kernel_rfl) (by kernel_rfl) ?_
 obtain ⟨F19, hF19⟩ : ∃ F_, F_ = ([] : List Nat) := ⟨_, rfl⟩
 have HO20 : OwnX 5 1 w11 F19 (.slice none 0 0) (([] : List UInt8).map cB) := by rw [hF19]; exact OwnX.nil _ _ _
 have nin_g_F19 : g ∉ F19 := by rw [hF19]; simp
 have nin_g6_F19 : g6 ∉ F19 := by rw [hF19]; simp
 have nin_m_F19 : m ∉ F19 := by rw [hF19]; simp
 have dj_F19_FB : ∀ y ∈ F19, y ∉ FB := by rw [hF19]; simp
 have ge_HA_F19 : ∀ y ∈ F19, (World.heap w).size ≤ y := by rw [hF19]; simp
 refine WO.appX (SQ.E 6 (by kernel_rfl)) 56 (m := nb) (ys := List.map cB l) et_b HO20 (by rw [List.length_map] <;> first | rfl | omega | (simp <;> omega)) (HV.srcN hn (cB_len _) (cB_one _) cb) (cB_len _) (cB_one _) (by kernel_rfl) (by rw [List.length_map]; first | omega | (simp only [List.length_nil]; omega) | (simp only [List.length_append, List.length_cons, List.length_nil]; omega)) (by rw [List.length_map]; first | omega | (simp only [List.length_nil]; omega) | (simp only [List.length_append, List.length_cons, List.length_nil]; omega)) (fun _ _ => trivial) ?_
 intro v21 w22 G23 HO24 F25 hg26
 rw [← List.map_append] at HO24
 have nin_g_G23 : g ∉ G23 := grow_nin hg26 nin_g_F19 HB.lt
 have nin_g6_G23 : g6 ∉ G23 := grow_nin hg26 nin_g6_F19 HB9.lt
 have nin_m_G23 : m ∉ G23 := grow_nin hg26 nin_m_F19 (HM13.lt)
 have dj_G23_FB : ∀ y ∈ G23, y ∉ FB := grow_dj hg26 dj_F19_FB HV.lt
 have ge_HA_G23 : ∀ y ∈ G23, (World.heap w).size ≤ y := grow_ge hg26 ge_HA_F19 HA.size
 have HB := Blk.keep HB F25 nin_g_F19
 have HB9 := Blk.keep HB9 F25 nin_g6_F19
 have HV := HV.keep F25 (dj_symm dj_F19_FB)
 have HM13 := HM13.keep F25 nin_m_F19
 have HA := Fr.step HA F25 (inF ge_HA_F19)
 obtain ⟨A27, cap28, rfl⟩ := HO24.sliceN (List.length_map _)
 have := @List.length_append _ ([] : List UInt8) l
 refine WO.run 2 7 [(58, .pointer (some ⟨g6, 0, none⟩)), (57, .pointer (some ⟨g6, 0, none⟩))] (by kernel_rfl) (by kernel_rfl) ?_
 refine WO.st (SQ.E 9 (by kernel_rfl)) g6 0 [.slice A27 ((([] : List UInt8) ++ l).length) cap28] #[.slice A27 ((([] : List UInt8) ++ l).length) cap28, .int .i64 0] (by kernel_rfl) HB9 (by kernel_rfl) (by kernel_rfl) (fun _ _ => trivial) ?_
 intro w29 HB31 F30 _
 have HB := Blk.keep HB F30 (ninC ne_g_g6 (nin0 _))
 have HV := HV.keep F30 (djB nin_g6_FB)
 have HO24 := HO24.keep F30 (djB nin_g6_G23)
 have HM13 := HM13.keep F30 (ninC ne_m_g6 (nin0 _))
 have HA := Fr.step HA F30 (inSR ge_HA_g6 inS0)
 refine WO.done (by kernel_rfl) ?_
 refine WQ.keep [0, 1, 2, 6, 7, 8, 9, 15, 19, 41] (e' := [(0, .pointer (some ⟨g, 0, none⟩)), (1, .int .i64 n), (2, .slice Ab nb cb), (6, .nilIface), (7, .pointer (some ⟨g6, 0, none⟩)), (8, .bool false), (9, .bool false), (15, .bool false), (19, .bool false), (41, .bool true)]) (by kernel_rfl) ?_
 refine WQ.thenN ?_
 refine WE.seq ?_
 refine WE.region ?_
 refine WO.run 1 0 [(6, .nilIface)] (by kernel_rfl) (by kernel_rfl) ?_
 refine WO.done (by kernel_rfl) ?_
 refine WQ.keep [0, 1, 2, 6, 7, 8, 9, 15, 19, 41] (e' := [(0, .pointer (some ⟨g, 0, none⟩)), (1, .int .i64 n), (2, .slice Ab nb cb), (6, .nilIface), (7, .pointer (some ⟨g6, 0, none⟩)), (8, .bool false), (9, .bool false), (15, .bool false), (19, .bool false), (41, .bool true)]) (by kernel_rfl) ?_
 refine WQ.thenN ?_
 refine WE.ret ?_
 refine WQ.ret (v := .nilIface) (by kernel_rfl) ?_
 exact ⟨g6, A27, cap28, G23, rfl, HM13, HB31, HO24, HA, ge_HA_g6, ge_HA_G23, nin_g6_G23⟩
end Go.Proofs.YtjfgmdkdcnfdoaaGreatDoor.Disk
