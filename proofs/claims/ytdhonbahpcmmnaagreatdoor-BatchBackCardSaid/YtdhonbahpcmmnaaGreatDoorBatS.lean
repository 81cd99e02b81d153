/- Layer 7's walks: Few, SameRow, Same. -/
import Derived.Test.YtdhonbahpcmmnaaGreatDoorBatW
import Derived.Test.YtdhonbahpcmmnaaGreatDoorEngC
set_option linter.unusedVariables false
set_option linter.unusedSimpArgs false
namespace Go.Proofs.YtdhonbahpcmmnaaGreatDoor.Bat
open Go Go.RowKit Go.Proofs.YtdhonbahpcmmnaaGreatDoor Go.Proofs.YtdhonbahpcmmnaaGreatDoor.Eng Go.Proofs.YtdhonbahpcmmnaaGreatDoorW.PrintWords
open Go.Proofs
open Go.Proofs.YtdhonbahpcmmnaaGreatDoor.Line
open Go.Proofs.YtdhonbahpcmmnaaGreatDoor.Wire (enc zig unzig encT St rNum rWhole rText rEnd)
def fewAt (xs : List RX) (i : Nat) : Prop := (gX xs i).1.key.length ≤ 1000 ∧ (gX xs i).1.bk.length ≤ 100
def fewX (xs : List RX) : Bool := decide ((∀ i, i < xs.length → (gX xs i).1.key.length ≤ 1000 ∧ (gX xs i).1.bk.length ≤ 100) ∧ xs.length ≤ 250)
theorem fewX_no {xs : List RX} {n i : Nat} (hn : xs.length = n) (hi : i < n) (h : ¬ fewAt xs i) : fewX xs = false := decide_eq_false fun h2 => h (h2.1 i (by omega))
theorem fewX_all {xs : List RX} {n : Nat} (hn : xs.length = n) (h : ∀ i, i < n → fewAt xs i) : fewX xs = decide (n ≤ 250) := by
  unfold fewX
  rw [hn]
  exact decide_eq_decide.2 ⟨fun h2 => h2.2, fun h2 => ⟨h, h2⟩⟩
theorem fewX_iff {xs : List RX} : fewX xs = true ↔ (∀ i, i < xs.length → fewAt xs i) ∧ xs.length ≤ 250 := decide_eq_true_iff
set_option maxRecDepth 100000 in
set_option maxHeartbeats 400000 in
theorem few_b (seq start : Int) (xs : List RX) (A : Option Addr) (n cp : Nat) (F : List Nat) (w : World) (HL : VX cW 8 w F A xs) (hn : xs.length = n) (hnn : n ≤ 9223372036854775807) (hkl : ∀ x ∈ xs, x.1.key.length ≤ 9223372036854775807) (hbl : ∀ x ∈ xs, x.1.bk.length ≤ 9223372036854775807) :
    Calls Tryz.prog 9 #[.agg #[.int .i64 seq, .int .i64 start, .slice A n cp]] w fun e w' => e = .returned (.bool (fewX xs)) ∧ Fr [] w w' := by
 have HA := Fr.refl [] w
 refine Zen (N := 33) Tryz.func9 (c := _) [(0, .agg #[J seq, J start, .slice A n cp])] <| Zsg <| Zb 1 #[J seq, J start, .slice A n cp] 24 (fun g => Pt g 0) ?_
 intro g1 w2 HB4 F3 le5 _
 refine Zr 1 [(2, .bool false)] <| Zdn <| Zq <| Zsg <| Zr 1 [(3, J 0)] <| Zdn <| WE.block <| WE.loop (α := Nat) (E := fun i => [(1, Pt g1 0), (2, .bool false), (3, J (i : Int))]) (I := fun i wr => i ≤ n ∧ (∀ j, j < i → fewAt xs j) ∧ Blk wr g1 #[J seq, J start, .slice A n cp] 24 ∧ VX cW 8 wr F A xs ∧ Fr [] w wr) (m := fun i => n - i) 0 [1, 2, 3] (by kernel_rfl) ?_ ?_
 ·
  have HL := HL.keep F3 dj0
  have HA := HA.step0 F3
  exact ⟨by omega, by intro j h_; omega, HB4, HL, HA⟩
 rintro i wr ⟨hi, hok, HB4, HL, HA⟩
 refine Zq <| Zsg <| Zr 2 [(5, Pt g1 2), (4, J (i : Int))] <| Zl 6 (.slice A n cp) (HB4.s 2) <| Zr 1 [(7, J (n : Int))] <| ZoP 8 (((i : Int) : Int) < (n : Int)) ?_ ?_
 ·
  intro h6
  refine Zdn <| ZT <| Zk <| Zq <| WE.block <| Zq ?_
  have hkl_ := hkl _ (gX_mem (q := xs) (i := i) (by omega))
  have hbl_ := hbl _ (gX_mem (q := xs) (i := i) (by omega))
  refine WE.region <| Zr 1 [(11, Pt g1 2)] <| Zl 12 (.slice A n cp) (HB4.s 2) <| Zr 1 [(13, J (i : Int))] ?_
  obtain ⟨ad7, hA8⟩ := HL.addr (i := i) (by have := hn; omega)
  refine Zio 14 n 8 i (i : Int) hA8 rfl (by omega) <| Zr 1 [(15, .pointer (some (ad7.add (i * 8))))] <| Zl 16 (.string (str (gX xs i).1.key)) (same (HL.at0 hA8 (gX_some xs i (by have := hn; omega)) (by kernel_rfl))) <| Zr 1 [(17, J (((gX xs i).1.key).length : Int))] <| ZoP 18 (((((gX xs i).1.key).length : Int) : Int) > (1000 : Int)) ?_ ?_
  ·
   intro h9
   refine Zr 10 [(28, .bool true), (27, undef), (26, undef), (25, undef), (24, undef), (23, undef), (22, undef), (21, undef), (20, undef), (19, .bool true)] <| Zdn <| ZT <| Zsg <| Zr 1 [(2, .bool false)] <| Zdn <| WE.ret <| WQ.blkR <| WQ.thenR <| WQ.thenR <| WQ.blkR <| WQ.thenR <| ZR (.bool false) ?_
   exact ⟨by rw [fewX_no hn (i := i) (by omega) (fun h_ => by have h1_ := h_.1; have h2_ := h_.2; omega)], HA⟩
  intro h9
  refine Zr 2 [(20, Pt g1 2), (19, .bool false)] <| Zl 21 (.slice A n cp) (HB4.s 2) <| Zr 1 [(22, J (i : Int))] ?_
  obtain ⟨ad10, hA11⟩ := HL.addr (i := i) (by have := hn; omega)
  refine Zio 23 n 8 i (i : Int) hA11 rfl (by omega) <| Zr 1 [(24, .pointer (some ((ad10.add (i * 8)).add 7)))] <| Zl 25 (.slice ((gX xs i).2.1) ((gX xs i).1.bk.length) ((gX xs i).2.2)) (same (HL.at hA11 (gX_some xs i (by have := hn; omega)) 7 (by kernel_rfl))) <| Zr 1 [(26, J ((gX xs i).1.bk.length : Int))] <| ZoP 27 ((((gX xs i).1.bk.length : Int) : Int) > (100 : Int)) ?_ ?_
  ·
   intro h12
   refine Zr 1 [(28, .bool true)] <| Zdn <| ZT <| Zsg <| Zr 1 [(2, .bool false)] <| Zdn <| WE.ret <| WQ.blkR <| WQ.thenR <| WQ.thenR <| WQ.blkR <| WQ.thenR <| ZR (.bool false) ?_
   exact ⟨by rw [fewX_no hn (i := i) (by omega) (fun h_ => by have h1_ := h_.1; have h2_ := h_.2; omega)], HA⟩
  intro h12
  refine Zr 1 [(28, .bool false)] <| Zdn <| ZF <| WE.skip <| WQ.blkN <| Zn ?_
  have hst_ : ∀ j, j < i + 1 → fewAt xs j := fun j h_ => (Nat.lt_succ_iff_lt_or_eq.1 h_).elim (hok j) (fun e_ => by rw [e_]; exact ⟨by omega, by omega⟩)
  refine WE.region <| Zr 1 [(9, J (i : Int))] <| Zw 10 ((i : Int) + 1) ((i + 1 : Nat) : Int) <| Zr 1 [(3, J ((i + 1 : Nat) : Int))] <| Zd <| WQ.round ?_
  intro a_ ha_
  refine ⟨i + 1, ?_, ha_.keep [1, 2, 3] (by kernel_rfl), ?_⟩
  ·
   show n - (i + 1) < n - i; omega
  ·
   exact ⟨by omega, hst_, HB4, HL, HA⟩
 intro h6
 refine Zdn <| ZF <| WE.exit <| WQ.thenE <| WQ.thenE <| WQ.blkE <| Zn <| Zsg <| Zr 1 [(29, Pt g1 2)] <| Zl 30 (.slice A n cp) (HB4.s 2) <| Zr 3 [(2, .bool (decide (((n : Int) : Int) ≤ (250 : Int)))), (32, .bool (decide (((n : Int) : Int) ≤ (250 : Int)))), (31, J (n : Int))] <| Zdn <| WE.ret <| ZR (.bool (decide (((n : Int) : Int) ≤ (250 : Int)))) ?_
 exact ⟨congrArg (fun b => Ending.returned (Value.bool b)) (by rw [fewX_all hn (fun j h_ => hok j (by omega))]; rw [Bool.eq_iff_iff]; simp only [decide_eq_true_eq]; omega), HA⟩
set_option maxRecDepth 100000 in
set_option maxHeartbeats 400000 in
theorem samer_t (r : Rw) (A1 A2 : Option Addr) (cp1 cp2 : Nat) (F1 F2 : List Nat) (w : World) (HV1 : VX cN 1 w F1 A1 r.bk) (HV2 : VX cN 1 w F2 A2 r.bk) (hbl : r.bk.length ≤ 9223372036854775807) :
    Calls Tryz.prog 49 #[.agg #[.string (str r.key), .int .i64 r.kind, .int .u64 (r.many : Int), .int .i64 r.sum, .int .i64 r.least, .int .i64 r.most, .bool r.over, .slice A1 r.bk.length cp1], .agg #[.string (str r.key), .int .i64 r.kind, .int .u64 (r.many : Int), .int .i64 r.sum, .int .i64 r.least, .int .i64 r.most, .bool r.over, .slice A2 r.bk.length cp2]] w fun e w' => e = .returned (.bool true) ∧ Fr [] w w' := by
 have HA := Fr.refl [] w
 refine Zen (N := 80) Tryz.func49 (c := _) [(0, .agg #[.string (str r.key), J r.kind, .int .u64 (r.many : Int), J r.sum, J r.least, J r.most, .bool r.over, .slice A1 r.bk.length cp1]), (1, .agg #[.string (str r.key), J r.kind, .int .u64 (r.many : Int), J r.sum, J r.least, J r.most, .bool r.over, .slice A2 r.bk.length cp2])] <| Zsg <| Zb 2 #[.string (str r.key), J r.kind, .int .u64 (r.many : Int), J r.sum, J r.least, J r.most, .bool r.over, .slice A1 r.bk.length cp1] 54 (fun g => Pt g 0) ?_
 intro g1 w2 HB4 F3 le5 _
 refine Zb 3 #[.string (str r.key), J r.kind, .int .u64 (r.many : Int), J r.sum, J r.least, J r.most, .bool r.over, .slice A2 r.bk.length cp2] 54 (fun g => Pt g 0) ?_
 intro g6 w7 HB9 F8 le10 _
 have HB4 := HB4.k F8
 refine Zr 1 [(4, .bool false)] <| Zdn <| Zq <| Zsg <| Zr 1 [(6, Pt g1 0)] <| Zl 7 (.string (str r.key)) (HB4.s 0) <| Zr 1 [(8, Pt g6 0)] <| Zl 9 (.string (str r.key)) (HB9.s 0) <| Zo 10 (.bool (!((str r.key).toList == (str r.key).toList))) <| WO.top (v' := .bool (!decide ((str r.key) = (str r.key)))) (congrArg Value.bool (congrArg not (streq (str r.key) (str r.key)))) <| WO.topNT ((str r.key) = (str r.key)) (by first | rfl | omega | simp) <| Zr 2 [(12, Pt g1 1), (11, .bool false)] <| Zl 13 (J r.kind) (HB4.s 1) <| Zr 1 [(14, Pt g6 1)] <| Zl 15 (J r.kind) (HB9.s 1) <| ZoNT 16 ((r.kind : Int) = r.kind) (by first | rfl | omega | simp) <| Zr 3 [(19, Pt g1 2), (18, .bool false), (17, .bool false)] <| Zl 20 (.int .u64 (r.many : Int)) (HB4.s 2) <| Zr 1 [(21, Pt g6 2)] <| Zl 22 (.int .u64 (r.many : Int)) (HB9.s 2) <| ZoNT 23 (((r.many : Int) : Int) = (r.many : Int)) (by first | rfl | omega | simp) <| Zr 3 [(26, Pt g1 3), (25, .bool false), (24, .bool false)] <| Zl 27 (J r.sum) (HB4.s 3) <| Zr 1 [(28, Pt g6 3)] <| Zl 29 (J r.sum) (HB9.s 3) <| ZoNT 30 ((r.sum : Int) = r.sum) (by first | rfl | omega | simp) <| Zr 3 [(33, Pt g1 4), (32, .bool false), (31, .bool false)] <| Zl 34 (J r.least) (HB4.s 4) <| Zr 1 [(35, Pt g6 4)] <| Zl 36 (J r.least) (HB9.s 4) <| ZoNT 37 ((r.least : Int) = r.least) (by first | rfl | omega | simp) <| Zr 3 [(40, Pt g1 5), (39, .bool false), (38, .bool false)] <| Zl 41 (J r.most) (HB4.s 5) <| Zr 1 [(42, Pt g6 5)] <| Zl 43 (J r.most) (HB9.s 5) <| ZoNT 44 ((r.most : Int) = r.most) (by first | rfl | omega | simp) <| Zr 3 [(47, Pt g1 6), (46, .bool false), (45, .bool false)] <| Zl 48 (.bool r.over) (HB4.s 6) <| Zr 1 [(49, Pt g6 6)] <| Zl 50 (.bool r.over) (HB9.s 6) <| Zo 51 (.bool (!(r.over == r.over))) <| WO.top (v' := .bool false) (congrArg Value.bool (by simp)) <| Zr 3 [(54, Pt g1 7), (53, .bool false), (52, .bool false)] <| Zl 55 (.slice A1 r.bk.length cp1) (HB4.s 7) <| Zr 2 [(57, Pt g6 7), (56, J (r.bk.length : Int))] <| Zl 58 (.slice A2 r.bk.length cp2) (HB9.s 7) <| Zr 1 [(59, J (r.bk.length : Int))] <| ZoNT 60 (((r.bk.length : Int) : Int) = (r.bk.length : Int)) (by first | rfl | omega | simp) <| Zr 1 [(61, .bool false)] <| Zdn <| ZF <| Zk <| Zq <| Zsg <| Zr 1 [(5, J 0)] <| Zdn <| WE.block <| WE.loop (α := Nat) (E := fun i => [(2, Pt g1 0), (3, Pt g6 0), (4, .bool false), (5, J (i : Int))]) (I := fun i wr => i ≤ r.bk.length ∧ Blk wr g1 #[.string (str r.key), J r.kind, .int .u64 (r.many : Int), J r.sum, J r.least, J r.most, .bool r.over, .slice A1 r.bk.length cp1] 54 ∧ Blk wr g6 #[.string (str r.key), J r.kind, .int .u64 (r.many : Int), J r.sum, J r.least, J r.most, .bool r.over, .slice A2 r.bk.length cp2] 54 ∧ VX cN 1 wr F1 A1 r.bk ∧ VX cN 1 wr F2 A2 r.bk ∧ Fr [] w wr) (m := fun i => r.bk.length - i) 0 [2, 3, 4, 5] (by kernel_rfl) ?_ ?_
 ·
  have HV1 := (HV1.keep F3 dj0).keep F8 dj0
  have HV2 := (HV2.keep F3 dj0).keep F8 dj0
  have HA := (HA.step0 F3).step0 F8
  exact ⟨by omega, HB4, HB9, HV1, HV2, HA⟩
 rintro i wr ⟨hi, HB4, HB9, HV1, HV2, HA⟩
 refine Zq <| Zsg <| Zr 2 [(63, Pt g1 7), (62, J (i : Int))] <| Zl 64 (.slice A1 r.bk.length cp1) (HB4.s 7) <| Zr 1 [(65, J (r.bk.length : Int))] <| ZoP 66 (((i : Int) : Int) < (r.bk.length : Int)) ?_ ?_
 ·
  intro h11
  refine Zdn <| ZT <| Zk <| Zq <| WE.block <| Zq <| ZD [.free, .still, .free, .free, .still, .free, .still, .free, .free, .still, .free] 11 ?_
  intro w12 F13 _
  have HB4 := HB4.k F13
  have HV1 := HV1.keep F13 dj0
  refine Yr [0] [(69, Pt g1 7)] <| Yl 1 70 (.slice A1 r.bk.length cp1) (HB4.s 7) <| Yr [2] [(71, J (i : Int))] ?_
  obtain ⟨ad14, hA15⟩ := HV1.addr (i := i) (by have := (rfl : List.length r.bk = _); omega)
  have HB9 := HB9.k F13
  have HV2 := HV2.keep F13 dj0
  refine Yio 3 72 r.bk.length 1 i (i : Int) hA15 rfl (by omega) <| Yl 4 73 (.int .u64 ((gN r.bk i) : Int)) (same (HV1.at0 hA15 (gN_some r.bk i (by have := (rfl : List.length r.bk = _); omega)) (by kernel_rfl))) <| Yr [5] [(74, Pt g6 7)] <| Yl 6 75 (.slice A2 r.bk.length cp2) (HB9.s 7) <| Yr [7] [(76, J (i : Int))] ?_
  obtain ⟨ad16, hA17⟩ := HV2.addr (i := i) (by have := (rfl : List.length r.bk = _); omega)
  refine Yio 8 77 r.bk.length 1 i (i : Int) hA17 rfl (by omega) <| Yl 9 78 (.int .u64 ((gN r.bk i) : Int)) (same (HV2.at0 hA17 (gN_some r.bk i (by have := (rfl : List.length r.bk = _); omega)) (by kernel_rfl))) <| Yr [10] [(79, .bool (!decide ((((gN r.bk i) : Int) : Int) = ((gN r.bk i) : Int))))] <| WO.topNT ((((gN r.bk i) : Int) : Int) = ((gN r.bk i) : Int)) (by first | rfl | omega | simp) <| Ydn <| ZF <| WE.skip <| WQ.blkN <| Zn <| WE.region <| Zr 1 [(67, J (i : Int))] <| Zw 68 ((i : Int) + 1) ((i + 1 : Nat) : Int) <| Zr 1 [(5, J ((i + 1 : Nat) : Int))] <| Zd <| WQ.round ?_
  intro a_ ha_
  refine ⟨i + 1, ?_, ha_.keep [2, 3, 4, 5] (by kernel_rfl), ?_⟩
  ·
   omega
  ·
   have HA := HA.step0 F13
   exact ⟨by omega, HB4, HB9, HV1, HV2, HA⟩
 intro h11
 refine Zdn <| ZF <| WE.exit <| WQ.thenE <| WQ.thenE <| WQ.blkE <| Zn <| Zsg <| Zr 1 [(4, .bool true)] <| Zdn <| WE.ret <| ZR (.bool true) ?_
 exact ⟨rfl, HA⟩
set_option maxRecDepth 100000 in
set_option maxHeartbeats 400000 in
theorem same_b (seq start : Int) (xs ys : List RX) (A1 A2 : Option Addr) (n c1 c2 : Nat) (F1 F2 G1 G2 : List Nat) (w : World) (hxy : rws ys = rws xs) (HL1 : VX cW 8 w F1 A1 xs) (HE1 : EV w G1 xs) (hn1 : xs.length = n) (HL2 : VX cW 8 w F2 A2 ys) (HE2 : EV w G2 ys) (hn2 : ys.length = n) (hnn : n ≤ 9223372036854775807) (hbl : ∀ x ∈ xs, x.1.bk.length ≤ 9223372036854775807) :
    Calls Tryz.prog 16 #[.agg #[.int .i64 seq, .int .i64 start, .slice A1 n c1], .agg #[.int .i64 seq, .int .i64 start, .slice A2 n c2]] w fun e w' => e = .returned (.bool true) ∧ Fr [] w w' := by
 have HA := Fr.refl [] w
 refine Zen (N := 48) Tryz.func16 (c := _) [(0, .agg #[J seq, J start, .slice A1 n c1]), (1, .agg #[J seq, J start, .slice A2 n c2])] <| Zsg <| Zb 2 #[J seq, J start, .slice A1 n c1] 24 (fun g => Pt g 0) ?_
 intro g1 w2 HB4 F3 le5 _
 refine Zb 3 #[J seq, J start, .slice A2 n c2] 24 (fun g => Pt g 0) ?_
 intro g6 w7 HB9 F8 le10 _
 have HB4 := HB4.k F8
 refine Zr 1 [(4, .bool false)] <| Zdn <| Zq <| Zsg <| Zr 1 [(7, Pt g1 0)] <| Zl 8 (J seq) (HB4.s 0) <| Zr 1 [(9, Pt g6 0)] <| Zl 10 (J seq) (HB9.s 0) <| ZoNT 11 ((seq : Int) = seq) (by first | rfl | omega | simp) <| Zr 2 [(13, Pt g1 1), (12, .bool false)] <| Zl 14 (J start) (HB4.s 1) <| Zr 1 [(15, Pt g6 1)] <| Zl 16 (J start) (HB9.s 1) <| ZoNT 17 ((start : Int) = start) (by first | rfl | omega | simp) <| Zr 3 [(20, Pt g1 2), (19, .bool false), (18, .bool false)] <| Zl 21 (.slice A1 n c1) (HB4.s 2) <| Zr 2 [(23, Pt g6 2), (22, J (n : Int))] <| Zl 24 (.slice A2 n c2) (HB9.s 2) <| Zr 1 [(25, J (n : Int))] <| ZoNT 26 (((n : Int) : Int) = (n : Int)) (by first | rfl | omega | simp) <| Zr 1 [(27, .bool false)] <| Zdn <| ZF <| Zk <| Zq <| Zsg <| Zr 1 [(5, J 0)] <| Zdn <| WE.block <| WE.loop (α := Nat) (E := fun i => [(2, Pt g1 0), (3, Pt g6 0), (4, .bool false), (5, J (i : Int))]) (I := fun i wr => i ≤ n ∧ Blk wr g1 #[J seq, J start, .slice A1 n c1] 24 ∧ Blk wr g6 #[J seq, J start, .slice A2 n c2] 24 ∧ VX cW 8 wr F1 A1 xs ∧ EV wr G1 xs ∧ VX cW 8 wr F2 A2 ys ∧ EV wr G2 ys ∧ Fr [] w wr) (m := fun i => n - i) 0 [2, 3, 4, 5] (by kernel_rfl) ?_ ?_
 ·
  have HL1 := (HL1.keep F3 dj0).keep F8 dj0
  have HE1 := (HE1.keep F3 dj0).keep F8 dj0
  have HL2 := (HL2.keep F3 dj0).keep F8 dj0
  have HE2 := (HE2.keep F3 dj0).keep F8 dj0
  have HA := (HA.step0 F3).step0 F8
  exact ⟨by omega, HB4, HB9, HL1, HE1, HL2, HE2, HA⟩
 rintro i wr ⟨hi, HB4, HB9, HL1, HE1, HL2, HE2, HA⟩
 refine Zq <| Zsg <| Zr 2 [(29, Pt g1 2), (28, J (i : Int))] <| Zl 30 (.slice A1 n c1) (HB4.s 2) <| Zr 1 [(31, J (n : Int))] <| ZoP 32 (((i : Int) : Int) < (n : Int)) ?_ ?_
 ·
  intro h11
  refine Zdn <| ZT <| Zk <| Zq <| WE.block <| Zq <| ZD [.free, .still, .free, .free, .still, .free, .still, .free, .free, .still, .eff, .free] 12 ?_
  intro w12 F13 _
  have HB4 := HB4.k F13
  have HL1 := HL1.keep F13 dj0
  refine Yr [0] [(35, Pt g1 2)] <| Yl 1 36 (.slice A1 n c1) (HB4.s 2) <| Yr [2] [(37, J (i : Int))] ?_
  obtain ⟨ad14, hA15⟩ := HL1.addr (i := i) (by have := hn1; omega)
  have HB9 := HB9.k F13
  have HL2 := HL2.keep F13 dj0
  refine Yio 3 38 n 8 i (i : Int) hA15 rfl (by omega) <| Yla 4 (ad := (ad14.add (i * 8))) 39 [.string (str (gX xs i).1.key), J ((gX xs i).1.kind), .int .u64 ((gX xs i).1.many : Int), J ((gX xs i).1.sum), J ((gX xs i).1.least), J ((gX xs i).1.most), .bool ((gX xs i).1.over), .slice ((gX xs i).2.1) ((gX xs i).1.bk.length) ((gX xs i).2.2)] (fun _ hw_ _ hj_ => by subst hw_; exact HL1.part0 hA15 (gX_some xs i (by have := hn1; omega)) [.string (str (gX xs i).1.key), J ((gX xs i).1.kind), .int .u64 ((gX xs i).1.many : Int), J ((gX xs i).1.sum), J ((gX xs i).1.least), J ((gX xs i).1.most), .bool ((gX xs i).1.over), .slice ((gX xs i).2.1) ((gX xs i).1.bk.length) ((gX xs i).2.2)] (by kernel_rfl) _ hj_) <| Yr [5] [(40, Pt g6 2)] <| Yl 6 41 (.slice A2 n c2) (HB9.s 2) <| Yr [7] [(42, J (i : Int))] ?_
  obtain ⟨ad16, hA17⟩ := HL2.addr (i := i) (by have := hn2; omega)
  have HE1 := HE1.keep F13 dj0
  refine Yio 8 43 n 8 i (i : Int) hA17 rfl (by omega) <| Yla 9 (ad := (ad16.add (i * 8))) 44 [.string (str (gX ys i).1.key), J ((gX ys i).1.kind), .int .u64 ((gX ys i).1.many : Int), J ((gX ys i).1.sum), J ((gX ys i).1.least), J ((gX ys i).1.most), .bool ((gX ys i).1.over), .slice ((gX ys i).2.1) ((gX ys i).1.bk.length) ((gX ys i).2.2)] (fun _ hw_ _ hj_ => by subst hw_; exact HL2.part0 hA17 (gX_some ys i (by have := hn2; omega)) [.string (str (gX ys i).1.key), J ((gX ys i).1.kind), .int .u64 ((gX ys i).1.many : Int), J ((gX ys i).1.sum), J ((gX ys i).1.least), J ((gX ys i).1.most), .bool ((gX ys i).1.over), .slice ((gX ys i).2.1) ((gX ys i).1.bk.length) ((gX ys i).2.2)] (by kernel_rfl) _ hj_) ?_
  obtain ⟨_, FR1, _, HVR1_⟩ := HE1.at (i := i) (by omega)
  have HE2 := HE2.keep F13 dj0
  obtain ⟨_, FR2, _, HVR2_⟩ := HE2.at (i := i) (by omega)
  have hbl_ := hbl _ (gX_mem (q := xs) (i := i) (by omega))
  have hsm_ : (gX ys i).1 = (gX xs i).1 := by rw [← gW_rws, ← gW_rws, hxy]
  rw [hsm_] at HVR2_ ⊢
  refine Ycf 10 45 (samer_t (gX xs i).1 (gX xs i).2.1 (gX ys i).2.1 (gX xs i).2.2 (gX ys i).2.2 FR1 FR2 _ HVR1_ HVR2_ hbl_) ?_
  intro w18 F19
  refine Yr [11] [(6, .bool true)] <| Ydn <| Zsg <| Zr 2 [(47, .bool false), (46, .bool true)] <| Zdn <| ZF <| WE.skip <| WQ.blkN <| Zn <| WE.region <| Zr 1 [(33, J (i : Int))] <| Zw 34 ((i : Int) + 1) ((i + 1 : Nat) : Int) <| Zr 1 [(5, J ((i + 1 : Nat) : Int))] <| Zd <| WQ.round ?_
  intro a_ ha_
  refine ⟨i + 1, ?_, ha_.keep [2, 3, 4, 5] (by kernel_rfl), ?_⟩
  ·
   omega
  ·
   have HA := (HA.step0 F13).step0 F19
   have HB4 := HB4.k F19
   have HB9 := HB9.k F19
   have HL1 := HL1.keep F19 dj0
   have HE1 := HE1.keep F19 dj0
   have HL2 := HL2.keep F19 dj0
   have HE2 := HE2.keep F19 dj0
   exact ⟨by omega, HB4, HB9, HL1, HE1, HL2, HE2, HA⟩
 intro h11
 refine Zdn <| ZF <| WE.exit <| WQ.thenE <| WQ.thenE <| WQ.blkE <| Zn <| Zsg <| Zr 1 [(4, .bool true)] <| Zdn <| WE.ret <| ZR (.bool true) ?_
 exact ⟨rfl, HA⟩
end Go.Proofs.YtdhonbahpcmmnaaGreatDoor.Bat
