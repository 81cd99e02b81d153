/- Layer 7's walks: Few, SameRow, Same. -/
import Derived.Test.YtdhonbahpcmmnaaGreatDoorBatW
import Derived.Test.YtdhonbahpcmmnaaGreatDoorEngC
import Derived.Test.YtdhonbahpcmmnaaGreatDoorLineH
import Derived.Test.YtdhonbahpcmmnaaGreatDoorMap
section
set_option linter.unusedVariables false
set_option linter.unusedSimpArgs false
namespace Go.Proofs.YtdhonbahpcmmnaaGreatDoor.Bat
open Go Go.RowKit Go.Proofs.YtdhonbahpcmmnaaGreatDoor Go.Proofs.YtdhonbahpcmmnaaGreatDoor.Eng Go.Proofs.YtdhonbahpcmmnaaGreatDoorW.PrintWords
open Go.Proofs
open Go.Proofs.YtdhonbahpcmmnaaGreatDoor.Line
open Go.Proofs.YtdhonbahpcmmnaaGreatDoor.Wire (enc zig unzig encT St rNum rWhole rText rEnd)
set_option maxRecDepth 100000 in
set_option maxHeartbeats 400000 in
theorem samer_t (r : Rw) (A1 A2 : Option Addr) (cp1 cp2 : Nat) (F1 F2 : List Nat) (w : World) (HV1 : VX cN 1 w F1 A1 r.bk) (HV2 : VX cN 1 w F2 A2 r.bk) (hbl : r.bk.length ≤ 9223372036854775807) :
    Calls Tryz.prog 49 #[.agg #[.string (str r.key), .int .i64 r.kind, .int .u64 (r.many : Int), .int .i64 r.sum, .int .i64 r.least, .int .i64 r.most, .bool r.over, .slice A1 r.bk.length cp1], .agg #[.string (str r.key), .int .i64 r.kind, .int .u64 (r.many : Int), .int .i64 r.sum, .int .i64 r.least, .int .i64 r.most, .bool r.over, .slice A2 r.bk.length cp2]] w fun e w' => e = .returned (.bool true) ∧ Fr [] w w' := by
 have HA := Fr.refl [] w
 refine Ze Tryz.func49 _ <| Zsg <| Zb 2 #[.string (str r.key), J r.kind, .int .u64 (r.many : Int), J r.sum, J r.least, J r.most, .bool r.over, .slice A1 r.bk.length cp1] 54 (fun g => Pt g 0) ?_
 intro g1 w2 HB4 F3 le5 _
 refine Zb 3 #[.string (str r.key), J r.kind, .int .u64 (r.many : Int), J r.sum, J r.least, J r.most, .bool r.over, .slice A2 r.bk.length cp2] 54 (fun g => Pt g 0) ?_
 intro g6 w7 HB9 F8 le10 _
 have HB4 := HB4.k F8
 refine Zr 1 <| Zdn <| Zq <| Zsg <| Zr 1 <| Zl 7 (.string (str r.key)) (HB4.s 0) <| Zr 1 <| Zl 9 (.string (str r.key)) (HB9.s 0) <| Zo 10 (.bool (!((str r.key).toList == (str r.key).toList))) <| WO.top (v' := .bool (!decide ((str r.key) = (str r.key)))) (congrArg Value.bool (congrArg not (streq (str r.key) (str r.key)))) <| WO.topNT ((str r.key) = (str r.key)) (by first | rfl | omega | simp) <| Zr 2 <| Zl 13 (J r.kind) (HB4.s 1) <| Zr 1 <| Zl 15 (J r.kind) (HB9.s 1) <| ZoNT 16 ((r.kind : Int) = r.kind) (by first | rfl | omega | simp) <| Zr 3 <| Zl 20 (.int .u64 (r.many : Int)) (HB4.s 2) <| Zr 1 <| Zl 22 (.int .u64 (r.many : Int)) (HB9.s 2) <| ZoNT 23 (((r.many : Int) : Int) = (r.many : Int)) (by first | rfl | omega | simp) <| Zr 3 <| Zl 27 (J r.sum) (HB4.s 3) <| Zr 1 <| Zl 29 (J r.sum) (HB9.s 3) <| ZoNT 30 ((r.sum : Int) = r.sum) (by first | rfl | omega | simp) <| Zr 3 <| Zl 34 (J r.least) (HB4.s 4) <| Zr 1 <| Zl 36 (J r.least) (HB9.s 4) <| ZoNT 37 ((r.least : Int) = r.least) (by first | rfl | omega | simp) <| Zr 3 <| Zl 41 (J r.most) (HB4.s 5) <| Zr 1 <| Zl 43 (J r.most) (HB9.s 5) <| ZoNT 44 ((r.most : Int) = r.most) (by first | rfl | omega | simp) <| Zr 3 <| Zl 48 (.bool r.over) (HB4.s 6) <| Zr 1 <| Zl 50 (.bool r.over) (HB9.s 6) <| Zo 51 (.bool (!(r.over == r.over))) <| WO.top (v' := .bool false) (congrArg Value.bool (by simp)) <| Zr 3 <| Zl 55 (.slice A1 r.bk.length cp1) (HB4.s 7) <| Zr 2 <| Zl 58 (.slice A2 r.bk.length cp2) (HB9.s 7) <| Zr 1 <| ZoNT 60 (((r.bk.length : Int) : Int) = (r.bk.length : Int)) (by first | rfl | omega | simp) <| Zr 1 <| Zdn <| ZF <| Zk <| Zq <| Zsg <| Zr 1 <| Zdn <| WE.block <| WE.loop (α := Nat) (E := fun i => [(2, Pt g1 0), (3, Pt g6 0), (4, .bool false), (5, J (i : Int))]) (I := fun i wr => i ≤ r.bk.length ∧ Blk wr g1 #[.string (str r.key), J r.kind, .int .u64 (r.many : Int), J r.sum, J r.least, J r.most, .bool r.over, .slice A1 r.bk.length cp1] 54 ∧ Blk wr g6 #[.string (str r.key), J r.kind, .int .u64 (r.many : Int), J r.sum, J r.least, J r.most, .bool r.over, .slice A2 r.bk.length cp2] 54 ∧ VX cN 1 wr F1 A1 r.bk ∧ VX cN 1 wr F2 A2 r.bk ∧ Fr [] w wr) (m := fun i => r.bk.length - i) 0 [2, 3, 4, 5] (by kernel_rfl) ?_ ?_
 ·
  exact ⟨by omega, HB4, HB9, ((HV1.keep F3 dj0).keep F8 dj0), ((HV2.keep F3 dj0).keep F8 dj0), ((HA.step0 F3).step0 F8)⟩
 rintro i wr ⟨hi, HB4, HB9, HV1, HV2, HA⟩
 refine Zq <| Zsg <| Zr 2 <| Zl 64 (.slice A1 r.bk.length cp1) (HB4.s 7) <| Zr 1 <| ZoP 66 (((i : Int) : Int) < (r.bk.length : Int)) ?_ ?_
 ·
  intro h11
  refine Zdn <| ZT <| Zk <| Zq <| WE.block <| Zq <| ZE [1, 4, 6, 9] [] [] 11 ?_
  intro w12 F13 _
  have HB4 := HB4.k F13
  have HV1 := HV1.keep F13 dj0
  refine Yq 0 1 <| Yl 1 70 (.slice A1 r.bk.length cp1) (HB4.s 7) <| Yq 2 1 ?_
  obtain ⟨ad14, hA15⟩ := HV1.addr (i := i) (by have := (rfl : List.length r.bk = _); omega)
  have HB9 := HB9.k F13
  have HV2 := HV2.keep F13 dj0
  refine Yio 3 72 r.bk.length 1 i (i : Int) hA15 <| Yl 4 73 (.int .u64 ((gN r.bk i) : Int)) (same (HV1.at0 hA15 (gN_some r.bk i (by have := (rfl : List.length r.bk = _); omega)) (by kernel_rfl))) <| Yq 5 1 <| Yl 6 75 (.slice A2 r.bk.length cp2) (HB9.s 7) <| Yq 7 1 ?_
  obtain ⟨ad16, hA17⟩ := HV2.addr (i := i) (by have := (rfl : List.length r.bk = _); omega)
  refine Yio 8 77 r.bk.length 1 i (i : Int) hA17 <| Yl 9 78 (.int .u64 ((gN r.bk i) : Int)) (same (HV2.at0 hA17 (gN_some r.bk i (by have := (rfl : List.length r.bk = _); omega)) (by kernel_rfl))) <| Yr0 [10] [(79, .bool (!decide ((((gN r.bk i) : Int) : Int) = ((gN r.bk i) : Int))))] <| WO.topNT ((((gN r.bk i) : Int) : Int) = ((gN r.bk i) : Int)) (by first | rfl | omega | simp) <| Ydn <| ZF <| WE.skip <| WQ.blkN <| Zn <| WE.region <| Zr 1 <| Zw 68 ((i : Int) + 1) ((i + 1 : Nat) : Int) <| Zr 1 <| Zd <| WQ.round ?_
  intro a_ ha_
  refine ⟨i + 1, ?_, ha_.keep [2, 3, 4, 5] (by kernel_rfl), ?_⟩
  ·
   omega
  ·
   exact ⟨by omega, HB4, HB9, HV1, HV2, (HA.step0 F13)⟩
 intro h11
 refine Zdn <| ZF <| WE.exit <| WQ.thenE <| WQ.thenE <| WQ.blkE <| Zn <| Zsg <| Zr 1 <| Zdn <| WE.ret <| ZR (.bool true) ?_
 exact ⟨rfl, HA⟩
set_option maxRecDepth 100000 in
set_option maxHeartbeats 400000 in
theorem same_b (seq start : Int) (xs ys : List RX) (A1 A2 : Option Addr) (n c1 c2 : Nat) (F1 F2 G1 G2 : List Nat) (w : World) (hxy : rws ys = rws xs) (HL1 : VX cW 8 w F1 A1 xs) (HE1 : EV w G1 xs) (hn1 : xs.length = n) (HL2 : VX cW 8 w F2 A2 ys) (HE2 : EV w G2 ys) (hn2 : ys.length = n) (hnn : n ≤ 9223372036854775807) (hbl : ∀ x ∈ xs, x.1.bk.length ≤ 9223372036854775807) :
    Calls Tryz.prog 16 #[.agg #[.int .i64 seq, .int .i64 start, .slice A1 n c1], .agg #[.int .i64 seq, .int .i64 start, .slice A2 n c2]] w fun e w' => e = .returned (.bool true) ∧ Fr [] w w' := by
 have HA := Fr.refl [] w
 refine Ze Tryz.func16 _ <| Zsg <| Zb 2 #[J seq, J start, .slice A1 n c1] 24 (fun g => Pt g 0) ?_
 intro g1 w2 HB4 F3 le5 _
 refine Zb 3 #[J seq, J start, .slice A2 n c2] 24 (fun g => Pt g 0) ?_
 intro g6 w7 HB9 F8 le10 _
 have HB4 := HB4.k F8
 refine Zr 1 <| Zdn <| Zq <| Zsg <| Zr 1 <| Zl 8 (J seq) (HB4.s 0) <| Zr 1 <| Zl 10 (J seq) (HB9.s 0) <| ZoNT 11 ((seq : Int) = seq) (by first | rfl | omega | simp) <| Zr 2 <| Zl 14 (J start) (HB4.s 1) <| Zr 1 <| Zl 16 (J start) (HB9.s 1) <| ZoNT 17 ((start : Int) = start) (by first | rfl | omega | simp) <| Zr 3 <| Zl 21 (.slice A1 n c1) (HB4.s 2) <| Zr 2 <| Zl 24 (.slice A2 n c2) (HB9.s 2) <| Zr 1 <| ZoNT 26 (((n : Int) : Int) = (n : Int)) (by first | rfl | omega | simp) <| Zr 1 <| Zdn <| ZF <| Zk <| Zq <| Zsg <| Zr 1 <| Zdn <| WE.block <| WE.loop (α := Nat) (E := fun i => [(2, Pt g1 0), (3, Pt g6 0), (4, .bool false), (5, J (i : Int))]) (I := fun i wr => i ≤ n ∧ Blk wr g1 #[J seq, J start, .slice A1 n c1] 24 ∧ Blk wr g6 #[J seq, J start, .slice A2 n c2] 24 ∧ VX cW 8 wr F1 A1 xs ∧ EV wr G1 xs ∧ VX cW 8 wr F2 A2 ys ∧ EV wr G2 ys ∧ Fr [] w wr) (m := fun i => n - i) 0 [2, 3, 4, 5] (by kernel_rfl) ?_ ?_
 ·
  exact ⟨by omega, HB4, HB9, ((HL1.keep F3 dj0).keep F8 dj0), ((HE1.keep F3 dj0).keep F8 dj0), ((HL2.keep F3 dj0).keep F8 dj0), ((HE2.keep F3 dj0).keep F8 dj0), ((HA.step0 F3).step0 F8)⟩
 rintro i wr ⟨hi, HB4, HB9, HL1, HE1, HL2, HE2, HA⟩
 refine Zq <| Zsg <| Zr 2 <| Zl 30 (.slice A1 n c1) (HB4.s 2) <| Zr 1 <| ZoP 32 (((i : Int) : Int) < (n : Int)) ?_ ?_
 ·
  intro h11
  refine Zdn <| ZT <| Zk <| Zq <| WE.block <| Zq <| ZE [1, 4, 6, 9] [] [10] 12 ?_
  intro w12 F13 _
  have HB4 := HB4.k F13
  have HL1 := HL1.keep F13 dj0
  refine Yq 0 1 <| Yl 1 36 (.slice A1 n c1) (HB4.s 2) <| Yq 2 1 ?_
  obtain ⟨ad14, hA15⟩ := HL1.addr (i := i) (by have := hn1; omega)
  have HB9 := HB9.k F13
  have HL2 := HL2.keep F13 dj0
  refine Yio 3 38 n 8 i (i : Int) hA15 <| Yla 4 (ad := (ad14.add (i * 8))) 39 [.string (str (gX xs i).1.key), J ((gX xs i).1.kind), .int .u64 ((gX xs i).1.many : Int), J ((gX xs i).1.sum), J ((gX xs i).1.least), J ((gX xs i).1.most), .bool ((gX xs i).1.over), .slice ((gX xs i).2.1) ((gX xs i).1.bk.length) ((gX xs i).2.2)] (fun _ hw_ _ hj_ => by subst hw_; exact HL1.part0 hA15 (gX_some xs i (by have := hn1; omega)) [.string (str (gX xs i).1.key), J ((gX xs i).1.kind), .int .u64 ((gX xs i).1.many : Int), J ((gX xs i).1.sum), J ((gX xs i).1.least), J ((gX xs i).1.most), .bool ((gX xs i).1.over), .slice ((gX xs i).2.1) ((gX xs i).1.bk.length) ((gX xs i).2.2)] (by kernel_rfl) _ hj_) <| Yq 5 1 <| Yl 6 41 (.slice A2 n c2) (HB9.s 2) <| Yq 7 1 ?_
  obtain ⟨ad16, hA17⟩ := HL2.addr (i := i) (by have := hn2; omega)
  have HE1 := HE1.keep F13 dj0
  refine Yio 8 43 n 8 i (i : Int) hA17 <| Yla 9 (ad := (ad16.add (i * 8))) 44 [.string (str (gX ys i).1.key), J ((gX ys i).1.kind), .int .u64 ((gX ys i).1.many : Int), J ((gX ys i).1.sum), J ((gX ys i).1.least), J ((gX ys i).1.most), .bool ((gX ys i).1.over), .slice ((gX ys i).2.1) ((gX ys i).1.bk.length) ((gX ys i).2.2)] (fun _ hw_ _ hj_ => by subst hw_; exact HL2.part0 hA17 (gX_some ys i (by have := hn2; omega)) [.string (str (gX ys i).1.key), J ((gX ys i).1.kind), .int .u64 ((gX ys i).1.many : Int), J ((gX ys i).1.sum), J ((gX ys i).1.least), J ((gX ys i).1.most), .bool ((gX ys i).1.over), .slice ((gX ys i).2.1) ((gX ys i).1.bk.length) ((gX ys i).2.2)] (by kernel_rfl) _ hj_) ?_
  obtain ⟨_, FR1, _, HVR1_⟩ := HE1.at (i := i) (by omega)
  have HE2 := HE2.keep F13 dj0
  obtain ⟨_, FR2, _, HVR2_⟩ := HE2.at (i := i) (by omega)
  have hbl_ := hbl _ (gX_mem (q := xs) (i := i) (by omega))
  have hsm_ : (gX ys i).1 = (gX xs i).1 := by rw [← gW_rws, ← gW_rws, hxy]
  rw [hsm_] at HVR2_ ⊢
  refine Ycf 10 45 (samer_t (gX xs i).1 (gX xs i).2.1 (gX ys i).2.1 (gX xs i).2.2 (gX ys i).2.2 FR1 FR2 _ HVR1_ HVR2_ hbl_) ?_
  intro w18 F19
  refine Yq 11 1 <| Ydn <| Zsg <| Zr 2 <| Zdn <| ZF <| WE.skip <| WQ.blkN <| Zn <| WE.region <| Zr 1 <| Zw 34 ((i : Int) + 1) ((i + 1 : Nat) : Int) <| Zr 1 <| Zd <| WQ.round ?_
  intro a_ ha_
  refine ⟨i + 1, ?_, ha_.keep [2, 3, 4, 5] (by kernel_rfl), ?_⟩
  ·
   omega
  ·
   exact ⟨by omega, (HB4.k F19), (HB9.k F19), (HL1.keep F19 dj0), (HE1.keep F19 dj0), (HL2.keep F19 dj0), (HE2.keep F19 dj0), ((HA.step0 F13).step0 F19)⟩
 intro h11
 refine Zdn <| ZF <| WE.exit <| WQ.thenE <| WQ.thenE <| WQ.blkE <| Zn <| Zsg <| Zr 1 <| Zdn <| WE.ret <| ZR (.bool true) ?_
 exact ⟨rfl, HA⟩
end Go.Proofs.YtdhonbahpcmmnaaGreatDoor.Bat
end
section
set_option linter.unusedVariables false
set_option linter.unusedSimpArgs false
namespace Go.Proofs.YtdhonbahpcmmnaaGreatDoor.Bat
open Go Go.RowKit Go.Proofs.YtdhonbahpcmmnaaGreatDoor Go.Proofs.YtdhonbahpcmmnaaGreatDoor.Eng Go.Proofs.YtdhonbahpcmmnaaGreatDoorW.PrintWords
open Go.Proofs
open Go.Proofs.YtdhonbahpcmmnaaGreatDoor.Line
open Go.Proofs.YtdhonbahpcmmnaaGreatDoor.Wire (enc zig unzig encT St rNum rWhole rText rEnd)
theorem gN_mem {q : List Nat} {i : Nat} (h : i < q.length) : gN q i ∈ q := List.mem_of_getElem? (gN_some q i h)
end Go.Proofs.YtdhonbahpcmmnaaGreatDoor.Bat
end
section
set_option linter.unusedVariables false
set_option linter.unusedSimpArgs false
namespace Go.Proofs.YtdhonbahpcmmnaaGreatDoor.Bat
open Go Go.RowKit Go.Proofs.YtdhonbahpcmmnaaGreatDoor Go.Proofs.YtdhonbahpcmmnaaGreatDoor.Eng Go.Proofs.YtdhonbahpcmmnaaGreatDoorW.PrintWords
open Go.Proofs
open Go.Proofs.YtdhonbahpcmmnaaGreatDoor.Line
open Go.Proofs.YtdhonbahpcmmnaaGreatDoor.Wire (enc zig unzig encT St rNum rWhole rText rEnd)
theorem et_n : ET Tryz.prog 52 46 1 8 := by
 obtain ⟨i, h1, h2, h3, h4⟩ := info_parts (P := Tryz.prog) (e := 46) (z := .int .u64 0) (size := 1) (bytes := 8) (by kernel_rfl)
 exact ⟨by kernel_rfl, ⟨i, _, h1, h2, h3, h4, rfl⟩, by decide⟩
theorem et_w : ET Tryz.prog 22 54 8 88 := by
 obtain ⟨i, h1, h2, h3, h4⟩ := info_parts (P := Tryz.prog) (e := 54) (z := .agg #[.string ⟨#[]⟩, .int .i64 0, .int .u64 0, .int .i64 0, .int .i64 0, .int .i64 0, .bool false, .slice none 0 0]) (size := 8) (bytes := 88) (by kernel_rfl)
 exact ⟨by kernel_rfl, ⟨i, _, h1, h2, h3, h4, rfl⟩, by decide⟩
end Go.Proofs.YtdhonbahpcmmnaaGreatDoor.Bat
end
section
set_option linter.unusedVariables false
set_option linter.unusedSimpArgs false
namespace Go.Proofs.YtdhonbahpcmmnaaGreatDoor.Bat
open Go Go.RowKit Go.Proofs.YtdhonbahpcmmnaaGreatDoor Go.Proofs.YtdhonbahpcmmnaaGreatDoor.Eng Go.Proofs.YtdhonbahpcmmnaaGreatDoorW.PrintWords
open Go.Proofs
open Go.Proofs.YtdhonbahpcmmnaaGreatDoor.Line
open Go.Proofs.YtdhonbahpcmmnaaGreatDoor.Wire (enc zig unzig encT St rNum rWhole rText rEnd)
theorem EV.nil (w : World) : EV w [] [] := ⟨by simp, by simp⟩
theorem EV.snoc {w : World} {FE F : List Nat} {xs : List RX} {r : Rw} {A : Option Addr} {c : Nat} (h : EV w FE xs) (hv : VX cN 1 w F A r.bk) (hc : r.bk.length ≤ c) : EV w (FE ++ F) (xs ++ [(r, (A, c))]) := by
 refine ⟨fun y hy => (List.mem_append.1 hy).elim (h.1 y) (hv.lt y), fun x hx => ?_⟩
 rcases List.mem_append.1 hx with hx | hx
 ·
  obtain ⟨h1, G, h2, h3⟩ := h.2 x hx
  exact ⟨h1, G, fun y hy => List.mem_append_left _ (h2 y hy), h3⟩
 ·
  obtain rfl := List.mem_singleton.1 hx
  exact ⟨hc, F, fun y hy => List.mem_append_right _ hy, hv⟩
end Go.Proofs.YtdhonbahpcmmnaaGreatDoor.Bat
end
section
set_option linter.unusedVariables false
set_option linter.unusedSimpArgs false
namespace Go.Proofs.YtdhonbahpcmmnaaGreatDoor.Bat
open Go Go.RowKit Go.Proofs.YtdhonbahpcmmnaaGreatDoor Go.Proofs.YtdhonbahpcmmnaaGreatDoor.Eng Go.Proofs.YtdhonbahpcmmnaaGreatDoorW.PrintWords
open Go.Proofs
open Go.Proofs.YtdhonbahpcmmnaaGreatDoor.Line
open Go.Proofs.YtdhonbahpcmmnaaGreatDoor.Wire (enc zig unzig encT St rNum rWhole rText rEnd)
end Go.Proofs.YtdhonbahpcmmnaaGreatDoor.Bat
end
section
set_option linter.unusedVariables false
set_option linter.unusedSimpArgs false
namespace Go.Proofs.YtdhonbahpcmmnaaGreatDoor.Bat
open Go Go.RowKit Go.Proofs.YtdhonbahpcmmnaaGreatDoor Go.Proofs.YtdhonbahpcmmnaaGreatDoor.Eng Go.Proofs.YtdhonbahpcmmnaaGreatDoorW.PrintWords
open Go.Proofs
open Go.Proofs.YtdhonbahpcmmnaaGreatDoor.Line
open Go.Proofs.YtdhonbahpcmmnaaGreatDoor.Wire (enc zig unzig encT St rNum rWhole rText rEnd)
theorem wrap_in {n m : Int} (h : n = m) (h2 : -9223372036854775808 ≤ m ∧ m ≤ 9223372036854775807) : IntKind.i64.wrap n = m := by
  subst h
  exact IntWalk.i64_in n (by omega)
theorem wrap_hi {n m : Int} (h : n = m + 18446744073709551616) (h2 : -9223372036854775808 ≤ m ∧ m ≤ 9223372036854775807) : IntKind.i64.wrap n = m := by
  subst h
  simp [IntKind.wrap, IntKind.bits, IntKind.signed]
  omega
theorem wrap_lo {n m : Int} (h : n = m - 18446744073709551616) (h2 : -9223372036854775808 ≤ m ∧ m ≤ 9223372036854775807) : IntKind.i64.wrap n = m := by
  subst h
  simp [IntKind.wrap, IntKind.bits, IntKind.signed]
  omega
def mz (v : Int) : Nat := (if v < 0 then 0 else v).toNat
theorem mz_eq (v : Int) : (if v < 0 then 0 else v) = ((mz v : Nat) : Int) := by unfold mz; split <;> omega
theorem mz_le {v : Int} (h : I64 v) : mz v ≤ 9223372036854775807 := by
  have := h.2
  unfold mz
  split <;> omega
theorem tdiv2 {x : Int} (h : 0 ≤ x) (h2 : x ≤ 9223372036854775807) : Value.int .i64 (IntKind.i64.wrap ((x : Int).tdiv 2)) = .int .i64 (x / 2) := by
  rw [Int.tdiv_eq_ediv_of_nonneg h, wrap_in rfl (by omega)]
set_option maxRecDepth 100000 in
set_option maxHeartbeats 400000 in
theorem cnt_1 (x : Nat) (w : World) (h : x + 1 < 18446744073709551616) :
    Calls Tryz.prog 68 #[.int .u64 (x : Int), .int .u64 1] w fun e w' => e = .returned (.tuple #[.int .u64 ((x + 1 : Nat) : Int), .bool false]) ∧ Fr [] w w' := by
 have HA := Fr.refl [] w
 refine Ze Tryz.func68 _ <| Zsg <| Zr 2 <| Zdn <| Zq <| Zsg <| Zr 2 <| Zwu 9 ((x : Int) + 1) ((x + 1 : Nat) : Int) <| Zr 1 <| Zdn <| Zsg <| Zr 2 <| ZoPT 12 (((x + 1 : Int) : Int) ≥ (x : Int)) (by omega) <| Zdn <| ZT <| Zsg <| Zr 3 <| Zdn <| WE.ret <| WQ.thenR <| ZR (.tuple #[.int .u64 ((x + 1 : Nat) : Int), .bool false]) ?_
 exact ⟨rfl, HA⟩
set_option maxRecDepth 100000 in
set_option maxHeartbeats 400000 in
theorem cnt_2 (w : World) :
    Calls Tryz.prog 68 #[.int .u64 18446744073709551615, .int .u64 1] w fun e w' => e = .returned (.tuple #[.int .u64 18446744073709551615, .bool true]) ∧ Fr [] w w' := by
 have HA := Fr.refl [] w
 refine Ze Tryz.func68 _ <| Zsg <| Zr 2 <| Zdn <| Zq <| Zsg <| Zr 4 <| Zdn <| Zsg <| Zr 3 <| Zdn <| ZF <| Zk <| Zsg <| Zr 2 <| Zdn <| WE.ret <| ZR (.tuple #[.int .u64 18446744073709551615, .bool true]) ?_
 exact ⟨rfl, HA⟩
theorem cnt_f (x : Nat) (w : World) (h : x < 18446744073709551616) : Calls Tryz.prog 68 #[.int .u64 (x : Int), .int .u64 1] w fun e w' => ∃ b, e = .returned (.tuple #[.int .u64 ((scount x : Nat) : Int), .bool b]) ∧ Fr [] w w' := by
  by_cases h1 : x + 1 < 18446744073709551616
  · refine (cnt_1 x w h1).mono fun e w' hh => ⟨false, ?_⟩
    rw [show scount x = x + 1 from if_pos h1]
    exact hh
  · obtain rfl : x = 18446744073709551615 := by omega
    exact (cnt_2 w).mono fun e w' hh => ⟨true, hh⟩
set_option maxRecDepth 100000 in
set_option maxHeartbeats 400000 in
theorem rcnt_1 (x : Nat) (w : World) (h : x + 1 < 18446744073709551616) :
    Calls Tryz.prog 101 #[.int .u64 (x : Int), .int .u64 1] w fun e w' => e = .returned (.tuple #[.int .u64 ((x + 1 : Nat) : Int), .bool false]) ∧ Fr [] w w' := by
 have HA := Fr.refl [] w
 refine Ze Tryz.func101 _ <| Zsg <| Zr 2 <| Zdn <| Zq <| Zsg <| Zr 2 <| Zwu 8 (18446744073709551615 - (x : Int)) ((18446744073709551615 - x : Nat) : Int) <| ZoPF 9 (((1 : Int) : Int) > ((18446744073709551615 - x : Nat) : Int)) (by omega) <| Zdn <| ZF <| Zk <| Zsg <| Zr 2 <| Zwu 12 ((x : Int) + 1) ((x + 1 : Nat) : Int) <| Zr 2 <| Zdn <| WE.ret <| ZR (.tuple #[.int .u64 ((x + 1 : Nat) : Int), .bool false]) ?_
 exact ⟨rfl, HA⟩
set_option maxRecDepth 100000 in
set_option maxHeartbeats 400000 in
theorem rcnt_2 (w : World) :
    Calls Tryz.prog 101 #[.int .u64 18446744073709551615, .int .u64 1] w fun e w' => e = .returned (.tuple #[.int .u64 18446744073709551615, .bool true]) ∧ Fr [] w w' := by
 have HA := Fr.refl [] w
 refine Ze Tryz.func101 _ <| Zsg <| Zr 2 <| Zdn <| Zq <| Zsg <| Zr 4 <| Zdn <| ZT <| Zsg <| Zr 2 <| Zdn <| WE.ret <| WQ.thenR <| ZR (.tuple #[.int .u64 18446744073709551615, .bool true]) ?_
 exact ⟨rfl, HA⟩
theorem rcnt_f (x : Nat) (w : World) (h : x < 18446744073709551616) : Calls Tryz.prog 101 #[.int .u64 (x : Int), .int .u64 1] w fun e w' => ∃ b, e = .returned (.tuple #[.int .u64 ((scount x : Nat) : Int), .bool b]) ∧ Fr [] w w' := by
  by_cases h1 : x + 1 < 18446744073709551616
  · refine (rcnt_1 x w h1).mono fun e w' hh => ⟨false, ?_⟩
    rw [show scount x = x + 1 from if_pos h1]
    exact hh
  · obtain rfl : x = 18446744073709551615 := by omega
    exact (rcnt_2 w).mono fun e w' hh => ⟨true, hh⟩
set_option maxRecDepth 100000 in
set_option maxHeartbeats 400000 in
theorem sad_1 (a b : Int) (w : World) (ha : I64 a) (hb : I64 b) (hs : 9223372036854775807 < a + b) :
    Calls Tryz.prog 69 #[.int .i64 a, .int .i64 b] w fun e w' => e = .returned (.tuple #[.int .i64 (sadd a b).1, .bool (sadd a b).2]) ∧ Fr [] w w' := by
 have ha_ := ha
 have hb_ := hb
 unfold I64 at ha_ hb_
 have HA := Fr.refl [] w
 refine Ze Tryz.func69 _ <| Zsg <| Zr 2 <| Zdn <| Zsg <| Zr 2 <| Zo 9 (J (IntKind.i64.wrap (a + b))) <| WO.top (v' := J (a + b - 18446744073709551616)) (congrArg (Value.int .i64) (wrap_hi (by omega) (by omega))) <| Zr 1 <| Zdn <| Zq <| WE.block <| Zsg <| Zr 1 <| ZoPT 12 ((a : Int) > 0) (by omega) <| Zr 2 <| ZoPT 15 ((b : Int) > 0) (by omega) <| Zr 3 <| ZoPT 19 ((a + b - 18446744073709551616 : Int) < 0) (by omega) <| Zr 2 <| Zdn <| ZT <| Zsg <| Zr 2 <| Zdn <| WE.ret <| WQ.blkR <| WQ.thenR <| ZR (.tuple #[J 9223372036854775807, .bool true]) ?_
 exact ⟨by rw [sadd_1 hs], HA⟩
set_option maxRecDepth 100000 in
set_option maxHeartbeats 400000 in
theorem sad_2 (a b : Int) (w : World) (ha : I64 a) (hb : I64 b) (hs : a + b < -9223372036854775808) :
    Calls Tryz.prog 69 #[.int .i64 a, .int .i64 b] w fun e w' => e = .returned (.tuple #[.int .i64 (sadd a b).1, .bool (sadd a b).2]) ∧ Fr [] w w' := by
 have ha_ := ha
 have hb_ := hb
 unfold I64 at ha_ hb_
 have HA := Fr.refl [] w
 refine Ze Tryz.func69 _ <| Zsg <| Zr 2 <| Zdn <| Zsg <| Zr 2 <| Zo 9 (J (IntKind.i64.wrap (a + b))) <| WO.top (v' := J (a + b + 18446744073709551616)) (congrArg (Value.int .i64) (wrap_lo (by omega) (by omega))) <| Zr 1 <| Zdn <| Zq <| WE.block <| Zsg <| Zr 1 <| ZoPF 12 ((a : Int) > 0) (by omega) <| Zr 9 <| Zdn <| ZF <| Zsg <| Zr 1 <| ZoPT 23 ((a : Int) < 0) (by omega) <| Zr 2 <| ZoPT 26 ((b : Int) < 0) (by omega) <| Zr 3 <| ZoPT 30 ((a + b + 18446744073709551616 : Int) ≥ 0) (by omega) <| Zr 2 <| Zdn <| ZT <| Zsg <| Zr 2 <| Zdn <| WE.ret <| WQ.blkR <| WQ.thenR <| ZR (.tuple #[J (-9223372036854775808), .bool true]) ?_
 exact ⟨by rw [sadd_2 hs], HA⟩
set_option maxRecDepth 100000 in
set_option maxHeartbeats 400000 in
theorem sad_3 (a b : Int) (w : World) (ha : I64 a) (hb : I64 b) (hs : -9223372036854775808 ≤ a + b ∧ a + b ≤ 9223372036854775807) :
    Calls Tryz.prog 69 #[.int .i64 a, .int .i64 b] w fun e w' => e = .returned (.tuple #[.int .i64 (sadd a b).1, .bool (sadd a b).2]) ∧ Fr [] w w' := by
 have ha_ := ha
 have hb_ := hb
 unfold I64 at ha_ hb_
 have HA := Fr.refl [] w
 refine Ze Tryz.func69 _ <| Zsg <| Zr 2 <| Zdn <| Zsg <| Zr 2 <| Zo 9 (J (IntKind.i64.wrap (a + b))) <| WO.top (v' := J (a + b)) (congrArg (Value.int .i64) (wrap_in (by omega) (by omega))) <| Zr 1 <| Zdn <| Zq <| WE.block <| Zsg <| Zr 1 <| ZoP 12 ((a : Int) > 0) ?_ ?_
 ·
  intro h1
  refine Zr 2 <| ZoP 15 ((b : Int) > 0) ?_ ?_
  ·
   intro h2
   refine Zr 3 <| ZoPF 19 ((a + b : Int) < 0) (by omega) <| Zr 2 <| Zdn <| ZF <| Zsg <| Zr 1 <| ZoP 23 ((a : Int) < 0) ?_ ?_
   ·
    intro h3
    refine Zr 2 <| ZoP 26 ((b : Int) < 0) ?_ ?_
    ·
     intro h4
     refine Zr 3 <| ZoPF 30 ((a + b : Int) ≥ 0) (by omega) <| Zr 2 <| Zdn <| ZF <| WE.skip <| WQ.blkN <| Zn <| Zsg <| Zr 3 <| Zdn <| WE.ret <| ZR (.tuple #[J (a + b), .bool false]) ?_
     exact ⟨by rw [sadd_3 hs], HA⟩
    intro h4
    refine Zr 6 <| Zdn <| ZF <| WE.skip <| WQ.blkN <| Zn <| Zsg <| Zr 3 <| Zdn <| WE.ret <| ZR (.tuple #[J (a + b), .bool false]) ?_
    exact ⟨by rw [sadd_3 hs], HA⟩
   intro h3
   refine Zr 9 <| Zdn <| ZF <| WE.skip <| WQ.blkN <| Zn <| Zsg <| Zr 3 <| Zdn <| WE.ret <| ZR (.tuple #[J (a + b), .bool false]) ?_
   exact ⟨by rw [sadd_3 hs], HA⟩
  intro h2
  refine Zr 6 <| Zdn <| ZF <| Zsg <| Zr 1 <| ZoP 23 ((a : Int) < 0) ?_ ?_
  ·
   intro h5
   refine Zr 2 <| ZoP 26 ((b : Int) < 0) ?_ ?_
   ·
    intro h6
    refine Zr 3 <| ZoPF 30 ((a + b : Int) ≥ 0) (by omega) <| Zr 2 <| Zdn <| ZF <| WE.skip <| WQ.blkN <| Zn <| Zsg <| Zr 3 <| Zdn <| WE.ret <| ZR (.tuple #[J (a + b), .bool false]) ?_
    exact ⟨by rw [sadd_3 hs], HA⟩
   intro h6
   refine Zr 6 <| Zdn <| ZF <| WE.skip <| WQ.blkN <| Zn <| Zsg <| Zr 3 <| Zdn <| WE.ret <| ZR (.tuple #[J (a + b), .bool false]) ?_
   exact ⟨by rw [sadd_3 hs], HA⟩
  intro h5
  refine Zr 9 <| Zdn <| ZF <| WE.skip <| WQ.blkN <| Zn <| Zsg <| Zr 3 <| Zdn <| WE.ret <| ZR (.tuple #[J (a + b), .bool false]) ?_
  exact ⟨by rw [sadd_3 hs], HA⟩
 intro h1
 refine Zr 9 <| Zdn <| ZF <| Zsg <| Zr 1 <| ZoP 23 ((a : Int) < 0) ?_ ?_
 ·
  intro h7
  refine Zr 2 <| ZoP 26 ((b : Int) < 0) ?_ ?_
  ·
   intro h8
   refine Zr 3 <| ZoPF 30 ((a + b : Int) ≥ 0) (by omega) <| Zr 2 <| Zdn <| ZF <| WE.skip <| WQ.blkN <| Zn <| Zsg <| Zr 3 <| Zdn <| WE.ret <| ZR (.tuple #[J (a + b), .bool false]) ?_
   exact ⟨by rw [sadd_3 hs], HA⟩
  intro h8
  refine Zr 6 <| Zdn <| ZF <| WE.skip <| WQ.blkN <| Zn <| Zsg <| Zr 3 <| Zdn <| WE.ret <| ZR (.tuple #[J (a + b), .bool false]) ?_
  exact ⟨by rw [sadd_3 hs], HA⟩
 intro h7
 refine Zr 9 <| Zdn <| ZF <| WE.skip <| WQ.blkN <| Zn <| Zsg <| Zr 3 <| Zdn <| WE.ret <| ZR (.tuple #[J (a + b), .bool false]) ?_
 exact ⟨by rw [sadd_3 hs], HA⟩
theorem sad_f (a b : Int) (w : World) (ha : I64 a) (hb : I64 b) : Calls Tryz.prog 69 #[.int .i64 a, .int .i64 b] w fun e w' => e = .returned (.tuple #[.int .i64 (sadd a b).1, .bool (sadd a b).2]) ∧ Fr [] w w' := by
  by_cases h1 : 9223372036854775807 < a + b
  · exact sad_1 a b w ha hb h1
  · by_cases h2 : a + b < -9223372036854775808
    · exact sad_2 a b w ha hb h2
    · exact sad_3 a b w ha hb (by omega)
set_option maxRecDepth 100000 in
set_option maxHeartbeats 400000 in
theorem rad_1 (a b : Int) (w : World) (ha : I64 a) (hb : I64 b) (hs : 9223372036854775807 < a + b) :
    Calls Tryz.prog 102 #[.int .i64 a, .int .i64 b] w fun e w' => e = .returned (.tuple #[.int .i64 (sadd a b).1, .bool (sadd a b).2]) ∧ Fr [] w w' := by
 have ha_ := ha
 have hb_ := hb
 unfold I64 at ha_ hb_
 have HA := Fr.refl [] w
 refine Ze Tryz.func102 _ <| Zsg <| Zr 2 <| Zdn <| Zq <| Zsg <| Zr 1 <| ZoPT 7 ((b : Int) > 0) (by omega) <| Zr 3 <| Zw 11 (9223372036854775807 - b) (9223372036854775807 - b) <| ZoPT 12 ((a : Int) > (9223372036854775807 - b)) (by omega) <| Zr 1 <| Zdn <| ZT <| Zsg <| Zr 2 <| Zdn <| WE.ret <| WQ.thenR <| ZR (.tuple #[J 9223372036854775807, .bool true]) ?_
 exact ⟨by rw [sadd_1 hs], HA⟩
set_option maxRecDepth 100000 in
set_option maxHeartbeats 400000 in
theorem rad_2 (a b : Int) (w : World) (ha : I64 a) (hb : I64 b) (hs : a + b < -9223372036854775808) :
    Calls Tryz.prog 102 #[.int .i64 a, .int .i64 b] w fun e w' => e = .returned (.tuple #[.int .i64 (sadd a b).1, .bool (sadd a b).2]) ∧ Fr [] w w' := by
 have ha_ := ha
 have hb_ := hb
 unfold I64 at ha_ hb_
 have HA := Fr.refl [] w
 refine Ze Tryz.func102 _ <| Zsg <| Zr 2 <| Zdn <| Zq <| Zsg <| Zr 1 <| ZoPF 7 ((b : Int) > 0) (by omega) <| Zr 6 <| Zdn <| ZF <| Zk <| Zq <| Zsg <| Zr 1 <| ZoPT 15 ((b : Int) < 0) (by omega) <| Zr 3 <| Zw 19 ((-9223372036854775808) - b) ((-9223372036854775808) - b) <| ZoPT 20 ((a : Int) < ((-9223372036854775808) - b)) (by omega) <| Zr 1 <| Zdn <| ZT <| Zsg <| Zr 2 <| Zdn <| WE.ret <| WQ.thenR <| ZR (.tuple #[J (-9223372036854775808), .bool true]) ?_
 exact ⟨by rw [sadd_2 hs], HA⟩
set_option maxRecDepth 100000 in
set_option maxHeartbeats 400000 in
theorem rad_3 (a b : Int) (w : World) (ha : I64 a) (hb : I64 b) (hs : -9223372036854775808 ≤ a + b ∧ a + b ≤ 9223372036854775807) :
    Calls Tryz.prog 102 #[.int .i64 a, .int .i64 b] w fun e w' => e = .returned (.tuple #[.int .i64 (sadd a b).1, .bool (sadd a b).2]) ∧ Fr [] w w' := by
 have ha_ := ha
 have hb_ := hb
 unfold I64 at ha_ hb_
 have HA := Fr.refl [] w
 refine Ze Tryz.func102 _ <| Zsg <| Zr 2 <| Zdn <| Zq <| Zsg <| Zr 1 <| ZoP 7 ((b : Int) > 0) ?_ ?_
 ·
  intro h1
  refine Zr 3 <| Zw 11 (9223372036854775807 - b) (9223372036854775807 - b) <| ZoPF 12 ((a : Int) > (9223372036854775807 - b)) (by omega) <| Zr 1 <| Zdn <| ZF <| Zk <| Zq <| Zsg <| Zr 1 <| ZoP 15 ((b : Int) < 0) ?_ ?_
  ·
   intro h2
   refine Zr 3 <| Zw 19 ((-9223372036854775808) - b) ((-9223372036854775808) - b) <| ZoPF 20 ((a : Int) < ((-9223372036854775808) - b)) (by omega) <| Zr 1 <| Zdn <| ZF <| Zk <| Zsg <| Zr 2 <| Zw 24 (a + b) (a + b) <| Zr 2 <| Zdn <| WE.ret <| ZR (.tuple #[J (a + b), .bool false]) ?_
   exact ⟨by rw [sadd_3 hs], HA⟩
  intro h2
  refine Zr 6 <| Zdn <| ZF <| Zk <| Zsg <| Zr 2 <| Zw 24 (a + b) (a + b) <| Zr 2 <| Zdn <| WE.ret <| ZR (.tuple #[J (a + b), .bool false]) ?_
  exact ⟨by rw [sadd_3 hs], HA⟩
 intro h1
 refine Zr 6 <| Zdn <| ZF <| Zk <| Zq <| Zsg <| Zr 1 <| ZoP 15 ((b : Int) < 0) ?_ ?_
 ·
  intro h3
  refine Zr 3 <| Zw 19 ((-9223372036854775808) - b) ((-9223372036854775808) - b) <| ZoPF 20 ((a : Int) < ((-9223372036854775808) - b)) (by omega) <| Zr 1 <| Zdn <| ZF <| Zk <| Zsg <| Zr 2 <| Zw 24 (a + b) (a + b) <| Zr 2 <| Zdn <| WE.ret <| ZR (.tuple #[J (a + b), .bool false]) ?_
  exact ⟨by rw [sadd_3 hs], HA⟩
 intro h3
 refine Zr 6 <| Zdn <| ZF <| Zk <| Zsg <| Zr 2 <| Zw 24 (a + b) (a + b) <| Zr 2 <| Zdn <| WE.ret <| ZR (.tuple #[J (a + b), .bool false]) ?_
 exact ⟨by rw [sadd_3 hs], HA⟩
theorem rad_f (a b : Int) (w : World) (ha : I64 a) (hb : I64 b) : Calls Tryz.prog 102 #[.int .i64 a, .int .i64 b] w fun e w' => e = .returned (.tuple #[.int .i64 (sadd a b).1, .bool (sadd a b).2]) ∧ Fr [] w w' := by
  by_cases h1 : 9223372036854775807 < a + b
  · exact rad_1 a b w ha hb h1
  · by_cases h2 : a + b < -9223372036854775808
    · exact rad_2 a b w ha hb h2
    · exact rad_3 a b w ha hb (by omega)
set_option maxRecDepth 100000 in
set_option maxHeartbeats 400000 in
theorem bkt_f (v : Int) (w : World) (hv : I64 v) :
    Calls Tryz.prog 89 #[.int .i64 v] w fun e w' => e = .returned (.int .i64 ((bl v : Nat) : Int)) ∧ Fr [] w w' := by
 have hmz_ := mz_le hv
 have HA := Fr.refl [] w
 refine Ze Tryz.func89 _ <| Zsg <| Zr 1 <| Zdn <| Zsg <| Zr 1 <| Zo 4 (J (if v < 0 then 0 else v)) <| WO.top (v' := J ((mz v : Nat) : Int)) (congrArg (Value.int .i64) (mz_eq v)) <| Zwur 5 ((mz v : Nat) : Int) ((mz v : Nat) : Int) ?_
 have hmz_ := mz_le hv
 refine Zcf 6 (Tryz.bits_Len64 ((mz v : Nat) : Int) _ (by omega) (by omega)) ?_
 intro w1 rfl
 refine Zr 1 <| Zdn <| WE.ret <| ZR (J (bl v : Int)) ?_
 exact ⟨rfl, HA⟩
set_option maxRecDepth 100000 in
set_option maxHeartbeats 400000 in
theorem rbkt_f (v : Int) (w : World) (hv : I64 v) :
    Calls Tryz.prog 103 #[.int .i64 v] w fun e w' => e = .returned (.int .i64 ((bl v : Nat) : Int)) ∧ Fr [] w w' := by
 have HA := Fr.refl [] w
 refine Ze Tryz.func103 _ <| Zsg <| Zr 1 <| Zdn <| Zsg <| Zr 1 <| Zdn <| Zq <| WE.block <| WE.loop (α := Int × Nat) (E := fun ⟨x, n⟩ => [(0, J x), (2, J 0), (3, J (n : Int))]) (I := fun ⟨x, n⟩ wr => x ≤ 9223372036854775807 ∧ bl x + n = bl v ∧ n ≤ 64 ∧ Fr [] w wr) (m := fun ⟨x, n⟩ => x.toNat) (v, 0) [0, 2, 3] (by kernel_rfl) ?_ ?_
 ·
  exact ⟨hv.2, by omega, by omega, HA⟩
 rintro ⟨x, n⟩ wr ⟨hxr, hx, hn, HA⟩
 have hle_ := bl_le hv
 refine Zq <| Zsg <| Zr 1 <| ZoP 5 ((x : Int) > 0) ?_ ?_
 ·
  intro h1
  refine Zdn <| ZT <| Zk <| WE.block <| Zsg <| Zr 1 <| Zo 7 (J (IntKind.i64.wrap ((x : Int).tdiv 2))) <| WO.top (v' := J (x / 2)) (tdiv2 (by omega) (by omega)) <| Zr 1 <| Zdn <| WE.region <| Zr 1 <| Zw 9 ((n : Int) + 1) ((n + 1 : Nat) : Int) <| Zr 1 <| Zd <| WQ.blkN <| WQ.round ?_
  intro a_ ha_
  refine ⟨(x / 2, n + 1), ?_, ha_.keep [0, 2, 3] (by kernel_rfl), ?_⟩
  ·
   show (x / 2).toNat < x.toNat; omega
  ·
   exact ⟨by omega, by have := bl_s (v := x) (by omega) hxr; omega, by have := bl_s (v := x) (by omega) hxr; omega, HA⟩
 intro h1
 refine Zdn <| ZF <| WE.exit <| WQ.thenE <| WQ.thenE <| WQ.blkE <| Zn <| Zsg <| Zr 2 <| Zdn <| WE.ret <| ZR (J (n : Int)) ?_
 exact ⟨by rw [show n = bl v by rw [← hx, bl_0 (by omega)]; omega], HA⟩
set_option maxRecDepth 100000 in
set_option maxHeartbeats 400000 in
theorem clu_s (ad : Addr) (n cp : Nat) (q : List Nat) (F : List Nat) (w : World) (HV : VX cN 1 w F (some ad) q) (hn : q.length = n) (hl : n ≤ 1000000) :
    Calls Tryz.prog 54 #[.slice (some ad) n cp] w fun e w' => ∃ A' c' F', e = .returned (.slice A' n c') ∧ OwnX 46 1 w' F' (.slice A' n c') (q.map cN) ∧ (∀ y ∈ F', w.heap.size ≤ y) ∧ Fr [] w w' := by
 have HA := Fr.refl [] w
 refine Ze Tryz.func54 _ <| Zsg <| Zr 1 <| Zdn <| Zq <| Zsg <| Zr 2 <| Zdn <| ZF <| Zk <| Zsg <| Zb 5 #[] 46 (fun g => .slice (some ⟨g, 0, none⟩) 0 0) ?_
 intro g1 w2 HB4 F3 le5 _
 have ge_HA_g1 := Nat.le_trans HA.size le5
 refine Zr 1 ?_
 have HR11 := RowB.of_blk (n := 0) HB4 (List.map cN []) rfl rfl (cN_len _) (cN_one _) (by omega)
 refine Zar (n := 0) (m := n) (ys := List.map cN q) 7 et_n HR11 ((List.length_map _).trans ((rfl : List.length ([] : List Nat) = 0))) ((HV.keep F3 dj0).srcN hn (cN_len _) (cN_one _) cp) (cN_len _) (cN_one _) ?_
 intro b6 cap7 w8 HR9 F10 hb12
 have HA := HA.step0 F3
 have in_HA_b6 : b6 ∈ [] ∨ (World.heap w).size ≤ b6 := hb12.elim (fun h => Or.inr (h ▸ ge_HA_g1)) (fun h => Or.inr (Nat.le_trans HA.size h))
 have HR9 : RowB w8 b6 46 1 cap7 ((([] : List Nat) ++ q).map cN) := by rw [List.map_append]; exact HR9
 refine Zr 1 <| Zdn <| WE.ret <| ZR (.slice (some ⟨b6, 0, none⟩) (0 + n) cap7) ?_
 have h_ := HR9
 rw [List.nil_append] at h_
 exact ⟨some ⟨b6, 0, none⟩, cap7, [b6], by rw [Nat.zero_add], OwnX.row h_ ((List.length_map _).trans hn), fun y hy => by rw [List.mem_singleton.1 hy]; exact in_HA_b6.resolve_left (by simp), (HA.step F10 (inSR ge_HA_g1 inS0))⟩
set_option maxRecDepth 100000 in
set_option maxHeartbeats 400000 in
theorem clu_n (cp : Nat) (w : World) :
    Calls Tryz.prog 54 #[.slice none 0 cp] w fun e w' => e = .returned (.slice none 0 0) ∧ Fr [] w w' := by
 have HA := Fr.refl [] w
 refine Ze Tryz.func54 _ <| Zsg <| Zr 1 <| Zdn <| Zq <| Zsg <| Zr 2 <| Zdn <| ZT <| Zsg <| Zr 1 <| Zdn <| WE.ret <| WQ.thenR <| ZR (.slice none 0 0) ?_
 exact ⟨rfl, HA⟩
theorem clu_f (A : Option Addr) (n cp : Nat) (q : List Nat) (F : List Nat) (w : World) (HV : VX cN 1 w F A q) (hn : q.length = n) (hl : n ≤ 1000000) : Calls Tryz.prog 54 #[.slice A n cp] w fun e w' => ∃ A' c' F', e = .returned (.slice A' n c') ∧ OwnX 46 1 w' F' (.slice A' n c') (q.map cN) ∧ (∀ y ∈ F', w.heap.size ≤ y) ∧ Fr [] w w' := by
  cases A with
  | some ad => exact clu_s ad n cp q F w HV hn hl
  | none =>
    have h0 : q.length = 0 := by
      rcases Nat.eq_zero_or_pos q.length with h | h
      · exact h
      · obtain ⟨ad, h1, _⟩ := HV.get h
        cases h1
    obtain rfl := List.length_eq_zero_iff.1 h0
    obtain rfl : n = 0 := by rw [← hn]; rfl
    exact (clu_n cp w).mono fun e w' ⟨h1, h2⟩ => ⟨none, 0, [], h1, OwnX.nil _ _ _, by simp, h2⟩
end Go.Proofs.YtdhonbahpcmmnaaGreatDoor.Bat
end
