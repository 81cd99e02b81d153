/- Layer 9's law JournalKeeps. -/
import Derived.Test.YtkhibpdkgjapgaaJrnD
set_option linter.unusedVariables false
set_option linter.unusedSimpArgs false
namespace Go.Proofs.Ytkhibpdkgjapgaa.Jrn
open Go Go.RowKit Go.Proofs.Ytkhibpdkgjapgaa Go.Proofs.Ytkhibpdkgjapgaa.Eng Go.Proofs.YtkhibpdkgjapgaaW.PrintWords
open Go.Proofs.Ytkhibpdkgjapgaa.Disk
open Go.Proofs.Ytkhibpdkgjapgaa.Wire (encT rText)
set_option maxRecDepth 100000 in
set_option maxHeartbeats 400000 in
theorem up_any (w : World) :
    Calls Try.prog 26 #[] w fun e w' => e = .returned (.bool true) ∧ Fr [] w w' := by
  have ok0 : Dk.Ok ⟨100, [], false⟩ := ⟨List.Pairwise.nil, by simp, by decide, by decide, by simp⟩
  have HA := Fr.refl [] w
  refine enter (N := 70) Try.func26 (c := _) rfl (by kernel_rfl) (by kernel_rfl) (e := []) (by kernel_rfl) ?_
  refine WE.seq ?_
  refine WE.region ?_
  refine WO.run 1 0 [(0, .bool false)] (by kernel_rfl) (by kernel_rfl) ?_
  refine WO.done (by kernel_rfl) ?_
  refine WQ.thenN ?_
  refine WE.seq ?_
  refine WE.region ?_
  refine WO.call (SQ.E 0 (by kernel_rfl)) 11 (by kernel_rfl) (gnew 100 _ (by omega)) ?_
  rintro _ w1 ⟨g3, D4, rfl, HG6, F2, hg5⟩
  refine ⟨_, rfl, trivial, ?_⟩
  have ge_HA_D4 : ∀ y ∈ D4, (World.heap w).size ≤ y := grow_ge hg5 (by simp) HA.size
  have HA := Fr.step0 HA F2
  refine WO.run 5 1 [(2, .nilIface), (1, .pointer (some ⟨g3, 0, none⟩)), (13, .nilIface), (12, .pointer (some ⟨g3, 0, none⟩)), (10, .tuple #[.pointer (some ⟨g3, 0, none⟩), .nilIface])] (by kernel_rfl) (by kernel_rfl) ?_
  refine WO.done (by kernel_rfl) ?_
  refine WQ.keep [0, 1, 2] (e' := [(0, .bool false), (1, .pointer (some ⟨g3, 0, none⟩)), (2, .nilIface)]) (by kernel_rfl) ?_
  refine WQ.thenN ?_
  refine WE.seq ?_
  refine WE.seq ?_
  refine WE.region ?_
  refine WO.run 6 0 [(19, .bool false), (18, .bool false), (17, .nilIface), (16, .bool false), (15, .bool false), (14, .pointer (some ⟨g3, 0, none⟩))] (by kernel_rfl) (by kernel_rfl) ?_
  refine WO.done (by kernel_rfl) ?_
  refine WQ.keep [0, 1, 2, 19] (e' := [(0, .bool false), (1, .pointer (some ⟨g3, 0, none⟩)), (2, .nilIface), (19, .bool false)]) (by kernel_rfl) ?_
  refine WQ.thenN ?_
  refine WE.condF (by kernel_rfl) ?_
  refine WE.skip ?_
  refine WQ.thenN ?_
  refine WE.seq ?_
  refine WE.region ?_
  refine WO.run 1 0 [(21, .pointer (some ⟨g3, 0, none⟩))] (by kernel_rfl) (by kernel_rfl) ?_
  refine WO.call (SQ.E 1 (by kernel_rfl)) 22 (by kernel_rfl) (open_f g3 2 (⟨100, [], false⟩ : Dk) [] D4 _ HG6 ok0 (by omega) rfl trivial (by simp) (by simp [allR])) ?_
  rintro _ w7 ⟨gj9, D10, J11, rfl, HG12, HJ13, F8, hg14, hgJ15, hdj16⟩
  refine ⟨_, rfl, trivial, ?_⟩
  have hgJ15r := fun y hy => Or.inr (a := y ∈ ([] : List Nat)) (hgJ15 y hy)
  have ge_HA_D10 : ∀ y ∈ D10, (World.heap w).size ≤ y := grow_ge hg14 ge_HA_D4 HA.size
  have dj_J11_D4 : ∀ y ∈ J11, y ∉ D4 := grow_dj hgJ15r (by simp) (GDisk.lt HG6)
  have ge_HA_J11 : ∀ y ∈ J11, (World.heap w).size ≤ y := grow_ge hgJ15r (by simp) HA.size
  have HA := Fr.step HA F8 (inF ge_HA_D4)
  change GDisk w7 g3 D10 (⟨100, [], false⟩ : Dk) at HG12
  change Jn w7 gj9 J11 g3 2 (([] : List Seg).map fun g => g.n) (allR []) at HJ13
  refine WO.run 5 2 [(4, .nilIface), (3, .pointer (some ⟨gj9, 0, none⟩)), (24, .nilIface), (23, .pointer (some ⟨gj9, 0, none⟩)), (20, .tuple #[.pointer (some ⟨gj9, 0, none⟩), .nilIface])] (by kernel_rfl) (by kernel_rfl) ?_
  refine WO.done (by kernel_rfl) ?_
  refine WQ.keep [0, 1, 2, 3, 4, 19] (e' := [(0, .bool false), (1, .pointer (some ⟨g3, 0, none⟩)), (2, .nilIface), (3, .pointer (some ⟨gj9, 0, none⟩)), (4, .nilIface), (19, .bool false)]) (by kernel_rfl) ?_
  refine WQ.thenN ?_
  refine WE.seq ?_
  refine WE.region ?_
  refine WO.call (SQ.E 0 (by kernel_rfl)) 26 (by kernel_rfl) (open_nil 2 _) ?_
  rintro _ w17 ⟨rfl, F18⟩
  refine ⟨_, rfl, trivial, ?_⟩
  have HG12 := GDisk.keep HG12 F18 (fun _ _ => nin0 _)
  have HJ13 := Jn.keep HJ13 F18 (fun _ _ => nin0 _)
  have HA := Fr.step0 HA F18
  refine WO.run 5 1 [(6, .iface 36 (.int .i64 1)), (5, .pointer none), (28, .iface 36 (.int .i64 1)), (27, .pointer none), (25, .tuple #[.pointer none, .iface 36 (.int .i64 1)])] (by kernel_rfl) (by kernel_rfl) ?_
  refine WO.done (by kernel_rfl) ?_
  refine WQ.keep [0, 1, 2, 3, 4, 6, 19] (e' := [(0, .bool false), (1, .pointer (some ⟨g3, 0, none⟩)), (2, .nilIface), (3, .pointer (some ⟨gj9, 0, none⟩)), (4, .nilIface), (6, .iface 36 (.int .i64 1)), (19, .bool false)]) (by kernel_rfl) ?_
  refine WQ.thenN ?_
  refine WE.seq ?_
  refine WE.seq ?_
  refine WE.region ?_
  refine WO.run 6 0 [(34, .bool false), (33, .bool false), (32, .nilIface), (31, .bool false), (30, .bool false), (29, .pointer (some ⟨gj9, 0, none⟩))] (by kernel_rfl) (by kernel_rfl) ?_
  refine WO.done (by kernel_rfl) ?_
  refine WQ.keep [0, 1, 2, 3, 4, 6, 19, 34] (e' := [(0, .bool false), (1, .pointer (some ⟨g3, 0, none⟩)), (2, .nilIface), (3, .pointer (some ⟨gj9, 0, none⟩)), (4, .nilIface), (6, .iface 36 (.int .i64 1)), (19, .bool false), (34, .bool false)]) (by kernel_rfl) ?_
  refine WQ.thenN ?_
  refine WE.condF (by kernel_rfl) ?_
  refine WE.skip ?_
  refine WQ.thenN ?_
  refine WE.seq ?_
  refine WE.region ?_
  refine WO.run 1 0 [(35, .pointer (some ⟨gj9, 0, none⟩))] (by kernel_rfl) (by kernel_rfl) ?_
  refine WO.bx (SQ.E 1 (by kernel_rfl)) 36 #[.int .u8 97] 5 (fun g => .slice (some ⟨g, 0, none⟩) 1 1) (by kernel_rfl) (fun _ _ => trivial) ?_
  intro g19 w20 HB22 F21 le23 _
  have nin_g19_D10 : g19 ∉ D10 := new_nin (GDisk.lt HG12) le23
  have nin_g19_J11 : g19 ∉ J11 := new_nin (Jn.lt HJ13) le23
  have ge_HA_g19 := Nat.le_trans HA.size le23
  have HG12 := GDisk.keep HG12 F21 (fun _ _ => nin0 _)
  have HJ13 := Jn.keep HJ13 F21 (fun _ _ => nin0 _)
  have HA := Fr.step0 HA F21
  refine WO.cst (g := g19) (n := 1) (c := 1) (SQ.E 2 (by kernel_rfl)) 37 byt ([(97 : UInt8)] : List UInt8) (by kernel_rfl) HB22 rfl (fun _ _ => trivial) ?_
  intro w24 HV26 F25
  have HG12 := GDisk.keep HG12 F25 (djB nin_g19_D10)
  have HJ13 := Jn.keep HJ13 F25 (djB nin_g19_J11)
  have HA := Fr.step HA F25 (inSR ge_HA_g19 inS0)
  obtain ⟨F27, hF27⟩ : ∃ F_, F_ = [g19] := ⟨_, rfl⟩
  rw [← hF27] at HV26
  have dj_F27_D10 : ∀ y ∈ F27, y ∉ D10 := by rw [hF27]; intro y hy; rw [List.mem_singleton.1 hy]; exact nin_g19_D10
  have dj_F27_J11 : ∀ y ∈ F27, y ∉ J11 := by rw [hF27]; intro y hy; rw [List.mem_singleton.1 hy]; exact nin_g19_J11
  have ge_HA_F27 : ∀ y ∈ F27, (World.heap w).size ≤ y := by rw [hF27]; intro y hy; rw [List.mem_singleton.1 hy]; exact ge_HA_g19
  refine WO.call (SQ.E 3 (by kernel_rfl)) 38 (by kernel_rfl) (jstep 100 gj9 g3 2 (⟨100, [], false⟩ : Dk) [] 0 D10 J11 F27 _ 1 1 [97] _ HG12 HJ13 ⟨rfl, rfl, rfl, ok0, trivial, by simp, by simp [allR], Nat.zero_le _, .inl rfl⟩ hdj16 HV26 rfl (by intro y hy; exact (List.mem_append.1 hy).elim ((dj_symm dj_F27_D10) y) ((dj_symm dj_F27_J11) y)) ⟨⟨by decide, by decide⟩, by decide⟩ (by decide) (by have := encT_len [97] ⟨by decide, by decide⟩; simp only [allR, flat, List.map_nil, List.flatten_nil, List.length_nil, List.length_cons] at *; omega) (by omega)) ?_
  rintro _ w28 ⟨rfl, D30, J31, d32, sg33, HG34, HJ35, hrs36, ho37, F29, hg38, hgJ39, hdj40⟩
  refine ⟨_, rfl, trivial, ?_⟩
  obtain ⟨U41, hU41⟩ : ∃ U_, U_ = D10 ++ J11 := ⟨_, rfl⟩
  have dj_U41_F27 : ∀ y ∈ U41, y ∉ F27 := by rw [hU41]; exact fun y hy => (List.mem_append.1 hy).elim ((dj_symm dj_F27_D10) y) ((dj_symm dj_F27_J11) y)
  have ge_HA_U41 : ∀ y ∈ U41, (World.heap w).size ≤ y := by rw [hU41]; exact fun y hy => (List.mem_append.1 hy).elim (ge_HA_D10 y) (ge_HA_J11 y)
  rw [← hU41] at F29 hg38 hgJ39
  have dj_D30_F27 : ∀ y ∈ D30, y ∉ F27 := grow_dj hg38 dj_U41_F27 HV26.lt
  have ge_HA_D30 : ∀ y ∈ D30, (World.heap w).size ≤ y := grow_ge hg38 ge_HA_U41 HA.size
  have dj_J31_F27 : ∀ y ∈ J31, y ∉ F27 := grow_dj hgJ39 dj_U41_F27 HV26.lt
  have ge_HA_J31 : ∀ y ∈ J31, (World.heap w).size ≤ y := grow_ge hgJ39 ge_HA_U41 HA.size
  have HV26 := HV26.keep F29 (dj_symm dj_U41_F27)
  have HA := Fr.step HA F29 (inF ge_HA_U41)
  refine WO.run 1 4 [(7, .nilIface)] (by kernel_rfl) (by kernel_rfl) ?_
  refine WO.done (by kernel_rfl) ?_
  refine WQ.keep [0, 1, 2, 3, 4, 6, 7, 19, 34] (e' := [(0, .bool false), (1, .pointer (some ⟨g3, 0, none⟩)), (2, .nilIface), (3, .pointer (some ⟨gj9, 0, none⟩)), (4, .nilIface), (6, .iface 36 (.int .i64 1)), (7, .nilIface), (19, .bool false), (34, .bool false)]) (by kernel_rfl) ?_
  refine WQ.thenN ?_
  refine WE.seq ?_
  have hsg1 : allR sg33 = [[97]] := hrs36
  rw [hsg1] at HJ35
  have hch_ := ho37.chain
  have hct_ := seg_count sg33 ho37.full
  rw [hsg1] at hct_
  obtain ⟨vP, vL, FP, FL, FE2, xs2, hJe, nP, nL, nE, dPL, dPE, dLE, HJB, HOP, HOL, HE2⟩ := HJ35
  obtain ⟨Ap, cp, rfl⟩ := HOP.sliceN (n := (sg33.map fun g => g.n).length) (by simp)
  obtain ⟨Al, cl, rfl⟩ := HOL.sliceN (n := xs2.length) (by simp)
  have HVP := VX.of_own HOP
  have HVL := VX.of_own HOL
  have hxl2 := HE2.len
  have hf0 : firstN (sg33.map fun g => g.n) = 0 := chain_first hch_
  have hxq : xs2.length = 1 := hxl2
  have hpl_ : (sg33.map fun g => g.n).length ≤ 1 := by rw [List.length_map]; exact hct_
  refine WE.region ?_
  refine WO.run 1 0 [(40, .pointer (some ⟨gj9, 0, none⟩))] (by kernel_rfl) (by kernel_rfl) ?_
  refine WO.call (SQ.E 1 (by kernel_rfl)) 41 (by kernel_rfl) (jrec_f gj9 g3 2 Ap Al _ cp _ cl (sg33.map fun g => g.n) xs2 _ FP FL FE2 0 [97] _ HJB HVP rfl HVL rfl HE2 nP nL nE (by omega) (by omega) hf0 (by omega) (gR_some xs2 0 (by omega)) rfl (by first | omega | decide) (by first | omega | decide)) ?_
  rintro _ w42 ⟨b44, cp45, rfl, hc48, HVc46, F43, ge47⟩
  refine ⟨_, rfl, trivial, ?_⟩
  have ne_gj9_b44 : gj9 ≠ b44 := Nat.ne_of_lt (Nat.lt_of_lt_of_le HJB.lt ge47)
  have nin_b44_FP : b44 ∉ FP := new_nin HVP.lt ge47
  have nin_b44_FL : b44 ∉ FL := new_nin HVL.lt ge47
  have nin_b44_FE2 : b44 ∉ FE2 := new_nin (EV.lt HE2) ge47
  have ge_HA_b44 := Nat.le_trans HA.size ge47
  obtain ⟨F49, hF49⟩ : ∃ F_, F_ = [b44] := ⟨_, rfl⟩
  rw [← hF49] at HVc46
  have nin_gj9_F49 : gj9 ∉ F49 := by rw [hF49]; simpa using ne_gj9_b44
  have dj_F49_FP : ∀ y ∈ F49, y ∉ FP := by rw [hF49]; intro y hy; rw [List.mem_singleton.1 hy]; exact nin_b44_FP
  have dj_F49_FL : ∀ y ∈ F49, y ∉ FL := by rw [hF49]; intro y hy; rw [List.mem_singleton.1 hy]; exact nin_b44_FL
  have dj_F49_FE2 : ∀ y ∈ F49, y ∉ FE2 := by rw [hF49]; intro y hy; rw [List.mem_singleton.1 hy]; exact nin_b44_FE2
  have ge_HA_F49 : ∀ y ∈ F49, (World.heap w).size ≤ y := by rw [hF49]; intro y hy; rw [List.mem_singleton.1 hy]; exact ge_HA_b44
  have HJB := Blk.keep HJB F43 (nin0 _)
  have HVP := HVP.keep F43 (fun _ _ => nin0 _)
  have HVL := HVL.keep F43 (fun _ _ => nin0 _)
  have HE2 := EV.keep HE2 F43 (fun _ _ => nin0 _)
  have HA := Fr.step0 HA F43
  refine WO.run 5 2 [(9, .nilIface), (8, .slice (some ⟨b44, 0, none⟩) ([97].length) cp45), (43, .nilIface), (42, .slice (some ⟨b44, 0, none⟩) ([97].length) cp45), (39, .tuple #[.slice (some ⟨b44, 0, none⟩) ([97].length) cp45, .nilIface])] (by kernel_rfl) (by kernel_rfl) ?_
  refine WO.done (by kernel_rfl) ?_
  refine WQ.keep [0, 1, 2, 3, 4, 6, 7, 8, 9, 19, 34] (e' := [(0, .bool false), (1, .pointer (some ⟨g3, 0, none⟩)), (2, .nilIface), (3, .pointer (some ⟨gj9, 0, none⟩)), (4, .nilIface), (6, .iface 36 (.int .i64 1)), (7, .nilIface), (8, .slice (some ⟨b44, 0, none⟩) ([97].length) cp45), (9, .nilIface), (19, .bool false), (34, .bool false)]) (by kernel_rfl) ?_
  refine WQ.thenN ?_
  refine WE.seq ?_
  refine WE.region ?_
  refine WO.run 5 0 [(48, .pointer (some ⟨gj9, 0, none⟩)), (47, .bool true), (46, .bool true), (45, .iface 36 (.int .i64 1)), (44, .iface 36 (.int .i64 1))] (by kernel_rfl) (by kernel_rfl) ?_
  refine WO.call (SQ.E 5 (by kernel_rfl)) 49 (by kernel_rfl) (first_j gj9 g3 2 Ap Al _ cp _ cl (sg33.map fun g => g.n) FP _ HJB HVP rfl nP (by omega) (by omega)) ?_
  rintro _ w50 ⟨rfl, F51⟩
  rw [hf0]
  refine ⟨_, rfl, trivial, ?_⟩
  have HJB := Blk.keep HJB F51 (nin0 _)
  have HVP := HVP.keep F51 (fun _ _ => nin0 _)
  have HVL := HVL.keep F51 (fun _ _ => nin0 _)
  have HE2 := EV.keep HE2 F51 (fun _ _ => nin0 _)
  have HVc46 := HVc46.keep F51 (fun _ _ => nin0 _)
  have HA := Fr.step0 HA F51
  refine WO.run 4 6 [(53, .pointer (some ⟨gj9, 0, none⟩)), (52, .bool true), (51, .bool true), (50, .bool true)] (by kernel_rfl) (by kernel_rfl) ?_
  refine WO.call (SQ.E 10 (by kernel_rfl)) 54 (by kernel_rfl) (next_j gj9 g3 2 Ap Al _ cp _ cl (sg33.map fun g => g.n) FP _ HJB HVP rfl nP (by omega) (by omega) (by rw [hf0]; omega)) ?_
  rintro _ w52 ⟨rfl, F53⟩
  rw [hf0]
  refine ⟨_, rfl, trivial, ?_⟩
  have HJB := Blk.keep HJB F53 (nin0 _)
  have HVP := HVP.keep F53 (fun _ _ => nin0 _)
  have HVL := HVL.keep F53 (fun _ _ => nin0 _)
  have HE2 := EV.keep HE2 F53 (fun _ _ => nin0 _)
  have HVc46 := HVc46.keep F53 (fun _ _ => nin0 _)
  have HA := Fr.step0 HA F53
  refine WO.one (SQ.F 11 (by kernel_rfl)) 55 (.bool (decide ((0 + (xs2.length : Int) : Int) = 1))) (by kernel_rfl) ?_
  refine WO.topPT ((0 + (xs2.length : Int) : Int) = 1) (by omega) ?_
  refine WO.run 11 12 [(66, .slice (some ⟨b44, 0, none⟩) ([97].length) cp45), (65, .bool true), (64, .bool true), (63, .bool true), (62, .nilIface), (61, .bool true), (60, .bool true), (59, .bool true), (58, .nilIface), (57, .bool true), (56, .bool true)] (by kernel_rfl) (by kernel_rfl) ?_
  refine WO.b2s (v := .slice (some ⟨b44, 0, none⟩) ([97].length) cp45) (SQ.S 23 (by kernel_rfl)) 67 byt ([97]) (n := ([97].length)) (rfl : List.length [97] = _) (by kernel_rfl) (same (HVc46.srcN (rfl : List.length [97] = _) (cB_len _) (cB_one _) cp45)) ?_
  refine WO.one (SQ.F 24 (by kernel_rfl)) 68 (.bool ((str ([97])).toList == (⟨#[97]⟩ : ByteArray).toList)) (by kernel_rfl) ?_
  refine WO.top (v' := .bool (decide ((str ([97])) = (⟨#[97]⟩ : ByteArray)))) (congrArg Value.bool (streq (str ([97])) (⟨#[97]⟩ : ByteArray))) ?_
  refine WO.run 2 25 [(0, .bool (decide ((str ([97])) = (⟨#[97]⟩ : ByteArray)))), (69, .bool (decide ((str ([97])) = (⟨#[97]⟩ : ByteArray))))] (by kernel_rfl) (by kernel_rfl) ?_
  refine WO.done (by kernel_rfl) ?_
  refine WQ.keep [0, 1, 2, 3, 4, 6, 7, 8, 9, 19, 34] (e' := [(0, .bool (decide ((str ([97])) = (⟨#[97]⟩ : ByteArray)))), (1, .pointer (some ⟨g3, 0, none⟩)), (2, .nilIface), (3, .pointer (some ⟨gj9, 0, none⟩)), (4, .nilIface), (6, .iface 36 (.int .i64 1)), (7, .nilIface), (8, .slice (some ⟨b44, 0, none⟩) ([97].length) cp45), (9, .nilIface), (19, .bool false), (34, .bool false)]) (by kernel_rfl) ?_
  refine WQ.thenN ?_
  refine WE.ret ?_
  refine WQ.ret (v := .bool (decide ((str ([97])) = (⟨#[97]⟩ : ByteArray)))) (by kernel_rfl) ?_
  exact ⟨rfl, HA⟩

set_option maxRecDepth 100000 in
set_option maxHeartbeats 400000 in
theorem keeps_neg (many : Int) (AX : Option Addr) (nX cX : Nat) (xs : List RX) (rs : List (List UInt8)) (FX FE : List Nat) (keep : Int) (w : World) (hkr : -9223372036854775808 ≤ keep ∧ keep ≤ 9223372036854775807) (HX : VX cR 1 w FX AX xs) (hnX : xs.length = nX) (HE0 : EV w FE xs rs) (hnm : nX ≤ 9223372036854775807) (sy : Int) (hsy : sy < 0) :
    Calls Try.prog 5 #[.int .i64 many, .slice AX nX cX, .int .i64 sy, .int .i64 keep] w fun e w' => e = .returned (.bool true) ∧ Fr [] w w' := by
  have ok0 : Dk.Ok ⟨60000, [], false⟩ := ⟨List.Pairwise.nil, by simp, by decide, by decide, by simp⟩
  have HA := Fr.refl [] w
  refine enter (N := 163) Try.func5 (c := _) rfl (by kernel_rfl) (by kernel_rfl) (e := [(0, .int .i64 many), (1, .slice AX nX cX), (2, .int .i64 sy), (3, .int .i64 keep)]) (by kernel_rfl) ?_
  refine WE.seq ?_
  refine WE.region ?_
  refine WO.run 1 0 [(8, .bool false)] (by kernel_rfl) (by kernel_rfl) ?_
  refine WO.done (by kernel_rfl) ?_
  refine WQ.keep [0, 1, 2, 3, 8] (e' := [(0, .int .i64 many), (1, .slice AX nX cX), (2, .int .i64 sy), (3, .int .i64 keep), (8, .bool false)]) (by kernel_rfl) ?_
  refine WQ.thenN ?_
  refine WE.seq ?_
  refine WE.region ?_
  refine WO.call (SQ.E 0 (by kernel_rfl)) 22 (by kernel_rfl) (up_any _) ?_
  rintro _ w1 ⟨rfl, F2⟩
  refine ⟨_, rfl, trivial, ?_⟩
  have HX := HX.keep F2 (fun _ _ => nin0 _)
  have HA := Fr.step0 HA F2
  refine WO.run 1 1 [(9, .bool true)] (by kernel_rfl) (by kernel_rfl) ?_
  refine WO.done (by kernel_rfl) ?_
  refine WQ.keep [0, 1, 2, 3, 8, 9] (e' := [(0, .int .i64 many), (1, .slice AX nX cX), (2, .int .i64 sy), (3, .int .i64 keep), (8, .bool false), (9, .bool true)]) (by kernel_rfl) ?_
  refine WQ.thenN ?_
  refine WE.seq ?_
  refine WE.region ?_
  refine WO.call (SQ.E 0 (by kernel_rfl)) 24 (by kernel_rfl) (gnew 60000 _ (by omega)) ?_
  rintro _ w3 ⟨g5, D6, rfl, HG8, F4, hg7⟩
  refine ⟨_, rfl, trivial, ?_⟩
  have dj_D6_FX : ∀ y ∈ D6, y ∉ FX := grow_dj hg7 (by simp) HX.lt
  have ge_HA_D6 : ∀ y ∈ D6, (World.heap w).size ≤ y := grow_ge hg7 (by simp) HA.size
  have HX := HX.keep F4 (fun _ _ => nin0 _)
  have HA := Fr.step0 HA F4
  refine WO.run 5 1 [(11, .nilIface), (10, .pointer (some ⟨g5, 0, none⟩)), (26, .nilIface), (25, .pointer (some ⟨g5, 0, none⟩)), (23, .tuple #[.pointer (some ⟨g5, 0, none⟩), .nilIface])] (by kernel_rfl) (by kernel_rfl) ?_
  refine WO.done (by kernel_rfl) ?_
  refine WQ.keep [0, 1, 2, 3, 8, 9, 10, 11] (e' := [(0, .int .i64 many), (1, .slice AX nX cX), (2, .int .i64 sy), (3, .int .i64 keep), (8, .bool false), (9, .bool true), (10, .pointer (some ⟨g5, 0, none⟩)), (11, .nilIface)]) (by kernel_rfl) ?_
  refine WQ.thenN ?_
  refine WE.seq ?_
  refine WE.seq ?_
  refine WE.region ?_
  refine WO.run 9 0 [(35, .int .i64 (nX : Int)), (34, .slice AX nX cX), (33, .bool false), (32, .bool false), (31, .bool false), (30, .nilIface), (29, .bool false), (28, .bool false), (27, .pointer (some ⟨g5, 0, none⟩))] (by kernel_rfl) (by kernel_rfl) ?_
  refine WO.one (SQ.F 9 (by kernel_rfl)) 36 (.bool (decide (((nX : Int) : Int) > (30 : Int)))) (by kernel_rfl) ?_
  refine WO.topP (((nX : Int) : Int) > (30 : Int)) ?_ ?_
  · intro h9
    refine WO.run 11 10 [(47, .bool true), (46, undef), (45, undef), (44, undef), (43, undef), (42, .bool true), (41, .bool true), (40, undef), (39, undef), (38, .bool true), (37, .bool true)] (by kernel_rfl) (by kernel_rfl) ?_
    refine WO.done (by kernel_rfl) ?_
    refine WQ.keep [0, 1, 2, 3, 8, 9, 10, 11, 47] (e' := [(0, .int .i64 many), (1, .slice AX nX cX), (2, .int .i64 sy), (3, .int .i64 keep), (8, .bool false), (9, .bool true), (10, .pointer (some ⟨g5, 0, none⟩)), (11, .nilIface), (47, .bool true)]) (by kernel_rfl) ?_
    refine WQ.thenN ?_
    refine WE.condT (by kernel_rfl) ?_
    refine WE.seq ?_
    refine WE.region ?_
    refine WO.run 6 0 [(8, .bool true), (52, .bool true), (51, .bool true), (50, .pointer (some ⟨g5, 0, none⟩)), (49, .bool true), (48, .bool true)] (by kernel_rfl) (by kernel_rfl) ?_
    refine WO.done (by kernel_rfl) ?_
    refine WQ.keep [0, 1, 2, 3, 8, 9, 10, 11, 47] (e' := [(0, .int .i64 many), (1, .slice AX nX cX), (2, .int .i64 sy), (3, .int .i64 keep), (8, .bool true), (9, .bool true), (10, .pointer (some ⟨g5, 0, none⟩)), (11, .nilIface), (47, .bool true)]) (by kernel_rfl) ?_
    refine WQ.thenN ?_
    refine WE.ret ?_
    refine WQ.thenR ?_
    refine WQ.ret (v := .bool true) (by kernel_rfl) ?_
    exact ⟨rfl, HA⟩
  intro h9
  refine WO.run 3 10 [(39, .int .i64 sy), (38, .bool false), (37, .bool false)] (by kernel_rfl) (by kernel_rfl) ?_
  refine WO.one (SQ.F 13 (by kernel_rfl)) 40 (.bool (decide ((sy : Int) < 0))) (by kernel_rfl) ?_
  refine WO.topPT ((sy : Int) < 0) (by omega) ?_
  refine WO.run 7 14 [(47, .bool true), (46, undef), (45, undef), (44, undef), (43, undef), (42, .bool true), (41, .bool true)] (by kernel_rfl) (by kernel_rfl) ?_
  refine WO.done (by kernel_rfl) ?_
  refine WQ.keep [0, 1, 2, 3, 8, 9, 10, 11, 47] (e' := [(0, .int .i64 many), (1, .slice AX nX cX), (2, .int .i64 sy), (3, .int .i64 keep), (8, .bool false), (9, .bool true), (10, .pointer (some ⟨g5, 0, none⟩)), (11, .nilIface), (47, .bool true)]) (by kernel_rfl) ?_
  refine WQ.thenN ?_
  refine WE.condT (by kernel_rfl) ?_
  refine WE.seq ?_
  refine WE.region ?_
  refine WO.run 6 0 [(8, .bool true), (52, .bool true), (51, .bool true), (50, .pointer (some ⟨g5, 0, none⟩)), (49, .bool true), (48, .bool true)] (by kernel_rfl) (by kernel_rfl) ?_
  refine WO.done (by kernel_rfl) ?_
  refine WQ.keep [0, 1, 2, 3, 8, 9, 10, 11, 47] (e' := [(0, .int .i64 many), (1, .slice AX nX cX), (2, .int .i64 sy), (3, .int .i64 keep), (8, .bool true), (9, .bool true), (10, .pointer (some ⟨g5, 0, none⟩)), (11, .nilIface), (47, .bool true)]) (by kernel_rfl) ?_
  refine WQ.thenN ?_
  refine WE.ret ?_
  refine WQ.thenR ?_
  refine WQ.ret (v := .bool true) (by kernel_rfl) ?_
  exact ⟨rfl, HA⟩

set_option maxRecDepth 100000 in
set_option maxHeartbeats 400000 in
theorem keeps_badm (many : Int) (AX : Option Addr) (nX cX : Nat) (xs : List RX) (rs : List (List UInt8)) (FX FE : List Nat) (keep : Int) (w : World) (hkr : -9223372036854775808 ≤ keep ∧ keep ≤ 9223372036854775807) (HX : VX cR 1 w FX AX xs) (hnX : xs.length = nX) (HE0 : EV w FE xs rs) (hnm : nX ≤ 9223372036854775807) (sy : Nat) (hbad : many < 1 ∨ 100 < many) :
    Calls Try.prog 5 #[.int .i64 many, .slice AX nX cX, .int .i64 (sy : Int), .int .i64 keep] w fun e w' => e = .returned (.bool true) ∧ Fr [] w w' := by
  have ok0 : Dk.Ok ⟨60000, [], false⟩ := ⟨List.Pairwise.nil, by simp, by decide, by decide, by simp⟩
  have HA := Fr.refl [] w
  refine enter (N := 163) Try.func5 (c := _) rfl (by kernel_rfl) (by kernel_rfl) (e := [(0, .int .i64 many), (1, .slice AX nX cX), (2, .int .i64 (sy : Int)), (3, .int .i64 keep)]) (by kernel_rfl) ?_
  refine WE.seq ?_
  refine WE.region ?_
  refine WO.run 1 0 [(8, .bool false)] (by kernel_rfl) (by kernel_rfl) ?_
  refine WO.done (by kernel_rfl) ?_
  refine WQ.keep [0, 1, 2, 3, 8] (e' := [(0, .int .i64 many), (1, .slice AX nX cX), (2, .int .i64 (sy : Int)), (3, .int .i64 keep), (8, .bool false)]) (by kernel_rfl) ?_
  refine WQ.thenN ?_
  refine WE.seq ?_
  refine WE.region ?_
  refine WO.call (SQ.E 0 (by kernel_rfl)) 22 (by kernel_rfl) (up_any _) ?_
  rintro _ w1 ⟨rfl, F2⟩
  refine ⟨_, rfl, trivial, ?_⟩
  have HX := HX.keep F2 (fun _ _ => nin0 _)
  have HA := Fr.step0 HA F2
  refine WO.run 1 1 [(9, .bool true)] (by kernel_rfl) (by kernel_rfl) ?_
  refine WO.done (by kernel_rfl) ?_
  refine WQ.keep [0, 1, 2, 3, 8, 9] (e' := [(0, .int .i64 many), (1, .slice AX nX cX), (2, .int .i64 (sy : Int)), (3, .int .i64 keep), (8, .bool false), (9, .bool true)]) (by kernel_rfl) ?_
  refine WQ.thenN ?_
  refine WE.seq ?_
  refine WE.region ?_
  refine WO.call (SQ.E 0 (by kernel_rfl)) 24 (by kernel_rfl) (gnew 60000 _ (by omega)) ?_
  rintro _ w3 ⟨g5, D6, rfl, HG8, F4, hg7⟩
  refine ⟨_, rfl, trivial, ?_⟩
  have dj_D6_FX : ∀ y ∈ D6, y ∉ FX := grow_dj hg7 (by simp) HX.lt
  have ge_HA_D6 : ∀ y ∈ D6, (World.heap w).size ≤ y := grow_ge hg7 (by simp) HA.size
  have HX := HX.keep F4 (fun _ _ => nin0 _)
  have HA := Fr.step0 HA F4
  refine WO.run 5 1 [(11, .nilIface), (10, .pointer (some ⟨g5, 0, none⟩)), (26, .nilIface), (25, .pointer (some ⟨g5, 0, none⟩)), (23, .tuple #[.pointer (some ⟨g5, 0, none⟩), .nilIface])] (by kernel_rfl) (by kernel_rfl) ?_
  refine WO.done (by kernel_rfl) ?_
  refine WQ.keep [0, 1, 2, 3, 8, 9, 10, 11] (e' := [(0, .int .i64 many), (1, .slice AX nX cX), (2, .int .i64 (sy : Int)), (3, .int .i64 keep), (8, .bool false), (9, .bool true), (10, .pointer (some ⟨g5, 0, none⟩)), (11, .nilIface)]) (by kernel_rfl) ?_
  refine WQ.thenN ?_
  refine WE.seq ?_
  refine WE.seq ?_
  refine WE.region ?_
  refine WO.run 9 0 [(35, .int .i64 (nX : Int)), (34, .slice AX nX cX), (33, .bool false), (32, .bool false), (31, .bool false), (30, .nilIface), (29, .bool false), (28, .bool false), (27, .pointer (some ⟨g5, 0, none⟩))] (by kernel_rfl) (by kernel_rfl) ?_
  refine WO.one (SQ.F 9 (by kernel_rfl)) 36 (.bool (decide (((nX : Int) : Int) > (30 : Int)))) (by kernel_rfl) ?_
  refine WO.topP (((nX : Int) : Int) > (30 : Int)) ?_ ?_
  · intro h9
    refine WO.run 11 10 [(47, .bool true), (46, undef), (45, undef), (44, undef), (43, undef), (42, .bool true), (41, .bool true), (40, undef), (39, undef), (38, .bool true), (37, .bool true)] (by kernel_rfl) (by kernel_rfl) ?_
    refine WO.done (by kernel_rfl) ?_
    refine WQ.keep [0, 1, 2, 3, 8, 9, 10, 11, 47] (e' := [(0, .int .i64 many), (1, .slice AX nX cX), (2, .int .i64 (sy : Int)), (3, .int .i64 keep), (8, .bool false), (9, .bool true), (10, .pointer (some ⟨g5, 0, none⟩)), (11, .nilIface), (47, .bool true)]) (by kernel_rfl) ?_
    refine WQ.thenN ?_
    refine WE.condT (by kernel_rfl) ?_
    refine WE.seq ?_
    refine WE.region ?_
    refine WO.run 6 0 [(8, .bool true), (52, .bool true), (51, .bool true), (50, .pointer (some ⟨g5, 0, none⟩)), (49, .bool true), (48, .bool true)] (by kernel_rfl) (by kernel_rfl) ?_
    refine WO.done (by kernel_rfl) ?_
    refine WQ.keep [0, 1, 2, 3, 8, 9, 10, 11, 47] (e' := [(0, .int .i64 many), (1, .slice AX nX cX), (2, .int .i64 (sy : Int)), (3, .int .i64 keep), (8, .bool true), (9, .bool true), (10, .pointer (some ⟨g5, 0, none⟩)), (11, .nilIface), (47, .bool true)]) (by kernel_rfl) ?_
    refine WQ.thenN ?_
    refine WE.ret ?_
    refine WQ.thenR ?_
    refine WQ.ret (v := .bool true) (by kernel_rfl) ?_
    exact ⟨rfl, HA⟩
  intro h9
  refine WO.run 3 10 [(39, .int .i64 (sy : Int)), (38, .bool false), (37, .bool false)] (by kernel_rfl) (by kernel_rfl) ?_
  refine WO.one (SQ.F 13 (by kernel_rfl)) 40 (.bool (decide (((sy : Int) : Int) < (0 : Int)))) (by kernel_rfl) ?_
  refine WO.topPF (((sy : Int) : Int) < (0 : Int)) (by omega) ?_
  refine WO.run 5 14 [(45, .int .i64 (nX : Int)), (44, .slice AX nX cX), (43, .int .i64 (sy : Int)), (42, .bool false), (41, .bool false)] (by kernel_rfl) (by kernel_rfl) ?_
  refine WO.one (SQ.F 19 (by kernel_rfl)) 46 (.bool (decide (((sy : Int) : Int) > (nX : Int)))) (by kernel_rfl) ?_
  refine WO.topP (((sy : Int) : Int) > (nX : Int)) ?_ ?_
  · intro h10
    refine WO.run 1 20 [(47, .bool true)] (by kernel_rfl) (by kernel_rfl) ?_
    refine WO.done (by kernel_rfl) ?_
    refine WQ.keep [0, 1, 2, 3, 8, 9, 10, 11, 47] (e' := [(0, .int .i64 many), (1, .slice AX nX cX), (2, .int .i64 (sy : Int)), (3, .int .i64 keep), (8, .bool false), (9, .bool true), (10, .pointer (some ⟨g5, 0, none⟩)), (11, .nilIface), (47, .bool true)]) (by kernel_rfl) ?_
    refine WQ.thenN ?_
    refine WE.condT (by kernel_rfl) ?_
    refine WE.seq ?_
    refine WE.region ?_
    refine WO.run 6 0 [(8, .bool true), (52, .bool true), (51, .bool true), (50, .pointer (some ⟨g5, 0, none⟩)), (49, .bool true), (48, .bool true)] (by kernel_rfl) (by kernel_rfl) ?_
    refine WO.done (by kernel_rfl) ?_
    refine WQ.keep [0, 1, 2, 3, 8, 9, 10, 11, 47] (e' := [(0, .int .i64 many), (1, .slice AX nX cX), (2, .int .i64 (sy : Int)), (3, .int .i64 keep), (8, .bool true), (9, .bool true), (10, .pointer (some ⟨g5, 0, none⟩)), (11, .nilIface), (47, .bool true)]) (by kernel_rfl) ?_
    refine WQ.thenN ?_
    refine WE.ret ?_
    refine WQ.thenR ?_
    refine WQ.ret (v := .bool true) (by kernel_rfl) ?_
    exact ⟨rfl, HA⟩
  intro h10
  refine WO.run 1 20 [(47, .bool false)] (by kernel_rfl) (by kernel_rfl) ?_
  refine WO.done (by kernel_rfl) ?_
  refine WQ.keep [0, 1, 2, 3, 8, 9, 10, 11, 47] (e' := [(0, .int .i64 many), (1, .slice AX nX cX), (2, .int .i64 (sy : Int)), (3, .int .i64 keep), (8, .bool false), (9, .bool true), (10, .pointer (some ⟨g5, 0, none⟩)), (11, .nilIface), (47, .bool false)]) (by kernel_rfl) ?_
  refine WQ.thenN ?_
  refine WE.condF (by kernel_rfl) ?_
  refine WE.skip ?_
  refine WQ.thenN ?_
  refine WE.seq ?_
  refine WE.region ?_
  refine WO.run 2 0 [(55, .int .i64 many), (54, .pointer (some ⟨g5, 0, none⟩))] (by kernel_rfl) (by kernel_rfl) ?_
  refine WO.call (SQ.E 2 (by kernel_rfl)) 56 (by kernel_rfl) (open_bad g5 many _ hbad) ?_
  rintro _ w11 ⟨rfl, F12⟩
  refine ⟨_, rfl, trivial, ?_⟩
  have HX := HX.keep F12 (fun _ _ => nin0 _)
  have HG8 := GDisk.keep HG8 F12 (fun _ _ => nin0 _)
  have HA := Fr.step0 HA F12
  refine WO.run 5 3 [(13, .iface 36 (.int .i64 1)), (12, .pointer none), (58, .iface 36 (.int .i64 1)), (57, .pointer none), (53, .tuple #[.pointer none, .iface 36 (.int .i64 1)])] (by kernel_rfl) (by kernel_rfl) ?_
  refine WO.done (by kernel_rfl) ?_
  refine WQ.keep [0, 1, 2, 3, 8, 9, 10, 11, 12, 13, 47] (e' := [(0, .int .i64 many), (1, .slice AX nX cX), (2, .int .i64 (sy : Int)), (3, .int .i64 keep), (8, .bool false), (9, .bool true), (10, .pointer (some ⟨g5, 0, none⟩)), (11, .nilIface), (12, .pointer none), (13, .iface 36 (.int .i64 1)), (47, .bool false)]) (by kernel_rfl) ?_
  refine WQ.thenN ?_
  refine WE.seq ?_
  refine WE.seq ?_
  refine WE.region ?_
  refine WO.run 6 0 [(64, .bool true), (63, undef), (62, undef), (61, .bool true), (60, .bool true), (59, .pointer none)] (by kernel_rfl) (by kernel_rfl) ?_
  refine WO.done (by kernel_rfl) ?_
  refine WQ.keep [0, 1, 2, 3, 8, 9, 10, 11, 12, 13, 47, 64] (e' := [(0, .int .i64 many), (1, .slice AX nX cX), (2, .int .i64 (sy : Int)), (3, .int .i64 keep), (8, .bool false), (9, .bool true), (10, .pointer (some ⟨g5, 0, none⟩)), (11, .nilIface), (12, .pointer none), (13, .iface 36 (.int .i64 1)), (47, .bool false), (64, .bool true)]) (by kernel_rfl) ?_
  refine WQ.thenN ?_
  refine WE.condT (by kernel_rfl) ?_
  refine WE.seq ?_
  refine WE.region ?_
  refine WO.run 6 0 [(8, .bool true), (69, .bool true), (68, .bool true), (67, .pointer none), (66, .bool true), (65, .bool true)] (by kernel_rfl) (by kernel_rfl) ?_
  refine WO.done (by kernel_rfl) ?_
  refine WQ.keep [0, 1, 2, 3, 8, 9, 10, 11, 12, 13, 47, 64] (e' := [(0, .int .i64 many), (1, .slice AX nX cX), (2, .int .i64 (sy : Int)), (3, .int .i64 keep), (8, .bool true), (9, .bool true), (10, .pointer (some ⟨g5, 0, none⟩)), (11, .nilIface), (12, .pointer none), (13, .iface 36 (.int .i64 1)), (47, .bool false), (64, .bool true)]) (by kernel_rfl) ?_
  refine WQ.thenN ?_
  refine WE.ret ?_
  refine WQ.thenR ?_
  refine WQ.ret (v := .bool true) (by kernel_rfl) ?_
  exact ⟨rfl, HA⟩

set_option maxRecDepth 100000 in
set_option maxHeartbeats 400000 in
theorem keeps_ok (many : Int) (AX : Option Addr) (nX cX : Nat) (xs : List RX) (rs : List (List UInt8)) (FX FE : List Nat) (keep : Int) (w : World) (hkr : -9223372036854775808 ≤ keep ∧ keep ≤ 9223372036854775807) (HX : VX cR 1 w FX AX xs) (hnX : xs.length = nX) (HE0 : EV w FE xs rs) (hnm : nX ≤ 9223372036854775807) (sy : Nat) (hm : ¬ (many < 1 ∨ 100 < many)) :
    Calls Try.prog 5 #[.int .i64 many, .slice AX nX cX, .int .i64 (sy : Int), .int .i64 keep] w fun e w' => e = .returned (.bool true) ∧ Fr [] w w' := by
  have ok0 : Dk.Ok ⟨60000, [], false⟩ := ⟨List.Pairwise.nil, by simp, by decide, by decide, by simp⟩
  have hxr := HE0.len
  have hFX := HX.lt
  have HA := Fr.refl [] w
  refine enter (N := 163) Try.func5 (c := _) rfl (by kernel_rfl) (by kernel_rfl) (e := [(0, .int .i64 many), (1, .slice AX nX cX), (2, .int .i64 (sy : Int)), (3, .int .i64 keep)]) (by kernel_rfl) ?_
  refine WE.seq ?_
  refine WE.region ?_
  refine WO.run 1 0 [(8, .bool false)] (by kernel_rfl) (by kernel_rfl) ?_
  refine WO.done (by kernel_rfl) ?_
  refine WQ.keep [0, 1, 2, 3, 8] (e' := [(0, .int .i64 many), (1, .slice AX nX cX), (2, .int .i64 (sy : Int)), (3, .int .i64 keep), (8, .bool false)]) (by kernel_rfl) ?_
  refine WQ.thenN ?_
  refine WE.seq ?_
  refine WE.region ?_
  refine WO.call (SQ.E 0 (by kernel_rfl)) 22 (by kernel_rfl) (up_any _) ?_
  rintro _ w1 ⟨rfl, F2⟩
  refine ⟨_, rfl, trivial, ?_⟩
  have HX := HX.keep F2 (fun _ _ => nin0 _)
  have HA := Fr.step0 HA F2
  refine WO.run 1 1 [(9, .bool true)] (by kernel_rfl) (by kernel_rfl) ?_
  refine WO.done (by kernel_rfl) ?_
  refine WQ.keep [0, 1, 2, 3, 8, 9] (e' := [(0, .int .i64 many), (1, .slice AX nX cX), (2, .int .i64 (sy : Int)), (3, .int .i64 keep), (8, .bool false), (9, .bool true)]) (by kernel_rfl) ?_
  refine WQ.thenN ?_
  refine WE.seq ?_
  refine WE.region ?_
  refine WO.call (SQ.E 0 (by kernel_rfl)) 24 (by kernel_rfl) (gnew 60000 _ (by omega)) ?_
  rintro _ w3 ⟨g5, D6, rfl, HG8, F4, hg7⟩
  refine ⟨_, rfl, trivial, ?_⟩
  have dj_D6_FX : ∀ y ∈ D6, y ∉ FX := grow_dj hg7 (by simp) HX.lt
  have ge_HA_D6 : ∀ y ∈ D6, (World.heap w).size ≤ y := grow_ge hg7 (by simp) HA.size
  have HX := HX.keep F4 (fun _ _ => nin0 _)
  have HA := Fr.step0 HA F4
  refine WO.run 5 1 [(11, .nilIface), (10, .pointer (some ⟨g5, 0, none⟩)), (26, .nilIface), (25, .pointer (some ⟨g5, 0, none⟩)), (23, .tuple #[.pointer (some ⟨g5, 0, none⟩), .nilIface])] (by kernel_rfl) (by kernel_rfl) ?_
  refine WO.done (by kernel_rfl) ?_
  refine WQ.keep [0, 1, 2, 3, 8, 9, 10, 11] (e' := [(0, .int .i64 many), (1, .slice AX nX cX), (2, .int .i64 (sy : Int)), (3, .int .i64 keep), (8, .bool false), (9, .bool true), (10, .pointer (some ⟨g5, 0, none⟩)), (11, .nilIface)]) (by kernel_rfl) ?_
  refine WQ.thenN ?_
  refine WE.seq ?_
  refine WE.seq ?_
  refine WE.region ?_
  refine WO.run 9 0 [(35, .int .i64 (nX : Int)), (34, .slice AX nX cX), (33, .bool false), (32, .bool false), (31, .bool false), (30, .nilIface), (29, .bool false), (28, .bool false), (27, .pointer (some ⟨g5, 0, none⟩))] (by kernel_rfl) (by kernel_rfl) ?_
  refine WO.one (SQ.F 9 (by kernel_rfl)) 36 (.bool (decide (((nX : Int) : Int) > (30 : Int)))) (by kernel_rfl) ?_
  refine WO.topP (((nX : Int) : Int) > (30 : Int)) ?_ ?_
  · intro h9
    refine WO.run 11 10 [(47, .bool true), (46, undef), (45, undef), (44, undef), (43, undef), (42, .bool true), (41, .bool true), (40, undef), (39, undef), (38, .bool true), (37, .bool true)] (by kernel_rfl) (by kernel_rfl) ?_
    refine WO.done (by kernel_rfl) ?_
    refine WQ.keep [0, 1, 2, 3, 8, 9, 10, 11, 47] (e' := [(0, .int .i64 many), (1, .slice AX nX cX), (2, .int .i64 (sy : Int)), (3, .int .i64 keep), (8, .bool false), (9, .bool true), (10, .pointer (some ⟨g5, 0, none⟩)), (11, .nilIface), (47, .bool true)]) (by kernel_rfl) ?_
    refine WQ.thenN ?_
    refine WE.condT (by kernel_rfl) ?_
    refine WE.seq ?_
    refine WE.region ?_
    refine WO.run 6 0 [(8, .bool true), (52, .bool true), (51, .bool true), (50, .pointer (some ⟨g5, 0, none⟩)), (49, .bool true), (48, .bool true)] (by kernel_rfl) (by kernel_rfl) ?_
    refine WO.done (by kernel_rfl) ?_
    refine WQ.keep [0, 1, 2, 3, 8, 9, 10, 11, 47] (e' := [(0, .int .i64 many), (1, .slice AX nX cX), (2, .int .i64 (sy : Int)), (3, .int .i64 keep), (8, .bool true), (9, .bool true), (10, .pointer (some ⟨g5, 0, none⟩)), (11, .nilIface), (47, .bool true)]) (by kernel_rfl) ?_
    refine WQ.thenN ?_
    refine WE.ret ?_
    refine WQ.thenR ?_
    refine WQ.ret (v := .bool true) (by kernel_rfl) ?_
    exact ⟨rfl, HA⟩
  intro h9
  refine WO.run 3 10 [(39, .int .i64 (sy : Int)), (38, .bool false), (37, .bool false)] (by kernel_rfl) (by kernel_rfl) ?_
  refine WO.one (SQ.F 13 (by kernel_rfl)) 40 (.bool (decide (((sy : Int) : Int) < (0 : Int)))) (by kernel_rfl) ?_
  refine WO.topPF (((sy : Int) : Int) < (0 : Int)) (by omega) ?_
  refine WO.run 5 14 [(45, .int .i64 (nX : Int)), (44, .slice AX nX cX), (43, .int .i64 (sy : Int)), (42, .bool false), (41, .bool false)] (by kernel_rfl) (by kernel_rfl) ?_
  refine WO.one (SQ.F 19 (by kernel_rfl)) 46 (.bool (decide (((sy : Int) : Int) > (nX : Int)))) (by kernel_rfl) ?_
  refine WO.topP (((sy : Int) : Int) > (nX : Int)) ?_ ?_
  · intro h10
    refine WO.run 1 20 [(47, .bool true)] (by kernel_rfl) (by kernel_rfl) ?_
    refine WO.done (by kernel_rfl) ?_
    refine WQ.keep [0, 1, 2, 3, 8, 9, 10, 11, 47] (e' := [(0, .int .i64 many), (1, .slice AX nX cX), (2, .int .i64 (sy : Int)), (3, .int .i64 keep), (8, .bool false), (9, .bool true), (10, .pointer (some ⟨g5, 0, none⟩)), (11, .nilIface), (47, .bool true)]) (by kernel_rfl) ?_
    refine WQ.thenN ?_
    refine WE.condT (by kernel_rfl) ?_
    refine WE.seq ?_
    refine WE.region ?_
    refine WO.run 6 0 [(8, .bool true), (52, .bool true), (51, .bool true), (50, .pointer (some ⟨g5, 0, none⟩)), (49, .bool true), (48, .bool true)] (by kernel_rfl) (by kernel_rfl) ?_
    refine WO.done (by kernel_rfl) ?_
    refine WQ.keep [0, 1, 2, 3, 8, 9, 10, 11, 47] (e' := [(0, .int .i64 many), (1, .slice AX nX cX), (2, .int .i64 (sy : Int)), (3, .int .i64 keep), (8, .bool true), (9, .bool true), (10, .pointer (some ⟨g5, 0, none⟩)), (11, .nilIface), (47, .bool true)]) (by kernel_rfl) ?_
    refine WQ.thenN ?_
    refine WE.ret ?_
    refine WQ.thenR ?_
    refine WQ.ret (v := .bool true) (by kernel_rfl) ?_
    exact ⟨rfl, HA⟩
  intro h10
  refine WO.run 1 20 [(47, .bool false)] (by kernel_rfl) (by kernel_rfl) ?_
  refine WO.done (by kernel_rfl) ?_
  refine WQ.keep [0, 1, 2, 3, 8, 9, 10, 11, 47] (e' := [(0, .int .i64 many), (1, .slice AX nX cX), (2, .int .i64 (sy : Int)), (3, .int .i64 keep), (8, .bool false), (9, .bool true), (10, .pointer (some ⟨g5, 0, none⟩)), (11, .nilIface), (47, .bool false)]) (by kernel_rfl) ?_
  refine WQ.thenN ?_
  refine WE.condF (by kernel_rfl) ?_
  refine WE.skip ?_
  refine WQ.thenN ?_
  refine WE.seq ?_
  refine WE.region ?_
  refine WO.run 2 0 [(55, .int .i64 many), (54, .pointer (some ⟨g5, 0, none⟩))] (by kernel_rfl) (by kernel_rfl) ?_
  refine WO.call (SQ.E 2 (by kernel_rfl)) 56 (by kernel_rfl) (open_f g5 (many : Int) (⟨60000, [], false⟩ : Dk) [] D6 _ HG8 ok0 (by omega) rfl trivial (by simp) (by simp [allR])) ?_
  rintro _ w11 ⟨gj13, D14, J15, rfl, HG16, HJ17, F12, hg18, hgJ19, hdj20⟩
  refine ⟨_, rfl, trivial, ?_⟩
  have hgJ19r := fun y hy => Or.inr (a := y ∈ ([] : List Nat)) (hgJ19 y hy)
  have dj_D14_FX : ∀ y ∈ D14, y ∉ FX := grow_dj hg18 dj_D6_FX HX.lt
  have ge_HA_D14 : ∀ y ∈ D14, (World.heap w).size ≤ y := grow_ge hg18 ge_HA_D6 HA.size
  have dj_J15_FX : ∀ y ∈ J15, y ∉ FX := grow_dj hgJ19r (by simp) HX.lt
  have dj_J15_D6 : ∀ y ∈ J15, y ∉ D6 := grow_dj hgJ19r (by simp) (GDisk.lt HG8)
  have ge_HA_J15 : ∀ y ∈ J15, (World.heap w).size ≤ y := grow_ge hgJ19r (by simp) HA.size
  have HX := HX.keep F12 (dj_symm dj_D6_FX)
  have HA := Fr.step HA F12 (inF ge_HA_D6)
  change GDisk w11 g5 D14 (⟨60000, [], false⟩ : Dk) at HG16
  change Jn w11 gj13 J15 g5 many (([] : List Seg).map fun g => g.n) (allR []) at HJ17
  refine WO.run 5 3 [(13, .nilIface), (12, .pointer (some ⟨gj13, 0, none⟩)), (58, .nilIface), (57, .pointer (some ⟨gj13, 0, none⟩)), (53, .tuple #[.pointer (some ⟨gj13, 0, none⟩), .nilIface])] (by kernel_rfl) (by kernel_rfl) ?_
  refine WO.done (by kernel_rfl) ?_
  refine WQ.keep [0, 1, 2, 3, 8, 9, 10, 11, 12, 13, 47] (e' := [(0, .int .i64 many), (1, .slice AX nX cX), (2, .int .i64 (sy : Int)), (3, .int .i64 keep), (8, .bool false), (9, .bool true), (10, .pointer (some ⟨g5, 0, none⟩)), (11, .nilIface), (12, .pointer (some ⟨gj13, 0, none⟩)), (13, .nilIface), (47, .bool false)]) (by kernel_rfl) ?_
  refine WQ.thenN ?_
  refine WE.seq ?_
  refine WE.seq ?_
  refine WE.region ?_
  refine WO.run 6 0 [(64, .bool false), (63, .bool false), (62, .nilIface), (61, .bool false), (60, .bool false), (59, .pointer (some ⟨gj13, 0, none⟩))] (by kernel_rfl) (by kernel_rfl) ?_
  refine WO.done (by kernel_rfl) ?_
  refine WQ.keep [0, 1, 2, 3, 8, 9, 10, 11, 12, 13, 47, 64] (e' := [(0, .int .i64 many), (1, .slice AX nX cX), (2, .int .i64 (sy : Int)), (3, .int .i64 keep), (8, .bool false), (9, .bool true), (10, .pointer (some ⟨g5, 0, none⟩)), (11, .nilIface), (12, .pointer (some ⟨gj13, 0, none⟩)), (13, .nilIface), (47, .bool false), (64, .bool false)]) (by kernel_rfl) ?_
  refine WQ.thenN ?_
  refine WE.condF (by kernel_rfl) ?_
  refine WE.skip ?_
  refine WQ.thenN ?_
  refine WE.seq ?_
  refine WE.seq ?_
  refine WE.region ?_
  refine WO.run 1 0 [(14, .int .i64 0)] (by kernel_rfl) (by kernel_rfl) ?_
  refine WO.done (by kernel_rfl) ?_
  refine WQ.keep [0, 1, 2, 3, 8, 9, 10, 11, 12, 13, 14, 47, 64] (e' := [(0, .int .i64 many), (1, .slice AX nX cX), (2, .int .i64 (sy : Int)), (3, .int .i64 keep), (8, .bool false), (9, .bool true), (10, .pointer (some ⟨g5, 0, none⟩)), (11, .nilIface), (12, .pointer (some ⟨gj13, 0, none⟩)), (13, .nilIface), (14, .int .i64 0), (47, .bool false), (64, .bool false)]) (by kernel_rfl) ?_
  refine WQ.thenN ?_
  refine WE.block ?_
  refine WE.loop (α := Nat × Dk × List Seg × List Nat × List Nat) (E := fun ⟨i, d, segs, F, J⟩ => [(0, .int .i64 many), (1, .slice AX nX cX), (2, .int .i64 (sy : Int)), (3, .int .i64 keep), (9, .bool true), (10, .pointer (some ⟨g5, 0, none⟩)), (12, .pointer (some ⟨gj13, 0, none⟩)), (14, .int .i64 (i : Int))]) (I := fun ⟨i, d, segs, F, J⟩ wr => i ≤ nX ∧ allR segs = rs.take i ∧ JOk 60000 d segs (if sy ≤ i then sy else 0) ∧ GDisk wr g5 F d ∧ Jn wr gj13 J g5 many (segs.map fun g => g.n) (allR segs) ∧ VX cR 1 wr FX AX xs ∧ (∀ y ∈ F, w.heap.size ≤ y) ∧ (∀ y ∈ J, w.heap.size ≤ y) ∧ (∀ y ∈ F, y ∉ J) ∧ Fr [] w wr) (m := fun ⟨i, d, segs, F, J⟩ => nX - i) (0, ⟨60000, [], false⟩, [], D14, J15) [0, 1, 2, 3, 9, 10, 12, 14] (by kernel_rfl) ?_ ?_
  · exact ⟨Nat.zero_le _, rfl, ⟨rfl, rfl, rfl, ok0, trivial, by simp, by simp [allR], by split <;> simp [allR] <;> omega, .inl rfl⟩, HG16, HJ17, HX, ge_HA_D14, ge_HA_J15, hdj20, HA⟩
  rintro ⟨i, d, segs, F, J⟩ wr ⟨hi, hsegs, hjo, HG, HJ, HX, hgF, hgJ, hdj, HA⟩
  dsimp only at hi hsegs hjo HG HJ hgF hgJ hdj ⊢
  have hdX1 : ∀ y ∈ F, y ∉ FX := fun y hy h_ => absurd (hFX y h_) (Nat.not_lt.2 (hgF y hy))
  have hdX2 : ∀ y ∈ J, y ∉ FX := fun y hy h_ => absurd (hFX y h_) (Nat.not_lt.2 (hgJ y hy))
  have hcnt : (allR segs).length = i := by rw [hsegs, List.length_take, ← hxr]; omega
  refine WE.seq ?_
  refine WE.seq ?_
  refine WE.region ?_
  refine WO.run 3 0 [(72, .int .i64 (nX : Int)), (71, .slice AX nX cX), (70, .int .i64 (i : Int))] (by kernel_rfl) (by kernel_rfl) ?_
  refine WO.one (SQ.F 3 (by kernel_rfl)) 73 (.bool (decide (((i : Int) : Int) < (nX : Int)))) (by kernel_rfl) ?_
  refine WO.topP (((i : Int) : Int) < (nX : Int)) ?_ ?_
  · intro h21
    refine WO.done (by kernel_rfl) ?_
    refine WQ.keep [0, 1, 2, 3, 9, 10, 12, 14, 73] (e' := [(0, .int .i64 many), (1, .slice AX nX cX), (2, .int .i64 (sy : Int)), (3, .int .i64 keep), (9, .bool true), (10, .pointer (some ⟨g5, 0, none⟩)), (12, .pointer (some ⟨gj13, 0, none⟩)), (14, .int .i64 (i : Int)), (73, .bool true)]) (by kernel_rfl) ?_
    refine WQ.thenN ?_
    refine WE.condT (by kernel_rfl) ?_
    refine WE.skip ?_
    refine WQ.thenN ?_
    refine WE.seq ?_
    refine WE.block ?_
    refine WE.seq ?_
    refine WE.seq ?_
    refine WE.region ?_
    refine WO.run 2 0 [(77, .int .i64 (i : Int)), (76, .slice AX nX cX)] (by kernel_rfl) (by kernel_rfl) ?_
    obtain ⟨ad22, hA23⟩ := HX.addr (i := i) (by have := hnX; omega)
    refine WO.ixo (SQ.F 2 (by kernel_rfl)) 78 nX 1 i (i : Int) hA23 (by kernel_rfl) rfl (by omega) ?_
    refine WO.ld (SQ.S 3 (by kernel_rfl)) 79 (.slice ((gR xs i).1) ((gR xs i).2.1) ((gR xs i).2.2)) (by kernel_rfl) (same (HX.at0 hA23 (gR_some xs i (by have := hnX; omega)) (by kernel_rfl))) ?_
    refine WO.run 1 4 [(80, .int .i64 ((gR xs i).2.1 : Int))] (by kernel_rfl) (by kernel_rfl) ?_
    refine WO.one (SQ.F 5 (by kernel_rfl)) 81 (.bool (decide ((((gR xs i).2.1 : Int) : Int) < (1 : Int)))) (by kernel_rfl) ?_
    refine WO.topP ((((gR xs i).2.1 : Int) : Int) < (1 : Int)) ?_ ?_
    · intro h24
      refine WO.run 8 6 [(89, .bool true), (88, undef), (87, undef), (86, undef), (85, undef), (84, undef), (83, undef), (82, .bool true)] (by kernel_rfl) (by kernel_rfl) ?_
      refine WO.done (by kernel_rfl) ?_
      refine WQ.keep [0, 1, 2, 3, 9, 10, 12, 14, 73, 89] (e' := [(0, .int .i64 many), (1, .slice AX nX cX), (2, .int .i64 (sy : Int)), (3, .int .i64 keep), (9, .bool true), (10, .pointer (some ⟨g5, 0, none⟩)), (12, .pointer (some ⟨gj13, 0, none⟩)), (14, .int .i64 (i : Int)), (73, .bool true), (89, .bool true)]) (by kernel_rfl) ?_
      refine WQ.thenN ?_
      refine WE.condT (by kernel_rfl) ?_
      refine WE.seq ?_
      refine WE.region ?_
      refine WO.run 2 0 [(8, .bool true), (90, .bool true)] (by kernel_rfl) (by kernel_rfl) ?_
      refine WO.done (by kernel_rfl) ?_
      refine WQ.keep [0, 1, 2, 3, 8, 9, 10, 12, 14, 73, 89] (e' := [(0, .int .i64 many), (1, .slice AX nX cX), (2, .int .i64 (sy : Int)), (3, .int .i64 keep), (8, .bool true), (9, .bool true), (10, .pointer (some ⟨g5, 0, none⟩)), (12, .pointer (some ⟨gj13, 0, none⟩)), (14, .int .i64 (i : Int)), (73, .bool true), (89, .bool true)]) (by kernel_rfl) ?_
      refine WQ.thenN ?_
      refine WE.ret ?_
      refine WQ.thenR ?_
      refine WQ.blkR ?_
      refine WQ.thenR ?_
      refine WQ.thenR ?_
      refine WQ.blkR ?_
      refine WQ.thenR ?_
      refine WQ.ret (v := .bool true) (by kernel_rfl) ?_
      exact ⟨rfl, HA⟩
    intro h24
    refine WO.run 3 6 [(84, .int .i64 (i : Int)), (83, .slice AX nX cX), (82, .bool false)] (by kernel_rfl) (by kernel_rfl) ?_
    obtain ⟨ad25, hA26⟩ := HX.addr (i := i) (by have := hnX; omega)
    refine WO.ixo (SQ.F 9 (by kernel_rfl)) 85 nX 1 i (i : Int) hA26 (by kernel_rfl) rfl (by omega) ?_
    refine WO.ld (SQ.S 10 (by kernel_rfl)) 86 (.slice ((gR xs i).1) ((gR xs i).2.1) ((gR xs i).2.2)) (by kernel_rfl) (same (HX.at0 hA26 (gR_some xs i (by have := hnX; omega)) (by kernel_rfl))) ?_
    refine WO.run 1 11 [(87, .int .i64 ((gR xs i).2.1 : Int))] (by kernel_rfl) (by kernel_rfl) ?_
    refine WO.one (SQ.F 12 (by kernel_rfl)) 88 (.bool (decide ((((gR xs i).2.1 : Int) : Int) > (1000 : Int)))) (by kernel_rfl) ?_
    refine WO.topP ((((gR xs i).2.1 : Int) : Int) > (1000 : Int)) ?_ ?_
    · intro h27
      refine WO.run 1 13 [(89, .bool true)] (by kernel_rfl) (by kernel_rfl) ?_
      refine WO.done (by kernel_rfl) ?_
      refine WQ.keep [0, 1, 2, 3, 9, 10, 12, 14, 73, 89] (e' := [(0, .int .i64 many), (1, .slice AX nX cX), (2, .int .i64 (sy : Int)), (3, .int .i64 keep), (9, .bool true), (10, .pointer (some ⟨g5, 0, none⟩)), (12, .pointer (some ⟨gj13, 0, none⟩)), (14, .int .i64 (i : Int)), (73, .bool true), (89, .bool true)]) (by kernel_rfl) ?_
      refine WQ.thenN ?_
      refine WE.condT (by kernel_rfl) ?_
      refine WE.seq ?_
      refine WE.region ?_
      refine WO.run 2 0 [(8, .bool true), (90, .bool true)] (by kernel_rfl) (by kernel_rfl) ?_
      refine WO.done (by kernel_rfl) ?_
      refine WQ.keep [0, 1, 2, 3, 8, 9, 10, 12, 14, 73, 89] (e' := [(0, .int .i64 many), (1, .slice AX nX cX), (2, .int .i64 (sy : Int)), (3, .int .i64 keep), (8, .bool true), (9, .bool true), (10, .pointer (some ⟨g5, 0, none⟩)), (12, .pointer (some ⟨gj13, 0, none⟩)), (14, .int .i64 (i : Int)), (73, .bool true), (89, .bool true)]) (by kernel_rfl) ?_
      refine WQ.thenN ?_
      refine WE.ret ?_
      refine WQ.thenR ?_
      refine WQ.blkR ?_
      refine WQ.thenR ?_
      refine WQ.thenR ?_
      refine WQ.blkR ?_
      refine WQ.thenR ?_
      refine WQ.ret (v := .bool true) (by kernel_rfl) ?_
      exact ⟨rfl, HA⟩
    intro h27
    refine WO.run 1 13 [(89, .bool false)] (by kernel_rfl) (by kernel_rfl) ?_
    refine WO.done (by kernel_rfl) ?_
    refine WQ.keep [0, 1, 2, 3, 9, 10, 12, 14, 73, 89] (e' := [(0, .int .i64 many), (1, .slice AX nX cX), (2, .int .i64 (sy : Int)), (3, .int .i64 keep), (9, .bool true), (10, .pointer (some ⟨g5, 0, none⟩)), (12, .pointer (some ⟨gj13, 0, none⟩)), (14, .int .i64 (i : Int)), (73, .bool true), (89, .bool false)]) (by kernel_rfl) ?_
    refine WQ.thenN ?_
    refine WE.condF (by kernel_rfl) ?_
    refine WE.skip ?_
    refine WQ.thenN ?_
    refine WE.seq ?_
    obtain ⟨r, hrk⟩ : ∃ r, rs[i]? = some r := ⟨rs[i]'(by omega), List.getElem?_eq_getElem _⟩
    obtain ⟨hxn, hxc, Fk, hFk, hVk⟩ := (HE0.keep HA (fun _ _ => nin0 _)).at (gR_some xs i (by omega)) hrk
    have hro : recOk r ∧ r.length ≤ 1000 := ⟨⟨by omega, by omega⟩, by omega⟩
    obtain ⟨adk, hAk⟩ := hVk.addr (i := 0) (by omega)
    have hFkw : ∀ y ∈ Fk, y < w.heap.size := fun y hy => HE0.lt y (hFk y hy)
    have hel_ := encT_len r hro.1
    have hfl_ := flat_le _ hjo.recs
    have hrsn : rs.take i ++ [r] = rs.take (i + 1) := by rw [List.take_add_one, hrk]; rfl
    refine WE.region ?_
    refine WO.run 3 0 [(93, .int .i64 (i : Int)), (92, .slice AX nX cX), (91, .pointer (some ⟨gj13, 0, none⟩))] (by kernel_rfl) (by kernel_rfl) ?_
    obtain ⟨ad28, hA29⟩ := HX.addr (i := i) (by have := hnX; omega)
    refine WO.ixo (SQ.F 3 (by kernel_rfl)) 94 nX 1 i (i : Int) hA29 (by kernel_rfl) rfl (by omega) ?_
    refine WO.ld (SQ.S 4 (by kernel_rfl)) 95 (.slice ((gR xs i).1) ((gR xs i).2.1) ((gR xs i).2.2)) (by kernel_rfl) (same (HX.at0 hA29 (gR_some xs i (by have := hnX; omega)) (by kernel_rfl))) ?_
    rw [hAk] at hVk
    rw [hAk]
    refine WO.call (SQ.E 5 (by kernel_rfl)) 96 (by kernel_rfl) (jstep 60000 gj13 g5 many d segs _ F J Fk adk (gR xs i).2.1 (gR xs i).2.2 r _ HG HJ hjo hdj (hVk) hxn.symm (fun y hy h_ => absurd (hFkw y h_) (Nat.not_lt.2 ((List.mem_append.1 hy).elim (hgF y) (hgJ y)))) hro (by omega) (by omega) (by omega)) ?_
    rintro _ w30 ⟨rfl, D32, J33, d34, sg35, HG36, HJ37, hrs38, ho39, F31, hg40, hgJ41, hdj42⟩
    refine ⟨_, rfl, trivial, ?_⟩
    obtain ⟨U43, hU43⟩ : ∃ U_, U_ = F ++ J := ⟨_, rfl⟩
    have dj_U43_FX : ∀ y ∈ U43, y ∉ FX := by rw [hU43]; exact fun y hy => (List.mem_append.1 hy).elim (hdX1 y) (hdX2 y)
    have ge_HA_U43 : ∀ y ∈ U43, (World.heap w).size ≤ y := by rw [hU43]; exact fun y hy => (List.mem_append.1 hy).elim (hgF y) (hgJ y)
    rw [← hU43] at F31 hg40 hgJ41
    have dj_D32_FX : ∀ y ∈ D32, y ∉ FX := grow_dj hg40 dj_U43_FX HX.lt
    have ge_HA_D32 : ∀ y ∈ D32, (World.heap w).size ≤ y := grow_ge hg40 ge_HA_U43 HA.size
    have dj_J33_FX : ∀ y ∈ J33, y ∉ FX := grow_dj hgJ41 dj_U43_FX HX.lt
    have ge_HA_J33 : ∀ y ∈ J33, (World.heap w).size ≤ y := grow_ge hgJ41 ge_HA_U43 HA.size
    have HX := HX.keep F31 (dj_symm dj_U43_FX)
    have HA := Fr.step HA F31 (inF ge_HA_U43)
    have hrs1 : allR sg35 = rs.take (i + 1) := by rw [hrs38, hsegs, hrsn]
    refine WO.run 1 6 [(15, .nilIface)] (by kernel_rfl) (by kernel_rfl) ?_
    refine WO.done (by kernel_rfl) ?_
    refine WQ.keep [0, 1, 2, 3, 9, 10, 12, 14, 15, 73, 89] (e' := [(0, .int .i64 many), (1, .slice AX nX cX), (2, .int .i64 (sy : Int)), (3, .int .i64 keep), (9, .bool true), (10, .pointer (some ⟨g5, 0, none⟩)), (12, .pointer (some ⟨gj13, 0, none⟩)), (14, .int .i64 (i : Int)), (15, .nilIface), (73, .bool true), (89, .bool false)]) (by kernel_rfl) ?_
    refine WQ.thenN ?_
    refine WE.seq ?_
    refine WE.seq ?_
    refine WE.region ?_
    refine WO.run 2 0 [(98, .bool false), (97, .nilIface)] (by kernel_rfl) (by kernel_rfl) ?_
    refine WO.done (by kernel_rfl) ?_
    refine WQ.keep [0, 1, 2, 3, 9, 10, 12, 14, 15, 73, 89, 98] (e' := [(0, .int .i64 many), (1, .slice AX nX cX), (2, .int .i64 (sy : Int)), (3, .int .i64 keep), (9, .bool true), (10, .pointer (some ⟨g5, 0, none⟩)), (12, .pointer (some ⟨gj13, 0, none⟩)), (14, .int .i64 (i : Int)), (15, .nilIface), (73, .bool true), (89, .bool false), (98, .bool false)]) (by kernel_rfl) ?_
    refine WQ.thenN ?_
    refine WE.condF (by kernel_rfl) ?_
    refine WE.skip ?_
    refine WQ.thenN ?_
    refine WE.seq ?_
    refine WE.region ?_
    refine WO.run 1 0 [(99, .int .i64 (i : Int))] (by kernel_rfl) (by kernel_rfl) ?_
    refine WO.one (SQ.F 1 (by kernel_rfl)) 100 (.int .i64 (IntKind.i64.wrap ((i : Int) + 1))) (by kernel_rfl) ?_
    refine WO.top (v' := .int .i64 ((i + 1 : Nat) : Int)) (wrap_i64 (by omega) (by omega)) ?_
    refine WO.run 1 2 [(101, .int .i64 (sy : Int))] (by kernel_rfl) (by kernel_rfl) ?_
    refine WO.one (SQ.F 3 (by kernel_rfl)) 102 (.bool (decide (((i + 1 : Int) : Int) = (sy : Int)))) (by kernel_rfl) ?_
    refine WO.topP (((i + 1 : Int) : Int) = (sy : Int)) ?_ ?_
    · intro h44
      refine WO.done (by kernel_rfl) ?_
      refine WQ.keep [0, 1, 2, 3, 9, 10, 12, 14, 15, 73, 89, 98, 102] (e' := [(0, .int .i64 many), (1, .slice AX nX cX), (2, .int .i64 (sy : Int)), (3, .int .i64 keep), (9, .bool true), (10, .pointer (some ⟨g5, 0, none⟩)), (12, .pointer (some ⟨gj13, 0, none⟩)), (14, .int .i64 (i : Int)), (15, .nilIface), (73, .bool true), (89, .bool false), (98, .bool false), (102, .bool true)]) (by kernel_rfl) ?_
      refine WQ.thenN ?_
      refine WE.condT (by kernel_rfl) ?_
      refine WE.seq ?_
      refine WE.region ?_
      refine WO.run 1 0 [(103, .pointer (some ⟨gj13, 0, none⟩))] (by kernel_rfl) (by kernel_rfl) ?_
      have hrsn := hrs1
      refine WO.call (SQ.E 1 (by kernel_rfl)) 104 (by kernel_rfl) (jsync 60000 gj13 g5 many d34 sg35 _ D32 J33 _ HG36 HJ37 ho39 hdj42 (by rw [hrs1, List.length_take]; omega) (by rw [hrs1, List.length_take]; omega)) ?_
      rintro _ w45 ⟨rfl, D47, J48, d49, sg50, HG51, HJ52, hrs53, ho54, F46, hg55, hgJ56, hdj57⟩
      refine ⟨_, rfl, trivial, ?_⟩
      obtain ⟨U58, hU58⟩ : ∃ U_, U_ = D32 ++ J33 := ⟨_, rfl⟩
      have dj_U58_FX : ∀ y ∈ U58, y ∉ FX := by rw [hU58]; exact fun y hy => (List.mem_append.1 hy).elim (dj_D32_FX y) (dj_J33_FX y)
      have ge_HA_U58 : ∀ y ∈ U58, (World.heap w).size ≤ y := by rw [hU58]; exact fun y hy => (List.mem_append.1 hy).elim (ge_HA_D32 y) (ge_HA_J33 y)
      rw [← hU58] at F46 hg55 hgJ56
      have dj_D47_FX : ∀ y ∈ D47, y ∉ FX := grow_dj hg55 dj_U58_FX HX.lt
      have ge_HA_D47 : ∀ y ∈ D47, (World.heap w).size ≤ y := grow_ge hg55 ge_HA_U58 HA.size
      have dj_J48_FX : ∀ y ∈ J48, y ∉ FX := grow_dj hgJ56 dj_U58_FX HX.lt
      have ge_HA_J48 : ∀ y ∈ J48, (World.heap w).size ≤ y := grow_ge hgJ56 ge_HA_U58 HA.size
      have HX := HX.keep F46 (dj_symm dj_U58_FX)
      have HA := Fr.step HA F46 (inF ge_HA_U58)
      have hrs2 : allR sg50 = rs.take (i + 1) := by rw [hrs53]; exact hrs1
      refine WO.run 1 2 [(16, .nilIface)] (by kernel_rfl) (by kernel_rfl) ?_
      refine WO.done (by kernel_rfl) ?_
      refine WQ.keep [0, 1, 2, 3, 9, 10, 12, 14, 15, 16, 73, 89, 98, 102] (e' := [(0, .int .i64 many), (1, .slice AX nX cX), (2, .int .i64 (sy : Int)), (3, .int .i64 keep), (9, .bool true), (10, .pointer (some ⟨g5, 0, none⟩)), (12, .pointer (some ⟨gj13, 0, none⟩)), (14, .int .i64 (i : Int)), (15, .nilIface), (16, .nilIface), (73, .bool true), (89, .bool false), (98, .bool false), (102, .bool true)]) (by kernel_rfl) ?_
      refine WQ.thenN ?_
      refine WE.seq ?_
      refine WE.region ?_
      refine WO.run 2 0 [(106, .bool false), (105, .nilIface)] (by kernel_rfl) (by kernel_rfl) ?_
      refine WO.done (by kernel_rfl) ?_
      refine WQ.keep [0, 1, 2, 3, 9, 10, 12, 14, 15, 16, 73, 89, 98, 102, 106] (e' := [(0, .int .i64 many), (1, .slice AX nX cX), (2, .int .i64 (sy : Int)), (3, .int .i64 keep), (9, .bool true), (10, .pointer (some ⟨g5, 0, none⟩)), (12, .pointer (some ⟨gj13, 0, none⟩)), (14, .int .i64 (i : Int)), (15, .nilIface), (16, .nilIface), (73, .bool true), (89, .bool false), (98, .bool false), (102, .bool true), (106, .bool false)]) (by kernel_rfl) ?_
      refine WQ.thenN ?_
      refine WE.condF (by kernel_rfl) ?_
      refine WE.skip ?_
      refine WQ.blkN ?_
      refine WQ.thenN ?_
      refine WE.region ?_
      refine WO.run 1 0 [(74, .int .i64 (i : Int))] (by kernel_rfl) (by kernel_rfl) ?_
      refine WO.one (SQ.F 1 (by kernel_rfl)) 75 (.int .i64 (IntKind.i64.wrap ((i : Int) + 1))) (by kernel_rfl) ?_
      refine WO.top (v' := .int .i64 ((i + 1 : Nat) : Int)) (wrap_i64 (by omega) (by omega)) ?_
      refine WO.run 1 2 [(14, .int .i64 ((i + 1 : Nat) : Int))] (by kernel_rfl) (by kernel_rfl) ?_
      refine WO.done (by kernel_rfl) ?_
      refine WQ.keep [0, 1, 2, 3, 9, 10, 12, 14, 15, 16, 73, 89, 98, 102, 106] (e' := [(0, .int .i64 many), (1, .slice AX nX cX), (2, .int .i64 (sy : Int)), (3, .int .i64 keep), (9, .bool true), (10, .pointer (some ⟨g5, 0, none⟩)), (12, .pointer (some ⟨gj13, 0, none⟩)), (14, .int .i64 ((i + 1 : Nat) : Int)), (15, .nilIface), (16, .nilIface), (73, .bool true), (89, .bool false), (98, .bool false), (102, .bool true), (106, .bool false)]) (by kernel_rfl) ?_
      have hjn : JOk 60000 d49 sg50 (if sy ≤ i + 1 then sy else 0) := by have h_ := ho54; rw [if_pos (by omega)]; rw [hrsn, List.length_take] at h_; rw [show sy = min (i + 1) rs.length by omega]; exact h_
      refine WQ.round ?_
      intro a_ ha_
      refine ⟨(i + 1, d49, sg50, D47, J48), ?_, ha_.keep [0, 1, 2, 3, 9, 10, 12, 14] (by kernel_rfl), ?_⟩
      · show nX - (i + 1) < nX - i; omega
      · exact ⟨by show i + 1 ≤ nX; omega, hrs2, hjn, HG51, HJ52, HX, ge_HA_D47, ge_HA_J48, hdj57, HA⟩
    intro h44
    refine WO.done (by kernel_rfl) ?_
    refine WQ.keep [0, 1, 2, 3, 9, 10, 12, 14, 15, 73, 89, 98, 102] (e' := [(0, .int .i64 many), (1, .slice AX nX cX), (2, .int .i64 (sy : Int)), (3, .int .i64 keep), (9, .bool true), (10, .pointer (some ⟨g5, 0, none⟩)), (12, .pointer (some ⟨gj13, 0, none⟩)), (14, .int .i64 (i : Int)), (15, .nilIface), (73, .bool true), (89, .bool false), (98, .bool false), (102, .bool false)]) (by kernel_rfl) ?_
    refine WQ.thenN ?_
    refine WE.condF (by kernel_rfl) ?_
    refine WE.skip ?_
    refine WQ.blkN ?_
    refine WQ.thenN ?_
    refine WE.region ?_
    refine WO.run 1 0 [(74, .int .i64 (i : Int))] (by kernel_rfl) (by kernel_rfl) ?_
    refine WO.one (SQ.F 1 (by kernel_rfl)) 75 (.int .i64 (IntKind.i64.wrap ((i : Int) + 1))) (by kernel_rfl) ?_
    refine WO.top (v' := .int .i64 ((i + 1 : Nat) : Int)) (wrap_i64 (by omega) (by omega)) ?_
    refine WO.run 1 2 [(14, .int .i64 ((i + 1 : Nat) : Int))] (by kernel_rfl) (by kernel_rfl) ?_
    refine WO.done (by kernel_rfl) ?_
    refine WQ.keep [0, 1, 2, 3, 9, 10, 12, 14, 15, 73, 89, 98, 102] (e' := [(0, .int .i64 many), (1, .slice AX nX cX), (2, .int .i64 (sy : Int)), (3, .int .i64 keep), (9, .bool true), (10, .pointer (some ⟨g5, 0, none⟩)), (12, .pointer (some ⟨gj13, 0, none⟩)), (14, .int .i64 ((i + 1 : Nat) : Int)), (15, .nilIface), (73, .bool true), (89, .bool false), (98, .bool false), (102, .bool false)]) (by kernel_rfl) ?_
    have hjn : JOk 60000 d34 sg35 (if sy ≤ i + 1 then sy else 0) := by have h_ := ho39; have e_ : (if sy ≤ i then sy else 0) = (if sy ≤ i + 1 then sy else 0) := (by split <;> split <;> omega); rw [e_] at h_; exact h_
    refine WQ.round ?_
    intro a_ ha_
    refine ⟨(i + 1, d34, sg35, D32, J33), ?_, ha_.keep [0, 1, 2, 3, 9, 10, 12, 14] (by kernel_rfl), ?_⟩
    · show nX - (i + 1) < nX - i; omega
    · exact ⟨by show i + 1 ≤ nX; omega, hrs1, hjn, HG36, HJ37, HX, ge_HA_D32, ge_HA_J33, hdj42, HA⟩
  intro h21
  refine WO.done (by kernel_rfl) ?_
  refine WQ.keep [0, 1, 2, 3, 9, 10, 12, 14, 73] (e' := [(0, .int .i64 many), (1, .slice AX nX cX), (2, .int .i64 (sy : Int)), (3, .int .i64 keep), (9, .bool true), (10, .pointer (some ⟨g5, 0, none⟩)), (12, .pointer (some ⟨gj13, 0, none⟩)), (14, .int .i64 (i : Int)), (73, .bool false)]) (by kernel_rfl) ?_
  refine WQ.thenN ?_
  refine WE.condF (by kernel_rfl) ?_
  refine WE.exit ?_
  refine WQ.thenE ?_
  refine WQ.thenE ?_
  refine WQ.blkE ?_
  refine WQ.thenN ?_
  refine WE.seq ?_
  have hie : i = nX := by omega
  rw [if_pos (by omega)] at hjo
  refine WE.region ?_
  refine WO.run 2 0 [(108, .int .i64 keep), (107, .pointer (some ⟨g5, 0, none⟩))] (by kernel_rfl) (by kernel_rfl) ?_
  refine WO.call (SQ.E 2 (by kernel_rfl)) 109 (by kernel_rfl) (gcrash g5 F d keep _ HG hjo.ok (by rw [hjo.l, List.length_map]; have h_ := seg_count segs hjo.full; omega) hkr) ?_
  rintro _ w59 ⟨rfl, HGn, F60⟩
  refine ⟨_, rfl, trivial, ?_⟩
  have HJ := Jn.keep HJ F60 (dj_symm hdj)
  have HX := HX.keep F60 (dj_symm hdX1)
  have HA := Fr.step HA F60 (inF hgF)
  have HG := HGn
  have okc := crash_ok hjo.ok keep
  obtain ⟨gs, hgl, hgc, hgs, hgt, q, hq1, hq2, hga⟩ := crash_segs hjo keep (by omega)
  refine WO.done (by kernel_rfl) ?_
  refine WQ.keep [0, 1, 2, 3, 9, 10, 12, 14, 73] (e' := [(0, .int .i64 many), (1, .slice AX nX cX), (2, .int .i64 (sy : Int)), (3, .int .i64 keep), (9, .bool true), (10, .pointer (some ⟨g5, 0, none⟩)), (12, .pointer (some ⟨gj13, 0, none⟩)), (14, .int .i64 (i : Int)), (73, .bool false)]) (by kernel_rfl) ?_
  refine WQ.thenN ?_
  refine WE.seq ?_
  refine WE.region ?_
  refine WO.run 2 0 [(112, .int .i64 many), (111, .pointer (some ⟨g5, 0, none⟩))] (by kernel_rfl) (by kernel_rfl) ?_
  refine WO.call (SQ.E 2 (by kernel_rfl)) 113 (by kernel_rfl) (open_f g5 (many : Int) (crash d keep) gs F _ HG okc (by omega) hgl hgc hgs hgt) ?_
  rintro _ w61 ⟨gj63, D64, J65, rfl, HG66, HJ67, F62, hg68, hgJ69, hdj70⟩
  refine ⟨_, rfl, trivial, ?_⟩
  have hgJ69r := fun y hy => Or.inr (a := y ∈ ([] : List Nat)) (hgJ69 y hy)
  have dj_D64_FX : ∀ y ∈ D64, y ∉ FX := grow_dj hg68 hdX1 HX.lt
  have ge_HA_D64 : ∀ y ∈ D64, (World.heap w).size ≤ y := grow_ge hg68 hgF HA.size
  have dj_J65_FX : ∀ y ∈ J65, y ∉ FX := grow_dj hgJ69r (by simp) HX.lt
  have dj_J65_F : ∀ y ∈ J65, y ∉ F := grow_dj hgJ69r (by simp) (GDisk.lt HG)
  have ge_HA_J65 : ∀ y ∈ J65, (World.heap w).size ≤ y := grow_ge hgJ69r (by simp) HA.size
  have HX := HX.keep F62 (dj_symm hdX1)
  have HA := Fr.step HA F62 (inF hgF)
  rw [hga] at HJ67
  refine WO.run 5 3 [(18, .nilIface), (17, .pointer (some ⟨gj63, 0, none⟩)), (115, .nilIface), (114, .pointer (some ⟨gj63, 0, none⟩)), (110, .tuple #[.pointer (some ⟨gj63, 0, none⟩), .nilIface])] (by kernel_rfl) (by kernel_rfl) ?_
  refine WO.done (by kernel_rfl) ?_
  refine WQ.keep [0, 1, 2, 3, 9, 10, 12, 14, 17, 18, 73] (e' := [(0, .int .i64 many), (1, .slice AX nX cX), (2, .int .i64 (sy : Int)), (3, .int .i64 keep), (9, .bool true), (10, .pointer (some ⟨g5, 0, none⟩)), (12, .pointer (some ⟨gj13, 0, none⟩)), (14, .int .i64 (i : Int)), (17, .pointer (some ⟨gj63, 0, none⟩)), (18, .nilIface), (73, .bool false)]) (by kernel_rfl) ?_
  refine WQ.thenN ?_
  refine WE.seq ?_
  refine WE.seq ?_
  refine WE.region ?_
  refine WO.run 6 0 [(121, .bool false), (120, .bool false), (119, .nilIface), (118, .bool false), (117, .bool false), (116, .pointer (some ⟨gj63, 0, none⟩))] (by kernel_rfl) (by kernel_rfl) ?_
  refine WO.done (by kernel_rfl) ?_
  refine WQ.keep [0, 1, 2, 3, 9, 10, 12, 14, 17, 18, 73, 121] (e' := [(0, .int .i64 many), (1, .slice AX nX cX), (2, .int .i64 (sy : Int)), (3, .int .i64 keep), (9, .bool true), (10, .pointer (some ⟨g5, 0, none⟩)), (12, .pointer (some ⟨gj13, 0, none⟩)), (14, .int .i64 (i : Int)), (17, .pointer (some ⟨gj63, 0, none⟩)), (18, .nilIface), (73, .bool false), (121, .bool false)]) (by kernel_rfl) ?_
  refine WQ.thenN ?_
  refine WE.condF (by kernel_rfl) ?_
  refine WE.skip ?_
  refine WQ.thenN ?_
  refine WE.seq ?_
  refine WE.seq ?_
  have hgl2 := hgt.1
  have hrq : (allR segs).take q = rs.take q := by rw [hsegs, List.take_take, Nat.min_eq_left (by omega)]
  rw [hrq] at HJ67
  obtain ⟨vP, vL, FP, FL, FE2, xs2, hJe, nP, nL, nE, dPL, dPE, dLE, HJB, HOP, HOL, HE2⟩ := HJ67
  obtain ⟨Ap, cp, rfl⟩ := HOP.sliceN (n := (gs.map fun x => x.1.n).length) (by simp)
  obtain ⟨Al, cl, rfl⟩ := HOL.sliceN (n := xs2.length) (by simp)
  have HVP := VX.of_own HOP
  have HVL := VX.of_own HOL
  have hxl2 := HE2.len
  have hf0 : firstN (gs.map fun x => x.1.n) = 0 := load_first (dn := gs) (lf := []) (List.append_nil _) hgc
  have hxq : xs2.length = q := by rw [hxl2, List.length_take]; omega
  have hpl_ : (gs.map fun x => x.1.n).length ≤ 100000 := by rw [List.length_map]; exact hgl2
  rw [hJe] at dj_J65_FX
  have nX_ : gj63 ∉ FX := dj_J65_FX _ (by simp)
  refine WE.region ?_
  refine WO.run 1 0 [(122, .pointer (some ⟨gj63, 0, none⟩))] (by kernel_rfl) (by kernel_rfl) ?_
  refine WO.call (SQ.E 1 (by kernel_rfl)) 123 (by kernel_rfl) (first_j gj63 g5 many Ap Al _ cp _ cl (gs.map fun x => x.1.n) FP _ HJB HVP rfl nP (by omega) (by omega)) ?_
  rintro _ w71 ⟨rfl, F72⟩
  rw [hf0]
  refine ⟨_, rfl, trivial, ?_⟩
  have HJB := Blk.keep HJB F72 (nin0 _)
  have HX := HX.keep F72 (fun _ _ => nin0 _)
  have HVP := HVP.keep F72 (fun _ _ => nin0 _)
  have HVL := HVL.keep F72 (fun _ _ => nin0 _)
  have HE2 := EV.keep HE2 F72 (fun _ _ => nin0 _)
  have HA := Fr.step0 HA F72
  refine WO.run 3 2 [(126, .pointer (some ⟨gj63, 0, none⟩)), (125, .bool false), (124, .bool false)] (by kernel_rfl) (by kernel_rfl) ?_
  refine WO.call (SQ.E 5 (by kernel_rfl)) 127 (by kernel_rfl) (next_j gj63 g5 many Ap Al _ cp _ cl (gs.map fun x => x.1.n) FP _ HJB HVP rfl nP (by omega) (by omega) (by rw [hf0]; omega)) ?_
  rintro _ w73 ⟨rfl, F74⟩
  rw [hf0]
  refine ⟨_, rfl, trivial, ?_⟩
  have HJB := Blk.keep HJB F74 (nin0 _)
  have HX := HX.keep F74 (fun _ _ => nin0 _)
  have HVP := HVP.keep F74 (fun _ _ => nin0 _)
  have HVL := HVL.keep F74 (fun _ _ => nin0 _)
  have HE2 := EV.keep HE2 F74 (fun _ _ => nin0 _)
  have HA := Fr.step0 HA F74
  refine WO.run 1 6 [(128, .int .i64 (sy : Int))] (by kernel_rfl) (by kernel_rfl) ?_
  refine WO.one (SQ.F 7 (by kernel_rfl)) 129 (.bool (decide ((0 + (xs2.length : Int) : Int) < (sy : Int)))) (by kernel_rfl) ?_
  refine WO.topPF ((0 + (xs2.length : Int) : Int) < (sy : Int)) (by omega) ?_
  refine WO.run 3 8 [(132, .pointer (some ⟨gj63, 0, none⟩)), (131, .bool false), (130, .bool false)] (by kernel_rfl) (by kernel_rfl) ?_
  refine WO.call (SQ.E 11 (by kernel_rfl)) 133 (by kernel_rfl) (next_j gj63 g5 many Ap Al _ cp _ cl (gs.map fun x => x.1.n) FP _ HJB HVP rfl nP (by omega) (by omega) (by rw [hf0]; omega)) ?_
  rintro _ w75 ⟨rfl, F76⟩
  rw [hf0]
  refine ⟨_, rfl, trivial, ?_⟩
  have HJB := Blk.keep HJB F76 (nin0 _)
  have HX := HX.keep F76 (fun _ _ => nin0 _)
  have HVP := HVP.keep F76 (fun _ _ => nin0 _)
  have HVL := HVL.keep F76 (fun _ _ => nin0 _)
  have HE2 := EV.keep HE2 F76 (fun _ _ => nin0 _)
  have HA := Fr.step0 HA F76
  refine WO.run 2 12 [(135, .int .i64 (nX : Int)), (134, .slice AX nX cX)] (by kernel_rfl) (by kernel_rfl) ?_
  refine WO.one (SQ.F 14 (by kernel_rfl)) 136 (.bool (decide ((0 + (xs2.length : Int) : Int) > (nX : Int)))) (by kernel_rfl) ?_
  refine WO.topPF ((0 + (xs2.length : Int) : Int) > (nX : Int)) (by omega) ?_
  refine WO.run 1 15 [(137, .bool false)] (by kernel_rfl) (by kernel_rfl) ?_
  refine WO.done (by kernel_rfl) ?_
  refine WQ.keep [0, 1, 2, 3, 9, 10, 12, 14, 17, 18, 73, 121, 137] (e' := [(0, .int .i64 many), (1, .slice AX nX cX), (2, .int .i64 (sy : Int)), (3, .int .i64 keep), (9, .bool true), (10, .pointer (some ⟨g5, 0, none⟩)), (12, .pointer (some ⟨gj13, 0, none⟩)), (14, .int .i64 (i : Int)), (17, .pointer (some ⟨gj63, 0, none⟩)), (18, .nilIface), (73, .bool false), (121, .bool false), (137, .bool false)]) (by kernel_rfl) ?_
  refine WQ.thenN ?_
  refine WE.condF (by kernel_rfl) ?_
  refine WE.skip ?_
  refine WQ.thenN ?_
  refine WE.seq ?_
  refine WE.seq ?_
  refine WE.region ?_
  refine WO.run 1 0 [(19, .int .i64 0)] (by kernel_rfl) (by kernel_rfl) ?_
  refine WO.done (by kernel_rfl) ?_
  refine WQ.keep [0, 1, 2, 3, 9, 10, 12, 14, 17, 18, 19, 73, 121, 137] (e' := [(0, .int .i64 many), (1, .slice AX nX cX), (2, .int .i64 (sy : Int)), (3, .int .i64 keep), (9, .bool true), (10, .pointer (some ⟨g5, 0, none⟩)), (12, .pointer (some ⟨gj13, 0, none⟩)), (14, .int .i64 (i : Int)), (17, .pointer (some ⟨gj63, 0, none⟩)), (18, .nilIface), (19, .int .i64 0), (73, .bool false), (121, .bool false), (137, .bool false)]) (by kernel_rfl) ?_
  refine WQ.thenN ?_
  refine WE.block ?_
  refine WE.loop (α := Nat) (E := fun i2 => [(1, .slice AX nX cX), (9, .bool true), (17, .pointer (some ⟨gj63, 0, none⟩)), (19, .int .i64 (i2 : Int))]) (I := fun i2 wo => i2 ≤ q ∧ Blk wo gj63 #[.pointer (some ⟨g5, 0, none⟩), .int .i64 many, .slice Ap ((gs.map fun x => x.1.n).length) cp, .slice Al xs2.length cl] 80 ∧ VX cI 1 wo FP Ap (gs.map fun x => x.1.n) ∧ VX cR 1 wo FL Al xs2 ∧ EV wo FE2 xs2 (rs.take q) ∧ VX cR 1 wo FX AX xs ∧ Fr [] w wo) (m := fun i2 => q - i2) 0 [1, 9, 17, 19] (by kernel_rfl) ?_ ?_
  · exact ⟨Nat.zero_le _, HJB, HVP, HVL, HE2, HX, HA⟩
  rintro i2 wo ⟨hi2, HJB, HVP, HVL, HE2, HX, HA⟩
  refine WE.seq ?_
  refine WE.seq ?_
  refine WE.region ?_
  refine WO.run 2 0 [(139, .pointer (some ⟨gj63, 0, none⟩)), (138, .int .i64 (i2 : Int))] (by kernel_rfl) (by kernel_rfl) ?_
  refine WO.call (SQ.E 2 (by kernel_rfl)) 140 (by kernel_rfl) (next_j gj63 g5 many Ap Al _ cp _ cl (gs.map fun x => x.1.n) FP _ HJB HVP rfl nP (by omega) (by omega) (by rw [hf0]; omega)) ?_
  rintro _ w77 ⟨rfl, F78⟩
  rw [hf0]
  refine ⟨_, rfl, trivial, ?_⟩
  have HJB := Blk.keep HJB F78 (nin0 _)
  have HX := HX.keep F78 (fun _ _ => nin0 _)
  have HVP := HVP.keep F78 (fun _ _ => nin0 _)
  have HVL := HVL.keep F78 (fun _ _ => nin0 _)
  have HE2 := EV.keep HE2 F78 (fun _ _ => nin0 _)
  have HA := Fr.step0 HA F78
  refine WO.one (SQ.F 3 (by kernel_rfl)) 141 (.bool (decide (((i2 : Int) : Int) < (0 + (xs2.length : Int))))) (by kernel_rfl) ?_
  refine WO.topP (((i2 : Int) : Int) < (0 + (xs2.length : Int))) ?_ ?_
  · intro h79
    refine WO.done (by kernel_rfl) ?_
    refine WQ.keep [1, 9, 17, 19, 141] (e' := [(1, .slice AX nX cX), (9, .bool true), (17, .pointer (some ⟨gj63, 0, none⟩)), (19, .int .i64 (i2 : Int)), (141, .bool true)]) (by kernel_rfl) ?_
    refine WQ.thenN ?_
    refine WE.condT (by kernel_rfl) ?_
    refine WE.skip ?_
    refine WQ.thenN ?_
    refine WE.seq ?_
    refine WE.block ?_
    refine WE.seq ?_
    obtain ⟨r, hrk⟩ : ∃ r, rs[i2]? = some r := ⟨rs[i2]'(by omega), List.getElem?_eq_getElem _⟩
    obtain ⟨hxn, hxc, Fk, hFk, hVk⟩ := (HE0.keep HA (fun _ _ => nin0 _)).at (gR_some xs i2 (by omega)) hrk
    have hrk2 : (rs.take q)[i2]? = some r := by rw [List.getElem?_take_of_lt (by omega)]; exact hrk
    have hro : recOk r ∧ r.length ≤ 1000 := hjo.recs r (by rw [hsegs]; exact List.mem_of_getElem? (i := i2) (by rw [List.getElem?_take_of_lt (by omega)]; exact hrk))
    have hro1 := hro.1.1
    have hro2 := hro.2
    refine WE.region ?_
    refine WO.run 2 0 [(146, .int .i64 (i2 : Int)), (145, .pointer (some ⟨gj63, 0, none⟩))] (by kernel_rfl) (by kernel_rfl) ?_
    refine WO.call (SQ.E 2 (by kernel_rfl)) 147 (by kernel_rfl) (jrec_f gj63 g5 many Ap Al _ cp _ cl (gs.map fun x => x.1.n) xs2 _ FP FL FE2 i2 r _ HJB HVP rfl HVL rfl HE2 nP nL nE (by omega) (by omega) hf0 (by omega) (gR_some xs2 i2 (by omega)) hrk2 (by first | omega | decide) (by first | omega | decide)) ?_
    rintro _ w80 ⟨b82, cp83, rfl, hc86, HVc84, F81, ge85⟩
    refine ⟨_, rfl, trivial, ?_⟩
    have ne_gj63_b82 : gj63 ≠ b82 := Nat.ne_of_lt (Nat.lt_of_lt_of_le HJB.lt ge85)
    have nin_b82_FX : b82 ∉ FX := new_nin HX.lt ge85
    have nin_b82_FP : b82 ∉ FP := new_nin HVP.lt ge85
    have nin_b82_FL : b82 ∉ FL := new_nin HVL.lt ge85
    have nin_b82_FE2 : b82 ∉ FE2 := new_nin (EV.lt HE2) ge85
    have ge_HA_b82 := Nat.le_trans HA.size ge85
    obtain ⟨F87, hF87⟩ : ∃ F_, F_ = [b82] := ⟨_, rfl⟩
    rw [← hF87] at HVc84
    have nin_gj63_F87 : gj63 ∉ F87 := by rw [hF87]; simpa using ne_gj63_b82
    have dj_F87_FX : ∀ y ∈ F87, y ∉ FX := by rw [hF87]; intro y hy; rw [List.mem_singleton.1 hy]; exact nin_b82_FX
    have dj_F87_FP : ∀ y ∈ F87, y ∉ FP := by rw [hF87]; intro y hy; rw [List.mem_singleton.1 hy]; exact nin_b82_FP
    have dj_F87_FL : ∀ y ∈ F87, y ∉ FL := by rw [hF87]; intro y hy; rw [List.mem_singleton.1 hy]; exact nin_b82_FL
    have dj_F87_FE2 : ∀ y ∈ F87, y ∉ FE2 := by rw [hF87]; intro y hy; rw [List.mem_singleton.1 hy]; exact nin_b82_FE2
    have ge_HA_F87 : ∀ y ∈ F87, (World.heap w).size ≤ y := by rw [hF87]; intro y hy; rw [List.mem_singleton.1 hy]; exact ge_HA_b82
    have HJB := Blk.keep HJB F81 (nin0 _)
    have HX := HX.keep F81 (fun _ _ => nin0 _)
    have HVP := HVP.keep F81 (fun _ _ => nin0 _)
    have HVL := HVL.keep F81 (fun _ _ => nin0 _)
    have HE2 := EV.keep HE2 F81 (fun _ _ => nin0 _)
    have HA := Fr.step0 HA F81
    refine WO.run 5 3 [(21, .nilIface), (20, .slice (some ⟨b82, 0, none⟩) r.length cp83), (149, .nilIface), (148, .slice (some ⟨b82, 0, none⟩) r.length cp83), (144, .tuple #[.slice (some ⟨b82, 0, none⟩) r.length cp83, .nilIface])] (by kernel_rfl) (by kernel_rfl) ?_
    refine WO.done (by kernel_rfl) ?_
    refine WQ.keep [1, 9, 17, 19, 20, 21, 141] (e' := [(1, .slice AX nX cX), (9, .bool true), (17, .pointer (some ⟨gj63, 0, none⟩)), (19, .int .i64 (i2 : Int)), (20, .slice (some ⟨b82, 0, none⟩) r.length cp83), (21, .nilIface), (141, .bool true)]) (by kernel_rfl) ?_
    refine WQ.thenN ?_
    refine WE.seq ?_
    obtain ⟨_, _, Fk3, _, HVk3⟩ := (HE0.keep HA (fun _ _ => nin0 _)).at (gR_some xs i2 (by omega)) hrk
    refine WE.draw [.free, .free, .free, .free, .still, .free, .free, .free, .still, .still, .free, .free] Same sameR (by kernel_rfl) 12 (Array.replicate 12 false) (by kernel_rfl) rfl ?_
    intro w88 F89 _
    have HJB := Blk.keep HJB F89 (nin0 _)
    have HX := HX.keep F89 (fun _ _ => nin0 _)
    have HVP := HVP.keep F89 (fun _ _ => nin0 _)
    have HVL := HVL.keep F89 (fun _ _ => nin0 _)
    have HE2 := EV.keep HE2 F89 (fun _ _ => nin0 _)
    have HVc84 := HVc84.keep F89 (fun _ _ => nin0 _)
    have HVk3 := HVk3.keep F89 (fun _ _ => nin0 _)
    have HA := Fr.step0 HA F89
    refine WO.one (SA.F sameR sameT _ 0 _ (by kernel_rfl)) 150 (.nilIface) (by kernel_rfl) ?_
    refine WO.one (SA.F sameR sameT _ 1 _ (by kernel_rfl)) 151 (.bool false) (by kernel_rfl) ?_
    refine WO.one (SA.F sameR sameT _ 2 _ (by kernel_rfl)) 152 (.bool false) (by kernel_rfl) ?_
    refine WO.one (SA.F sameR sameT _ 3 _ (by kernel_rfl)) 153 (.slice (some ⟨b82, 0, none⟩) r.length cp83) (by kernel_rfl) ?_
    refine WO.b2s (v := .slice (some ⟨b82, 0, none⟩) r.length cp83) (SA.S sameR sameT _ 4 _ (by kernel_rfl)) 154 byt r (n := r.length) (rfl : List.length r = _) (by kernel_rfl) (same (HVc84.srcN (rfl : List.length r = _) (cB_len _) (cB_one _) cp83)) ?_
    refine WO.one (SA.F sameR sameT _ 5 _ (by kernel_rfl)) 155 (.slice AX nX cX) (by kernel_rfl) ?_
    refine WO.one (SA.F sameR sameT _ 6 _ (by kernel_rfl)) 156 (.int .i64 (i2 : Int)) (by kernel_rfl) ?_
    obtain ⟨ad90, hA91⟩ := HX.addr (i := i2) (by have := hnX; omega)
    refine WO.ixo (SA.F sameR sameT _ 7 _ (by kernel_rfl)) 157 nX 1 i2 (i2 : Int) hA91 (by kernel_rfl) rfl (by omega) ?_
    refine WO.ld (SA.S sameR sameT _ 8 _ (by kernel_rfl)) 158 (.slice ((gR xs i2).1) ((gR xs i2).2.1) ((gR xs i2).2.2)) (by kernel_rfl) (same (HX.at0 hA91 (gR_some xs i2 (by have := hnX; omega)) (by kernel_rfl))) ?_
    refine WO.b2s (v := .slice ((gR xs i2).1) ((gR xs i2).2.1) ((gR xs i2).2.2)) (SA.S sameR sameT _ 9 _ (by kernel_rfl)) 159 byt r (n := ((gR xs i2).2.1)) hxn.symm (by kernel_rfl) (same (HVk3.srcN hxn.symm (cB_len _) (cB_one _) ((gR xs i2).2.2))) ?_
    refine WO.one (SA.F sameR sameT _ 10 _ (by kernel_rfl)) 160 (.bool (!((str r).toList == (str r).toList))) (by kernel_rfl) ?_
    refine WO.top (v' := .bool (!decide ((str r) = (str r)))) (congrArg Value.bool (congrArg not (streq (str r) (str r)))) ?_
    refine WO.topNT ((str r) = (str r)) (by rfl) ?_
    refine WO.one (SA.F sameR sameT _ 11 _ (by kernel_rfl)) 161 (.bool false) (by kernel_rfl) ?_
    refine WO.doneA (by kernel_rfl) ?_
    refine WQ.keep [1, 9, 17, 19, 20, 21, 141, 161] (e' := [(1, .slice AX nX cX), (9, .bool true), (17, .pointer (some ⟨gj63, 0, none⟩)), (19, .int .i64 (i2 : Int)), (20, .slice (some ⟨b82, 0, none⟩) r.length cp83), (21, .nilIface), (141, .bool true), (161, .bool false)]) (by kernel_rfl) ?_
    refine WQ.thenN ?_
    refine WE.condF (by kernel_rfl) ?_
    refine WE.skip ?_
    refine WQ.blkN ?_
    refine WQ.thenN ?_
    refine WE.region ?_
    refine WO.run 1 0 [(142, .int .i64 (i2 : Int))] (by kernel_rfl) (by kernel_rfl) ?_
    refine WO.one (SQ.F 1 (by kernel_rfl)) 143 (.int .i64 (IntKind.i64.wrap ((i2 : Int) + 1))) (by kernel_rfl) ?_
    refine WO.top (v' := .int .i64 ((i2 + 1 : Nat) : Int)) (wrap_i64 (by omega) (by omega)) ?_
    refine WO.run 1 2 [(19, .int .i64 ((i2 + 1 : Nat) : Int))] (by kernel_rfl) (by kernel_rfl) ?_
    refine WO.done (by kernel_rfl) ?_
    refine WQ.keep [1, 9, 17, 19, 20, 21, 141, 161] (e' := [(1, .slice AX nX cX), (9, .bool true), (17, .pointer (some ⟨gj63, 0, none⟩)), (19, .int .i64 ((i2 + 1 : Nat) : Int)), (20, .slice (some ⟨b82, 0, none⟩) r.length cp83), (21, .nilIface), (141, .bool true), (161, .bool false)]) (by kernel_rfl) ?_
    refine WQ.round ?_
    intro a_ ha_
    refine ⟨i2 + 1, ?_, ha_.keep [1, 9, 17, 19] (by kernel_rfl), ?_⟩
    · omega
    · exact ⟨by omega, HJB, HVP, HVL, HE2, HX, HA⟩
  intro h79
  refine WO.done (by kernel_rfl) ?_
  refine WQ.keep [1, 9, 17, 19, 141] (e' := [(1, .slice AX nX cX), (9, .bool true), (17, .pointer (some ⟨gj63, 0, none⟩)), (19, .int .i64 (i2 : Int)), (141, .bool false)]) (by kernel_rfl) ?_
  refine WQ.thenN ?_
  refine WE.condF (by kernel_rfl) ?_
  refine WE.exit ?_
  refine WQ.thenE ?_
  refine WQ.thenE ?_
  refine WQ.blkE ?_
  refine WQ.thenN ?_
  refine WE.seq ?_
  refine WE.region ?_
  refine WO.run 2 0 [(8, .bool true), (162, .bool true)] (by kernel_rfl) (by kernel_rfl) ?_
  refine WO.done (by kernel_rfl) ?_
  refine WQ.keep [1, 8, 9, 17, 19, 141] (e' := [(1, .slice AX nX cX), (8, .bool true), (9, .bool true), (17, .pointer (some ⟨gj63, 0, none⟩)), (19, .int .i64 (i2 : Int)), (141, .bool false)]) (by kernel_rfl) ?_
  refine WQ.thenN ?_
  refine WE.ret ?_
  refine WQ.ret (v := .bool true) (by kernel_rfl) ?_
  exact ⟨rfl, HA⟩
end Go.Proofs.Ytkhibpdkgjapgaa.Jrn
