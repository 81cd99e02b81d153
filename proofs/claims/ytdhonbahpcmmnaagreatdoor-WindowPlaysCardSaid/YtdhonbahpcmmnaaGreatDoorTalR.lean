/- Layer 18: rows. -/
import Derived.Test.YtdhonbahpcmmnaaGreatDoorTalW
import Derived.Test.YtdhonbahpcmmnaaGreatDoorEngC
set_option linter.unusedVariables false
set_option linter.unusedSimpArgs false
namespace Go.Proofs.YtdhonbahpcmmnaaGreatDoor.Bat
open Go Go.RowKit Go.Proofs.YtdhonbahpcmmnaaGreatDoor Go.Proofs.YtdhonbahpcmmnaaGreatDoor.Eng Go.Proofs.YtdhonbahpcmmnaaGreatDoorW.PrintWords
open Go.Proofs
open Go.Proofs.YtdhonbahpcmmnaaGreatDoor.Line
open Go.Proofs.YtdhonbahpcmmnaaGreatDoor.Wire (enc zig unzig encT St rNum rWhole rText rEnd)
set_option maxRecDepth 100000 in
set_option maxHeartbeats 400000 in
theorem buk_f (A : Option Addr) (cp : Nat) (q : List Nat) (F : List Nat) (v : Int) (w : World) (HV : VX cN 1 w F A q) (hl : q.length ≤ 65) (hv : I64 v) (hq : ∀ x ∈ q, x < 18446744073709551616) :
    Calls Tryz.prog 70 #[.slice A q.length cp, .int .i64 v] w fun e w' => ∃ A' c' F', e = .returned (.slice A' (bumpN q (bl v)).length c') ∧ OwnX 46 1 w' F' (.slice A' (bumpN q (bl v)).length c') ((bumpN q (bl v)).map cN) ∧ (∀ y ∈ F', w.heap.size ≤ y) ∧ Fr [] w w' := by
 have hble0_ := bl_le hv
 have HA := Fr.refl [] w
 refine Ze Tryz.func70 _ <| Zsg <| Zr 1 <| Zdn <| Zsg <| Zr 1 <| Zcf 10 (bkt_f v _ hv) ?_
 intro w1 F2
 refine Zr 1 <| Zdn <| Zsg <| Zr 1 <| Zc 12 (clu_f A q.length cp q F _ (HV.keep F2 dj0) rfl (by omega)) ?_
 rintro _ w3 ⟨A1, c1, G1, rfl, HO1, hg1, F4⟩
 refine ⟨_, rfl, trivial, ?_⟩
 have hg1r := fun y hy => Or.inr (a := y ∈ ([] : List Nat)) (hg1 y hy)
 have HA := HA.step0 F2
 have ge_HA_G1 := grow_ge hg1r (by simp) HA.size
 refine Zr 1 <| Zdn <| Zq <| WE.block <| WE.loop (α := List Nat × Option Addr × Nat × List Nat) (E := fun ⟨FO, AO, cO, q2⟩ => [(4, .slice none 0 0), (5, J (bl v : Int)), (6, .slice AO q2.length cO)]) (I := fun ⟨FO, AO, cO, q2⟩ wr => extN q2 (bl v) = extN q (bl v) ∧ q2.length ≤ 65 ∧ OwnX 46 1 wr FO (.slice AO q2.length cO) (List.map cN q2) ∧ (∀ y ∈ FO, (World.heap w).size ≤ y) ∧ Fr [] w wr) (m := fun ⟨FO, AO, cO, q2⟩ => 65 - q2.length) (G1, A1, c1, q) [4, 5, 6] (by kernel_rfl) ?_ ?_
 ·
  exact ⟨by rfl, by omega, HO1, ge_HA_G1, (HA.step0 F4)⟩
 rintro ⟨FO, AO, cO, q2⟩ wr ⟨hx2, hl2, HO_FO, ge_HA_FO, HA⟩
 refine Zq <| Zsg <| Zr 3 <| ZoP 16 (((q2.length : Int) : Int) ≤ (bl v : Int)) ?_ ?_
 ·
  intro h5
  refine Zdn <| ZT <| Zk <| WE.block <| WE.region <| Zr 1 <| Zb 18 #[.int .u64 0] 46 (fun g => .slice (some ⟨g, 0, none⟩) 1 1) ?_
  intro g6 w7 HB9 F8 le10 _
  refine Zax (m := 1) (ys := List.map cN ([0])) 19 et_n (HO_FO.keep F8 dj0) (RowB.src (RowB.of_blk (n := 1) HB9 (List.map cN [0]) rfl rfl (cN_len _) (cN_one _) (by omega))) (cN_len _) (cN_one _) ?_
  intro v16 w17 G18 HO19 F20 hg21
  rw [← List.map_append] at HO19
  have HA := HA.step0 F8
  have ge_HA_G18 := grow_ge hg21 ge_HA_FO HA.size
  obtain ⟨A22, cap23, rfl⟩ := HO19.sliceN (List.length_map _)
  have := @List.length_append _ q2 ([0])
  refine Zr 1 <| Zd <| WQ.blkN <| WQ.round ?_
  intro a_ ha_
  refine ⟨(G18, A22, cap23, (q2 ++ [0])), ?_, ha_.keep [4, 5, 6] (by kernel_rfl), ?_⟩
  ·
   show 65 - (q2 ++ [0]).length < 65 - q2.length; rw [List.length_append]; simp only [List.length_cons, List.length_nil]; omega
  ·
   exact ⟨by rw [extN_snoc (by omega), hx2], by rw [List.length_append]; simp only [List.length_cons, List.length_nil]; omega, HO19, ge_HA_G18, (HA.step F20 (inF ge_HA_FO))⟩
 intro h5
 refine Zdn <| ZF <| WE.exit <| WQ.thenE <| WQ.thenE <| WQ.blkE <| Zn <| Zq ?_
 have hble_ := bl_le hv
 obtain ⟨b24, hF26, hA27, HR25⟩ := HO_FO.pos (by rw [List.length_map]; omega)
 have ge_HA_b24 := ge_HA_FO _ (by rw [hF26]; exact List.mem_singleton.2 (rfl : b24 = b24))
 subst hA27
 refine WE.region <| Zr 2 <| Zib 23 (bl v) b24 0 q2.length 1 (bl v : Int) <| Zl 24 (.int .u64 ((gN q2 (bl v)) : Int)) (same (HR25.at (bl v) 0 (bl v) _ (by rw [List.length_map]; have := (rfl : List.length q2 = _); omega) (by omega) (by rw [(map_gN q2 (bl v) (by have := (rfl : List.length q2 = _); omega))]; rfl) (by omega))) <| Zc 25 (cnt_f (gN q2 (bl v)) _ (by rw [show q2 = extN q (bl v) by rw [← hx2, extN_of (by omega)]]; exact extN_lt hq _ (gN_mem (by rw [extN_len]; exact Nat.lt_of_lt_of_le (Nat.lt_succ_self _) (Nat.le_max_right _ _))))) ?_
 rintro _ w29 ⟨bo28, rfl, F30⟩
 refine ⟨_, rfl, trivial, Zr 5 <| Zdn <| Zsg <| Zr 3 <| Zib 31 (bl v) b24 0 q2.length 1 (bl v : Int) <| Zsr b24 (bl v) (bl v) [.int .u64 ((scount (gN q2 (bl v))) : Int)] (HR25.k F30) (by rw [List.length_map]; have := (rfl : List.length q2 = _); omega) ?_⟩
 intro w31 HR33 F32 _
 have HR33 : RowB w31 b24 46 1 cO ((q2.set (bl v) (scount (gN q2 (bl v)))).map cN) := by rw [List.map_set]; exact HR33
 refine Zdn <| Zsg <| Zr 2 <| Zdn <| WE.ret <| ZR (.slice (some ⟨b24, 0, none⟩) q2.length cO) ?_
 have he_ : q2 = extN q (bl v) := by rw [← hx2, extN_of (by omega)]
 exact ⟨some ⟨b24, 0, none⟩, cO, [b24], by rw [bumpN_len, ← extN_len, ← he_], by have h_ := OwnX.row HR33 (List.length_map _); unfold bumpN; rw [← he_]; rw [List.length_set] at h_ ⊢; exact h_, fun y hy => by rw [List.mem_singleton.1 hy]; exact ge_HA_b24, ((HA.step0 F30).step F32 (inSR ge_HA_b24 inS0))⟩
set_option maxRecDepth 100000 in
set_option maxHeartbeats 400000 in
theorem beg_f (key : L) (kind v : Int) (w : World) (hv : I64 v) :
    Calls Tryz.prog 52 #[.string (str key), .int .i64 kind, .int .i64 v] w fun e w' => ∃ A' c' F', e = .returned (.agg #[.string (str (begR key kind v).key), .int .i64 ((begR key kind v).kind), .int .u64 ((begR key kind v).many : Int), .int .i64 ((begR key kind v).sum), .int .i64 ((begR key kind v).least), .int .i64 ((begR key kind v).most), .bool ((begR key kind v).over), .slice A' ((begR key kind v).bk.length) c']) ∧ OwnX 46 1 w' F' (.slice A' (begR key kind v).bk.length c') ((begR key kind v).bk.map cN) ∧ (∀ y ∈ F', w.heap.size ≤ y) ∧ Fr [] w w' := by
 have hble0_ := bl_le hv
 have HA := Fr.refl [] w
 refine Ze Tryz.func52 _ <| Zsg <| Zb 6 #[.string (⟨#[]⟩), J 0, .int .u64 0, J 0, J 0, J 0, .bool false, .slice none 0 0] 54 (fun g => Pt g 0) ?_
 intro g1 w2 HB4 F3 le5 _
 have ge_HA_g1 := Nat.le_trans HA.size le5
 refine Zdn <| Zsg <| Zr 6 <| Zb 7 #[.string (⟨#[]⟩), J 0, .int .u64 0, J 0, J 0, J 0, .bool false, .slice none 0 0] 54 (fun g => Pt g 0) ?_
 intro g6 w7 HB9 F8 le10 _
 have ne_g1_g6 := ltn HB4.lt le10
 have HA := HA.step0 F3
 have ge_HA_g6 := Nat.le_trans HA.size le10
 refine Zst g6 0 #[.string (str key), J kind, .int .u64 1, J v, J v, J v, .bool false, .slice none 0 0] HB9 ?_
 intro w11 HB13 F12 _
 have HB4 := (HB4.k F8).j F12 ne_g1_g6
 have HA := (HA.step0 F8).step F12 (inSR ge_HA_g6 inS0)
 refine Zdn <| Zq <| Zsg <| Zr 1 <| ZoP 15 ((kind : Int) = 3) ?_ ?_
 ·
  intro h14
  refine Zdn <| ZT <| WE.region <| Zr 1 <| Zc 17 (buk_f none 0 [] [] v _ (VX.nil _ _) (by simp) hv (by simp)) ?_
  rintro _ w15 ⟨A1, c1, G1, rfl, HO1, hg1, F16⟩
  refine ⟨_, rfl, trivial, ?_⟩
  have hg1r := fun y hy => Or.inr (a := y ∈ ([] : List Nat)) (hg1 y hy)
  have nin_g1_G1 := grow_nin hg1r (nin0 _) HB4.lt
  have nin_g6_G1 := grow_nin hg1r (nin0 _) HB13.lt
  have ge_HA_G1 := grow_ge hg1r (by simp) HA.size
  refine Zr 1 <| Zst g6 7 #[.string (str key), J kind, .int .u64 1, J v, J v, J v, .bool false, .slice A1 ((bumpN [] (bl v)).length) c1] (HB13.k F16) ?_
  intro w17 HB19 F18 _
  refine Zdn <| Zsg <| Zlb 19 [.string (str key), J kind, .int .u64 1, J v, J v, J v, .bool false, .slice A1 ((bumpN [] (bl v)).length) c1] g6 0 (same HB19) <| Zst g1 0 #[.string (str key), J kind, .int .u64 1, J v, J v, J v, .bool false, .slice A1 ((bumpN [] (bl v)).length) c1] ((HB4.k F16).j F18 ne_g1_g6) ?_
  intro w20 HB22 F21 _
  refine Zdn <| WE.ret <| WQ.ret1 (fn := Tryz.f52) (show Tryz.f52.results = #[.cell 6 54] by kernel_rfl) (show resOk _ _ _ _ (.agg #[.string (str key), J kind, .int .u64 1, J v, J v, J v, .bool false, .slice A1 ((bumpN [] (bl v)).length) c1]) from ⟨by kernel_rfl, ⟨g1, 0, none⟩, by kernel_rfl, ldVarB [.string (str key), J kind, .int .u64 1, J v, J v, J v, .bool false, .slice A1 ((bumpN [] (bl v)).length) c1] (by kernel_rfl) (by kernel_rfl) (by kernel_rfl) HB22 (by kernel_rfl)⟩) ?_
  exact ⟨A1, c1, G1, by simp only [begR, if_pos h14] <;> rfl, by simp only [begR, if_pos h14]; exact ((HO1.keep F18 (djB nin_g6_G1)).keep F21 (djB nin_g1_G1)), ge_HA_G1, (((HA.step0 F16).step F18 (inSR ge_HA_g6 inS0)).step F21 (inSR ge_HA_g1 inS0))⟩
 intro h14
 refine Zdn <| ZF <| Zk <| Zsg <| Zlb 19 [.string (str key), J kind, .int .u64 1, J v, J v, J v, .bool false, .slice none 0 0] g6 0 (same HB13) <| Zst g1 0 #[.string (str key), J kind, .int .u64 1, J v, J v, J v, .bool false, .slice none 0 0] HB4 ?_
 intro w23 HB25 F24 _
 refine Zdn <| WE.ret <| WQ.ret1 (fn := Tryz.f52) (show Tryz.f52.results = #[.cell 6 54] by kernel_rfl) (show resOk _ _ _ _ (.agg #[.string (str key), J kind, .int .u64 1, J v, J v, J v, .bool false, .slice none 0 0]) from ⟨by kernel_rfl, ⟨g1, 0, none⟩, by kernel_rfl, ldVarB [.string (str key), J kind, .int .u64 1, J v, J v, J v, .bool false, .slice none 0 0] (by kernel_rfl) (by kernel_rfl) (by kernel_rfl) HB25 (by kernel_rfl)⟩) ?_
 exact ⟨none, 0, [], by simp only [begR, if_neg h14]; rfl, by simp only [begR, if_neg h14]; exact OwnX.nil _ _ _, by simp, (HA.step F24 (inSR ge_HA_g1 inS0))⟩
set_option maxRecDepth 100000 in
set_option maxHeartbeats 400000 in
theorem tad_f (r : Rw) (A : Option Addr) (cp : Nat) (F : List Nat) (v : Int) (w : World) (HV : VX cN 1 w F A r.bk) (hl : r.bk.length ≤ 65) (hv : I64 v) (hin : r.In) :
    Calls Tryz.prog 51 #[.agg #[.string (str r.key), .int .i64 r.kind, .int .u64 (r.many : Int), .int .i64 r.sum, .int .i64 r.least, .int .i64 r.most, .bool r.over, .slice A r.bk.length cp], .int .i64 v] w fun e w' => ∃ A' c' F', e = .returned (.agg #[.string (str (addR r v).key), .int .i64 ((addR r v).kind), .int .u64 ((addR r v).many : Int), .int .i64 ((addR r v).sum), .int .i64 ((addR r v).least), .int .i64 ((addR r v).most), .bool ((addR r v).over), .slice A' ((addR r v).bk.length) c']) ∧ OwnX 46 1 w' F' (.slice A' (addR r v).bk.length c') ((addR r v).bk.map cN) ∧ (∀ y ∈ F', w.heap.size ≤ y) ∧ Fr [] w w' := by
 have hble0_ := bl_le hv
 have HA := Fr.refl [] w
 refine Ze Tryz.func51 _ <| Zsg <| Zb 2 #[.string (str r.key), J r.kind, .int .u64 (r.many : Int), J r.sum, J r.least, J r.most, .bool r.over, .slice A r.bk.length cp] 54 (fun g => Pt g 0) ?_
 intro g1 w2 HB4 F3 le5 _
 have nin_g1_F := new_nin HV.lt le5
 have ge_HA_g1 := Nat.le_trans HA.size le5
 refine Zb 4 #[.string (⟨#[]⟩), J 0, .int .u64 0, J 0, J 0, J 0, .bool false, .slice none 0 0] 54 (fun g => Pt g 0) ?_
 intro g6 w7 HB9 F8 le10 _
 have ne_g1_g6 := ltn HB4.lt le10
 have HA := HA.step0 F3
 have ge_HA_g6 := Nat.le_trans HA.size le10
 have HB4 := HB4.k F8
 refine Zdn <| Zsg <| Zr 1 <| Zl 9 (.int .u64 (r.many : Int)) (HB4.s 2) <| Zc 10 (cnt_f r.many _ hin.1) ?_
 rintro _ w12 ⟨bo11, rfl, F13⟩
 refine ⟨_, rfl, trivial, Zr 4 <| Zst g1 2 #[.string (str r.key), J r.kind, .int .u64 ((scount r.many) : Int), J r.sum, J r.least, J r.most, .bool r.over, .slice A r.bk.length cp] (HB4.k F13) ?_⟩
 intro w14 HB16 F15 _
 have HV := (((HV.keep F3 dj0).keep F8 dj0).keep F13 dj0).keep F15 (djB nin_g1_F)
 have HA := ((HA.step0 F8).step0 F13).step F15 (inSR ge_HA_g1 inS0)
 have HB9 := (HB9.k F13).j F15 (Ne.symm ne_g1_g6)
 refine Zdn <| Zq <| Zsg <| Zr 1 <| Zl 15 (J r.kind) (HB16.s 1) <| ZoP 16 ((r.kind : Int) = 2) ?_ ?_
 ·
  intro h17
  refine Zdn <| ZT <| WE.region <| Zr 2 <| Zst g1 3 #[.string (str r.key), J r.kind, .int .u64 ((scount r.many) : Int), J v, J r.least, J r.most, .bool r.over, .slice A r.bk.length cp] HB16 ?_
  intro w18 HB20 F19 _
  refine Zdn <| Zsg <| Zr 1 <| Zl 35 (J r.least) (HB20.s 4) <| Zr 3 <| Zl 39 (J r.most) (HB20.s 5) <| Zr 3 <| Zst g1 4 #[.string (str r.key), J r.kind, .int .u64 ((scount r.many) : Int), J v, J (if v < r.least then v else r.least), J r.most, .bool r.over, .slice A r.bk.length cp] HB20 ?_
  intro w21 HB23 F22 _
  refine Zr 1 <| Zst g1 5 #[.string (str r.key), J r.kind, .int .u64 ((scount r.many) : Int), J v, J (if v < r.least then v else r.least), J (if r.most < v then v else r.most), .bool r.over, .slice A r.bk.length cp] HB23 ?_
  intro w24 HB26 F25 _
  refine Zdn <| Zq <| Zsg <| Zr 1 <| Zl 45 (J r.kind) (HB26.s 1) <| ZoPF 46 ((r.kind : Int) = 3) (by omega) <| Zdn <| ZF <| WE.region <| Zr 1 <| Zl 53 (.slice A r.bk.length cp) (HB26.s 7) <| Zc 54 (clu_f A r.bk.length cp r.bk F _ (((HV.keep F19 (djB nin_g1_F)).keep F22 (djB nin_g1_F)).keep F25 (djB nin_g1_F)) rfl (by omega)) ?_
  rintro _ w27 ⟨A1, c1, G1, rfl, HO1, hg1, F28⟩
  refine ⟨_, rfl, trivial, ?_⟩
  have hg1r := fun y hy => Or.inr (a := y ∈ ([] : List Nat)) (hg1 y hy)
  have HB9 := ((HB9.j F19 (Ne.symm ne_g1_g6)).j F22 (Ne.symm ne_g1_g6)).j F25 (Ne.symm ne_g1_g6)
  have nin_g6_G1 := grow_nin hg1r (nin0 _) HB9.lt
  have nin_g1_G1 := grow_nin hg1r (nin0 _) HB26.lt
  have HA := ((HA.step F19 (inSR ge_HA_g1 inS0)).step F22 (inSR ge_HA_g1 inS0)).step F25 (inSR ge_HA_g1 inS0)
  have ge_HA_G1 := grow_ge hg1r (by simp) HA.size
  refine Zr 1 <| Zst g1 7 #[.string (str r.key), J r.kind, .int .u64 ((scount r.many) : Int), J v, J (if v < r.least then v else r.least), J (if r.most < v then v else r.most), .bool r.over, .slice A1 r.bk.length c1] (HB26.k F28) ?_
  intro w29 HB31 F30 _
  refine Zdn <| Zsg <| Zlb 56 [.string (str r.key), J r.kind, .int .u64 ((scount r.many) : Int), J v, J (if v < r.least then v else r.least), J (if r.most < v then v else r.most), .bool r.over, .slice A1 r.bk.length c1] g1 0 (same HB31) <| Zst g6 0 #[.string (str r.key), J r.kind, .int .u64 ((scount r.many) : Int), J v, J (if v < r.least then v else r.least), J (if r.most < v then v else r.most), .bool r.over, .slice A1 r.bk.length c1] ((HB9.k F28).j F30 (Ne.symm ne_g1_g6)) ?_
  intro w32 HB34 F33 _
  refine Zdn <| WE.ret <| WQ.ret1 (fn := Tryz.f51) (show Tryz.f51.results = #[.cell 4 54] by kernel_rfl) (show resOk _ _ _ _ (.agg #[.string (str r.key), J r.kind, .int .u64 ((scount r.many) : Int), J v, J (if v < r.least then v else r.least), J (if r.most < v then v else r.most), .bool r.over, .slice A1 r.bk.length c1]) from ⟨by kernel_rfl, ⟨g6, 0, none⟩, by kernel_rfl, ldVarB [.string (str r.key), J r.kind, .int .u64 ((scount r.many) : Int), J v, J (if v < r.least then v else r.least), J (if r.most < v then v else r.most), .bool r.over, .slice A1 r.bk.length c1] (by kernel_rfl) (by kernel_rfl) (by kernel_rfl) HB34 (by kernel_rfl)⟩) ?_
  exact ⟨A1, c1, G1, by simp only [addR, if_pos h17, if_neg (show ¬ r.kind = 3 by omega)], by simp only [addR, if_pos h17, if_neg (show ¬ r.kind = 3 by omega)]; exact ((HO1.keep F30 (djB nin_g1_G1)).keep F33 (djB nin_g6_G1)), ge_HA_G1, (((HA.step0 F28).step F30 (inSR ge_HA_g1 inS0)).step F33 (inSR ge_HA_g6 inS0))⟩
 intro h17
 refine Zdn <| ZF <| Zsg <| Zr 1 <| Zl 21 (J r.sum) (HB16.s 3) <| Zr 1 <| Zc 23 (sad_f r.sum v _ hin.2.1 hv) ?_
 rintro _ w35 ⟨rfl, F36⟩
 have HB16 := HB16.k F36
 refine ⟨_, rfl, trivial, Zr 5 <| Zdn <| WE.region <| Zr 2 <| Zl 28 (.bool r.over) (HB16.s 6) ?_⟩
 refine WO.topB (r.over) ?_ ?_
 ·
  intro h37
  refine Zr 4 <| Zst g1 3 #[.string (str r.key), J r.kind, .int .u64 ((scount r.many) : Int), J ((sadd r.sum v).1), J r.least, J r.most, .bool r.over, .slice A r.bk.length cp] HB16 ?_
  intro w38 HB40 F39 _
  refine Zr 1 <| Zst g1 6 #[.string (str r.key), J r.kind, .int .u64 ((scount r.many) : Int), J ((sadd r.sum v).1), J r.least, J r.most, .bool true, .slice A r.bk.length cp] HB40 ?_
  intro w41 HB43 F42 _
  refine Zdn <| Zsg <| Zr 1 <| Zl 35 (J r.least) (HB43.s 4) <| Zr 3 <| Zl 39 (J r.most) (HB43.s 5) <| Zr 3 <| Zst g1 4 #[.string (str r.key), J r.kind, .int .u64 ((scount r.many) : Int), J ((sadd r.sum v).1), J (if v < r.least then v else r.least), J r.most, .bool true, .slice A r.bk.length cp] HB43 ?_
  intro w44 HB46 F45 _
  refine Zr 1 <| Zst g1 5 #[.string (str r.key), J r.kind, .int .u64 ((scount r.many) : Int), J ((sadd r.sum v).1), J (if v < r.least then v else r.least), J (if r.most < v then v else r.most), .bool true, .slice A r.bk.length cp] HB46 ?_
  intro w47 HB49 F48 _
  have HB9 := ((((HB9.k F36).j F39 (Ne.symm ne_g1_g6)).j F42 (Ne.symm ne_g1_g6)).j F45 (Ne.symm ne_g1_g6)).j F48 (Ne.symm ne_g1_g6)
  have HV := ((((HV.keep F36 dj0).keep F39 (djB nin_g1_F)).keep F42 (djB nin_g1_F)).keep F45 (djB nin_g1_F)).keep F48 (djB nin_g1_F)
  have HA := ((((HA.step0 F36).step F39 (inSR ge_HA_g1 inS0)).step F42 (inSR ge_HA_g1 inS0)).step F45 (inSR ge_HA_g1 inS0)).step F48 (inSR ge_HA_g1 inS0)
  refine Zdn <| Zq <| Zsg <| Zr 1 <| Zl 45 (J r.kind) (HB49.s 1) <| ZoP 46 ((r.kind : Int) = 3) ?_ ?_
  ·
   intro h50
   refine Zdn <| ZT <| WE.region <| Zr 1 <| Zl 48 (.slice A r.bk.length cp) (HB49.s 7) <| Zr 1 <| Zc 50 (buk_f A cp r.bk F v _ HV (by omega) hv hin.2.2.2.2) ?_
   rintro _ w51 ⟨A1, c1, G1, rfl, HO1, hg1, F52⟩
   refine ⟨_, rfl, trivial, ?_⟩
   have hg1r := fun y hy => Or.inr (a := y ∈ ([] : List Nat)) (hg1 y hy)
   have nin_g6_G1 := grow_nin hg1r (nin0 _) HB9.lt
   have nin_g1_G1 := grow_nin hg1r (nin0 _) HB49.lt
   have ge_HA_G1 := grow_ge hg1r (by simp) HA.size
   refine Zr 1 <| Zst g1 7 #[.string (str r.key), J r.kind, .int .u64 ((scount r.many) : Int), J ((sadd r.sum v).1), J (if v < r.least then v else r.least), J (if r.most < v then v else r.most), .bool true, .slice A1 ((bumpN r.bk (bl v)).length) c1] (HB49.k F52) ?_
   intro w53 HB55 F54 _
   refine Zdn <| Zsg <| Zlb 56 [.string (str r.key), J r.kind, .int .u64 ((scount r.many) : Int), J ((sadd r.sum v).1), J (if v < r.least then v else r.least), J (if r.most < v then v else r.most), .bool true, .slice A1 ((bumpN r.bk (bl v)).length) c1] g1 0 (same HB55) <| Zst g6 0 #[.string (str r.key), J r.kind, .int .u64 ((scount r.many) : Int), J ((sadd r.sum v).1), J (if v < r.least then v else r.least), J (if r.most < v then v else r.most), .bool true, .slice A1 ((bumpN r.bk (bl v)).length) c1] ((HB9.k F52).j F54 (Ne.symm ne_g1_g6)) ?_
   intro w56 HB58 F57 _
   refine Zdn <| WE.ret <| WQ.ret1 (fn := Tryz.f51) (show Tryz.f51.results = #[.cell 4 54] by kernel_rfl) (show resOk _ _ _ _ (.agg #[.string (str r.key), J r.kind, .int .u64 ((scount r.many) : Int), J ((sadd r.sum v).1), J (if v < r.least then v else r.least), J (if r.most < v then v else r.most), .bool true, .slice A1 ((bumpN r.bk (bl v)).length) c1]) from ⟨by kernel_rfl, ⟨g6, 0, none⟩, by kernel_rfl, ldVarB [.string (str r.key), J r.kind, .int .u64 ((scount r.many) : Int), J ((sadd r.sum v).1), J (if v < r.least then v else r.least), J (if r.most < v then v else r.most), .bool true, .slice A1 ((bumpN r.bk (bl v)).length) c1] (by kernel_rfl) (by kernel_rfl) (by kernel_rfl) HB58 (by kernel_rfl)⟩) ?_
   exact ⟨A1, c1, G1, by simp only [addR, if_neg h17, if_pos h50, h37, Bool.true_or], by simp only [addR, if_neg h17, if_pos h50, h37, Bool.true_or]; exact ((HO1.keep F54 (djB nin_g1_G1)).keep F57 (djB nin_g6_G1)), ge_HA_G1, (((HA.step0 F52).step F54 (inSR ge_HA_g1 inS0)).step F57 (inSR ge_HA_g6 inS0))⟩
  intro h50
  refine Zdn <| ZF <| WE.region <| Zr 1 <| Zl 53 (.slice A r.bk.length cp) (HB49.s 7) <| Zc 54 (clu_f A r.bk.length cp r.bk F _ HV rfl (by omega)) ?_
  rintro _ w59 ⟨A1, c1, G1, rfl, HO1, hg1, F60⟩
  refine ⟨_, rfl, trivial, ?_⟩
  have hg1r := fun y hy => Or.inr (a := y ∈ ([] : List Nat)) (hg1 y hy)
  have nin_g6_G1 := grow_nin hg1r (nin0 _) HB9.lt
  have nin_g1_G1 := grow_nin hg1r (nin0 _) HB49.lt
  have ge_HA_G1 := grow_ge hg1r (by simp) HA.size
  refine Zr 1 <| Zst g1 7 #[.string (str r.key), J r.kind, .int .u64 ((scount r.many) : Int), J ((sadd r.sum v).1), J (if v < r.least then v else r.least), J (if r.most < v then v else r.most), .bool true, .slice A1 r.bk.length c1] (HB49.k F60) ?_
  intro w61 HB63 F62 _
  refine Zdn <| Zsg <| Zlb 56 [.string (str r.key), J r.kind, .int .u64 ((scount r.many) : Int), J ((sadd r.sum v).1), J (if v < r.least then v else r.least), J (if r.most < v then v else r.most), .bool true, .slice A1 r.bk.length c1] g1 0 (same HB63) <| Zst g6 0 #[.string (str r.key), J r.kind, .int .u64 ((scount r.many) : Int), J ((sadd r.sum v).1), J (if v < r.least then v else r.least), J (if r.most < v then v else r.most), .bool true, .slice A1 r.bk.length c1] ((HB9.k F60).j F62 (Ne.symm ne_g1_g6)) ?_
  intro w64 HB66 F65 _
  refine Zdn <| WE.ret <| WQ.ret1 (fn := Tryz.f51) (show Tryz.f51.results = #[.cell 4 54] by kernel_rfl) (show resOk _ _ _ _ (.agg #[.string (str r.key), J r.kind, .int .u64 ((scount r.many) : Int), J ((sadd r.sum v).1), J (if v < r.least then v else r.least), J (if r.most < v then v else r.most), .bool true, .slice A1 r.bk.length c1]) from ⟨by kernel_rfl, ⟨g6, 0, none⟩, by kernel_rfl, ldVarB [.string (str r.key), J r.kind, .int .u64 ((scount r.many) : Int), J ((sadd r.sum v).1), J (if v < r.least then v else r.least), J (if r.most < v then v else r.most), .bool true, .slice A1 r.bk.length c1] (by kernel_rfl) (by kernel_rfl) (by kernel_rfl) HB66 (by kernel_rfl)⟩) ?_
  exact ⟨A1, c1, G1, by simp only [addR, if_neg h17, if_neg h50, h37, Bool.true_or], by simp only [addR, if_neg h17, if_neg h50, h37, Bool.true_or]; exact ((HO1.keep F62 (djB nin_g1_G1)).keep F65 (djB nin_g6_G1)), ge_HA_G1, (((HA.step0 F60).step F62 (inSR ge_HA_g1 inS0)).step F65 (inSR ge_HA_g6 inS0))⟩
 intro h37
 refine Zr 4 <| Zst g1 3 #[.string (str r.key), J r.kind, .int .u64 ((scount r.many) : Int), J ((sadd r.sum v).1), J r.least, J r.most, .bool r.over, .slice A r.bk.length cp] HB16 ?_
 intro w67 HB69 F68 _
 refine Zr 1 <| Zst g1 6 #[.string (str r.key), J r.kind, .int .u64 ((scount r.many) : Int), J ((sadd r.sum v).1), J r.least, J r.most, .bool ((sadd r.sum v).2), .slice A r.bk.length cp] HB69 ?_
 intro w70 HB72 F71 _
 refine Zdn <| Zsg <| Zr 1 <| Zl 35 (J r.least) (HB72.s 4) <| Zr 3 <| Zl 39 (J r.most) (HB72.s 5) <| Zr 3 <| Zst g1 4 #[.string (str r.key), J r.kind, .int .u64 ((scount r.many) : Int), J ((sadd r.sum v).1), J (if v < r.least then v else r.least), J r.most, .bool ((sadd r.sum v).2), .slice A r.bk.length cp] HB72 ?_
 intro w73 HB75 F74 _
 refine Zr 1 <| Zst g1 5 #[.string (str r.key), J r.kind, .int .u64 ((scount r.many) : Int), J ((sadd r.sum v).1), J (if v < r.least then v else r.least), J (if r.most < v then v else r.most), .bool ((sadd r.sum v).2), .slice A r.bk.length cp] HB75 ?_
 intro w76 HB78 F77 _
 have HB9 := ((((HB9.k F36).j F68 (Ne.symm ne_g1_g6)).j F71 (Ne.symm ne_g1_g6)).j F74 (Ne.symm ne_g1_g6)).j F77 (Ne.symm ne_g1_g6)
 have HV := ((((HV.keep F36 dj0).keep F68 (djB nin_g1_F)).keep F71 (djB nin_g1_F)).keep F74 (djB nin_g1_F)).keep F77 (djB nin_g1_F)
 have HA := ((((HA.step0 F36).step F68 (inSR ge_HA_g1 inS0)).step F71 (inSR ge_HA_g1 inS0)).step F74 (inSR ge_HA_g1 inS0)).step F77 (inSR ge_HA_g1 inS0)
 refine Zdn <| Zq <| Zsg <| Zr 1 <| Zl 45 (J r.kind) (HB78.s 1) <| ZoP 46 ((r.kind : Int) = 3) ?_ ?_
 ·
  intro h79
  refine Zdn <| ZT <| WE.region <| Zr 1 <| Zl 48 (.slice A r.bk.length cp) (HB78.s 7) <| Zr 1 <| Zc 50 (buk_f A cp r.bk F v _ HV (by omega) hv hin.2.2.2.2) ?_
  rintro _ w80 ⟨A1, c1, G1, rfl, HO1, hg1, F81⟩
  refine ⟨_, rfl, trivial, ?_⟩
  have hg1r := fun y hy => Or.inr (a := y ∈ ([] : List Nat)) (hg1 y hy)
  have nin_g6_G1 := grow_nin hg1r (nin0 _) HB9.lt
  have nin_g1_G1 := grow_nin hg1r (nin0 _) HB78.lt
  have ge_HA_G1 := grow_ge hg1r (by simp) HA.size
  refine Zr 1 <| Zst g1 7 #[.string (str r.key), J r.kind, .int .u64 ((scount r.many) : Int), J ((sadd r.sum v).1), J (if v < r.least then v else r.least), J (if r.most < v then v else r.most), .bool ((sadd r.sum v).2), .slice A1 ((bumpN r.bk (bl v)).length) c1] (HB78.k F81) ?_
  intro w82 HB84 F83 _
  refine Zdn <| Zsg <| Zlb 56 [.string (str r.key), J r.kind, .int .u64 ((scount r.many) : Int), J ((sadd r.sum v).1), J (if v < r.least then v else r.least), J (if r.most < v then v else r.most), .bool ((sadd r.sum v).2), .slice A1 ((bumpN r.bk (bl v)).length) c1] g1 0 (same HB84) <| Zst g6 0 #[.string (str r.key), J r.kind, .int .u64 ((scount r.many) : Int), J ((sadd r.sum v).1), J (if v < r.least then v else r.least), J (if r.most < v then v else r.most), .bool ((sadd r.sum v).2), .slice A1 ((bumpN r.bk (bl v)).length) c1] ((HB9.k F81).j F83 (Ne.symm ne_g1_g6)) ?_
  intro w85 HB87 F86 _
  refine Zdn <| WE.ret <| WQ.ret1 (fn := Tryz.f51) (show Tryz.f51.results = #[.cell 4 54] by kernel_rfl) (show resOk _ _ _ _ (.agg #[.string (str r.key), J r.kind, .int .u64 ((scount r.many) : Int), J ((sadd r.sum v).1), J (if v < r.least then v else r.least), J (if r.most < v then v else r.most), .bool ((sadd r.sum v).2), .slice A1 ((bumpN r.bk (bl v)).length) c1]) from ⟨by kernel_rfl, ⟨g6, 0, none⟩, by kernel_rfl, ldVarB [.string (str r.key), J r.kind, .int .u64 ((scount r.many) : Int), J ((sadd r.sum v).1), J (if v < r.least then v else r.least), J (if r.most < v then v else r.most), .bool ((sadd r.sum v).2), .slice A1 ((bumpN r.bk (bl v)).length) c1] (by kernel_rfl) (by kernel_rfl) (by kernel_rfl) HB87 (by kernel_rfl)⟩) ?_
  exact ⟨A1, c1, G1, by simp only [addR, if_neg h17, if_pos h79, h37, Bool.false_or], by simp only [addR, if_neg h17, if_pos h79, h37, Bool.false_or]; exact ((HO1.keep F83 (djB nin_g1_G1)).keep F86 (djB nin_g6_G1)), ge_HA_G1, (((HA.step0 F81).step F83 (inSR ge_HA_g1 inS0)).step F86 (inSR ge_HA_g6 inS0))⟩
 intro h79
 refine Zdn <| ZF <| WE.region <| Zr 1 <| Zl 53 (.slice A r.bk.length cp) (HB78.s 7) <| Zc 54 (clu_f A r.bk.length cp r.bk F _ HV rfl (by omega)) ?_
 rintro _ w88 ⟨A1, c1, G1, rfl, HO1, hg1, F89⟩
 refine ⟨_, rfl, trivial, ?_⟩
 have hg1r := fun y hy => Or.inr (a := y ∈ ([] : List Nat)) (hg1 y hy)
 have nin_g6_G1 := grow_nin hg1r (nin0 _) HB9.lt
 have nin_g1_G1 := grow_nin hg1r (nin0 _) HB78.lt
 have ge_HA_G1 := grow_ge hg1r (by simp) HA.size
 refine Zr 1 <| Zst g1 7 #[.string (str r.key), J r.kind, .int .u64 ((scount r.many) : Int), J ((sadd r.sum v).1), J (if v < r.least then v else r.least), J (if r.most < v then v else r.most), .bool ((sadd r.sum v).2), .slice A1 r.bk.length c1] (HB78.k F89) ?_
 intro w90 HB92 F91 _
 refine Zdn <| Zsg <| Zlb 56 [.string (str r.key), J r.kind, .int .u64 ((scount r.many) : Int), J ((sadd r.sum v).1), J (if v < r.least then v else r.least), J (if r.most < v then v else r.most), .bool ((sadd r.sum v).2), .slice A1 r.bk.length c1] g1 0 (same HB92) <| Zst g6 0 #[.string (str r.key), J r.kind, .int .u64 ((scount r.many) : Int), J ((sadd r.sum v).1), J (if v < r.least then v else r.least), J (if r.most < v then v else r.most), .bool ((sadd r.sum v).2), .slice A1 r.bk.length c1] ((HB9.k F89).j F91 (Ne.symm ne_g1_g6)) ?_
 intro w93 HB95 F94 _
 refine Zdn <| WE.ret <| WQ.ret1 (fn := Tryz.f51) (show Tryz.f51.results = #[.cell 4 54] by kernel_rfl) (show resOk _ _ _ _ (.agg #[.string (str r.key), J r.kind, .int .u64 ((scount r.many) : Int), J ((sadd r.sum v).1), J (if v < r.least then v else r.least), J (if r.most < v then v else r.most), .bool ((sadd r.sum v).2), .slice A1 r.bk.length c1]) from ⟨by kernel_rfl, ⟨g6, 0, none⟩, by kernel_rfl, ldVarB [.string (str r.key), J r.kind, .int .u64 ((scount r.many) : Int), J ((sadd r.sum v).1), J (if v < r.least then v else r.least), J (if r.most < v then v else r.most), .bool ((sadd r.sum v).2), .slice A1 r.bk.length c1] (by kernel_rfl) (by kernel_rfl) (by kernel_rfl) HB95 (by kernel_rfl)⟩) ?_
 exact ⟨A1, c1, G1, by simp only [addR, if_neg h17, if_neg h79, h37, Bool.false_or], by simp only [addR, if_neg h17, if_neg h79, h37, Bool.false_or]; exact ((HO1.keep F91 (djB nin_g1_G1)).keep F94 (djB nin_g6_G1)), ge_HA_G1, (((HA.step0 F89).step F91 (inSR ge_HA_g1 inS0)).step F94 (inSR ge_HA_g6 inS0))⟩
set_option maxRecDepth 100000 in
set_option maxHeartbeats 400000 in
theorem com_new (key : L) (kind v : Int) (w : World) (hv : I64 v) :
    Calls Tryz.prog 76 #[.agg #[.string (str key), .int .i64 kind, .int .u64 0, .int .i64 0, .int .i64 0, .int .i64 0, .bool false, .slice none 0 0], .int .i64 v] w fun e w' => ∃ A' c' F', e = .returned (.agg #[.string (str (begR key kind v).key), .int .i64 ((begR key kind v).kind), .int .u64 ((begR key kind v).many : Int), .int .i64 ((begR key kind v).sum), .int .i64 ((begR key kind v).least), .int .i64 ((begR key kind v).most), .bool ((begR key kind v).over), .slice A' ((begR key kind v).bk.length) c']) ∧ OwnX 46 1 w' F' (.slice A' (begR key kind v).bk.length c') ((begR key kind v).bk.map cN) ∧ (∀ y ∈ F', w.heap.size ≤ y) ∧ Fr [] w w' := by
 have hble0_ := bl_le hv
 have HA := Fr.refl [] w
 refine Ze Tryz.func76 _ <| Zsg <| Zb 2 #[.string (str key), J kind, .int .u64 0, J 0, J 0, J 0, .bool false, .slice none 0 0] 54 (fun g => Pt g 0) ?_
 intro g1 w2 HB4 F3 le5 _
 refine Zb 4 #[.string (⟨#[]⟩), J 0, .int .u64 0, J 0, J 0, J 0, .bool false, .slice none 0 0] 54 (fun g => Pt g 0) ?_
 intro g6 w7 HB9 F8 le10 _
 have HA := HA.step0 F3
 have ge_HA_g6 := Nat.le_trans HA.size le10
 have HB4 := HB4.k F8
 refine Zdn <| Zsg <| Zr 1 <| Zl 10 (.string (str key)) (HB4.s 0) <| Zr 1 <| Zl 12 (J kind) (HB4.s 1) <| Zr 4 <| Zb 5 #[.string (⟨#[]⟩), J 0, .int .u64 0, J 0, J 0, J 0, .bool false, .slice none 0 0] 54 (fun g => Pt g 0) ?_
 intro g11 w12 HB14 F13 le15 _
 have ne_g1_g11 := ltn HB4.lt le15
 have ne_g6_g11 := ltn HB9.lt le15
 have HA := HA.step0 F8
 have ge_HA_g11 := Nat.le_trans HA.size le15
 refine Zst g11 0 #[.string (str key), J kind, .int .u64 1, J v, J v, J v, .bool false, .slice none 0 0] HB14 ?_
 intro w16 HB18 F17 _
 have HB4 := (HB4.k F13).j F17 ne_g1_g11
 refine Zdn <| Zq <| Zsg <| Zr 1 <| Zl 18 (.int .u64 0) (HB4.s 2) <| Zr 1 <| Zdn <| ZF <| Zk <| Zsg <| Zr 1 <| Zl 67 (.slice none 0 0) (HB18.s 7) <| Zr 1 <| Zl 69 (.slice none 0 0) (HB4.s 7) ?_
 obtain ⟨F24, hF24⟩ : ∃ F_, F_ = ([] : List Nat) := ⟨_, rfl⟩
 have HO25 : OwnX 46 1 w16 F24 (.slice none 0 0) (([] : List Nat).map cN) := by rw [hF24]; exact OwnX.nil _ _ _
 have nin_g1_F24 : g1 ∉ F24 := by rw [hF24]; simp
 have nin_g6_F24 : g6 ∉ F24 := by rw [hF24]; simp
 have nin_g11_F24 : g11 ∉ F24 := by rw [hF24]; simp
 have ge_HA_F24 : ∀ y ∈ F24, (World.heap w).size ≤ y := by rw [hF24]; simp
 refine Zax (m := 0) (ys := List.map cN ([])) 70 et_n HO25 (src_nil _ _) (cN_len _) (cN_one _) ?_
 intro v26 w27 G28 HO29 F30 hg31
 rw [← List.map_append] at HO29
 have nin_g1_G28 := grow_nin hg31 nin_g1_F24 HB4.lt
 have HB9 := (HB9.k F13).j F17 ne_g6_g11
 have nin_g6_G28 := grow_nin hg31 nin_g6_F24 HB9.lt
 have nin_g11_G28 := grow_nin hg31 nin_g11_F24 HB18.lt
 have HA := (HA.step0 F13).step F17 (inSR ge_HA_g11 inS0)
 have ge_HA_G28 := grow_ge hg31 ge_HA_F24 HA.size
 obtain ⟨A32, cap33, rfl⟩ := HO29.sliceN (List.length_map _)
 have := @List.length_append _ ([] : List Nat) ([])
 refine Zr 1 <| Zst g11 7 #[.string (str key), J kind, .int .u64 1, J v, J v, J v, .bool false, .slice A32 ((([] : List Nat) ++ []).length) cap33] (HB18.keep F30 nin_g11_F24) ?_
 intro w34 HB36 F35 _
 have HB4 := (HB4.keep F30 nin_g1_F24).j F35 ne_g1_g11
 have HB9 := (HB9.keep F30 nin_g6_F24).j F35 ne_g6_g11
 have HA := (HA.step F30 (inF ge_HA_F24)).step F35 (inSR ge_HA_g11 inS0)
 refine Zdn <| Zq <| Zsg <| Zr 1 <| Zl 73 (J kind) (HB4.s 1) <| ZoN 74 ((kind : Int) = 3) ?_ ?_
 ·
  intro h37
  refine Zdn <| ZF <| Zk <| Zsg <| Zr 1 <| Zcf 77 (rbkt_f v _ hv) ?_
  intro w38 F39
  refine Zr 1 <| Zdn <| Zq <| WE.block <| WE.loop (α := List Nat × Option Addr × Nat × List Nat) (E := fun ⟨FO, AO, cO, q2⟩ => [(4, Pt g6 0), (5, Pt g11 0), (8, J (bl v : Int))]) (I := fun ⟨FO, AO, cO, q2⟩ wr => extN q2 (bl v) = extN [] (bl v) ∧ q2.length ≤ 65 ∧ Blk wr g1 #[.string (str key), J kind, .int .u64 0, J 0, J 0, J 0, .bool false, .slice none 0 0] 54 ∧ Blk wr g6 #[.string (⟨#[]⟩), J 0, .int .u64 0, J 0, J 0, J 0, .bool false, .slice none 0 0] 54 ∧ Blk wr g11 #[.string (str key), J kind, .int .u64 1, J v, J v, J v, .bool false, .slice AO q2.length cO] 54 ∧ OwnX 46 1 wr FO (.slice AO q2.length cO) (List.map cN q2) ∧ g1 ∉ FO ∧ g6 ∉ FO ∧ g11 ∉ FO ∧ (∀ y ∈ FO, (World.heap w).size ≤ y) ∧ Fr [] w wr) (m := fun ⟨FO, AO, cO, q2⟩ => 65 - q2.length) (G28, A32, cap33, (([] : List Nat) ++ [])) [4, 5, 8] (by kernel_rfl) ?_ ?_
  ·
   exact ⟨by rw [List.nil_append], by rw [List.nil_append]; first | omega | simp, (HB4.k F39), (HB9.k F39), (HB36.k F39), ((HO29.keep F35 (djB nin_g11_G28)).keep F39 dj0), nin_g1_G28, nin_g6_G28, nin_g11_G28, ge_HA_G28, (HA.step0 F39)⟩
  rintro ⟨FO, AO, cO, q2⟩ wr ⟨hx2, hl2, HB4, HB9, HB36, HO_FO, nin_g1_FO, nin_g6_FO, nin_g11_FO, ge_HA_FO, HA⟩
  refine Zq <| Zsg <| Zr 1 <| Zl 79 (.slice AO q2.length cO) (HB36.s 7) <| Zr 2 <| ZoP 82 (((q2.length : Int) : Int) ≤ (bl v : Int)) ?_ ?_
  ·
   intro h40
   refine Zdn <| ZT <| Zk <| WE.block <| WE.region <| Zr 1 <| Zl 84 (.slice AO q2.length cO) (HB36.s 7) <| Zb 85 #[.int .u64 0] 46 (fun g => .slice (some ⟨g, 0, none⟩) 1 1) ?_
   intro g41 w42 HB44 F43 le45 _
   refine Zax (m := 1) (ys := List.map cN ([0])) 86 et_n (HO_FO.keep F43 dj0) (RowB.src (RowB.of_blk (n := 1) HB44 (List.map cN [0]) rfl rfl (cN_len _) (cN_one _) (by omega))) (cN_len _) (cN_one _) ?_
   intro v51 w52 G53 HO54 F55 hg56
   rw [← List.map_append] at HO54
   have HB4 := HB4.k F43
   have nin_g1_G53 := grow_nin hg56 nin_g1_FO HB4.lt
   have HB9 := HB9.k F43
   have nin_g6_G53 := grow_nin hg56 nin_g6_FO HB9.lt
   have HB36 := HB36.k F43
   have nin_g11_G53 := grow_nin hg56 nin_g11_FO HB36.lt
   have HA := HA.step0 F43
   have ge_HA_G53 := grow_ge hg56 ge_HA_FO HA.size
   obtain ⟨A57, cap58, rfl⟩ := HO54.sliceN (List.length_map _)
   have := @List.length_append _ q2 ([0])
   refine Zr 1 <| Zst g11 7 #[.string (str key), J kind, .int .u64 1, J v, J v, J v, .bool false, .slice A57 ((q2 ++ [0]).length) cap58] (HB36.keep F55 nin_g11_FO) ?_
   intro w59 HB61 F60 _
   refine Zd <| WQ.blkN <| WQ.round ?_
   intro a_ ha_
   refine ⟨(G53, A57, cap58, (q2 ++ [0])), ?_, ha_.keep [4, 5, 8] (by kernel_rfl), ?_⟩
   ·
    show 65 - (q2 ++ [0]).length < 65 - q2.length; rw [List.length_append]; simp only [List.length_cons, List.length_nil]; omega
   ·
    exact ⟨by rw [extN_snoc (by omega), hx2], by rw [List.length_append]; simp only [List.length_cons, List.length_nil]; omega, ((HB4.keep F55 nin_g1_FO).j F60 ne_g1_g11), ((HB9.keep F55 nin_g6_FO).j F60 ne_g6_g11), HB61, (HO54.keep F60 (djB nin_g11_G53)), nin_g1_G53, nin_g6_G53, nin_g11_G53, ge_HA_G53, ((HA.step F55 (inF ge_HA_FO)).step F60 (inSR ge_HA_g11 inS0))⟩
  intro h40
  refine Zdn <| ZF <| WE.exit <| WQ.thenE <| WQ.thenE <| WQ.blkE <| Zn <| Zq ?_
  have hble_ := bl_le hv
  obtain ⟨b62, hF64, hA65, HR63⟩ := HO_FO.pos (by rw [List.length_map]; omega)
  have ne_g6_b62 : g6 ≠ b62 := fun h_ => nin_g6_FO (by rw [hF64, h_]; exact List.mem_singleton.2 rfl)
  have ne_g11_b62 : g11 ≠ b62 := fun h_ => nin_g11_FO (by rw [hF64, h_]; exact List.mem_singleton.2 rfl)
  have ge_HA_b62 := ge_HA_FO _ (by rw [hF64]; exact List.mem_singleton.2 (rfl : b62 = b62))
  subst hA65
  have hz66 : (World.heap wr).size ≤ (World.heap wr).size := Nat.le_refl _
  have ltz_g11 := HB36.lt
  have ltz_b62 := HR63.lt
  refine ZER (FrB (World.heap wr).size) [1, 4, 7] [8] [13] 14 ?_
  intro w67 F68 _
  have HB36 := HB36.k F68
  have HR63 := HR63.k F68
  refine Yq 0 1 <| Yl 1 90 (.slice (some ⟨b62, 0, none⟩) q2.length cO) (fun _ k => (HB36.keepB k ltz_g11).at 7 (by kernel_rfl)) <| Yq 2 2 <| Yl 4 93 (.slice (some ⟨b62, 0, none⟩) q2.length cO) (fun _ k => (HB36.keepB k ltz_g11).at 7 (by kernel_rfl)) <| Yq 5 1 <| Yib 6 95 (bl v) b62 0 q2.length 1 (bl v : Int) <| Yl 7 96 (.int .u64 ((gN q2 (bl v)) : Int)) (fun _ k_ => ((HR63.keepB k_ ltz_b62).at (bl v) 0 (bl v) _ (by rw [List.length_map]; have := (rfl : List.length q2 = _); omega) (by omega) (by rw [(map_gN q2 (bl v) (by have := (rfl : List.length q2 = _); omega))]; rfl) (by omega))) <| WO.call (SA.ER _ 8 _ (by kernel_rfl) rfl) 97 (by kernel_rfl) (rcnt_f (gN q2 (bl v)) _ (by rw [show q2 = extN [] (bl v) by rw [← hx2, extN_of (by omega)]]; exact extN_lt (by first | exact hin.2.2.2.2 | simp) _ (gN_mem (by rw [extN_len]; exact Nat.lt_of_lt_of_le (Nat.lt_succ_self _) (Nat.le_max_right _ _))))) ?_
  rintro _ w70 ⟨bo69, rfl, F71⟩
  refine ⟨_, rfl, (frB_of (Nat.le_trans hz66 F68.size) (by simp)) _ F71, Yq 9 3 <| Yib 12 100 (bl v) b62 0 q2.length 1 (bl v : Int) <| Ysr 13 b62 (bl v) (bl v) [.int .u64 ((scount (gN q2 (bl v))) : Int)] (HR63.k F71) (by rw [List.length_map]; have := (rfl : List.length q2 = _); omega) ?_⟩
  intro w72 HR74 F73 _
  have HR74 : RowB w72 b62 46 1 cO ((q2.set (bl v) (scount (gN q2 (bl v)))).map cN) := by rw [List.map_set]; exact HR74
  refine Ydn <| Zsg <| Zlb 101 [.string (str key), J kind, .int .u64 1, J v, J v, J v, .bool false, .slice (some ⟨b62, 0, none⟩) q2.length cO] g11 0 (same ((HB36.k F71).j F73 ne_g11_b62)) <| Zst g6 0 #[.string (str key), J kind, .int .u64 1, J v, J v, J v, .bool false, .slice (some ⟨b62, 0, none⟩) q2.length cO] (((HB9.k F68).k F71).j F73 ne_g6_b62) ?_
  intro w75 HB77 F76 _
  refine Zdn <| WE.ret <| WQ.ret1 (fn := Tryz.f76) (show Tryz.f76.results = #[.cell 4 54] by kernel_rfl) (show resOk _ _ _ _ (.agg #[.string (str key), J kind, .int .u64 1, J v, J v, J v, .bool false, .slice (some ⟨b62, 0, none⟩) q2.length cO]) from ⟨by kernel_rfl, ⟨g6, 0, none⟩, by kernel_rfl, ldVarB [.string (str key), J kind, .int .u64 1, J v, J v, J v, .bool false, .slice (some ⟨b62, 0, none⟩) q2.length cO] (by kernel_rfl) (by kernel_rfl) (by kernel_rfl) HB77 (by kernel_rfl)⟩) ?_
  have he_ : q2 = extN [] (bl v) := by rw [← hx2, extN_of (by omega)]
  exact ⟨some ⟨b62, 0, none⟩, cO, [b62], by simp only [begR, if_pos h37]; rw [bumpN_len, ← extN_len, ← he_]; rfl, by simp only [begR, if_pos h37]; have h_ := OwnX.row (HR74.keep F76 (ninC (Ne.symm ne_g6_b62) (nin0 _))) (List.length_map _); unfold bumpN; rw [← he_]; rw [List.length_set] at h_ ⊢; exact h_, fun y hy => by rw [List.mem_singleton.1 hy]; exact ge_HA_b62, ((((HA.step0 F68).step0 F71).step F73 (inSR ge_HA_b62 inS0)).step F76 (inSR ge_HA_g6 inS0))⟩
 intro h37
 refine Zdn <| ZT <| Zsg <| Zlb 75 [.string (str key), J kind, .int .u64 1, J v, J v, J v, .bool false, .slice A32 ((([] : List Nat) ++ []).length) cap33] g11 0 (same HB36) <| Zst g6 0 #[.string (str key), J kind, .int .u64 1, J v, J v, J v, .bool false, .slice A32 ((([] : List Nat) ++ []).length) cap33] HB9 ?_
 intro w78 HB80 F79 _
 refine Zdn <| WE.ret <| WQ.thenR <| WQ.ret1 (fn := Tryz.f76) (show Tryz.f76.results = #[.cell 4 54] by kernel_rfl) (show resOk _ _ _ _ (.agg #[.string (str key), J kind, .int .u64 1, J v, J v, J v, .bool false, .slice A32 ((([] : List Nat) ++ []).length) cap33]) from ⟨by kernel_rfl, ⟨g6, 0, none⟩, by kernel_rfl, ldVarB [.string (str key), J kind, .int .u64 1, J v, J v, J v, .bool false, .slice A32 ((([] : List Nat) ++ []).length) cap33] (by kernel_rfl) (by kernel_rfl) (by kernel_rfl) HB80 (by kernel_rfl)⟩) ?_
 exact ⟨A32, cap33, G28, by simp only [begR, if_neg h37]; rfl, by simp only [begR, if_neg h37]; exact ((HO29.keep F35 (djB nin_g11_G28)).keep F79 (djB nin_g6_G28)), ge_HA_G28, (HA.step F79 (inSR ge_HA_g6 inS0))⟩
set_option maxRecDepth 100000 in
set_option maxHeartbeats 400000 in
theorem com_add (r : Rw) (A : Option Addr) (cp : Nat) (F : List Nat) (v : Int) (w : World) (HV : VX cN 1 w F A r.bk) (hl : r.bk.length ≤ 65) (hv : I64 v) (hin : r.In) (hm : 1 ≤ r.many) :
    Calls Tryz.prog 76 #[.agg #[.string (str r.key), .int .i64 r.kind, .int .u64 (r.many : Int), .int .i64 r.sum, .int .i64 r.least, .int .i64 r.most, .bool r.over, .slice A r.bk.length cp], .int .i64 v] w fun e w' => ∃ A' c' F', e = .returned (.agg #[.string (str (addR r v).key), .int .i64 ((addR r v).kind), .int .u64 ((addR r v).many : Int), .int .i64 ((addR r v).sum), .int .i64 ((addR r v).least), .int .i64 ((addR r v).most), .bool ((addR r v).over), .slice A' ((addR r v).bk.length) c']) ∧ OwnX 46 1 w' F' (.slice A' (addR r v).bk.length c') ((addR r v).bk.map cN) ∧ (∀ y ∈ F', w.heap.size ≤ y) ∧ Fr [] w w' := by
 have hble0_ := bl_le hv
 have HA := Fr.refl [] w
 refine Ze Tryz.func76 _ <| Zsg <| Zb 2 #[.string (str r.key), J r.kind, .int .u64 (r.many : Int), J r.sum, J r.least, J r.most, .bool r.over, .slice A r.bk.length cp] 54 (fun g => Pt g 0) ?_
 intro g1 w2 HB4 F3 le5 _
 refine Zb 4 #[.string (⟨#[]⟩), J 0, .int .u64 0, J 0, J 0, J 0, .bool false, .slice none 0 0] 54 (fun g => Pt g 0) ?_
 intro g6 w7 HB9 F8 le10 _
 have HA := HA.step0 F3
 have ge_HA_g6 := Nat.le_trans HA.size le10
 have HB4 := HB4.k F8
 refine Zdn <| Zsg <| Zr 1 <| Zl 10 (.string (str r.key)) (HB4.s 0) <| Zr 1 <| Zl 12 (J r.kind) (HB4.s 1) <| Zr 4 <| Zb 5 #[.string (⟨#[]⟩), J 0, .int .u64 0, J 0, J 0, J 0, .bool false, .slice none 0 0] 54 (fun g => Pt g 0) ?_
 intro g11 w12 HB14 F13 le15 _
 have ne_g1_g11 := ltn HB4.lt le15
 have ne_g6_g11 := ltn HB9.lt le15
 have HV := (HV.keep F3 dj0).keep F8 dj0
 have nin_g11_F := new_nin HV.lt le15
 have HA := HA.step0 F8
 have ge_HA_g11 := Nat.le_trans HA.size le15
 refine Zst g11 0 #[.string (str r.key), J r.kind, .int .u64 1, J v, J v, J v, .bool false, .slice none 0 0] HB14 ?_
 intro w16 HB18 F17 _
 refine Zdn <| WE.seqJ (α := Int × Bool × Int × Int) (E := fun ⟨sm, ov, le2, mo2⟩ => [(1, J v), (2, Pt g1 0), (4, Pt g6 0), (5, Pt g11 0)]) (I := fun ⟨sm, ov, le2, mo2⟩ wr => sm = (addR r v).sum ∧ ov = (addR r v).over ∧ le2 = (addR r v).least ∧ mo2 = (addR r v).most ∧ Blk wr g1 #[.string (str r.key), J r.kind, .int .u64 (r.many : Int), J r.sum, J r.least, J r.most, .bool r.over, .slice A r.bk.length cp] 54 ∧ Blk wr g6 #[.string (⟨#[]⟩), J 0, .int .u64 0, J 0, J 0, J 0, .bool false, .slice none 0 0] 54 ∧ Blk wr g11 #[.string (str r.key), J r.kind, .int .u64 ((scount r.many) : Int), J sm, J le2, J mo2, .bool ov, .slice none 0 0] 54 ∧ VX cN 1 wr F A r.bk ∧ Fr [] w wr) ?_ ?_
 ·
  rintro ⟨sm, ov, le2, mo2⟩ wr ⟨hsm, hov, hle, hmo, HB4, HB9, HB18, HV, HA⟩
  refine Zsg <| Zr 1 <| Zl 67 (.slice none 0 0) (HB18.s 7) <| Zr 1 <| Zl 69 (.slice A r.bk.length cp) (HB4.s 7) ?_
  obtain ⟨F24, hF24⟩ : ∃ F_, F_ = ([] : List Nat) := ⟨_, rfl⟩
  have HO25 : OwnX 46 1 wr F24 (.slice none 0 0) (([] : List Nat).map cN) := by rw [hF24]; exact OwnX.nil _ _ _
  have nin_g1_F24 : g1 ∉ F24 := by rw [hF24]; simp
  have nin_g6_F24 : g6 ∉ F24 := by rw [hF24]; simp
  have nin_g11_F24 : g11 ∉ F24 := by rw [hF24]; simp
  have dj_F24_F : ∀ y ∈ F24, y ∉ F := by rw [hF24]; simp
  have ge_HA_F24 : ∀ y ∈ F24, (World.heap w).size ≤ y := by rw [hF24]; simp
  refine Zax (m := r.bk.length) (ys := List.map cN r.bk) 70 et_n HO25 (HV.srcN (rfl : List.length r.bk = _) (cN_len _) (cN_one _) cp) (cN_len _) (cN_one _) ?_
  intro v26 w27 G28 HO29 F30 hg31
  rw [← List.map_append] at HO29
  have nin_g1_G28 := grow_nin hg31 nin_g1_F24 HB4.lt
  have nin_g6_G28 := grow_nin hg31 nin_g6_F24 HB9.lt
  have nin_g11_G28 := grow_nin hg31 nin_g11_F24 HB18.lt
  have dj_G28_F := grow_dj hg31 dj_F24_F HV.lt
  have ge_HA_G28 := grow_ge hg31 ge_HA_F24 HA.size
  obtain ⟨A32, cap33, rfl⟩ := HO29.sliceN (List.length_map _)
  have := @List.length_append _ ([] : List Nat) r.bk
  refine Zr 1 <| Zst g11 7 #[.string (str r.key), J r.kind, .int .u64 ((scount r.many) : Int), J sm, J le2, J mo2, .bool ov, .slice A32 ((([] : List Nat) ++ r.bk).length) cap33] (HB18.keep F30 nin_g11_F24) ?_
  intro w34 HB36 F35 _
  have HB4 := (HB4.keep F30 nin_g1_F24).j F35 ne_g1_g11
  have HB9 := (HB9.keep F30 nin_g6_F24).j F35 ne_g6_g11
  have HA := (HA.step F30 (inF ge_HA_F24)).step F35 (inSR ge_HA_g11 inS0)
  refine Zdn <| Zq <| Zsg <| Zr 1 <| Zl 73 (J r.kind) (HB4.s 1) <| ZoN 74 ((r.kind : Int) = 3) ?_ ?_
  ·
   intro h37
   refine Zdn <| ZF <| Zk <| Zsg <| Zr 1 <| Zcf 77 (rbkt_f v _ hv) ?_
   intro w38 F39
   refine Zr 1 <| Zdn <| Zq <| WE.block <| WE.loop (α := List Nat × Option Addr × Nat × List Nat) (E := fun ⟨FO, AO, cO, q2⟩ => [(4, Pt g6 0), (5, Pt g11 0), (8, J (bl v : Int))]) (I := fun ⟨FO, AO, cO, q2⟩ wr => extN q2 (bl v) = extN r.bk (bl v) ∧ q2.length ≤ 65 ∧ Blk wr g1 #[.string (str r.key), J r.kind, .int .u64 (r.many : Int), J r.sum, J r.least, J r.most, .bool r.over, .slice A r.bk.length cp] 54 ∧ Blk wr g6 #[.string (⟨#[]⟩), J 0, .int .u64 0, J 0, J 0, J 0, .bool false, .slice none 0 0] 54 ∧ Blk wr g11 #[.string (str r.key), J r.kind, .int .u64 ((scount r.many) : Int), J sm, J le2, J mo2, .bool ov, .slice AO q2.length cO] 54 ∧ VX cN 1 wr F A r.bk ∧ OwnX 46 1 wr FO (.slice AO q2.length cO) (List.map cN q2) ∧ g1 ∉ FO ∧ g6 ∉ FO ∧ g11 ∉ FO ∧ (∀ y ∈ FO, y ∉ F) ∧ (∀ y ∈ FO, (World.heap w).size ≤ y) ∧ Fr [] w wr) (m := fun ⟨FO, AO, cO, q2⟩ => 65 - q2.length) (G28, A32, cap33, (([] : List Nat) ++ r.bk)) [4, 5, 8] (by kernel_rfl) ?_ ?_
   ·
    exact ⟨by rw [List.nil_append], by rw [List.nil_append]; first | omega | simp, (HB4.k F39), (HB9.k F39), (HB36.k F39), (((HV.keep F30 (dj_symm dj_F24_F)).keep F35 (djB nin_g11_F)).keep F39 dj0), ((HO29.keep F35 (djB nin_g11_G28)).keep F39 dj0), nin_g1_G28, nin_g6_G28, nin_g11_G28, dj_G28_F, ge_HA_G28, (HA.step0 F39)⟩
   rintro ⟨FO, AO, cO, q2⟩ wr ⟨hx2, hl2, HB4, HB9, HB36, HV, HO_FO, nin_g1_FO, nin_g6_FO, nin_g11_FO, dj_FO_F, ge_HA_FO, HA⟩
   refine Zq <| Zsg <| Zr 1 <| Zl 79 (.slice AO q2.length cO) (HB36.s 7) <| Zr 2 <| ZoP 82 (((q2.length : Int) : Int) ≤ (bl v : Int)) ?_ ?_
   ·
    intro h40
    refine Zdn <| ZT <| Zk <| WE.block <| WE.region <| Zr 1 <| Zl 84 (.slice AO q2.length cO) (HB36.s 7) <| Zb 85 #[.int .u64 0] 46 (fun g => .slice (some ⟨g, 0, none⟩) 1 1) ?_
    intro g41 w42 HB44 F43 le45 _
    refine Zax (m := 1) (ys := List.map cN ([0])) 86 et_n (HO_FO.keep F43 dj0) (RowB.src (RowB.of_blk (n := 1) HB44 (List.map cN [0]) rfl rfl (cN_len _) (cN_one _) (by omega))) (cN_len _) (cN_one _) ?_
    intro v51 w52 G53 HO54 F55 hg56
    rw [← List.map_append] at HO54
    have HB4 := HB4.k F43
    have nin_g1_G53 := grow_nin hg56 nin_g1_FO HB4.lt
    have HB9 := HB9.k F43
    have nin_g6_G53 := grow_nin hg56 nin_g6_FO HB9.lt
    have HB36 := HB36.k F43
    have nin_g11_G53 := grow_nin hg56 nin_g11_FO HB36.lt
    have HV := HV.keep F43 dj0
    have dj_G53_F := grow_dj hg56 dj_FO_F HV.lt
    have HA := HA.step0 F43
    have ge_HA_G53 := grow_ge hg56 ge_HA_FO HA.size
    obtain ⟨A57, cap58, rfl⟩ := HO54.sliceN (List.length_map _)
    have := @List.length_append _ q2 ([0])
    refine Zr 1 <| Zst g11 7 #[.string (str r.key), J r.kind, .int .u64 ((scount r.many) : Int), J sm, J le2, J mo2, .bool ov, .slice A57 ((q2 ++ [0]).length) cap58] (HB36.keep F55 nin_g11_FO) ?_
    intro w59 HB61 F60 _
    refine Zd <| WQ.blkN <| WQ.round ?_
    intro a_ ha_
    refine ⟨(G53, A57, cap58, (q2 ++ [0])), ?_, ha_.keep [4, 5, 8] (by kernel_rfl), ?_⟩
    ·
     show 65 - (q2 ++ [0]).length < 65 - q2.length; rw [List.length_append]; simp only [List.length_cons, List.length_nil]; omega
    ·
     exact ⟨by rw [extN_snoc (by omega), hx2], by rw [List.length_append]; simp only [List.length_cons, List.length_nil]; omega, ((HB4.keep F55 nin_g1_FO).j F60 ne_g1_g11), ((HB9.keep F55 nin_g6_FO).j F60 ne_g6_g11), HB61, ((HV.keep F55 (dj_symm dj_FO_F)).keep F60 (djB nin_g11_F)), (HO54.keep F60 (djB nin_g11_G53)), nin_g1_G53, nin_g6_G53, nin_g11_G53, dj_G53_F, ge_HA_G53, ((HA.step F55 (inF ge_HA_FO)).step F60 (inSR ge_HA_g11 inS0))⟩
   intro h40
   refine Zdn <| ZF <| WE.exit <| WQ.thenE <| WQ.thenE <| WQ.blkE <| Zn <| Zq ?_
   have hble_ := bl_le hv
   obtain ⟨b62, hF64, hA65, HR63⟩ := HO_FO.pos (by rw [List.length_map]; omega)
   have ne_g6_b62 : g6 ≠ b62 := fun h_ => nin_g6_FO (by rw [hF64, h_]; exact List.mem_singleton.2 rfl)
   have ne_g11_b62 : g11 ≠ b62 := fun h_ => nin_g11_FO (by rw [hF64, h_]; exact List.mem_singleton.2 rfl)
   have ge_HA_b62 := ge_HA_FO _ (by rw [hF64]; exact List.mem_singleton.2 (rfl : b62 = b62))
   subst hA65
   have hz66 : (World.heap wr).size ≤ (World.heap wr).size := Nat.le_refl _
   have ltz_g11 := HB36.lt
   have ltz_b62 := HR63.lt
   refine ZER (FrB (World.heap wr).size) [1, 4, 7] [8] [13] 14 ?_
   intro w67 F68 _
   have HB36 := HB36.k F68
   have HR63 := HR63.k F68
   refine Yq 0 1 <| Yl 1 90 (.slice (some ⟨b62, 0, none⟩) q2.length cO) (fun _ k => (HB36.keepB k ltz_g11).at 7 (by kernel_rfl)) <| Yq 2 2 <| Yl 4 93 (.slice (some ⟨b62, 0, none⟩) q2.length cO) (fun _ k => (HB36.keepB k ltz_g11).at 7 (by kernel_rfl)) <| Yq 5 1 <| Yib 6 95 (bl v) b62 0 q2.length 1 (bl v : Int) <| Yl 7 96 (.int .u64 ((gN q2 (bl v)) : Int)) (fun _ k_ => ((HR63.keepB k_ ltz_b62).at (bl v) 0 (bl v) _ (by rw [List.length_map]; have := (rfl : List.length q2 = _); omega) (by omega) (by rw [(map_gN q2 (bl v) (by have := (rfl : List.length q2 = _); omega))]; rfl) (by omega))) <| WO.call (SA.ER _ 8 _ (by kernel_rfl) rfl) 97 (by kernel_rfl) (rcnt_f (gN q2 (bl v)) _ (by rw [show q2 = extN r.bk (bl v) by rw [← hx2, extN_of (by omega)]]; exact extN_lt (by first | exact hin.2.2.2.2 | simp) _ (gN_mem (by rw [extN_len]; exact Nat.lt_of_lt_of_le (Nat.lt_succ_self _) (Nat.le_max_right _ _))))) ?_
   rintro _ w70 ⟨bo69, rfl, F71⟩
   refine ⟨_, rfl, (frB_of (Nat.le_trans hz66 F68.size) (by simp)) _ F71, Yq 9 3 <| Yib 12 100 (bl v) b62 0 q2.length 1 (bl v : Int) <| Ysr 13 b62 (bl v) (bl v) [.int .u64 ((scount (gN q2 (bl v))) : Int)] (HR63.k F71) (by rw [List.length_map]; have := (rfl : List.length q2 = _); omega) ?_⟩
   intro w72 HR74 F73 _
   have HR74 : RowB w72 b62 46 1 cO ((q2.set (bl v) (scount (gN q2 (bl v)))).map cN) := by rw [List.map_set]; exact HR74
   refine Ydn <| Zsg <| Zlb 101 [.string (str r.key), J r.kind, .int .u64 ((scount r.many) : Int), J sm, J le2, J mo2, .bool ov, .slice (some ⟨b62, 0, none⟩) q2.length cO] g11 0 (same ((HB36.k F71).j F73 ne_g11_b62)) <| Zst g6 0 #[.string (str r.key), J r.kind, .int .u64 ((scount r.many) : Int), J sm, J le2, J mo2, .bool ov, .slice (some ⟨b62, 0, none⟩) q2.length cO] (((HB9.k F68).k F71).j F73 ne_g6_b62) ?_
   intro w75 HB77 F76 _
   refine Zdn <| WE.ret <| WQ.ret1 (fn := Tryz.f76) (show Tryz.f76.results = #[.cell 4 54] by kernel_rfl) (show resOk _ _ _ _ (.agg #[.string (str r.key), J r.kind, .int .u64 ((scount r.many) : Int), J sm, J le2, J mo2, .bool ov, .slice (some ⟨b62, 0, none⟩) q2.length cO]) from ⟨by kernel_rfl, ⟨g6, 0, none⟩, by kernel_rfl, ldVarB [.string (str r.key), J r.kind, .int .u64 ((scount r.many) : Int), J sm, J le2, J mo2, .bool ov, .slice (some ⟨b62, 0, none⟩) q2.length cO] (by kernel_rfl) (by kernel_rfl) (by kernel_rfl) HB77 (by kernel_rfl)⟩) ?_
   subst hle
   subst hmo
   subst hsm
   subst hov
   have he_ : q2 = extN r.bk (bl v) := by rw [← hx2, extN_of (by omega)]
   have hb_ : (addR r v).bk = bumpN r.bk (bl v) := if_pos h37
   exact ⟨some ⟨b62, 0, none⟩, cO, [b62], by rw [hb_, bumpN_len, ← extN_len, ← he_]; first | done | rfl, by rw [hb_]; have h_ := OwnX.row (HR74.keep F76 (ninC (Ne.symm ne_g6_b62) (nin0 _))) (List.length_map _); unfold bumpN; rw [← he_]; rw [List.length_set] at h_ ⊢; exact h_, fun y hy => by rw [List.mem_singleton.1 hy]; exact ge_HA_b62, ((((HA.step0 F68).step0 F71).step F73 (inSR ge_HA_b62 inS0)).step F76 (inSR ge_HA_g6 inS0))⟩
  intro h37
  refine Zdn <| ZT <| Zsg <| Zlb 75 [.string (str r.key), J r.kind, .int .u64 ((scount r.many) : Int), J sm, J le2, J mo2, .bool ov, .slice A32 ((([] : List Nat) ++ r.bk).length) cap33] g11 0 (same HB36) <| Zst g6 0 #[.string (str r.key), J r.kind, .int .u64 ((scount r.many) : Int), J sm, J le2, J mo2, .bool ov, .slice A32 ((([] : List Nat) ++ r.bk).length) cap33] HB9 ?_
  intro w78 HB80 F79 _
  refine Zdn <| WE.ret <| WQ.thenR <| WQ.ret1 (fn := Tryz.f76) (show Tryz.f76.results = #[.cell 4 54] by kernel_rfl) (show resOk _ _ _ _ (.agg #[.string (str r.key), J r.kind, .int .u64 ((scount r.many) : Int), J sm, J le2, J mo2, .bool ov, .slice A32 ((([] : List Nat) ++ r.bk).length) cap33]) from ⟨by kernel_rfl, ⟨g6, 0, none⟩, by kernel_rfl, ldVarB [.string (str r.key), J r.kind, .int .u64 ((scount r.many) : Int), J sm, J le2, J mo2, .bool ov, .slice A32 ((([] : List Nat) ++ r.bk).length) cap33] (by kernel_rfl) (by kernel_rfl) (by kernel_rfl) HB80 (by kernel_rfl)⟩) ?_
  subst hle
  subst hmo
  subst hsm
  subst hov
  have hb_ : (addR r v).bk = r.bk := if_neg h37
  exact ⟨A32, cap33, G28, by rw [hb_]; first | done | rfl, by rw [hb_]; exact ((HO29.keep F35 (djB nin_g11_G28)).keep F79 (djB nin_g6_G28)), ge_HA_G28, (HA.step F79 (inSR ge_HA_g6 inS0))⟩
 have HB4 := (HB4.k F13).j F17 ne_g1_g11
 refine Zsg <| Zr 1 <| Zl 18 (.int .u64 (r.many : Int)) (HB4.s 2) <| ZoPT 19 (((r.many : Int) : Int) > (0 : Int)) (by omega) <| Zdn <| ZT <| Zsg <| Zr 1 <| Zl 22 (.int .u64 (r.many : Int)) (HB4.s 2) <| Zc 23 (rcnt_f r.many _ hin.1) ?_
 rintro _ w82 ⟨bo81, rfl, F83⟩
 refine ⟨_, rfl, trivial, Zr 4 <| Zst g11 2 #[.string (str r.key), J r.kind, .int .u64 ((scount r.many) : Int), J v, J v, J v, .bool false, .slice none 0 0] (HB18.k F83) ?_⟩
 intro w84 HB86 F85 _
 have HB4 := (HB4.k F83).j F85 ne_g1_g11
 refine Zdn <| Zsg <| Zr 1 <| Zl 28 (J r.least) (HB4.s 4) <| Zr 1 <| Zst g11 4 #[.string (str r.key), J r.kind, .int .u64 ((scount r.many) : Int), J v, J r.least, J v, .bool false, .slice none 0 0] HB86 ?_
 intro w87 HB89 F88 _
 have HB4 := HB4.j F88 ne_g1_g11
 refine Zdn <| Zsg <| Zr 1 <| Zl 31 (J r.most) (HB4.s 5) <| Zr 1 <| Zst g11 5 #[.string (str r.key), J r.kind, .int .u64 ((scount r.many) : Int), J v, J r.least, J r.most, .bool false, .slice none 0 0] HB89 ?_
 intro w90 HB92 F91 _
 have HB4 := HB4.j F91 ne_g1_g11
 refine Zdn <| Zsg <| Zr 1 <| Zl 34 (.bool r.over) (HB4.s 6) <| Zr 1 <| Zst g11 6 #[.string (str r.key), J r.kind, .int .u64 ((scount r.many) : Int), J v, J r.least, J r.most, .bool r.over, .slice none 0 0] HB92 ?_
 intro w93 HB95 F94 _
 refine Zdn <| WE.seqJ (α := Int) (E := fun le => [(1, J v), (2, Pt g1 0), (4, Pt g6 0), (5, Pt g11 0)]) (I := fun le wr => le = (addR r v).least ∧ Blk wr g1 #[.string (str r.key), J r.kind, .int .u64 (r.many : Int), J r.sum, J r.least, J r.most, .bool r.over, .slice A r.bk.length cp] 54 ∧ Blk wr g6 #[.string (⟨#[]⟩), J 0, .int .u64 0, J 0, J 0, J 0, .bool false, .slice none 0 0] 54 ∧ Blk wr g11 #[.string (str r.key), J r.kind, .int .u64 ((scount r.many) : Int), J v, J le, J r.most, .bool r.over, .slice none 0 0] 54 ∧ VX cN 1 wr F A r.bk ∧ Fr [] w wr) ?_ ?_
 ·
  rintro le wr ⟨hle, HB4, HB9, HB95, HV, HA⟩
  refine WE.seqJ (α := Int) (E := fun mo => [(1, J v), (2, Pt g1 0), (4, Pt g6 0), (5, Pt g11 0)]) (I := fun mo wr => mo = (addR r v).most ∧ Blk wr g1 #[.string (str r.key), J r.kind, .int .u64 (r.many : Int), J r.sum, J r.least, J r.most, .bool r.over, .slice A r.bk.length cp] 54 ∧ Blk wr g6 #[.string (⟨#[]⟩), J 0, .int .u64 0, J 0, J 0, J 0, .bool false, .slice none 0 0] 54 ∧ Blk wr g11 #[.string (str r.key), J r.kind, .int .u64 ((scount r.many) : Int), J v, J le, J mo, .bool r.over, .slice none 0 0] 54 ∧ VX cN 1 wr F A r.bk ∧ Fr [] w wr) ?_ ?_
  ·
   rintro mo wr ⟨hmo, HB4, HB9, HB95, HV, HA⟩
   refine Zsg <| Zr 1 <| Zl 49 (J r.kind) (HB4.s 1) <| ZoN 50 ((r.kind : Int) = 2) ?_ ?_
   ·
    intro h96
    refine Zdn <| ZF <| WE.skip <| WQ.round ?_
    intro a_ ha_
    refine ⟨(v, r.over, le, mo), ha_.keep [1, 2, 4, 5] (by kernel_rfl), ?_⟩
    exact ⟨(if_pos (show r.kind = 2 by omega)).symm, (if_pos (show r.kind = 2 by omega)).symm, hle, hmo, HB4, HB9, HB95, HV, HA⟩
   intro h96
   refine Zdn <| ZT <| Zsg <| Zr 1 <| Zl 53 (J r.sum) (HB4.s 3) <| Zr 1 <| Zcf 55 (rad_f r.sum v _ hin.2.1 hv) ?_
   intro w97 F98
   refine Zr 5 <| Zdn <| Zsg <| Zr 2 <| Zst g11 3 #[.string (str r.key), J r.kind, .int .u64 ((scount r.many) : Int), J ((sadd r.sum v).1), J le, J mo, .bool r.over, .slice none 0 0] (HB95.k F98) ?_
   intro w99 HB101 F100 _
   have HB4 := (HB4.k F98).j F100 ne_g1_g11
   have HB9 := (HB9.k F98).j F100 ne_g6_g11
   have HV := (HV.keep F98 dj0).keep F100 (djB nin_g11_F)
   have HA := (HA.step0 F98).step F100 (inSR ge_HA_g11 inS0)
   refine Zdn <| WE.region <| Zr 1 <| Zl 61 (.bool r.over) (HB4.s 6) <| WO.topB (r.over) ?_ ?_
   ·
    intro h102
    refine Zr 4 <| Zst g11 6 #[.string (str r.key), J r.kind, .int .u64 ((scount r.many) : Int), J ((sadd r.sum v).1), J le, J mo, .bool true, .slice none 0 0] HB101 ?_
    intro w103 HB105 F104 _
    refine Zd <| WQ.round ?_
    intro a_ ha_
    refine ⟨((sadd r.sum v).1, true, le, mo), ha_.keep [1, 2, 4, 5] (by kernel_rfl), ?_⟩
    exact ⟨(if_neg (show ¬ r.kind = 2 by omega)).symm, ((if_neg (show ¬ r.kind = 2 by omega)).trans (by rw [h102]; rfl)).symm, hle, hmo, (HB4.j F104 ne_g1_g11), (HB9.j F104 ne_g6_g11), HB105, (HV.keep F104 (djB nin_g11_F)), (HA.step F104 (inSR ge_HA_g11 inS0))⟩
   intro h102
   refine Zr 4 <| Zst g11 6 #[.string (str r.key), J r.kind, .int .u64 ((scount r.many) : Int), J ((sadd r.sum v).1), J le, J mo, .bool ((sadd r.sum v).2), .slice none 0 0] HB101 ?_
   intro w106 HB108 F107 _
   refine Zd <| WQ.round ?_
   intro a_ ha_
   refine ⟨((sadd r.sum v).1, (sadd r.sum v).2, le, mo), ha_.keep [1, 2, 4, 5] (by kernel_rfl), ?_⟩
   exact ⟨(if_neg (show ¬ r.kind = 2 by omega)).symm, ((if_neg (show ¬ r.kind = 2 by omega)).trans (by rw [h102]; rfl)).symm, hle, hmo, (HB4.j F107 ne_g1_g11), (HB9.j F107 ne_g6_g11), HB108, (HV.keep F107 (djB nin_g11_F)), (HA.step F107 (inSR ge_HA_g11 inS0))⟩
  refine Zsg <| Zr 2 <| Zl 44 (J r.most) (HB4.s 5) <| ZoP 45 ((v : Int) > r.most) ?_ ?_
  ·
   intro h109
   refine Zdn <| ZT <| WE.region <| Zr 2 <| Zst g11 5 #[.string (str r.key), J r.kind, .int .u64 ((scount r.many) : Int), J v, J le, J v, .bool r.over, .slice none 0 0] HB95 ?_
   intro w110 HB112 F111 _
   refine Zd <| WQ.round ?_
   intro a_ ha_
   refine ⟨v, ha_.keep [1, 2, 4, 5] (by kernel_rfl), ?_⟩
   exact ⟨(if_pos (show r.most < v by omega)).symm, (HB4.j F111 ne_g1_g11), (HB9.j F111 ne_g6_g11), HB112, (HV.keep F111 (djB nin_g11_F)), (HA.step F111 (inSR ge_HA_g11 inS0))⟩
  intro h109
  refine Zdn <| ZF <| WE.skip <| WQ.round ?_
  intro a_ ha_
  refine ⟨r.most, ha_.keep [1, 2, 4, 5] (by kernel_rfl), ?_⟩
  exact ⟨(if_neg (show ¬ r.most < v by have := h109; omega)).symm, HB4, HB9, HB95, HV, HA⟩
 have HB4 := HB4.j F94 ne_g1_g11
 have HB9 := ((((((HB9.k F13).j F17 ne_g6_g11).k F83).j F85 ne_g6_g11).j F88 ne_g6_g11).j F91 ne_g6_g11).j F94 ne_g6_g11
 have HV := ((((((HV.keep F13 dj0).keep F17 (djB nin_g11_F)).keep F83 dj0).keep F85 (djB nin_g11_F)).keep F88 (djB nin_g11_F)).keep F91 (djB nin_g11_F)).keep F94 (djB nin_g11_F)
 have HA := ((((((HA.step0 F13).step F17 (inSR ge_HA_g11 inS0)).step0 F83).step F85 (inSR ge_HA_g11 inS0)).step F88 (inSR ge_HA_g11 inS0)).step F91 (inSR ge_HA_g11 inS0)).step F94 (inSR ge_HA_g11 inS0)
 refine Zsg <| Zr 2 <| Zl 38 (J r.least) (HB4.s 4) <| ZoP 39 ((v : Int) < r.least) ?_ ?_
 ·
  intro h113
  refine Zdn <| ZT <| WE.region <| Zr 2 <| Zst g11 4 #[.string (str r.key), J r.kind, .int .u64 ((scount r.many) : Int), J v, J v, J r.most, .bool r.over, .slice none 0 0] HB95 ?_
  intro w114 HB116 F115 _
  refine Zd <| WQ.round ?_
  intro a_ ha_
  refine ⟨v, ha_.keep [1, 2, 4, 5] (by kernel_rfl), ?_⟩
  exact ⟨(if_pos (show v < r.least by omega)).symm, (HB4.j F115 ne_g1_g11), (HB9.j F115 ne_g6_g11), HB116, (HV.keep F115 (djB nin_g11_F)), (HA.step F115 (inSR ge_HA_g11 inS0))⟩
 intro h113
 refine Zdn <| ZF <| WE.skip <| WQ.round ?_
 intro a_ ha_
 refine ⟨r.least, ha_.keep [1, 2, 4, 5] (by kernel_rfl), ?_⟩
 exact ⟨(if_neg (show ¬ v < r.least by have := h113; omega)).symm, HB4, HB9, HB95, HV, HA⟩
end Go.Proofs.YtdhonbahpcmmnaaGreatDoor.Bat
