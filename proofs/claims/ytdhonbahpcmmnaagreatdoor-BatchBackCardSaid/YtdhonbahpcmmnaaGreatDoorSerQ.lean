/- Layer 7's laws. -/
import Derived.Test.YtdhonbahpcmmnaaGreatDoorBatH
import Derived.Test.YtdhonbahpcmmnaaGreatDoorEngC
import Derived.Test.YtdhonbahpcmmnaaGreatDoorApp
import Derived.ChangeSlices
import Derived.SizedLaws
import Derived.WalkKit
import Derived.ProofKit
import Derived.Deep.Slices
import Derived.Test.YtdhonbahpcmmnaaGreatDoorEngB
import Derived.OpenShut
import Derived.Test.YtdhonbahpcmmnaaGreatDoorSerS
import Derived.Test.YtdhonbahpcmmnaaGreatDoorSerL
section
set_option linter.unusedVariables false
set_option linter.unusedSimpArgs false
namespace Go.Proofs.YtdhonbahpcmmnaaGreatDoor.Bat
open Go Go.RowKit Go.Proofs.YtdhonbahpcmmnaaGreatDoor Go.Proofs.YtdhonbahpcmmnaaGreatDoor.Eng Go.Proofs.YtdhonbahpcmmnaaGreatDoorW.PrintWords
open Go.Proofs
open Go.Proofs.YtdhonbahpcmmnaaGreatDoor.Line
open Go.Proofs.YtdhonbahpcmmnaaGreatDoor.Wire (enc zig unzig encT St rNum rWhole rText rEnd)
theorem up_enc : encB ⟨((1 : Nat) : Int), ((2 : Nat) : Int), rws []⟩ = [1, 2, 0] := by
  show enc 1 ++ (enc 2 ++ (enc 0 ++ [])) = _
  rw [Wire.enc_lo (n := 1) (by decide), Wire.enc_lo (n := 2) (by decide), Wire.enc_lo (n := 0) (by decide)]
  rfl
theorem get_nil : getP [] = none := by rfl
theorem few_key {xs : List RX} (h : fewX xs = true) : ∀ x ∈ xs, x.1.key.length ≤ 100000 := fun x hx => by
  obtain ⟨i, hi, he⟩ := List.mem_iff_getElem.1 hx
  have h1 := ((fewX_iff.1 h).1 i hi).1
  have e : gX xs i = x := by
    have h2 := gX_some xs i hi
    rw [List.getElem?_eq_getElem hi, he] at h2
    exact (Option.some.inj h2).symm
  rw [e] at h1
  omega
theorem got_facts {l : L} {b : Bt} {xs : List RX} (h : getP l = some b) (hx : rws xs = b.rows) : xs.length ≤ 200 ∧ ∀ x ∈ xs, x.1.key.length ≤ 294 ∧ x.1.bk.length ≤ 65 ∧ x.1.In := by
  obtain ⟨hm, _, hi⟩ := get_bwd h
  refine ⟨?_, fun x hx2 => ?_⟩
  · have := (mayB_iff.1 hm).2.2.2.2.1
    rwa [← hx, rws_len] at this
  · have hr : x.1 ∈ b.rows := by rw [← hx]; exact List.mem_map.2 ⟨x, hx2, rfl⟩
    have h1 := rowOk_iff.1 (mayB_row hm hr)
    exact ⟨key_le h1.1, h1.2.2.2.2.2.1, hi _ hr⟩
theorem put_okI (seq start : Int) (xs : List RX) (A : Option Addr) (n cp : Nat) (F FE : List Nat) (w : World) (HL : VX cW 8 w F A xs) (HE : EV w FE xs) (hn : xs.length = n) (hnn : n ≤ 9223372036854775807) (hkl : ∀ x ∈ xs, x.1.key.length ≤ 100000) (hbl : ∀ x ∈ xs, x.1.bk.length ≤ 9223372036854775807) (HS : VarI w "strconv.ErrSyntax") (HR : VarI w "strconv.ErrRange") (HTab : Lib.TabIs Tryz.prog w "internal/strconv.uint64pow10" .u64 Lib.pow10Tab) (HM : MaxI w) (hmay : mayB (⟨seq, start, rws xs⟩ : Bt) = true) (hin : ∀ x ∈ xs, x.1.In) : Calls Tryz.prog 10 #[.agg #[.int .i64 seq, .int .i64 start, .slice A n cp]] w fun e w' => ∃ A' c' F', e = .returned (.tuple #[.slice A' (encB (⟨seq, start, rws xs⟩ : Bt)).length c', .nilIface]) ∧ OwnX 5 1 w' F' (.slice A' (encB (⟨seq, start, rws xs⟩ : Bt)).length c') ((encB (⟨seq, start, rws xs⟩ : Bt)).map cB) ∧ (∀ y ∈ F', w.heap.size ≤ y) ∧ Fr [] w w' := by
  have hm := mayB_iff.1 hmay
  dsimp only at hm
  obtain ⟨sq, rfl⟩ := Int.eq_ofNat_of_zero_le hm.1
  obtain ⟨st, rfl⟩ := Int.eq_ofNat_of_zero_le hm.2.2.1
  exact put_ok sq st xs A n cp F FE w HL HE hn hnn hkl hbl HS HR HTab HM hmay hin
theorem mput_fI (seq start : Int) (xs : List RX) (A : Option Addr) (n cp : Nat) (F FE : List Nat) (w : World) (HL : VX cW 8 w F A xs) (HE : EV w FE xs) (hn : xs.length = n) (hnn : n ≤ 9223372036854775807) (hkl : ∀ x ∈ xs, x.1.key.length ≤ 100000) (hbl : ∀ x ∈ xs, x.1.bk.length ≤ 9223372036854775807) (hmay : mayB (⟨seq, start, rws xs⟩ : Bt) = true) (hin : ∀ x ∈ xs, x.1.In) : Calls Tryz.prog 13 #[.agg #[.int .i64 seq, .int .i64 start, .slice A n cp]] w fun e w' => ∃ A' c' F', e = .returned (.slice A' (encB (⟨seq, start, rws xs⟩ : Bt)).length c') ∧ OwnX 5 1 w' F' (.slice A' (encB (⟨seq, start, rws xs⟩ : Bt)).length c') ((encB (⟨seq, start, rws xs⟩ : Bt)).map cB) ∧ (∀ y ∈ F', w.heap.size ≤ y) ∧ Fr [] w w' := by
  have hm := mayB_iff.1 hmay
  dsimp only at hm
  obtain ⟨sq, rfl⟩ := Int.eq_ofNat_of_zero_le hm.1
  obtain ⟨st, rfl⟩ := Int.eq_ofNat_of_zero_le hm.2.2.1
  exact mput_f sq st xs A n cp F FE w HL HE hn hnn hkl hbl hmay hin
set_option maxRecDepth 100000 in
set_option maxHeartbeats 400000 in
theorem up7_any (w : World) (HS : VarI w "strconv.ErrSyntax") (HR : VarI w "strconv.ErrRange") (HTab : Lib.TabIs Tryz.prog w "internal/strconv.uint64pow10" .u64 Lib.pow10Tab) (HM : MaxI w) :
    Calls Tryz.prog 8 #[] w fun e w' => e = .returned (.bool true) ∧ Fr [] w w' := by
 have HA := Fr.refl [] w
 refine Zen (N := 31) Tryz.func8 (c := _) [] <| Zsg <| Zr 1 [(0, .bool false)] <| Zdn <| Zsg <| Zr 1 [(6, .agg #[J 1, J 2, .slice none 0 0])] <| Zc 7 (put_ok 1 2 [] none 0 0 [] [] _ (VX.nil _ _) (EV.nil _) rfl (by decide) (by simp) (by simp) HS HR HTab HM (by rfl) (by simp)) ?_
 rintro _ w1 ⟨A1_, c1_, F1_, rfl, HO1_, hg1_, F2⟩
 rw [up_enc] at HO1_ ⊢
 refine ⟨_, rfl, trivial, ?_⟩
 have hg1r_ := fun y hy => Or.inr (a := y ∈ ([] : List Nat)) (hg1_ y hy)
 have HS := HS.k F2
 have HR := HR.k F2
 have HTab := HTab.k F2
 have HM := HM.k F2
 refine Zr 5 [(2, .nilIface), (1, .slice A1_ (([1, 2, 0] : L).length) c1_), (9, .nilIface), (8, .slice A1_ (([1, 2, 0] : L).length) c1_), (5, .tuple #[.slice A1_ (([1, 2, 0] : L).length) c1_, .nilIface])] <| Zdn <| Zsg <| Zc 11 (get_f none 0 0 [] [] _ (VX.nil _ _) rfl (by decide) (by simp) HS HR HTab HM) ?_
 intro e_ w3 hr_
 rw [get_nil] at hr_
 obtain ⟨rfl, F4⟩ := hr_
 refine ⟨_, rfl, trivial, Zr 3 [(13, .iface 32 (J 2)), (12, .agg #[J 0, J 0, .slice none 0 0]), (10, .tuple #[.agg #[J 0, J 0, .slice none 0 0], .iface 32 (J 2)])] <| Zb 3 #[J 0, J 0, .slice none 0 0] 24 (fun g => Pt g 0) ?_⟩
 intro g5 w6 HB8 F7 le9 _
 have HO1_ := HO1_.keep F4 dj0
 have nin_g5_F1_ := new_nin HO1_.lt le9
 have HS := HS.k F4
 have ne_1_g5 : 1 ≠ g5 := Nat.ne_of_lt (Nat.lt_of_lt_of_le (var_lt 1 (by kernel_rfl) HS) le9)
 have HR := HR.k F4
 have ne_2_g5 : 2 ≠ g5 := Nat.ne_of_lt (Nat.lt_of_lt_of_le (var_lt 2 (by kernel_rfl) HR) le9)
 have HTab := HTab.k F4
 have ne_3_g5 : 3 ≠ g5 := Nat.ne_of_lt (Nat.lt_of_lt_of_le (tab_lt HTab) le9)
 have HM := HM.k F4
 have ne_0_g5 : 0 ≠ g5 := Nat.ne_of_lt (Nat.lt_of_lt_of_le (max_lt HM) le9)
 have HA := (HA.step0 F2).step0 F4
 have ge_HA_g5 := Nat.le_trans HA.size le9
 refine Zs g5 0 [J 0, J 0, .slice none 0 0] #[J 0, J 0, .slice none 0 0] HB8 ?_
 intro w10 HB12 F11 _
 have HO1_ := (HO1_.keep F7 dj0).keep F11 (djB nin_g5_F1_)
 have HS := var_keep 1 (by kernel_rfl) (HS.k F7) F11 (ninC ne_1_g5 (nin0 _))
 have HR := var_keep 2 (by kernel_rfl) (HR.k F7) F11 (ninC ne_2_g5 (nin0 _))
 have HTab := tab_keep (HTab.k F7) F11 (ninC ne_3_g5 (nin0 _))
 have HM := max_keep (HM.k F7) F11 (ninC ne_0_g5 (nin0 _))
 refine Zr 1 [(4, .iface 32 (J 2))] <| Zdn <| Zsg <| Zr 4 [(17, .slice A1_ (([1, 2, 0] : L).length) c1_), (16, .bool true), (15, .bool true), (14, .nilIface)] <| Zt (v := .slice A1_ (([1, 2, 0] : L).length) c1_) (n := (([1, 2, 0] : L).length)) 18 Wire.byt ([1, 2, 0] : L) (by first | rfl | (simp; done) | omega | (simp; omega)) (same (HO1_.srcN (List.length_map _))) <| Zo 19 (.bool ((str ([1, 2, 0] : L)).toList == (⟨#[1, 2, 0]⟩ : ByteArray).toList)) <| WO.top (v' := .bool (decide ((str ([1, 2, 0] : L)) = (⟨#[1, 2, 0]⟩ : ByteArray)))) (congrArg Value.bool (streq (str ([1, 2, 0] : L)) (⟨#[1, 2, 0]⟩ : ByteArray))) <| WO.topPT ((str ([1, 2, 0] : L)) = (⟨#[1, 2, 0]⟩ : ByteArray)) (by rfl) <| Zr 8 [(27, .agg #[J (-1), J 0, .slice none 0 0]), (26, .bool true), (25, .bool true), (24, .bool true), (23, .iface 32 (J 2)), (22, .iface 32 (J 2)), (21, .bool true), (20, .bool true)] <| Zc 28 (may_l (-1) 0 [] none 0 0 [] [] _ (VX.nil _ _) (EV.nil _) rfl (by decide) (by simp) (by simp) HS HR HTab HM) ?_
 rintro _ w13 ⟨rfl, F14⟩
 rw [show mayB ⟨-1, 0, rws []⟩ = false from rfl]
 have HA := ((HA.step0 F7).step F11 (inSR ge_HA_g5 inS0)).step0 F14
 refine ⟨_, rfl, trivial, Zr 3 [(0, .bool true), (30, .bool true), (29, .bool true)] <| Zdn <| WE.ret <| ZR (.bool true) ?_⟩
 exact ⟨rfl, HA⟩
set_option maxRecDepth 100000 in
set_option maxHeartbeats 400000 in
theorem puts_any (seq start : Int) (xs : List RX) (A : Option Addr) (n cp : Nat) (F FE : List Nat) (w : World) (HL : VX cW 8 w F A xs) (HE : EV w FE xs) (hn : xs.length = n) (hnn : n ≤ 9223372036854775807) (hkl0 : ∀ x ∈ xs, x.1.key.length ≤ 9223372036854775807) (hbl : ∀ x ∈ xs, x.1.bk.length ≤ 9223372036854775807) (hin : ∀ x ∈ xs, x.1.In) (HS : VarI w "strconv.ErrSyntax") (HR : VarI w "strconv.ErrRange") (HTab : Lib.TabIs Tryz.prog w "internal/strconv.uint64pow10" .u64 Lib.pow10Tab) (HM : MaxI w) :
    Calls Tryz.prog 3 #[.agg #[.int .i64 seq, .int .i64 start, .slice A n cp]] w fun e w' => e = .returned (.bool true) ∧ Fr [] w w' := by
 have HA := Fr.refl [] w
 refine Zen (N := 56) Tryz.func3 (c := _) [(0, .agg #[J seq, J start, .slice A n cp])] <| Zsg <| Zb 1 #[J seq, J start, .slice A n cp] 24 (fun g => Pt g 0) ?_
 intro g1 w2 HB4 F3 le5 _
 have HS := HS.k F3
 have HR := HR.k F3
 have HTab := HTab.k F3
 have HM := HM.k F3
 refine Zr 1 [(2, .bool false)] <| Zdn <| Zsg <| Zc 8 (up7_any _ HS HR HTab HM) ?_
 rintro _ w6 ⟨rfl, F7⟩
 have HB4 := HB4.k F7
 have HL := (HL.keep F3 dj0).keep F7 dj0
 refine ⟨_, rfl, trivial, Zr 1 [(3, .bool true)] <| Zdn <| Zsg <| Zlb 9 [J seq, J start, .slice A n cp] g1 0 (same HB4) <| Zc 10 (few_b seq start xs A n cp F _ HL hn hnn hkl0 hbl) ?_⟩
 rintro _ w8 ⟨rfl, F9⟩
 have HA := ((HA.step0 F3).step0 F7).step0 F9
 refine ⟨_, rfl, trivial, ?_⟩
 rcases Bool.eq_false_or_eq_true (fewX xs) with hfew | hfew
 ·
  rw [hfew]
  have hkl := few_key hfew
  have hn250_ := (fewX_iff.1 hfew).2
  have HB4 := HB4.k F9
  have HE := ((HE.keep F3 dj0).keep F7 dj0).keep F9 dj0
  have HS := (HS.k F7).k F9
  have HR := (HR.k F7).k F9
  have HTab := (HTab.k F7).k F9
  have HM := (HM.k F7).k F9
  refine Zr 1 [(4, .bool true)] <| Zdn <| Zq <| Zsg <| Zr 2 [(12, .bool false), (11, .bool true)] <| Zdn <| ZF <| Zk <| Zsg <| Zlb 15 [J seq, J start, .slice A n cp] g1 0 (same HB4) ?_
  rcases Bool.eq_false_or_eq_true (mayB (⟨seq, start, rws xs⟩ : Bt)) with hmay | hmay
  ·
   have HL := HL.keep F9 dj0
   refine Zc 16 (put_okI seq start xs A n cp F FE _ HL HE hn hnn hkl hbl HS HR HTab HM hmay hin) ?_
   rintro _ w10 ⟨A1_, c1_, F1_, rfl, HO1_, hg1_, F11⟩
   refine ⟨_, rfl, trivial, ?_⟩
   have hg1r_ := fun y hy => Or.inr (a := y ∈ ([] : List Nat)) (hg1_ y hy)
   have HV1_ := VX.of_own HO1_
   have hcw1_ := own_cap HO1_ (List.length_map _)
   have HB4 := HB4.k F11
   have HL := HL.keep F11 dj0
   have HE := HE.keep F11 dj0
   refine Zr 5 [(6, .nilIface), (5, .slice A1_ ((encB (⟨seq, start, rws xs⟩ : Bt)).length) c1_), (18, .nilIface), (17, .slice A1_ ((encB (⟨seq, start, rws xs⟩ : Bt)).length) c1_), (14, .tuple #[.slice A1_ ((encB (⟨seq, start, rws xs⟩ : Bt)).length) c1_, .nilIface])] <| Zdn <| Zsg <| Zlb 19 [J seq, J start, .slice A n cp] g1 0 (same HB4) <| Zc 20 (may_r seq start xs A n cp F FE _ HL HE hn hnn hkl hbl) ?_
   rintro _ w12 ⟨rfl, F13⟩
   rw [hmay]
   refine ⟨_, rfl, trivial, Zr 1 [(7, .bool true)] <| Zdn <| Zq <| Zsg <| Zr 2 [(22, .bool false), (21, .bool true)] <| Zdn <| ZF <| Zk <| Zq ?_⟩
   have hz14 : (World.heap w12).size ≤ (World.heap w12).size := Nat.le_refl _
   have HB4 := HB4.k F13
   have ltz_g1 := HB4.lt
   have HV1_ := HV1_.keep F13 dj0
   have ltz_F1_ := HV1_.lt
   refine WE.draw [.free, .free, .still, .eff, .free, .free, .free, .free, .free, .free, .free, .still, .still, .effR, .effR, .free, .free, .free] (FrB (World.heap w12).size) (frBR _) (by kernel_rfl) 18 (Array.replicate 18 false) (by kernel_rfl) rfl ?_
   intro w15 F16 _
   have HB4 := HB4.k F16
   have HS := ((HS.k F11).k F13).k F16
   have HR := ((HR.k F11).k F13).k F16
   have HTab := ((HTab.k F11).k F13).k F16
   have HM := ((HM.k F11).k F13).k F16
   have HL := (HL.keep F13 dj0).keep F16 dj0
   have HE := (HE.keep F13 dj0).keep F16 dj0
   refine WO.one (SA.F (frBR _) (frBT _) _ 0 _ (by kernel_rfl)) 39 (.bool true) (by kernel_rfl) <| WO.one (SA.F (frBR _) (frBT _) _ 1 _ (by kernel_rfl)) 40 (.bool true) (by kernel_rfl) <| WO.ldB (SA.S (frBR _) (frBT _) _ 2 _ (by kernel_rfl)) 41 [J seq, J start, .slice A n cp] g1 0 (by kernel_rfl) (by kernel_rfl) (fun _ k => HB4.keepB k ltz_g1) (by kernel_rfl) <| Yc 3 42 (may_l seq start xs A n cp F FE _ HL HE hn hnn hkl hbl HS HR HTab HM) ?_
   rintro _ w17 ⟨rfl, F18⟩
   rw [hmay]
   have HV1_ := (HV1_.keep F16 dj0).keep F18 dj0
   have HB4 := HB4.k F18
   have HL := HL.keep F18 dj0
   have HE := HE.keep F18 dj0
   refine ⟨_, rfl, trivial, WO.one (SA.F (frBR _) (frBT _) _ 4 _ (by kernel_rfl)) 43 (.bool true) (by kernel_rfl) <| WO.one (SA.F (frBR _) (frBT _) _ 5 _ (by kernel_rfl)) 44 (.bool true) (by kernel_rfl) <| WO.one (SA.F (frBR _) (frBT _) _ 6 _ (by kernel_rfl)) 45 (.nilIface) (by kernel_rfl) <| WO.one (SA.F (frBR _) (frBT _) _ 7 _ (by kernel_rfl)) 46 (.bool true) (by kernel_rfl) <| WO.one (SA.F (frBR _) (frBT _) _ 8 _ (by kernel_rfl)) 47 (.bool true) (by kernel_rfl) <| WO.one (SA.F (frBR _) (frBT _) _ 9 _ (by kernel_rfl)) 48 (.bool true) (by kernel_rfl) <| WO.one (SA.F (frBR _) (frBT _) _ 10 _ (by kernel_rfl)) 49 (.slice A1_ ((encB (⟨seq, start, rws xs⟩ : Bt)).length) c1_) (by kernel_rfl) <| WO.b2s (v := .slice A1_ ((encB (⟨seq, start, rws xs⟩ : Bt)).length) c1_) (SA.S (frBR _) (frBT _) _ 11 _ (by kernel_rfl)) 50 Wire.byt (encB (⟨seq, start, rws xs⟩ : Bt)) (n := ((encB (⟨seq, start, rws xs⟩ : Bt)).length)) (rfl : List.length (encB (⟨seq, start, rws xs⟩ : Bt)) = _) (by kernel_rfl) (fun _ k_ => ((HV1_.keepB k_ ltz_F1_).srcN (rfl : List.length (encB (⟨seq, start, rws xs⟩ : Bt)) = _) (cB_len _) (cB_one _) c1_)) <| WO.ldB (SA.S (frBR _) (frBT _) _ 12 _ (by kernel_rfl)) 51 [J seq, J start, .slice A n cp] g1 0 (by kernel_rfl) (by kernel_rfl) (fun _ k => HB4.keepB k ltz_g1) (by kernel_rfl) <| WO.call (SA.ER _ 13 _ (by kernel_rfl) rfl) 52 (by kernel_rfl) (mput_fI seq start xs A n cp F FE _ HL HE hn hnn hkl hbl hmay hin) ?_⟩
   rintro _ w19 ⟨A2_, c2_, F2_, rfl, HO2_, hg2_, F20⟩
   have hz14 := Nat.le_trans (Nat.le_trans hz14 F16.size) F18.size
   refine ⟨_, rfl, (frB_of hz14 (by simp)) _ F20, ?_⟩
   have hg2r_ := fun y hy => Or.inr (a := y ∈ ([] : List Nat)) (hg2_ y hy)
   have HV2_ := VX.of_own HO2_
   have hcw2_ := own_cap HO2_ (List.length_map _)
   have hz14 := Nat.le_trans hz14 F20.size
   have HA := ((((HA.step0 F11).step0 F13).step0 F16).step0 F18).step0 F20
   refine WO.b2sE (v := .slice A2_ ((encB (⟨seq, start, rws xs⟩ : Bt)).length) c2_) (SA.ER _ 14 _ (by kernel_rfl) rfl) 53 Wire.byt (encB (⟨seq, start, rws xs⟩ : Bt)) (n := ((encB (⟨seq, start, rws xs⟩ : Bt)).length)) (rfl : List.length (encB (⟨seq, start, rws xs⟩ : Bt)) = _) (by kernel_rfl) (HV2_.srcN (rfl : List.length (encB (⟨seq, start, rws xs⟩ : Bt)) = _) (cB_len _) (cB_one _) c2_) (frB_of hz14 (by simp)) <| WO.one (SA.F (frBR _) (frBT _) _ 15 _ (by kernel_rfl)) 54 (.bool ((str (encB (⟨seq, start, rws xs⟩ : Bt))).toList == (str (encB (⟨seq, start, rws xs⟩ : Bt))).toList)) (by kernel_rfl) <| WO.top (v' := .bool (decide ((str (encB (⟨seq, start, rws xs⟩ : Bt))) = (str (encB (⟨seq, start, rws xs⟩ : Bt)))))) (congrArg Value.bool (streq (str (encB (⟨seq, start, rws xs⟩ : Bt))) (str (encB (⟨seq, start, rws xs⟩ : Bt))))) <| WO.one (SA.F (frBR _) (frBT _) _ 16 _ (by kernel_rfl)) 55 (.bool (decide ((str (encB (⟨seq, start, rws xs⟩ : Bt))) = (str (encB (⟨seq, start, rws xs⟩ : Bt)))))) (by kernel_rfl) <| WO.one (SA.F (frBR _) (frBT _) _ 17 _ (by kernel_rfl)) 2 (.bool (decide ((str (encB (⟨seq, start, rws xs⟩ : Bt))) = (str (encB (⟨seq, start, rws xs⟩ : Bt)))))) (by kernel_rfl) <| Ydn <| WE.ret <| ZR (.bool (decide ((str (encB (⟨seq, start, rws xs⟩ : Bt))) = (str (encB (⟨seq, start, rws xs⟩ : Bt)))))) ?_
   exact ⟨by simp, HA⟩
  ·
   have HL := HL.keep F9 dj0
   refine Zc 16 (put_no seq start xs A n cp F FE _ HL HE hn hnn hkl hbl HS HR HTab HM hmay) ?_
   rintro _ w21 ⟨rfl, F22⟩
   have HB4 := HB4.k F22
   have HL := HL.keep F22 dj0
   have HE := HE.keep F22 dj0
   refine ⟨_, rfl, trivial, Zr 5 [(6, .iface 32 (J 1)), (5, .slice none 0 0), (18, .iface 32 (J 1)), (17, .slice none 0 0), (14, .tuple #[.slice none 0 0, .iface 32 (J 1)])] <| Zdn <| Zsg <| Zlb 19 [J seq, J start, .slice A n cp] g1 0 (same HB4) <| Zc 20 (may_r seq start xs A n cp F FE _ HL HE hn hnn hkl hbl) ?_⟩
   rintro _ w23 ⟨rfl, F24⟩
   rw [hmay]
   have HB4 := HB4.k F24
   have HS := (HS.k F22).k F24
   have HR := (HR.k F22).k F24
   have HTab := (HTab.k F22).k F24
   have HM := (HM.k F22).k F24
   have HL := HL.keep F24 dj0
   have HE := HE.keep F24 dj0
   refine ⟨_, rfl, trivial, Zr 1 [(7, .bool false)] <| Zdn <| Zq <| Zsg <| Zr 2 [(22, .bool true), (21, .bool false)] <| Zdn <| ZT <| Zsg <| Zr 2 [(24, .bool true), (23, .bool true)] <| Zlb 25 [J seq, J start, .slice A n cp] g1 0 (same HB4) <| Zc 26 (may_l seq start xs A n cp F FE _ HL HE hn hnn hkl hbl HS HR HTab HM) ?_⟩
   rintro _ w25 ⟨rfl, F26⟩
   rw [hmay]
   have HA := ((HA.step0 F22).step0 F24).step0 F26
   refine ⟨_, rfl, trivial, Zr 13 [(2, .bool true), (38, .bool true), (37, .bool true), (36, J 0), (35, .slice none 0 0), (34, .bool true), (33, .bool true), (32, .bool true), (31, .iface 32 (J 1)), (30, .iface 32 (J 1)), (29, .bool true), (28, .bool true), (27, .bool true)] <| Zdn <| WE.ret <| WQ.thenR <| ZR (.bool true) ?_⟩
   exact ⟨rfl, HA⟩
 ·
  rw [hfew]
  refine Zr 1 [(4, .bool false)] <| Zdn <| Zq <| Zsg <| Zr 2 [(12, .bool true), (11, .bool false)] <| Zdn <| ZT <| Zsg <| Zr 2 [(2, .bool true), (13, .bool true)] <| Zdn <| WE.ret <| WQ.thenR <| ZR (.bool true) ?_
  exact ⟨rfl, HA⟩
set_option maxRecDepth 100000 in
set_option maxHeartbeats 400000 in
theorem gets_any (A : Option Addr) (n cp : Nat) (l : L) (FB : List Nat) (w : World) (HV : VX cB 1 w FB A l) (hn : l.length = n) (hc : n ≤ cp) (hnn : n ≤ 9223372036854775807) (HS : VarI w "strconv.ErrSyntax") (HR : VarI w "strconv.ErrRange") (HTab : Lib.TabIs Tryz.prog w "internal/strconv.uint64pow10" .u64 Lib.pow10Tab) (HM : MaxI w) :
    Calls Tryz.prog 4 #[.slice A n cp] w fun e w' => e = .returned (.bool true) ∧ Fr [] w w' := by
 have HA := Fr.refl [] w
 refine Zen (N := 46) Tryz.func4 (c := _) [(0, .slice A n cp)] <| Zsg <| Zr 1 [(2, .bool false)] <| Zdn <| Zsg <| Zcf 8 (up7_any _ HS HR HTab HM) ?_
 intro w1 F2
 refine Zr 1 [(3, .bool true)] <| Zdn <| Zq <| Zsg <| Zr 2 [(10, J (n : Int)), (9, .slice A n cp)] <| ZoP 11 (((n : Int) : Int) > (20000 : Int)) ?_ ?_
 ·
  intro h3
  have HA := HA.step0 F2
  refine Zdn <| ZT <| Zsg <| Zr 2 [(2, .bool true), (12, .bool true)] <| Zdn <| WE.ret <| WQ.thenR <| ZR (.bool true) ?_
  exact ⟨rfl, HA⟩
 intro h3
 refine Zdn <| ZF <| Zk <| Zsg <| Zr 1 [(14, .slice A n cp)] ?_
 cases hgp_ : getP l
 ·
  have HV := HV.keep F2 dj0
  have HS := HS.k F2
  have HR := HR.k F2
  have HTab := HTab.k F2
  have HM := HM.k F2
  refine Zc 15 (get_f A n cp l FB _ HV hn hc (by omega) HS HR HTab HM) ?_
  intro e_ w4 hr_
  rw [hgp_] at hr_
  obtain ⟨rfl, F5⟩ := hr_
  refine ⟨_, rfl, trivial, Zr 3 [(17, .iface 32 (J 2)), (16, .agg #[J 0, J 0, .slice none 0 0]), (13, .tuple #[.agg #[J 0, J 0, .slice none 0 0], .iface 32 (J 2)])] <| Zb 4 #[J 0, J 0, .slice none 0 0] 24 (fun g => Pt g 0) ?_⟩
  intro g6 w7 HB9 F8 le10 _
  have HV := HV.keep F5 dj0
  have nin_g6_FB := new_nin HV.lt le10
  have HA := (HA.step0 F2).step0 F5
  have ge_HA_g6 := Nat.le_trans HA.size le10
  refine Zs g6 0 [J 0, J 0, .slice none 0 0] #[J 0, J 0, .slice none 0 0] HB9 ?_
  intro w11 HB13 F12 _
  have HV := (HV.keep F8 dj0).keep F12 (djB nin_g6_FB)
  refine Zr 1 [(5, .iface 32 (J 2))] <| Zdn <| Zsg <| Zr 1 [(19, .slice A n cp)] <| Zc 20 (mget_f A n cp l FB _ HV hn hc (by omega)) ?_
  intro e_ w14 hr_
  rw [hgp_] at hr_
  obtain ⟨rfl, F15⟩ := hr_
  refine ⟨_, rfl, trivial, Zr 3 [(22, .bool false), (21, .agg #[J 0, J 0, .slice none 0 0]), (18, .tuple #[.agg #[J 0, J 0, .slice none 0 0], .bool false])] <| Zb 6 #[J 0, J 0, .slice none 0 0] 24 (fun g => Pt g 0) ?_⟩
  intro g16 w17 HB19 F18 le20 _
  have HB13 := HB13.k F15
  have ne_g6_g16 := ltn HB13.lt le20
  have HA := ((HA.step0 F8).step F12 (inSR ge_HA_g6 inS0)).step0 F15
  have ge_HA_g16 := Nat.le_trans HA.size le20
  refine Zs g16 0 [J 0, J 0, .slice none 0 0] #[J 0, J 0, .slice none 0 0] HB19 ?_
  intro w21 HB23 F22 _
  have HB13 := (HB13.k F18).j F22 ne_g6_g16
  refine Zr 1 [(7, .bool false)] <| Zdn <| Zq <| Zsg <| Zr 2 [(24, .bool true), (23, .bool false)] <| Zdn <| ZT <| Zsg <| Zr 7 [(31, .bool true), (30, .bool true), (29, .bool true), (28, .iface 32 (J 2)), (27, .iface 32 (J 2)), (26, .bool true), (25, .bool true)] <| Zlb 32 [J 0, J 0, .slice none 0 0] g6 0 (same HB13) <| Zr 1 [(33, .agg #[J 0, J 0, .slice none 0 0])] <| Zc 34 (same_b 0 0 [] [] none none 0 0 0 [] [] [] [] _ rfl (VX.nil _ _) (EV.nil _) rfl (VX.nil _ _) (EV.nil _) rfl (by decide) (by simp)) ?_
  rintro _ w24 ⟨rfl, F25⟩
  have HA := ((HA.step0 F18).step F22 (inSR ge_HA_g16 inS0)).step0 F25
  refine ⟨_, rfl, trivial, Zr 2 [(2, .bool true), (35, .bool true)] <| Zdn <| WE.ret <| WQ.thenR <| ZR (.bool true) ?_⟩
  exact ⟨rfl, HA⟩
 ·
  rename_i b_
  have HV := HV.keep F2 dj0
  have HS := HS.k F2
  have HR := HR.k F2
  have HTab := HTab.k F2
  have HM := HM.k F2
  refine Zc 15 (get_f A n cp l FB _ HV hn hc (by omega) HS HR HTab HM) ?_
  intro e_ w26 hr_
  rw [hgp_] at hr_
  obtain ⟨xs1, A1, c1, F1, G1, rfl, hx1_, hcx1_, HL1, HE1, hdj1_, hgF1_, hgG1_, F27⟩ := hr_
  refine ⟨_, rfl, trivial, ?_⟩
  have hgF1r_ := fun y hy => Or.inr (a := y ∈ ([] : List Nat)) (hgF1_ y hy)
  have hgG1r_ := fun y hy => Or.inr (a := y ∈ ([] : List Nat)) (hgG1_ y hy)
  refine Zr 3 [(17, .nilIface), (16, .agg #[J b_.seq, J b_.start, .slice A1 xs1.length c1]), (13, .tuple #[.agg #[J b_.seq, J b_.start, .slice A1 xs1.length c1], .nilIface])] <| Zb 4 #[J 0, J 0, .slice none 0 0] 24 (fun g => Pt g 0) ?_
  intro g28 w29 HB31 F30 le32 _
  have HV := HV.keep F27 dj0
  have nin_g28_FB := new_nin HV.lt le32
  have nin_g28_F1 := new_nin HL1.lt le32
  have nin_g28_G1 := new_nin HE1.lt le32
  have HA := (HA.step0 F2).step0 F27
  have ge_HA_g28 := Nat.le_trans HA.size le32
  refine Zs g28 0 [J b_.seq, J b_.start, .slice A1 xs1.length c1] #[J b_.seq, J b_.start, .slice A1 xs1.length c1] HB31 ?_
  intro w33 HB35 F34 _
  have HV := (HV.keep F30 dj0).keep F34 (djB nin_g28_FB)
  refine Zr 1 [(5, .nilIface)] <| Zdn <| Zsg <| Zr 1 [(19, .slice A n cp)] <| Zc 20 (mget_f A n cp l FB _ HV hn hc (by omega)) ?_
  intro e_ w36 hr_
  rw [hgp_] at hr_
  obtain ⟨xs2, A2, c2, F2, G2, rfl, hx2_, hcx2_, HL2, HE2, hdj2_, hgF2_, hgG2_, F37⟩ := hr_
  refine ⟨_, rfl, trivial, ?_⟩
  have hgF2r_ := fun y hy => Or.inr (a := y ∈ ([] : List Nat)) (hgF2_ y hy)
  have hgG2r_ := fun y hy => Or.inr (a := y ∈ ([] : List Nat)) (hgG2_ y hy)
  refine Zr 3 [(22, .bool true), (21, .agg #[J b_.seq, J b_.start, .slice A2 xs2.length c2]), (18, .tuple #[.agg #[J b_.seq, J b_.start, .slice A2 xs2.length c2], .bool true])] <| Zb 6 #[J 0, J 0, .slice none 0 0] 24 (fun g => Pt g 0) ?_
  intro g38 w39 HB41 F40 le42 _
  have HB35 := HB35.k F37
  have ne_g28_g38 := ltn HB35.lt le42
  have HL1 := ((HL1.keep F30 dj0).keep F34 (djB nin_g28_F1)).keep F37 dj0
  have nin_g38_F1 := new_nin HL1.lt le42
  have HE1 := ((HE1.keep F30 dj0).keep F34 (djB nin_g28_G1)).keep F37 dj0
  have nin_g38_G1 := new_nin HE1.lt le42
  have nin_g38_F2 := new_nin HL2.lt le42
  have nin_g38_G2 := new_nin HE2.lt le42
  have HA := ((HA.step0 F30).step F34 (inSR ge_HA_g28 inS0)).step0 F37
  have ge_HA_g38 := Nat.le_trans HA.size le42
  refine Zs g38 0 [J b_.seq, J b_.start, .slice A2 xs2.length c2] #[J b_.seq, J b_.start, .slice A2 xs2.length c2] HB41 ?_
  intro w43 HB45 F44 _
  refine Zr 1 [(7, .bool true)] <| Zdn <| Zq <| Zsg <| Zr 2 [(24, .bool false), (23, .bool true)] <| Zdn <| ZF <| Zk <| Zq ?_
  have hx21_ : xs2.length = xs1.length := by rw [← rws_len, ← rws_len, hx2_, hx1_]
  rw [hx21_] at HB45
  have HB35 := (HB35.k F40).j F44 ne_g28_g38
  refine WE.region <| Zr 6 [(41, .bool true), (40, .bool true), (39, .bool true), (38, .nilIface), (37, .bool true), (36, .bool true)] <| Zlb 42 [J b_.seq, J b_.start, .slice A1 xs1.length c1] g28 0 (same HB35) <| Zlb 43 [J b_.seq, J b_.start, .slice A2 xs1.length c2] g38 0 (same HB45) ?_
  obtain ⟨hxn_, hxa_⟩ := got_facts hgp_ hx1_
  have HL1 := (HL1.keep F40 dj0).keep F44 (djB nin_g38_F1)
  have HE1 := (HE1.keep F40 dj0).keep F44 (djB nin_g38_G1)
  have HL2 := (HL2.keep F40 dj0).keep F44 (djB nin_g38_F2)
  have HE2 := (HE2.keep F40 dj0).keep F44 (djB nin_g38_G2)
  refine Zc 44 (same_b b_.seq b_.start xs1 xs2 A1 A2 xs1.length c1 c2 F1 F2 G1 G2 _ (by rw [hx1_, hx2_]) HL1 HE1 rfl HL2 HE2 hx21_ (by omega) (fun x h_ => by have := (hxa_ x h_).2.1; omega)) ?_
  rintro _ w46 ⟨rfl, F47⟩
  have HA := ((HA.step0 F40).step F44 (inSR ge_HA_g38 inS0)).step0 F47
  refine ⟨_, rfl, trivial, Zr 2 [(2, .bool true), (45, .bool true)] <| Zdn <| WE.ret <| ZR (.bool true) ?_⟩
  exact ⟨rfl, HA⟩
set_option maxRecDepth 100000 in
set_option maxHeartbeats 400000 in
theorem back_any (seq start : Int) (xs : List RX) (A : Option Addr) (n cp : Nat) (F FE : List Nat) (A9 : Option Addr) (n9 cp9 : Nat) (l : L) (FB : List Nat) (w : World) (HL : VX cW 8 w F A xs) (HE : EV w FE xs) (hn : xs.length = n) (hnn : n ≤ 9223372036854775807) (hkl0 : ∀ x ∈ xs, x.1.key.length ≤ 9223372036854775807) (hbl : ∀ x ∈ xs, x.1.bk.length ≤ 9223372036854775807) (hin : ∀ x ∈ xs, x.1.In) (HV : VX cB 1 w FB A9 l) (hn9 : l.length = n9) (hc9 : n9 ≤ cp9) (hnn9 : n9 ≤ 9223372036854775807) (HS : VarI w "strconv.ErrSyntax") (HR : VarI w "strconv.ErrRange") (HTab : Lib.TabIs Tryz.prog w "internal/strconv.uint64pow10" .u64 Lib.pow10Tab) (HM : MaxI w) :
    Calls Tryz.prog 5 #[.agg #[.int .i64 seq, .int .i64 start, .slice A n cp], .slice A9 n9 cp9] w fun e w' => e = .returned (.bool true) ∧ Fr [] w w' := by
 have HA := Fr.refl [] w
 refine Zen (N := 75) Tryz.func5 (c := _) [(0, .agg #[J seq, J start, .slice A n cp]), (1, .slice A9 n9 cp9)] <| Zsg <| Zb 2 #[J seq, J start, .slice A n cp] 24 (fun g => Pt g 0) ?_
 intro g1 w2 HB4 F3 le5 _
 have HS := HS.k F3
 have HR := HR.k F3
 have HTab := HTab.k F3
 have HM := HM.k F3
 refine Zr 1 [(4, .bool false)] <| Zdn <| Zsg <| Zc 15 (up7_any _ HS HR HTab HM) ?_
 rintro _ w6 ⟨rfl, F7⟩
 have HB4 := HB4.k F7
 have HL := (HL.keep F3 dj0).keep F7 dj0
 refine ⟨_, rfl, trivial, Zr 1 [(5, .bool true)] <| Zdn <| Zsg <| Zlb 16 [J seq, J start, .slice A n cp] g1 0 (same HB4) <| Zc 17 (few_b seq start xs A n cp F _ HL hn hnn hkl0 hbl) ?_⟩
 rintro _ w8 ⟨rfl, F9⟩
 have HA := ((HA.step0 F3).step0 F7).step0 F9
 refine ⟨_, rfl, trivial, ?_⟩
 rcases Bool.eq_false_or_eq_true (fewX xs) with hfew | hfew
 ·
  rw [hfew]
  have hkl := few_key hfew
  have hn250_ := (fewX_iff.1 hfew).2
  refine Zr 1 [(6, .bool true)] <| Zdn <| Zq <| Zsg <| Zr 5 [(22, J (n9 : Int)), (21, .slice A9 n9 cp9), (20, .bool false), (19, .bool false), (18, .bool true)] <| ZoP 23 (((n9 : Int) : Int) > (20000 : Int)) ?_ ?_
  ·
   intro h10
   refine Zr 1 [(24, .bool true)] <| Zdn <| ZT <| Zsg <| Zr 2 [(4, .bool true), (25, .bool true)] <| Zdn <| WE.ret <| WQ.thenR <| ZR (.bool true) ?_
   exact ⟨rfl, HA⟩
  intro h10
  have HB4 := HB4.k F9
  have HE := ((HE.keep F3 dj0).keep F7 dj0).keep F9 dj0
  have HV := ((HV.keep F3 dj0).keep F7 dj0).keep F9 dj0
  have HS := (HS.k F7).k F9
  have HR := (HR.k F7).k F9
  have HTab := (HTab.k F7).k F9
  have HM := (HM.k F7).k F9
  refine Zr 1 [(24, .bool false)] <| Zdn <| ZF <| Zk <| Zsg <| Zlb 27 [J seq, J start, .slice A n cp] g1 0 (same HB4) ?_
  rcases Bool.eq_false_or_eq_true (mayB (⟨seq, start, rws xs⟩ : Bt)) with hmay | hmay
  ·
   have HL := HL.keep F9 dj0
   refine Zc 28 (put_okI seq start xs A n cp F FE _ HL HE hn hnn hkl hbl HS HR HTab HM hmay hin) ?_
   rintro _ w11 ⟨A1_, c1_, F1_, rfl, HO1_, hg1_, F12⟩
   refine ⟨_, rfl, trivial, ?_⟩
   have hg1r_ := fun y hy => Or.inr (a := y ∈ ([] : List Nat)) (hg1_ y hy)
   have HV1_ := VX.of_own HO1_
   have hcw1_ := own_cap HO1_ (List.length_map _)
   refine Zr 5 [(8, .nilIface), (7, .slice A1_ ((encB (⟨seq, start, rws xs⟩ : Bt)).length) c1_), (30, .nilIface), (29, .slice A1_ ((encB (⟨seq, start, rws xs⟩ : Bt)).length) c1_), (26, .tuple #[.slice A1_ ((encB (⟨seq, start, rws xs⟩ : Bt)).length) c1_, .nilIface])] <| Zdn <| Zq <| Zsg <| Zr 2 [(32, .bool true), (31, .nilIface)] <| Zdn <| ZT <| Zsg <| Zr 1 [(34, .slice A1_ ((encB (⟨seq, start, rws xs⟩ : Bt)).length) c1_)] ?_
   have hlb_ := encB_len hmay (in_rws hin)
   have HS := HS.k F12
   have HR := HR.k F12
   have HTab := HTab.k F12
   have HM := HM.k F12
   refine Zc 35 (get_f A1_ (encB (⟨seq, start, rws xs⟩ : Bt)).length c1_ (encB (⟨seq, start, rws xs⟩ : Bt)) F1_ _ HV1_ rfl hcw1_ (by omega) HS HR HTab HM) ?_
   intro e_ w13 hr_
   rw [get_fwd hmay (in_rws hin)] at hr_
   obtain ⟨xs3, A3, c3, F3, G3, rfl, hx3_, hcx3_, HL3, HE3, hdj3_, hgF3_, hgG3_, F14⟩ := hr_
   refine ⟨_, rfl, trivial, ?_⟩
   have hgF3r_ := fun y hy => Or.inr (a := y ∈ ([] : List Nat)) (hgF3_ y hy)
   have hgG3r_ := fun y hy => Or.inr (a := y ∈ ([] : List Nat)) (hgG3_ y hy)
   dsimp only at hx3_
   refine Zr 3 [(37, .nilIface), (36, .agg #[J seq, J start, .slice A3 xs3.length c3]), (33, .tuple #[.agg #[J seq, J start, .slice A3 xs3.length c3], .nilIface])] <| Zb 9 #[J 0, J 0, .slice none 0 0] 24 (fun g => Pt g 0) ?_
   intro g15 w16 HB18 F17 le19 _
   have HB4 := (HB4.k F12).k F14
   have ne_g1_g15 := ltn HB4.lt le19
   have HL := (HL.keep F12 dj0).keep F14 dj0
   have nin_g15_F := new_nin HL.lt le19
   have HE := (HE.keep F12 dj0).keep F14 dj0
   have nin_g15_FE := new_nin HE.lt le19
   have HV := (HV.keep F12 dj0).keep F14 dj0
   have nin_g15_FB := new_nin HV.lt le19
   have nin_g15_F3 := new_nin HL3.lt le19
   have nin_g15_G3 := new_nin HE3.lt le19
   have HS := HS.k F14
   have ne_1_g15 : 1 ≠ g15 := Nat.ne_of_lt (Nat.lt_of_lt_of_le (var_lt 1 (by kernel_rfl) HS) le19)
   have HR := HR.k F14
   have ne_2_g15 : 2 ≠ g15 := Nat.ne_of_lt (Nat.lt_of_lt_of_le (var_lt 2 (by kernel_rfl) HR) le19)
   have HTab := HTab.k F14
   have ne_3_g15 : 3 ≠ g15 := Nat.ne_of_lt (Nat.lt_of_lt_of_le (tab_lt HTab) le19)
   have HM := HM.k F14
   have ne_0_g15 : 0 ≠ g15 := Nat.ne_of_lt (Nat.lt_of_lt_of_le (max_lt HM) le19)
   have HA := (HA.step0 F12).step0 F14
   have ge_HA_g15 := Nat.le_trans HA.size le19
   refine Zs g15 0 [J seq, J start, .slice A3 xs3.length c3] #[J seq, J start, .slice A3 xs3.length c3] HB18 ?_
   intro w20 HB22 F21 _
   refine Zr 1 [(10, .nilIface)] <| Zdn <| Zq ?_
   have h3n_ : xs3.length = n := by rw [← rws_len, hx3_, rws_len, hn]
   rw [h3n_] at HB22
   have HB4 := (HB4.k F17).j F21 ne_g1_g15
   refine WE.region <| Zr 3 [(40, .bool false), (39, .bool false), (38, .nilIface)] <| Zlb 41 [J seq, J start, .slice A3 n c3] g15 0 (same HB22) <| Zlb 42 [J seq, J start, .slice A n cp] g1 0 (same HB4) ?_
   have hbl3_ : ∀ x ∈ xs3, x.1.bk.length ≤ 9223372036854775807 := fun x h_ => by have := rowOk_iff.1 (mayB_row hmay (r := x.1) (by rw [← hx3_]; exact List.mem_map.2 ⟨x, h_, rfl⟩)); omega
   have HL := (HL.keep F17 dj0).keep F21 (djB nin_g15_F)
   have HE := (HE.keep F17 dj0).keep F21 (djB nin_g15_FE)
   have HL3 := (HL3.keep F17 dj0).keep F21 (djB nin_g15_F3)
   have HE3 := (HE3.keep F17 dj0).keep F21 (djB nin_g15_G3)
   refine Zc 43 (same_b seq start xs3 xs A3 A n c3 cp F3 F G3 FE _ hx3_.symm HL3 HE3 h3n_ HL HE hn hnn hbl3_) ?_
   rintro _ w23 ⟨rfl, F24⟩
   have HV := ((HV.keep F17 dj0).keep F21 (djB nin_g15_FB)).keep F24 dj0
   have HS := (var_keep 1 (by kernel_rfl) (HS.k F17) F21 (ninC ne_1_g15 (nin0 _))).k F24
   have HR := (var_keep 2 (by kernel_rfl) (HR.k F17) F21 (ninC ne_2_g15 (nin0 _))).k F24
   have HTab := (tab_keep (HTab.k F17) F21 (ninC ne_3_g15 (nin0 _))).k F24
   have HM := (max_keep (HM.k F17) F21 (ninC ne_0_g15 (nin0 _))).k F24
   have HA := ((HA.step0 F17).step F21 (inSR ge_HA_g15 inS0)).step0 F24
   refine ⟨_, rfl, trivial, Zr 2 [(45, .bool false), (44, .bool false)] <| Zdn <| ZF <| Zk <| Zsg <| Zr 1 [(47, .slice A9 n9 cp9)] ?_⟩
   cases hgp_ : getP l
   ·
    refine Zc 48 (get_f A9 n9 cp9 l FB _ HV hn9 hc9 (by omega) HS HR HTab HM) ?_
    intro e_ w25 hr_
    rw [hgp_] at hr_
    obtain ⟨rfl, F26⟩ := hr_
    refine ⟨_, rfl, trivial, Zr 3 [(50, .iface 32 (J 2)), (49, .agg #[J 0, J 0, .slice none 0 0]), (46, .tuple #[.agg #[J 0, J 0, .slice none 0 0], .iface 32 (J 2)])] <| Zb 11 #[J 0, J 0, .slice none 0 0] 24 (fun g => Pt g 0) ?_⟩
    intro g27 w28 HB30 F29 le31 _
    have HA := HA.step0 F26
    have ge_HA_g27 := Nat.le_trans HA.size le31
    refine Zs g27 0 [J 0, J 0, .slice none 0 0] #[J 0, J 0, .slice none 0 0] HB30 ?_
    intro w32 HB34 F33 _
    have HA := (HA.step0 F29).step F33 (inSR ge_HA_g27 inS0)
    refine Zr 1 [(12, .iface 32 (J 2))] <| Zdn <| Zq <| Zsg <| Zr 2 [(52, .bool true), (51, .iface 32 (J 2))] <| Zdn <| ZT <| Zsg <| Zr 2 [(4, .bool true), (53, .bool true)] <| Zdn <| WE.ret <| WQ.thenR <| ZR (.bool true) ?_
    exact ⟨rfl, HA⟩
   ·
    rename_i b_
    refine Zc 48 (get_f A9 n9 cp9 l FB _ HV hn9 hc9 (by omega) HS HR HTab HM) ?_
    intro e_ w35 hr_
    rw [hgp_] at hr_
    obtain ⟨xs4, A4, c4, F4, G4, rfl, hx4_, hcx4_, HL4, HE4, hdj4_, hgF4_, hgG4_, F36⟩ := hr_
    refine ⟨_, rfl, trivial, ?_⟩
    have hgF4r_ := fun y hy => Or.inr (a := y ∈ ([] : List Nat)) (hgF4_ y hy)
    have hgG4r_ := fun y hy => Or.inr (a := y ∈ ([] : List Nat)) (hgG4_ y hy)
    refine Zr 3 [(50, .nilIface), (49, .agg #[J b_.seq, J b_.start, .slice A4 xs4.length c4]), (46, .tuple #[.agg #[J b_.seq, J b_.start, .slice A4 xs4.length c4], .nilIface])] <| Zb 11 #[J 0, J 0, .slice none 0 0] 24 (fun g => Pt g 0) ?_
    intro g37 w38 HB40 F39 le41 _
    have HV := HV.keep F36 dj0
    have nin_g37_FB := new_nin HV.lt le41
    have nin_g37_F4 := new_nin HL4.lt le41
    have nin_g37_G4 := new_nin HE4.lt le41
    have HS := HS.k F36
    have ne_1_g37 : 1 ≠ g37 := Nat.ne_of_lt (Nat.lt_of_lt_of_le (var_lt 1 (by kernel_rfl) HS) le41)
    have HR := HR.k F36
    have ne_2_g37 : 2 ≠ g37 := Nat.ne_of_lt (Nat.lt_of_lt_of_le (var_lt 2 (by kernel_rfl) HR) le41)
    have HTab := HTab.k F36
    have ne_3_g37 : 3 ≠ g37 := Nat.ne_of_lt (Nat.lt_of_lt_of_le (tab_lt HTab) le41)
    have HM := HM.k F36
    have ne_0_g37 : 0 ≠ g37 := Nat.ne_of_lt (Nat.lt_of_lt_of_le (max_lt HM) le41)
    have HA := HA.step0 F36
    have ge_HA_g37 := Nat.le_trans HA.size le41
    refine Zs g37 0 [J b_.seq, J b_.start, .slice A4 xs4.length c4] #[J b_.seq, J b_.start, .slice A4 xs4.length c4] HB40 ?_
    intro w42 HB44 F43 _
    refine Zr 1 [(12, .nilIface)] <| Zdn <| Zq <| Zsg <| Zr 2 [(52, .bool false), (51, .nilIface)] <| Zdn <| ZF <| Zk <| Zsg <| Zlb 55 [J b_.seq, J b_.start, .slice A4 xs4.length c4] g37 0 (same HB44) ?_
    have hmz_ : mayB ⟨b_.seq, b_.start, rws xs4⟩ = true := by rw [hx4_]; exact (get_bwd hgp_).1
    obtain ⟨hxn_, hxa_⟩ := got_facts hgp_ hx4_
    have hez_ : encB ⟨b_.seq, b_.start, rws xs4⟩ = l := by rw [hx4_]; exact (get_bwd hgp_).2.1
    have HL4 := (HL4.keep F39 dj0).keep F43 (djB nin_g37_F4)
    have HE4 := (HE4.keep F39 dj0).keep F43 (djB nin_g37_G4)
    have HS := var_keep 1 (by kernel_rfl) (HS.k F39) F43 (ninC ne_1_g37 (nin0 _))
    have HR := var_keep 2 (by kernel_rfl) (HR.k F39) F43 (ninC ne_2_g37 (nin0 _))
    have HTab := tab_keep (HTab.k F39) F43 (ninC ne_3_g37 (nin0 _))
    have HM := max_keep (HM.k F39) F43 (ninC ne_0_g37 (nin0 _))
    refine Zc 56 (put_okI b_.seq b_.start xs4 A4 xs4.length c4 F4 G4 _ HL4 HE4 rfl (by omega) (fun x h_ => by have := (hxa_ x h_).1; omega) (fun x h_ => by have := (hxa_ x h_).2.1; omega) HS HR HTab HM hmz_ (fun x h_ => (hxa_ x h_).2.2)) ?_
    intro e_ w45 hr_
    rw [hez_] at hr_
    revert hr_
    revert w45
    revert e_
    rintro _ w45 ⟨A5_, c5_, F5_, rfl, HO5_, hg5_, F46⟩
    refine ⟨_, rfl, trivial, ?_⟩
    have hg5r_ := fun y hy => Or.inr (a := y ∈ ([] : List Nat)) (hg5_ y hy)
    have HV5_ := VX.of_own HO5_
    have hcw5_ := own_cap HO5_ (List.length_map _)
    have HB44 := HB44.k F46
    have HL4 := HL4.keep F46 dj0
    have HE4 := HE4.keep F46 dj0
    have HS := HS.k F46
    have HR := HR.k F46
    have HTab := HTab.k F46
    have HM := HM.k F46
    refine Zr 5 [(14, .nilIface), (13, .slice A5_ l.length c5_), (58, .nilIface), (57, .slice A5_ l.length c5_), (54, .tuple #[.slice A5_ l.length c5_, .nilIface])] <| Zdn <| Zsg <| Zr 6 [(64, .bool true), (63, .bool true), (62, .bool true), (61, .nilIface), (60, .bool true), (59, .bool true)] <| Zlb 65 [J b_.seq, J b_.start, .slice A4 xs4.length c4] g37 0 (same HB44) <| Zc 66 (may_l b_.seq b_.start xs4 A4 xs4.length c4 F4 G4 _ HL4 HE4 rfl (by omega) (fun x h_ => by have := (hxa_ x h_).1; omega) (fun x h_ => by have := (hxa_ x h_).2.1; omega) HS HR HTab HM) ?_
    rintro _ w47 ⟨rfl, F48⟩
    rw [hmz_]
    have HV5_ := HV5_.keep F48 dj0
    have HV := (((HV.keep F39 dj0).keep F43 (djB nin_g37_FB)).keep F46 dj0).keep F48 dj0
    have HA := (((HA.step0 F39).step F43 (inSR ge_HA_g37 inS0)).step0 F46).step0 F48
    refine ⟨_, rfl, trivial, Zr 3 [(69, .slice A5_ l.length c5_), (68, .bool true), (67, .bool true)] <| Zt (v := .slice A5_ l.length c5_) (n := l.length) 70 Wire.byt l (rfl : List.length l = _) (same (HV5_.srcN (rfl : List.length l = _) (cB_len _) (cB_one _) c5_)) <| Zr 1 [(71, .slice A9 n9 cp9)] <| Zt (v := .slice A9 n9 cp9) (n := n9) 72 Wire.byt l hn9 (same (HV.srcN hn9 (cB_len _) (cB_one _) cp9)) <| Zo 73 (.bool ((str l).toList == (str l).toList)) <| WO.top (v' := .bool (decide ((str l) = (str l)))) (congrArg Value.bool (streq (str l) (str l))) <| Zr 2 [(4, .bool (decide ((str l) = (str l)))), (74, .bool (decide ((str l) = (str l))))] <| Zdn <| WE.ret <| ZR (.bool (decide ((str l) = (str l)))) ?_⟩
    exact ⟨by simp, HA⟩
  ·
   have HL := HL.keep F9 dj0
   refine Zcf 28 (put_no seq start xs A n cp F FE _ HL HE hn hnn hkl hbl HS HR HTab HM hmay) ?_
   intro w49 F50
   refine Zr 5 [(8, .iface 32 (J 1)), (7, .slice none 0 0), (30, .iface 32 (J 1)), (29, .slice none 0 0), (26, .tuple #[.slice none 0 0, .iface 32 (J 1)])] <| Zdn <| Zq <| Zsg <| Zr 2 [(32, .bool false), (31, .iface 32 (J 1))] <| Zdn <| ZF <| Zk <| Zsg <| Zr 1 [(47, .slice A9 n9 cp9)] ?_
   cases hgp_ : getP l
   ·
    have HV := HV.keep F50 dj0
    have HS := HS.k F50
    have HR := HR.k F50
    have HTab := HTab.k F50
    have HM := HM.k F50
    refine Zc 48 (get_f A9 n9 cp9 l FB _ HV hn9 hc9 (by omega) HS HR HTab HM) ?_
    intro e_ w51 hr_
    rw [hgp_] at hr_
    obtain ⟨rfl, F52⟩ := hr_
    refine ⟨_, rfl, trivial, Zr 3 [(50, .iface 32 (J 2)), (49, .agg #[J 0, J 0, .slice none 0 0]), (46, .tuple #[.agg #[J 0, J 0, .slice none 0 0], .iface 32 (J 2)])] <| Zb 11 #[J 0, J 0, .slice none 0 0] 24 (fun g => Pt g 0) ?_⟩
    intro g53 w54 HB56 F55 le57 _
    have HA := (HA.step0 F50).step0 F52
    have ge_HA_g53 := Nat.le_trans HA.size le57
    refine Zs g53 0 [J 0, J 0, .slice none 0 0] #[J 0, J 0, .slice none 0 0] HB56 ?_
    intro w58 HB60 F59 _
    have HA := (HA.step0 F55).step F59 (inSR ge_HA_g53 inS0)
    refine Zr 1 [(12, .iface 32 (J 2))] <| Zdn <| Zq <| Zsg <| Zr 2 [(52, .bool true), (51, .iface 32 (J 2))] <| Zdn <| ZT <| Zsg <| Zr 2 [(4, .bool true), (53, .bool true)] <| Zdn <| WE.ret <| WQ.thenR <| ZR (.bool true) ?_
    exact ⟨rfl, HA⟩
   ·
    rename_i b_
    have HV := HV.keep F50 dj0
    have HS := HS.k F50
    have HR := HR.k F50
    have HTab := HTab.k F50
    have HM := HM.k F50
    refine Zc 48 (get_f A9 n9 cp9 l FB _ HV hn9 hc9 (by omega) HS HR HTab HM) ?_
    intro e_ w61 hr_
    rw [hgp_] at hr_
    obtain ⟨xs4, A4, c4, F4, G4, rfl, hx4_, hcx4_, HL4, HE4, hdj4_, hgF4_, hgG4_, F62⟩ := hr_
    refine ⟨_, rfl, trivial, ?_⟩
    have hgF4r_ := fun y hy => Or.inr (a := y ∈ ([] : List Nat)) (hgF4_ y hy)
    have hgG4r_ := fun y hy => Or.inr (a := y ∈ ([] : List Nat)) (hgG4_ y hy)
    refine Zr 3 [(50, .nilIface), (49, .agg #[J b_.seq, J b_.start, .slice A4 xs4.length c4]), (46, .tuple #[.agg #[J b_.seq, J b_.start, .slice A4 xs4.length c4], .nilIface])] <| Zb 11 #[J 0, J 0, .slice none 0 0] 24 (fun g => Pt g 0) ?_
    intro g63 w64 HB66 F65 le67 _
    have HV := HV.keep F62 dj0
    have nin_g63_FB := new_nin HV.lt le67
    have nin_g63_F4 := new_nin HL4.lt le67
    have nin_g63_G4 := new_nin HE4.lt le67
    have HS := HS.k F62
    have ne_1_g63 : 1 ≠ g63 := Nat.ne_of_lt (Nat.lt_of_lt_of_le (var_lt 1 (by kernel_rfl) HS) le67)
    have HR := HR.k F62
    have ne_2_g63 : 2 ≠ g63 := Nat.ne_of_lt (Nat.lt_of_lt_of_le (var_lt 2 (by kernel_rfl) HR) le67)
    have HTab := HTab.k F62
    have ne_3_g63 : 3 ≠ g63 := Nat.ne_of_lt (Nat.lt_of_lt_of_le (tab_lt HTab) le67)
    have HM := HM.k F62
    have ne_0_g63 : 0 ≠ g63 := Nat.ne_of_lt (Nat.lt_of_lt_of_le (max_lt HM) le67)
    have HA := (HA.step0 F50).step0 F62
    have ge_HA_g63 := Nat.le_trans HA.size le67
    refine Zs g63 0 [J b_.seq, J b_.start, .slice A4 xs4.length c4] #[J b_.seq, J b_.start, .slice A4 xs4.length c4] HB66 ?_
    intro w68 HB70 F69 _
    refine Zr 1 [(12, .nilIface)] <| Zdn <| Zq <| Zsg <| Zr 2 [(52, .bool false), (51, .nilIface)] <| Zdn <| ZF <| Zk <| Zsg <| Zlb 55 [J b_.seq, J b_.start, .slice A4 xs4.length c4] g63 0 (same HB70) ?_
    have hmz_ : mayB ⟨b_.seq, b_.start, rws xs4⟩ = true := by rw [hx4_]; exact (get_bwd hgp_).1
    obtain ⟨hxn_, hxa_⟩ := got_facts hgp_ hx4_
    have hez_ : encB ⟨b_.seq, b_.start, rws xs4⟩ = l := by rw [hx4_]; exact (get_bwd hgp_).2.1
    have HL4 := (HL4.keep F65 dj0).keep F69 (djB nin_g63_F4)
    have HE4 := (HE4.keep F65 dj0).keep F69 (djB nin_g63_G4)
    have HS := var_keep 1 (by kernel_rfl) (HS.k F65) F69 (ninC ne_1_g63 (nin0 _))
    have HR := var_keep 2 (by kernel_rfl) (HR.k F65) F69 (ninC ne_2_g63 (nin0 _))
    have HTab := tab_keep (HTab.k F65) F69 (ninC ne_3_g63 (nin0 _))
    have HM := max_keep (HM.k F65) F69 (ninC ne_0_g63 (nin0 _))
    refine Zc 56 (put_okI b_.seq b_.start xs4 A4 xs4.length c4 F4 G4 _ HL4 HE4 rfl (by omega) (fun x h_ => by have := (hxa_ x h_).1; omega) (fun x h_ => by have := (hxa_ x h_).2.1; omega) HS HR HTab HM hmz_ (fun x h_ => (hxa_ x h_).2.2)) ?_
    intro e_ w71 hr_
    rw [hez_] at hr_
    revert hr_
    revert w71
    revert e_
    rintro _ w71 ⟨A5_, c5_, F5_, rfl, HO5_, hg5_, F72⟩
    refine ⟨_, rfl, trivial, ?_⟩
    have hg5r_ := fun y hy => Or.inr (a := y ∈ ([] : List Nat)) (hg5_ y hy)
    have HV5_ := VX.of_own HO5_
    have hcw5_ := own_cap HO5_ (List.length_map _)
    have HB70 := HB70.k F72
    have HL4 := HL4.keep F72 dj0
    have HE4 := HE4.keep F72 dj0
    have HS := HS.k F72
    have HR := HR.k F72
    have HTab := HTab.k F72
    have HM := HM.k F72
    refine Zr 5 [(14, .nilIface), (13, .slice A5_ l.length c5_), (58, .nilIface), (57, .slice A5_ l.length c5_), (54, .tuple #[.slice A5_ l.length c5_, .nilIface])] <| Zdn <| Zsg <| Zr 6 [(64, .bool true), (63, .bool true), (62, .bool true), (61, .nilIface), (60, .bool true), (59, .bool true)] <| Zlb 65 [J b_.seq, J b_.start, .slice A4 xs4.length c4] g63 0 (same HB70) <| Zc 66 (may_l b_.seq b_.start xs4 A4 xs4.length c4 F4 G4 _ HL4 HE4 rfl (by omega) (fun x h_ => by have := (hxa_ x h_).1; omega) (fun x h_ => by have := (hxa_ x h_).2.1; omega) HS HR HTab HM) ?_
    rintro _ w73 ⟨rfl, F74⟩
    rw [hmz_]
    have HV5_ := HV5_.keep F74 dj0
    have HV := (((HV.keep F65 dj0).keep F69 (djB nin_g63_FB)).keep F72 dj0).keep F74 dj0
    have HA := (((HA.step0 F65).step F69 (inSR ge_HA_g63 inS0)).step0 F72).step0 F74
    refine ⟨_, rfl, trivial, Zr 3 [(69, .slice A5_ l.length c5_), (68, .bool true), (67, .bool true)] <| Zt (v := .slice A5_ l.length c5_) (n := l.length) 70 Wire.byt l (rfl : List.length l = _) (same (HV5_.srcN (rfl : List.length l = _) (cB_len _) (cB_one _) c5_)) <| Zr 1 [(71, .slice A9 n9 cp9)] <| Zt (v := .slice A9 n9 cp9) (n := n9) 72 Wire.byt l hn9 (same (HV.srcN hn9 (cB_len _) (cB_one _) cp9)) <| Zo 73 (.bool ((str l).toList == (str l).toList)) <| WO.top (v' := .bool (decide ((str l) = (str l)))) (congrArg Value.bool (streq (str l) (str l))) <| Zr 2 [(4, .bool (decide ((str l) = (str l)))), (74, .bool (decide ((str l) = (str l))))] <| Zdn <| WE.ret <| ZR (.bool (decide ((str l) = (str l)))) ?_⟩
    exact ⟨by simp, HA⟩
 ·
  rw [hfew]
  refine Zr 1 [(6, .bool false)] <| Zdn <| Zq <| Zsg <| Zr 7 [(24, .bool true), (23, undef), (22, undef), (21, undef), (20, .bool true), (19, .bool true), (18, .bool false)] <| Zdn <| ZT <| Zsg <| Zr 2 [(4, .bool true), (25, .bool true)] <| Zdn <| WE.ret <| WQ.thenR <| ZR (.bool true) ?_
  exact ⟨rfl, HA⟩
end Go.Proofs.YtdhonbahpcmmnaaGreatDoor.Bat
end
section
set_option linter.unusedVariables false
namespace Go.Proofs.YtdhonbahpcmmnaaGreatDoor.Opens
open Go.ChangeShapes Go.WideShapes Go.RowKit Go.Proofs.YtdhonbahpcmmnaaGreatDoorW.PrintWords Go.Proofs.YtdhonbahpcmmnaaGreatDoorW.PrintLast
def Opens (P : Program) {α : Type} (d : Kd α) (good : α → Prop) (t : TypeId) : Prop :=
 ∀ (H : Type) (enc : TypeId × Value → H) (W : World) (base : Nat) (spare : Nat → Bool) (held : Bool) (fuel : Nat) (cs : List Value) (x : DataW H × List MemPlace),
  DataW.trod enc P W base spare held fuel t cs = some x → ∃ a, d.K W a cs ∧ good a
theorem opens_int {P : Program} {t : TypeId} {k : IntKind} (ht : P.underlying t = some (.int k)) : Opens P (Kd.int k) (fun x => (Lit.int k x).wf = true) t := by
 intro H enc W base spare held fuel cs x h
 obtain ⟨n, rfl, _, hw⟩ := DataW.trod_int ht h
 exact ⟨n, rfl, hw⟩
theorem opens_bool {P : Program} {t : TypeId} (ht : P.underlying t = some .bool) : Opens P Kd.bool (fun _ => True) t := by
 intro H enc W base spare held fuel cs x h
 obtain ⟨b, rfl, _⟩ := DataW.trod_bool ht h
 exact ⟨b, rfl, trivial⟩
theorem opens_string {P : Program} {t : TypeId} (ht : P.underlying t = some .string) : Opens P Kd.string (fun s => s.size ≤ 9223372036854775807) t := by
 intro H enc W base spare held fuel cs x h
 obtain ⟨s, rfl, _, hs⟩ := DataW.trod_string ht h
 exact ⟨s, rfl, hs⟩
theorem opens_slice {P : Program} {t e : TypeId} {α : Type} {d : Kd α} {good : α → Prop} (ht : P.underlying t = some (.slice e)) (hc : P.cellsOf e = d.sz) (he : Opens P d good e) :
  Opens P (Kd.slice e d) (fun xs => xs.length ≤ 9223372036854775807 ∧ ∀ x ∈ xs, good x) t := by
 intro H enc W base spare held fuel cs x h
 rcases Go.Deep.open_slice ht h with ⟨rfl, _⟩ | ⟨a, len, cap, m, n, D, Pl, rfl, _, hl, hm, hmm, _, hx⟩
 ·
  exact ⟨[], ⟨none, 0, rfl, Nat.le_refl _, Kd.C_nil _ _⟩, by simp, fun x hx => by simp at hx⟩
 ·
  have hlm : len ≤ m := by rw [hmm]; split <;> omega
  have hone : ∀ i, i < len → ∃ (b : α) (cs' : List Value), W.cells? base (a.add (i * P.cellsOf e)) (P.cellsOf e) = some cs' ∧ d.K W b cs' ∧ good b := by
   intro i hi
   obtain ⟨cs', h1, h2⟩ := hx i (by omega)
   obtain ⟨b, hk, hg⟩ := he H enc W base spare held n cs' _ h2
   exact ⟨b, cs', h1, hk, hg⟩
  have hlist : ∀ j, j ≤ len → ∃ l : List α, l.length = j ∧ ∀ i b, l[i]? = some b → ∃ cs', W.cells? base (a.add (i * P.cellsOf e)) (P.cellsOf e) = some cs' ∧ d.K W b cs' ∧ good b := by
   intro j
   induction j with
   | zero => intro _; exact ⟨[], rfl, fun i b hb => by simp at hb⟩
   | succ j ih =>
    intro hj
    obtain ⟨l, hl1, hl2⟩ := ih (by omega)
    obtain ⟨b, cs', h1, h2, h3⟩ := hone j (by omega)
    refine ⟨l ++ [b], by simp [hl1], fun i b' hb => ?_⟩
    by_cases hi : i < j
    ·
     rw [List.getElem?_append_left (by omega)] at hb
     exact hl2 i b' hb
    ·
     have hij : i = j := by
      have := (List.getElem?_eq_some_iff.1 hb).1
      simp [hl1] at this
      omega
     subst hij
     rw [List.getElem?_append_right (by omega), hl1] at hb
     simp at hb
     subst hb
     exact ⟨cs', h1, h2, h3⟩
  obtain ⟨l, hl1, hl2⟩ := hlist len (Nat.le_refl _)
  unfold maxLen at hm
  refine ⟨l, ⟨some a, cap, by rw [hl1], by omega, rfl, by omega, fun _ => ⟨a, rfl, fun j p hp => ?_⟩⟩, by omega, fun y hy => ?_⟩
  ·
   obtain ⟨cs', h1, h2, _⟩ := hl2 j p hp
   obtain ⟨_, hlen, hcell⟩ := World.cells?_some h1
   refine ⟨cs', by rw [hlen, hc], h2, fun i u hu => ?_⟩
   rw [← hc]
   have hi : i < P.cellsOf e := by
    have := (List.getElem?_eq_some_iff.1 hu).1
    omega
   have := hcell i hi
   rw [← Go.Deep.add_add, this]
   exact hu
  ·
   obtain ⟨j, hj, rfl⟩ := List.getElem_of_mem hy
   obtain ⟨_, _, _, hg⟩ := hl2 j _ (List.getElem?_eq_getElem hj)
   exact hg
def OpensF (P : Program) {α : Type} (d : Kd α) (good : α → Prop) (fs : List Field) (off : Nat) : Prop :=
 ∀ (H : Type) (enc : TypeId × Value → H) (W : World) (base : Nat) (spare : Nat → Bool) (held : Bool) (fuel : Nat) (cs : List Value),
  (∀ f ∈ fs, ∃ y, DataW.trod enc P W base spare held fuel f.type ((cs.drop f.offset).take (P.cellsOf f.type)) = some y) → cs.length = off + d.sz → ∃ a, d.K W a (cs.drop off) ∧ good a
theorem opensF_one {P : Program} {α : Type} {d : Kd α} {good : α → Prop} {f : Field} {off : Nat} (ho : f.offset = off) (hc : P.cellsOf f.type = d.sz) (h : Opens P d good f.type) : OpensF P d good [f] off := by
 intro H enc W base spare held fuel cs hf hlen
 obtain ⟨y, hy⟩ := hf f (List.mem_singleton.2 rfl)
 rw [ho, hc, List.take_of_length_le (by simp; omega)] at hy
 exact h H enc W base spare held fuel _ _ hy
theorem opensF_cons {P : Program} {α β : Type} {d : Kd α} {d' : Kd β} {good : α → Prop} {good' : β → Prop} {f : Field} {fs : List Field} {off : Nat} (ho : f.offset = off) (hc : P.cellsOf f.type = d.sz) (h : Opens P d good f.type)
  (hr : OpensF P d' good' fs (off + d.sz)) : OpensF P (Kd.pair d d') (fun x => good x.1 ∧ good' x.2) (f :: fs) off := by
 intro H enc W base spare held fuel cs hf hlen
 have hlen' : cs.length = off + (d.sz + d'.sz) := hlen
 obtain ⟨y, hy⟩ := hf f List.mem_cons_self
 rw [ho, hc] at hy
 obtain ⟨a, ha, hga⟩ := h H enc W base spare held fuel _ _ hy
 obtain ⟨b, hb, hgb⟩ := hr H enc W base spare held fuel cs (fun f' hf' => hf f' (List.mem_cons_of_mem _ hf')) (by omega)
 refine ⟨(a, b), ⟨_, _, ?_, ha, hb⟩, hga, hgb⟩
 rw [← List.drop_drop, List.take_append_drop]
theorem opens_struct {P : Program} {α β : Type} {d : Kd α} {good : α → Prop} {t : TypeId} {fs : Array Field} (f : β → α) (g : α → β) (hfg : ∀ a, f (g a) = a) (ht : P.underlying t = some (.struct fs)) (hc : P.cellsOf t = d.sz) (h : OpensF P d good fs.toList 0) :
  Opens P (Kd.iso d f) (fun b => good (f b)) t := by
 intro H enc W base spare held fuel cs x hx
 obtain ⟨xs, n, rfl, _, hlen, hxl, hf⟩ := DataW.trod_struct ht hx
 obtain ⟨a, ha, hga⟩ := h H enc W base spare held n cs (fun fd hfd => by
  obtain ⟨i, hi, rfl⟩ := List.getElem_of_mem hfd
  have hi' : i < fs.size := by simpa using hi
  have h1 := hf i fs[i] (by simp [hi'])
  have h2 : i < xs.length := by omega
  rw [List.getElem?_eq_getElem h2] at h1
  exact ⟨_, by simpa using h1⟩) (by omega)
 refine ⟨g a, ?_, ?_⟩
 ·
  show d.K W (f (g a)) cs
  rw [hfg]
  simpa using ha
 ·
  show good (f (g a))
  rw [hfg]
  exact hga
theorem arg_slice {P : Program} {t e : TypeId} {α : Type} {d : Kd α} {good : α → Prop} (ht : P.underlying t = some (.slice e)) (hc : P.cellsOf e = d.sz) (he : Opens P d good e)
  {H : Type} {enc : TypeId × Value → H} {W : World} {base : Nat} {spare : Nat → Bool} {held : Bool} {a : Option Addr} {len cap : Nat} {x : DataW H} {ps : List MemPlace} (h : DataW.Trod enc P W base spare held t (.slice a len cap) x ps) :
  ∃ l : List α, l.length = len ∧ Kd.C d W a l.length l ∧ l.length ≤ cap ∧ (l.length ≤ 9223372036854775807 ∧ ∀ x ∈ l, good x) := by
 obtain ⟨fuel, hf⟩ := h
 obtain ⟨l, ⟨A, c, hcs, hl, hC⟩, hg⟩ := opens_slice ht hc he H enc W base spare held fuel _ _ hf
 simp [Value.cells] at hcs
 obtain ⟨rfl, rfl, rfl⟩ := hcs
 exact ⟨l, rfl, hC, hl, hg⟩
theorem arg_struct {P : Program} {t : TypeId} {α : Type} {d : Kd α} {good : α → Prop} {fs : Array Field} (ht : P.underlying t = some (.struct fs)) (ho : Opens P d good t)
  {H : Type} {enc : TypeId × Value → H} {W : World} {base b0 : Nat} {spare : Nat → Bool} {held : Bool} {r : Reach} {v : Value} {x : DataW H} {ps : List MemPlace} (hv : Value.okWide P W r b0 t v) (h : DataW.Trod enc P W base spare held t v x ps) :
  ∃ (a : α) (cs : List Value), v = .agg cs.toArray ∧ d.K W a cs ∧ good a := by
 obtain ⟨cs, rfl, hsz⟩ := okWide_struct ht hv
 obtain ⟨fuel, hf⟩ := h
 obtain ⟨a, ha, hg⟩ := ho H enc W base spare held fuel _ _ hf
 exact ⟨a, cs.toList, by simp, by simpa [Value.cells] using ha, hg⟩
end Go.Proofs.YtdhonbahpcmmnaaGreatDoor.Opens
end
section
set_option linter.unusedVariables false
set_option linter.unusedSimpArgs false
namespace Go.Proofs.YtdhonbahpcmmnaaGreatDoor.Views
open Go Go.RowKit Go.ChangeShapes Go.WideShapes Go.Proofs.YtdhonbahpcmmnaaGreatDoor Go.Proofs.YtdhonbahpcmmnaaGreatDoor.Eng Go.Proofs.YtdhonbahpcmmnaaGreatDoorW.PrintWords Go.Proofs.YtdhonbahpcmmnaaGreatDoorW.PrintLast
theorem of_C {α : Type} {d : Kd α} {cE : α → List Value} {w : World} {A : Option Addr} {l : List α} (hs : 0 < d.sz) (hK : ∀ x cs, d.K w x cs → cs = cE x) (h : Kd.C d w A l.length l) : ∃ F, VX cE d.sz w F A l := by
 obtain ⟨_, _, h3⟩ := h
 by_cases hp : 0 < l.length
 ·
  obtain ⟨ad, rfl, hc⟩ := h3 hp
  have hcell : ∀ i x, l[i]? = some x → ∀ j u, (cE x)[j]? = some u → w.cell? (ad.add (i * d.sz + j)) = some u := by
   intro i x hx j u hu
   obtain ⟨cs, _, hk, hcell⟩ := hc i x hx
   rw [hK x cs hk] at hcell
   exact hcell j u hu
  refine ⟨[ad.block], fun y hy => ?_, fun _ => ⟨ad, rfl, by simp, hcell⟩⟩
  obtain rfl : y = ad.block := by simpa using hy
  obtain ⟨cs, hl, hk, hcell2⟩ := hc 0 l[0] (List.getElem?_eq_getElem hp)
  have := World.block_lt_of_cell? w _ (hcell2 0 _ (List.getElem?_eq_getElem (by omega)))
  have hb : (ad.add (0 * d.sz + 0)).block = ad.block := by unfold Addr.add; split <;> rfl
  rwa [hb] at this
 ·
  obtain rfl : l = [] := List.length_eq_zero_iff.1 (by omega)
  exact ⟨[], VX.nil w A⟩
def byteK : Kd UInt8 := Kd.iso (Kd.int .u8) fun b => (b.toNat : Int)
theorem opens_byte {P : Program} {t : TypeId} (ht : P.underlying t = some (.int .u8)) : Opens.Opens P byteK (fun _ => True) t := by
 intro H enc W base spare held fuel cs x h
 obtain ⟨n, rfl, _, hw⟩ := DataW.trod_int ht h
 have hb : 0 ≤ n ∧ n ≤ 255 := by
  have := bounds_u8 hw
  omega
 refine ⟨UInt8.ofNat n.toNat, ?_, trivial⟩
 show (Kd.int .u8).K W (((UInt8.ofNat n.toNat).toNat : Nat) : Int) _
 have e : (((UInt8.ofNat n.toNat).toNat : Nat) : Int) = n := by
  rw [UInt8.toNat_ofNat']
  omega
 rw [e]
 rfl
theorem bytes {w : World} {A : Option Addr} {l : List UInt8} (h : Kd.C byteK w A l.length l) : ∃ F, VX cB 1 w F A l :=
 of_C (cE := cB) (by decide) (fun x cs hk => hk) h
end Go.Proofs.YtdhonbahpcmmnaaGreatDoor.Views
end
section
set_option linter.unusedVariables false
set_option linter.unusedSimpArgs false
namespace Go.Proofs.YtdhonbahpcmmnaaGreatDoor.Line
open Go Go.RowKit Go.ChangeShapes Go.WideShapes Go.Proofs.YtdhonbahpcmmnaaGreatDoor Go.Proofs.YtdhonbahpcmmnaaGreatDoor.Eng Go.Proofs.YtdhonbahpcmmnaaGreatDoorW.PrintWords Go.Proofs.YtdhonbahpcmmnaaGreatDoorW.PrintLast
end Go.Proofs.YtdhonbahpcmmnaaGreatDoor.Line
end
section
set_option linter.unusedVariables false
namespace Go.Proofs.YtdhonbahpcmmnaaGreatDoor.Line
open Go Go.RowKit Go.ChangeShapes Go.WideShapes Go.Proofs.YtdhonbahpcmmnaaGreatDoor Go.Proofs.YtdhonbahpcmmnaaGreatDoor.Eng Go.Proofs.YtdhonbahpcmmnaaGreatDoorW.PrintWords Go.Proofs.YtdhonbahpcmmnaaGreatDoorW.PrintLast
def MaxO (w : World) : Prop := ∃ m, w.cell? ⟨0, 0, none⟩ = some (.int .i64 m) ∧ ∃ cs t fz, w.heap[0]? = some (.cells cs t fz) ∧ cs.size = 1
abbrev SFacts (w : World) : Prop := VarI w "strconv.ErrSyntax" ∧ VarI w "strconv.ErrRange" ∧ Lib.TabIs Tryz.prog w "internal/strconv.uint64pow10" .u64 Lib.pow10Tab ∧ MaxO w
end Go.Proofs.YtdhonbahpcmmnaaGreatDoor.Line
end
