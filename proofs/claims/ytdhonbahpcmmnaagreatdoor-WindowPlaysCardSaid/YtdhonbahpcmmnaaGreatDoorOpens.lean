/- Layer 20: Code; the example. -/
import Derived.Test.YtdhonbahpcmmnaaGreatDoorWinX
import Derived.Test.YtdhonbahpcmmnaaGreatDoorEngC
import Derived.Test.YtdhonbahpcmmnaaGreatDoorWMore
import Derived.ChangeSlices
import Derived.SizedLaws
import Derived.WalkKit
import Derived.ProofKit
import Derived.Deep.Slices
section
set_option linter.unusedVariables false
set_option linter.unusedSimpArgs false
namespace Go.Proofs.YtdhonbahpcmmnaaGreatDoor.Bat
open Go Go.RowKit Go.Proofs.YtdhonbahpcmmnaaGreatDoor Go.Proofs.YtdhonbahpcmmnaaGreatDoor.Eng Go.Proofs.YtdhonbahpcmmnaaGreatDoorW.PrintWords
open Go.Proofs Go.Maps
open Go.Proofs.YtdhonbahpcmmnaaGreatDoor.Line
set_option maxRecDepth 100000 in
set_option maxHeartbeats 400000 in
theorem cdw_0 (w : World) :
    Calls Tryz.prog 28 #[.nilIface] w fun e w' => e = .returned (.int .i64 0) ∧ Fr [] w w' := by
 have HA := Fr.refl [] w
 refine Ze Tryz.func28 _ <| Zsg <| Zr 1 <| Zdn <| Zq <| Zsg <| Zr 2 <| Zdn <| ZT <| Zsg <| Zr 1 <| Zdn <| WE.ret <| WQ.thenR <| ZR (J 0) ?_
 exact ⟨rfl, HA⟩
set_option maxRecDepth 100000 in
set_option maxHeartbeats 400000 in
theorem cdw_1 (w : World) :
    Calls Tryz.prog 28 #[.iface 32 (.int .i64 1)] w fun e w' => e = .returned (.int .i64 1) ∧ Fr [] w w' := by
 have HA := Fr.refl [] w
 refine Ze Tryz.func28 _ <| Zsg <| Zr 1 <| Zdn <| Zq <| Zsg <| Zr 2 <| Zdn <| ZF <| Zk <| Zq <| Zsg <| Zr 1 <| Zdn <| WE.block <| WE.unroll <| WL.go <| Zq <| Zsg <| Zr 2 <| Zdn <| ZT <| Zk <| Zq <| WE.block <| Zsg <| Zr 4 <| Zdn <| ZT <| Zsg <| Zr 2 <| Zdn <| WE.ret <| WQ.blkR <| WQ.thenR <| WQ.thenR <| WQ.blkR <| WQ.thenR <| ZR (J 1) ?_
 exact ⟨rfl, HA⟩
set_option maxRecDepth 100000 in
set_option maxHeartbeats 400000 in
theorem cdw_6 (w : World) :
    Calls Tryz.prog 28 #[.iface 32 (.int .i64 6)] w fun e w' => e = .returned (.int .i64 6) ∧ Fr [] w w' := by
 have HA := Fr.refl [] w
 refine Ze Tryz.func28 _ <| Zsg <| Zr 1 <| Zdn <| Zq <| Zsg <| Zr 2 <| Zdn <| ZF <| Zk <| Zq <| Zsg <| Zr 1 <| Zdn <| WE.block <| WE.unroll <| WL.go <| Zq <| Zsg <| Zr 2 <| Zdn <| ZT <| Zk <| Zq <| WE.block <| Zsg <| Zr 4 <| Zdn <| ZF <| WE.skip <| WQ.blkN <| Zn <| WE.region <| Zr 3 <| Zd <| WQ.thenL <| WL.go <| Zq <| Zsg <| Zr 2 <| Zdn <| ZT <| Zk <| Zq <| WE.block <| Zsg <| Zr 4 <| Zdn <| ZF <| WE.skip <| WQ.blkN <| Zn <| WE.region <| Zr 3 <| Zd <| WQ.thenL <| WL.go <| Zq <| Zsg <| Zr 2 <| Zdn <| ZT <| Zk <| Zq <| WE.block <| Zsg <| Zr 4 <| Zdn <| ZF <| WE.skip <| WQ.blkN <| Zn <| WE.region <| Zr 3 <| Zd <| WQ.thenL <| WL.go <| Zq <| Zsg <| Zr 2 <| Zdn <| ZT <| Zk <| Zq <| WE.block <| Zsg <| Zr 4 <| Zdn <| ZF <| WE.skip <| WQ.blkN <| Zn <| WE.region <| Zr 3 <| Zd <| WQ.thenL <| WL.go <| Zq <| Zsg <| Zr 2 <| Zdn <| ZT <| Zk <| Zq <| WE.block <| Zsg <| Zr 4 <| Zdn <| ZF <| WE.skip <| WQ.blkN <| Zn <| WE.region <| Zr 3 <| Zd <| WQ.thenL <| WL.go <| Zq <| Zsg <| Zr 2 <| Zdn <| ZT <| Zk <| Zq <| WE.block <| Zsg <| Zr 4 <| Zdn <| ZT <| Zsg <| Zr 2 <| Zdn <| WE.ret <| WQ.blkR <| WQ.thenR <| WQ.thenR <| WQ.blkR <| WQ.thenR <| ZR (J 6) ?_
 exact ⟨rfl, HA⟩
set_option maxRecDepth 100000 in
set_option maxHeartbeats 400000 in
theorem cdw_8 (w : World) :
    Calls Tryz.prog 28 #[.iface 32 (.int .i64 8)] w fun e w' => e = .returned (.int .i64 8) ∧ Fr [] w w' := by
 have HA := Fr.refl [] w
 refine Ze Tryz.func28 _ <| Zsg <| Zr 1 <| Zdn <| Zq <| Zsg <| Zr 2 <| Zdn <| ZF <| Zk <| Zq <| Zsg <| Zr 1 <| Zdn <| WE.block <| WE.unroll <| WL.go <| Zq <| Zsg <| Zr 2 <| Zdn <| ZT <| Zk <| Zq <| WE.block <| Zsg <| Zr 4 <| Zdn <| ZF <| WE.skip <| WQ.blkN <| Zn <| WE.region <| Zr 3 <| Zd <| WQ.thenL <| WL.go <| Zq <| Zsg <| Zr 2 <| Zdn <| ZT <| Zk <| Zq <| WE.block <| Zsg <| Zr 4 <| Zdn <| ZF <| WE.skip <| WQ.blkN <| Zn <| WE.region <| Zr 3 <| Zd <| WQ.thenL <| WL.go <| Zq <| Zsg <| Zr 2 <| Zdn <| ZT <| Zk <| Zq <| WE.block <| Zsg <| Zr 4 <| Zdn <| ZF <| WE.skip <| WQ.blkN <| Zn <| WE.region <| Zr 3 <| Zd <| WQ.thenL <| WL.go <| Zq <| Zsg <| Zr 2 <| Zdn <| ZT <| Zk <| Zq <| WE.block <| Zsg <| Zr 4 <| Zdn <| ZF <| WE.skip <| WQ.blkN <| Zn <| WE.region <| Zr 3 <| Zd <| WQ.thenL <| WL.go <| Zq <| Zsg <| Zr 2 <| Zdn <| ZT <| Zk <| Zq <| WE.block <| Zsg <| Zr 4 <| Zdn <| ZF <| WE.skip <| WQ.blkN <| Zn <| WE.region <| Zr 3 <| Zd <| WQ.thenL <| WL.go <| Zq <| Zsg <| Zr 2 <| Zdn <| ZT <| Zk <| Zq <| WE.block <| Zsg <| Zr 4 <| Zdn <| ZF <| WE.skip <| WQ.blkN <| Zn <| WE.region <| Zr 3 <| Zd <| WQ.thenL <| WL.go <| Zq <| Zsg <| Zr 2 <| Zdn <| ZT <| Zk <| Zq <| WE.block <| Zsg <| Zr 4 <| Zdn <| ZF <| WE.skip <| WQ.blkN <| Zn <| WE.region <| Zr 3 <| Zd <| WQ.thenL <| WL.go <| Zq <| Zsg <| Zr 2 <| Zdn <| ZT <| Zk <| Zq <| WE.block <| Zsg <| Zr 4 <| Zdn <| ZT <| Zsg <| Zr 2 <| Zdn <| WE.ret <| WQ.blkR <| WQ.thenR <| WQ.thenR <| WQ.blkR <| WQ.thenR <| ZR (J 8) ?_
 exact ⟨rfl, HA⟩
theorem cdw (k : Int) (w : World) (hk : k = 0 ∨ k = 1 ∨ k = 6 ∨ k = 8) : Calls Tryz.prog 28 #[errK k] w fun e w' => e = .returned (.int .i64 k) ∧ Fr [] w w' := by
  rcases hk with rfl | rfl | rfl | rfl
  · exact cdw_0 w
  · exact cdw_1 w
  · exact cdw_6 w
  · exact cdw_8 w
theorem addK_in (width windows rows mark : Int) (pts : List Pn) (key : L) (kind time : Int) : addK width windows rows mark pts key kind time = 0 ∨ addK width windows rows mark pts key kind time = 1 ∨ addK width windows rows mark pts key kind time = 6 ∨ addK width windows rows mark pts key kind time = 8 := by
  unfold addK
  split
  · exact .inr (.inl rfl)
  · split
    · exact .inr (.inr (.inr rfl))
    · split
      · exact .inr (.inr (.inl rfl))
      · exact .inl rfl
theorem up_k1 : addK 10 1 1 0 [] [97] 1 25 = 0 := by decide
theorem up_s1 : stepP 10 1 1 0 [] [97] 1 5 25 = [⟨20, [97], 1, 5⟩] := by
  unfold stepP
  rw [if_pos up_k1]
  rfl
theorem up_k2 : addK 10 1 1 30 [⟨20, [97], 1, 5⟩] [97] 1 25 = 8 := by decide
theorem up_s2 : stepP 10 1 1 30 [⟨20, [97], 1, 5⟩] [97] 1 5 25 = [⟨20, [97], 1, 5⟩] := by
  unfold stepP
  rw [if_neg (by rw [up_k2]; decide)]
theorem up_ok : PtsOk [⟨20, [97], 1, 5⟩] := ⟨by decide, fun p hp => by
  rw [List.mem_singleton.1 hp]
  exact ⟨by decide, by show I64 5; unfold I64; omega⟩⟩
theorem up_ok0 : PtsOk [] := ⟨by decide, fun p hp => absurd hp List.not_mem_nil⟩
theorem up_rows : (rowsP [⟨20, [97], 1, 5⟩] 20).length = 1 := by rfl
theorem up_g0 : g0 (startsP [⟨20, [97], 1, 5⟩]) 0 = 20 := by rfl
set_option maxRecDepth 100000 in
set_option maxHeartbeats 400000 in
theorem up_f (w : World) (HS : VarI w "strconv.ErrSyntax") (HR : VarI w "strconv.ErrRange") (HTab : Lib.TabIs Tryz.prog w "internal/strconv.uint64pow10" .u64 Lib.pow10Tab) (HM : MaxI w) :
    Calls Tryz.prog 17 #[] w fun e w' => e = .returned (.bool true) ∧ Fr [] w w' := by
 have HA := Fr.refl [] w
 refine Ze Tryz.func17 _ <| Zsg <| Zr 1 <| Zdn <| Zsg <| Zc 10 (tb_new (width := 10) (windows := 1) (rows := 1) (seq := 0) (by decide)) ?_
 rintro _ w1 ⟨tb, FT, rfl, HT, htb, hgT, F2⟩
 refine ⟨_, rfl, trivial, ?_⟩
 have hgTr := fun y hy => Or.inr (a := y ∈ ([] : List Nat)) (hgT y hy)
 have nin_1_FT := grow_nin hgTr (nin0 _) ((var_lt 1 (by kernel_rfl) HS))
 have nin_2_FT := grow_nin hgTr (nin0 _) ((var_lt 2 (by kernel_rfl) HR))
 have nin_3_FT := grow_nin hgTr (nin0 _) ((tab_lt HTab))
 have nin_0_FT := grow_nin hgTr (nin0 _) ((max_lt HM))
 have ge_HA_FT := grow_ge hgTr (by simp) HA.size
 refine Zr 5 <| Zdn <| Zsg <| Zc 14 (new_bad 0 1 1 0 _ (by decide)) ?_
 rintro _ w3 ⟨rfl, F4⟩
 have HS := (HS.k F2).k F4
 have HR := (HR.k F2).k F4
 have HTab := (HTab.k F2).k F4
 have HM := (HM.k F2).k F4
 refine ⟨_, rfl, trivial, Zr 5 <| Zdn <| Zq <| Zsg <| Zr 6 <| Zdn <| ZF <| Zk <| Zsg <| Zr 1 <| Zc 24 (tb_any 0 [97] 1 5 25 (HT.keep F4 dj0) (by decide) (by decide) (by unfold I64; omega) up_ok0 (by decide) HS HR HTab HM) ?_⟩
 rw [up_k1, up_s1]
 rintro _ w5 ⟨rfl, FT7, HT, hsT, F6⟩
 have HA := (HA.step0 F2).step0 F4
 refine ⟨_, rfl, trivial, ?_⟩
 have ge_HA_FT7 := grow_ge hsT ge_HA_FT HA.size
 refine Zr 1 <| Zdn <| Zsg <| Zr 1 <| Zc 26 (tb_any 30 [97] 1 5 25 HT (by decide) (by decide) (by unfold I64; omega) up_ok (by decide) (var_keep 1 (by kernel_rfl) HS F6 nin_1_FT) (var_keep 2 (by kernel_rfl) HR F6 nin_2_FT) (tab_keep HTab F6 nin_3_FT) (max_keep HM F6 nin_0_FT)) ?_
 rw [up_k2, up_s2]
 rintro _ w8 ⟨rfl, FT10, HT, hsT, F9⟩
 have HA := HA.step F6 (inF ge_HA_FT)
 refine ⟨_, rfl, trivial, ?_⟩
 have ge_HA_FT10 := grow_ge hsT ge_HA_FT7 HA.size
 refine Zr 1 <| Zdn <| Zsg <| Zr 1 <| Zc 29 (tb_clo_yes 30 HT (by decide) up_ok.ps (by decide) (by decide) (by decide)) ?_
 rintro _ w11 ⟨zs, Az, cz, Fz, Gz, FT13, rfl, hzr, HVz, HEz, hcz, hgz, hgz2, hdz, hokz, HT, hsT, F12⟩
 refine ⟨_, rfl, trivial, ?_⟩
 rw [up_g0] at hzr
 have hzl_ : zs.length = 1 := by rw [← rws_len, hzr]; exact up_rows
 have hsTr := fun y hy => Or.inl (b := (World.heap w8).size ≤ y) (hsT y hy)
 refine Zr 3 <| Zb 7 #[J 0, J 0, .slice none 0 0] 24 (fun g => Pt g 0) ?_
 intro g14 w15 HB17 F16 le18 _
 have nin_g14_FT13 := new_nin HT.lt le18
 have HA := (HA.step F9 (inF ge_HA_FT7)).step F12 (inF ge_HA_FT10)
 have ge_HA_g14 := Nat.le_trans HA.size le18
 refine Zst g14 0 #[J 0, J 20, .slice Az zs.length cz] HB17 ?_
 intro w19 HB21 F20 _
 refine Zr 1 <| Zdn <| Zsg <| Zr 17 <| Zl 49 (J 20) (HB21.s 1) <| Zr 4 <| Zl 54 (.slice Az zs.length cz) (HB21.s 2) <| Zr 1 <| ZoPT 56 (((zs.length : Int) : Int) = (1 : Int)) (by omega) <| Zr 3 <| Zcf 60 (tb_seq ((HT.keep F16 dj0).keep F20 (djB nin_g14_FT13))) ?_
 intro w22 F23
 refine Zr 3 <| Zdn <| WE.ret <| ZR (.bool true) ?_
 exact ⟨by first | rfl | (simp [hzl_]), (((HA.step0 F16).step F20 (inSR ge_HA_g14 inS0)).step0 F23)⟩
end Go.Proofs.YtdhonbahpcmmnaaGreatDoor.Bat
end
section
set_option linter.unusedVariables false
set_option linter.unusedSimpArgs false
namespace Go.Proofs.YtdhonbahpcmmnaaGreatDoor.Bat
open Go Go.RowKit Go.Proofs.YtdhonbahpcmmnaaGreatDoor Go.Proofs.YtdhonbahpcmmnaaGreatDoor.Eng Go.Proofs.YtdhonbahpcmmnaaGreatDoorW.PrintWords
open Go.Proofs Go.Maps
open Go.Proofs.YtdhonbahpcmmnaaGreatDoor.Line
theorem few_60 {l : List De} (h : fewP l = true) : l.length ≤ 60 := by
  unfold fewP at h
  rw [Bool.and_eq_true] at h
  exact of_decide_eq_true h.2
theorem sum_le {α : Type} (f : α → Nat) (B : Nat) : ∀ (l : List α), (∀ x ∈ l, f x ≤ B) → (l.map f).sum ≤ l.length * B
  | [], _ => by simp
  | a :: l, h => by
    have h1 := sum_le f B l fun x hx => h x (List.mem_cons_of_mem _ hx)
    have h2 := h a List.mem_cons_self
    rw [List.map_cons, List.sum_cons, List.length_cons, Nat.succ_mul]
    omega
theorem many_60 {pts : List Pn} (h : pts.length ≤ 60) : manyP pts ≤ 1000000 := by
  have h1 := sum_le (fun s => (rowsP pts s).length) pts.length (startsP pts) fun s _ => rowsP_len pts s
  have h2 := Nat.mul_le_mul (Nat.le_trans (starts_len pts) h) h
  unfold manyP
  omega
theorem DT.sqB {w w' : World} {F : List Nat} {m B : Nat} {width windows rows seq : Int} {pts : List Pn} (h : DT w F m width windows rows seq pts) (k : FrB B w w') (hl : ∀ y ∈ F, y < B) : w'.cell? ⟨m, 3, none⟩ = some (.int .i64 seq) := by
  obtain ⟨AL, cL, FP, hF, hB, hP, hm⟩ := h
  exact (hB.keepB k (hl m ((hF m).2 (.inl rfl)))).at 3 (by kernel_rfl)
theorem few_key2 {l : List De} (h : fewP l = true) : ∀ d ∈ l, d.key.length ≤ 400 := by
  unfold fewP at h
  rw [Bool.and_eq_true] at h
  exact fun d hd => of_decide_eq_true (List.all_eq_true.1 h.1 d hd)
set_option maxRecDepth 100000 in
set_option maxHeartbeats 400000 in
theorem wp_bad (l : List De) (AD : Option Addr) (cD_ : Nat) (FDe : List Nat) (width windows rows seq : Int) (w : World) (HDe : VX cD 6 w FDe AD l) (hdl : l.length ≤ 9223372036854775807) (hkl : ∀ d ∈ l, d.key.length ≤ 9223372036854775807) (hbad : ¬ (1 ≤ width ∧ width ≤ 1099511627776 ∧ 1 ≤ windows ∧ windows ≤ 100 ∧ 1 ≤ rows ∧ rows ≤ 200 ∧ 0 ≤ seq ∧ seq ≤ 1000000)) (HS : VarI w "strconv.ErrSyntax") (HR : VarI w "strconv.ErrRange") (HTab : Lib.TabIs Tryz.prog w "internal/strconv.uint64pow10" .u64 Lib.pow10Tab) (HM : MaxI w) :
    Calls Tryz.prog 7 #[.int .i64 width, .int .i64 windows, .int .i64 rows, .int .i64 seq, .slice AD l.length cD_] w fun e w' => e = .returned (.bool true) ∧ Fr [] w w' := by
 have HA := Fr.refl [] w
 refine Ze Tryz.func7 _ <| Zsg <| Zr 1 <| Zdn <| Zsg <| Zcf 22 (up_f _ HS HR HTab HM) ?_
 intro w1 F2
 refine Zr 1 <| Zdn <| Zsg <| Zr 5 <| Zb 28 #[J width, J windows, J rows, J seq, .slice none 0 0] 59 (fun g => Pt g 0) ?_
 intro g3 w4 HB6 F5 le7 _
 refine Zr 1 <| Zdn <| Zsg <| Zr 4 <| Zcf 34 (new_bad width windows rows seq _ hbad) ?_
 intro w8 F9
 refine Zr 5 <| Zdn <| Zq <| Zsg <| Zr 1 <| Zcf 38 (good_no g3 width windows rows seq [] none 0 [] _ (HB6.k F9) (VX.nil _ _) (nin0 _) (by decide) hbad) ?_
 intro w10 F11
 refine Zr 1 <| Zdn <| ZT <| Zsg <| Zr 11 <| Zdn <| WE.ret <| WQ.thenR <| ZR (.bool true) ?_
 exact ⟨rfl, ((((HA.step0 F2).step0 F5).step0 F9).step0 F11)⟩
set_option maxRecDepth 100000 in
set_option maxHeartbeats 400000 in
theorem wp_big (l : List De) (AD : Option Addr) (cD_ : Nat) (FDe : List Nat) (width windows rows seq : Int) (w : World) (HDe : VX cD 6 w FDe AD l) (hdl : l.length ≤ 9223372036854775807) (hkl : ∀ d ∈ l, d.key.length ≤ 9223372036854775807) (hg : 1 ≤ width ∧ width ≤ 1099511627776 ∧ 1 ≤ windows ∧ windows ≤ 100 ∧ 1 ≤ rows ∧ rows ≤ 200 ∧ 0 ≤ seq ∧ seq ≤ 1000000) (hfew : fewP l = false) (HS : VarI w "strconv.ErrSyntax") (HR : VarI w "strconv.ErrRange") (HTab : Lib.TabIs Tryz.prog w "internal/strconv.uint64pow10" .u64 Lib.pow10Tab) (HM : MaxI w) :
    Calls Tryz.prog 7 #[.int .i64 width, .int .i64 windows, .int .i64 rows, .int .i64 seq, .slice AD l.length cD_] w fun e w' => e = .returned (.bool true) ∧ Fr [] w w' := by
 have HA := Fr.refl [] w
 refine Ze Tryz.func7 _ <| Zsg <| Zr 1 <| Zdn <| Zsg <| Zcf 22 (up_f _ HS HR HTab HM) ?_
 intro w1 F2
 refine Zr 1 <| Zdn <| Zsg <| Zr 5 <| Zb 28 #[J width, J windows, J rows, J seq, .slice none 0 0] 59 (fun g => Pt g 0) ?_
 intro g3 w4 HB6 F5 le7 _
 refine Zr 1 <| Zdn <| Zsg <| Zr 4 <| Zc 34 (tb_new hg) ?_
 rintro _ w8 ⟨tb, FT, rfl, HT, htb, hgT, F9⟩
 refine ⟨_, rfl, trivial, Zr 5 <| Zdn <| Zq <| Zsg <| Zr 1 <| Zcf 38 (good_yes g3 width windows rows seq [] none 0 [] _ (HB6.k F9) (VX.nil _ _) (nin0 _) (by decide) hg) ?_⟩
 intro w10 F11
 refine Zr 1 <| Zdn <| ZF <| Zk <| Zsg <| Zr 1 <| Zcf 51 (few_f l AD cD_ FDe _ ((((HDe.keep F2 dj0).keep F5 dj0).keep F9 dj0).keep F11 dj0) hdl hkl) ?_
 intro w12 F13
 rw [hfew]
 refine Zr 1 <| Zdn <| Zq <| Zsg <| Zr 10 <| Zdn <| ZT <| Zsg <| Zr 10 <| Zdn <| WE.ret <| WQ.thenR <| ZR (.bool true) ?_
 exact ⟨rfl, (((((HA.step0 F2).step0 F5).step0 F9).step0 F11).step0 F13)⟩
set_option maxRecDepth 100000 in
set_option maxHeartbeats 400000 in
theorem wp_run (l : List De) (AD : Option Addr) (cD_ : Nat) (FDe : List Nat) (width windows rows seq : Int) (w : World) (HDe : VX cD 6 w FDe AD l) (hdl : l.length ≤ 9223372036854775807) (hkl : ∀ d ∈ l, d.key.length ≤ 9223372036854775807) (hg : 1 ≤ width ∧ width ≤ 1099511627776 ∧ 1 ≤ windows ∧ windows ≤ 100 ∧ 1 ≤ rows ∧ rows ≤ 200 ∧ 0 ≤ seq ∧ seq ≤ 1000000) (hfew : fewP l = true) (hvl : ∀ d ∈ l, I64 d.value) (HS : VarI w "strconv.ErrSyntax") (HR : VarI w "strconv.ErrRange") (HTab : Lib.TabIs Tryz.prog w "internal/strconv.uint64pow10" .u64 Lib.pow10Tab) (HM : MaxI w) :
    Calls Tryz.prog 7 #[.int .i64 width, .int .i64 windows, .int .i64 rows, .int .i64 seq, .slice AD l.length cD_] w fun e w' => e = .returned (.bool true) ∧ Fr [] w w' := by
 have HA := Fr.refl [] w
 refine Ze Tryz.func7 _ <| Zsg <| Zr 1 <| Zdn <| Zsg <| Zcf 22 (up_f _ HS HR HTab HM) ?_
 intro w1 F2
 refine Zr 1 <| Zdn <| Zsg <| Zr 5 <| Zb 28 #[J width, J windows, J rows, J seq, .slice none 0 0] 59 (fun g => Pt g 0) ?_
 intro g3 w4 HB6 F5 le7 _
 have HDe := HDe.keep F2 dj0
 have nin_g3_FDe := new_nin HDe.lt le7
 have HS := HS.k F2
 have ne_1_g3 : 1 ≠ g3 := Nat.ne_of_lt (Nat.lt_of_lt_of_le (var_lt 1 (by kernel_rfl) HS) le7)
 have HR := HR.k F2
 have ne_2_g3 : 2 ≠ g3 := Nat.ne_of_lt (Nat.lt_of_lt_of_le (var_lt 2 (by kernel_rfl) HR) le7)
 have HTab := HTab.k F2
 have ne_3_g3 : 3 ≠ g3 := Nat.ne_of_lt (Nat.lt_of_lt_of_le (tab_lt HTab) le7)
 have HM := HM.k F2
 have ne_0_g3 : 0 ≠ g3 := Nat.ne_of_lt (Nat.lt_of_lt_of_le (max_lt HM) le7)
 have HA := HA.step0 F2
 have ge_HA_g3 := Nat.le_trans HA.size le7
 refine Zr 1 <| Zdn <| Zsg <| Zr 4 <| Zc 34 (tb_new hg) ?_
 rintro _ w8 ⟨tb, FT, rfl, HT, htb, hgT, F9⟩
 refine ⟨_, rfl, trivial, ?_⟩
 have hgTr := fun y hy => Or.inr (a := y ∈ ([] : List Nat)) (hgT y hy)
 have nin_g3_FT := grow_nin hgTr (nin0 _) HB6.lt
 have HS := HS.k F5
 have nin_1_FT := grow_nin hgTr (nin0 _) ((var_lt 1 (by kernel_rfl) HS))
 have HR := HR.k F5
 have nin_2_FT := grow_nin hgTr (nin0 _) ((var_lt 2 (by kernel_rfl) HR))
 have HTab := HTab.k F5
 have nin_3_FT := grow_nin hgTr (nin0 _) ((tab_lt HTab))
 have HM := HM.k F5
 have nin_0_FT := grow_nin hgTr (nin0 _) ((max_lt HM))
 have HDe := HDe.keep F5 dj0
 have dj_FT_FDe := grow_dj hgTr (by simp) HDe.lt
 have HA := HA.step0 F5
 have ge_HA_FT := grow_ge hgTr (by simp) HA.size
 have HB6 := HB6.k F9
 refine Zr 5 <| Zdn <| Zq <| Zsg <| Zr 1 <| Zc 38 (good_yes g3 width windows rows seq [] none 0 [] _ HB6 (VX.nil _ _) (nin0 _) (by decide) hg) ?_
 rintro _ w10 ⟨rfl, F11⟩
 have HDe := (HDe.keep F9 dj0).keep F11 dj0
 refine ⟨_, rfl, trivial, Zr 1 <| Zdn <| ZF <| Zk <| Zsg <| Zr 1 <| Zcf 51 (few_f l AD cD_ FDe _ HDe hdl hkl) ?_⟩
 intro w12 F13
 rw [hfew]
 refine Zr 1 <| Zdn <| Zq <| Zsg <| Zr 10 <| Zdn <| ZF <| Zk <| Zq <| Zq ?_
 obtain ⟨FD, hFD⟩ : ∃ F_, F_ = [g3] := ⟨_, rfl⟩
 have HB6 := (HB6.k F11).k F13
 have HDt := DT.new HB6
 rw [← hFD] at HDt
 have nin_1_FD : 1 ∉ FD := by rw [hFD]; exact fun h_ => ne_1_g3 (List.mem_singleton.1 h_)
 have nin_2_FD : 2 ∉ FD := by rw [hFD]; exact fun h_ => ne_2_g3 (List.mem_singleton.1 h_)
 have nin_3_FD : 3 ∉ FD := by rw [hFD]; exact fun h_ => ne_3_g3 (List.mem_singleton.1 h_)
 have nin_0_FD : 0 ∉ FD := by rw [hFD]; exact fun h_ => ne_0_g3 (List.mem_singleton.1 h_)
 have dj_FD_FDe := sgD hFD nin_g3_FDe
 have dj_FD_FT := sgD hFD nin_g3_FT
 have ge_HA_FD := sgG hFD ge_HA_g3
 refine WE.region <| Zr 1 <| Zdn <| WE.block <| WE.loop (α := Nat × List Pn × Int × List Nat × List Nat) (E := fun ⟨i, pts, sq, FT, FD⟩ => [(4, .slice AD l.length cD_), (10, .bool false), (11, .bool true), (12, Pt g3 0), (13, Pt tb 0), (16, J (i : Int))]) (I := fun ⟨i, pts, sq, FT, FD⟩ wr => i ≤ l.length ∧ PtsOk pts ∧ pts.length ≤ i ∧ (0 ≤ sq ∧ sq ≤ 1000000 + i) ∧ VX cD 6 wr FDe AD l ∧ VarI wr "strconv.ErrSyntax" ∧ VarI wr "strconv.ErrRange" ∧ Lib.TabIs Tryz.prog wr "internal/strconv.uint64pow10" .u64 Lib.pow10Tab ∧ MaxI wr ∧ TB wr FT tb width windows rows sq pts ∧ 1 ∉ FT ∧ 2 ∉ FT ∧ 3 ∉ FT ∧ 0 ∉ FT ∧ (∀ y ∈ FT, y ∉ FDe) ∧ (∀ y ∈ FT, (World.heap w).size ≤ y) ∧ DT wr FD g3 width windows rows sq pts ∧ 1 ∉ FD ∧ 2 ∉ FD ∧ 3 ∉ FD ∧ 0 ∉ FD ∧ (∀ y ∈ FD, y ∉ FDe) ∧ (∀ y ∈ FD, y ∉ FT) ∧ (∀ y ∈ FD, (World.heap w).size ≤ y) ∧ Fr [] w wr) (m := fun ⟨i, pts, sq, FT, FD⟩ => l.length - i) (0, [], seq, FT, FD) [4, 10, 11, 12, 13, 16] (by kernel_rfl) ?_ ?_
 ·
  exact ⟨Nat.zero_le _, up_ok0, Nat.zero_le _, by omega, (HDe.keep F13 dj0), (((HS.k F9).k F11).k F13), (((HR.k F9).k F11).k F13), (((HTab.k F9).k F11).k F13), (((HM.k F9).k F11).k F13), ((HT.keep F11 dj0).keep F13 dj0), nin_1_FT, nin_2_FT, nin_3_FT, nin_0_FT, dj_FT_FDe, ge_HA_FT, HDt, nin_1_FD, nin_2_FD, nin_3_FD, nin_0_FD, dj_FD_FDe, dj_FD_FT, ge_HA_FD, (((HA.step0 F9).step0 F11).step0 F13)⟩
 rintro ⟨i, pts, sq, FT, FD⟩ wr ⟨hi, hpo, hpl, hsq, HDe, HS, HR, HTab, HM, HO_FT, nin_1_FT, nin_2_FT, nin_3_FT, nin_0_FT, dj_FT_FDe, ge_HA_FT, HO_FD, nin_1_FD, nin_2_FD, nin_3_FD, nin_0_FD, dj_FD_FDe, dj_FD_FT, ge_HA_FD, HA⟩
 have hW : 1 ≤ width ∧ width ≤ 1099511627776 := ⟨hg.1, hg.2.1⟩
 have hl60 : l.length ≤ 60 := few_60 hfew
 refine Zq <| Zsg <| Zr 3 <| ZoP 74 (((i : Int) : Int) < (l.length : Int)) ?_ ?_
 ·
  intro h14
  refine Zdn <| ZT <| Zk <| Zq <| WE.block <| Zsg <| Zr 2 ?_
  obtain ⟨ad15, hA16⟩ := HDe.addr (i := i) (by have := (rfl : List.length l = _); omega)
  refine Zio 79 l.length 6 i (i : Int) hA16 <| Zla (ad := (ad15.add (i * 6))) 80 [.bool ((gD l i).close), J ((gD l i).mark), .string (str (gD l i).key), J ((gD l i).kind), J ((gD l i).value), J ((gD l i).time)] (fun _ hw_ _ hj_ => by subst hw_; exact HDe.part0 hA16 (gD_some l i (by have := (rfl : List.length l = _); omega)) [.bool ((gD l i).close), J ((gD l i).mark), .string (str (gD l i).key), J ((gD l i).kind), J ((gD l i).value), J ((gD l i).time)] (by kernel_rfl) _ hj_) <| Zb 17 #[.bool false, J 0, .string (⟨#[]⟩), J 0, J 0, J 0] 49 (fun g => Pt g 0) ?_
  intro g17 w18 HB20 F19 le21 _
  have nin_g17_FDe := new_nin HDe.lt le21
  have nin_g17_FT := new_nin HO_FT.lt le21
  have nin_g17_FD := new_nin HO_FD.lt le21
  have ne_1_g17 : 1 ≠ g17 := Nat.ne_of_lt (Nat.lt_of_lt_of_le (var_lt 1 (by kernel_rfl) HS) le21)
  have ne_2_g17 : 2 ≠ g17 := Nat.ne_of_lt (Nat.lt_of_lt_of_le (var_lt 2 (by kernel_rfl) HR) le21)
  have ne_3_g17 : 3 ≠ g17 := Nat.ne_of_lt (Nat.lt_of_lt_of_le (tab_lt HTab) le21)
  have ne_0_g17 : 0 ≠ g17 := Nat.ne_of_lt (Nat.lt_of_lt_of_le (max_lt HM) le21)
  have ge_HA_g17 := Nat.le_trans HA.size le21
  refine Zst g17 0 #[.bool ((gD l i).close), J ((gD l i).mark), .string (str (gD l i).key), J ((gD l i).kind), J ((gD l i).value), J ((gD l i).time)] HB20 ?_
  intro w22 HB24 F23 _
  refine Zdn <| Zq <| Zq ?_
  have hz25 : (World.heap w22).size ≤ (World.heap w22).size := Nat.le_refl _
  have ltz_g17 := HB24.lt
  refine ZER (FrB (World.heap w22).size) [2, 6] [3] [7] 9 ?_
  intro w26 F27 _
  have HB24 := HB24.k F27
  have HO_FT := ((HO_FT.keep F19 dj0).keep F23 (djB nin_g17_FT)).keep F27 dj0
  refine Yq 0 2 <| Yl 2 83 (J ((gD l i).mark)) (fun _ k => (HB24.keepB k ltz_g17).at 1 (by kernel_rfl)) <| Yq 4 2 <| Yl 6 87 (J ((gD l i).mark)) (fun _ k => (HB24.keepB k ltz_g17).at 1 (by kernel_rfl)) <| WO.call (SA.ER _ 3 _ (by kernel_rfl) rfl) 84 (by kernel_rfl) (tb_due ((gD l i).mark) HO_FT hW hpo.ps hpo.1) ?_
  rintro _ w28 ⟨rfl, F29⟩
  have HO_FD := (((HO_FD.keep F19 dj0).keep F23 (djB nin_g17_FD)).keep F27 dj0).keep F29 dj0
  refine ⟨_, rfl, (frB_of (Nat.le_trans hz25 F27.size) (by simp)) _ F29, Yc 7 88 (dt_due ((gD l i).mark) HO_FD hW hpo) ?_⟩
  rintro _ w30 ⟨rfl, F31⟩
  have HB24 := (HB24.k F29).k F31
  have HDe := ((((HDe.keep F19 dj0).keep F23 (djB nin_g17_FDe)).keep F27 dj0).keep F29 dj0).keep F31 dj0
  have HS := (((var_keep 1 (by kernel_rfl) (HS.k F19) F23 (ninC ne_1_g17 (nin0 _))).k F27).k F29).k F31
  have HR := (((var_keep 2 (by kernel_rfl) (HR.k F19) F23 (ninC ne_2_g17 (nin0 _))).k F27).k F29).k F31
  have HTab := (((tab_keep (HTab.k F19) F23 (ninC ne_3_g17 (nin0 _))).k F27).k F29).k F31
  have HM := (((max_keep (HM.k F19) F23 (ninC ne_0_g17 (nin0 _))).k F27).k F29).k F31
  have HA := ((((HA.step0 F19).step F23 (inSR ge_HA_g17 inS0)).step0 F27).step0 F29).step0 F31
  have HO_FT := (HO_FT.keep F29 dj0).keep F31 dj0
  refine ⟨_, rfl, trivial, Yr0 [8] [(89, .bool (!decide ((((((startsP pts).filter fun s => decide (s + width ≤ ((gD l i).mark))).length) : Int) : Int) = ((((startsP pts).filter fun s => decide (s + width ≤ ((gD l i).mark))).length) : Int))))] <| WO.topNT ((((((startsP pts).filter fun s => decide (s + width ≤ ((gD l i).mark))).length) : Int) : Int) = ((((startsP pts).filter fun s => decide (s + width ≤ ((gD l i).mark))).length) : Int)) (by rfl) <| Ydn <| ZF <| Zk <| Zq <| Zsg <| Zr 1 <| Zl 91 (.bool ((gD l i).close)) (HB24.s 0) ?_⟩
  refine WO.topB ((gD l i).close) ?_ ?_
  ·
   intro h32
   refine Zdn <| ZT <| Zsg <| Zr 2 <| Zl 95 (J ((gD l i).mark)) (HB24.s 1) ?_
   rcases Nat.eq_zero_or_pos (((startsP pts).filter fun s => decide (s + width ≤ ((gD l i).mark))).length) with hds_ | hds_
   ·
    refine Zcf 96 (tb_clo_no ((gD l i).mark) HO_FT hW hpo.ps hpo.1 hds_) ?_
    intro w35 F36
    refine Zr 3 <| Zb 18 #[J 0, J 0, .slice none 0 0] 24 (fun g => Pt g 0) ?_
    intro g37 w38 HB40 F39 le41 _
    have HB24 := HB24.k F36
    have ne_g17_g37 := ltn HB24.lt le41
    have HDe := HDe.keep F36 dj0
    have nin_g37_FDe := new_nin HDe.lt le41
    have HO_FT := HO_FT.keep F36 dj0
    have nin_g37_FT := new_nin HO_FT.lt le41
    have HO_FD := (HO_FD.keep F31 dj0).keep F36 dj0
    have nin_g37_FD := new_nin HO_FD.lt le41
    have HS := HS.k F36
    have ne_1_g37 : 1 ≠ g37 := Nat.ne_of_lt (Nat.lt_of_lt_of_le (var_lt 1 (by kernel_rfl) HS) le41)
    have HR := HR.k F36
    have ne_2_g37 : 2 ≠ g37 := Nat.ne_of_lt (Nat.lt_of_lt_of_le (var_lt 2 (by kernel_rfl) HR) le41)
    have HTab := HTab.k F36
    have ne_3_g37 : 3 ≠ g37 := Nat.ne_of_lt (Nat.lt_of_lt_of_le (tab_lt HTab) le41)
    have HM := HM.k F36
    have ne_0_g37 : 0 ≠ g37 := Nat.ne_of_lt (Nat.lt_of_lt_of_le (max_lt HM) le41)
    have HA := HA.step0 F36
    have ge_HA_g37 := Nat.le_trans HA.size le41
    refine Zst g37 0 #[J 0, J 0, .slice none 0 0] HB40 ?_
    intro w42 HB44 F43 _
    have HO_FD := (HO_FD.keep F39 dj0).keep F43 (djB nin_g37_FD)
    refine Zr 1 <| Zdn <| Zsg <| Zr 2 <| Zl 102 (J ((gD l i).mark)) (same (((HB24.k F39).j F43 ne_g17_g37).at 1 (by kernel_rfl))) <| Zcf 103 (dt_clo_no ((gD l i).mark) HO_FD hW hpo hds_) ?_
    intro w47 F48
    refine Zr 3 <| Zb 20 #[J 0, J 0, .slice none 0 0] 24 (fun g => Pt g 0) ?_
    intro g49 w50 HB52 F51 le53 _
    have HB44 := HB44.k F48
    have ne_g37_g49 := ltn HB44.lt le53
    have HDe := ((HDe.keep F39 dj0).keep F43 (djB nin_g37_FDe)).keep F48 dj0
    have nin_g49_FDe := new_nin HDe.lt le53
    have HO_FT := ((HO_FT.keep F39 dj0).keep F43 (djB nin_g37_FT)).keep F48 dj0
    have nin_g49_FT := new_nin HO_FT.lt le53
    have HO_FD := HO_FD.keep F48 dj0
    have nin_g49_FD := new_nin HO_FD.lt le53
    have HS := (var_keep 1 (by kernel_rfl) (HS.k F39) F43 (ninC ne_1_g37 (nin0 _))).k F48
    have ne_1_g49 : 1 ≠ g49 := Nat.ne_of_lt (Nat.lt_of_lt_of_le (var_lt 1 (by kernel_rfl) HS) le53)
    have HR := (var_keep 2 (by kernel_rfl) (HR.k F39) F43 (ninC ne_2_g37 (nin0 _))).k F48
    have ne_2_g49 : 2 ≠ g49 := Nat.ne_of_lt (Nat.lt_of_lt_of_le (var_lt 2 (by kernel_rfl) HR) le53)
    have HTab := (tab_keep (HTab.k F39) F43 (ninC ne_3_g37 (nin0 _))).k F48
    have ne_3_g49 : 3 ≠ g49 := Nat.ne_of_lt (Nat.lt_of_lt_of_le (tab_lt HTab) le53)
    have HM := (max_keep (HM.k F39) F43 (ninC ne_0_g37 (nin0 _))).k F48
    have ne_0_g49 : 0 ≠ g49 := Nat.ne_of_lt (Nat.lt_of_lt_of_le (max_lt HM) le53)
    have HA := ((HA.step0 F39).step F43 (inSR ge_HA_g37 inS0)).step0 F48
    have ge_HA_g49 := Nat.le_trans HA.size le53
    refine Zst g49 0 #[J 0, J 0, .slice none 0 0] HB52 ?_
    intro w54 HB56 F55 _
    refine Zr 1 <| Zdn <| Zsg <| Zr 4 <| Zlb 110 [J 0, J 0, .slice none 0 0] g37 0 (same ((HB44.k F51).j F55 ne_g37_g49)) <| Zlb 111 [J 0, J 0, .slice none 0 0] g49 0 (same HB56) <| Zcf 112 (same_b 0 0 [] [] none none 0 0 0 [] [] [] [] _ rfl (VX.nil _ _) (EV.nil _) rfl (VX.nil _ _) (EV.nil _) rfl (by decide) (fun x hx => absurd hx List.not_mem_nil)) ?_
    intro w57 F58
    refine Zr 2 <| Zdn <| ZF <| Zk <| Zq ?_
    have hpo2_ : PtsOk pts := hpo
    have hpl2_ : pts.length ≤ i + 1 := by omega
    have hmy_ := many_60 (show pts.length ≤ 60 by omega)
    have hz59 : (World.heap w57).size ≤ (World.heap w57).size := Nat.le_refl _
    have HO_FD := ((HO_FD.keep F51 dj0).keep F55 (djB nin_g49_FD)).keep F58 dj0
    have ltz_FD := HO_FD.lt
    refine ZER (FrB (World.heap w57).size) [19] [15] [1, 3, 8, 10] 22 ?_
    intro w60 F61 _
    have HO_FT := (((HO_FT.keep F51 dj0).keep F55 (djB nin_g49_FT)).keep F58 dj0).keep F61 dj0
    refine Yr [0, 2] <| Yc 1 142 (tb_opn HO_FT) ?_
    rintro _ w62 ⟨rfl, F63⟩
    have HO_FD := (HO_FD.keep F61 dj0).keep F63 dj0
    refine ⟨_, rfl, trivial, Yc 3 144 (dt_sts HO_FD hpo2_) ?_⟩
    rintro _ w64 ⟨⟨A_, c_, rfl⟩, F65⟩
    have HO_FT := (HO_FT.keep F63 dj0).keep F65 dj0
    refine ⟨_, rfl, trivial, Yr0 [4, 5] [(146, .bool (!decide ((((startsP pts).length : Int) : Int) = ((startsP pts).length : Int)))), (145, J ((startsP pts).length : Int))] <| WO.topNT ((((startsP pts).length : Int) : Int) = ((startsP pts).length : Int)) (by rfl) <| Yr [6, 7, 9] <| Yc 8 149 (tb_rows HO_FT hmy_) ?_⟩
    rintro _ w66 ⟨rfl, F67⟩
    have HO_FD := (HO_FD.keep F65 dj0).keep F67 dj0
    refine ⟨_, rfl, trivial, Yc 10 151 (dt_mny HO_FD hpo2_) ?_⟩
    rintro _ w68 ⟨rfl, F69⟩
    have HO_FD := HO_FD.keep F69 dj0
    have HO_FT := (HO_FT.keep F67 dj0).keep F69 dj0
    refine ⟨_, rfl, trivial, Yr0 [11] [(152, .bool (!decide ((((manyP pts) : Int) : Int) = ((manyP pts) : Int))))] <| WO.topNT ((((manyP pts) : Int) : Int) = ((manyP pts) : Int)) (by rfl) <| Yr [12, 13, 14, 16, 17, 18] <| Yl 19 160 (J sq) (fun _ k_ => DT.sqB HO_FD k_ ltz_FD) <| WO.call (SA.ER _ 15 _ (by kernel_rfl) rfl) 156 (by kernel_rfl) (tb_seq HO_FT) ?_⟩
    rintro _ w70 ⟨rfl, F71⟩
    refine ⟨_, rfl, (frB_of (Nat.le_trans (Nat.le_trans (Nat.le_trans (Nat.le_trans (Nat.le_trans hz59 F61.size) F63.size) F65.size) F67.size) F69.size) (by simp)) _ F71, Yr0 [20] [(161, .bool (!decide ((sq : Int) = sq)))] <| WO.topNT ((sq : Int) = sq) (by rfl) <| Yq 21 1 <| Ydn <| ZF <| WE.skip <| WQ.blkN <| Zn <| WE.region <| Zr 1 <| Zo 76 (J (IntKind.i64.wrap ((i : Int) + 1))) <| WO.top (v' := J ((i + 1 : Nat) : Int)) (wrap_i64 (by omega) (by omega)) <| Zr 1 <| Zd <| WQ.round ?_⟩
    intro a_ ha_
    refine ⟨(i + 1, pts, sq, FT, FD), ?_, ha_.keep [4, 10, 11, 12, 13, 16] (by kernel_rfl), ?_⟩
    ·
     show l.length - (i + 1) < l.length - i; omega
    ·
     exact ⟨by omega, hpo2_, hpl2_, by omega, (((((((((HDe.keep F51 dj0).keep F55 (djB nin_g49_FDe)).keep F58 dj0).keep F61 dj0).keep F63 dj0).keep F65 dj0).keep F67 dj0).keep F69 dj0).keep F71 dj0), ((((((((var_keep 1 (by kernel_rfl) (HS.k F51) F55 (ninC ne_1_g49 (nin0 _))).k F58).k F61).k F63).k F65).k F67).k F69).k F71), ((((((((var_keep 2 (by kernel_rfl) (HR.k F51) F55 (ninC ne_2_g49 (nin0 _))).k F58).k F61).k F63).k F65).k F67).k F69).k F71), ((((((((tab_keep (HTab.k F51) F55 (ninC ne_3_g49 (nin0 _))).k F58).k F61).k F63).k F65).k F67).k F69).k F71), ((((((((max_keep (HM.k F51) F55 (ninC ne_0_g49 (nin0 _))).k F58).k F61).k F63).k F65).k F67).k F69).k F71), (HO_FT.keep F71 dj0), nin_1_FT, nin_2_FT, nin_3_FT, nin_0_FT, dj_FT_FDe, ge_HA_FT, (HO_FD.keep F71 dj0), nin_1_FD, nin_2_FD, nin_3_FD, nin_0_FD, dj_FD_FDe, dj_FD_FT, ge_HA_FD, (((((((((HA.step0 F51).step F55 (inSR ge_HA_g49 inS0)).step0 F58).step0 F61).step0 F63).step0 F65).step0 F67).step0 F69).step0 F71)⟩
   ·
    refine Zc 96 (tb_clo_yes ((gD l i).mark) HO_FT hW hpo.ps hpo.1 hds_ (by omega)) ?_
    rintro _ w72 ⟨zs, Az, cz, Fz, Gz, FT74, rfl, hzr, HVz, HEz, hcz, hgz, hgz2, hdz, hokz, HT, hsT, F73⟩
    refine ⟨_, rfl, trivial, ?_⟩
    have hsTr := fun y hy => Or.inl (b := (World.heap w30).size ≤ y) (hsT y hy)
    have hgzr := fun y hy => Or.inr (a := y ∈ ([] : List Nat)) (hgz y hy)
    have hgz2r := fun y hy => Or.inr (a := y ∈ ([] : List Nat)) (hgz2 y hy)
    have HO_FD := HO_FD.keep F31 dj0
    have dj_Fz_FD := grow_dj hgzr (by simp) HO_FD.lt
    have dj_Gz_FD := grow_dj hgz2r (by simp) HO_FD.lt
    have nin_1_FT74 := grow_nin hsTr nin_1_FT ((var_lt 1 (by kernel_rfl) HS))
    have nin_2_FT74 := grow_nin hsTr nin_2_FT ((var_lt 2 (by kernel_rfl) HR))
    have nin_3_FT74 := grow_nin hsTr nin_3_FT ((tab_lt HTab))
    have nin_0_FT74 := grow_nin hsTr nin_0_FT ((max_lt HM))
    have dj_FT74_FDe := grow_dj hsTr dj_FT_FDe HDe.lt
    have dj_FT74_FD := grow_dj hsTr (dj_symm dj_FD_FT) HO_FD.lt
    have ge_HA_FT74 := grow_ge hsTr ge_HA_FT HA.size
    refine Zr 3 <| Zb 18 #[J 0, J 0, .slice none 0 0] 24 (fun g => Pt g 0) ?_
    intro g75 w76 HB78 F77 le79 _
    have HB24 := HB24.keep F73 nin_g17_FT
    have ne_g17_g75 := ltn HB24.lt le79
    have HDe := HDe.keep F73 (dj_symm dj_FT_FDe)
    have nin_g75_FDe := new_nin HDe.lt le79
    have HO_FD := HO_FD.keep F73 dj_FD_FT
    have nin_g75_FD := new_nin HO_FD.lt le79
    have nin_g75_FT74 := new_nin HT.lt le79
    have nin_g75_Fz := new_nin HVz.lt le79
    have nin_g75_Gz := new_nin HEz.lt le79
    have HS := var_keep 1 (by kernel_rfl) HS F73 nin_1_FT
    have ne_1_g75 : 1 ≠ g75 := Nat.ne_of_lt (Nat.lt_of_lt_of_le (var_lt 1 (by kernel_rfl) HS) le79)
    have HR := var_keep 2 (by kernel_rfl) HR F73 nin_2_FT
    have ne_2_g75 : 2 ≠ g75 := Nat.ne_of_lt (Nat.lt_of_lt_of_le (var_lt 2 (by kernel_rfl) HR) le79)
    have HTab := tab_keep HTab F73 nin_3_FT
    have ne_3_g75 : 3 ≠ g75 := Nat.ne_of_lt (Nat.lt_of_lt_of_le (tab_lt HTab) le79)
    have HM := max_keep HM F73 nin_0_FT
    have ne_0_g75 : 0 ≠ g75 := Nat.ne_of_lt (Nat.lt_of_lt_of_le (max_lt HM) le79)
    have HA := HA.step F73 (inF ge_HA_FT)
    have ge_HA_g75 := Nat.le_trans HA.size le79
    refine Zst g75 0 #[J sq, J (g0 (startsP pts) 0), .slice Az zs.length cz] HB78 ?_
    intro w80 HB82 F81 _
    refine Zr 1 <| Zdn <| Zsg <| Zr 2 <| Zl 102 (J ((gD l i).mark)) (same (((HB24.k F77).j F81 ne_g17_g75).at 1 (by kernel_rfl))) <| Zc 103 (dt_clo_yes ((gD l i).mark) ((HO_FD.keep F77 dj0).keep F81 (djB nin_g75_FD)) hW hpo hds_ (by omega)) ?_
    rintro _ w83 ⟨zs2, Az2, cz2, Fz2, Gz2, FD85, rfl, hzr2, HVz2, HEz2, hcz2, hgy, hgy2, HDt, hsD, hdy, hdy2, F84⟩
    have hlz_ : zs2.length = zs.length := by rw [← rws_len, hzr2, ← hzr, rws_len]
    rw [hlz_]
    refine ⟨_, rfl, trivial, ?_⟩
    have hgyr := fun y hy => Or.inr (a := y ∈ ([] : List Nat)) (hgy y hy)
    have hgy2r := fun y hy => Or.inr (a := y ∈ ([] : List Nat)) (hgy2 y hy)
    have HS := var_keep 1 (by kernel_rfl) (HS.k F77) F81 (ninC ne_1_g75 (nin0 _))
    have nin_1_FD85 := grow_nin hsD nin_1_FD ((var_lt 1 (by kernel_rfl) HS))
    have HR := var_keep 2 (by kernel_rfl) (HR.k F77) F81 (ninC ne_2_g75 (nin0 _))
    have nin_2_FD85 := grow_nin hsD nin_2_FD ((var_lt 2 (by kernel_rfl) HR))
    have HTab := tab_keep (HTab.k F77) F81 (ninC ne_3_g75 (nin0 _))
    have nin_3_FD85 := grow_nin hsD nin_3_FD ((tab_lt HTab))
    have HM := max_keep (HM.k F77) F81 (ninC ne_0_g75 (nin0 _))
    have nin_0_FD85 := grow_nin hsD nin_0_FD ((max_lt HM))
    have HDe := (HDe.keep F77 dj0).keep F81 (djB nin_g75_FDe)
    have dj_FD85_FDe := grow_dj hsD dj_FD_FDe HDe.lt
    have HT := (HT.keep F77 dj0).keep F81 (djB nin_g75_FT74)
    have dj_FD85_FT74 := grow_dj hsD (dj_symm dj_FT74_FD) HT.lt
    have HA := (HA.step0 F77).step F81 (inSR ge_HA_g75 inS0)
    have ge_HA_FD85 := grow_ge hsD ge_HA_FD HA.size
    refine Zr 3 <| Zb 20 #[J 0, J 0, .slice none 0 0] 24 (fun g => Pt g 0) ?_
    intro g86 w87 HB89 F88 le90 _
    have HB82 := HB82.keep F84 nin_g75_FD
    have ne_g75_g86 := ltn HB82.lt le90
    have HDe := HDe.keep F84 (dj_symm dj_FD_FDe)
    have nin_g86_FDe := new_nin HDe.lt le90
    have HT := HT.keep F84 dj_FT74_FD
    have nin_g86_FT74 := new_nin HT.lt le90
    have HVz := ((HVz.keep F77 dj0).keep F81 (djB nin_g75_Fz)).keep F84 dj_Fz_FD
    have nin_g86_Fz := new_nin HVz.lt le90
    have HEz := ((HEz.keep F77 dj0).keep F81 (djB nin_g75_Gz)).keep F84 dj_Gz_FD
    have nin_g86_Gz := new_nin HEz.lt le90
    have nin_g86_FD85 := new_nin HDt.lt le90
    have nin_g86_Fz2 := new_nin HVz2.lt le90
    have nin_g86_Gz2 := new_nin HEz2.lt le90
    have HS := var_keep 1 (by kernel_rfl) HS F84 nin_1_FD
    have ne_1_g86 : 1 ≠ g86 := Nat.ne_of_lt (Nat.lt_of_lt_of_le (var_lt 1 (by kernel_rfl) HS) le90)
    have HR := var_keep 2 (by kernel_rfl) HR F84 nin_2_FD
    have ne_2_g86 : 2 ≠ g86 := Nat.ne_of_lt (Nat.lt_of_lt_of_le (var_lt 2 (by kernel_rfl) HR) le90)
    have HTab := tab_keep HTab F84 nin_3_FD
    have ne_3_g86 : 3 ≠ g86 := Nat.ne_of_lt (Nat.lt_of_lt_of_le (tab_lt HTab) le90)
    have HM := max_keep HM F84 nin_0_FD
    have ne_0_g86 : 0 ≠ g86 := Nat.ne_of_lt (Nat.lt_of_lt_of_le (max_lt HM) le90)
    have HA := HA.step F84 (inF ge_HA_FD)
    have ge_HA_g86 := Nat.le_trans HA.size le90
    refine Zst g86 0 #[J sq, J (g0 (startsP pts) 0), .slice Az2 zs.length cz2] HB89 ?_
    intro w91 HB93 F92 _
    refine Zr 1 <| Zdn <| Zsg <| Zr 4 <| Zlb 110 [J sq, J (g0 (startsP pts) 0), .slice Az zs.length cz] g75 0 (same ((HB82.k F88).j F92 ne_g75_g86)) <| Zlb 111 [J sq, J (g0 (startsP pts) 0), .slice Az2 zs.length cz2] g86 0 (same HB93) <| Zcf 112 (same_b sq (g0 (startsP pts) 0) zs zs2 Az Az2 zs.length cz cz2 Fz Fz2 Gz Gz2 _ (hzr2.trans hzr.symm) ((HVz.keep F88 dj0).keep F92 (djB nin_g86_Fz)) ((HEz.keep F88 dj0).keep F92 (djB nin_g86_Gz)) rfl ((HVz2.keep F88 dj0).keep F92 (djB nin_g86_Fz2)) ((HEz2.keep F88 dj0).keep F92 (djB nin_g86_Gz2)) hlz_ (by have h_ := rowsP_len pts (g0 (startsP pts) 0); rw [← hzr, rws_len] at h_; omega) (fun x hx => by have h_ := (hokz x hx).2.1; omega)) ?_
    intro w94 F95
    refine Zr 2 <| Zdn <| ZF <| Zk <| Zq ?_
    have hpo2_ : PtsOk (leftP pts (g0 (startsP pts) 0)) := hpo.left _
    have hpl2_ : (leftP pts (g0 (startsP pts) 0)).length ≤ i + 1 := Nat.le_trans (leftP_len _ _) (by omega)
    have hmy_ := many_60 (show (leftP pts (g0 (startsP pts) 0)).length ≤ 60 by omega)
    have hz96 : (World.heap w94).size ≤ (World.heap w94).size := Nat.le_refl _
    have HDt := ((HDt.keep F88 dj0).keep F92 (djB nin_g86_FD85)).keep F95 dj0
    have ltz_FD85 := HDt.lt
    refine ZER (FrB (World.heap w94).size) [19] [15] [1, 3, 8, 10] 22 ?_
    intro w97 F98 _
    have HT := (((HT.keep F88 dj0).keep F92 (djB nin_g86_FT74)).keep F95 dj0).keep F98 dj0
    refine Yr [0, 2] <| Yc 1 142 (tb_opn HT) ?_
    rintro _ w99 ⟨rfl, F100⟩
    have HDt := (HDt.keep F98 dj0).keep F100 dj0
    refine ⟨_, rfl, trivial, Yc 3 144 (dt_sts HDt hpo2_) ?_⟩
    rintro _ w101 ⟨⟨A_, c_, rfl⟩, F102⟩
    have HT := (HT.keep F100 dj0).keep F102 dj0
    refine ⟨_, rfl, trivial, Yr0 [4, 5] [(146, .bool (!decide ((((startsP (leftP pts (g0 (startsP pts) 0))).length : Int) : Int) = ((startsP (leftP pts (g0 (startsP pts) 0))).length : Int)))), (145, J ((startsP (leftP pts (g0 (startsP pts) 0))).length : Int))] <| WO.topNT ((((startsP (leftP pts (g0 (startsP pts) 0))).length : Int) : Int) = ((startsP (leftP pts (g0 (startsP pts) 0))).length : Int)) (by rfl) <| Yr [6, 7, 9] <| Yc 8 149 (tb_rows HT hmy_) ?_⟩
    rintro _ w103 ⟨rfl, F104⟩
    have HDt := (HDt.keep F102 dj0).keep F104 dj0
    refine ⟨_, rfl, trivial, Yc 10 151 (dt_mny HDt hpo2_) ?_⟩
    rintro _ w105 ⟨rfl, F106⟩
    have HDt := HDt.keep F106 dj0
    have HT := (HT.keep F104 dj0).keep F106 dj0
    refine ⟨_, rfl, trivial, Yr0 [11] [(152, .bool (!decide ((((manyP (leftP pts (g0 (startsP pts) 0))) : Int) : Int) = ((manyP (leftP pts (g0 (startsP pts) 0))) : Int))))] <| WO.topNT ((((manyP (leftP pts (g0 (startsP pts) 0))) : Int) : Int) = ((manyP (leftP pts (g0 (startsP pts) 0))) : Int)) (by rfl) <| Yr [12, 13, 14, 16, 17, 18] <| Yl 19 160 (J (sq + 1)) (fun _ k_ => DT.sqB HDt k_ ltz_FD85) <| WO.call (SA.ER _ 15 _ (by kernel_rfl) rfl) 156 (by kernel_rfl) (tb_seq HT) ?_⟩
    rintro _ w107 ⟨rfl, F108⟩
    refine ⟨_, rfl, (frB_of (Nat.le_trans (Nat.le_trans (Nat.le_trans (Nat.le_trans (Nat.le_trans hz96 F98.size) F100.size) F102.size) F104.size) F106.size) (by simp)) _ F108, Yr0 [20] [(161, .bool (!decide (((sq + 1) : Int) = (sq + 1))))] <| WO.topNT (((sq + 1) : Int) = (sq + 1)) (by rfl) <| Yq 21 1 <| Ydn <| ZF <| WE.skip <| WQ.blkN <| Zn <| WE.region <| Zr 1 <| Zo 76 (J (IntKind.i64.wrap ((i : Int) + 1))) <| WO.top (v' := J ((i + 1 : Nat) : Int)) (wrap_i64 (by omega) (by omega)) <| Zr 1 <| Zd <| WQ.round ?_⟩
    intro a_ ha_
    refine ⟨(i + 1, (leftP pts (g0 (startsP pts) 0)), (sq + 1), FT74, FD85), ?_, ha_.keep [4, 10, 11, 12, 13, 16] (by kernel_rfl), ?_⟩
    ·
     show l.length - (i + 1) < l.length - i; omega
    ·
     exact ⟨by omega, hpo2_, hpl2_, by omega, (((((((((HDe.keep F88 dj0).keep F92 (djB nin_g86_FDe)).keep F95 dj0).keep F98 dj0).keep F100 dj0).keep F102 dj0).keep F104 dj0).keep F106 dj0).keep F108 dj0), ((((((((var_keep 1 (by kernel_rfl) (HS.k F88) F92 (ninC ne_1_g86 (nin0 _))).k F95).k F98).k F100).k F102).k F104).k F106).k F108), ((((((((var_keep 2 (by kernel_rfl) (HR.k F88) F92 (ninC ne_2_g86 (nin0 _))).k F95).k F98).k F100).k F102).k F104).k F106).k F108), ((((((((tab_keep (HTab.k F88) F92 (ninC ne_3_g86 (nin0 _))).k F95).k F98).k F100).k F102).k F104).k F106).k F108), ((((((((max_keep (HM.k F88) F92 (ninC ne_0_g86 (nin0 _))).k F95).k F98).k F100).k F102).k F104).k F106).k F108), (HT.keep F108 dj0), nin_1_FT74, nin_2_FT74, nin_3_FT74, nin_0_FT74, dj_FT74_FDe, ge_HA_FT74, (HDt.keep F108 dj0), nin_1_FD85, nin_2_FD85, nin_3_FD85, nin_0_FD85, dj_FD85_FDe, dj_FD85_FT74, ge_HA_FD85, (((((((((HA.step0 F88).step F92 (inSR ge_HA_g86 inS0)).step0 F95).step0 F98).step0 F100).step0 F102).step0 F104).step0 F106).step0 F108)⟩
  intro h32
  refine Zdn <| ZF <| Zq ?_
  have hm1_ := List.mem_of_getElem? (gD_some l i (by omega))
  have hk1_ : (gD l i).key.length ≤ 100000 := by have h_ := few_key2 hfew _ hm1_; omega
  have hv1_ := hvl _ hm1_
  refine ZER (Kp [g17]) [2, 4, 6, 8, 10, 15, 17, 19, 21, 23] [11, 12] [24] 26 ?_
  intro w109 F110 _
  have HB24 := HB24.k F110
  have HS := HS.k F110
  have HR := HR.k F110
  have HTab := HTab.k F110
  have HM := HM.k F110
  refine Yq 0 2 <| Yl 2 117 (J ((gD l i).mark)) (fun _ k => (HB24.kp k (by simp)).at 1 (by kernel_rfl)) <| Yq 3 1 <| Yl 4 119 (.string (str (gD l i).key)) (fun _ k => (HB24.kp k (by simp)).at 2 (by kernel_rfl)) <| Yq 5 1 <| Yl 6 121 (J ((gD l i).kind)) (fun _ k => (HB24.kp k (by simp)).at 3 (by kernel_rfl)) <| Yq 7 1 <| Yl 8 123 (J ((gD l i).value)) (fun _ k => (HB24.kp k (by simp)).at 4 (by kernel_rfl)) <| Yq 9 1 <| Yl 10 125 (J ((gD l i).time)) (fun _ k => (HB24.kp k (by simp)).at 5 (by kernel_rfl)) <| Yq 13 2 <| Yl 15 130 (J ((gD l i).mark)) (fun _ k => (HB24.kp k (by simp)).at 1 (by kernel_rfl)) <| Yq 16 1 <| Yl 17 132 (.string (str (gD l i).key)) (fun _ k => (HB24.kp k (by simp)).at 2 (by kernel_rfl)) <| Yq 18 1 <| Yl 19 134 (J ((gD l i).kind)) (fun _ k => (HB24.kp k (by simp)).at 3 (by kernel_rfl)) <| Yq 20 1 <| Yl 21 136 (J ((gD l i).value)) (fun _ k => (HB24.kp k (by simp)).at 4 (by kernel_rfl)) <| Yq 22 1 <| Yl 23 138 (J ((gD l i).time)) (fun _ k => (HB24.kp k (by simp)).at 5 (by kernel_rfl)) <| WO.call (SA.ER _ 11 _ (by kernel_rfl) rfl) 126 (by kernel_rfl) (tb_any (gD l i).mark (gD l i).key (gD l i).kind (gD l i).value (gD l i).time (HO_FT.keep F110 dj0) hW hk1_ hv1_ hpo (by omega) HS HR HTab HM) ?_
  rintro _ w111 ⟨rfl, FT113, HT, hsT, F112⟩
  refine ⟨_, rfl, (kp_of (kpC HB24.lt nin_g17_FT kp0)) _ F112, ?_⟩
  have nin_1_FT113 := grow_nin hsT nin_1_FT ((var_lt 1 (by kernel_rfl) HS))
  have nin_2_FT113 := grow_nin hsT nin_2_FT ((var_lt 2 (by kernel_rfl) HR))
  have nin_3_FT113 := grow_nin hsT nin_3_FT ((tab_lt HTab))
  have nin_0_FT113 := grow_nin hsT nin_0_FT ((max_lt HM))
  have HDe := HDe.keep F110 dj0
  have dj_FT113_FDe := grow_dj hsT dj_FT_FDe HDe.lt
  have HO_FD := (HO_FD.keep F31 dj0).keep F110 dj0
  have dj_FT113_FD := grow_dj hsT (dj_symm dj_FD_FT) HO_FD.lt
  have HA := HA.step0 F110
  have ge_HA_FT113 := grow_ge hsT ge_HA_FT HA.size
  refine WO.call (SA.ER _ 12 _ (by kernel_rfl) rfl) 127 (by kernel_rfl) (cdw (addK width windows rows (gD l i).mark pts (gD l i).key (gD l i).kind (gD l i).time) _ (addK_in ..)) ?_
  rintro _ w114 ⟨rfl, F115⟩
  refine ⟨_, rfl, (kp_of (kpC (HB24.keep F112 nin_g17_FT).lt (nin0 _) kp0)) _ F115, Yc 24 139 (dt_any (gD l i).mark (gD l i).key (gD l i).kind (gD l i).value (gD l i).time ((HO_FD.keep F112 dj_FD_FT).keep F115 dj0) hW hk1_ hpo) ?_⟩
  rintro _ w116 ⟨rfl, FD118, HDt, hsD, F117⟩
  have HS := (var_keep 1 (by kernel_rfl) HS F112 nin_1_FT).k F115
  refine ⟨_, rfl, trivial, ?_⟩
  have nin_1_FD118 := grow_nin hsD nin_1_FD ((var_lt 1 (by kernel_rfl) HS))
  have HR := (var_keep 2 (by kernel_rfl) HR F112 nin_2_FT).k F115
  have nin_2_FD118 := grow_nin hsD nin_2_FD ((var_lt 2 (by kernel_rfl) HR))
  have HTab := (tab_keep HTab F112 nin_3_FT).k F115
  have nin_3_FD118 := grow_nin hsD nin_3_FD ((tab_lt HTab))
  have HM := (max_keep HM F112 nin_0_FT).k F115
  have nin_0_FD118 := grow_nin hsD nin_0_FD ((max_lt HM))
  have HDe := (HDe.keep F112 (dj_symm dj_FT_FDe)).keep F115 dj0
  have dj_FD118_FDe := grow_dj hsD dj_FD_FDe HDe.lt
  have HT := HT.keep F115 dj0
  have dj_FD118_FT113 := grow_dj hsD (dj_symm dj_FT113_FD) HT.lt
  have HA := (HA.step F112 (inF ge_HA_FT)).step0 F115
  have ge_HA_FD118 := grow_ge hsD ge_HA_FD HA.size
  refine Yr0 [25] [(140, .bool (!decide ((addK width windows rows (gD l i).mark pts (gD l i).key (gD l i).kind (gD l i).time : Int) = (addK width windows rows (gD l i).mark pts (gD l i).key (gD l i).kind (gD l i).time))))] <| WO.topNT ((addK width windows rows (gD l i).mark pts (gD l i).key (gD l i).kind (gD l i).time : Int) = (addK width windows rows (gD l i).mark pts (gD l i).key (gD l i).kind (gD l i).time)) (by rfl) <| Ydn <| ZF <| Zk <| Zq ?_
  have hpo2_ : PtsOk (stepP width windows rows (gD l i).mark pts (gD l i).key (gD l i).kind (gD l i).value (gD l i).time) := stepP_ok hpo (by omega) hW hv1_
  have hpl2_ : (stepP width windows rows (gD l i).mark pts (gD l i).key (gD l i).kind (gD l i).value (gD l i).time).length ≤ i + 1 := Nat.le_trans stepP_len (by omega)
  have hmy_ := many_60 (show (stepP width windows rows (gD l i).mark pts (gD l i).key (gD l i).kind (gD l i).value (gD l i).time).length ≤ 60 by omega)
  have hz119 : (World.heap w116).size ≤ (World.heap w116).size := Nat.le_refl _
  have ltz_FD118 := HDt.lt
  refine ZER (FrB (World.heap w116).size) [19] [15] [1, 3, 8, 10] 22 ?_
  intro w120 F121 _
  have HT := (HT.keep F117 dj_FT113_FD).keep F121 dj0
  refine Yr [0, 2] <| Yc 1 142 (tb_opn HT) ?_
  rintro _ w122 ⟨rfl, F123⟩
  have HDt := (HDt.keep F121 dj0).keep F123 dj0
  refine ⟨_, rfl, trivial, Yc 3 144 (dt_sts HDt hpo2_) ?_⟩
  rintro _ w124 ⟨⟨A_, c_, rfl⟩, F125⟩
  have HT := (HT.keep F123 dj0).keep F125 dj0
  refine ⟨_, rfl, trivial, Yr0 [4, 5] [(146, .bool (!decide ((((startsP (stepP width windows rows (gD l i).mark pts (gD l i).key (gD l i).kind (gD l i).value (gD l i).time)).length : Int) : Int) = ((startsP (stepP width windows rows (gD l i).mark pts (gD l i).key (gD l i).kind (gD l i).value (gD l i).time)).length : Int)))), (145, J ((startsP (stepP width windows rows (gD l i).mark pts (gD l i).key (gD l i).kind (gD l i).value (gD l i).time)).length : Int))] <| WO.topNT ((((startsP (stepP width windows rows (gD l i).mark pts (gD l i).key (gD l i).kind (gD l i).value (gD l i).time)).length : Int) : Int) = ((startsP (stepP width windows rows (gD l i).mark pts (gD l i).key (gD l i).kind (gD l i).value (gD l i).time)).length : Int)) (by rfl) <| Yr [6, 7, 9] <| Yc 8 149 (tb_rows HT hmy_) ?_⟩
  rintro _ w126 ⟨rfl, F127⟩
  have HDt := (HDt.keep F125 dj0).keep F127 dj0
  refine ⟨_, rfl, trivial, Yc 10 151 (dt_mny HDt hpo2_) ?_⟩
  rintro _ w128 ⟨rfl, F129⟩
  have HDt := HDt.keep F129 dj0
  have HT := (HT.keep F127 dj0).keep F129 dj0
  refine ⟨_, rfl, trivial, Yr0 [11] [(152, .bool (!decide ((((manyP (stepP width windows rows (gD l i).mark pts (gD l i).key (gD l i).kind (gD l i).value (gD l i).time)) : Int) : Int) = ((manyP (stepP width windows rows (gD l i).mark pts (gD l i).key (gD l i).kind (gD l i).value (gD l i).time)) : Int))))] <| WO.topNT ((((manyP (stepP width windows rows (gD l i).mark pts (gD l i).key (gD l i).kind (gD l i).value (gD l i).time)) : Int) : Int) = ((manyP (stepP width windows rows (gD l i).mark pts (gD l i).key (gD l i).kind (gD l i).value (gD l i).time)) : Int)) (by rfl) <| Yr [12, 13, 14, 16, 17, 18] <| Yl 19 160 (J sq) (fun _ k_ => DT.sqB HDt k_ ltz_FD118) <| WO.call (SA.ER _ 15 _ (by kernel_rfl) rfl) 156 (by kernel_rfl) (tb_seq HT) ?_⟩
  rintro _ w130 ⟨rfl, F131⟩
  refine ⟨_, rfl, (frB_of (Nat.le_trans (Nat.le_trans (Nat.le_trans (Nat.le_trans (Nat.le_trans hz119 F121.size) F123.size) F125.size) F127.size) F129.size) (by simp)) _ F131, Yr0 [20] [(161, .bool (!decide ((sq : Int) = sq)))] <| WO.topNT ((sq : Int) = sq) (by rfl) <| Yq 21 1 <| Ydn <| ZF <| WE.skip <| WQ.blkN <| Zn <| WE.region <| Zr 1 <| Zo 76 (J (IntKind.i64.wrap ((i : Int) + 1))) <| WO.top (v' := J ((i + 1 : Nat) : Int)) (wrap_i64 (by omega) (by omega)) <| Zr 1 <| Zd <| WQ.round ?_⟩
  intro a_ ha_
  refine ⟨(i + 1, (stepP width windows rows (gD l i).mark pts (gD l i).key (gD l i).kind (gD l i).value (gD l i).time), sq, FT113, FD118), ?_, ha_.keep [4, 10, 11, 12, 13, 16] (by kernel_rfl), ?_⟩
  ·
   show l.length - (i + 1) < l.length - i; omega
  ·
   exact ⟨by omega, hpo2_, hpl2_, by omega, (((((((HDe.keep F117 (dj_symm dj_FD_FDe)).keep F121 dj0).keep F123 dj0).keep F125 dj0).keep F127 dj0).keep F129 dj0).keep F131 dj0), (((((((var_keep 1 (by kernel_rfl) HS F117 nin_1_FD).k F121).k F123).k F125).k F127).k F129).k F131), (((((((var_keep 2 (by kernel_rfl) HR F117 nin_2_FD).k F121).k F123).k F125).k F127).k F129).k F131), (((((((tab_keep HTab F117 nin_3_FD).k F121).k F123).k F125).k F127).k F129).k F131), (((((((max_keep HM F117 nin_0_FD).k F121).k F123).k F125).k F127).k F129).k F131), (HT.keep F131 dj0), nin_1_FT113, nin_2_FT113, nin_3_FT113, nin_0_FT113, dj_FT113_FDe, ge_HA_FT113, (HDt.keep F131 dj0), nin_1_FD118, nin_2_FD118, nin_3_FD118, nin_0_FD118, dj_FD118_FDe, dj_FD118_FT113, ge_HA_FD118, (((((((HA.step F117 (inF ge_HA_FD)).step0 F121).step0 F123).step0 F125).step0 F127).step0 F129).step0 F131)⟩
 intro h14
 refine Zdn <| ZF <| WE.exit <| WQ.thenE <| WQ.thenE <| WQ.blkE <| Zn <| Zsg <| Zr 2 <| Zdn <| WE.ret <| ZR (.bool true) ?_
 exact ⟨rfl, HA⟩
end Go.Proofs.YtdhonbahpcmmnaaGreatDoor.Bat
end
section
set_option linter.unusedVariables false
set_option linter.unusedSimpArgs false
namespace Go.Proofs.YtdhonbahpcmmnaaGreatDoor.Bat
open Go Go.Proofs.YtdhonbahpcmmnaaGreatDoor.Eng
open Go.Proofs.YtdhonbahpcmmnaaGreatDoor.Line (ofE)
def PGood (width : Int) (pts : List Pn) : Prop := ∀ p ∈ pts, (ofE p.key).isSome = true ∧ (1 ≤ p.kind ∧ p.kind ≤ 3) ∧ I64 p.value ∧ p.start % width = 0
theorem PGood.left {width : Int} {pts : List Pn} (h : PGood width pts) (s : Int) : PGood width (leftP pts s) := fun p hp => h p (List.mem_filter.1 hp).1
end Go.Proofs.YtdhonbahpcmmnaaGreatDoor.Bat
end
section
set_option linter.unusedVariables false
set_option linter.unusedSimpArgs false
namespace Go.Proofs.YtdhonbahpcmmnaaGreatDoor.Bat
open Go Go.RowKit Go.Proofs.YtdhonbahpcmmnaaGreatDoor Go.Proofs.YtdhonbahpcmmnaaGreatDoor.Eng Go.Proofs.YtdhonbahpcmmnaaGreatDoorW.PrintWords
open Go.Proofs Go.Maps
open Go.Proofs.YtdhonbahpcmmnaaGreatDoor.Line
end Go.Proofs.YtdhonbahpcmmnaaGreatDoor.Bat
end
section
set_option linter.unusedVariables false
namespace Go.Proofs.YtdhonbahpcmmnaaGreatDoor.Opens
open Go.ChangeShapes Go.WideShapes Go.RowKit Go.Proofs.YtdhonbahpcmmnaaGreatDoorW.PrintWords Go.Proofs.YtdhonbahpcmmnaaGreatDoorW.PrintLast
def Opens (P : Program) {α : Type} (d : Kd α) (good : α → Prop) (t : TypeId) : Prop :=
 ∀ (H : Type) (enc : TypeId × Value → H) (W : World) (base : Nat) (spare : Nat → Bool) (held : Bool) (fuel : Nat) (cs : List Value) (x : DataW H × List MemPlace),
  DataW.trod enc P W base spare held fuel t cs = some x → ∃ a, d.K W a cs ∧ good a
theorem opens_int {P : Program} {t : TypeId} {k : IntKind} (ht : P.underlying t = some (.int k)) : Opens P (Kd.int k) (fun x => (Lit.int k x).wf = true) t := by
 intro H enc W base spare held fuel cs x h
 obtain ⟨n, rfl, _, hw⟩ := DataW.trod_int ht h
 exact ⟨n, rfl, hw⟩
theorem opens_bool {P : Program} {t : TypeId} (ht : P.underlying t = some .bool) : Opens P Kd.bool (fun _ => True) t := by
 intro H enc W base spare held fuel cs x h
 obtain ⟨b, rfl, _⟩ := DataW.trod_bool ht h
 exact ⟨b, rfl, trivial⟩
theorem opens_string {P : Program} {t : TypeId} (ht : P.underlying t = some .string) : Opens P Kd.string (fun s => s.size ≤ 9223372036854775807) t := by
 intro H enc W base spare held fuel cs x h
 obtain ⟨s, rfl, _, hs⟩ := DataW.trod_string ht h
 exact ⟨s, rfl, hs⟩
theorem opens_slice {P : Program} {t e : TypeId} {α : Type} {d : Kd α} {good : α → Prop} (ht : P.underlying t = some (.slice e)) (hc : P.cellsOf e = d.sz) (he : Opens P d good e) :
  Opens P (Kd.slice e d) (fun xs => xs.length ≤ 9223372036854775807 ∧ ∀ x ∈ xs, good x) t := by
 intro H enc W base spare held fuel cs x h
 rcases Go.Deep.open_slice ht h with ⟨rfl, _⟩ | ⟨a, len, cap, m, n, D, Pl, rfl, _, hl, hm, hmm, _, hx⟩
 ·
  exact ⟨[], ⟨none, 0, rfl, Nat.le_refl _, Kd.C_nil _ _⟩, by simp, fun x hx => by simp at hx⟩
 ·
  have hlm : len ≤ m := by rw [hmm]; split <;> omega
  have hone : ∀ i, i < len → ∃ (b : α) (cs' : List Value), W.cells? base (a.add (i * P.cellsOf e)) (P.cellsOf e) = some cs' ∧ d.K W b cs' ∧ good b := by
   intro i hi
   obtain ⟨cs', h1, h2⟩ := hx i (by omega)
   obtain ⟨b, hk, hg⟩ := he H enc W base spare held n cs' _ h2
   exact ⟨b, cs', h1, hk, hg⟩
  have hlist : ∀ j, j ≤ len → ∃ l : List α, l.length = j ∧ ∀ i b, l[i]? = some b → ∃ cs', W.cells? base (a.add (i * P.cellsOf e)) (P.cellsOf e) = some cs' ∧ d.K W b cs' ∧ good b := by
   intro j
   induction j with
   | zero => intro _; exact ⟨[], rfl, fun i b hb => by simp at hb⟩
   | succ j ih =>
    intro hj
    obtain ⟨l, hl1, hl2⟩ := ih (by omega)
    obtain ⟨b, cs', h1, h2, h3⟩ := hone j (by omega)
    refine ⟨l ++ [b], by simp [hl1], fun i b' hb => ?_⟩
    by_cases hi : i < j
    ·
     rw [List.getElem?_append_left (by omega)] at hb
     exact hl2 i b' hb
    ·
     have hij : i = j := by
      have := (List.getElem?_eq_some_iff.1 hb).1
      simp [hl1] at this
      omega
     subst hij
     rw [List.getElem?_append_right (by omega), hl1] at hb
     simp at hb
     subst hb
     exact ⟨cs', h1, h2, h3⟩
  obtain ⟨l, hl1, hl2⟩ := hlist len (Nat.le_refl _)
  unfold maxLen at hm
  refine ⟨l, ⟨some a, cap, by rw [hl1], by omega, rfl, by omega, fun _ => ⟨a, rfl, fun j p hp => ?_⟩⟩, by omega, fun y hy => ?_⟩
  ·
   obtain ⟨cs', h1, h2, _⟩ := hl2 j p hp
   obtain ⟨_, hlen, hcell⟩ := World.cells?_some h1
   refine ⟨cs', by rw [hlen, hc], h2, fun i u hu => ?_⟩
   rw [← hc]
   have hi : i < P.cellsOf e := by
    have := (List.getElem?_eq_some_iff.1 hu).1
    omega
   have := hcell i hi
   rw [← Go.Deep.add_add, this]
   exact hu
  ·
   obtain ⟨j, hj, rfl⟩ := List.getElem_of_mem hy
   obtain ⟨_, _, _, hg⟩ := hl2 j _ (List.getElem?_eq_getElem hj)
   exact hg
def OpensF (P : Program) {α : Type} (d : Kd α) (good : α → Prop) (fs : List Field) (off : Nat) : Prop :=
 ∀ (H : Type) (enc : TypeId × Value → H) (W : World) (base : Nat) (spare : Nat → Bool) (held : Bool) (fuel : Nat) (cs : List Value),
  (∀ f ∈ fs, ∃ y, DataW.trod enc P W base spare held fuel f.type ((cs.drop f.offset).take (P.cellsOf f.type)) = some y) → cs.length = off + d.sz → ∃ a, d.K W a (cs.drop off) ∧ good a
theorem opensF_one {P : Program} {α : Type} {d : Kd α} {good : α → Prop} {f : Field} {off : Nat} (ho : f.offset = off) (hc : P.cellsOf f.type = d.sz) (h : Opens P d good f.type) : OpensF P d good [f] off := by
 intro H enc W base spare held fuel cs hf hlen
 obtain ⟨y, hy⟩ := hf f (List.mem_singleton.2 rfl)
 rw [ho, hc, List.take_of_length_le (by simp; omega)] at hy
 exact h H enc W base spare held fuel _ _ hy
theorem opensF_cons {P : Program} {α β : Type} {d : Kd α} {d' : Kd β} {good : α → Prop} {good' : β → Prop} {f : Field} {fs : List Field} {off : Nat} (ho : f.offset = off) (hc : P.cellsOf f.type = d.sz) (h : Opens P d good f.type)
  (hr : OpensF P d' good' fs (off + d.sz)) : OpensF P (Kd.pair d d') (fun x => good x.1 ∧ good' x.2) (f :: fs) off := by
 intro H enc W base spare held fuel cs hf hlen
 have hlen' : cs.length = off + (d.sz + d'.sz) := hlen
 obtain ⟨y, hy⟩ := hf f List.mem_cons_self
 rw [ho, hc] at hy
 obtain ⟨a, ha, hga⟩ := h H enc W base spare held fuel _ _ hy
 obtain ⟨b, hb, hgb⟩ := hr H enc W base spare held fuel cs (fun f' hf' => hf f' (List.mem_cons_of_mem _ hf')) (by omega)
 refine ⟨(a, b), ⟨_, _, ?_, ha, hb⟩, hga, hgb⟩
 rw [← List.drop_drop, List.take_append_drop]
theorem opens_struct {P : Program} {α β : Type} {d : Kd α} {good : α → Prop} {t : TypeId} {fs : Array Field} (f : β → α) (g : α → β) (hfg : ∀ a, f (g a) = a) (ht : P.underlying t = some (.struct fs)) (hc : P.cellsOf t = d.sz) (h : OpensF P d good fs.toList 0) :
  Opens P (Kd.iso d f) (fun b => good (f b)) t := by
 intro H enc W base spare held fuel cs x hx
 obtain ⟨xs, n, rfl, _, hlen, hxl, hf⟩ := DataW.trod_struct ht hx
 obtain ⟨a, ha, hga⟩ := h H enc W base spare held n cs (fun fd hfd => by
  obtain ⟨i, hi, rfl⟩ := List.getElem_of_mem hfd
  have hi' : i < fs.size := by simpa using hi
  have h1 := hf i fs[i] (by simp [hi'])
  have h2 : i < xs.length := by omega
  rw [List.getElem?_eq_getElem h2] at h1
  exact ⟨_, by simpa using h1⟩) (by omega)
 refine ⟨g a, ?_, ?_⟩
 ·
  show d.K W (f (g a)) cs
  rw [hfg]
  simpa using ha
 ·
  show good (f (g a))
  rw [hfg]
  exact hga
theorem arg_slice {P : Program} {t e : TypeId} {α : Type} {d : Kd α} {good : α → Prop} (ht : P.underlying t = some (.slice e)) (hc : P.cellsOf e = d.sz) (he : Opens P d good e)
  {H : Type} {enc : TypeId × Value → H} {W : World} {base : Nat} {spare : Nat → Bool} {held : Bool} {a : Option Addr} {len cap : Nat} {x : DataW H} {ps : List MemPlace} (h : DataW.Trod enc P W base spare held t (.slice a len cap) x ps) :
  ∃ l : List α, l.length = len ∧ Kd.C d W a l.length l ∧ l.length ≤ cap ∧ (l.length ≤ 9223372036854775807 ∧ ∀ x ∈ l, good x) := by
 obtain ⟨fuel, hf⟩ := h
 obtain ⟨l, ⟨A, c, hcs, hl, hC⟩, hg⟩ := opens_slice ht hc he H enc W base spare held fuel _ _ hf
 simp [Value.cells] at hcs
 obtain ⟨rfl, rfl, rfl⟩ := hcs
 exact ⟨l, rfl, hC, hl, hg⟩
end Go.Proofs.YtdhonbahpcmmnaaGreatDoor.Opens
end
