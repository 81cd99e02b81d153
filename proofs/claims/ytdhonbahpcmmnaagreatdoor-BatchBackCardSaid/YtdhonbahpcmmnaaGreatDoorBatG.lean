/- Layer 7's walks: small, read, Get. -/
import Derived.Test.YtdhonbahpcmmnaaGreatDoorBatP
import Derived.Test.YtdhonbahpcmmnaaGreatDoorEngC
set_option linter.unusedVariables false
set_option linter.unusedSimpArgs false
namespace Go.Proofs.YtdhonbahpcmmnaaGreatDoor.Bat
open Go Go.RowKit Go.Proofs.YtdhonbahpcmmnaaGreatDoor Go.Proofs.YtdhonbahpcmmnaaGreatDoor.Eng Go.Proofs.YtdhonbahpcmmnaaGreatDoorW.PrintWords
open Go.Proofs
open Go.Proofs.YtdhonbahpcmmnaaGreatDoor.Line
open Go.Proofs.YtdhonbahpcmmnaaGreatDoor.Wire (enc zig unzig encT St rNum rWhole rText rEnd)
theorem et_n : ET Tryz.prog 52 46 1 8 := by
  obtain ⟨i, h1, h2, h3, h4⟩ := info_parts (P := Tryz.prog) (e := 46) (z := .int .u64 0) (size := 1) (bytes := 8) (by kernel_rfl)
  exact ⟨by kernel_rfl, ⟨i, _, h1, h2, h3, h4, rfl⟩, by decide⟩
theorem et_w : ET Tryz.prog 22 54 8 88 := by
  obtain ⟨i, h1, h2, h3, h4⟩ := info_parts (P := Tryz.prog) (e := 54) (z := .agg #[.string ⟨#[]⟩, .int .i64 0, .int .u64 0, .int .i64 0, .int .i64 0, .int .i64 0, .bool false, .slice none 0 0]) (size := 8) (bytes := 88) (by kernel_rfl)
  exact ⟨by kernel_rfl, ⟨i, _, h1, h2, h3, h4, rfl⟩, by decide⟩
def ResX (l : L) (g : Nat) (A : Option Addr) (n cp : Nat) (s : St) (w w' : World) (e : Ending) : Prop := match readR l s with
  | none => ∃ k a b c d f o A' n' c', e = .returned (.tuple #[.agg #[.string k, .int .i64 a, .int .u64 b, .int .i64 c, .int .i64 d, .int .i64 f, .bool o, .slice A' n' c'], .bool false]) ∧ Fr [g] w w'
  | some (r, s') => ∃ A' c' F', e = .returned (.tuple #[.agg #[.string (str r.key), .int .i64 r.kind, .int .u64 (r.many : Int), .int .i64 r.sum, .int .i64 r.least, .int .i64 r.most, .bool r.over, .slice A' r.bk.length c'], .bool true]) ∧ Wire.Rd 114 w' g (.slice A n cp) s' ∧ VX cN 1 w' F' A' r.bk ∧ r.bk.length ≤ c' ∧ (∀ y ∈ F', w.heap.size ≤ y) ∧ Fr [g] w w'
set_option maxRecDepth 100000 in
set_option maxHeartbeats 400000 in
theorem small_f (most : Nat) (g : Nat) (s : St) (A : Option Addr) (n cp : Nat) (l : L) (FB : List Nat) (w : World) (HV : VX cB 1 w FB A l) (hn : l.length = n) (hc : n ≤ cp) (hlen : l.length ≤ 1000000000) (hg : g ∉ FB) (HR0 : Wire.Rd 114 w g (.slice A n cp) s) (hs : s.ok l) (hmost : most ≤ 9223372036854775807) :
    Calls Tryz.prog 42 #[.pointer (some ⟨g, 0, none⟩), .int .u64 (most : Int)] w fun e w' => ∃ z : Int, e = .returned (.int .i64 z) ∧ (most < (rNum l s).1 ∧ z = -1 ∨ (rNum l s).1 ≤ most ∧ z = ((rNum l s).1 : Int)) ∧ Wire.Rd 114 w' g (.slice A n cp) (rNum l s).2 ∧ Fr [g] w w' := by
 have HA := Fr.refl [g] w
 refine Zen (N := 13) Tryz.func42 (c := _) [(0, Pt g 0), (1, .int .u64 (most : Int))] <| Zsg <| Zr 1 [(4, J 0)] <| Zdn <| Zsg <| Zr 1 [(6, Pt g 0)] <| Zc 7 (Wire.rnum_any g s A n cp l FB _ HV hn hc hlen hg HR0 hs) ?_
 rintro _ w1 ⟨rfl, HR3, F2⟩
 refine ⟨_, rfl, trivial, ?_⟩
 obtain ⟨s4, hs4⟩ : ∃ s_, s_ = (rNum l s).2 := ⟨_, rfl⟩
 rw [← hs4] at HR3
 have ok_s4 : St.ok l s4 := by rw [hs4]; exact Wire.rNum_ok hs
 obtain ⟨x5, hx5⟩ : ∃ x_ : Nat, x_ = (rNum l s).1 := ⟨_, rfl⟩
 rw [← hx5]
 have lt_x5 : x5 < 18446744073709551616 := by rw [hx5]; exact Wire.rNum_lt _ _
 refine Zr 1 [(5, .int .u64 (x5 : Int))] <| Zdn <| Zq <| Zsg <| Zr 2 [(9, .int .u64 (most : Int)), (8, .int .u64 (x5 : Int))] <| ZoP 10 (((x5 : Int) : Int) > (most : Int)) ?_ ?_
 ·
  intro h6
  refine Zdn <| ZT <| Zsg <| Zr 1 [(4, J (-1))] <| Zdn <| WE.ret <| WQ.thenR <| ZR (J (-1)) ?_
  rw [hs4] at HR3
  have HA := HA.step F2 (inSL (by simp) inS0)
  exact ⟨_, rfl, by omega, HR3, HA⟩
 intro h6
 refine Zdn <| ZF <| Zk <| Zsg <| Zr 1 [(11, .int .u64 (x5 : Int))] <| Zwr 12 (x5 : Int) (x5 : Int) <| Zr 1 [(4, J (x5 : Int))] <| Zdn <| WE.ret <| ZR (J (x5 : Int)) ?_
 rw [hs4] at HR3
 have HA := HA.step F2 (inSL (by simp) inS0)
 exact ⟨_, rfl, by omega, HR3, HA⟩
set_option maxRecDepth 100000 in
set_option maxHeartbeats 400000 in
theorem read_f (g : Nat) (s : St) (A : Option Addr) (n cp : Nat) (l : L) (FB : List Nat) (w : World) (HV : VX cB 1 w FB A l) (hn : l.length = n) (hc : n ≤ cp) (hlen : l.length ≤ 1000000000) (hg : g ∉ FB) (HR0 : Wire.Rd 114 w g (.slice A n cp) s) (hs : s.ok l) :
    Calls Tryz.prog 43 #[.pointer (some ⟨g, 0, none⟩)] w fun e w' => ResX l g A n cp s w w' e := by
 have HA := Fr.refl [g] w
 refine Zen (N := 53) Tryz.func43 (c := _) [(0, Pt g 0)] <| Zsg <| Zb 2 #[.string (⟨#[]⟩), J 0, .int .u64 0, J 0, J 0, J 0, .bool false, .slice none 0 0] 54 (fun g => Pt g 0) ?_
 intro g1 w2 HB4 F3 le5 _
 have ne_g_g1 : g ≠ g1 := Nat.ne_of_lt (Nat.lt_of_lt_of_le (Wire.Rd.lt HR0) le5)
 have ge_HA_g1 := Nat.le_trans HA.size le5
 have HR0 := Wire.Rd.keep HR0 F3 (nin0 _)
 have HV := HV.keep F3 dj0
 refine Zr 1 [(3, .bool false)] <| Zdn <| Zsg <| Zr 1 [(7, Pt g 0)] <| Zc 8 (Wire.rtext_any g s 300 A n cp l FB _ HV hn hc hlen hg HR0 hs (by omega)) ?_
 rintro _ w6 ⟨rfl, HR8, F7⟩
 refine ⟨_, rfl, trivial, ?_⟩
 obtain ⟨s9, hs9⟩ : ∃ s_, s_ = (rText l 300 s).2 := ⟨_, rfl⟩
 rw [← hs9] at HR8
 have ok_s9 : St.ok l s9 := by rw [hs9]; exact Wire.rText_ok hs
 obtain ⟨x10, hx10⟩ : ∃ x_ : L, x_ = (rText l 300 s).1 := ⟨_, rfl⟩
 rw [← hx10]
 have HV := HV.keep F7 (djB hg)
 refine Zr 1 [(9, Pt g 0)] <| Zc 10 (small_f 3 g s9 A n cp l FB _ HV hn hc hlen hg HR8 ok_s9 (by decide)) ?_
 rintro _ w11 ⟨z14, rfl, hz15, HR13, F12⟩
 refine ⟨_, rfl, trivial, ?_⟩
 obtain ⟨s16, hs16⟩ : ∃ s_, s_ = (rNum l s9).2 := ⟨_, rfl⟩
 rw [← hs16] at HR13
 have ok_s16 : St.ok l s16 := by rw [hs16]; exact Wire.rNum_ok ok_s9
 obtain ⟨x17, hx17⟩ : ∃ x_ : Nat, x_ = (rNum l s9).1 := ⟨_, rfl⟩
 rw [← hx17] at hz15
 have lt_x17 : x17 < 18446744073709551616 := by rw [hx17]; exact Wire.rNum_lt _ _
 have HV := HV.keep F12 (djB hg)
 refine Zr 1 [(11, Pt g 0)] <| Zc 12 (Wire.rnum_any g s16 A n cp l FB _ HV hn hc hlen hg HR13 ok_s16) ?_
 rintro _ w18 ⟨rfl, HR20, F19⟩
 refine ⟨_, rfl, trivial, ?_⟩
 obtain ⟨s21, hs21⟩ : ∃ s_, s_ = (rNum l s16).2 := ⟨_, rfl⟩
 rw [← hs21] at HR20
 have ok_s21 : St.ok l s21 := by rw [hs21]; exact Wire.rNum_ok ok_s16
 obtain ⟨x22, hx22⟩ : ∃ x_ : Nat, x_ = (rNum l s16).1 := ⟨_, rfl⟩
 rw [← hx22]
 have lt_x22 : x22 < 18446744073709551616 := by rw [hx22]; exact Wire.rNum_lt _ _
 refine Zr 1 [(13, .agg #[.string (str x10), J z14, .int .u64 (x22 : Int), J 0, J 0, J 0, .bool false, .slice none 0 0])] <| Zb 4 #[.string (⟨#[]⟩), J 0, .int .u64 0, J 0, J 0, J 0, .bool false, .slice none 0 0] 54 (fun g => Pt g 0) ?_
 intro g23 w24 HB26 F25 le27 _
 have HB4 := ((HB4.j F7 (Ne.symm ne_g_g1)).j F12 (Ne.symm ne_g_g1)).j F19 (Ne.symm ne_g_g1)
 have ne_g1_g23 := ltn HB4.lt le27
 have HV := HV.keep F19 (djB hg)
 have nin_g23_FB := new_nin HV.lt le27
 have ne_g_g23 : g ≠ g23 := Nat.ne_of_lt (Nat.lt_of_lt_of_le (Wire.Rd.lt HR20) le27)
 have HA := (((HA.step0 F3).step F7 (inSL (by simp) inS0)).step F12 (inSL (by simp) inS0)).step F19 (inSL (by simp) inS0)
 have ge_HA_g23 := Nat.le_trans HA.size le27
 have HR20 := Wire.Rd.keep HR20 F25 (nin0 _)
 refine Zs g23 0 [.string (str x10), J z14, .int .u64 (x22 : Int), J 0, J 0, J 0, .bool false, .slice none 0 0] #[.string (str x10), J z14, .int .u64 (x22 : Int), J 0, J 0, J 0, .bool false, .slice none 0 0] HB26 ?_
 intro w28 HB30 F29 _
 have HR20 := Wire.Rd.keep HR20 F29 (ninC ne_g_g23 (nin0 _))
 have HV := (HV.keep F25 dj0).keep F29 (djB nin_g23_FB)
 refine Zdn <| Zsg <| Zr 1 [(14, Pt g 0)] <| Zc 15 (Wire.rwhole_any g s21 A n cp l FB _ HV hn hc hlen hg HR20 ok_s21) ?_
 rintro _ w31 ⟨rfl, HR33, F32⟩
 refine ⟨_, rfl, trivial, ?_⟩
 obtain ⟨s34, hs34⟩ : ∃ s_, s_ = (rWhole l s21).2 := ⟨_, rfl⟩
 rw [← hs34] at HR33
 have ok_s34 : St.ok l s34 := by rw [hs34]; exact Wire.rNum_ok ok_s21
 obtain ⟨x35, hx35⟩ : ∃ x_ : Int, x_ = (rWhole l s21).1 := ⟨_, rfl⟩
 rw [← hx35]
 have HB30 := HB30.j F32 (Ne.symm ne_g_g23)
 refine Zr 1 [(16, Pt g23 3)] <| Zs g23 3 [J x35] #[.string (str x10), J z14, .int .u64 (x22 : Int), J x35, J 0, J 0, .bool false, .slice none 0 0] HB30 ?_
 intro w36 HB38 F37 _
 have HR33 := Wire.Rd.keep HR33 F37 (ninC ne_g_g23 (nin0 _))
 have HV := (HV.keep F32 (djB hg)).keep F37 (djB nin_g23_FB)
 refine Zdn <| Zsg <| Zr 1 [(17, Pt g 0)] <| Zc 18 (Wire.rwhole_any g s34 A n cp l FB _ HV hn hc hlen hg HR33 ok_s34) ?_
 rintro _ w39 ⟨rfl, HR41, F40⟩
 refine ⟨_, rfl, trivial, ?_⟩
 obtain ⟨s42, hs42⟩ : ∃ s_, s_ = (rWhole l s34).2 := ⟨_, rfl⟩
 rw [← hs42] at HR41
 have ok_s42 : St.ok l s42 := by rw [hs42]; exact Wire.rNum_ok ok_s34
 obtain ⟨x43, hx43⟩ : ∃ x_ : Int, x_ = (rWhole l s34).1 := ⟨_, rfl⟩
 rw [← hx43]
 have HB38 := HB38.j F40 (Ne.symm ne_g_g23)
 refine Zr 1 [(19, Pt g23 4)] <| Zs g23 4 [J x43] #[.string (str x10), J z14, .int .u64 (x22 : Int), J x35, J x43, J 0, .bool false, .slice none 0 0] HB38 ?_
 intro w44 HB46 F45 _
 have HR41 := Wire.Rd.keep HR41 F45 (ninC ne_g_g23 (nin0 _))
 have HV := (HV.keep F40 (djB hg)).keep F45 (djB nin_g23_FB)
 refine Zdn <| Zsg <| Zr 1 [(20, Pt g 0)] <| Zc 21 (Wire.rwhole_any g s42 A n cp l FB _ HV hn hc hlen hg HR41 ok_s42) ?_
 rintro _ w47 ⟨rfl, HR49, F48⟩
 refine ⟨_, rfl, trivial, ?_⟩
 obtain ⟨s50, hs50⟩ : ∃ s_, s_ = (rWhole l s42).2 := ⟨_, rfl⟩
 rw [← hs50] at HR49
 have ok_s50 : St.ok l s50 := by rw [hs50]; exact Wire.rNum_ok ok_s42
 obtain ⟨x51, hx51⟩ : ∃ x_ : Int, x_ = (rWhole l s42).1 := ⟨_, rfl⟩
 rw [← hx51]
 have HB46 := HB46.j F48 (Ne.symm ne_g_g23)
 refine Zr 1 [(22, Pt g23 5)] <| Zs g23 5 [J x51] #[.string (str x10), J z14, .int .u64 (x22 : Int), J x35, J x43, J x51, .bool false, .slice none 0 0] HB46 ?_
 intro w52 HB54 F53 _
 have HR49 := Wire.Rd.keep HR49 F53 (ninC ne_g_g23 (nin0 _))
 have HV := (HV.keep F48 (djB hg)).keep F53 (djB nin_g23_FB)
 refine Zdn <| Zsg <| Zr 1 [(23, Pt g 0)] <| Zc 24 (small_f 1 g s50 A n cp l FB _ HV hn hc hlen hg HR49 ok_s50 (by decide)) ?_
 rintro _ w55 ⟨z58, rfl, hz59, HR57, F56⟩
 refine ⟨_, rfl, trivial, ?_⟩
 obtain ⟨s60, hs60⟩ : ∃ s_, s_ = (rNum l s50).2 := ⟨_, rfl⟩
 rw [← hs60] at HR57
 have ok_s60 : St.ok l s60 := by rw [hs60]; exact Wire.rNum_ok ok_s50
 obtain ⟨x61, hx61⟩ : ∃ x_ : Nat, x_ = (rNum l s50).1 := ⟨_, rfl⟩
 rw [← hx61] at hz59
 have lt_x61 : x61 < 18446744073709551616 := by rw [hx61]; exact Wire.rNum_lt _ _
 have HB54 := HB54.j F56 (Ne.symm ne_g_g23)
 refine Zr 1 [(5, J z58)] <| Zdn <| Zsg <| Zr 3 [(27, Pt g23 6), (26, .bool (decide ((z58 : Int) = 1))), (25, J z58)] <| Zs g23 6 [.bool (decide ((z58 : Int) = 1))] #[.string (str x10), J z14, .int .u64 (x22 : Int), J x35, J x43, J x51, .bool (decide ((z58 : Int) = 1)), .slice none 0 0] HB54 ?_
 intro w62 HB64 F63 _
 have HR57 := Wire.Rd.keep HR57 F63 (ninC ne_g_g23 (nin0 _))
 have HV := (HV.keep F56 (djB hg)).keep F63 (djB nin_g23_FB)
 refine Zdn <| Zsg <| Zr 1 [(28, Pt g 0)] <| Zc 29 (small_f 65 g s60 A n cp l FB _ HV hn hc hlen hg HR57 ok_s60 (by decide)) ?_
 rintro _ w65 ⟨z68, rfl, hz69, HR67, F66⟩
 refine ⟨_, rfl, trivial, ?_⟩
 obtain ⟨s70, hs70⟩ : ∃ s_, s_ = (rNum l s60).2 := ⟨_, rfl⟩
 rw [← hs70] at HR67
 have ok_s70 : St.ok l s70 := by rw [hs70]; exact Wire.rNum_ok ok_s60
 obtain ⟨x71, hx71⟩ : ∃ x_ : Nat, x_ = (rNum l s60).1 := ⟨_, rfl⟩
 rw [← hx71] at hz69
 have lt_x71 : x71 < 18446744073709551616 := by rw [hx71]; exact Wire.rNum_lt _ _
 refine Zr 1 [(6, J z68)] <| Zdn <| Zq <| Zsg <| Zr 2 [(31, J 0), (30, J z68)] <| Zdn <| WE.block ?_
 have HRL : Wire.Rd 114 w65 g (.slice A n cp) (readN l 0 s70).2 := HR67
 refine WE.loop (α := Nat × List Nat × Option Addr × Nat × List Nat) (E := fun ⟨i, FQ, Ab, cb, qb⟩ => [(0, Pt g 0), (2, Pt g1 0), (3, .bool false), (4, Pt g23 0), (5, J z58), (6, J z68), (30, J z68), (31, J (i : Int))]) (I := fun ⟨i, FQ, Ab, cb, qb⟩ wr => i ≤ x71 ∧ (i = 0 ∨ z68 = (x71 : Int)) ∧ qb = (readN l i s70).1 ∧ Blk wr g1 #[.string (⟨#[]⟩), J 0, .int .u64 0, J 0, J 0, J 0, .bool false, .slice none 0 0] 54 ∧ Blk wr g23 #[.string (str x10), J z14, .int .u64 (x22 : Int), J x35, J x43, J x51, .bool (decide ((z58 : Int) = 1)), .slice Ab qb.length cb] 54 ∧ VX cB 1 wr FB A l ∧ Wire.Rd 114 wr g (.slice A n cp) ((readN l i s70).2) ∧ OwnX 46 1 wr FQ (.slice Ab qb.length cb) (List.map cN qb) ∧ g1 ∉ FQ ∧ g23 ∉ FQ ∧ g ∉ FQ ∧ (∀ y ∈ FQ, y ∉ FB) ∧ (∀ y ∈ FQ, (World.heap w).size ≤ y) ∧ Fr [g] w wr) (m := fun ⟨i, FQ, Ab, cb, qb⟩ => x71 - i) (0, [], none, 0, []) [0, 2, 3, 4, 5, 6, 30, 31] (by kernel_rfl) ?_ ?_
 ·
  have HB4 := ((((((((((HB4.k F25).j F29 ne_g1_g23).j F32 (Ne.symm ne_g_g1)).j F37 ne_g1_g23).j F40 (Ne.symm ne_g_g1)).j F45 ne_g1_g23).j F48 (Ne.symm ne_g_g1)).j F53 ne_g1_g23).j F56 (Ne.symm ne_g_g1)).j F63 ne_g1_g23).j F66 (Ne.symm ne_g_g1)
  have HA := ((((((((((HA.step0 F25).step F29 (inSR ge_HA_g23 inS0)).step F32 (inSL (by simp) inS0)).step F37 (inSR ge_HA_g23 inS0)).step F40 (inSL (by simp) inS0)).step F45 (inSR ge_HA_g23 inS0)).step F48 (inSL (by simp) inS0)).step F53 (inSR ge_HA_g23 inS0)).step F56 (inSL (by simp) inS0)).step F63 (inSR ge_HA_g23 inS0)).step F66 (inSL (by simp) inS0)
  have HB64 := HB64.j F66 (Ne.symm ne_g_g23)
  have HV := HV.keep F66 (djB hg)
  exact ⟨Nat.zero_le _, .inl rfl, rfl, HB4, HB64, HV, HRL, OwnX.nil _ _ _, (by simp), (by simp), (by simp), (by simp), (by simp), HA⟩
 rintro ⟨i, FQ, Ab, cb, qb⟩ wr ⟨hi, hi0, hqb, HB4, HB64, HV, HRL, HO_FQ, nin_g1_FQ, nin_g23_FQ, nin_g_FQ, dj_FQ_FB, ge_HA_FQ, HA⟩
 have hqbl_ : qb.length = i := by rw [hqb, readN_len]
 have hcap_ := own_cap HO_FQ (List.length_map _)
 refine Zsg <| ZoP 32 (((i : Int) : Int) < z68) ?_ ?_
 ·
  intro h72
  refine Zdn <| Zq <| ZT <| Zk <| Zq <| WE.block <| WE.draw [.free, .still, .free, .effR, .effR, .eff, .free, .eff] (Kp [g23]) (kpR _) (by kernel_rfl) 8 (Array.replicate 8 false) (by kernel_rfl) rfl ?_
  intro w73 F74 _
  have HRL := Wire.Rd.keep HRL F74 (nin0 _)
  have HB64 := HB64.k F74
  have HV := HV.keep F74 dj0
  refine WO.one (SA.F (kpR _) (kpT _) _ 0 _ (by kernel_rfl)) 33 (Pt g23 7) (by kernel_rfl) <| WO.ld (SA.S (kpR _) (kpT _) _ 1 _ (by kernel_rfl)) 34 (.slice Ab qb.length cb) (by kernel_rfl) (fun _ k => (HB64.kp k (by simp)).at 7 (by kernel_rfl)) <| WO.one (SA.F (kpR _) (kpT _) _ 2 _ (by kernel_rfl)) 35 (Pt g 0) (by kernel_rfl) <| WO.call (SA.ER _ 3 _ (by kernel_rfl) rfl) 36 (by kernel_rfl) (Wire.rnum_any g ((readN l i s70).2) A n cp l FB _ HV hn hc hlen hg HRL (readN_ok ok_s70)) ?_
  rintro _ w75 ⟨rfl, HR77, F76⟩
  refine ⟨_, rfl, (kp_of (kpC HB64.lt (ninC (Ne.symm ne_g_g23) (nin0 _)) kp0)) _ F76, ?_⟩
  obtain ⟨s78, hs78⟩ : ∃ s_, s_ = (rNum l ((readN l i s70).2)).2 := ⟨_, rfl⟩
  rw [← hs78] at HR77
  have ok_s78 : St.ok l s78 := by rw [hs78]; exact Wire.rNum_ok (readN_ok ok_s70)
  obtain ⟨x79, hx79⟩ : ∃ x_ : Nat, x_ = (rNum l ((readN l i s70).2)).1 := ⟨_, rfl⟩
  rw [← hx79]
  have lt_x79 : x79 < 18446744073709551616 := by rw [hx79]; exact Wire.rNum_lt _ _
  have HB64 := HB64.j F76 (Ne.symm ne_g_g23)
  refine WO.bx (SA.ER _ 4 _ (by kernel_rfl) rfl) 37 #[.int .u64 (x79 : Int)] 46 (fun g => .slice (some ⟨g, 0, none⟩) 1 1) (by kernel_rfl) (kp_of (kpC HB64.lt (nin0 _) kp0)) ?_
  intro g80 w81 HB83 F82 le84 _
  have HR77 := Wire.Rd.keep HR77 F82 (nin0 _)
  have HO_FQ := ((HO_FQ.keep F74 dj0).keep F76 (djB nin_g_FQ)).keep F82 dj0
  refine Yax 5 (m := 1) (ys := List.map cN ([x79])) 38 et_n HO_FQ (by rw [List.length_map] <;> first | rfl | omega | (simp <;> omega)) (RowB.src (RowB.of_blk (n := 1) HB83 (List.map cN [x79]) rfl rfl (cN_len _) (cN_one _) (by omega))) (cN_len _) (cN_one _) (by rw [List.length_map]; first | omega | (simp only [List.length_nil]; omega) | (simp only [List.length_append, List.length_cons, List.length_nil]; omega)) (by rw [List.length_map]; first | omega | (simp only [List.length_nil]; omega) | (simp only [List.length_append, List.length_cons, List.length_nil]; omega)) ?_
  intro v90 w91 G92 HO93 F94 hg95
  rw [← List.map_append] at HO93
  have HB4 := ((HB4.k F74).j F76 (Ne.symm ne_g_g1)).k F82
  have nin_g1_G92 := grow_nin hg95 nin_g1_FQ HB4.lt
  have HB64 := HB64.k F82
  have nin_g23_G92 := grow_nin hg95 nin_g23_FQ HB64.lt
  have nin_g_G92 := grow_nin hg95 nin_g_FQ ((Wire.Rd.lt HR77))
  have HV := (HV.keep F76 (djB hg)).keep F82 dj0
  have dj_G92_FB := grow_dj hg95 dj_FQ_FB HV.lt
  have HA := ((HA.step0 F74).step F76 (inSL (by simp) inS0)).step0 F82
  have ge_HA_G92 := grow_ge hg95 ge_HA_FQ HA.size
  have HR77 := Wire.Rd.keep HR77 F94 nin_g_FQ
  obtain ⟨A96, cap97, rfl⟩ := HO93.sliceN (List.length_map _)
  have := @List.length_append _ qb ([x79])
  have HB64 := HB64.keep F94 nin_g23_FQ
  refine WO.one (SA.F (kpR _) (kpT _) _ 6 _ (by kernel_rfl)) 39 (Pt g23 7) (by kernel_rfl) <| Ys 7 g23 7 [.slice A96 ((qb ++ [x79]).length) cap97] #[.string (str x10), J z14, .int .u64 (x22 : Int), J x35, J x43, J x51, .bool (decide ((z58 : Int) = 1)), .slice A96 ((qb ++ [x79]).length) cap97] HB64 ?_
  intro w98 HB100 F99 _
  have HR77 := Wire.Rd.keep HR77 F99 (ninC ne_g_g23 (nin0 _))
  refine Yd <| WQ.blkN <| Zn <| WE.region <| Zw 40 ((i : Int) + 1) ((i + 1 : Nat) : Int) <| Zr 1 [(31, J ((i + 1 : Nat) : Int))] <| Zd ?_
  have HRL : Wire.Rd 114 w98 g (.slice A n cp) (readN l (i + 1) s70).2 := by rw [readN_snoc]; rw [← hs78]; exact HR77
  have hqb2_ : (qb ++ [x79]) = (readN l (i + 1) s70).1 := by rw [readN_snoc, ← hx79, hqb]
  refine WQ.round ?_
  intro a_ ha_
  refine ⟨(i + 1, G92, A96, cap97, (qb ++ [x79])), ?_, ha_.keep [0, 2, 3, 4, 5, 6, 30, 31] (by kernel_rfl), ?_⟩
  ·
   show x71 - (i + 1) < x71 - i; omega
  ·
   have HB4 := (HB4.keep F94 nin_g1_FQ).j F99 ne_g1_g23
   have HV := (HV.keep F94 (dj_symm dj_FQ_FB)).keep F99 (djB nin_g23_FB)
   have HA := (HA.step F94 (inF ge_HA_FQ)).step F99 (inSR ge_HA_g23 inS0)
   have HO93 := HO93.keep F99 (djB nin_g23_G92)
   exact ⟨by omega, by omega, hqb2_, HB4, HB100, HV, HRL, HO93, nin_g1_G92, nin_g23_G92, nin_g_G92, dj_G92_FB, ge_HA_G92, HA⟩
 intro h72
 refine Zdn <| Zq <| ZF <| WE.exit <| WQ.thenE <| WQ.thenE <| WQ.blkE <| Zn <| Zsg <| Zlb 41 [.string (str x10), J z14, .int .u64 (x22 : Int), J x35, J x43, J x51, .bool (decide ((z58 : Int) = 1)), .slice Ab qb.length cb] g23 0 (same HB64) <| Zr 1 [(42, Pt g23 1)] <| Zl 43 (J z14) (HB64.s 1) <| ZoP 44 ((z14 : Int) ≥ 0) ?_ ?_
 ·
  intro h101
  refine Zr 2 [(46, J z58), (45, .bool true)] <| ZoP 47 ((z58 : Int) ≥ 0) ?_ ?_
  ·
   intro h102
   refine Zr 3 [(50, J z68), (49, .bool true), (48, .bool true)] <| ZoP 51 ((z68 : Int) ≥ 0) ?_ ?_
   ·
    intro h103
    refine Zr 1 [(52, .bool true)] <| Zs g1 0 [.string (str x10), J z14, .int .u64 (x22 : Int), J x35, J x43, J x51, .bool (decide ((z58 : Int) = 1)), .slice Ab qb.length cb] #[.string (str x10), J z14, .int .u64 (x22 : Int), J x35, J x43, J x51, .bool (decide ((z58 : Int) = 1)), .slice Ab qb.length cb] HB4 ?_
    intro w104 HB106 F105 _
    have HRL := Wire.Rd.keep HRL F105 (ninC ne_g_g1 (nin0 _))
    refine Zr 1 [(3, .bool true)] <| Zdn <| WE.ret <| WQ.ret2 (fn := Tryz.f43) (show Tryz.f43.results = #[.cell 2 54, .tmp 3] by kernel_rfl) (show resOk _ _ _ _ (.agg #[.string (str x10), J z14, .int .u64 (x22 : Int), J x35, J x43, J x51, .bool (decide ((z58 : Int) = 1)), .slice Ab qb.length cb]) from ⟨by kernel_rfl, ⟨g1, 0, none⟩, by kernel_rfl, ldVarB [.string (str x10), J z14, .int .u64 (x22 : Int), J x35, J x43, J x51, .bool (decide ((z58 : Int) = 1)), .slice Ab qb.length cb] (by kernel_rfl) (by kernel_rfl) (by kernel_rfl) HB106 (by kernel_rfl)⟩) (show resOk _ _ _ _ (.bool true) from ⟨by kernel_rfl, by kernel_rfl⟩) ?_
    have hrd_ : readR l s = if 3 < x17 ∨ 1 < x61 ∨ 65 < x71 then none else some ((⟨x10, (x17 : Int), x22, x35, x43, x51, decide (x61 = 1), (readN l x71 s70).1⟩ : Rw), (readN l x71 s70).2) := by unfold readR; simp only [← hx10, ← hs9, ← hx17, ← hs16, ← hx22, ← hs21, ← hx35, ← hs34, ← hx43, ← hs42, ← hx51, ← hs50, ← hx61, ← hs60, ← hx71, ← hs70]
    rw [if_neg (by omega)] at hrd_
    obtain rfl : i = x71 := by omega
    obtain rfl : z14 = (x17 : Int) := by omega
    obtain rfl : qb = (readN l i s70).1 := hqb
    have ho_ : decide ((z58 : Int) = 1) = decide (x61 = 1) := decide_eq_decide.2 (by omega)
    unfold ResX
    rw [hrd_]
    dsimp only
    rw [ho_]
    have HO_FQ := HO_FQ.keep F105 (djB nin_g1_FQ)
    have HA := HA.step F105 (inSR ge_HA_g1 inS0)
    exact ⟨Ab, cb, FQ, rfl, HRL, VX.of_own HO_FQ, hcap_, ge_HA_FQ, HA⟩
   intro h103
   refine Zr 1 [(52, .bool false)] <| Zs g1 0 [.string (str x10), J z14, .int .u64 (x22 : Int), J x35, J x43, J x51, .bool (decide ((z58 : Int) = 1)), .slice Ab qb.length cb] #[.string (str x10), J z14, .int .u64 (x22 : Int), J x35, J x43, J x51, .bool (decide ((z58 : Int) = 1)), .slice Ab qb.length cb] HB4 ?_
   intro w107 HB109 F108 _
   have HRL := Wire.Rd.keep HRL F108 (ninC ne_g_g1 (nin0 _))
   refine Zr 1 [(3, .bool false)] <| Zdn <| WE.ret <| WQ.ret2 (fn := Tryz.f43) (show Tryz.f43.results = #[.cell 2 54, .tmp 3] by kernel_rfl) (show resOk _ _ _ _ (.agg #[.string (str x10), J z14, .int .u64 (x22 : Int), J x35, J x43, J x51, .bool (decide ((z58 : Int) = 1)), .slice Ab qb.length cb]) from ⟨by kernel_rfl, ⟨g1, 0, none⟩, by kernel_rfl, ldVarB [.string (str x10), J z14, .int .u64 (x22 : Int), J x35, J x43, J x51, .bool (decide ((z58 : Int) = 1)), .slice Ab qb.length cb] (by kernel_rfl) (by kernel_rfl) (by kernel_rfl) HB109 (by kernel_rfl)⟩) (show resOk _ _ _ _ (.bool false) from ⟨by kernel_rfl, by kernel_rfl⟩) ?_
   have hrd_ : readR l s = if 3 < x17 ∨ 1 < x61 ∨ 65 < x71 then none else some ((⟨x10, (x17 : Int), x22, x35, x43, x51, decide (x61 = 1), (readN l x71 s70).1⟩ : Rw), (readN l x71 s70).2) := by unfold readR; simp only [← hx10, ← hs9, ← hx17, ← hs16, ← hx22, ← hs21, ← hx35, ← hs34, ← hx43, ← hs42, ← hx51, ← hs50, ← hx61, ← hs60, ← hx71, ← hs70]
   rw [if_pos (by omega)] at hrd_
   unfold ResX
   rw [hrd_]
   have HA := HA.step F108 (inSR ge_HA_g1 inS0)
   exact ⟨_, _, _, _, _, _, _, _, _, _, rfl, HA⟩
  intro h102
  refine Zr 5 [(52, .bool false), (51, undef), (50, undef), (49, .bool false), (48, .bool false)] <| Zs g1 0 [.string (str x10), J z14, .int .u64 (x22 : Int), J x35, J x43, J x51, .bool (decide ((z58 : Int) = 1)), .slice Ab qb.length cb] #[.string (str x10), J z14, .int .u64 (x22 : Int), J x35, J x43, J x51, .bool (decide ((z58 : Int) = 1)), .slice Ab qb.length cb] HB4 ?_
  intro w110 HB112 F111 _
  have HRL := Wire.Rd.keep HRL F111 (ninC ne_g_g1 (nin0 _))
  refine Zr 1 [(3, .bool false)] <| Zdn <| WE.ret <| WQ.ret2 (fn := Tryz.f43) (show Tryz.f43.results = #[.cell 2 54, .tmp 3] by kernel_rfl) (show resOk _ _ _ _ (.agg #[.string (str x10), J z14, .int .u64 (x22 : Int), J x35, J x43, J x51, .bool (decide ((z58 : Int) = 1)), .slice Ab qb.length cb]) from ⟨by kernel_rfl, ⟨g1, 0, none⟩, by kernel_rfl, ldVarB [.string (str x10), J z14, .int .u64 (x22 : Int), J x35, J x43, J x51, .bool (decide ((z58 : Int) = 1)), .slice Ab qb.length cb] (by kernel_rfl) (by kernel_rfl) (by kernel_rfl) HB112 (by kernel_rfl)⟩) (show resOk _ _ _ _ (.bool false) from ⟨by kernel_rfl, by kernel_rfl⟩) ?_
  have hrd_ : readR l s = if 3 < x17 ∨ 1 < x61 ∨ 65 < x71 then none else some ((⟨x10, (x17 : Int), x22, x35, x43, x51, decide (x61 = 1), (readN l x71 s70).1⟩ : Rw), (readN l x71 s70).2) := by unfold readR; simp only [← hx10, ← hs9, ← hx17, ← hs16, ← hx22, ← hs21, ← hx35, ← hs34, ← hx43, ← hs42, ← hx51, ← hs50, ← hx61, ← hs60, ← hx71, ← hs70]
  rw [if_pos (by omega)] at hrd_
  unfold ResX
  rw [hrd_]
  have HA := HA.step F111 (inSR ge_HA_g1 inS0)
  exact ⟨_, _, _, _, _, _, _, _, _, _, rfl, HA⟩
 intro h101
 refine Zr 8 [(52, .bool false), (51, undef), (50, undef), (49, .bool false), (48, .bool false), (47, undef), (46, undef), (45, .bool false)] <| Zs g1 0 [.string (str x10), J z14, .int .u64 (x22 : Int), J x35, J x43, J x51, .bool (decide ((z58 : Int) = 1)), .slice Ab qb.length cb] #[.string (str x10), J z14, .int .u64 (x22 : Int), J x35, J x43, J x51, .bool (decide ((z58 : Int) = 1)), .slice Ab qb.length cb] HB4 ?_
 intro w113 HB115 F114 _
 have HRL := Wire.Rd.keep HRL F114 (ninC ne_g_g1 (nin0 _))
 refine Zr 1 [(3, .bool false)] <| Zdn <| WE.ret <| WQ.ret2 (fn := Tryz.f43) (show Tryz.f43.results = #[.cell 2 54, .tmp 3] by kernel_rfl) (show resOk _ _ _ _ (.agg #[.string (str x10), J z14, .int .u64 (x22 : Int), J x35, J x43, J x51, .bool (decide ((z58 : Int) = 1)), .slice Ab qb.length cb]) from ⟨by kernel_rfl, ⟨g1, 0, none⟩, by kernel_rfl, ldVarB [.string (str x10), J z14, .int .u64 (x22 : Int), J x35, J x43, J x51, .bool (decide ((z58 : Int) = 1)), .slice Ab qb.length cb] (by kernel_rfl) (by kernel_rfl) (by kernel_rfl) HB115 (by kernel_rfl)⟩) (show resOk _ _ _ _ (.bool false) from ⟨by kernel_rfl, by kernel_rfl⟩) ?_
 have hrd_ : readR l s = if 3 < x17 ∨ 1 < x61 ∨ 65 < x71 then none else some ((⟨x10, (x17 : Int), x22, x35, x43, x51, decide (x61 = 1), (readN l x71 s70).1⟩ : Rw), (readN l x71 s70).2) := by unfold readR; simp only [← hx10, ← hs9, ← hx17, ← hs16, ← hx22, ← hs21, ← hx35, ← hs34, ← hx43, ← hs42, ← hx51, ← hs50, ← hx61, ← hs60, ← hx71, ← hs70]
 rw [if_pos (by omega)] at hrd_
 unfold ResX
 rw [hrd_]
 have HA := HA.step F114 (inSR ge_HA_g1 inS0)
 exact ⟨_, _, _, _, _, _, _, _, _, _, rfl, HA⟩
end Go.Proofs.YtdhonbahpcmmnaaGreatDoor.Bat
