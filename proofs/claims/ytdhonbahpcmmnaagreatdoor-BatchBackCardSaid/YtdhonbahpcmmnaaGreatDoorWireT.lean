/- Layer 6's walks: whole numbers, texts, and the end, of a reader. -/
import Derived.Test.YtdhonbahpcmmnaaGreatDoorWireR
import Derived.Test.YtdhonbahpcmmnaaGreatDoorEngC
set_option linter.unusedVariables false
set_option linter.unusedSimpArgs false
namespace Go.Proofs.YtdhonbahpcmmnaaGreatDoor.Wire
open Go Go.RowKit Go.Proofs.YtdhonbahpcmmnaaGreatDoor Go.Proofs.YtdhonbahpcmmnaaGreatDoor.Eng Go.Proofs.YtdhonbahpcmmnaaGreatDoorW.PrintWords
set_option maxRecDepth 100000 in
set_option maxHeartbeats 400000 in
theorem rwhole_any (g : Nat) (s : St) (A : Option Addr) (n c : Nat) (l : List UInt8) (FB : List Nat) (w : World) (HV : VX cB 1 w FB A l) (hn : l.length = n) (hc : n ≤ c) (hlen : l.length ≤ 1000000000) (hg : g ∉ FB) (HR : Rd 114 w g (.slice A n c) s) (hs : s.ok l) :
    Calls Tryz.prog 64 #[.pointer (some ⟨g, 0, none⟩)] w fun e w' => e = .returned (.int .i64 (rWhole l s).1) ∧ Rd 114 w' g (.slice A n c) (rWhole l s).2 ∧ Fr [g] w w' := by
 have HA := Fr.refl [g] w
 refine Zen (N := 14) Tryz.func64 (c := _) [(0, Pt g 0)] <| Zsg <| Zr 1 [(2, J 0)] <| Zdn <| Zsg <| Zr 1 [(4, Pt g 0)] <| Zc 5 (rnum_any g s A n c l FB _ HV hn hc hlen hg HR hs) ?_
 rintro _ w1 ⟨rfl, HR2, F2⟩
 refine ⟨_, rfl, trivial, ?_⟩
 have HR := HR2
 have HA := HA.step F2 (inSL (by simp) inS0)
 refine Zr 1 [(3, .int .u64 ((rNum l s).1 : Int))] <| Zdn <| Zsg <| Zr 1 [(6, .int .u64 ((rNum l s).1 : Int))] <| Zo 7 (.int .u64 (iShr .u64 ((rNum l s).1 : Int) (1 : Int))) <| WO.top (v' := .int .u64 (iShr .u64 ((rNum l s).1 : Int) (1 : Int))) (rfl) <| Zo 8 (J (IntKind.i64.wrap (iShr .u64 ((rNum l s).1 : Int) (1 : Int)))) <| WO.top (v' := J (IntKind.i64.wrap (iShr .u64 ((rNum l s).1 : Int) (1 : Int)))) (rfl) <| Zr 1 [(9, .int .u64 ((rNum l s).1 : Int))] <| Zo 10 (.int .u64 (iAnd .u64 ((rNum l s).1 : Int) (1 : Int))) <| WO.top (v' := .int .u64 (iAnd .u64 ((rNum l s).1 : Int) (1 : Int))) (rfl) <| Zo 11 (J (IntKind.i64.wrap (iAnd .u64 ((rNum l s).1 : Int) (1 : Int)))) <| WO.top (v' := J (IntKind.i64.wrap (iAnd .u64 ((rNum l s).1 : Int) (1 : Int)))) (rfl) <| Zo 12 (J (IntKind.i64.wrap (0 - (IntKind.i64.wrap (iAnd .u64 ((rNum l s).1 : Int) (1 : Int)))))) <| WO.top (v' := J (IntKind.i64.wrap (0 - (IntKind.i64.wrap (iAnd .u64 ((rNum l s).1 : Int) (1 : Int)))))) (rfl) <| Zo 13 (J (iXor .i64 (IntKind.i64.wrap (iShr .u64 ((rNum l s).1 : Int) (1 : Int))) (IntKind.i64.wrap (0 - (IntKind.i64.wrap (iAnd .u64 ((rNum l s).1 : Int) (1 : Int))))))) <| WO.top (v' := J ((rWhole l s).1)) (congrArg (Value.int .i64) (unzigX _ (rNum_lt l s))) <| Zr 1 [(2, J ((rWhole l s).1))] <| Zdn <| WE.ret <| ZR (J ((rWhole l s).1)) ?_
 exact ⟨rfl, HR, HA⟩
set_option maxRecDepth 100000 in
set_option maxHeartbeats 400000 in
theorem mwhole_any (g : Nat) (s : St) (A : Option Addr) (n c : Nat) (l : List UInt8) (FB : List Nat) (w : World) (HV : VX cB 1 w FB A l) (hn : l.length = n) (hc : n ≤ c) (hlen : l.length ≤ 1000000000) (hg : g ∉ FB) (HR : Rd 81 w g (.slice A n c) s) (hs : s.ok l) :
    Calls Tryz.prog 47 #[.pointer (some ⟨g, 0, none⟩)] w fun e w' => e = .returned (.int .i64 (rWhole l s).1) ∧ Rd 81 w' g (.slice A n c) (rWhole l s).2 ∧ Fr [g] w w' := by
 have hlt := rNum_lt l s
 have HA := Fr.refl [g] w
 refine Zen (N := 16) Tryz.func47 (c := _) [(0, Pt g 0)] <| Zsg <| Zr 1 [(2, J 0)] <| Zdn <| Zsg <| Zr 1 [(4, Pt g 0)] <| Zc 5 (mnum_any g s A n c l FB _ HV hn hc hlen hg HR hs) ?_
 rintro _ w1 ⟨rfl, HR2, F2⟩
 refine ⟨_, rfl, trivial, ?_⟩
 have HR := HR2
 refine Zr 1 [(3, .int .u64 ((rNum l s).1 : Int))] <| Zdn <| Zq <| Zsg <| Zr 1 [(6, .int .u64 ((rNum l s).1 : Int))] <| Zo 7 (.int .u64 ((((rNum l s).1 : Int) : Int).tmod 2)) <| WO.top (v' := .int .u64 (((rNum l s).1 % 2 : Nat) : Int)) (congrArg (Value.int .u64) (Int.tmod_eq_emod_of_nonneg (by omega))) <| ZoP 8 (((((rNum l s).1 % 2 : Nat) : Int) : Int) = (1 : Int)) ?_ ?_
 ·
  intro h3
  have HA := HA.step F2 (inSL (by simp) inS0)
  refine Zdn <| ZT <| Zsg <| Zr 1 [(9, .int .u64 ((rNum l s).1 : Int))] <| Zo 10 (.int .u64 (IntKind.u64.wrap ((((rNum l s).1 : Int) : Int).tdiv 2))) <| WO.top (v' := .int .u64 (((rNum l s).1 / 2 : Nat) : Int)) (congrArg (Value.int .u64) (IntWalk.u64_quo _ _ (by omega))) <| Zo 11 (J (IntKind.i64.wrap (((rNum l s).1 / 2 : Nat) : Int))) <| WO.top (v' := J (((rNum l s).1 / 2 : Nat) : Int)) (wrap_i64 rfl (by omega)) <| Zo 12 (J (IntKind.i64.wrap ((-1) - (((rNum l s).1 / 2 : Nat) : Int)))) <| WO.top (v' := J ((-1) - (((rNum l s).1 / 2 : Nat) : Int))) (wrap_i64 (by omega) (by omega)) <| Zr 1 [(2, J ((-1) - (((rNum l s).1 / 2 : Nat) : Int)))] <| Zdn <| WE.ret <| WQ.thenR <| ZR (J ((-1) - (((rNum l s).1 / 2 : Nat) : Int))) ?_
  exact ⟨by congr 2; unfold rWhole unzig; simp only; first | (rw [if_pos (by omega)]; done) | (rw [if_neg (by omega)]), HR, HA⟩
 intro h3
 have HA := HA.step F2 (inSL (by simp) inS0)
 refine Zdn <| ZF <| Zk <| Zsg <| Zr 1 [(13, .int .u64 ((rNum l s).1 : Int))] <| Zo 14 (.int .u64 (IntKind.u64.wrap ((((rNum l s).1 : Int) : Int).tdiv 2))) <| WO.top (v' := .int .u64 (((rNum l s).1 / 2 : Nat) : Int)) (congrArg (Value.int .u64) (IntWalk.u64_quo _ _ (by omega))) <| Zo 15 (J (IntKind.i64.wrap (((rNum l s).1 / 2 : Nat) : Int))) <| WO.top (v' := J (((rNum l s).1 / 2 : Nat) : Int)) (wrap_i64 rfl (by omega)) <| Zr 1 [(2, J (((rNum l s).1 / 2 : Nat) : Int))] <| Zdn <| WE.ret <| ZR (J (((rNum l s).1 / 2 : Nat) : Int)) ?_
 exact ⟨by congr 2; unfold rWhole unzig; simp only; first | (rw [if_pos (by omega)]; done) | (rw [if_neg (by omega)]), HR, HA⟩
set_option maxRecDepth 100000 in
set_option maxHeartbeats 400000 in
theorem rtext_ok (g p : Nat) (q most : Int) (A : Option Addr) (n c : Nat) (l : List UInt8) (FB : List Nat) (w : World) (HV : VX cB 1 w FB A l) (hn : l.length = n) (hc : n ≤ c) (hlen : l.length ≤ 1000000000) (hg : g ∉ FB) (HB : Blk w g #[.slice A n c, .int .i64 (p : Int), .bool false, .int .i64 q] 114) (hs : St.ok l ⟨p, false⟩) (hm : -9223372036854775808 ≤ most ∧ most ≤ 9223372036854775807) :
    Calls Tryz.prog 63 #[.pointer (some ⟨g, 0, none⟩), .int .i64 most] w fun e w' => e = .returned (.string (str (rText l most ⟨p, false⟩).1)) ∧ Rd 114 w' g (.slice A n c) (rText l most ⟨p, false⟩).2 ∧ Fr [g] w w' := by
 have hp : p ≤ n := by unfold St.ok at hs; simp only at hs; omega
 have HA := Fr.refl [g] w
 refine Zen (N := 69) Tryz.func63 (c := _) [(0, Pt g 0), (1, J most)] <| Zsg <| Zr 1 [(4, .string (⟨#[]⟩))] <| Zdn <| Zsg <| Zr 3 [(9, Pt g 1), (8, Pt g 0), (7, Pt g 0)] <| Zl 10 (J (p : Int)) (HB.s 1) <| Zr 1 [(5, J (p : Int))] <| Zdn <| Zsg <| Zr 1 [(11, Pt g 0)] <| Zc 12 (rnum_any g ⟨p, false⟩ A n c l FB _ HV hn hc hlen hg (Rd.ok HB) hs) ?_
 rintro _ w1 ⟨rfl, HR, F2⟩
 have hok2 := rNum_ok hs
 have hlt1 := rNum_lt l ⟨p, false⟩
 generalize hn1 : (rNum l ⟨p, false⟩).1 = n1 at hlt1 ⊢
 refine ⟨_, rfl, trivial, ?_⟩
 rcases HR.split with ⟨p2, q2, hs2, HB2⟩ | ⟨p2, q2, hs2, HB2⟩
 ·
  rw [hs2] at hok2; unfold St.ok at hok2; simp only at hok2
  refine Zr 1 [(6, .int .u64 (n1 : Int))] <| Zdn <| Zq <| Zsg <| Zr 3 [(15, Pt g 2), (14, Pt g 0), (13, Pt g 0)] <| Zl 16 (.bool false) (HB2.s 2) <| Zdn <| ZF <| Zk <| Zq <| Zq <| ZD [.free, .free, .free, .free, .free, .free, .free, .free, .free, .free, .free, .free, .free, .still, .free, .free, .free, .free, .still, .free, .free, .free, .free] 23 ?_
  intro w3 F4 _
  have HA := (HA.step F2 (inSL (by simp) inS0)).step0 F4
  refine Yr [0, 1] [(18, .bool (decide ((most : Int) < 0))), (17, J most)] <| WO.topP ((most : Int) < 0) ?_ ?_
  ·
   intro h5
   have HB2 := HB2.k F4
   refine Yr [2, 3, 4, 5, 6, 7, 8, 9, 10, 11, 12, 13, 14, 15, 16, 17, 18, 19, 20, 21, 22] [(39, .bool true), (38, undef), (37, undef), (36, undef), (35, undef), (34, undef), (33, undef), (32, undef), (31, undef), (30, undef), (29, undef), (28, undef), (27, undef), (26, undef), (25, .bool true), (24, .bool true), (23, undef), (22, undef), (21, undef), (20, undef), (19, .bool true)] <| Ydn <| ZT <| Zsg <| Zr 2 [(41, J (p : Int)), (40, Pt g 0)] <| Zc 42 (fail_false g (.slice A n c : Value) (p2 : Int) q2 (p : Int) _ HB2) ?_
   rintro _ w7 ⟨rfl, HB6, F8⟩
   refine ⟨_, rfl, trivial, Zdn <| Zsg <| Zr 1 [(4, .string (⟨#[]⟩))] <| Zdn <| WE.ret <| WQ.thenR <| ZR (.string (⟨#[]⟩)) ?_⟩
   have hres : rText l most ⟨p, false⟩ = ([], ⟨p, true⟩) := by unfold rText; simp only [hs2, hn1, Bool.false_eq_true, if_false]; rw [if_pos (by omega)]
   rw [hres]
   have HA := HA.step F8 (inSL (by simp) inS0)
   exact ⟨rfl, Rd.no HB6, HA⟩
  intro h5
  refine Yr [2, 3, 4, 5] [(22, .int .u64 (IntKind.u64.wrap most)), (21, J most), (20, .int .u64 (n1 : Int)), (19, .bool false)] <| WO.top (v' := .int .u64 most) (wrap_u64 rfl (by omega)) <| Yr [6] [(23, .bool (decide (((n1 : Int) : Int) > most)))] <| WO.topP (((n1 : Int) : Int) > most) ?_ ?_
  ·
   intro h9
   have HB2 := HB2.k F4
   refine Yr [7, 8, 9, 10, 11, 12, 13, 14, 15, 16, 17, 18, 19, 20, 21, 22] [(39, .bool true), (38, undef), (37, undef), (36, undef), (35, undef), (34, undef), (33, undef), (32, undef), (31, undef), (30, undef), (29, undef), (28, undef), (27, undef), (26, undef), (25, .bool true), (24, .bool true)] <| Ydn <| ZT <| Zsg <| Zr 2 [(41, J (p : Int)), (40, Pt g 0)] <| Zc 42 (fail_false g (.slice A n c : Value) (p2 : Int) q2 (p : Int) _ HB2) ?_
   rintro _ w11 ⟨rfl, HB10, F12⟩
   refine ⟨_, rfl, trivial, Zdn <| Zsg <| Zr 1 [(4, .string (⟨#[]⟩))] <| Zdn <| WE.ret <| WQ.thenR <| ZR (.string (⟨#[]⟩)) ?_⟩
   have hres : rText l most ⟨p, false⟩ = ([], ⟨p, true⟩) := by unfold rText; simp only [hs2, hn1, Bool.false_eq_true, if_false]; rw [if_pos (by omega)]
   rw [hres]
   have HA := HA.step F12 (inSL (by simp) inS0)
   exact ⟨rfl, Rd.no HB10, HA⟩
  intro h9
  have HB2 := HB2.k F4
  refine Yr [7, 8, 9, 10, 11, 12] [(29, Pt g 0), (28, Pt g 0), (27, Pt g 0), (26, .int .u64 (n1 : Int)), (25, .bool false), (24, .bool false)] <| Yl 13 30 (.slice A n c) (HB2.s 0) <| Yr [14, 15, 16, 17] [(34, Pt g 1), (33, Pt g 0), (32, Pt g 0), (31, J (n : Int))] <| Yl 18 35 (J (p2 : Int)) (HB2.s 1) <| Yr [19] [(36, J (IntKind.i64.wrap ((n : Int) - (p2 : Int))))] <| WO.top (v' := J ((n - p2 : Nat) : Int)) (wrap_i64 (by omega) (by omega)) <| Yr [20] [(37, .int .u64 (IntKind.u64.wrap ((n - p2 : Nat) : Int)))] <| WO.top (v' := .int .u64 ((n - p2 : Nat) : Int)) (wrap_u64 rfl (by omega)) <| Yr [21] [(38, .bool (decide (((n1 : Int) : Int) > ((n - p2 : Nat) : Int))))] <| WO.topP (((n1 : Int) : Int) > ((n - p2 : Nat) : Int)) ?_ ?_
  ·
   intro h13
   refine Yr [22] [(39, .bool true)] <| Ydn <| ZT <| Zsg <| Zr 2 [(41, J (p : Int)), (40, Pt g 0)] <| Zc 42 (fail_false g (.slice A n c : Value) (p2 : Int) q2 (p : Int) _ HB2) ?_
   rintro _ w15 ⟨rfl, HB14, F16⟩
   refine ⟨_, rfl, trivial, Zdn <| Zsg <| Zr 1 [(4, .string (⟨#[]⟩))] <| Zdn <| WE.ret <| WQ.thenR <| ZR (.string (⟨#[]⟩)) ?_⟩
   have hres : rText l most ⟨p, false⟩ = ([], ⟨p, true⟩) := by unfold rText; simp only [hs2, hn1, Bool.false_eq_true, if_false]; rw [if_pos (by omega)]
   rw [hres]
   have HA := HA.step F16 (inSL (by simp) inS0)
   exact ⟨rfl, Rd.no HB14, HA⟩
  intro h13
  refine Yr [22] [(39, .bool false)] <| Ydn <| ZF <| Zk <| Zsg <| Zr 3 [(45, Pt g 1), (44, Pt g 0), (43, Pt g 0)] <| Zl 46 (J (p2 : Int)) (HB2.s 1) <| Zr 1 [(47, .int .u64 (n1 : Int))] <| Zwr 48 (n1 : Int) (n1 : Int) <| Zw 49 ((p2 : Int) + (n1 : Int)) ((p2 + n1 : Nat) : Int) <| Zr 2 [(51, Pt g 1), (50, Pt g 0)] <| Zs g 1 [J ((p2 + n1 : Nat) : Int)] #[.slice A n c, J ((p2 + n1 : Nat) : Int), .bool false, J q2] HB2 ?_
  intro w17 HB19 F18 _
  refine Zdn <| Zq <| ZD [.free, .free, .free, .still, .free, .free, .free, .still, .free, .free, .free, .free, .free, .free, .still, .free, .still, .free] 18 ?_
  intro w20 F21 _
  have HB19 := HB19.k F21
  have HV := (((HV.keep F2 (djB hg)).keep F4 dj0).keep F18 (djB hg)).keep F21 dj0
  refine Yr [0, 1, 2] [(54, Pt g 0), (53, Pt g 0), (52, Pt g 0)] <| Yl 3 55 (.slice A n c) (HB19.s 0) <| Yr [4, 5, 6] [(58, Pt g 1), (57, Pt g 0), (56, Pt g 0)] <| Yl 7 59 (J ((p2 + n1 : Nat) : Int)) (HB19.s 1) <| Yr [8, 9] [(61, J (IntKind.i64.wrap (n1 : Int))), (60, .int .u64 (n1 : Int))] <| WO.top (v' := J (n1 : Int)) (wrap_i64 rfl (by omega)) <| Yr [10] [(62, J (IntKind.i64.wrap (((p2 + n1 : Nat) : Int) - (n1 : Int))))] <| WO.top (v' := J ((p2 : Nat) : Int)) (wrap_i64 (by omega) (by omega)) <| Yr [11, 12, 13] [(65, Pt g 1), (64, Pt g 0), (63, Pt g 0)] <| Yl 14 66 (J ((p2 + n1 : Nat) : Int)) (HB19.s 1) <| Yv 15 67 p2 (p2 + n1) A n c 1 (some ((p2 : Nat) : Int)) (some ((p2 + n1 : Nat) : Int)) (by simp only [Option.getD_some] <;> omega) (by simp only [Option.getD_some] <;> omega) (by omega) (by omega) <| Yt 16 (v := .slice (if c = p2 then A else (A : Option Addr).map (·.add (p2 * 1))) ((p2 + n1) - p2) (c - p2)) (n := ((p2 + n1) - p2)) 68 byt ((l.drop p2).take ((p2 + n1) - p2)) (show ((l.drop p2).take ((p2 + n1) - p2)).length = (p2 + n1) - p2 by rw [List.length_take, List.length_drop]; have := hn; omega) (same (((HV.drop p2 c (by have := hn; omega) (by have := hn; omega)).take ((p2 + n1) - p2)).srcN (show ((l.drop p2).take ((p2 + n1) - p2)).length = (p2 + n1) - p2 by rw [List.length_take, List.length_drop]; have := hn; omega) (cB_len _) (cB_one _) (c - p2))) <| WO.top (v' := .string (str ((l.drop p2).take n1))) (by rw [Nat.add_sub_cancel_left]) <| Yr [17] [(4, .string (str ((l.drop p2).take n1)))] <| Ydn <| WE.ret <| ZR (.string (str ((l.drop p2).take n1))) ?_
  have hres : rText l most ⟨p, false⟩ = ((l.drop p2).take n1, ⟨p2 + n1, false⟩) := by unfold rText; simp only [hs2, hn1, Bool.false_eq_true, if_false]; rw [if_neg (by omega)]
  rw [hres]
  have HA := (HA.step F18 (inSL (by simp) inS0)).step0 F21
  exact ⟨rfl, Rd.ok HB19, HA⟩
 ·
  rw [hs2] at hok2; unfold St.ok at hok2; simp only at hok2
  refine Zr 1 [(6, .int .u64 (n1 : Int))] <| Zdn <| Zq <| Zsg <| Zr 3 [(15, Pt g 2), (14, Pt g 0), (13, Pt g 0)] <| Zl 16 (.bool true) (HB2.s 2) <| Zdn <| ZT <| Zsg <| Zr 1 [(4, .string (⟨#[]⟩))] <| Zdn <| WE.ret <| WQ.thenR <| ZR (.string (⟨#[]⟩)) ?_
  have hres : rText l most ⟨p, false⟩ = ([], ⟨p2, true⟩) := by unfold rText; simp only [hs2, if_true]
  rw [hres]
  have HA := HA.step F2 (inSL (by simp) inS0)
  exact ⟨rfl, Rd.no HB2, HA⟩
set_option maxRecDepth 100000 in
set_option maxHeartbeats 400000 in
theorem rtext_bad (g p : Nat) (v : Value) (q most : Int) (w : World) (HB : Blk w g #[v, .int .i64 q, .bool true, .int .i64 (p : Int)] 114) :
    Calls Tryz.prog 63 #[.pointer (some ⟨g, 0, none⟩), .int .i64 most] w fun e w' => e = .returned (.string (str [])) ∧ Blk w' g #[v, .int .i64 q, .bool true, .int .i64 (p : Int)] 114 ∧ Fr [g] w w' := by
 have HA := Fr.refl [g] w
 refine Zen (N := 69) Tryz.func63 (c := _) [(0, Pt g 0), (1, J most)] <| Zsg <| Zr 1 [(4, .string (⟨#[]⟩))] <| Zdn <| Zsg <| Zr 3 [(9, Pt g 1), (8, Pt g 0), (7, Pt g 0)] <| Zl 10 (J q) (HB.s 1) <| Zr 1 [(5, J q)] <| Zdn <| Zsg <| Zr 1 [(11, Pt g 0)] <| Zc 12 (rnum_bad g v q p _ HB) ?_
 rintro _ w1 ⟨rfl, HB2, F2⟩
 have HA := HA.step F2 (inSL (by simp) inS0)
 refine ⟨_, rfl, trivial, Zr 1 [(6, .int .u64 0)] <| Zdn <| Zq <| Zsg <| Zr 3 [(15, Pt g 2), (14, Pt g 0), (13, Pt g 0)] <| Zl 16 (.bool true) (HB2.s 2) <| Zdn <| ZT <| Zsg <| Zr 1 [(4, .string (⟨#[]⟩))] <| Zdn <| WE.ret <| WQ.thenR <| ZR (.string (⟨#[]⟩)) ?_⟩
 exact ⟨rfl, HB2, HA⟩
theorem rtext_any (g : Nat) (s : St) (most : Int) (A : Option Addr) (n c : Nat) (l : List UInt8) (FB : List Nat) (w : World) (HV : VX cB 1 w FB A l) (hn : l.length = n) (hc : n ≤ c) (hlen : l.length ≤ 1000000000) (hg : g ∉ FB) (HR : Rd 114 w g (.slice A n c) s) (hs : s.ok l) (hm : -9223372036854775808 ≤ most ∧ most ≤ 9223372036854775807) :
    Calls Tryz.prog 63 #[.pointer (some ⟨g, 0, none⟩), .int .i64 most] w fun e w' => e = .returned (.string (str (rText l most s).1)) ∧ Rd 114 w' g (.slice A n c) (rText l most s).2 ∧ Fr [g] w w' := by
  rcases HR.split with ⟨p, q, rfl, HB⟩ | ⟨p, q, rfl, HB⟩
  · exact rtext_ok g p q most A n c l FB w HV hn hc hlen hg HB hs hm
  · refine (rtext_bad g p _ q most w HB).mono fun e w' h => ?_
    obtain ⟨rfl, h2, h3⟩ := h
    have hres : rText l most ⟨p, true⟩ = ([], ⟨p, true⟩) := by unfold rText; simp only [rNum_bad, if_true]
    rw [hres]
    exact ⟨rfl, Rd.no h2, h3⟩
set_option maxRecDepth 100000 in
set_option maxHeartbeats 400000 in
theorem mtext_ok (g p : Nat) (q most : Int) (A : Option Addr) (n c : Nat) (l : List UInt8) (FB : List Nat) (w : World) (HV : VX cB 1 w FB A l) (hn : l.length = n) (hc : n ≤ c) (hlen : l.length ≤ 1000000000) (hg : g ∉ FB) (HB : Blk w g #[.slice A n c, .int .i64 (p : Int), .bool false, .int .i64 q] 81) (hs : St.ok l ⟨p, false⟩) (hm : -9223372036854775808 ≤ most ∧ most ≤ 9223372036854775807) :
    Calls Tryz.prog 46 #[.pointer (some ⟨g, 0, none⟩), .int .i64 most] w fun e w' => e = .returned (.string (str (rText l most ⟨p, false⟩).1)) ∧ Rd 81 w' g (.slice A n c) (rText l most ⟨p, false⟩).2 ∧ Fr [g] w w' := by
 have hp : p ≤ n := by unfold St.ok at hs; simp only at hs; omega
 have HA := Fr.refl [g] w
 refine Zen (N := 76) Tryz.func46 (c := _) [(0, Pt g 0), (1, J most)] <| Zsg <| Zr 1 [(4, .string (⟨#[]⟩))] <| Zdn <| Zsg <| Zr 3 [(10, Pt g 1), (9, Pt g 0), (8, Pt g 0)] <| Zl 11 (J (p : Int)) (HB.s 1) <| Zr 1 [(5, J (p : Int))] <| Zdn <| Zsg <| Zr 1 [(12, Pt g 0)] <| Zc 13 (mnum_any g ⟨p, false⟩ A n c l FB _ HV hn hc hlen hg (Rd.ok HB) hs) ?_
 rintro _ w1 ⟨rfl, HR, F2⟩
 have hok2 := rNum_ok hs
 have hlt1 := rNum_lt l ⟨p, false⟩
 generalize hn1 : (rNum l ⟨p, false⟩).1 = n1 at hlt1 ⊢
 refine ⟨_, rfl, trivial, ?_⟩
 rcases HR.split with ⟨p2, q2, hs2, HB2⟩ | ⟨p2, q2, hs2, HB2⟩
 ·
  rw [hs2] at hok2; unfold St.ok at hok2; simp only at hok2
  refine Zr 1 [(6, .int .u64 (n1 : Int))] <| Zdn <| Zq <| Zsg <| Zr 3 [(16, Pt g 2), (15, Pt g 0), (14, Pt g 0)] <| Zl 17 (.bool false) (HB2.s 2) <| Zdn <| ZF <| Zk <| Zq <| Zq <| ZD [.free, .free, .free, .free, .free, .free, .free, .free, .free, .free, .free, .free, .free, .still, .free, .free, .free, .free, .still, .free, .free, .free, .free] 23 ?_
  intro w3 F4 _
  have HA := (HA.step F2 (inSL (by simp) inS0)).step0 F4
  refine Yr [0, 1] [(19, .bool (decide ((most : Int) < 0))), (18, J most)] <| WO.topP ((most : Int) < 0) ?_ ?_
  ·
   intro h5
   have HB2 := HB2.k F4
   refine Yr [2, 3, 4, 5, 6, 7, 8, 9, 10, 11, 12, 13, 14, 15, 16, 17, 18, 19, 20, 21, 22] [(40, .bool true), (39, undef), (38, undef), (37, undef), (36, undef), (35, undef), (34, undef), (33, undef), (32, undef), (31, undef), (30, undef), (29, undef), (28, undef), (27, undef), (26, .bool true), (25, .bool true), (24, undef), (23, undef), (22, undef), (21, undef), (20, .bool true)] <| Ydn <| ZT <| Zsg <| Zr 3 [(43, Pt g 2), (42, Pt g 0), (41, Pt g 0)] <| Zs g 2 [.bool true] #[.slice A n c, J (p2 : Int), .bool true, J q2] HB2 ?_
   intro w6 HB8 F7 _
   refine Zdn <| Zsg <| Zr 4 [(47, Pt g 3), (46, Pt g 0), (45, J (p : Int)), (44, Pt g 0)] <| Zs g 3 [J (p : Int)] #[.slice A n c, J (p2 : Int), .bool true, J (p : Int)] HB8 ?_
   intro w9 HB11 F10 _
   refine Zdn <| Zsg <| Zr 1 [(4, .string (⟨#[]⟩))] <| Zdn <| WE.ret <| WQ.thenR <| ZR (.string (⟨#[]⟩)) ?_
   have hres : rText l most ⟨p, false⟩ = ([], ⟨p, true⟩) := by unfold rText; simp only [hs2, hn1, Bool.false_eq_true, if_false]; rw [if_pos (by omega)]
   rw [hres]
   have HA := (HA.step F7 (inSL (by simp) inS0)).step F10 (inSL (by simp) inS0)
   exact ⟨rfl, Rd.no HB11, HA⟩
  intro h5
  refine Yr [2, 3, 4, 5] [(23, .int .u64 (IntKind.u64.wrap most)), (22, J most), (21, .int .u64 (n1 : Int)), (20, .bool false)] <| WO.top (v' := .int .u64 most) (wrap_u64 rfl (by omega)) <| Yr [6] [(24, .bool (decide (((n1 : Int) : Int) > most)))] <| WO.topP (((n1 : Int) : Int) > most) ?_ ?_
  ·
   intro h12
   have HB2 := HB2.k F4
   refine Yr [7, 8, 9, 10, 11, 12, 13, 14, 15, 16, 17, 18, 19, 20, 21, 22] [(40, .bool true), (39, undef), (38, undef), (37, undef), (36, undef), (35, undef), (34, undef), (33, undef), (32, undef), (31, undef), (30, undef), (29, undef), (28, undef), (27, undef), (26, .bool true), (25, .bool true)] <| Ydn <| ZT <| Zsg <| Zr 3 [(43, Pt g 2), (42, Pt g 0), (41, Pt g 0)] <| Zs g 2 [.bool true] #[.slice A n c, J (p2 : Int), .bool true, J q2] HB2 ?_
   intro w13 HB15 F14 _
   refine Zdn <| Zsg <| Zr 4 [(47, Pt g 3), (46, Pt g 0), (45, J (p : Int)), (44, Pt g 0)] <| Zs g 3 [J (p : Int)] #[.slice A n c, J (p2 : Int), .bool true, J (p : Int)] HB15 ?_
   intro w16 HB18 F17 _
   refine Zdn <| Zsg <| Zr 1 [(4, .string (⟨#[]⟩))] <| Zdn <| WE.ret <| WQ.thenR <| ZR (.string (⟨#[]⟩)) ?_
   have hres : rText l most ⟨p, false⟩ = ([], ⟨p, true⟩) := by unfold rText; simp only [hs2, hn1, Bool.false_eq_true, if_false]; rw [if_pos (by omega)]
   rw [hres]
   have HA := (HA.step F14 (inSL (by simp) inS0)).step F17 (inSL (by simp) inS0)
   exact ⟨rfl, Rd.no HB18, HA⟩
  intro h12
  have HB2 := HB2.k F4
  refine Yr [7, 8, 9, 10, 11, 12] [(30, Pt g 0), (29, Pt g 0), (28, Pt g 0), (27, .int .u64 (n1 : Int)), (26, .bool false), (25, .bool false)] <| Yl 13 31 (.slice A n c) (HB2.s 0) <| Yr [14, 15, 16, 17] [(35, Pt g 1), (34, Pt g 0), (33, Pt g 0), (32, J (n : Int))] <| Yl 18 36 (J (p2 : Int)) (HB2.s 1) <| Yr [19] [(37, J (IntKind.i64.wrap ((n : Int) - (p2 : Int))))] <| WO.top (v' := J ((n - p2 : Nat) : Int)) (wrap_i64 (by omega) (by omega)) <| Yr [20] [(38, .int .u64 (IntKind.u64.wrap ((n - p2 : Nat) : Int)))] <| WO.top (v' := .int .u64 ((n - p2 : Nat) : Int)) (wrap_u64 rfl (by omega)) <| Yr [21] [(39, .bool (decide (((n1 : Int) : Int) > ((n - p2 : Nat) : Int))))] <| WO.topP (((n1 : Int) : Int) > ((n - p2 : Nat) : Int)) ?_ ?_
  ·
   intro h19
   refine Yr [22] [(40, .bool true)] <| Ydn <| ZT <| Zsg <| Zr 3 [(43, Pt g 2), (42, Pt g 0), (41, Pt g 0)] <| Zs g 2 [.bool true] #[.slice A n c, J (p2 : Int), .bool true, J q2] HB2 ?_
   intro w20 HB22 F21 _
   refine Zdn <| Zsg <| Zr 4 [(47, Pt g 3), (46, Pt g 0), (45, J (p : Int)), (44, Pt g 0)] <| Zs g 3 [J (p : Int)] #[.slice A n c, J (p2 : Int), .bool true, J (p : Int)] HB22 ?_
   intro w23 HB25 F24 _
   refine Zdn <| Zsg <| Zr 1 [(4, .string (⟨#[]⟩))] <| Zdn <| WE.ret <| WQ.thenR <| ZR (.string (⟨#[]⟩)) ?_
   have hres : rText l most ⟨p, false⟩ = ([], ⟨p, true⟩) := by unfold rText; simp only [hs2, hn1, Bool.false_eq_true, if_false]; rw [if_pos (by omega)]
   rw [hres]
   have HA := (HA.step F21 (inSL (by simp) inS0)).step F24 (inSL (by simp) inS0)
   exact ⟨rfl, Rd.no HB25, HA⟩
  intro h19
  refine Yr [22] [(40, .bool false)] <| Ydn <| ZF <| Zk <| Zq <| ZD [.free, .free, .free, .still, .free, .free, .free, .still, .free, .free, .free, .still, .free, .free, .free, .free, .still, .free] 18 ?_
  intro w26 F27 _
  have HB2 := HB2.k F27
  have HV := ((HV.keep F2 (djB hg)).keep F4 dj0).keep F27 dj0
  refine Yr [0, 1, 2] [(50, Pt g 0), (49, Pt g 0), (48, Pt g 0)] <| Yl 3 51 (.slice A n c) (HB2.s 0) <| Yr [4, 5, 6] [(54, Pt g 1), (53, Pt g 0), (52, Pt g 0)] <| Yl 7 55 (J (p2 : Int)) (HB2.s 1) <| Yr [8, 9, 10] [(58, Pt g 1), (57, Pt g 0), (56, Pt g 0)] <| Yl 11 59 (J (p2 : Int)) (HB2.s 1) <| Yr [12, 13] [(61, J (IntKind.i64.wrap (n1 : Int))), (60, .int .u64 (n1 : Int))] <| WO.top (v' := J (n1 : Int)) (wrap_i64 rfl (by omega)) <| Yr [14] [(62, J (IntKind.i64.wrap ((p2 : Int) + (n1 : Int))))] <| WO.top (v' := J ((p2 + n1 : Nat) : Int)) (wrap_i64 (by omega) (by omega)) <| Yv 15 63 p2 (p2 + n1) A n c 1 (some (p2 : Int)) (some ((p2 + n1 : Nat) : Int)) (by simp only [Option.getD_some] <;> omega) (by simp only [Option.getD_some] <;> omega) (by omega) (by omega) <| Yt 16 (v := .slice (if c = p2 then A else (A : Option Addr).map (·.add (p2 * 1))) ((p2 + n1) - p2) (c - p2)) (n := ((p2 + n1) - p2)) 64 byt ((l.drop p2).take ((p2 + n1) - p2)) (show ((l.drop p2).take ((p2 + n1) - p2)).length = (p2 + n1) - p2 by rw [List.length_take, List.length_drop]; have := hn; omega) (same (((HV.drop p2 c (by have := hn; omega) (by have := hn; omega)).take ((p2 + n1) - p2)).srcN (show ((l.drop p2).take ((p2 + n1) - p2)).length = (p2 + n1) - p2 by rw [List.length_take, List.length_drop]; have := hn; omega) (cB_len _) (cB_one _) (c - p2))) <| WO.top (v' := .string (str ((l.drop p2).take n1))) (by rw [Nat.add_sub_cancel_left]) <| Yr [17] [(7, .string (str ((l.drop p2).take n1)))] <| Ydn <| Zsg <| Zr 4 [(68, Pt g 1), (67, Pt g 0), (66, Pt g 0), (65, Pt g 0)] <| Zl 69 (J (p2 : Int)) (HB2.s 1) <| Zr 1 [(70, .int .u64 (n1 : Int))] <| Zwr 71 (n1 : Int) (n1 : Int) <| Zw 72 ((p2 : Int) + (n1 : Int)) ((p2 + n1 : Nat) : Int) <| Zr 2 [(74, Pt g 1), (73, Pt g 0)] <| Zs g 1 [J ((p2 + n1 : Nat) : Int)] #[.slice A n c, J ((p2 + n1 : Nat) : Int), .bool false, J q2] HB2 ?_
  intro w28 HB30 F29 _
  refine Zdn <| Zsg <| Zr 2 [(4, .string (str ((l.drop p2).take n1))), (75, .string (str ((l.drop p2).take n1)))] <| Zdn <| WE.ret <| ZR (.string (str ((l.drop p2).take n1))) ?_
  have hres : rText l most ⟨p, false⟩ = ((l.drop p2).take n1, ⟨p2 + n1, false⟩) := by unfold rText; simp only [hs2, hn1, Bool.false_eq_true, if_false]; rw [if_neg (by omega)]
  rw [hres]
  have HA := (HA.step0 F27).step F29 (inSL (by simp) inS0)
  exact ⟨rfl, Rd.ok HB30, HA⟩
 ·
  rw [hs2] at hok2; unfold St.ok at hok2; simp only at hok2
  refine Zr 1 [(6, .int .u64 (n1 : Int))] <| Zdn <| Zq <| Zsg <| Zr 3 [(16, Pt g 2), (15, Pt g 0), (14, Pt g 0)] <| Zl 17 (.bool true) (HB2.s 2) <| Zdn <| ZT <| Zsg <| Zr 1 [(4, .string (⟨#[]⟩))] <| Zdn <| WE.ret <| WQ.thenR <| ZR (.string (⟨#[]⟩)) ?_
  have hres : rText l most ⟨p, false⟩ = ([], ⟨p2, true⟩) := by unfold rText; simp only [hs2, if_true]
  rw [hres]
  have HA := HA.step F2 (inSL (by simp) inS0)
  exact ⟨rfl, Rd.no HB2, HA⟩
set_option maxRecDepth 100000 in
set_option maxHeartbeats 400000 in
theorem mtext_bad (g p : Nat) (v : Value) (q most : Int) (w : World) (HB : Blk w g #[v, .int .i64 q, .bool true, .int .i64 (p : Int)] 81) :
    Calls Tryz.prog 46 #[.pointer (some ⟨g, 0, none⟩), .int .i64 most] w fun e w' => e = .returned (.string (str [])) ∧ Blk w' g #[v, .int .i64 q, .bool true, .int .i64 (p : Int)] 81 ∧ Fr [g] w w' := by
 have HA := Fr.refl [g] w
 refine Zen (N := 76) Tryz.func46 (c := _) [(0, Pt g 0), (1, J most)] <| Zsg <| Zr 1 [(4, .string (⟨#[]⟩))] <| Zdn <| Zsg <| Zr 3 [(10, Pt g 1), (9, Pt g 0), (8, Pt g 0)] <| Zl 11 (J q) (HB.s 1) <| Zr 1 [(5, J q)] <| Zdn <| Zsg <| Zr 1 [(12, Pt g 0)] <| Zc 13 (mnum_bad g v q p _ HB) ?_
 rintro _ w1 ⟨rfl, HB2, F2⟩
 have HA := HA.step F2 (inSL (by simp) inS0)
 refine ⟨_, rfl, trivial, Zr 1 [(6, .int .u64 0)] <| Zdn <| Zq <| Zsg <| Zr 3 [(16, Pt g 2), (15, Pt g 0), (14, Pt g 0)] <| Zl 17 (.bool true) (HB2.s 2) <| Zdn <| ZT <| Zsg <| Zr 1 [(4, .string (⟨#[]⟩))] <| Zdn <| WE.ret <| WQ.thenR <| ZR (.string (⟨#[]⟩)) ?_⟩
 exact ⟨rfl, HB2, HA⟩
theorem mtext_any (g : Nat) (s : St) (most : Int) (A : Option Addr) (n c : Nat) (l : List UInt8) (FB : List Nat) (w : World) (HV : VX cB 1 w FB A l) (hn : l.length = n) (hc : n ≤ c) (hlen : l.length ≤ 1000000000) (hg : g ∉ FB) (HR : Rd 81 w g (.slice A n c) s) (hs : s.ok l) (hm : -9223372036854775808 ≤ most ∧ most ≤ 9223372036854775807) :
    Calls Tryz.prog 46 #[.pointer (some ⟨g, 0, none⟩), .int .i64 most] w fun e w' => e = .returned (.string (str (rText l most s).1)) ∧ Rd 81 w' g (.slice A n c) (rText l most s).2 ∧ Fr [g] w w' := by
  rcases HR.split with ⟨p, q, rfl, HB⟩ | ⟨p, q, rfl, HB⟩
  · exact mtext_ok g p q most A n c l FB w HV hn hc hlen hg HB hs hm
  · refine (mtext_bad g p _ q most w HB).mono fun e w' h => ?_
    obtain ⟨rfl, h2, h3⟩ := h
    have hres : rText l most ⟨p, true⟩ = ([], ⟨p, true⟩) := by unfold rText; simp only [rNum_bad, if_true]
    rw [hres]
    exact ⟨rfl, Rd.no h2, h3⟩
set_option maxRecDepth 100000 in
set_option maxHeartbeats 400000 in
theorem rend_lt (g p n c : Nat) (A : Option Addr) (q : Int) (w : World) (HB : Blk w g #[.slice A n c, .int .i64 (p : Int), .bool false, .int .i64 q] 114) (hp : p < n) :
    Calls Tryz.prog 44 #[.pointer (some ⟨g, 0, none⟩)] w fun e w' => ∃ g2, e = .returned (.iface 116 (.pointer (some ⟨g2, 0, none⟩))) ∧ Blk w' g2 #[.int .i64 (p : Int), .int .i64 2] 118 ∧ Blk w' g #[.slice A n c, .int .i64 (p : Int), .bool true, .int .i64 (p : Int)] 114 ∧ Fr [g] w w' ∧ w.heap.size ≤ g2 := by
 have HA := Fr.refl [g] w
 refine Zen (N := 30) Tryz.func44 (c := _) [(0, Pt g 0)] <| Zsg <| Zr 1 [(2, .nilIface)] <| Zdn <| Zq <| Zq <| ZD [.free, .free, .free, .still, .free, .free, .free, .still, .free, .free] 10 ?_
 intro w1 F2 _
 have HB := HB.k F2
 refine Yr [0, 1, 2] [(5, Pt g 1), (4, Pt g 0), (3, Pt g 0)] <| Yl 3 6 (J (p : Int)) (HB.s 1) <| Yr [4, 5, 6] [(9, Pt g 0), (8, Pt g 0), (7, Pt g 0)] <| Yl 7 10 (.slice A n c) (HB.s 0) <| Yr [8, 9] [(12, .bool (decide (((p : Int) : Int) < (n : Int)))), (11, J (n : Int))] <| WO.topPT (((p : Int) : Int) < (n : Int)) (by omega) <| Ydn <| ZT <| WE.region <| Zr 4 [(16, Pt g 1), (15, Pt g 0), (14, Pt g 0), (13, Pt g 0)] <| Zl 17 (J (p : Int)) (HB.s 1) <| Zc 18 (fail_false g (.slice A n c : Value) (p : Int) q (p : Int) _ HB) ?_
 rintro _ w4 ⟨rfl, HB3, F5⟩
 refine ⟨_, rfl, trivial, Zdn <| Zq <| Zsg <| Zr 3 [(21, Pt g 2), (20, Pt g 0), (19, Pt g 0)] <| Zl 22 (.bool true) (HB3.s 2) <| Zdn <| ZT <| Zsg <| Zr 3 [(25, Pt g 3), (24, Pt g 0), (23, Pt g 0)] <| Zl 26 (J (p : Int)) (HB3.s 3) <| Zr 1 [(27, .agg #[J (p : Int), J 2])] <| Zb 28 #[J (p : Int), J 2] 118 (fun g => Pt g 0) ?_⟩
 intro g6 w7 HB9 F8 le10 _
 have HA := (HA.step0 F2).step F5 (inSL (by simp) inS0)
 have ge_HA_g6 := Nat.le_trans HA.size le10
 have HB3 := HB3.k F8
 have HA := HA.step0 F8
 refine Zr 2 [(2, .iface 116 (Pt g6 0)), (29, .iface 116 (Pt g6 0))] <| Zdn <| WE.ret <| WQ.thenR <| ZR (.iface 116 (Pt g6 0)) ?_
 exact ⟨g6, rfl, HB9, HB3, HA, ge_HA_g6⟩
set_option maxRecDepth 100000 in
set_option maxHeartbeats 400000 in
theorem rend_eq (g p n c : Nat) (A : Option Addr) (q : Int) (w : World) (HB : Blk w g #[.slice A n c, .int .i64 (p : Int), .bool false, .int .i64 q] 114) (hp : ¬ p < n) :
    Calls Tryz.prog 44 #[.pointer (some ⟨g, 0, none⟩)] w fun e w' => e = .returned .nilIface ∧ Blk w' g #[.slice A n c, .int .i64 (p : Int), .bool false, .int .i64 q] 114 ∧ Fr [g] w w' := by
 have HA := Fr.refl [g] w
 refine Zen (N := 30) Tryz.func44 (c := _) [(0, Pt g 0)] <| Zsg <| Zr 1 [(2, .nilIface)] <| Zdn <| Zq <| Zq <| ZD [.free, .free, .free, .still, .free, .free, .free, .still, .free, .free] 10 ?_
 intro w1 F2 _
 have HB := HB.k F2
 have HA := HA.step0 F2
 refine Yr [0, 1, 2] [(5, Pt g 1), (4, Pt g 0), (3, Pt g 0)] <| Yl 3 6 (J (p : Int)) (HB.s 1) <| Yr [4, 5, 6] [(9, Pt g 0), (8, Pt g 0), (7, Pt g 0)] <| Yl 7 10 (.slice A n c) (HB.s 0) <| Yr [8, 9] [(12, .bool (decide (((p : Int) : Int) < (n : Int)))), (11, J (n : Int))] <| WO.topPF (((p : Int) : Int) < (n : Int)) (by omega) <| Ydn <| ZF <| Zk <| Zq <| Zsg <| Zr 3 [(21, Pt g 2), (20, Pt g 0), (19, Pt g 0)] <| Zl 22 (.bool false) (HB.s 2) <| Zdn <| ZF <| Zk <| Zsg <| Zr 1 [(2, .nilIface)] <| Zdn <| WE.ret <| ZR (.nilIface) ?_
 exact ⟨rfl, HB, HA⟩
set_option maxRecDepth 100000 in
set_option maxHeartbeats 400000 in
theorem rend_bad (g p n c : Nat) (A : Option Addr) (q : Int) (w : World) (HB : Blk w g #[.slice A n c, .int .i64 q, .bool true, .int .i64 (p : Int)] 114)  :
    Calls Tryz.prog 44 #[.pointer (some ⟨g, 0, none⟩)] w fun e w' => ∃ g2, e = .returned (.iface 116 (.pointer (some ⟨g2, 0, none⟩))) ∧ Blk w' g2 #[.int .i64 (p : Int), .int .i64 2] 118 ∧ Blk w' g #[.slice A n c, .int .i64 q, .bool true, .int .i64 (p : Int)] 114 ∧ Fr [g] w w' ∧ w.heap.size ≤ g2 := by
 have HA := Fr.refl [g] w
 refine Zen (N := 30) Tryz.func44 (c := _) [(0, Pt g 0)] <| Zsg <| Zr 1 [(2, .nilIface)] <| Zdn <| Zq <| Zq <| ZD [.free, .free, .free, .still, .free, .free, .free, .still, .free, .free] 10 ?_
 intro w1 F2 _
 have HB := HB.k F2
 refine Yr [0, 1, 2] [(5, Pt g 1), (4, Pt g 0), (3, Pt g 0)] <| Yl 3 6 (J q) (HB.s 1) <| Yr [4, 5, 6] [(9, Pt g 0), (8, Pt g 0), (7, Pt g 0)] <| Yl 7 10 (.slice A n c) (HB.s 0) <| Yr [8, 9] [(12, .bool (decide ((q : Int) < (n : Int)))), (11, J (n : Int))] <| WO.topP ((q : Int) < (n : Int)) ?_ ?_
 ·
  intro h3
  refine Ydn <| ZT <| WE.region <| Zr 4 [(16, Pt g 1), (15, Pt g 0), (14, Pt g 0), (13, Pt g 0)] <| Zl 17 (J q) (HB.s 1) <| Zc 18 (fail_true g (.slice A n c : Value) q (p : Int) q _ HB) ?_
  rintro _ w5 ⟨rfl, HB4, F6⟩
  refine ⟨_, rfl, trivial, Zdn <| Zq <| Zsg <| Zr 3 [(21, Pt g 2), (20, Pt g 0), (19, Pt g 0)] <| Zl 22 (.bool true) (HB4.s 2) <| Zdn <| ZT <| Zsg <| Zr 3 [(25, Pt g 3), (24, Pt g 0), (23, Pt g 0)] <| Zl 26 (J (p : Int)) (HB4.s 3) <| Zr 1 [(27, .agg #[J (p : Int), J 2])] <| Zb 28 #[J (p : Int), J 2] 118 (fun g => Pt g 0) ?_⟩
  intro g7 w8 HB10 F9 le11 _
  have HA := (HA.step0 F2).step F6 (inSL (by simp) inS0)
  have ge_HA_g7 := Nat.le_trans HA.size le11
  have HB4 := HB4.k F9
  have HA := HA.step0 F9
  refine Zr 2 [(2, .iface 116 (Pt g7 0)), (29, .iface 116 (Pt g7 0))] <| Zdn <| WE.ret <| WQ.thenR <| ZR (.iface 116 (Pt g7 0)) ?_
  exact ⟨g7, rfl, HB10, HB4, HA, ge_HA_g7⟩
 intro h3
 refine Ydn <| ZF <| Zk <| Zq <| Zsg <| Zr 3 [(21, Pt g 2), (20, Pt g 0), (19, Pt g 0)] <| Zl 22 (.bool true) (HB.s 2) <| Zdn <| ZT <| Zsg <| Zr 3 [(25, Pt g 3), (24, Pt g 0), (23, Pt g 0)] <| Zl 26 (J (p : Int)) (HB.s 3) <| Zr 1 [(27, .agg #[J (p : Int), J 2])] <| Zb 28 #[J (p : Int), J 2] 118 (fun g => Pt g 0) ?_
 intro g12 w13 HB15 F14 le16 _
 have HA := HA.step0 F2
 have ge_HA_g12 := Nat.le_trans HA.size le16
 have HB := HB.k F14
 have HA := HA.step0 F14
 refine Zr 2 [(2, .iface 116 (Pt g12 0)), (29, .iface 116 (Pt g12 0))] <| Zdn <| WE.ret <| WQ.thenR <| ZR (.iface 116 (Pt g12 0)) ?_
 exact ⟨g12, rfl, HB15, HB, HA, ge_HA_g12⟩
theorem rEnd_lt {l : List UInt8} {p : Nat} (h : p < l.length) : rEnd l ⟨p, false⟩ = ⟨p, true⟩ := by unfold rEnd; rw [if_pos ⟨rfl, h⟩]
theorem rEnd_eq {l : List UInt8} {p : Nat} (h : ¬ p < l.length) : rEnd l ⟨p, false⟩ = ⟨p, false⟩ := by unfold rEnd; rw [if_neg fun k => h k.2]
theorem rEnd_bad (l : List UInt8) (p : Nat) : rEnd l ⟨p, true⟩ = ⟨p, true⟩ := by unfold rEnd; rw [if_neg fun k => by cases k.1]
theorem rend_any (g : Nat) (s : St) (A : Option Addr) (n c : Nat) (l : List UInt8) (w : World) (hn : l.length = n) (HR : Rd 114 w g (.slice A n c) s) :
    Calls Tryz.prog 44 #[.pointer (some ⟨g, 0, none⟩)] w fun e w' => (((rEnd l s).bad = false ∧ e = .returned .nilIface) ∨ ((rEnd l s).bad = true ∧ ∃ g2, e = .returned (.iface 116 (.pointer (some ⟨g2, 0, none⟩))) ∧ Blk w' g2 #[.int .i64 ((rEnd l s).p : Int), .int .i64 2] 118 ∧ w.heap.size ≤ g2)) ∧ Rd 114 w' g (.slice A n c) (rEnd l s) ∧ Fr [g] w w' := by
  rcases HR.split with ⟨p, q, rfl, HB⟩ | ⟨p, q, rfl, HB⟩
  · by_cases hp : p < n
    · rw [rEnd_lt (by omega)]
      refine (rend_lt g p n c A q w HB hp).mono fun e w' h => ?_
      obtain ⟨g2, rfl, h2, h3, h4, h5⟩ := h
      exact ⟨.inr ⟨rfl, g2, rfl, h2, h5⟩, Rd.no h3, h4⟩
    · rw [rEnd_eq (by omega)]
      refine (rend_eq g p n c A q w HB hp).mono fun e w' h => ?_
      obtain ⟨rfl, h2, h3⟩ := h
      exact ⟨.inl ⟨rfl, rfl⟩, Rd.ok h2, h3⟩
  · rw [rEnd_bad]
    refine (rend_bad g p n c A q w HB).mono fun e w' h => ?_
    obtain ⟨g2, rfl, h2, h3, h4, h5⟩ := h
    exact ⟨.inr ⟨rfl, g2, rfl, h2, h5⟩, Rd.no h3, h4⟩
set_option maxRecDepth 100000 in
set_option maxHeartbeats 400000 in
theorem mend_lt (g p n c : Nat) (A : Option Addr) (q : Int) (w : World) (HB : Blk w g #[.slice A n c, .int .i64 (p : Int), .bool false, .int .i64 q] 81) (hp : p < n) :
    Calls Tryz.prog 48 #[.pointer (some ⟨g, 0, none⟩)] w fun e w' => e = .returned (.int .i64 (p : Int)) ∧ Blk w' g #[.slice A n c, .int .i64 (p : Int), .bool true, .int .i64 (p : Int)] 81 ∧ Fr [g] w w' := by
 have HA := Fr.refl [g] w
 refine Zen (N := 38) Tryz.func48 (c := _) [(0, Pt g 0)] <| Zsg <| Zr 1 [(2, J 0)] <| Zdn <| Zq <| Zq <| ZD [.free, .free, .free, .still, .free, .free, .free, .free, .free, .still, .free, .free, .free, .still, .free, .free, .free] 17 ?_
 intro w1 F2 _
 have HB := HB.k F2
 refine Yr [0, 1, 2] [(5, Pt g 2), (4, Pt g 0), (3, Pt g 0)] <| Yl 3 6 (.bool false) (HB.s 2) <| Yr [4, 5, 6, 7, 8] [(11, Pt g 1), (10, Pt g 0), (9, Pt g 0), (8, .bool true), (7, .bool true)] <| Yl 9 12 (J (p : Int)) (HB.s 1) <| Yr [10, 11, 12] [(15, Pt g 0), (14, Pt g 0), (13, Pt g 0)] <| Yl 13 16 (.slice A n c) (HB.s 0) <| Yr [14, 15] [(18, .bool (decide (((p : Int) : Int) < (n : Int)))), (17, J (n : Int))] <| WO.topPT (((p : Int) : Int) < (n : Int)) (by omega) <| Yr [16] [(19, .bool true)] <| Ydn <| ZT <| Zsg <| Zr 3 [(22, Pt g 2), (21, Pt g 0), (20, Pt g 0)] <| Zs g 2 [.bool true] #[.slice A n c, J (p : Int), .bool true, J q] HB ?_
 intro w3 HB5 F4 _
 refine Zdn <| WE.region <| Zr 4 [(26, Pt g 1), (25, Pt g 0), (24, Pt g 0), (23, Pt g 0)] <| Zl 27 (J (p : Int)) (HB5.s 1) <| Zr 2 [(29, Pt g 3), (28, Pt g 0)] <| Zs g 3 [J (p : Int)] #[.slice A n c, J (p : Int), .bool true, J (p : Int)] HB5 ?_
 intro w6 HB8 F7 _
 have HA := ((HA.step0 F2).step F4 (inSL (by simp) inS0)).step F7 (inSL (by simp) inS0)
 refine Zdn <| Zq <| Zsg <| Zr 3 [(32, Pt g 2), (31, Pt g 0), (30, Pt g 0)] <| Zl 33 (.bool true) (HB8.s 2) <| Zdn <| ZT <| Zsg <| Zr 3 [(36, Pt g 3), (35, Pt g 0), (34, Pt g 0)] <| Zl 37 (J (p : Int)) (HB8.s 3) <| Zr 1 [(2, J (p : Int))] <| Zdn <| WE.ret <| WQ.thenR <| ZR (J (p : Int)) ?_
 exact ⟨rfl, HB8, HA⟩
set_option maxRecDepth 100000 in
set_option maxHeartbeats 400000 in
theorem mend_eq (g p n c : Nat) (A : Option Addr) (q : Int) (w : World) (HB : Blk w g #[.slice A n c, .int .i64 (p : Int), .bool false, .int .i64 q] 81) (hp : ¬ p < n) :
    Calls Tryz.prog 48 #[.pointer (some ⟨g, 0, none⟩)] w fun e w' => e = .returned (.int .i64 (-1)) ∧ Blk w' g #[.slice A n c, .int .i64 (p : Int), .bool false, .int .i64 q] 81 ∧ Fr [g] w w' := by
 have HA := Fr.refl [g] w
 refine Zen (N := 38) Tryz.func48 (c := _) [(0, Pt g 0)] <| Zsg <| Zr 1 [(2, J 0)] <| Zdn <| Zq <| Zq <| ZD [.free, .free, .free, .still, .free, .free, .free, .free, .free, .still, .free, .free, .free, .still, .free, .free, .free] 17 ?_
 intro w1 F2 _
 have HB := HB.k F2
 have HA := HA.step0 F2
 refine Yr [0, 1, 2] [(5, Pt g 2), (4, Pt g 0), (3, Pt g 0)] <| Yl 3 6 (.bool false) (HB.s 2) <| Yr [4, 5, 6, 7, 8] [(11, Pt g 1), (10, Pt g 0), (9, Pt g 0), (8, .bool true), (7, .bool true)] <| Yl 9 12 (J (p : Int)) (HB.s 1) <| Yr [10, 11, 12] [(15, Pt g 0), (14, Pt g 0), (13, Pt g 0)] <| Yl 13 16 (.slice A n c) (HB.s 0) <| Yr [14, 15] [(18, .bool (decide (((p : Int) : Int) < (n : Int)))), (17, J (n : Int))] <| WO.topPF (((p : Int) : Int) < (n : Int)) (by omega) <| Yr [16] [(19, .bool false)] <| Ydn <| ZF <| Zk <| Zq <| Zsg <| Zr 3 [(32, Pt g 2), (31, Pt g 0), (30, Pt g 0)] <| Zl 33 (.bool false) (HB.s 2) <| Zdn <| ZF <| Zk <| Zsg <| Zr 1 [(2, J (-1))] <| Zdn <| WE.ret <| ZR (J (-1)) ?_
 exact ⟨rfl, HB, HA⟩
set_option maxRecDepth 100000 in
set_option maxHeartbeats 400000 in
theorem mend_bad (g p n c : Nat) (A : Option Addr) (q : Int) (w : World) (HB : Blk w g #[.slice A n c, .int .i64 q, .bool true, .int .i64 (p : Int)] 81)  :
    Calls Tryz.prog 48 #[.pointer (some ⟨g, 0, none⟩)] w fun e w' => e = .returned (.int .i64 (p : Int)) ∧ Blk w' g #[.slice A n c, .int .i64 q, .bool true, .int .i64 (p : Int)] 81 ∧ Fr [g] w w' := by
 have HA := Fr.refl [g] w
 refine Zen (N := 38) Tryz.func48 (c := _) [(0, Pt g 0)] <| Zsg <| Zr 1 [(2, J 0)] <| Zdn <| Zq <| Zq <| ZD [.free, .free, .free, .still, .free, .free, .free, .free, .free, .still, .free, .free, .free, .still, .free, .free, .free] 17 ?_
 intro w1 F2 _
 have HB := HB.k F2
 have HA := HA.step0 F2
 refine Yr [0, 1, 2] [(5, Pt g 2), (4, Pt g 0), (3, Pt g 0)] <| Yl 3 6 (.bool true) (HB.s 2) <| Yr [4, 5, 6, 7, 8, 9, 10, 11, 12, 13, 14, 15, 16] [(19, .bool false), (18, undef), (17, undef), (16, undef), (15, undef), (14, undef), (13, undef), (12, undef), (11, undef), (10, undef), (9, undef), (8, .bool false), (7, .bool false)] <| Ydn <| ZF <| Zk <| Zq <| Zsg <| Zr 3 [(32, Pt g 2), (31, Pt g 0), (30, Pt g 0)] <| Zl 33 (.bool true) (HB.s 2) <| Zdn <| ZT <| Zsg <| Zr 3 [(36, Pt g 3), (35, Pt g 0), (34, Pt g 0)] <| Zl 37 (J (p : Int)) (HB.s 3) <| Zr 1 [(2, J (p : Int))] <| Zdn <| WE.ret <| WQ.thenR <| ZR (J (p : Int)) ?_
 exact ⟨rfl, HB, HA⟩
theorem mend_any (g : Nat) (s : St) (A : Option Addr) (n c : Nat) (l : List UInt8) (w : World) (hn : l.length = n) (HR : Rd 81 w g (.slice A n c) s) :
    Calls Tryz.prog 48 #[.pointer (some ⟨g, 0, none⟩)] w fun e w' => e = .returned (.int .i64 (if (rEnd l s).bad then ((rEnd l s).p : Int) else -1)) ∧ Rd 81 w' g (.slice A n c) (rEnd l s) ∧ Fr [g] w w' := by
  rcases HR.split with ⟨p, q, rfl, HB⟩ | ⟨p, q, rfl, HB⟩
  · by_cases hp : p < n
    · rw [rEnd_lt (by omega)]
      refine (mend_lt g p n c A q w HB hp).mono fun e w' h => ?_
      obtain ⟨rfl, h2, h3⟩ := h
      exact ⟨rfl, Rd.no h2, h3⟩
    · rw [rEnd_eq (by omega)]
      refine (mend_eq g p n c A q w HB hp).mono fun e w' h => ?_
      obtain ⟨rfl, h2, h3⟩ := h
      exact ⟨rfl, Rd.ok h2, h3⟩
  · rw [rEnd_bad]
    refine (mend_bad g p n c A q w HB).mono fun e w' h => ?_
    obtain ⟨rfl, h2, h3⟩ := h
    exact ⟨rfl, Rd.no h2, h3⟩
set_option maxRecDepth 100000 in
set_option maxHeartbeats 400000 in
theorem read_any (A : Option Addr) (n c : Nat) (w : World) :
    Calls Tryz.prog 41 #[.slice A n c] w fun e w' => ∃ g, e = .returned (.pointer (some ⟨g, 0, none⟩)) ∧ Blk w' g #[.slice A n c, .int .i64 0, .bool false, .int .i64 0] 114 ∧ Fr [] w w' ∧ w.heap.size ≤ g := by
 have HA := Fr.refl [] w
 refine Zen (N := 6) Tryz.func41 (c := _) [(0, .slice A n c)] <| Zsg <| Zr 1 [(2, .pointer none)] <| Zdn <| Zsg <| Zr 2 [(4, .agg #[.slice A n c, J 0, .bool false, J 0]), (3, .slice A n c)] <| Zb 5 #[.slice A n c, J 0, .bool false, J 0] 114 (fun g => Pt g 0) ?_
 intro g1 w2 HB4 F3 le5 _
 have ge_HA_g1 := Nat.le_trans HA.size le5
 have HA := HA.step0 F3
 refine Zr 1 [(2, Pt g1 0)] <| Zdn <| WE.ret <| ZR (Pt g1 0) ?_
 exact ⟨_, rfl, HB4, HA, ge_HA_g1⟩
end Go.Proofs.YtdhonbahpcmmnaaGreatDoor.Wire
