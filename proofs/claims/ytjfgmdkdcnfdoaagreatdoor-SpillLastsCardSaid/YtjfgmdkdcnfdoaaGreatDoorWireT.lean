/- Layer 6's walks: whole numbers, texts, and the end, of a reader. -/
import Derived.Test.YtjfgmdkdcnfdoaaGreatDoorWireR
set_option linter.unusedVariables false
set_option linter.unusedSimpArgs false
namespace Go.Proofs.YtjfgmdkdcnfdoaaGreatDoor.Wire
open Go Go.RowKit Go.Proofs.YtjfgmdkdcnfdoaaGreatDoor Go.Proofs.YtjfgmdkdcnfdoaaGreatDoor.Eng Go.Proofs.YtjfgmdkdcnfdoaaGreatDoorW.PrintWords
set_option maxRecDepth 100000 in
set_option maxHeartbeats 400000 in
theorem rtext_ok (g p : Nat) (q most : Int) (A : Option Addr) (n c : Nat) (l : List UInt8) (FB : List Nat) (w : World) (HV : VX cB 1 w FB A l) (hn : l.length = n) (hc : n ≤ c) (hlen : l.length ≤ 1000000000) (hg : g ∉ FB) (HB : Blk w g #[.slice A n c, .int .i64 (p : Int), .bool false, .int .i64 q] 421) (hs : St.ok l ⟨p, false⟩) (hm : -9223372036854775808 ≤ most ∧ most ≤ 9223372036854775807) :
  Calls Tryz.prog 279 #[.pointer (some ⟨g, 0, none⟩), .int .i64 most] w fun e w' => e = .returned (.string (str (rText l most ⟨p, false⟩).1)) ∧ Rd 421 w' g (.slice A n c) (rText l most ⟨p, false⟩).2 ∧ Fr [g] w w' := by
 have hp : p ≤ n := by unfold St.ok at hs; simp only at hs; omega
 have HA := Fr.refl [g] w
 refine enter (N := 69) Tryz.func279 (c := _) rfl (by kernel_rfl) (by kernel_rfl) (e := [(0, .pointer (some ⟨g, 0, none⟩)), (1, .int .i64 most)]) (by kernel_rfl) ?_
 refine WE.seq ?_
 refine WE.region ?_
 refine WO.run 1 0 [(4, .string (⟨#[]⟩))] (by kernel_rfl) (by kernel_rfl) ?_
 refine WO.done (by kernel_rfl) ?_
 refine WQ.keep [0, 1, 4] (e' := [(0, .pointer (some ⟨g, 0, none⟩)), (1, .int .i64 most), (4, .string (⟨#[]⟩))]) (by kernel_rfl) ?_
 refine WQ.thenN ?_
 refine WE.seq ?_
 refine WE.region ?_
 refine WO.run 3 0 [(9, .pointer (some ⟨g, 1, none⟩)), (8, .pointer (some ⟨g, 0, none⟩)), (7, .pointer (some ⟨g, 0, none⟩))] (by kernel_rfl) (by kernel_rfl) ?_
 refine WO.ld (SQ.S 3 (by kernel_rfl)) 10 (.int .i64 (p : Int)) (by kernel_rfl) (same (HB.at 1 (by kernel_rfl))) ?_
 refine WO.run 1 4 [(5, .int .i64 (p : Int))] (by kernel_rfl) (by kernel_rfl) ?_
 refine WO.done (by kernel_rfl) ?_
 refine WQ.keep [0, 1, 4, 5] (e' := [(0, .pointer (some ⟨g, 0, none⟩)), (1, .int .i64 most), (4, .string (⟨#[]⟩)), (5, .int .i64 (p : Int))]) (by kernel_rfl) ?_
 refine WQ.thenN ?_
 refine WE.seq ?_
 refine WE.region ?_
 refine WO.run 1 0 [(11, .pointer (some ⟨g, 0, none⟩))] (by kernel_rfl) (by kernel_rfl) ?_
 refine WO.call (SQ.E 1 (by kernel_rfl)) 12 (by kernel_rfl) (rnum_any g ⟨p, false⟩ A n c l FB _ HV hn hc hlen hg (Rd.ok HB) hs) ?_
 rintro _ w1 ⟨rfl, HR, F2⟩
 have hok2 := rNum_ok hs
 have hlt1 := rNum_lt l ⟨p, false⟩
 generalize hn1 : (rNum l ⟨p, false⟩).1 = n1 at hlt1 ⊢
 refine ⟨_, rfl, trivial, ?_⟩
 have HV := HV.keep F2 (djB hg)
 have HA := Fr.step HA F2 (inSL (by simp) inS0)
 rcases HR.split with ⟨p2, q2, hs2, HB2⟩ | ⟨p2, q2, hs2, HB2⟩
 ·
  rw [hs2] at hok2; unfold St.ok at hok2; simp only at hok2
  refine WO.run 1 2 [(6, .int .u64 (n1 : Int))] (by kernel_rfl) (by kernel_rfl) ?_
  refine WO.done (by kernel_rfl) ?_
  refine WQ.keep [0, 1, 4, 5, 6] (e' := [(0, .pointer (some ⟨g, 0, none⟩)), (1, .int .i64 most), (4, .string (⟨#[]⟩)), (5, .int .i64 (p : Int)), (6, .int .u64 (n1 : Int))]) (by kernel_rfl) ?_
  refine WQ.thenN ?_
  refine WE.seq ?_
  refine WE.seq ?_
  refine WE.region ?_
  refine WO.run 3 0 [(15, .pointer (some ⟨g, 2, none⟩)), (14, .pointer (some ⟨g, 0, none⟩)), (13, .pointer (some ⟨g, 0, none⟩))] (by kernel_rfl) (by kernel_rfl) ?_
  refine WO.ld (SQ.S 3 (by kernel_rfl)) 16 (.bool false) (by kernel_rfl) (same (HB2.at 2 (by kernel_rfl))) ?_
  refine WO.done (by kernel_rfl) ?_
  refine WQ.keep [0, 1, 4, 5, 6, 16] (e' := [(0, .pointer (some ⟨g, 0, none⟩)), (1, .int .i64 most), (4, .string (⟨#[]⟩)), (5, .int .i64 (p : Int)), (6, .int .u64 (n1 : Int)), (16, .bool false)]) (by kernel_rfl) ?_
  refine WQ.thenN ?_
  refine WE.condF (by kernel_rfl) ?_
  refine WE.skip ?_
  refine WQ.thenN ?_
  refine WE.seq ?_
  refine WE.seq ?_
  refine WE.draw [.free, .free, .free, .free, .free, .free, .free, .free, .free, .free, .free, .free, .free, .still, .free, .free, .free, .free, .still, .free, .free, .free, .free] Same sameR (by kernel_rfl) 23 (Array.replicate 23 false) (by kernel_rfl) rfl ?_
  intro w3 F4 _
  have HB2 := Blk.keep HB2 F4 (nin0 _)
  have HV := HV.keep F4 (fun _ _ => nin0 _)
  have HA := Fr.step0 HA F4
  refine WO.one (SA.F sameR sameT _ 0 _ (by kernel_rfl)) 17 (.int .i64 most) (by kernel_rfl) ?_
  refine WO.one (SA.F sameR sameT _ 1 _ (by kernel_rfl)) 18 (.bool (decide ((most : Int) < 0))) (by kernel_rfl) ?_
  refine WO.topP ((most : Int) < 0) ?_ ?_
  ·
   intro h5
   refine WO.one (SA.F sameR sameT _ 2 _ (by kernel_rfl)) 19 (.bool true) (by kernel_rfl) ?_
   refine WO.off (SA.O sameR sameT _ 3 _ (by kernel_rfl)) 20 (by kernel_rfl) ?_
   refine WO.off (SA.O sameR sameT _ 4 _ (by kernel_rfl)) 21 (by kernel_rfl) ?_
   refine WO.off (SA.O sameR sameT _ 5 _ (by kernel_rfl)) 22 (by kernel_rfl) ?_
   refine WO.off (SA.O sameR sameT _ 6 _ (by kernel_rfl)) 23 (by kernel_rfl) ?_
   refine WO.one (SA.F sameR sameT _ 7 _ (by kernel_rfl)) 24 (.bool true) (by kernel_rfl) ?_
   refine WO.one (SA.F sameR sameT _ 8 _ (by kernel_rfl)) 25 (.bool true) (by kernel_rfl) ?_
   refine WO.off (SA.O sameR sameT _ 9 _ (by kernel_rfl)) 26 (by kernel_rfl) ?_
   refine WO.off (SA.O sameR sameT _ 10 _ (by kernel_rfl)) 27 (by kernel_rfl) ?_
   refine WO.off (SA.O sameR sameT _ 11 _ (by kernel_rfl)) 28 (by kernel_rfl) ?_
   refine WO.off (SA.O sameR sameT _ 12 _ (by kernel_rfl)) 29 (by kernel_rfl) ?_
   refine WO.off (SA.O sameR sameT _ 13 _ (by kernel_rfl)) 30 (by kernel_rfl) ?_
   refine WO.off (SA.O sameR sameT _ 14 _ (by kernel_rfl)) 31 (by kernel_rfl) ?_
   refine WO.off (SA.O sameR sameT _ 15 _ (by kernel_rfl)) 32 (by kernel_rfl) ?_
   refine WO.off (SA.O sameR sameT _ 16 _ (by kernel_rfl)) 33 (by kernel_rfl) ?_
   refine WO.off (SA.O sameR sameT _ 17 _ (by kernel_rfl)) 34 (by kernel_rfl) ?_
   refine WO.off (SA.O sameR sameT _ 18 _ (by kernel_rfl)) 35 (by kernel_rfl) ?_
   refine WO.off (SA.O sameR sameT _ 19 _ (by kernel_rfl)) 36 (by kernel_rfl) ?_
   refine WO.off (SA.O sameR sameT _ 20 _ (by kernel_rfl)) 37 (by kernel_rfl) ?_
   refine WO.off (SA.O sameR sameT _ 21 _ (by kernel_rfl)) 38 (by kernel_rfl) ?_
   refine WO.one (SA.F sameR sameT _ 22 _ (by kernel_rfl)) 39 (.bool true) (by kernel_rfl) ?_
   refine WO.doneA (by kernel_rfl) ?_
   refine WQ.keep [0, 1, 4, 5, 6, 16, 39] (e' := [(0, .pointer (some ⟨g, 0, none⟩)), (1, .int .i64 most), (4, .string (⟨#[]⟩)), (5, .int .i64 (p : Int)), (6, .int .u64 (n1 : Int)), (16, .bool false), (39, .bool true)]) (by kernel_rfl) ?_
   refine WQ.thenN ?_
   refine WE.condT (by kernel_rfl) ?_
   refine WE.seq ?_
   refine WE.region ?_
   refine WO.run 2 0 [(41, .int .i64 (p : Int)), (40, .pointer (some ⟨g, 0, none⟩))] (by kernel_rfl) (by kernel_rfl) ?_
   refine WO.call (SQ.E 2 (by kernel_rfl)) 42 (by kernel_rfl) (fail_false g (.slice A n c : Value) (p2 : Int) q2 (p : Int) _ HB2) ?_
   rintro _ w7 ⟨rfl, HB6, F8⟩
   refine ⟨_, rfl, trivial, ?_⟩
   have HV := HV.keep F8 (djB hg)
   have HA := Fr.step HA F8 (inSL (by simp) inS0)
   refine WO.done (by kernel_rfl) ?_
   refine WQ.keep [0, 1, 4, 5, 6, 16, 39] (e' := [(0, .pointer (some ⟨g, 0, none⟩)), (1, .int .i64 most), (4, .string (⟨#[]⟩)), (5, .int .i64 (p : Int)), (6, .int .u64 (n1 : Int)), (16, .bool false), (39, .bool true)]) (by kernel_rfl) ?_
   refine WQ.thenN ?_
   refine WE.seq ?_
   refine WE.region ?_
   refine WO.run 1 0 [(4, .string (⟨#[]⟩))] (by kernel_rfl) (by kernel_rfl) ?_
   refine WO.done (by kernel_rfl) ?_
   refine WQ.keep [0, 1, 4, 5, 6, 16, 39] (e' := [(0, .pointer (some ⟨g, 0, none⟩)), (1, .int .i64 most), (4, .string (⟨#[]⟩)), (5, .int .i64 (p : Int)), (6, .int .u64 (n1 : Int)), (16, .bool false), (39, .bool true)]) (by kernel_rfl) ?_
   refine WQ.thenN ?_
   refine WE.ret ?_
   refine WQ.thenR ?_
   refine WQ.ret (v := .string (⟨#[]⟩)) (by kernel_rfl) ?_
   have hres : rText l most ⟨p, false⟩ = ([], ⟨p, true⟩) := by unfold rText; simp only [hs2, hn1, Bool.false_eq_true, if_false]; rw [if_pos (by omega)]
   rw [hres]
   exact ⟨rfl, Rd.no HB6, HA⟩
  intro h5
  refine WO.one (SA.F sameR sameT _ 2 _ (by kernel_rfl)) 19 (.bool false) (by kernel_rfl) ?_
  refine WO.one (SA.F sameR sameT _ 3 _ (by kernel_rfl)) 20 (.int .u64 (n1 : Int)) (by kernel_rfl) ?_
  refine WO.one (SA.F sameR sameT _ 4 _ (by kernel_rfl)) 21 (.int .i64 most) (by kernel_rfl) ?_
  refine WO.one (SA.F sameR sameT _ 5 _ (by kernel_rfl)) 22 (.int .u64 (IntKind.u64.wrap most)) (by kernel_rfl) ?_
  refine WO.top (v' := .int .u64 most) (wrap_u64 rfl (by omega)) ?_
  refine WO.one (SA.F sameR sameT _ 6 _ (by kernel_rfl)) 23 (.bool (decide (((n1 : Int) : Int) > most))) (by kernel_rfl) ?_
  refine WO.topP (((n1 : Int) : Int) > most) ?_ ?_
  ·
   intro h9
   refine WO.one (SA.F sameR sameT _ 7 _ (by kernel_rfl)) 24 (.bool true) (by kernel_rfl) ?_
   refine WO.one (SA.F sameR sameT _ 8 _ (by kernel_rfl)) 25 (.bool true) (by kernel_rfl) ?_
   refine WO.off (SA.O sameR sameT _ 9 _ (by kernel_rfl)) 26 (by kernel_rfl) ?_
   refine WO.off (SA.O sameR sameT _ 10 _ (by kernel_rfl)) 27 (by kernel_rfl) ?_
   refine WO.off (SA.O sameR sameT _ 11 _ (by kernel_rfl)) 28 (by kernel_rfl) ?_
   refine WO.off (SA.O sameR sameT _ 12 _ (by kernel_rfl)) 29 (by kernel_rfl) ?_
   refine WO.off (SA.O sameR sameT _ 13 _ (by kernel_rfl)) 30 (by kernel_rfl) ?_
   refine WO.off (SA.O sameR sameT _ 14 _ (by kernel_rfl)) 31 (by kernel_rfl) ?_
   refine WO.off (SA.O sameR sameT _ 15 _ (by kernel_rfl)) 32 (by kernel_rfl) ?_
   refine WO.off (SA.O sameR sameT _ 16 _ (by kernel_rfl)) 33 (by kernel_rfl) ?_
   refine WO.off (SA.O sameR sameT _ 17 _ (by kernel_rfl)) 34 (by kernel_rfl) ?_
   refine WO.off (SA.O sameR sameT _ 18 _ (by kernel_rfl)) 35 (by kernel_rfl) ?_
   refine WO.off (SA.O sameR sameT _ 19 _ (by kernel_rfl)) 36 (by kernel_rfl) ?_
   refine WO.off (SA.O sameR sameT _ 20 _ (by kernel_rfl)) 37 (by kernel_rfl) ?_
   refine WO.off (SA.O sameR sameT _ 21 _ (by kernel_rfl)) 38 (by kernel_rfl) ?_
   refine WO.one (SA.F sameR sameT _ 22 _ (by kernel_rfl)) 39 (.bool true) (by kernel_rfl) ?_
   refine WO.doneA (by kernel_rfl) ?_
   refine WQ.keep [0, 1, 4, 5, 6, 16, 39] (e' := [(0, .pointer (some ⟨g, 0, none⟩)), (1, .int .i64 most), (4, .string (⟨#[]⟩)), (5, .int .i64 (p : Int)), (6, .int .u64 (n1 : Int)), (16, .bool false), (39, .bool true)]) (by kernel_rfl) ?_
   refine WQ.thenN ?_
   refine WE.condT (by kernel_rfl) ?_
   refine WE.seq ?_
   refine WE.region ?_
   refine WO.run 2 0 [(41, .int .i64 (p : Int)), (40, .pointer (some ⟨g, 0, none⟩))] (by kernel_rfl) (by kernel_rfl) ?_
   refine WO.call (SQ.E 2 (by kernel_rfl)) 42 (by kernel_rfl) (fail_false g (.slice A n c : Value) (p2 : Int) q2 (p : Int) _ HB2) ?_
   rintro _ w11 ⟨rfl, HB10, F12⟩
   refine ⟨_, rfl, trivial, ?_⟩
   have HV := HV.keep F12 (djB hg)
   have HA := Fr.step HA F12 (inSL (by simp) inS0)
   refine WO.done (by kernel_rfl) ?_
   refine WQ.keep [0, 1, 4, 5, 6, 16, 39] (e' := [(0, .pointer (some ⟨g, 0, none⟩)), (1, .int .i64 most), (4, .string (⟨#[]⟩)), (5, .int .i64 (p : Int)), (6, .int .u64 (n1 : Int)), (16, .bool false), (39, .bool true)]) (by kernel_rfl) ?_
   refine WQ.thenN ?_
   refine WE.seq ?_
   refine WE.region ?_
   refine WO.run 1 0 [(4, .string (⟨#[]⟩))] (by kernel_rfl) (by kernel_rfl) ?_
   refine WO.done (by kernel_rfl) ?_
   refine WQ.keep [0, 1, 4, 5, 6, 16, 39] (e' := [(0, .pointer (some ⟨g, 0, none⟩)), (1, .int .i64 most), (4, .string (⟨#[]⟩)), (5, .int .i64 (p : Int)), (6, .int .u64 (n1 : Int)), (16, .bool false), (39, .bool true)]) (by kernel_rfl) ?_
   refine WQ.thenN ?_
   refine WE.ret ?_
   refine WQ.thenR ?_
   refine WQ.ret (v := .string (⟨#[]⟩)) (by kernel_rfl) ?_
   have hres : rText l most ⟨p, false⟩ = ([], ⟨p, true⟩) := by unfold rText; simp only [hs2, hn1, Bool.false_eq_true, if_false]; rw [if_pos (by omega)]
   rw [hres]
   exact ⟨rfl, Rd.no HB10, HA⟩
  intro h9
  refine WO.one (SA.F sameR sameT _ 7 _ (by kernel_rfl)) 24 (.bool false) (by kernel_rfl) ?_
  refine WO.one (SA.F sameR sameT _ 8 _ (by kernel_rfl)) 25 (.bool false) (by kernel_rfl) ?_
  refine WO.one (SA.F sameR sameT _ 9 _ (by kernel_rfl)) 26 (.int .u64 (n1 : Int)) (by kernel_rfl) ?_
  refine WO.one (SA.F sameR sameT _ 10 _ (by kernel_rfl)) 27 (.pointer (some ⟨g, 0, none⟩)) (by kernel_rfl) ?_
  refine WO.one (SA.F sameR sameT _ 11 _ (by kernel_rfl)) 28 (.pointer (some ⟨g, 0, none⟩)) (by kernel_rfl) ?_
  refine WO.one (SA.F sameR sameT _ 12 _ (by kernel_rfl)) 29 (.pointer (some ⟨g, 0, none⟩)) (by kernel_rfl) ?_
  refine WO.ld (SA.S sameR sameT _ 13 _ (by kernel_rfl)) 30 (.slice A n c) (by kernel_rfl) (same (HB2.at 0 (by kernel_rfl))) ?_
  refine WO.one (SA.F sameR sameT _ 14 _ (by kernel_rfl)) 31 (.int .i64 (n : Int)) (by kernel_rfl) ?_
  refine WO.one (SA.F sameR sameT _ 15 _ (by kernel_rfl)) 32 (.pointer (some ⟨g, 0, none⟩)) (by kernel_rfl) ?_
  refine WO.one (SA.F sameR sameT _ 16 _ (by kernel_rfl)) 33 (.pointer (some ⟨g, 0, none⟩)) (by kernel_rfl) ?_
  refine WO.one (SA.F sameR sameT _ 17 _ (by kernel_rfl)) 34 (.pointer (some ⟨g, 1, none⟩)) (by kernel_rfl) ?_
  refine WO.ld (SA.S sameR sameT _ 18 _ (by kernel_rfl)) 35 (.int .i64 (p2 : Int)) (by kernel_rfl) (same (HB2.at 1 (by kernel_rfl))) ?_
  refine WO.one (SA.F sameR sameT _ 19 _ (by kernel_rfl)) 36 (.int .i64 (IntKind.i64.wrap ((n : Int) - (p2 : Int)))) (by kernel_rfl) ?_
  refine WO.top (v' := .int .i64 ((n - p2 : Nat) : Int)) (wrap_i64 (by omega) (by omega)) ?_
  refine WO.one (SA.F sameR sameT _ 20 _ (by kernel_rfl)) 37 (.int .u64 (IntKind.u64.wrap ((n - p2 : Nat) : Int))) (by kernel_rfl) ?_
  refine WO.top (v' := .int .u64 ((n - p2 : Nat) : Int)) (wrap_u64 rfl (by omega)) ?_
  refine WO.one (SA.F sameR sameT _ 21 _ (by kernel_rfl)) 38 (.bool (decide (((n1 : Int) : Int) > ((n - p2 : Nat) : Int)))) (by kernel_rfl) ?_
  refine WO.topP (((n1 : Int) : Int) > ((n - p2 : Nat) : Int)) ?_ ?_
  ·
   intro h13
   refine WO.one (SA.F sameR sameT _ 22 _ (by kernel_rfl)) 39 (.bool true) (by kernel_rfl) ?_
   refine WO.doneA (by kernel_rfl) ?_
   refine WQ.keep [0, 1, 4, 5, 6, 16, 39] (e' := [(0, .pointer (some ⟨g, 0, none⟩)), (1, .int .i64 most), (4, .string (⟨#[]⟩)), (5, .int .i64 (p : Int)), (6, .int .u64 (n1 : Int)), (16, .bool false), (39, .bool true)]) (by kernel_rfl) ?_
   refine WQ.thenN ?_
   refine WE.condT (by kernel_rfl) ?_
   refine WE.seq ?_
   refine WE.region ?_
   refine WO.run 2 0 [(41, .int .i64 (p : Int)), (40, .pointer (some ⟨g, 0, none⟩))] (by kernel_rfl) (by kernel_rfl) ?_
   refine WO.call (SQ.E 2 (by kernel_rfl)) 42 (by kernel_rfl) (fail_false g (.slice A n c : Value) (p2 : Int) q2 (p : Int) _ HB2) ?_
   rintro _ w15 ⟨rfl, HB14, F16⟩
   refine ⟨_, rfl, trivial, ?_⟩
   have HV := HV.keep F16 (djB hg)
   have HA := Fr.step HA F16 (inSL (by simp) inS0)
   refine WO.done (by kernel_rfl) ?_
   refine WQ.keep [0, 1, 4, 5, 6, 16, 39] (e' := [(0, .pointer (some ⟨g, 0, none⟩)), (1, .int .i64 most), (4, .string (⟨#[]⟩)), (5, .int .i64 (p : Int)), (6, .int .u64 (n1 : Int)), (16, .bool false), (39, .bool true)]) (by kernel_rfl) ?_
   refine WQ.thenN ?_
   refine WE.seq ?_
   refine WE.region ?_
   refine WO.run 1 0 [(4, .string (⟨#[]⟩))] (by kernel_rfl) (by kernel_rfl) ?_
   refine WO.done (by kernel_rfl) ?_
   refine WQ.keep [0, 1, 4, 5, 6, 16, 39] (e' := [(0, .pointer (some ⟨g, 0, none⟩)), (1, .int .i64 most), (4, .string (⟨#[]⟩)), (5, .int .i64 (p : Int)), (6, .int .u64 (n1 : Int)), (16, .bool false), (39, .bool true)]) (by kernel_rfl) ?_
   refine WQ.thenN ?_
   refine WE.ret ?_
   refine WQ.thenR ?_
   refine WQ.ret (v := .string (⟨#[]⟩)) (by kernel_rfl) ?_
   have hres : rText l most ⟨p, false⟩ = ([], ⟨p, true⟩) := by unfold rText; simp only [hs2, hn1, Bool.false_eq_true, if_false]; rw [if_pos (by omega)]
   rw [hres]
   exact ⟨rfl, Rd.no HB14, HA⟩
  intro h13
  refine WO.one (SA.F sameR sameT _ 22 _ (by kernel_rfl)) 39 (.bool false) (by kernel_rfl) ?_
  refine WO.doneA (by kernel_rfl) ?_
  refine WQ.keep [0, 1, 4, 5, 6, 16, 39] (e' := [(0, .pointer (some ⟨g, 0, none⟩)), (1, .int .i64 most), (4, .string (⟨#[]⟩)), (5, .int .i64 (p : Int)), (6, .int .u64 (n1 : Int)), (16, .bool false), (39, .bool false)]) (by kernel_rfl) ?_
  refine WQ.thenN ?_
  refine WE.condF (by kernel_rfl) ?_
  refine WE.skip ?_
  refine WQ.thenN ?_
  refine WE.seq ?_
  refine WE.region ?_
  refine WO.run 3 0 [(45, .pointer (some ⟨g, 1, none⟩)), (44, .pointer (some ⟨g, 0, none⟩)), (43, .pointer (some ⟨g, 0, none⟩))] (by kernel_rfl) (by kernel_rfl) ?_
  refine WO.ld (SQ.S 3 (by kernel_rfl)) 46 (.int .i64 (p2 : Int)) (by kernel_rfl) (same (HB2.at 1 (by kernel_rfl))) ?_
  refine WO.run 1 4 [(47, .int .u64 (n1 : Int))] (by kernel_rfl) (by kernel_rfl) ?_
  refine WO.one (SQ.F 5 (by kernel_rfl)) 48 (.int .i64 (IntKind.i64.wrap (n1 : Int))) (by kernel_rfl) ?_
  refine WO.top (v' := .int .i64 (n1 : Int)) (wrap_i64 rfl (by omega)) ?_
  refine WO.one (SQ.F 6 (by kernel_rfl)) 49 (.int .i64 (IntKind.i64.wrap ((p2 : Int) + (n1 : Int)))) (by kernel_rfl) ?_
  refine WO.top (v' := .int .i64 ((p2 + n1 : Nat) : Int)) (wrap_i64 (by omega) (by omega)) ?_
  refine WO.run 2 7 [(51, .pointer (some ⟨g, 1, none⟩)), (50, .pointer (some ⟨g, 0, none⟩))] (by kernel_rfl) (by kernel_rfl) ?_
  refine WO.st (SQ.E 9 (by kernel_rfl)) g 1 [.int .i64 ((p2 + n1 : Nat) : Int)] #[.slice A n c, .int .i64 ((p2 + n1 : Nat) : Int), .bool false, .int .i64 q2] (by kernel_rfl) HB2 (by kernel_rfl) (by kernel_rfl) (fun _ _ => trivial) ?_
  intro w17 HB19 F18 _
  have HV := HV.keep F18 (djB hg)
  have HA := Fr.step HA F18 (inSL (by simp) inS0)
  refine WO.done (by kernel_rfl) ?_
  refine WQ.keep [0, 1, 4, 5, 6, 16, 39] (e' := [(0, .pointer (some ⟨g, 0, none⟩)), (1, .int .i64 most), (4, .string (⟨#[]⟩)), (5, .int .i64 (p : Int)), (6, .int .u64 (n1 : Int)), (16, .bool false), (39, .bool false)]) (by kernel_rfl) ?_
  refine WQ.thenN ?_
  refine WE.seq ?_
  refine WE.draw [.free, .free, .free, .still, .free, .free, .free, .still, .free, .free, .free, .free, .free, .free, .still, .free, .still, .free] Same sameR (by kernel_rfl) 18 (Array.replicate 18 false) (by kernel_rfl) rfl ?_
  intro w20 F21 _
  have HB19 := Blk.keep HB19 F21 (nin0 _)
  have HV := HV.keep F21 (fun _ _ => nin0 _)
  have HA := Fr.step0 HA F21
  refine WO.one (SA.F sameR sameT _ 0 _ (by kernel_rfl)) 52 (.pointer (some ⟨g, 0, none⟩)) (by kernel_rfl) ?_
  refine WO.one (SA.F sameR sameT _ 1 _ (by kernel_rfl)) 53 (.pointer (some ⟨g, 0, none⟩)) (by kernel_rfl) ?_
  refine WO.one (SA.F sameR sameT _ 2 _ (by kernel_rfl)) 54 (.pointer (some ⟨g, 0, none⟩)) (by kernel_rfl) ?_
  refine WO.ld (SA.S sameR sameT _ 3 _ (by kernel_rfl)) 55 (.slice A n c) (by kernel_rfl) (same (HB19.at 0 (by kernel_rfl))) ?_
  refine WO.one (SA.F sameR sameT _ 4 _ (by kernel_rfl)) 56 (.pointer (some ⟨g, 0, none⟩)) (by kernel_rfl) ?_
  refine WO.one (SA.F sameR sameT _ 5 _ (by kernel_rfl)) 57 (.pointer (some ⟨g, 0, none⟩)) (by kernel_rfl) ?_
  refine WO.one (SA.F sameR sameT _ 6 _ (by kernel_rfl)) 58 (.pointer (some ⟨g, 1, none⟩)) (by kernel_rfl) ?_
  refine WO.ld (SA.S sameR sameT _ 7 _ (by kernel_rfl)) 59 (.int .i64 ((p2 + n1 : Nat) : Int)) (by kernel_rfl) (same (HB19.at 1 (by kernel_rfl))) ?_
  refine WO.one (SA.F sameR sameT _ 8 _ (by kernel_rfl)) 60 (.int .u64 (n1 : Int)) (by kernel_rfl) ?_
  refine WO.one (SA.F sameR sameT _ 9 _ (by kernel_rfl)) 61 (.int .i64 (IntKind.i64.wrap (n1 : Int))) (by kernel_rfl) ?_
  refine WO.top (v' := .int .i64 (n1 : Int)) (wrap_i64 rfl (by omega)) ?_
  refine WO.one (SA.F sameR sameT _ 10 _ (by kernel_rfl)) 62 (.int .i64 (IntKind.i64.wrap (((p2 + n1 : Nat) : Int) - (n1 : Int)))) (by kernel_rfl) ?_
  refine WO.top (v' := .int .i64 ((p2 : Nat) : Int)) (wrap_i64 (by omega) (by omega)) ?_
  refine WO.one (SA.F sameR sameT _ 11 _ (by kernel_rfl)) 63 (.pointer (some ⟨g, 0, none⟩)) (by kernel_rfl) ?_
  refine WO.one (SA.F sameR sameT _ 12 _ (by kernel_rfl)) 64 (.pointer (some ⟨g, 0, none⟩)) (by kernel_rfl) ?_
  refine WO.one (SA.F sameR sameT _ 13 _ (by kernel_rfl)) 65 (.pointer (some ⟨g, 1, none⟩)) (by kernel_rfl) ?_
  refine WO.ld (SA.S sameR sameT _ 14 _ (by kernel_rfl)) 66 (.int .i64 ((p2 + n1 : Nat) : Int)) (by kernel_rfl) (same (HB19.at 1 (by kernel_rfl))) ?_
  refine WO.sl (SA.F sameR sameT _ 15 _ (by kernel_rfl)) 67 p2 (p2 + n1) A n c 1 (some ((p2 : Nat) : Int)) (some ((p2 + n1 : Nat) : Int)) (by kernel_rfl) (by simp only [Option.getD_some] <;> omega) (by simp only [Option.getD_some] <;> omega) (by omega) (by omega) ?_
  refine WO.b2s (v := .slice (if c = p2 then A else (A : Option Addr).map (·.add (p2 * 1))) ((p2 + n1) - p2) (c - p2)) (SA.S sameR sameT _ 16 _ (by kernel_rfl)) 68 byt ((l.drop p2).take ((p2 + n1) - p2)) (n := ((p2 + n1) - p2)) (show ((l.drop p2).take ((p2 + n1) - p2)).length = (p2 + n1) - p2 by rw [List.length_take, List.length_drop]; have := hn; omega) (by kernel_rfl) (same (((HV.drop p2 c (by have := hn; omega) (by have := hn; omega)).take ((p2 + n1) - p2)).srcN (show ((l.drop p2).take ((p2 + n1) - p2)).length = (p2 + n1) - p2 by rw [List.length_take, List.length_drop]; have := hn; omega) (cB_len _) (cB_one _) (c - p2))) ?_
  refine WO.top (v' := .string (str ((l.drop p2).take n1))) (by rw [Nat.add_sub_cancel_left]) ?_
  refine WO.one (SA.F sameR sameT _ 17 _ (by kernel_rfl)) 4 (.string (str ((l.drop p2).take n1))) (by kernel_rfl) ?_
  refine WO.doneA (by kernel_rfl) ?_
  refine WQ.keep [0, 1, 4, 5, 6, 16, 39] (e' := [(0, .pointer (some ⟨g, 0, none⟩)), (1, .int .i64 most), (4, .string (str ((l.drop p2).take n1))), (5, .int .i64 (p : Int)), (6, .int .u64 (n1 : Int)), (16, .bool false), (39, .bool false)]) (by kernel_rfl) ?_
  refine WQ.thenN ?_
  refine WE.ret ?_
  refine WQ.ret (v := .string (str ((l.drop p2).take n1))) (by kernel_rfl) ?_
  have hres : rText l most ⟨p, false⟩ = ((l.drop p2).take n1, ⟨p2 + n1, false⟩) := by unfold rText; simp only [hs2, hn1, Bool.false_eq_true, if_false]; rw [if_neg (by omega)]
  rw [hres]
  exact ⟨rfl, Rd.ok HB19, HA⟩
 ·
  rw [hs2] at hok2; unfold St.ok at hok2; simp only at hok2
  refine WO.run 1 2 [(6, .int .u64 (n1 : Int))] (by kernel_rfl) (by kernel_rfl) ?_
  refine WO.done (by kernel_rfl) ?_
  refine WQ.keep [0, 1, 4, 5, 6] (e' := [(0, .pointer (some ⟨g, 0, none⟩)), (1, .int .i64 most), (4, .string (⟨#[]⟩)), (5, .int .i64 (p : Int)), (6, .int .u64 (n1 : Int))]) (by kernel_rfl) ?_
  refine WQ.thenN ?_
  refine WE.seq ?_
  refine WE.seq ?_
  refine WE.region ?_
  refine WO.run 3 0 [(15, .pointer (some ⟨g, 2, none⟩)), (14, .pointer (some ⟨g, 0, none⟩)), (13, .pointer (some ⟨g, 0, none⟩))] (by kernel_rfl) (by kernel_rfl) ?_
  refine WO.ld (SQ.S 3 (by kernel_rfl)) 16 (.bool true) (by kernel_rfl) (same (HB2.at 2 (by kernel_rfl))) ?_
  refine WO.done (by kernel_rfl) ?_
  refine WQ.keep [0, 1, 4, 5, 6, 16] (e' := [(0, .pointer (some ⟨g, 0, none⟩)), (1, .int .i64 most), (4, .string (⟨#[]⟩)), (5, .int .i64 (p : Int)), (6, .int .u64 (n1 : Int)), (16, .bool true)]) (by kernel_rfl) ?_
  refine WQ.thenN ?_
  refine WE.condT (by kernel_rfl) ?_
  refine WE.seq ?_
  refine WE.region ?_
  refine WO.run 1 0 [(4, .string (⟨#[]⟩))] (by kernel_rfl) (by kernel_rfl) ?_
  refine WO.done (by kernel_rfl) ?_
  refine WQ.keep [0, 1, 4, 5, 6, 16] (e' := [(0, .pointer (some ⟨g, 0, none⟩)), (1, .int .i64 most), (4, .string (⟨#[]⟩)), (5, .int .i64 (p : Int)), (6, .int .u64 (n1 : Int)), (16, .bool true)]) (by kernel_rfl) ?_
  refine WQ.thenN ?_
  refine WE.ret ?_
  refine WQ.thenR ?_
  refine WQ.ret (v := .string (⟨#[]⟩)) (by kernel_rfl) ?_
  have hres : rText l most ⟨p, false⟩ = ([], ⟨p2, true⟩) := by unfold rText; simp only [hs2, if_true]
  rw [hres]
  exact ⟨rfl, Rd.no HB2, HA⟩
set_option maxRecDepth 100000 in
set_option maxHeartbeats 400000 in
theorem rtext_bad (g p : Nat) (v : Value) (q most : Int) (w : World) (HB : Blk w g #[v, .int .i64 q, .bool true, .int .i64 (p : Int)] 421) :
  Calls Tryz.prog 279 #[.pointer (some ⟨g, 0, none⟩), .int .i64 most] w fun e w' => e = .returned (.string (str [])) ∧ Blk w' g #[v, .int .i64 q, .bool true, .int .i64 (p : Int)] 421 ∧ Fr [g] w w' := by
 have HA := Fr.refl [g] w
 refine enter (N := 69) Tryz.func279 (c := _) rfl (by kernel_rfl) (by kernel_rfl) (e := [(0, .pointer (some ⟨g, 0, none⟩)), (1, .int .i64 most)]) (by kernel_rfl) ?_
 refine WE.seq ?_
 refine WE.region ?_
 refine WO.run 1 0 [(4, .string (⟨#[]⟩))] (by kernel_rfl) (by kernel_rfl) ?_
 refine WO.done (by kernel_rfl) ?_
 refine WQ.keep [0, 1, 4] (e' := [(0, .pointer (some ⟨g, 0, none⟩)), (1, .int .i64 most), (4, .string (⟨#[]⟩))]) (by kernel_rfl) ?_
 refine WQ.thenN ?_
 refine WE.seq ?_
 refine WE.region ?_
 refine WO.run 3 0 [(9, .pointer (some ⟨g, 1, none⟩)), (8, .pointer (some ⟨g, 0, none⟩)), (7, .pointer (some ⟨g, 0, none⟩))] (by kernel_rfl) (by kernel_rfl) ?_
 refine WO.ld (SQ.S 3 (by kernel_rfl)) 10 (.int .i64 q) (by kernel_rfl) (same (HB.at 1 (by kernel_rfl))) ?_
 refine WO.run 1 4 [(5, .int .i64 q)] (by kernel_rfl) (by kernel_rfl) ?_
 refine WO.done (by kernel_rfl) ?_
 refine WQ.keep [0, 1, 4, 5] (e' := [(0, .pointer (some ⟨g, 0, none⟩)), (1, .int .i64 most), (4, .string (⟨#[]⟩)), (5, .int .i64 q)]) (by kernel_rfl) ?_
 refine WQ.thenN ?_
 refine WE.seq ?_
 refine WE.region ?_
 refine WO.run 1 0 [(11, .pointer (some ⟨g, 0, none⟩))] (by kernel_rfl) (by kernel_rfl) ?_
 refine WO.call (SQ.E 1 (by kernel_rfl)) 12 (by kernel_rfl) (rnum_bad g v q p _ HB) ?_
 rintro _ w1 ⟨rfl, HB2, F2⟩
 refine ⟨_, rfl, trivial, ?_⟩
 have HA := Fr.step HA F2 (inSL (by simp) inS0)
 refine WO.run 1 2 [(6, .int .u64 0)] (by kernel_rfl) (by kernel_rfl) ?_
 refine WO.done (by kernel_rfl) ?_
 refine WQ.keep [0, 1, 4, 5, 6] (e' := [(0, .pointer (some ⟨g, 0, none⟩)), (1, .int .i64 most), (4, .string (⟨#[]⟩)), (5, .int .i64 q), (6, .int .u64 0)]) (by kernel_rfl) ?_
 refine WQ.thenN ?_
 refine WE.seq ?_
 refine WE.seq ?_
 refine WE.region ?_
 refine WO.run 3 0 [(15, .pointer (some ⟨g, 2, none⟩)), (14, .pointer (some ⟨g, 0, none⟩)), (13, .pointer (some ⟨g, 0, none⟩))] (by kernel_rfl) (by kernel_rfl) ?_
 refine WO.ld (SQ.S 3 (by kernel_rfl)) 16 (.bool true) (by kernel_rfl) (same (HB2.at 2 (by kernel_rfl))) ?_
 refine WO.done (by kernel_rfl) ?_
 refine WQ.keep [0, 1, 4, 5, 6, 16] (e' := [(0, .pointer (some ⟨g, 0, none⟩)), (1, .int .i64 most), (4, .string (⟨#[]⟩)), (5, .int .i64 q), (6, .int .u64 0), (16, .bool true)]) (by kernel_rfl) ?_
 refine WQ.thenN ?_
 refine WE.condT (by kernel_rfl) ?_
 refine WE.seq ?_
 refine WE.region ?_
 refine WO.run 1 0 [(4, .string (⟨#[]⟩))] (by kernel_rfl) (by kernel_rfl) ?_
 refine WO.done (by kernel_rfl) ?_
 refine WQ.keep [0, 1, 4, 5, 6, 16] (e' := [(0, .pointer (some ⟨g, 0, none⟩)), (1, .int .i64 most), (4, .string (⟨#[]⟩)), (5, .int .i64 q), (6, .int .u64 0), (16, .bool true)]) (by kernel_rfl) ?_
 refine WQ.thenN ?_
 refine WE.ret ?_
 refine WQ.thenR ?_
 refine WQ.ret (v := .string (⟨#[]⟩)) (by kernel_rfl) ?_
 exact ⟨rfl, HB2, HA⟩
theorem rtext_any (g : Nat) (s : St) (most : Int) (A : Option Addr) (n c : Nat) (l : List UInt8) (FB : List Nat) (w : World) (HV : VX cB 1 w FB A l) (hn : l.length = n) (hc : n ≤ c) (hlen : l.length ≤ 1000000000) (hg : g ∉ FB) (HR : Rd 421 w g (.slice A n c) s) (hs : s.ok l) (hm : -9223372036854775808 ≤ most ∧ most ≤ 9223372036854775807) :
  Calls Tryz.prog 279 #[.pointer (some ⟨g, 0, none⟩), .int .i64 most] w fun e w' => e = .returned (.string (str (rText l most s).1)) ∧ Rd 421 w' g (.slice A n c) (rText l most s).2 ∧ Fr [g] w w' := by
 rcases HR.split with ⟨p, q, rfl, HB⟩ | ⟨p, q, rfl, HB⟩
 ·
  exact rtext_ok g p q most A n c l FB w HV hn hc hlen hg HB hs hm
 ·
  refine (rtext_bad g p _ q most w HB).mono fun e w' h => ?_
  obtain ⟨rfl, h2, h3⟩ := h
  have hres : rText l most ⟨p, true⟩ = ([], ⟨p, true⟩) := by unfold rText; simp only [rNum_bad, if_true]
  rw [hres]
  exact ⟨rfl, Rd.no h2, h3⟩
set_option maxRecDepth 100000 in
set_option maxHeartbeats 400000 in
theorem rend_lt (g p n c : Nat) (A : Option Addr) (q : Int) (w : World) (HB : Blk w g #[.slice A n c, .int .i64 (p : Int), .bool false, .int .i64 q] 421) (hp : p < n) :
  Calls Tryz.prog 240 #[.pointer (some ⟨g, 0, none⟩)] w fun e w' => ∃ g2, e = .returned (.iface 348 (.pointer (some ⟨g2, 0, none⟩))) ∧ Blk w' g2 #[.int .i64 (p : Int), .int .i64 2] 350 ∧ Blk w' g #[.slice A n c, .int .i64 (p : Int), .bool true, .int .i64 (p : Int)] 421 ∧ Fr [g] w w' ∧ w.heap.size ≤ g2 := by
 have HA := Fr.refl [g] w
 refine enter (N := 30) Tryz.func240 (c := _) rfl (by kernel_rfl) (by kernel_rfl) (e := [(0, .pointer (some ⟨g, 0, none⟩))]) (by kernel_rfl) ?_
 refine WE.seq ?_
 refine WE.region ?_
 refine WO.run 1 0 [(2, .nilIface)] (by kernel_rfl) (by kernel_rfl) ?_
 refine WO.done (by kernel_rfl) ?_
 refine WQ.keep [0, 2] (e' := [(0, .pointer (some ⟨g, 0, none⟩)), (2, .nilIface)]) (by kernel_rfl) ?_
 refine WQ.thenN ?_
 refine WE.seq ?_
 refine WE.seq ?_
 refine WE.draw [.free, .free, .free, .still, .free, .free, .free, .still, .free, .free] Same sameR (by kernel_rfl) 10 (Array.replicate 10 false) (by kernel_rfl) rfl ?_
 intro w1 F2 _
 have HB := Blk.keep HB F2 (nin0 _)
 have HA := Fr.step0 HA F2
 refine WO.one (SA.F sameR sameT _ 0 _ (by kernel_rfl)) 3 (.pointer (some ⟨g, 0, none⟩)) (by kernel_rfl) ?_
 refine WO.one (SA.F sameR sameT _ 1 _ (by kernel_rfl)) 4 (.pointer (some ⟨g, 0, none⟩)) (by kernel_rfl) ?_
 refine WO.one (SA.F sameR sameT _ 2 _ (by kernel_rfl)) 5 (.pointer (some ⟨g, 1, none⟩)) (by kernel_rfl) ?_
 refine WO.ld (SA.S sameR sameT _ 3 _ (by kernel_rfl)) 6 (.int .i64 (p : Int)) (by kernel_rfl) (same (HB.at 1 (by kernel_rfl))) ?_
 refine WO.one (SA.F sameR sameT _ 4 _ (by kernel_rfl)) 7 (.pointer (some ⟨g, 0, none⟩)) (by kernel_rfl) ?_
 refine WO.one (SA.F sameR sameT _ 5 _ (by kernel_rfl)) 8 (.pointer (some ⟨g, 0, none⟩)) (by kernel_rfl) ?_
 refine WO.one (SA.F sameR sameT _ 6 _ (by kernel_rfl)) 9 (.pointer (some ⟨g, 0, none⟩)) (by kernel_rfl) ?_
 refine WO.ld (SA.S sameR sameT _ 7 _ (by kernel_rfl)) 10 (.slice A n c) (by kernel_rfl) (same (HB.at 0 (by kernel_rfl))) ?_
 refine WO.one (SA.F sameR sameT _ 8 _ (by kernel_rfl)) 11 (.int .i64 (n : Int)) (by kernel_rfl) ?_
 refine WO.one (SA.F sameR sameT _ 9 _ (by kernel_rfl)) 12 (.bool (decide (((p : Int) : Int) < (n : Int)))) (by kernel_rfl) ?_
 refine WO.topPT (((p : Int) : Int) < (n : Int)) (by omega) ?_
 refine WO.doneA (by kernel_rfl) ?_
 refine WQ.keep [0, 2, 12] (e' := [(0, .pointer (some ⟨g, 0, none⟩)), (2, .nilIface), (12, .bool true)]) (by kernel_rfl) ?_
 refine WQ.thenN ?_
 refine WE.condT (by kernel_rfl) ?_
 refine WE.region ?_
 refine WO.run 4 0 [(16, .pointer (some ⟨g, 1, none⟩)), (15, .pointer (some ⟨g, 0, none⟩)), (14, .pointer (some ⟨g, 0, none⟩)), (13, .pointer (some ⟨g, 0, none⟩))] (by kernel_rfl) (by kernel_rfl) ?_
 refine WO.ld (SQ.S 4 (by kernel_rfl)) 17 (.int .i64 (p : Int)) (by kernel_rfl) (same (HB.at 1 (by kernel_rfl))) ?_
 refine WO.call (SQ.E 5 (by kernel_rfl)) 18 (by kernel_rfl) (fail_false g (.slice A n c : Value) (p : Int) q (p : Int) _ HB) ?_
 rintro _ w4 ⟨rfl, HB3, F5⟩
 refine ⟨_, rfl, trivial, ?_⟩
 have HA := Fr.step HA F5 (inSL (by simp) inS0)
 refine WO.done (by kernel_rfl) ?_
 refine WQ.keep [0, 2, 12] (e' := [(0, .pointer (some ⟨g, 0, none⟩)), (2, .nilIface), (12, .bool true)]) (by kernel_rfl) ?_
 refine WQ.thenN ?_
 refine WE.seq ?_
 refine WE.seq ?_
 refine WE.region ?_
 refine WO.run 3 0 [(21, .pointer (some ⟨g, 2, none⟩)), (20, .pointer (some ⟨g, 0, none⟩)), (19, .pointer (some ⟨g, 0, none⟩))] (by kernel_rfl) (by kernel_rfl) ?_
 refine WO.ld (SQ.S 3 (by kernel_rfl)) 22 (.bool true) (by kernel_rfl) (same (HB3.at 2 (by kernel_rfl))) ?_
 refine WO.done (by kernel_rfl) ?_
 refine WQ.keep [0, 2, 12, 22] (e' := [(0, .pointer (some ⟨g, 0, none⟩)), (2, .nilIface), (12, .bool true), (22, .bool true)]) (by kernel_rfl) ?_
 refine WQ.thenN ?_
 refine WE.condT (by kernel_rfl) ?_
 refine WE.seq ?_
 refine WE.region ?_
 refine WO.run 3 0 [(25, .pointer (some ⟨g, 3, none⟩)), (24, .pointer (some ⟨g, 0, none⟩)), (23, .pointer (some ⟨g, 0, none⟩))] (by kernel_rfl) (by kernel_rfl) ?_
 refine WO.ld (SQ.S 3 (by kernel_rfl)) 26 (.int .i64 (p : Int)) (by kernel_rfl) (same (HB3.at 3 (by kernel_rfl))) ?_
 refine WO.run 1 4 [(27, .agg #[.int .i64 (p : Int), .int .i64 2])] (by kernel_rfl) (by kernel_rfl) ?_
 refine WO.bx (SQ.E 5 (by kernel_rfl)) 28 #[.int .i64 (p : Int), .int .i64 2] 350 (fun g => .pointer (some ⟨g, 0, none⟩)) (by kernel_rfl) (fun _ _ => trivial) ?_
 intro g6 w7 HB9 F8 le10 _
 have ne_g_g6 : g ≠ g6 := Nat.ne_of_lt (Nat.lt_of_lt_of_le HB3.lt le10)
 have ge_HA_g6 := Nat.le_trans HA.size le10
 have HB3 := Blk.keep HB3 F8 (nin0 _)
 have HA := Fr.step0 HA F8
 refine WO.run 2 6 [(2, .iface 348 (.pointer (some ⟨g6, 0, none⟩))), (29, .iface 348 (.pointer (some ⟨g6, 0, none⟩)))] (by kernel_rfl) (by kernel_rfl) ?_
 refine WO.done (by kernel_rfl) ?_
 refine WQ.keep [0, 2, 12, 22] (e' := [(0, .pointer (some ⟨g, 0, none⟩)), (2, .iface 348 (.pointer (some ⟨g6, 0, none⟩))), (12, .bool true), (22, .bool true)]) (by kernel_rfl) ?_
 refine WQ.thenN ?_
 refine WE.ret ?_
 refine WQ.thenR ?_
 refine WQ.ret (v := .iface 348 (.pointer (some ⟨g6, 0, none⟩))) (by kernel_rfl) ?_
 exact ⟨g6, rfl, HB9, HB3, HA, ge_HA_g6⟩
set_option maxRecDepth 100000 in
set_option maxHeartbeats 400000 in
theorem rend_eq (g p n c : Nat) (A : Option Addr) (q : Int) (w : World) (HB : Blk w g #[.slice A n c, .int .i64 (p : Int), .bool false, .int .i64 q] 421) (hp : ¬ p < n) :
  Calls Tryz.prog 240 #[.pointer (some ⟨g, 0, none⟩)] w fun e w' => e = .returned .nilIface ∧ Blk w' g #[.slice A n c, .int .i64 (p : Int), .bool false, .int .i64 q] 421 ∧ Fr [g] w w' := by
 have HA := Fr.refl [g] w
 refine enter (N := 30) Tryz.func240 (c := _) rfl (by kernel_rfl) (by kernel_rfl) (e := [(0, .pointer (some ⟨g, 0, none⟩))]) (by kernel_rfl) ?_
 refine WE.seq ?_
 refine WE.region ?_
 refine WO.run 1 0 [(2, .nilIface)] (by kernel_rfl) (by kernel_rfl) ?_
 refine WO.done (by kernel_rfl) ?_
 refine WQ.keep [0, 2] (e' := [(0, .pointer (some ⟨g, 0, none⟩)), (2, .nilIface)]) (by kernel_rfl) ?_
 refine WQ.thenN ?_
 refine WE.seq ?_
 refine WE.seq ?_
 refine WE.draw [.free, .free, .free, .still, .free, .free, .free, .still, .free, .free] Same sameR (by kernel_rfl) 10 (Array.replicate 10 false) (by kernel_rfl) rfl ?_
 intro w1 F2 _
 have HB := Blk.keep HB F2 (nin0 _)
 have HA := Fr.step0 HA F2
 refine WO.one (SA.F sameR sameT _ 0 _ (by kernel_rfl)) 3 (.pointer (some ⟨g, 0, none⟩)) (by kernel_rfl) ?_
 refine WO.one (SA.F sameR sameT _ 1 _ (by kernel_rfl)) 4 (.pointer (some ⟨g, 0, none⟩)) (by kernel_rfl) ?_
 refine WO.one (SA.F sameR sameT _ 2 _ (by kernel_rfl)) 5 (.pointer (some ⟨g, 1, none⟩)) (by kernel_rfl) ?_
 refine WO.ld (SA.S sameR sameT _ 3 _ (by kernel_rfl)) 6 (.int .i64 (p : Int)) (by kernel_rfl) (same (HB.at 1 (by kernel_rfl))) ?_
 refine WO.one (SA.F sameR sameT _ 4 _ (by kernel_rfl)) 7 (.pointer (some ⟨g, 0, none⟩)) (by kernel_rfl) ?_
 refine WO.one (SA.F sameR sameT _ 5 _ (by kernel_rfl)) 8 (.pointer (some ⟨g, 0, none⟩)) (by kernel_rfl) ?_
 refine WO.one (SA.F sameR sameT _ 6 _ (by kernel_rfl)) 9 (.pointer (some ⟨g, 0, none⟩)) (by kernel_rfl) ?_
 refine WO.ld (SA.S sameR sameT _ 7 _ (by kernel_rfl)) 10 (.slice A n c) (by kernel_rfl) (same (HB.at 0 (by kernel_rfl))) ?_
 refine WO.one (SA.F sameR sameT _ 8 _ (by kernel_rfl)) 11 (.int .i64 (n : Int)) (by kernel_rfl) ?_
 refine WO.one (SA.F sameR sameT _ 9 _ (by kernel_rfl)) 12 (.bool (decide (((p : Int) : Int) < (n : Int)))) (by kernel_rfl) ?_
 refine WO.topPF (((p : Int) : Int) < (n : Int)) (by omega) ?_
 refine WO.doneA (by kernel_rfl) ?_
 refine WQ.keep [0, 2, 12] (e' := [(0, .pointer (some ⟨g, 0, none⟩)), (2, .nilIface), (12, .bool false)]) (by kernel_rfl) ?_
 refine WQ.thenN ?_
 refine WE.condF (by kernel_rfl) ?_
 refine WE.skip ?_
 refine WQ.thenN ?_
 refine WE.seq ?_
 refine WE.seq ?_
 refine WE.region ?_
 refine WO.run 3 0 [(21, .pointer (some ⟨g, 2, none⟩)), (20, .pointer (some ⟨g, 0, none⟩)), (19, .pointer (some ⟨g, 0, none⟩))] (by kernel_rfl) (by kernel_rfl) ?_
 refine WO.ld (SQ.S 3 (by kernel_rfl)) 22 (.bool false) (by kernel_rfl) (same (HB.at 2 (by kernel_rfl))) ?_
 refine WO.done (by kernel_rfl) ?_
 refine WQ.keep [0, 2, 12, 22] (e' := [(0, .pointer (some ⟨g, 0, none⟩)), (2, .nilIface), (12, .bool false), (22, .bool false)]) (by kernel_rfl) ?_
 refine WQ.thenN ?_
 refine WE.condF (by kernel_rfl) ?_
 refine WE.skip ?_
 refine WQ.thenN ?_
 refine WE.seq ?_
 refine WE.region ?_
 refine WO.run 1 0 [(2, .nilIface)] (by kernel_rfl) (by kernel_rfl) ?_
 refine WO.done (by kernel_rfl) ?_
 refine WQ.keep [0, 2, 12, 22] (e' := [(0, .pointer (some ⟨g, 0, none⟩)), (2, .nilIface), (12, .bool false), (22, .bool false)]) (by kernel_rfl) ?_
 refine WQ.thenN ?_
 refine WE.ret ?_
 refine WQ.ret (v := .nilIface) (by kernel_rfl) ?_
 exact ⟨rfl, HB, HA⟩
set_option maxRecDepth 100000 in
set_option maxHeartbeats 400000 in
theorem rend_bad (g p n c : Nat) (A : Option Addr) (q : Int) (w : World) (HB : Blk w g #[.slice A n c, .int .i64 q, .bool true, .int .i64 (p : Int)] 421)  :
  Calls Tryz.prog 240 #[.pointer (some ⟨g, 0, none⟩)] w fun e w' => ∃ g2, e = .returned (.iface 348 (.pointer (some ⟨g2, 0, none⟩))) ∧ Blk w' g2 #[.int .i64 (p : Int), .int .i64 2] 350 ∧ Blk w' g #[.slice A n c, .int .i64 q, .bool true, .int .i64 (p : Int)] 421 ∧ Fr [g] w w' ∧ w.heap.size ≤ g2 := by
 have HA := Fr.refl [g] w
 refine enter (N := 30) Tryz.func240 (c := _) rfl (by kernel_rfl) (by kernel_rfl) (e := [(0, .pointer (some ⟨g, 0, none⟩))]) (by kernel_rfl) ?_
 refine WE.seq ?_
 refine WE.region ?_
 refine WO.run 1 0 [(2, .nilIface)] (by kernel_rfl) (by kernel_rfl) ?_
 refine WO.done (by kernel_rfl) ?_
 refine WQ.keep [0, 2] (e' := [(0, .pointer (some ⟨g, 0, none⟩)), (2, .nilIface)]) (by kernel_rfl) ?_
 refine WQ.thenN ?_
 refine WE.seq ?_
 refine WE.seq ?_
 refine WE.draw [.free, .free, .free, .still, .free, .free, .free, .still, .free, .free] Same sameR (by kernel_rfl) 10 (Array.replicate 10 false) (by kernel_rfl) rfl ?_
 intro w1 F2 _
 have HB := Blk.keep HB F2 (nin0 _)
 have HA := Fr.step0 HA F2
 refine WO.one (SA.F sameR sameT _ 0 _ (by kernel_rfl)) 3 (.pointer (some ⟨g, 0, none⟩)) (by kernel_rfl) ?_
 refine WO.one (SA.F sameR sameT _ 1 _ (by kernel_rfl)) 4 (.pointer (some ⟨g, 0, none⟩)) (by kernel_rfl) ?_
 refine WO.one (SA.F sameR sameT _ 2 _ (by kernel_rfl)) 5 (.pointer (some ⟨g, 1, none⟩)) (by kernel_rfl) ?_
 refine WO.ld (SA.S sameR sameT _ 3 _ (by kernel_rfl)) 6 (.int .i64 q) (by kernel_rfl) (same (HB.at 1 (by kernel_rfl))) ?_
 refine WO.one (SA.F sameR sameT _ 4 _ (by kernel_rfl)) 7 (.pointer (some ⟨g, 0, none⟩)) (by kernel_rfl) ?_
 refine WO.one (SA.F sameR sameT _ 5 _ (by kernel_rfl)) 8 (.pointer (some ⟨g, 0, none⟩)) (by kernel_rfl) ?_
 refine WO.one (SA.F sameR sameT _ 6 _ (by kernel_rfl)) 9 (.pointer (some ⟨g, 0, none⟩)) (by kernel_rfl) ?_
 refine WO.ld (SA.S sameR sameT _ 7 _ (by kernel_rfl)) 10 (.slice A n c) (by kernel_rfl) (same (HB.at 0 (by kernel_rfl))) ?_
 refine WO.one (SA.F sameR sameT _ 8 _ (by kernel_rfl)) 11 (.int .i64 (n : Int)) (by kernel_rfl) ?_
 refine WO.one (SA.F sameR sameT _ 9 _ (by kernel_rfl)) 12 (.bool (decide ((q : Int) < (n : Int)))) (by kernel_rfl) ?_
 refine WO.topP ((q : Int) < (n : Int)) ?_ ?_
 ·
  intro h3
  refine WO.doneA (by kernel_rfl) ?_
  refine WQ.keep [0, 2, 12] (e' := [(0, .pointer (some ⟨g, 0, none⟩)), (2, .nilIface), (12, .bool true)]) (by kernel_rfl) ?_
  refine WQ.thenN ?_
  refine WE.condT (by kernel_rfl) ?_
  refine WE.region ?_
  refine WO.run 4 0 [(16, .pointer (some ⟨g, 1, none⟩)), (15, .pointer (some ⟨g, 0, none⟩)), (14, .pointer (some ⟨g, 0, none⟩)), (13, .pointer (some ⟨g, 0, none⟩))] (by kernel_rfl) (by kernel_rfl) ?_
  refine WO.ld (SQ.S 4 (by kernel_rfl)) 17 (.int .i64 q) (by kernel_rfl) (same (HB.at 1 (by kernel_rfl))) ?_
  refine WO.call (SQ.E 5 (by kernel_rfl)) 18 (by kernel_rfl) (fail_true g (.slice A n c : Value) q (p : Int) q _ HB) ?_
  rintro _ w5 ⟨rfl, HB4, F6⟩
  refine ⟨_, rfl, trivial, ?_⟩
  have HA := Fr.step HA F6 (inSL (by simp) inS0)
  refine WO.done (by kernel_rfl) ?_
  refine WQ.keep [0, 2, 12] (e' := [(0, .pointer (some ⟨g, 0, none⟩)), (2, .nilIface), (12, .bool true)]) (by kernel_rfl) ?_
  refine WQ.thenN ?_
  refine WE.seq ?_
  refine WE.seq ?_
  refine WE.region ?_
  refine WO.run 3 0 [(21, .pointer (some ⟨g, 2, none⟩)), (20, .pointer (some ⟨g, 0, none⟩)), (19, .pointer (some ⟨g, 0, none⟩))] (by kernel_rfl) (by kernel_rfl) ?_
  refine WO.ld (SQ.S 3 (by kernel_rfl)) 22 (.bool true) (by kernel_rfl) (same (HB4.at 2 (by kernel_rfl))) ?_
  refine WO.done (by kernel_rfl) ?_
  refine WQ.keep [0, 2, 12, 22] (e' := [(0, .pointer (some ⟨g, 0, none⟩)), (2, .nilIface), (12, .bool true), (22, .bool true)]) (by kernel_rfl) ?_
  refine WQ.thenN ?_
  refine WE.condT (by kernel_rfl) ?_
  refine WE.seq ?_
  refine WE.region ?_
  refine WO.run 3 0 [(25, .pointer (some ⟨g, 3, none⟩)), (24, .pointer (some ⟨g, 0, none⟩)), (23, .pointer (some ⟨g, 0, none⟩))] (by kernel_rfl) (by kernel_rfl) ?_
  refine WO.ld (SQ.S 3 (by kernel_rfl)) 26 (.int .i64 (p : Int)) (by kernel_rfl) (same (HB4.at 3 (by kernel_rfl))) ?_
  refine WO.run 1 4 [(27, .agg #[.int .i64 (p : Int), .int .i64 2])] (by kernel_rfl) (by kernel_rfl) ?_
  refine WO.bx (SQ.E 5 (by kernel_rfl)) 28 #[.int .i64 (p : Int), .int .i64 2] 350 (fun g => .pointer (some ⟨g, 0, none⟩)) (by kernel_rfl) (fun _ _ => trivial) ?_
  intro g7 w8 HB10 F9 le11 _
  have ne_g_g7 : g ≠ g7 := Nat.ne_of_lt (Nat.lt_of_lt_of_le HB4.lt le11)
  have ge_HA_g7 := Nat.le_trans HA.size le11
  have HB4 := Blk.keep HB4 F9 (nin0 _)
  have HA := Fr.step0 HA F9
  refine WO.run 2 6 [(2, .iface 348 (.pointer (some ⟨g7, 0, none⟩))), (29, .iface 348 (.pointer (some ⟨g7, 0, none⟩)))] (by kernel_rfl) (by kernel_rfl) ?_
  refine WO.done (by kernel_rfl) ?_
  refine WQ.keep [0, 2, 12, 22] (e' := [(0, .pointer (some ⟨g, 0, none⟩)), (2, .iface 348 (.pointer (some ⟨g7, 0, none⟩))), (12, .bool true), (22, .bool true)]) (by kernel_rfl) ?_
  refine WQ.thenN ?_
  refine WE.ret ?_
  refine WQ.thenR ?_
  refine WQ.ret (v := .iface 348 (.pointer (some ⟨g7, 0, none⟩))) (by kernel_rfl) ?_
  exact ⟨g7, rfl, HB10, HB4, HA, ge_HA_g7⟩
 intro h3
 refine WO.doneA (by kernel_rfl) ?_
 refine WQ.keep [0, 2, 12] (e' := [(0, .pointer (some ⟨g, 0, none⟩)), (2, .nilIface), (12, .bool false)]) (by kernel_rfl) ?_
 refine WQ.thenN ?_
 refine WE.condF (by kernel_rfl) ?_
 refine WE.skip ?_
 refine WQ.thenN ?_
 refine WE.seq ?_
 refine WE.seq ?_
 refine WE.region ?_
 refine WO.run 3 0 [(21, .pointer (some ⟨g, 2, none⟩)), (20, .pointer (some ⟨g, 0, none⟩)), (19, .pointer (some ⟨g, 0, none⟩))] (by kernel_rfl) (by kernel_rfl) ?_
 refine WO.ld (SQ.S 3 (by kernel_rfl)) 22 (.bool true) (by kernel_rfl) (same (HB.at 2 (by kernel_rfl))) ?_
 refine WO.done (by kernel_rfl) ?_
 refine WQ.keep [0, 2, 12, 22] (e' := [(0, .pointer (some ⟨g, 0, none⟩)), (2, .nilIface), (12, .bool false), (22, .bool true)]) (by kernel_rfl) ?_
 refine WQ.thenN ?_
 refine WE.condT (by kernel_rfl) ?_
 refine WE.seq ?_
 refine WE.region ?_
 refine WO.run 3 0 [(25, .pointer (some ⟨g, 3, none⟩)), (24, .pointer (some ⟨g, 0, none⟩)), (23, .pointer (some ⟨g, 0, none⟩))] (by kernel_rfl) (by kernel_rfl) ?_
 refine WO.ld (SQ.S 3 (by kernel_rfl)) 26 (.int .i64 (p : Int)) (by kernel_rfl) (same (HB.at 3 (by kernel_rfl))) ?_
 refine WO.run 1 4 [(27, .agg #[.int .i64 (p : Int), .int .i64 2])] (by kernel_rfl) (by kernel_rfl) ?_
 refine WO.bx (SQ.E 5 (by kernel_rfl)) 28 #[.int .i64 (p : Int), .int .i64 2] 350 (fun g => .pointer (some ⟨g, 0, none⟩)) (by kernel_rfl) (fun _ _ => trivial) ?_
 intro g12 w13 HB15 F14 le16 _
 have ne_g_g12 : g ≠ g12 := Nat.ne_of_lt (Nat.lt_of_lt_of_le HB.lt le16)
 have ge_HA_g12 := Nat.le_trans HA.size le16
 have HB := Blk.keep HB F14 (nin0 _)
 have HA := Fr.step0 HA F14
 refine WO.run 2 6 [(2, .iface 348 (.pointer (some ⟨g12, 0, none⟩))), (29, .iface 348 (.pointer (some ⟨g12, 0, none⟩)))] (by kernel_rfl) (by kernel_rfl) ?_
 refine WO.done (by kernel_rfl) ?_
 refine WQ.keep [0, 2, 12, 22] (e' := [(0, .pointer (some ⟨g, 0, none⟩)), (2, .iface 348 (.pointer (some ⟨g12, 0, none⟩))), (12, .bool false), (22, .bool true)]) (by kernel_rfl) ?_
 refine WQ.thenN ?_
 refine WE.ret ?_
 refine WQ.thenR ?_
 refine WQ.ret (v := .iface 348 (.pointer (some ⟨g12, 0, none⟩))) (by kernel_rfl) ?_
 exact ⟨g12, rfl, HB15, HB, HA, ge_HA_g12⟩
theorem rEnd_lt {l : List UInt8} {p : Nat} (h : p < l.length) : rEnd l ⟨p, false⟩ = ⟨p, true⟩ := by unfold rEnd; rw [if_pos ⟨rfl, h⟩]
theorem rEnd_eq {l : List UInt8} {p : Nat} (h : ¬ p < l.length) : rEnd l ⟨p, false⟩ = ⟨p, false⟩ := by unfold rEnd; rw [if_neg fun k => h k.2]
theorem rEnd_bad (l : List UInt8) (p : Nat) : rEnd l ⟨p, true⟩ = ⟨p, true⟩ := by unfold rEnd; rw [if_neg fun k => by cases k.1]
theorem rend_any (g : Nat) (s : St) (A : Option Addr) (n c : Nat) (l : List UInt8) (w : World) (hn : l.length = n) (HR : Rd 421 w g (.slice A n c) s) :
  Calls Tryz.prog 240 #[.pointer (some ⟨g, 0, none⟩)] w fun e w' => (((rEnd l s).bad = false ∧ e = .returned .nilIface) ∨ ((rEnd l s).bad = true ∧ ∃ g2, e = .returned (.iface 348 (.pointer (some ⟨g2, 0, none⟩))) ∧ Blk w' g2 #[.int .i64 ((rEnd l s).p : Int), .int .i64 2] 350 ∧ w.heap.size ≤ g2)) ∧ Rd 421 w' g (.slice A n c) (rEnd l s) ∧ Fr [g] w w' := by
 rcases HR.split with ⟨p, q, rfl, HB⟩ | ⟨p, q, rfl, HB⟩
 ·
  by_cases hp : p < n
  ·
   rw [rEnd_lt (by omega)]
   refine (rend_lt g p n c A q w HB hp).mono fun e w' h => ?_
   obtain ⟨g2, rfl, h2, h3, h4, h5⟩ := h
   exact ⟨.inr ⟨rfl, g2, rfl, h2, h5⟩, Rd.no h3, h4⟩
  ·
   rw [rEnd_eq (by omega)]
   refine (rend_eq g p n c A q w HB hp).mono fun e w' h => ?_
   obtain ⟨rfl, h2, h3⟩ := h
   exact ⟨.inl ⟨rfl, rfl⟩, Rd.ok h2, h3⟩
 ·
  rw [rEnd_bad]
  refine (rend_bad g p n c A q w HB).mono fun e w' h => ?_
  obtain ⟨g2, rfl, h2, h3, h4, h5⟩ := h
  exact ⟨.inr ⟨rfl, g2, rfl, h2, h5⟩, Rd.no h3, h4⟩
set_option maxRecDepth 100000 in
set_option maxHeartbeats 400000 in
theorem read_any (A : Option Addr) (n c : Nat) (w : World) :
  Calls Tryz.prog 237 #[.slice A n c] w fun e w' => ∃ g, e = .returned (.pointer (some ⟨g, 0, none⟩)) ∧ Blk w' g #[.slice A n c, .int .i64 0, .bool false, .int .i64 0] 421 ∧ Fr [] w w' ∧ w.heap.size ≤ g := by
 have HA := Fr.refl [] w
 refine enter (N := 6) Tryz.func237 (c := _) rfl (by kernel_rfl) (by kernel_rfl) (e := [(0, .slice A n c)]) (by kernel_rfl) ?_
 refine WE.seq ?_
 refine WE.region ?_
 refine WO.run 1 0 [(2, .pointer none)] (by kernel_rfl) (by kernel_rfl) ?_
 refine WO.done (by kernel_rfl) ?_
 refine WQ.keep [0, 2] (e' := [(0, .slice A n c), (2, .pointer none)]) (by kernel_rfl) ?_
 refine WQ.thenN ?_
 refine WE.seq ?_
 refine WE.region ?_
 refine WO.run 2 0 [(4, .agg #[.slice A n c, .int .i64 0, .bool false, .int .i64 0]), (3, .slice A n c)] (by kernel_rfl) (by kernel_rfl) ?_
 refine WO.bx (SQ.E 2 (by kernel_rfl)) 5 #[.slice A n c, .int .i64 0, .bool false, .int .i64 0] 421 (fun g => .pointer (some ⟨g, 0, none⟩)) (by kernel_rfl) (fun _ _ => trivial) ?_
 intro g1 w2 HB4 F3 le5 _
 have ge_HA_g1 := Nat.le_trans HA.size le5
 have HA := Fr.step0 HA F3
 refine WO.run 1 3 [(2, .pointer (some ⟨g1, 0, none⟩))] (by kernel_rfl) (by kernel_rfl) ?_
 refine WO.done (by kernel_rfl) ?_
 refine WQ.keep [0, 2] (e' := [(0, .slice A n c), (2, .pointer (some ⟨g1, 0, none⟩))]) (by kernel_rfl) ?_
 refine WQ.thenN ?_
 refine WE.ret ?_
 refine WQ.ret (v := .pointer (some ⟨g1, 0, none⟩)) (by kernel_rfl) ?_
 exact ⟨_, rfl, HB4, HA, ge_HA_g1⟩
end Go.Proofs.YtjfgmdkdcnfdoaaGreatDoor.Wire
