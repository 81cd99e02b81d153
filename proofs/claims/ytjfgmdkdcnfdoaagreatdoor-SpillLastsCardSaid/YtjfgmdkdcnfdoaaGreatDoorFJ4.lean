/- Layer 9, own, over resources: Trim. -/
import Derived.Test.YtjfgmdkdcnfdoaaGreatDoorFJ2
section
set_option linter.unusedVariables false
set_option linter.unusedSimpArgs false
namespace Go.Proofs.YtjfgmdkdcnfdoaaGreatDoor.Jrn
open Go Go.RowKit Go.Proofs.YtjfgmdkdcnfdoaaGreatDoor Go.Proofs.YtjfgmdkdcnfdoaaGreatDoor.Eng Go.Proofs.YtjfgmdkdcnfdoaaGreatDoor.Eng.Sep Go.Proofs.YtjfgmdkdcnfdoaaGreatDoorW.PrintWords
open Go.Proofs.YtjfgmdkdcnfdoaaGreatDoor.Disk
open Go.Proofs.YtjfgmdkdcnfdoaaGreatDoor.Wire (encT rText)
def jTr (n : Int) : Nat → List Int × List (List UInt8) × Dk → List Int × List (List UInt8) × Dk
 | 0, s => s
 | k + 1, (ps, rs, d) => if 1 < ps.length ∧ g0 ps 1 ≤ n then jTr n k (ps.drop 1, rs.drop (g0 ps 1 - g0 ps 0).toNat, (remove d (g0 ps 0)).2) else (ps, rs, d)
theorem jTr_stop {n : Int} {ps : List Int} {rs : List (List UInt8)} {d : Dk} (h : ¬ (1 < ps.length ∧ g0 ps 1 ≤ n)) : ∀ {k : Nat}, jTr n k (ps, rs, d) = (ps, rs, d)
 | 0 => rfl
 | k + 1 => if_neg h
theorem jTr_go {n : Int} {ps : List Int} {rs : List (List UInt8)} {d : Dk} {k : Nat} (hk : 0 < k) (h : 1 < ps.length ∧ g0 ps 1 ≤ n) : jTr n k (ps, rs, d) = jTr n (k - 1) (ps.drop 1, rs.drop (g0 ps 1 - g0 ps 0).toNat, (remove d (g0 ps 0)).2) := by
 cases k with
 | zero => omega
 | succ k => exact if_pos h
set_option maxRecDepth 100000 in
set_option maxHeartbeats 1000000 in
theorem jtrim_x (gj gd : Nat) (many : Int) (Ap Al : Option Addr) (cp cl : Nat) (ps : List Int) (xs : List RX) (rs : List (List UInt8)) (d : Dk) (n : Int) (k0 : Nat) (z0 : List Int × List (List UInt8) × Dk) (hz0 : jTr n k0 (ps, rs, d) = z0) (I : List Int → List (List UInt8) → Dk → Prop) (hB : ∀ ps rs d, I ps rs d → ps.length ≤ 1000000 ∧ rs.length ≤ 1000000) (hS : ∀ ps rs d, I ps rs d → 1 < ps.length → g0 ps 1 ≤ n → d.Ok ∧ (remove d (g0 ps 0)).1 = 0 ∧ 0 ≤ g0 ps 0 ∧ g0 ps 0 ≤ g0 ps 1 ∧ g0 ps 1 ≤ 1000000 ∧ g0 ps 1 - g0 ps 0 ≤ rs.length ∧ I (ps.drop 1) (rs.drop (g0 ps 1 - g0 ps 0).toNat) (remove d (g0 ps 0)).2) (hI0 : I ps rs d) (hk0 : ps.length ≤ k0) (hcp : ps.length ≤ cp) (hcl : xs.length ≤ cl) (hxr : xs.length = rs.length) :
  Ct Tryz.prog 114 #[.pointer (some ⟨gj, 0, none⟩), .int .i64 n] [] [rB gj #[.pointer (some ⟨gd, 0, none⟩), .int .i64 many, .slice Ap ps.length cp, .slice Al xs.length cl] 302, rY 3 1 (.slice Ap ps.length cp) (List.map cI ps), rY 69 1 (.slice Al xs.length cl) (List.map cR xs), rE xs rs, rDk gd d] (fun (_ : Unit) => True) (fun _ => (.nilIface, [rJ gj gd many z0.1 z0.2.1, rDk gd z0.2.2])) := by
 refine Ct.mk fun w T_ H => ?_
 refine enter (N := 65) Tryz.func114 (c := _) rfl (by kernel_rfl) (by kernel_rfl) (e := [(0, .pointer (some ⟨gj, 0, none⟩)), (1, .int .i64 n)]) (by kernel_rfl) ?_
 refine WE.seq ?_
 refine WE.region ?_
 refine WO.run 1 0 [(4, .nilIface)] (by kernel_rfl) (by kernel_rfl) ?_
 refine WO.done (by kernel_rfl) ?_
 refine WQ.keep [0, 1, 4] (e' := [(0, .pointer (some ⟨gj, 0, none⟩)), (1, .int .i64 n), (4, .nilIface)]) (by kernel_rfl) ?_
 refine WQ.thenN ?_
 refine WE.seq ?_
 refine WE.block ?_
 refine Sloop (α := Nat × (List Int) × (List (List UInt8)) × Dk × (Option Addr) × Nat × (Option Addr) × Nat × (List RX)) (fun ⟨k, ps, rs, d, Ap, cp, Al, cl, xs⟩ => [(0, .pointer (some ⟨gj, 0, none⟩)), (1, .int .i64 n), (4, .nilIface)]) (fun ⟨k, ps, rs, d, Ap, cp, Al, cl, xs⟩ => [rB gj #[.pointer (some ⟨gd, 0, none⟩), .int .i64 many, .slice Ap ps.length cp, .slice Al xs.length cl] 302, rY 3 1 (.slice Ap ps.length cp) (List.map cI ps), rY 69 1 (.slice Al xs.length cl) (List.map cR xs), rE xs rs, rDk gd d]) (fun ⟨k, ps, rs, d, Ap, cp, Al, cl, xs⟩ => jTr n k (ps, rs, d) = z0 ∧ ps.length ≤ k ∧ I ps rs d ∧ ps.length ≤ cp ∧ xs.length ≤ cl ∧ xs.length = rs.length) (fun ⟨k, ps, rs, d, Ap, cp, Al, cl, xs⟩ => k) (k0, ps, rs, d, Ap, cp, Al, cl, xs) [0, 1, 4] [0, 0, 0, 0, 0] H (⟨hz0, hk0, hI0, hcp, hcl, hxr⟩) ?_
 rintro ⟨k, ps, rs, d, Ap, cp, Al, cl, xs⟩ w ⟨hq, hk, hI, hcp, hcl, hxr⟩ H
 obtain ⟨hlp, hll⟩ := hB _ _ _ hI
 refine WE.seq ?_
 refine WE.seq ?_
 refine WE.region ?_
 refine WO.run 3 0 [(8, .pointer (some ⟨gj, 2, none⟩)), (7, .pointer (some ⟨gj, 0, none⟩)), (6, .pointer (some ⟨gj, 0, none⟩))] (by kernel_rfl) (by kernel_rfl) ?_
 refine WO.ld (SQ.S 3 (by kernel_rfl)) 9 (.slice Ap ps.length cp) (by kernel_rfl) (H.cell 0 2) ?_
 refine WO.run 1 4 [(10, .int .i64 (ps.length : Int))] (by kernel_rfl) (by kernel_rfl) ?_
 refine WO.one (SQ.F 5 (by kernel_rfl)) 11 (.bool (decide (((ps.length : Int) : Int) > (1 : Int)))) (by kernel_rfl) ?_
 refine WO.topP (((ps.length : Int) : Int) > (1 : Int)) ?_ ?_
 ·
  intro h1
  refine WO.run 4 6 [(15, .pointer (some ⟨gj, 2, none⟩)), (14, .pointer (some ⟨gj, 0, none⟩)), (13, .pointer (some ⟨gj, 0, none⟩)), (12, .bool true)] (by kernel_rfl) (by kernel_rfl) ?_
  refine WO.ld (SQ.S 10 (by kernel_rfl)) 16 (.slice Ap ps.length cp) (by kernel_rfl) (H.cell 0 2) ?_
  obtain ⟨ad2, hA3⟩ := H.yaddr 1 cI 3 1 Ap ps.length cp ps (k := 1) (by have := (rfl : ps.length = _); omega)
  refine WO.ixo (SQ.F 11 (by kernel_rfl)) 17 ps.length 1 1 1 hA3 (by kernel_rfl) rfl (by omega) ?_
  refine WO.ld (SQ.S 12 (by kernel_rfl)) 18 (.int .i64 (g0 ps 1)) (by kernel_rfl) (H.ycell0 1 cI 3 1 Ap ps.length cp ps hA3 (g0_some ps 1 (by have := (rfl : ps.length = _); omega))) ?_
  refine WO.run 1 13 [(19, .int .i64 n)] (by kernel_rfl) (by kernel_rfl) ?_
  refine WO.one (SQ.F 14 (by kernel_rfl)) 20 (.bool (decide ((g0 ps 1 : Int) ≤ n))) (by kernel_rfl) ?_
  refine WO.topP ((g0 ps 1 : Int) ≤ n) ?_ ?_
  ·
   intro h4
   refine WO.run 1 15 [(21, .bool true)] (by kernel_rfl) (by kernel_rfl) ?_
   refine WO.done (by kernel_rfl) ?_
   refine WQ.keep [0, 1, 4, 21] (e' := [(0, .pointer (some ⟨gj, 0, none⟩)), (1, .int .i64 n), (4, .nilIface), (21, .bool true)]) (by kernel_rfl) ?_
   refine WQ.thenN ?_
   refine WE.condT (by kernel_rfl) ?_
   refine WE.skip ?_
   refine WQ.thenN ?_
   refine WE.block ?_
   refine WE.seq ?_
   refine WE.seq ?_
   obtain ⟨hdo, hr0, ha, hab, hb, hbl, hI2⟩ := hS ps rs d hI (by omega) (by omega)
   refine WE.draw [.free, .free, .free, .still, .free, .free, .free, .still, .free, .still, .eff, .free] Same sameR (by kernel_rfl) 12 (Array.replicate 12 false) (by kernel_rfl) rfl ?_
   intro w F_ _
   replace H := H.step0 F_
   refine WO.one (SA.F sameR sameT _ 0 _ (by kernel_rfl)) 22 (.pointer (some ⟨gj, 0, none⟩)) (by kernel_rfl) ?_
   refine WO.one (SA.F sameR sameT _ 1 _ (by kernel_rfl)) 23 (.pointer (some ⟨gj, 0, none⟩)) (by kernel_rfl) ?_
   refine WO.one (SA.F sameR sameT _ 2 _ (by kernel_rfl)) 24 (.pointer (some ⟨gj, 0, none⟩)) (by kernel_rfl) ?_
   refine WO.ld (SA.S sameR sameT _ 3 _ (by kernel_rfl)) 25 (.pointer (some ⟨gd, 0, none⟩)) (by kernel_rfl) (H.cell 0 0) ?_
   refine WO.one (SA.F sameR sameT _ 4 _ (by kernel_rfl)) 26 (.pointer (some ⟨gj, 0, none⟩)) (by kernel_rfl) ?_
   refine WO.one (SA.F sameR sameT _ 5 _ (by kernel_rfl)) 27 (.pointer (some ⟨gj, 0, none⟩)) (by kernel_rfl) ?_
   refine WO.one (SA.F sameR sameT _ 6 _ (by kernel_rfl)) 28 (.pointer (some ⟨gj, 2, none⟩)) (by kernel_rfl) ?_
   refine WO.ld (SA.S sameR sameT _ 7 _ (by kernel_rfl)) 29 (.slice Ap ps.length cp) (by kernel_rfl) (H.cell 0 2) ?_
   obtain ⟨ad5, hA6⟩ := H.yaddr 1 cI 3 1 Ap ps.length cp ps (k := 0) (by have := (rfl : ps.length = _); omega)
   refine WO.ixo (SA.F sameR sameT _ 8 _ (by kernel_rfl)) 30 ps.length 1 0 0 hA6 (by kernel_rfl) rfl (by omega) ?_
   refine WO.ld (SA.S sameR sameT _ 9 _ (by kernel_rfl)) 31 (.int .i64 (g0 ps 0)) (by kernel_rfl) (H.ycell0 1 cI 3 1 Ap ps.length cp ps hA6 (g0_some ps 0 (by have := (rfl : ps.length = _); omega))) ?_
   refine Gc (SA.E _ 10 _ (by kernel_rfl) rfl) H 32 (drem_ct gd d (g0 ps 0) hdo (by omega)) [4] [] (fun _ => trivial) ?_
   rintro ⟨⟩ w _ H
   refine WO.top (v' := .nilIface) (by rw [hr0]; rfl) ?_
   refine WO.one (SA.F sameR sameT _ 11 _ (by kernel_rfl)) 5 (.nilIface) (by kernel_rfl) ?_
   refine WO.doneA (by kernel_rfl) ?_
   refine WQ.keep [0, 1, 4, 5] (e' := [(0, .pointer (some ⟨gj, 0, none⟩)), (1, .int .i64 n), (4, .nilIface), (5, .nilIface)]) (by kernel_rfl) ?_
   refine WQ.thenN ?_
   refine WE.seq ?_
   refine WE.region ?_
   refine WO.run 2 0 [(34, .bool false), (33, .nilIface)] (by kernel_rfl) (by kernel_rfl) ?_
   refine WO.done (by kernel_rfl) ?_
   refine WQ.keep [0, 1, 4, 5, 34] (e' := [(0, .pointer (some ⟨gj, 0, none⟩)), (1, .int .i64 n), (4, .nilIface), (5, .nilIface), (34, .bool false)]) (by kernel_rfl) ?_
   refine WQ.thenN ?_
   refine WE.condF (by kernel_rfl) ?_
   refine WE.skip ?_
   refine WQ.thenN ?_
   refine WE.seq ?_
   refine WE.draw [.free, .free, .free, .free, .still, .free, .free, .free, .still, .free, .still, .free, .free, .free, .still, .free, .still, .free, .free, .free, .free, .eff] Same sameR (by kernel_rfl) 22 (Array.replicate 22 false) (by kernel_rfl) rfl ?_
   intro w F_ _
   replace H := H.step0 F_
   refine WO.one (SA.F sameR sameT _ 0 _ (by kernel_rfl)) 36 (.pointer (some ⟨gj, 0, none⟩)) (by kernel_rfl) ?_
   refine WO.one (SA.F sameR sameT _ 1 _ (by kernel_rfl)) 37 (.pointer (some ⟨gj, 0, none⟩)) (by kernel_rfl) ?_
   refine WO.one (SA.F sameR sameT _ 2 _ (by kernel_rfl)) 38 (.pointer (some ⟨gj, 0, none⟩)) (by kernel_rfl) ?_
   refine WO.one (SA.F sameR sameT _ 3 _ (by kernel_rfl)) 39 (.pointer (some ⟨gj, 3, none⟩)) (by kernel_rfl) ?_
   refine WO.ld (SA.S sameR sameT _ 4 _ (by kernel_rfl)) 40 (.slice Al xs.length cl) (by kernel_rfl) (H.cell 1 3) ?_
   refine WO.one (SA.F sameR sameT _ 5 _ (by kernel_rfl)) 41 (.pointer (some ⟨gj, 0, none⟩)) (by kernel_rfl) ?_
   refine WO.one (SA.F sameR sameT _ 6 _ (by kernel_rfl)) 42 (.pointer (some ⟨gj, 0, none⟩)) (by kernel_rfl) ?_
   refine WO.one (SA.F sameR sameT _ 7 _ (by kernel_rfl)) 43 (.pointer (some ⟨gj, 2, none⟩)) (by kernel_rfl) ?_
   refine WO.ld (SA.S sameR sameT _ 8 _ (by kernel_rfl)) 44 (.slice Ap ps.length cp) (by kernel_rfl) (H.cell 1 2) ?_
   obtain ⟨ad7, hA8⟩ := H.yaddr 2 cI 3 1 Ap ps.length cp ps (k := 1) (by have := (rfl : ps.length = _); omega)
   refine WO.ixo (SA.F sameR sameT _ 9 _ (by kernel_rfl)) 45 ps.length 1 1 1 hA8 (by kernel_rfl) rfl (by omega) ?_
   refine WO.ld (SA.S sameR sameT _ 10 _ (by kernel_rfl)) 46 (.int .i64 (g0 ps 1)) (by kernel_rfl) (H.ycell0 2 cI 3 1 Ap ps.length cp ps hA8 (g0_some ps 1 (by have := (rfl : ps.length = _); omega))) ?_
   refine WO.one (SA.F sameR sameT _ 11 _ (by kernel_rfl)) 47 (.pointer (some ⟨gj, 0, none⟩)) (by kernel_rfl) ?_
   refine WO.one (SA.F sameR sameT _ 12 _ (by kernel_rfl)) 48 (.pointer (some ⟨gj, 0, none⟩)) (by kernel_rfl) ?_
   refine WO.one (SA.F sameR sameT _ 13 _ (by kernel_rfl)) 49 (.pointer (some ⟨gj, 2, none⟩)) (by kernel_rfl) ?_
   refine WO.ld (SA.S sameR sameT _ 14 _ (by kernel_rfl)) 50 (.slice Ap ps.length cp) (by kernel_rfl) (H.cell 1 2) ?_
   obtain ⟨ad9, hA10⟩ := H.yaddr 2 cI 3 1 Ap ps.length cp ps (k := 0) (by have := (rfl : ps.length = _); omega)
   refine WO.ixo (SA.F sameR sameT _ 15 _ (by kernel_rfl)) 51 ps.length 1 0 0 hA10 (by kernel_rfl) rfl (by omega) ?_
   refine WO.ld (SA.S sameR sameT _ 16 _ (by kernel_rfl)) 52 (.int .i64 (g0 ps 0)) (by kernel_rfl) (H.ycell0 2 cI 3 1 Ap ps.length cp ps hA10 (g0_some ps 0 (by have := (rfl : ps.length = _); omega))) ?_
   refine WO.one (SA.F sameR sameT _ 17 _ (by kernel_rfl)) 53 (.int .i64 (IntKind.i64.wrap ((g0 ps 1) - (g0 ps 0)))) (by kernel_rfl) ?_
   refine WO.top (v' := .int .i64 ((g0 ps 1) - (g0 ps 0))) (wrap_i64 (by omega) (by omega)) ?_
   refine WO.sl (SA.F sameR sameT _ 18 _ (by kernel_rfl)) 54 (((g0 ps 1) - (g0 ps 0)).toNat) xs.length Al xs.length cl 1 (some ((g0 ps 1) - (g0 ps 0))) none (by kernel_rfl) (by simp only [Option.getD_some] <;> omega) (by rfl) (by omega) (by omega) ?_
   refine WO.one (SA.F sameR sameT _ 19 _ (by kernel_rfl)) 55 (.pointer (some ⟨gj, 0, none⟩)) (by kernel_rfl) ?_
   refine WO.one (SA.F sameR sameT _ 20 _ (by kernel_rfl)) 56 (.pointer (some ⟨gj, 3, none⟩)) (by kernel_rfl) ?_
   refine Gs (SA.E _ 21 _ (by kernel_rfl) rfl) H 1 3 #[.pointer (some ⟨gd, 0, none⟩), .int .i64 many, .slice Ap ps.length cp, .slice (if cl = ((g0 ps 1) - (g0 ps 0)).toNat then Al else (Al : Option Addr).map (·.add ((((g0 ps 1) - (g0 ps 0)).toNat) * 1))) (xs.length - (((g0 ps 1) - (g0 ps 0)).toNat)) (cl - (((g0 ps 1) - (g0 ps 0)).toNat))] (fun _ _ => trivial) ?_
   intro w H
   refine WO.doneA (by kernel_rfl) ?_
   refine WQ.keep [0, 1, 4] (e' := [(0, .pointer (some ⟨gj, 0, none⟩)), (1, .int .i64 n), (4, .nilIface)]) (by kernel_rfl) ?_
   refine WQ.thenN ?_
   replace H := H.conv [3] (Ent.ydrop 69 1 Al xs.length cl (List.map cR xs) ((List.length_map _).trans ((rfl : xs.length = _))) (((g0 ps 1) - (g0 ps 0)).toNat) (by omega))
   rw [← List.map_drop] at H
   replace H := H.conv [4] (Ent.edrop xs rs (g0 ps 1 - g0 ps 0).toNat)
   rw [show xs.length - (g0 ps 1 - g0 ps 0).toNat = (xs.drop (g0 ps 1 - g0 ps 0).toNat).length by simp] at H
   refine WE.region ?_
   refine WO.run 4 0 [(60, .pointer (some ⟨gj, 2, none⟩)), (59, .pointer (some ⟨gj, 0, none⟩)), (58, .pointer (some ⟨gj, 0, none⟩)), (57, .pointer (some ⟨gj, 0, none⟩))] (by kernel_rfl) (by kernel_rfl) ?_
   refine WO.ld (SQ.S 4 (by kernel_rfl)) 61 (.slice Ap ps.length cp) (by kernel_rfl) (H.cell 2 2) ?_
   refine WO.sl (SQ.F 5 (by kernel_rfl)) 62 1 ps.length Ap ps.length cp 1 (some 1) none (by kernel_rfl) (by simp only [Option.getD_some] <;> omega) (by rfl) (by omega) (by omega) ?_
   refine WO.run 2 6 [(64, .pointer (some ⟨gj, 2, none⟩)), (63, .pointer (some ⟨gj, 0, none⟩))] (by kernel_rfl) (by kernel_rfl) ?_
   refine Ss H 2 2 #[.pointer (some ⟨gd, 0, none⟩), .int .i64 many, .slice (if cp = 1 then Ap else (Ap : Option Addr).map (·.add (1 * 1))) (ps.length - 1) (cp - 1), .slice (if cl = ((g0 ps 1) - (g0 ps 0)).toNat then Al else (Al : Option Addr).map (·.add ((((g0 ps 1) - (g0 ps 0)).toNat) * 1))) ((xs.drop (g0 ps 1 - g0 ps 0).toNat).length) (cl - (((g0 ps 1) - (g0 ps 0)).toNat))] ?_
   intro w H
   refine WO.done (by kernel_rfl) ?_
   refine WQ.keep [0, 1, 4] (e' := [(0, .pointer (some ⟨gj, 0, none⟩)), (1, .int .i64 n), (4, .nilIface)]) (by kernel_rfl) ?_
   refine WQ.blkN ?_
   replace H := H.conv [4] (Ent.ydrop 3 1 Ap ps.length cp (List.map cI ps) ((List.length_map _).trans ((rfl : ps.length = _))) 1 (by omega))
   rw [← List.map_drop] at H
   rw [show ps.length - 1 = (ps.drop 1).length by simp] at H
   refine WQ.round fun a_ ha_ => ⟨(k - 1, ps.drop 1, rs.drop (g0 ps 1 - g0 ps 0).toNat, (remove d (g0 ps 0)).2, (if cp = 1 then Ap else (Ap : Option Addr).map (·.add (1 * 1))), cp - 1, (if cl = ((g0 ps 1) - (g0 ps 0)).toNat then Al else (Al : Option Addr).map (·.add ((((g0 ps 1) - (g0 ps 0)).toNat) * 1))), cl - (((g0 ps 1) - (g0 ps 0)).toNat), xs.drop (g0 ps 1 - g0 ps 0).toNat), ?_, ha_.keep [0, 1, 4] (by kernel_rfl), ?_, H.sub [1, 0, 1, 0, 0]⟩
   ·
    show k - 1 < k; omega
   exact ⟨by rw [← hq]; exact (jTr_go (by omega) ⟨by omega, by assumption⟩).symm, by simp; omega, hI2, by simp; omega, by simp; omega, by simp; omega⟩
  intro h4
  refine WO.run 1 15 [(21, .bool false)] (by kernel_rfl) (by kernel_rfl) ?_
  refine WO.done (by kernel_rfl) ?_
  refine WQ.keep [0, 1, 4, 21] (e' := [(0, .pointer (some ⟨gj, 0, none⟩)), (1, .int .i64 n), (4, .nilIface), (21, .bool false)]) (by kernel_rfl) ?_
  refine WQ.thenN ?_
  refine WE.condF (by kernel_rfl) ?_
  refine WE.exit ?_
  refine WQ.thenE ?_
  refine WQ.thenE ?_
  refine WQ.blkE ?_
  refine WQ.thenN ?_
  refine WE.seq ?_
  refine WE.region ?_
  refine WO.run 1 0 [(4, .nilIface)] (by kernel_rfl) (by kernel_rfl) ?_
  refine WO.done (by kernel_rfl) ?_
  refine WQ.keep [4] (e' := [(4, .nilIface)]) (by kernel_rfl) ?_
  refine WQ.thenN ?_
  refine WE.ret ?_
  refine WQ.ret (v := .nilIface) (by kernel_rfl) ?_
  replace H := H.close [0, 0, 0, 0] (jp ps rs) (jq gj gd many ps rs) (Ap, cp, Al, cl, xs) (⟨hcp, hcl, hxr⟩)
  rw [jTr_stop (by omega)] at hq
  subst hq
  exact H.leaf () [0, 0] trivial
 intro h1
 refine WO.run 10 6 [(21, .bool false), (20, undef), (19, undef), (18, undef), (17, undef), (16, undef), (15, undef), (14, undef), (13, undef), (12, .bool false)] (by kernel_rfl) (by kernel_rfl) ?_
 refine WO.done (by kernel_rfl) ?_
 refine WQ.keep [0, 1, 4, 21] (e' := [(0, .pointer (some ⟨gj, 0, none⟩)), (1, .int .i64 n), (4, .nilIface), (21, .bool false)]) (by kernel_rfl) ?_
 refine WQ.thenN ?_
 refine WE.condF (by kernel_rfl) ?_
 refine WE.exit ?_
 refine WQ.thenE ?_
 refine WQ.thenE ?_
 refine WQ.blkE ?_
 refine WQ.thenN ?_
 refine WE.seq ?_
 refine WE.region ?_
 refine WO.run 1 0 [(4, .nilIface)] (by kernel_rfl) (by kernel_rfl) ?_
 refine WO.done (by kernel_rfl) ?_
 refine WQ.keep [4] (e' := [(4, .nilIface)]) (by kernel_rfl) ?_
 refine WQ.thenN ?_
 refine WE.ret ?_
 refine WQ.ret (v := .nilIface) (by kernel_rfl) ?_
 replace H := H.close [0, 0, 0, 0] (jp ps rs) (jq gj gd many ps rs) (Ap, cp, Al, cl, xs) (⟨hcp, hcl, hxr⟩)
 rw [jTr_stop (by omega)] at hq
 subst hq
 exact H.leaf () [0, 0] trivial
end Go.Proofs.YtjfgmdkdcnfdoaaGreatDoor.Jrn
end
section
set_option linter.unusedVariables false
set_option linter.unusedSimpArgs false
namespace Go.Proofs.YtjfgmdkdcnfdoaaGreatDoor.Jrn
open Go Go.RowKit Go.Proofs.YtjfgmdkdcnfdoaaGreatDoor Go.Proofs.YtjfgmdkdcnfdoaaGreatDoor.Eng Go.Proofs.YtjfgmdkdcnfdoaaGreatDoor.Eng.Sep Go.Proofs.YtjfgmdkdcnfdoaaGreatDoorW.PrintWords
open Go.Proofs.YtjfgmdkdcnfdoaaGreatDoor.Disk
open Go.Proofs.YtjfgmdkdcnfdoaaGreatDoor.Wire (encT rText)
theorem _root_.Go.Proofs.YtjfgmdkdcnfdoaaGreatDoor.Eng.Sep.Ct.read {P : Program} {f : FuncId} {args : Array Value} {rd us : List Res} {α : Type} {q : α → Prop} {post : α → Value × List Res} {r r' : Res} (C : Ct P f args (r' :: rd) us q post) (h : ∀ w F, r.P F w → r'.P F w) : Ct P f args (r :: rd) us q post := fun w xu xr hu hrr hU => by
 obtain ⟨⟨z, F⟩, xr, rfl, hz, hrd⟩ := List.map_eq_cons_iff.1 hrr
 simp only at hz
 subst hz
 refine C w xu ((r', F) :: xr) hu (by rw [List.map_cons, hrd]) ⟨fun x hx => ?_, ?_⟩
 ·
  rcases List.mem_append.1 hx with hx | hx
  ·
   exact hU.p x (List.mem_append_left _ hx)
  ·
   rcases List.mem_cons.1 hx with rfl | hx
   ·
    exact h w F (hU.p (z, F) (by simp))
   ·
    exact hU.p x (by simp [hx])
 ·
  have := hU.dj
  rw [List.pairwise_append, List.pairwise_cons] at this ⊢
  refine ⟨this.1, ⟨fun a ha => this.2.1.1 a ha, this.2.1.2⟩, fun a ha b hb => ?_⟩
  rcases List.mem_cons.1 hb with rfl | hb
  ·
   exact this.2.2 a ha (z, F) (by simp)
  ·
   exact this.2.2 a ha b (by simp [hb])
theorem rest_v {w : World} {F : List Nat} {A : Option Addr} {l d r : List UInt8} {n c : Nat} (h : (rV cB 1 A l).P F w) (hl : l = d ++ r) (hn : l.length = n) (hc : n ≤ c) : (rV cB 1 (if c = d.length then A else A.map (·.add (d.length * 1))) r).P F w := by
 have hd : d.length ≤ n := by rw [← hn, hl, List.length_append]; omega
 have hV : VX cB 1 w F A l := h
 have h1 := (hV.drop d.length c (by omega) (by omega)).take (n - d.length)
 rw [rest_eq hl hn] at h1
 exact h1
theorem read_ct (A' : Option Addr) (n c : Nat) : Ct Tryz.prog 237 #[.slice A' n c] [] [] (fun (_ : Nat) => True) (fun g => (.pointer (some ⟨g, 0, none⟩), [rB g #[.slice A' n c, .int .i64 0, .bool false, .int .i64 0] 421])) := fun w xu xr hu hr hU => by
 obtain rfl := List.map_eq_nil_iff.1 hu
 obtain rfl := List.map_eq_nil_iff.1 hr
 exact (Wire.read_any A' n c w).mono fun e w' ⟨g, he, h1, h2, h3⟩ => ⟨g, [(rB g _ 421, [g])], trivial, he, rfl, Up.of (r := rB ..) ⟨h1, rfl⟩, h2, fun y hy => .inr (by rw [List.mem_singleton.1 (foot_one.1 hy)]; exact h3)⟩
theorem rtext_ct (g : Nat) (A' : Option Addr) (n c : Nat) (l : List UInt8) (hn : l.length = n) (hc : n ≤ c) (hl : l.length ≤ 1000000000) : Ct Tryz.prog 279 #[.pointer (some ⟨g, 0, none⟩), .int .i64 4096] [rV cB 1 A' l] [rB g #[.slice A' n c, .int .i64 0, .bool false, .int .i64 0] 421] (fun (_ : Unit) => True) (fun _ => (.string (str (rText l 4096 ⟨0, false⟩).1), [])) := fun w xu xr hu hr hU => by
 obtain ⟨G, rfl⟩ := one_of hu
 obtain ⟨F, rfl⟩ := one_of hr
 obtain ⟨hB, rfl⟩ := hU.left.one
 have hd := hU.cross _ (List.mem_singleton.2 rfl) _ (List.mem_singleton.2 rfl) g (by simp)
 exact (Wire.rtext_any g ⟨0, false⟩ 4096 A' n c l F w hU.right.one hn hc hl hd (Wire.Rd.ok (p := 0) hB) (Nat.zero_le _) (by omega)).mono fun e w' ⟨he, _, hF⟩ => ⟨(), [], trivial, he, rfl, Up.nil _, hF.only fun y hy => .inl (foot_one.2 hy), fun y hy => by simp [Sep.mem_foot] at hy⟩
set_option maxRecDepth 100000 in
set_option maxHeartbeats 1000000 in
theorem records_ct (A : Option Addr) (n c : Nat) (l : List UInt8) (rs : List (List UInt8)) (tl : List UInt8) (hn : l.length = n) (hnc : n ≤ c) (hlen : n ≤ 1000000) (hl : l = flat rs ++ tl) (hrs : ∀ r ∈ rs, recOk r) (htl : Stops tl) (hrl : rs.length ≤ 100000) :
  Ct Tryz.prog 235 #[.slice A n c] [rV cB 1 A l] [] (fun (a : Option Addr × Nat × List RX) => a.2.2.length ≤ a.2.1 ∧ a.2.2.length = rs.length) (fun a => (.tuple #[.slice a.1 a.2.2.length a.2.1, .int .i64 ((flat rs).length : Int)], [rY 69 1 (.slice a.1 a.2.2.length a.2.1) (List.map cR a.2.2), rE a.2.2 rs])) := by
 refine Ct.mk fun w T_ H => ?_
 refine enter (N := 34) Tryz.func235 (c := _) rfl (by kernel_rfl) (by kernel_rfl) (e := [(0, .slice A n c)]) (by kernel_rfl) ?_
 refine WE.seq ?_
 refine WE.region ?_
 refine WO.run 2 0 [(3, .int .i64 0), (2, .slice none 0 0)] (by kernel_rfl) (by kernel_rfl) ?_
 refine WO.done (by kernel_rfl) ?_
 refine WQ.keep [0, 2, 3] (e' := [(0, .slice A n c), (2, .slice none 0 0), (3, .int .i64 0)]) (by kernel_rfl) ?_
 refine WQ.thenN ?_
 refine WE.seq ?_
 refine WE.region ?_
 refine WO.run 1 0 [(4, .slice none 0 0)] (by kernel_rfl) (by kernel_rfl) ?_
 refine WO.done (by kernel_rfl) ?_
 refine WQ.keep [0, 2, 3, 4] (e' := [(0, .slice A n c), (2, .slice none 0 0), (3, .int .i64 0), (4, .slice none 0 0)]) (by kernel_rfl) ?_
 refine WQ.thenN ?_
 refine WE.seq ?_
 refine WE.region ?_
 refine WO.run 1 0 [(5, .int .i64 0)] (by kernel_rfl) (by kernel_rfl) ?_
 refine WO.done (by kernel_rfl) ?_
 refine WQ.keep [0, 2, 3, 4, 5] (e' := [(0, .slice A n c), (2, .slice none 0 0), (3, .int .i64 0), (4, .slice none 0 0), (5, .int .i64 0)]) (by kernel_rfl) ?_
 refine WQ.thenN ?_
 refine WE.seq ?_
 refine WE.block ?_
 replace H := H.add (rY 69 1 (.slice none 0 0) (List.map cR ([] : List RX))) (OwnY.nil _ _ _)
 replace H := H.conv [] Ent.enil
 refine Sloop (α := (List (List UInt8)) × (List (List UInt8)) × (Option Addr) × Nat × (List RX)) (fun ⟨done, left, Ao, co, xs⟩ => [(0, .slice A n c), (2, .slice none 0 0), (3, .int .i64 0), (4, .slice Ao xs.length co), (5, .int .i64 ((flat done).length : Int))]) (fun ⟨done, left, Ao, co, xs⟩ => [rY 69 1 (.slice Ao xs.length co) (List.map cR xs), rE xs done]) (fun ⟨done, left, Ao, co, xs⟩ => done ++ left = rs ∧ xs.length ≤ co ∧ xs.length = done.length) (fun ⟨done, left, Ao, co, xs⟩ => left.length) ([], rs, none, 0, []) [0, 2, 3, 4, 5] [1, 0] H (⟨rfl, by simp, rfl⟩) ?_
 rintro ⟨done, left, Ao, co, xs⟩ w ⟨hdl, hco, hxd⟩ H
 have hfl : l = flat done ++ (flat left ++ tl) := by rw [hl, ← hdl, flat_app, List.append_assoc]
 have hll := congrArg List.length hfl
 rw [List.length_append] at hll
 have hdn : done.length ≤ 100000 := by have := congrArg List.length hdl; rw [List.length_append] at this; omega
 refine WE.seq ?_
 refine WE.seq ?_
 refine WE.region ?_
 refine WO.run 3 0 [(10, .int .i64 (n : Int)), (9, .slice A n c), (8, .int .i64 ((flat done).length : Int))] (by kernel_rfl) (by kernel_rfl) ?_
 refine WO.one (SQ.F 3 (by kernel_rfl)) 11 (.bool (decide ((((flat done).length : Int) : Int) < (n : Int)))) (by kernel_rfl) ?_
 refine WO.topP ((((flat done).length : Int) : Int) < (n : Int)) ?_ ?_
 ·
  intro h1
  refine WO.done (by kernel_rfl) ?_
  refine WQ.keep [0, 2, 3, 4, 5, 11] (e' := [(0, .slice A n c), (2, .slice none 0 0), (3, .int .i64 0), (4, .slice Ao xs.length co), (5, .int .i64 ((flat done).length : Int)), (11, .bool true)]) (by kernel_rfl) ?_
  refine WQ.thenN ?_
  refine WE.condT (by kernel_rfl) ?_
  refine WE.skip ?_
  refine WQ.thenN ?_
  refine WE.block ?_
  refine WE.seq ?_
  rcases left with _ | ⟨r, left'⟩
  ·
   refine WE.region ?_
   refine WO.run 2 0 [(13, .int .i64 ((flat done).length : Int)), (12, .slice A n c)] (by kernel_rfl) (by kernel_rfl) ?_
   refine WO.sl (SQ.F 2 (by kernel_rfl)) 14 ((flat done).length) n A n c 1 (some ((flat done).length : Int)) none (by kernel_rfl) (by simp only [Option.getD_some] <;> omega) (by rfl) (by omega) (by omega) ?_
   refine Sc H 15 (read_ct (if c = (flat done).length then A else (A : Option Addr).map (·.add (((flat done).length) * 1))) (n - ((flat done).length)) (c - ((flat done).length))) [] [] ?_
   rintro g2 w _ H
   refine WO.run 1 4 [(6, .pointer (some ⟨g2, 0, none⟩))] (by kernel_rfl) (by kernel_rfl) ?_
   refine WO.done (by kernel_rfl) ?_
   refine WQ.keep [0, 2, 3, 4, 5, 6] (e' := [(0, .slice A n c), (2, .slice none 0 0), (3, .int .i64 0), (4, .slice Ao xs.length co), (5, .int .i64 ((flat done).length : Int)), (6, .pointer (some ⟨g2, 0, none⟩))]) (by kernel_rfl) ?_
   refine WQ.thenN ?_
   refine WE.seq ?_
   refine WE.region ?_
   refine WO.run 1 0 [(16, .pointer (some ⟨g2, 0, none⟩))] (by kernel_rfl) (by kernel_rfl) ?_
   refine Sc H 17 ((rtext_ct g2 (if c = (flat done).length then A else (A : Option Addr).map (·.add (((flat done).length) * 1))) (n - ((flat done).length)) (c - ((flat done).length)) (flat [] ++ tl) (by rw [← rest_eq hfl hn, List.length_take, List.length_drop]; omega) (by omega) (by rw [← rest_eq hfl hn, List.length_take]; omega)).read (fun w F h => rest_v h hfl hn hnc)) [0] [2] ?_
   rintro ⟨⟩ w _ H
   refine WO.top (v' := .string (str [])) (by rw [show (rText (flat [] ++ tl) 4096 ⟨0, false⟩).1 = [] from htl]) ?_
   refine WO.run 1 2 [(7, .string (str []))] (by kernel_rfl) (by kernel_rfl) ?_
   refine WO.done (by kernel_rfl) ?_
   refine WQ.keep [0, 2, 3, 4, 5, 7] (e' := [(0, .slice A n c), (2, .slice none 0 0), (3, .int .i64 0), (4, .slice Ao xs.length co), (5, .int .i64 ((flat done).length : Int)), (7, .string (str []))]) (by kernel_rfl) ?_
   refine WQ.thenN ?_
   refine WE.seq ?_
   refine WE.seq ?_
   refine WE.region ?_
   refine WO.run 1 0 [(18, .string (str []))] (by kernel_rfl) (by kernel_rfl) ?_
   refine WO.one (SQ.F 1 (by kernel_rfl)) 19 (.bool ((str []).toList == (⟨#[]⟩ : ByteArray).toList)) (by kernel_rfl) ?_
   refine WO.top (v' := .bool (decide ((str []) = (⟨#[]⟩ : ByteArray)))) (congrArg Value.bool (streq (str []) (⟨#[]⟩ : ByteArray))) ?_
   refine WO.topPT ((str []) = (⟨#[]⟩ : ByteArray)) (by rfl) ?_
   refine WO.done (by kernel_rfl) ?_
   refine WQ.keep [0, 2, 3, 4, 5, 7, 19] (e' := [(0, .slice A n c), (2, .slice none 0 0), (3, .int .i64 0), (4, .slice Ao xs.length co), (5, .int .i64 ((flat done).length : Int)), (7, .string (str [])), (19, .bool true)]) (by kernel_rfl) ?_
   refine WQ.thenN ?_
   refine WE.condT (by kernel_rfl) ?_
   refine WE.seq ?_
   refine WE.region ?_
   refine WO.run 4 0 [(3, .int .i64 ((flat done).length : Int)), (2, .slice Ao xs.length co), (21, .int .i64 ((flat done).length : Int)), (20, .slice Ao xs.length co)] (by kernel_rfl) (by kernel_rfl) ?_
   refine WO.done (by kernel_rfl) ?_
   refine WQ.keep [0, 2, 3, 4, 5, 7] (e' := [(0, .slice A n c), (2, .slice Ao xs.length co), (3, .int .i64 ((flat done).length : Int)), (4, .slice Ao xs.length co), (5, .int .i64 ((flat done).length : Int)), (7, .string (str []))]) (by kernel_rfl) ?_
   refine WQ.thenN ?_
   refine WE.ret ?_
   refine WQ.thenR ?_
   refine WQ.blkR ?_
   refine WQ.thenR ?_
   refine WQ.blkR ?_
   refine WQ.thenR ?_
   refine WQ.ret (v := .tuple #[.slice Ao xs.length co, .int .i64 ((flat done).length : Int)]) (by kernel_rfl) ?_
   rw [List.append_nil] at hdl
   subst hdl
   exact H.leaf (Ao, co, xs) [0, 0] (⟨hco, hxd⟩)
  have hro : recOk r := hrs r (by rw [← hdl]; simp)
  have hrl := encT_len r hro
  have hro2 := hro.2
  rw [flat_cons] at hll
  simp only [List.length_append] at hll
  refine WE.region ?_
  refine WO.run 2 0 [(13, .int .i64 ((flat done).length : Int)), (12, .slice A n c)] (by kernel_rfl) (by kernel_rfl) ?_
  refine WO.sl (SQ.F 2 (by kernel_rfl)) 14 ((flat done).length) n A n c 1 (some ((flat done).length : Int)) none (by kernel_rfl) (by simp only [Option.getD_some] <;> omega) (by rfl) (by omega) (by omega) ?_
  refine Sc H 15 (read_ct (if c = (flat done).length then A else (A : Option Addr).map (·.add (((flat done).length) * 1))) (n - ((flat done).length)) (c - ((flat done).length))) [] [] ?_
  rintro g3 w _ H
  refine WO.run 1 4 [(6, .pointer (some ⟨g3, 0, none⟩))] (by kernel_rfl) (by kernel_rfl) ?_
  refine WO.done (by kernel_rfl) ?_
  refine WQ.keep [0, 2, 3, 4, 5, 6] (e' := [(0, .slice A n c), (2, .slice none 0 0), (3, .int .i64 0), (4, .slice Ao xs.length co), (5, .int .i64 ((flat done).length : Int)), (6, .pointer (some ⟨g3, 0, none⟩))]) (by kernel_rfl) ?_
  refine WQ.thenN ?_
  refine WE.seq ?_
  refine WE.region ?_
  refine WO.run 1 0 [(16, .pointer (some ⟨g3, 0, none⟩))] (by kernel_rfl) (by kernel_rfl) ?_
  refine Sc H 17 ((rtext_ct g3 (if c = (flat done).length then A else (A : Option Addr).map (·.add (((flat done).length) * 1))) (n - ((flat done).length)) (c - ((flat done).length)) (flat (r :: left') ++ tl) (by rw [← rest_eq hfl hn, List.length_take, List.length_drop]; omega) (by omega) (by rw [← rest_eq hfl hn, List.length_take]; omega)).read (fun w F h => rest_v h hfl hn hnc)) [0] [2] ?_
  rintro ⟨⟩ w _ H
  refine WO.top (v' := .string (str r)) (by rw [show flat (r :: left') ++ tl = encT r ++ (flat left' ++ tl) by rw [flat_cons, List.append_assoc], rText_first hro]) ?_
  refine WO.run 1 2 [(7, .string (str r))] (by kernel_rfl) (by kernel_rfl) ?_
  refine WO.done (by kernel_rfl) ?_
  refine WQ.keep [0, 2, 3, 4, 5, 7] (e' := [(0, .slice A n c), (2, .slice none 0 0), (3, .int .i64 0), (4, .slice Ao xs.length co), (5, .int .i64 ((flat done).length : Int)), (7, .string (str r))]) (by kernel_rfl) ?_
  refine WQ.thenN ?_
  refine WE.seq ?_
  refine WE.seq ?_
  refine WE.region ?_
  refine WO.run 1 0 [(18, .string (str r))] (by kernel_rfl) (by kernel_rfl) ?_
  refine WO.one (SQ.F 1 (by kernel_rfl)) 19 (.bool ((str r).toList == (⟨#[]⟩ : ByteArray).toList)) (by kernel_rfl) ?_
  refine WO.top (v' := .bool (decide ((str r) = (⟨#[]⟩ : ByteArray)))) (congrArg Value.bool (streq (str r) (⟨#[]⟩ : ByteArray))) ?_
  refine WO.topPF ((str r) = (⟨#[]⟩ : ByteArray)) (by intro h_; have := str_inj.1 h_; rw [this] at hro; exact absurd hro.1 (by decide)) ?_
  refine WO.done (by kernel_rfl) ?_
  refine WQ.keep [0, 2, 3, 4, 5, 7, 19] (e' := [(0, .slice A n c), (2, .slice none 0 0), (3, .int .i64 0), (4, .slice Ao xs.length co), (5, .int .i64 ((flat done).length : Int)), (7, .string (str r)), (19, .bool false)]) (by kernel_rfl) ?_
  refine WQ.thenN ?_
  refine WE.condF (by kernel_rfl) ?_
  refine WE.skip ?_
  refine WQ.thenN ?_
  refine WE.seq ?_
  refine WE.region ?_
  refine WO.run 2 0 [(23, .string (str r)), (22, .slice Ao xs.length co)] (by kernel_rfl) (by kernel_rfl) ?_
  refine Gs2b (SQ.E 2 (by kernel_rfl)) H 24 Wire.byt r r.length (bs_str _) (str_size _) (fun _ _ => trivial) ?_
  intro A4 cap5 w hccap5 H
  refine Sb H 25 #[.slice A4 r.length cap5] 69 (fun g => .slice (some ⟨g, 0, none⟩) 1 1) ?_
  intro g6 w H
  refine Gay (SQ.E 4 (by kernel_rfl)) H 2 26 (A := Ao) (c := co) (xv := .slice (some ⟨g6, 0, none⟩) 1 1) (n := xs.length) (m := 1) et_r (List.map cR xs) (List.map cR ([((A4, r.length, cap5) : RX)])) ((List.length_map _).trans ((rfl : xs.length = _))) (by rw [List.length_map] <;> first | rfl | omega | (simp <;> omega)) (by omega) (RowB.src (RowB.of_blk (n := 1) (H.blk 0) (List.map cR [((A4, r.length, cap5) : RX)]) rfl rfl (cR_len _) (cR_one _) (by omega))) (cR_len _) (cR_one _) (by omega) (by omega) (fun _ => trivial) ?_
  intro A7 cap8 w hccap8 H
  rw [← List.map_append] at H
  refine WO.run 1 5 [(4, .slice A7 (xs.length + 1) cap8)] (by kernel_rfl) (by kernel_rfl) ?_
  refine WO.done (by kernel_rfl) ?_
  refine WQ.keep [0, 2, 3, 4, 5, 7] (e' := [(0, .slice A n c), (2, .slice none 0 0), (3, .int .i64 0), (4, .slice A7 (xs.length + 1) cap8), (5, .int .i64 ((flat done).length : Int)), (7, .string (str r))]) (by kernel_rfl) ?_
  refine WQ.thenN ?_
  refine WE.region ?_
  refine WO.run 2 0 [(28, .string (str r)), (27, .int .i64 ((flat done).length : Int))] (by kernel_rfl) (by kernel_rfl) ?_
  refine Sc H 29 (text_ct r hro) [] [] ?_
  rintro ⟨b9, cp10⟩ w hccp10 H
  refine WO.run 1 3 [(30, .int .i64 ((encT r).length : Int))] (by kernel_rfl) (by kernel_rfl) ?_
  refine WO.one (SQ.F 4 (by kernel_rfl)) 31 (.int .i64 (IntKind.i64.wrap (((flat done).length : Int) + ((encT r).length : Int)))) (by kernel_rfl) ?_
  refine WO.top (v' := .int .i64 ((flat (done ++ [r])).length : Int)) (wrap_i64 (by rw [flat_app, flat_cons, flat_nil, List.append_nil, List.length_append]; omega) (by rw [flat_app, flat_cons, flat_nil, List.append_nil, List.length_append]; omega)) ?_
  refine WO.run 1 5 [(5, .int .i64 ((flat (done ++ [r])).length : Int))] (by kernel_rfl) (by kernel_rfl) ?_
  refine WO.done (by kernel_rfl) ?_
  refine WQ.keep [0, 2, 3, 4, 5] (e' := [(0, .slice A n c), (2, .slice none 0 0), (3, .int .i64 0), (4, .slice A7 (xs.length + 1) cap8), (5, .int .i64 ((flat (done ++ [r])).length : Int))]) (by kernel_rfl) ?_
  refine WQ.blkN ?_
  replace H := H.conv [4, 3] (Ent.epush xs done A4 r r.length cap5 rfl hccap5)
  rw [show xs.length + 1 = (xs ++ [((A4, r.length, cap5) : RX)]).length by simp] at H ⊢
  refine WQ.round fun a_ ha_ => ⟨(done ++ [r], left', A7, cap8, xs ++ [(A4, r.length, cap5)]), ?_, ha_.keep [0, 2, 3, 4, 5] (by kernel_rfl), ?_, H.sub [2, 0]⟩
  ·
   show left'.length < (r :: left').length; exact Nat.lt_succ_self _
  exact ⟨by rw [← hdl]; simp, by simp; omega, by simp [hxd]⟩
 intro h1
 refine WO.done (by kernel_rfl) ?_
 refine WQ.keep [0, 2, 3, 4, 5, 11] (e' := [(0, .slice A n c), (2, .slice none 0 0), (3, .int .i64 0), (4, .slice Ao xs.length co), (5, .int .i64 ((flat done).length : Int)), (11, .bool false)]) (by kernel_rfl) ?_
 refine WQ.thenN ?_
 refine WE.condF (by kernel_rfl) ?_
 refine WE.exit ?_
 refine WQ.thenE ?_
 refine WQ.thenE ?_
 refine WQ.blkE ?_
 refine WQ.thenN ?_
 refine WE.seq ?_
 refine WE.region ?_
 refine WO.run 4 0 [(3, .int .i64 ((flat done).length : Int)), (2, .slice Ao xs.length co), (33, .int .i64 ((flat done).length : Int)), (32, .slice Ao xs.length co)] (by kernel_rfl) (by kernel_rfl) ?_
 refine WO.done (by kernel_rfl) ?_
 refine WQ.keep [2, 3] (e' := [(2, .slice Ao xs.length co), (3, .int .i64 ((flat done).length : Int))]) (by kernel_rfl) ?_
 refine WQ.thenN ?_
 refine WE.ret ?_
 refine WQ.ret (v := .tuple #[.slice Ao xs.length co, .int .i64 ((flat done).length : Int)]) (by kernel_rfl) ?_
 obtain rfl : left = [] := by rcases left with _ | ⟨r, l2⟩ <;> first | rfl | (exfalso; have h_ := encT_len r (hrs r (by rw [← hdl]; simp)); simp only [flat_cons, List.length_append] at hll; omega)
 rw [List.append_nil] at hdl
 subst hdl
 exact H.leaf (Ao, co, xs) [0, 0] (⟨hco, hxd⟩)
end Go.Proofs.YtjfgmdkdcnfdoaaGreatDoor.Jrn
end
