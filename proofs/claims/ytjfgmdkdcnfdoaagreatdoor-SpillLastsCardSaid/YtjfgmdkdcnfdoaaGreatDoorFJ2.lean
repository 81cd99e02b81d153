/- Layer 9, own, over resources: Append. -/
import Derived.Test.YtjfgmdkdcnfdoaaGreatDoorFJ1
set_option linter.unusedVariables false
set_option linter.unusedSimpArgs false
namespace Go.Proofs.YtjfgmdkdcnfdoaaGreatDoor.Jrn
open Go Go.RowKit Go.Proofs.YtjfgmdkdcnfdoaaGreatDoor Go.Proofs.YtjfgmdkdcnfdoaaGreatDoor.Eng Go.Proofs.YtjfgmdkdcnfdoaaGreatDoor.Eng.Sep Go.Proofs.YtjfgmdkdcnfdoaaGreatDoorW.PrintWords
open Go.Proofs.YtjfgmdkdcnfdoaaGreatDoor.Disk
open Go.Proofs.YtjfgmdkdcnfdoaaGreatDoor.Wire (encT rText)
theorem codeV_ne {z : Int} (h : z ≠ 0) : codeV z = .iface 88 (.int .i64 z) := if_neg h
def jApp (many : Int) (r : List UInt8) (ps : List Int) (rs : List (List UInt8)) (d : Dk) : Int × List Int × List (List UInt8) × Dk :=
 let sm := 0 < ps.length ∧ firstN ps + (rs.length : Int) - g0 ps (ps.length - 1) < many
 let n := if sm then g0 ps (ps.length - 1) else firstN ps + (rs.length : Int)
 let d1 := if sm then d else if ps.length = 0 then d else (sync d (g0 ps (ps.length - 1))).2
 let a := append d1 n (encT r)
 (a.1, if a.1 = 0 ∧ ps.contains n = false then ps ++ [n] else ps, if a.1 = 0 then rs ++ [r] else rs, a.2)
section
variable {many : Int} {r : List UInt8} {ps : List Int} {xs : List RX} {rs : List (List UInt8)} {d : Dk}
theorem jApp_s1 (hx : xs.length = rs.length) (h : 0 < ps.length ∧ firstN ps + (xs.length : Int) - g0 ps (ps.length - 1) < many) (hz : (append d (g0 ps (ps.length - 1)) (encT r)).1 = 0) (hc : ps.contains (g0 ps (ps.length - 1)) = false) : jApp many r ps rs d = (0, ps ++ [g0 ps (ps.length - 1)], rs ++ [r], (append d (g0 ps (ps.length - 1)) (encT r)).2) := by
 rw [hx] at *
 unfold jApp
 simp only [if_pos h]
 simp only [hz, hc, and_self, if_true]
theorem jApp_s0 (hx : xs.length = rs.length) (h : 0 < ps.length ∧ firstN ps + (xs.length : Int) - g0 ps (ps.length - 1) < many) (hz : (append d (g0 ps (ps.length - 1)) (encT r)).1 = 0) (hc : ps.contains (g0 ps (ps.length - 1)) = true) : jApp many r ps rs d = (0, ps, rs ++ [r], (append d (g0 ps (ps.length - 1)) (encT r)).2) := by
 rw [hx] at *
 unfold jApp
 simp only [if_pos h]
 simp only [hz, hc, if_true, Bool.true_eq_false, and_false, if_false]
theorem jApp_sx (hx : xs.length = rs.length) (h : 0 < ps.length ∧ firstN ps + (xs.length : Int) - g0 ps (ps.length - 1) < many) (hz : (append d (g0 ps (ps.length - 1)) (encT r)).1 ≠ 0) (hc : True) : jApp many r ps rs d = ((append d (g0 ps (ps.length - 1)) (encT r)).1, ps, rs, (append d (g0 ps (ps.length - 1)) (encT r)).2) := by
 rw [hx] at *
 unfold jApp
 simp only [if_pos h]
 simp only [hz, false_and, if_false]
theorem jApp_z1 (hx : xs.length = rs.length) (h : ps.length = 0) (hz : (append d (firstN ps + (xs.length : Int)) (encT r)).1 = 0) (hc : ps.contains (firstN ps + (xs.length : Int)) = false) : jApp many r ps rs d = (0, ps ++ [firstN ps + (xs.length : Int)], rs ++ [r], (append d (firstN ps + (xs.length : Int)) (encT r)).2) := by
 rw [hx] at *
 unfold jApp
 simp only [if_neg (show ¬ (0 < ps.length ∧ firstN ps + (rs.length : Int) - g0 ps (ps.length - 1) < many) from fun h2 => by omega), if_pos h]
 simp only [hz, hc, and_self, if_true]
theorem jApp_z0 (hx : xs.length = rs.length) (h : ps.length = 0) (hz : (append d (firstN ps + (xs.length : Int)) (encT r)).1 = 0) (hc : ps.contains (firstN ps + (xs.length : Int)) = true) : jApp many r ps rs d = (0, ps, rs ++ [r], (append d (firstN ps + (xs.length : Int)) (encT r)).2) := by
 rw [hx] at *
 unfold jApp
 simp only [if_neg (show ¬ (0 < ps.length ∧ firstN ps + (rs.length : Int) - g0 ps (ps.length - 1) < many) from fun h2 => by omega), if_pos h]
 simp only [hz, hc, if_true, Bool.true_eq_false, and_false, if_false]
theorem jApp_zx (hx : xs.length = rs.length) (h : ps.length = 0) (hz : (append d (firstN ps + (xs.length : Int)) (encT r)).1 ≠ 0) (hc : True) : jApp many r ps rs d = ((append d (firstN ps + (xs.length : Int)) (encT r)).1, ps, rs, (append d (firstN ps + (xs.length : Int)) (encT r)).2) := by
 rw [hx] at *
 unfold jApp
 simp only [if_neg (show ¬ (0 < ps.length ∧ firstN ps + (rs.length : Int) - g0 ps (ps.length - 1) < many) from fun h2 => by omega), if_pos h]
 simp only [hz, false_and, if_false]
theorem jApp_n1 (hx : xs.length = rs.length) (h : 0 < ps.length ∧ ¬ (firstN ps + (xs.length : Int) - g0 ps (ps.length - 1) < many)) (hz : (append (sync d (g0 ps (ps.length - 1))).2 (firstN ps + (xs.length : Int)) (encT r)).1 = 0) (hc : ps.contains (firstN ps + (xs.length : Int)) = false) : jApp many r ps rs d = (0, ps ++ [firstN ps + (xs.length : Int)], rs ++ [r], (append (sync d (g0 ps (ps.length - 1))).2 (firstN ps + (xs.length : Int)) (encT r)).2) := by
 rw [hx] at *
 unfold jApp
 simp only [if_neg (show ¬ (0 < ps.length ∧ firstN ps + (rs.length : Int) - g0 ps (ps.length - 1) < many) from fun h2 => h.2 h2.2), if_neg (show ¬ ps.length = 0 by omega)]
 simp only [hz, hc, and_self, if_true]
theorem jApp_n0 (hx : xs.length = rs.length) (h : 0 < ps.length ∧ ¬ (firstN ps + (xs.length : Int) - g0 ps (ps.length - 1) < many)) (hz : (append (sync d (g0 ps (ps.length - 1))).2 (firstN ps + (xs.length : Int)) (encT r)).1 = 0) (hc : ps.contains (firstN ps + (xs.length : Int)) = true) : jApp many r ps rs d = (0, ps, rs ++ [r], (append (sync d (g0 ps (ps.length - 1))).2 (firstN ps + (xs.length : Int)) (encT r)).2) := by
 rw [hx] at *
 unfold jApp
 simp only [if_neg (show ¬ (0 < ps.length ∧ firstN ps + (rs.length : Int) - g0 ps (ps.length - 1) < many) from fun h2 => h.2 h2.2), if_neg (show ¬ ps.length = 0 by omega)]
 simp only [hz, hc, if_true, Bool.true_eq_false, and_false, if_false]
theorem jApp_nx (hx : xs.length = rs.length) (h : 0 < ps.length ∧ ¬ (firstN ps + (xs.length : Int) - g0 ps (ps.length - 1) < many)) (hz : (append (sync d (g0 ps (ps.length - 1))).2 (firstN ps + (xs.length : Int)) (encT r)).1 ≠ 0) (hc : True) : jApp many r ps rs d = ((append (sync d (g0 ps (ps.length - 1))).2 (firstN ps + (xs.length : Int)) (encT r)).1, ps, rs, (append (sync d (g0 ps (ps.length - 1))).2 (firstN ps + (xs.length : Int)) (encT r)).2) := by
 rw [hx] at *
 unfold jApp
 simp only [if_neg (show ¬ (0 < ps.length ∧ firstN ps + (rs.length : Int) - g0 ps (ps.length - 1) < many) from fun h2 => h.2 h2.2), if_neg (show ¬ ps.length = 0 by omega)]
 simp only [hz, false_and, if_false]
end
theorem sync_len (d : Dk) (n : Int) : (sync d n).2.l.length = d.l.length := by
 unfold sync
 split
 ·
  unfold updL
  exact List.length_map _
 ·
  rfl
theorem text_ct (r : List UInt8) (h : recOk r) : Ct Tryz.prog 188 #[.slice none 0 0, .string (str r)] [] [] (fun (a : Nat × Nat) => (encT r).length ≤ a.2) (fun a => (.slice (some ⟨a.1, 0, none⟩) (encT r).length a.2, [rV cB 1 (some ⟨a.1, 0, none⟩) (encT r)])) := fun w xu xr hu hr hU => by
 obtain rfl := List.map_eq_nil_iff.1 hu
 obtain rfl := List.map_eq_nil_iff.1 hr
 refine (Wire.text_w (str r) none 0 0 [] [] w (VX.nil _ _) rfl (by simp) (by rw [str_size]; have := h.2; omega)).mono fun e w' ⟨b, cap, he, h1, h2, h3⟩ => ?_
 rw [List.nil_append, bs_str] at he h1
 have hle := h1.le
 rw [List.length_map] at hle
 exact ⟨(b, cap), [(rV cB 1 (some ⟨b, 0, none⟩) (encT r), [b])], hle, he, rfl, Up.of (r := rV ..) (VX.of_row h1), h2, fun y hy => .inr (by rw [List.mem_singleton.1 (foot_one.1 hy)]; exact h3)⟩
set_option maxRecDepth 100000 in
set_option maxHeartbeats 1000000 in
theorem japp_x (gj gd : Nat) (many : Int) (Ap Al : Option Addr) (cp cl : Nat) (ps : List Int) (xs : List RX) (rs : List (List UInt8)) (d : Dk) (Ab : Option Addr) (nb cb : Nat) (r : List UInt8) (hlp : ps.length ≤ 1000000) (hll : xs.length ≤ 1000000) (hcp : ps.length ≤ cp) (hcl : xs.length ≤ cl) (hxr : xs.length = rs.length) (hf : 0 ≤ firstN ps ∧ firstN ps ≤ 1000000) (hg : 0 < ps.length → 0 ≤ g0 ps (ps.length - 1) ∧ g0 ps (ps.length - 1) ≤ 1000000) (hro : recOk r) (hnb : r.length = nb) (ho : d.Ok) (hel : d.l.length ≤ 1000000) (hs : 0 < ps.length → (sync d (g0 ps (ps.length - 1))).1 = 0) :
  Ct Tryz.prog 109 #[.pointer (some ⟨gj, 0, none⟩), .slice Ab nb cb] [rV cB 1 Ab r] [rB gj #[.pointer (some ⟨gd, 0, none⟩), .int .i64 many, .slice Ap ps.length cp, .slice Al xs.length cl] 302, rY 3 1 (.slice Ap ps.length cp) (List.map cI ps), rY 69 1 (.slice Al xs.length cl) (List.map cR xs), rE xs rs, rDk gd d] (fun (_ : Unit) => True) (fun _ => (codeV (jApp many r ps rs d).1, [rJ gj gd many (jApp many r ps rs d).2.1 (jApp many r ps rs d).2.2.1, rDk gd (jApp many r ps rs d).2.2.2])) := by
 refine Ct.mk fun w T_ H => ?_
 have hro1 := hro.1
 have hro2 := hro.2
 have hel2 := encT_len r hro
 refine enter (N := 97) Tryz.func109 (c := _) rfl (by kernel_rfl) (by kernel_rfl) (e := [(0, .pointer (some ⟨gj, 0, none⟩)), (1, .slice Ab nb cb)]) (by kernel_rfl) ?_
 refine WE.seq ?_
 refine WE.region ?_
 refine WO.run 1 0 [(4, .nilIface)] (by kernel_rfl) (by kernel_rfl) ?_
 refine WO.done (by kernel_rfl) ?_
 refine WQ.keep [0, 1, 4] (e' := [(0, .pointer (some ⟨gj, 0, none⟩)), (1, .slice Ab nb cb), (4, .nilIface)]) (by kernel_rfl) ?_
 refine WQ.thenN ?_
 refine WE.seq ?_
 refine WE.seq ?_
 refine WE.region ?_
 refine WO.run 2 0 [(10, .int .i64 (nb : Int)), (9, .slice Ab nb cb)] (by kernel_rfl) (by kernel_rfl) ?_
 refine WO.one (SQ.F 2 (by kernel_rfl)) 11 (.bool (decide (((nb : Int) : Int) < (1 : Int)))) (by kernel_rfl) ?_
 refine WO.topPF (((nb : Int) : Int) < (1 : Int)) (by omega) ?_
 refine WO.run 3 3 [(14, .int .i64 (nb : Int)), (13, .slice Ab nb cb), (12, .bool false)] (by kernel_rfl) (by kernel_rfl) ?_
 refine WO.one (SQ.F 6 (by kernel_rfl)) 15 (.bool (decide (((nb : Int) : Int) > (4096 : Int)))) (by kernel_rfl) ?_
 refine WO.topPF (((nb : Int) : Int) > (4096 : Int)) (by omega) ?_
 refine WO.run 1 7 [(16, .bool false)] (by kernel_rfl) (by kernel_rfl) ?_
 refine WO.done (by kernel_rfl) ?_
 refine WQ.keep [0, 1, 4, 16] (e' := [(0, .pointer (some ⟨gj, 0, none⟩)), (1, .slice Ab nb cb), (4, .nilIface), (16, .bool false)]) (by kernel_rfl) ?_
 refine WQ.thenN ?_
 refine WE.condF (by kernel_rfl) ?_
 refine WE.skip ?_
 refine WQ.thenN ?_
 refine WE.seq ?_
 refine WE.region ?_
 refine WO.run 1 0 [(18, .pointer (some ⟨gj, 0, none⟩))] (by kernel_rfl) (by kernel_rfl) ?_
 refine Sc H 19 (next_c gj gd many Ap Al cp cl ps xs hlp hll hf) [] [0, 0] ?_
 rintro ⟨⟩ w _ H
 refine WO.run 1 2 [(5, .int .i64 (firstN ps + (xs.length : Int)))] (by kernel_rfl) (by kernel_rfl) ?_
 refine WO.done (by kernel_rfl) ?_
 refine WQ.keep [0, 1, 4, 5] (e' := [(0, .pointer (some ⟨gj, 0, none⟩)), (1, .slice Ab nb cb), (4, .nilIface), (5, .int .i64 (firstN ps + (xs.length : Int)))]) (by kernel_rfl) ?_
 refine WQ.thenN ?_
 refine WE.seq ?_
 refine WE.seq ?_
 refine WE.region ?_
 refine WO.run 3 0 [(22, .pointer (some ⟨gj, 2, none⟩)), (21, .pointer (some ⟨gj, 0, none⟩)), (20, .pointer (some ⟨gj, 0, none⟩))] (by kernel_rfl) (by kernel_rfl) ?_
 refine WO.ld (SQ.S 3 (by kernel_rfl)) 23 (.slice Ap ps.length cp) (by kernel_rfl) (H.cell 0 2) ?_
 refine WO.run 2 4 [(6, .int .i64 (ps.length : Int)), (24, .int .i64 (ps.length : Int))] (by kernel_rfl) (by kernel_rfl) ?_
 refine WO.done (by kernel_rfl) ?_
 refine WQ.keep [0, 1, 4, 5, 6] (e' := [(0, .pointer (some ⟨gj, 0, none⟩)), (1, .slice Ab nb cb), (4, .nilIface), (5, .int .i64 (firstN ps + (xs.length : Int))), (6, .int .i64 (ps.length : Int))]) (by kernel_rfl) ?_
 refine WQ.thenN ?_
 refine WE.seq ?_
 by_cases hsm : 0 < ps.length ∧ firstN ps + (xs.length : Int) - g0 ps (ps.length - 1) < many
 ·
  have hg1 := hg hsm.1
  refine WE.draw [.free, .free, .free, .free, .free, .free, .free, .still, .free, .free, .free, .still, .free, .free, .free, .free, .still, .free, .free] Same sameR (by kernel_rfl) 19 (Array.replicate 19 false) (by kernel_rfl) rfl ?_
  intro w F_ _
  replace H := H.step0 F_
  refine WO.one (SA.F sameR sameT _ 0 _ (by kernel_rfl)) 25 (.int .i64 (ps.length : Int)) (by kernel_rfl) ?_
  refine WO.one (SA.F sameR sameT _ 1 _ (by kernel_rfl)) 26 (.bool (decide (((ps.length : Int) : Int) > (0 : Int)))) (by kernel_rfl) ?_
  refine WO.topPT (((ps.length : Int) : Int) > (0 : Int)) (by omega) ?_
  refine WO.one (SA.F sameR sameT _ 2 _ (by kernel_rfl)) 27 (.bool true) (by kernel_rfl) ?_
  refine WO.one (SA.F sameR sameT _ 3 _ (by kernel_rfl)) 28 (.int .i64 (firstN ps + (xs.length : Int))) (by kernel_rfl) ?_
  refine WO.one (SA.F sameR sameT _ 4 _ (by kernel_rfl)) 29 (.pointer (some ⟨gj, 0, none⟩)) (by kernel_rfl) ?_
  refine WO.one (SA.F sameR sameT _ 5 _ (by kernel_rfl)) 30 (.pointer (some ⟨gj, 0, none⟩)) (by kernel_rfl) ?_
  refine WO.one (SA.F sameR sameT _ 6 _ (by kernel_rfl)) 31 (.pointer (some ⟨gj, 2, none⟩)) (by kernel_rfl) ?_
  refine WO.ld (SA.S sameR sameT _ 7 _ (by kernel_rfl)) 32 (.slice Ap ps.length cp) (by kernel_rfl) (H.cell 0 2) ?_
  refine WO.one (SA.F sameR sameT _ 8 _ (by kernel_rfl)) 33 (.int .i64 (ps.length : Int)) (by kernel_rfl) ?_
  refine WO.one (SA.F sameR sameT _ 9 _ (by kernel_rfl)) 34 (.int .i64 (IntKind.i64.wrap ((ps.length : Int) - 1))) (by kernel_rfl) ?_
  refine WO.top (v' := .int .i64 ((ps.length - 1 : Nat) : Int)) (wrap_i64 (by omega) (by omega)) ?_
  obtain ⟨ad1, hA2⟩ := H.yaddr 1 cI 3 1 Ap ps.length cp ps (k := ps.length - 1) (by have := (rfl : ps.length = _); omega)
  refine WO.ixo (SA.F sameR sameT _ 10 _ (by kernel_rfl)) 35 ps.length 1 (ps.length - 1) ((ps.length - 1 : Nat) : Int) hA2 (by kernel_rfl) rfl (by omega) ?_
  refine WO.ld (SA.S sameR sameT _ 11 _ (by kernel_rfl)) 36 (.int .i64 (g0 ps (ps.length - 1))) (by kernel_rfl) (H.ycell0 1 cI 3 1 Ap ps.length cp ps hA2 (g0_some ps (ps.length - 1) (by have := (rfl : ps.length = _); omega))) ?_
  refine WO.one (SA.F sameR sameT _ 12 _ (by kernel_rfl)) 37 (.int .i64 (IntKind.i64.wrap ((firstN ps + (xs.length : Int)) - (g0 ps (ps.length - 1))))) (by kernel_rfl) ?_
  refine WO.top (v' := .int .i64 ((firstN ps + (xs.length : Int)) - (g0 ps (ps.length - 1)))) (wrap_i64 (by omega) (by omega)) ?_
  refine WO.one (SA.F sameR sameT _ 13 _ (by kernel_rfl)) 38 (.pointer (some ⟨gj, 0, none⟩)) (by kernel_rfl) ?_
  refine WO.one (SA.F sameR sameT _ 14 _ (by kernel_rfl)) 39 (.pointer (some ⟨gj, 0, none⟩)) (by kernel_rfl) ?_
  refine WO.one (SA.F sameR sameT _ 15 _ (by kernel_rfl)) 40 (.pointer (some ⟨gj, 1, none⟩)) (by kernel_rfl) ?_
  refine WO.ld (SA.S sameR sameT _ 16 _ (by kernel_rfl)) 41 (.int .i64 many) (by kernel_rfl) (H.cell 0 1) ?_
  refine WO.one (SA.F sameR sameT _ 17 _ (by kernel_rfl)) 42 (.bool (decide (((firstN ps + (xs.length : Int)) - (g0 ps (ps.length - 1)) : Int) < many))) (by kernel_rfl) ?_
  refine WO.topPT (((firstN ps + (xs.length : Int)) - (g0 ps (ps.length - 1)) : Int) < many) (by exact hsm.2) ?_
  refine WO.one (SA.F sameR sameT _ 18 _ (by kernel_rfl)) 43 (.bool true) (by kernel_rfl) ?_
  refine WO.doneA (by kernel_rfl) ?_
  refine WQ.keep [0, 1, 4, 5, 6, 43] (e' := [(0, .pointer (some ⟨gj, 0, none⟩)), (1, .slice Ab nb cb), (4, .nilIface), (5, .int .i64 (firstN ps + (xs.length : Int))), (6, .int .i64 (ps.length : Int)), (43, .bool true)]) (by kernel_rfl) ?_
  refine WQ.thenN ?_
  refine WE.condT (by kernel_rfl) ?_
  refine WE.region ?_
  refine WO.run 3 0 [(46, .pointer (some ⟨gj, 2, none⟩)), (45, .pointer (some ⟨gj, 0, none⟩)), (44, .pointer (some ⟨gj, 0, none⟩))] (by kernel_rfl) (by kernel_rfl) ?_
  refine WO.ld (SQ.S 3 (by kernel_rfl)) 47 (.slice Ap ps.length cp) (by kernel_rfl) (H.cell 0 2) ?_
  refine WO.run 1 4 [(48, .int .i64 (ps.length : Int))] (by kernel_rfl) (by kernel_rfl) ?_
  refine WO.one (SQ.F 5 (by kernel_rfl)) 49 (.int .i64 (IntKind.i64.wrap ((ps.length : Int) - 1))) (by kernel_rfl) ?_
  refine WO.top (v' := .int .i64 ((ps.length - 1 : Nat) : Int)) (wrap_i64 (by omega) (by omega)) ?_
  obtain ⟨ad3, hA4⟩ := H.yaddr 1 cI 3 1 Ap ps.length cp ps (k := ps.length - 1) (by have := (rfl : ps.length = _); omega)
  refine WO.ixo (SQ.F 6 (by kernel_rfl)) 50 ps.length 1 (ps.length - 1) ((ps.length - 1 : Nat) : Int) hA4 (by kernel_rfl) rfl (by omega) ?_
  refine WO.ld (SQ.S 7 (by kernel_rfl)) 51 (.int .i64 (g0 ps (ps.length - 1))) (by kernel_rfl) (H.ycell0 1 cI 3 1 Ap ps.length cp ps hA4 (g0_some ps (ps.length - 1) (by have := (rfl : ps.length = _); omega))) ?_
  refine WO.run 1 8 [(5, .int .i64 (g0 ps (ps.length - 1)))] (by kernel_rfl) (by kernel_rfl) ?_
  refine WO.done (by kernel_rfl) ?_
  refine WQ.keep [0, 1, 4, 5] (e' := [(0, .pointer (some ⟨gj, 0, none⟩)), (1, .slice Ab nb cb), (4, .nilIface), (5, .int .i64 (g0 ps (ps.length - 1)))]) (by kernel_rfl) ?_
  refine WQ.thenN ?_
  refine WE.seq ?_
  refine WE.seq ?_
  obtain ⟨ho2, hl2⟩ : (d).Ok ∧ (d).l.length ≤ 1000000 := ⟨ho, hel⟩
  by_cases hz : (append d (g0 ps (ps.length - 1)) (encT r)).1 = 0
  ·
   refine WE.draw [.free, .free, .free, .still, .free, .free, .effR, .effR, .eff, .free] (Kp [gj]) (kpR _) (by kernel_rfl) 10 (Array.replicate 10 false) (by kernel_rfl) rfl ?_
   intro w F_ _
   replace H := H.step0 F_
   refine WO.one (SA.F (kpR _) (kpT _) _ 0 _ (by kernel_rfl)) 57 (.pointer (some ⟨gj, 0, none⟩)) (by kernel_rfl) ?_
   refine WO.one (SA.F (kpR _) (kpT _) _ 1 _ (by kernel_rfl)) 58 (.pointer (some ⟨gj, 0, none⟩)) (by kernel_rfl) ?_
   refine WO.one (SA.F (kpR _) (kpT _) _ 2 _ (by kernel_rfl)) 59 (.pointer (some ⟨gj, 0, none⟩)) (by kernel_rfl) ?_
   refine WO.ld (SA.S (kpR _) (kpT _) _ 3 _ (by kernel_rfl)) 60 (.pointer (some ⟨gd, 0, none⟩)) (by kernel_rfl) (fun _ k_ => ((H.blk 0).kp k_ (by show gj ∈ ([gj] : List Nat); simp)).at 0 (by kernel_rfl)) ?_
   refine WO.one (SA.F (kpR _) (kpT _) _ 4 _ (by kernel_rfl)) 61 (.int .i64 (g0 ps (ps.length - 1))) (by kernel_rfl) ?_
   refine WO.one (SA.F (kpR _) (kpT _) _ 5 _ (by kernel_rfl)) 62 (.slice Ab nb cb) (by kernel_rfl) ?_
   obtain ⟨F5, HV6⟩ := H.at 5 (rV cB 1 Ab r)
   refine WO.b2sE (v := .slice Ab nb cb) (SA.ER _ 6 _ (by kernel_rfl) rfl) 63 Wire.byt r (n := nb) hnb (by kernel_rfl) (VX.srcN HV6 hnb (cB_len _) (cB_one _) cb) (H.kpF [0]) ?_
   refine GcK (SA.ER _ 7 _ (by kernel_rfl) rfl) H 64 (text_ct r hro) [] [] [0] ?_
   rintro ⟨b7, cp8⟩ w hccp8 H
   refine Gc (SA.E _ 8 _ (by kernel_rfl) rfl) H 65 (dapp_ct gd d (g0 ps (ps.length - 1)) (some ⟨b7, 0, none⟩) (encT r).length cp8 (encT r) ho2 (by omega) rfl (by omega) hl2) [5] [0] (fun _ => trivial) ?_
   rintro ⟨⟩ w _ H
   refine WO.top (v' := .nilIface) (by rw [hz]; rfl) ?_
   refine WO.one (SA.F (kpR _) (kpT _) _ 9 _ (by kernel_rfl)) 8 (.nilIface) (by kernel_rfl) ?_
   refine WO.doneA (by kernel_rfl) ?_
   refine WQ.keep [0, 1, 4, 5, 8] (e' := [(0, .pointer (some ⟨gj, 0, none⟩)), (1, .slice Ab nb cb), (4, .nilIface), (5, .int .i64 (g0 ps (ps.length - 1))), (8, .nilIface)]) (by kernel_rfl) ?_
   refine WQ.thenN ?_
   refine WE.seq ?_
   refine WE.region ?_
   refine WO.run 2 0 [(67, .bool false), (66, .nilIface)] (by kernel_rfl) (by kernel_rfl) ?_
   refine WO.done (by kernel_rfl) ?_
   refine WQ.keep [0, 1, 4, 5, 8, 67] (e' := [(0, .pointer (some ⟨gj, 0, none⟩)), (1, .slice Ab nb cb), (4, .nilIface), (5, .int .i64 (g0 ps (ps.length - 1))), (8, .nilIface), (67, .bool false)]) (by kernel_rfl) ?_
   refine WQ.thenN ?_
   refine WE.condF (by kernel_rfl) ?_
   refine WE.skip ?_
   refine WQ.thenN ?_
   refine WE.seq ?_
   refine WE.seq ?_
   refine WE.region ?_
   refine WO.run 3 0 [(71, .pointer (some ⟨gj, 2, none⟩)), (70, .pointer (some ⟨gj, 0, none⟩)), (69, .pointer (some ⟨gj, 0, none⟩))] (by kernel_rfl) (by kernel_rfl) ?_
   refine WO.ld (SQ.S 3 (by kernel_rfl)) 72 (.slice Ap ps.length cp) (by kernel_rfl) (H.cell 2 2) ?_
   refine WO.run 1 4 [(73, .int .i64 (g0 ps (ps.length - 1)))] (by kernel_rfl) (by kernel_rfl) ?_
   refine Sc H 74 (contains_c Ap cp ps (g0 ps (ps.length - 1)) hlp) [] [3] ?_
   rintro ⟨⟩ w _ H
   refine WO.one (SQ.F 6 (by kernel_rfl)) 75 (.bool (!(ps.contains (g0 ps (ps.length - 1))))) (by kernel_rfl) ?_
   refine WO.topNB ((ps.contains (g0 ps (ps.length - 1)))) ?_ ?_
   ·
    intro h9
    refine WO.done (by kernel_rfl) ?_
    refine WQ.keep [0, 1, 4, 5, 75] (e' := [(0, .pointer (some ⟨gj, 0, none⟩)), (1, .slice Ab nb cb), (4, .nilIface), (5, .int .i64 (g0 ps (ps.length - 1))), (75, .bool false)]) (by kernel_rfl) ?_
    refine WQ.thenN ?_
    refine WE.condF (by kernel_rfl) ?_
    refine WE.skip ?_
    refine WQ.thenN ?_
    refine WE.seq ?_
    refine WE.draw [.free, .free, .free, .free, .still, .free, .effR, .effR, .eff, .free, .free, .eff] (Kp [gj]) (kpR _) (by kernel_rfl) 12 (Array.replicate 12 false) (by kernel_rfl) rfl ?_
    intro w F_ _
    replace H := H.step0 F_
    refine WO.one (SA.F (kpR _) (kpT _) _ 0 _ (by kernel_rfl)) 86 (.pointer (some ⟨gj, 0, none⟩)) (by kernel_rfl) ?_
    refine WO.one (SA.F (kpR _) (kpT _) _ 1 _ (by kernel_rfl)) 87 (.pointer (some ⟨gj, 0, none⟩)) (by kernel_rfl) ?_
    refine WO.one (SA.F (kpR _) (kpT _) _ 2 _ (by kernel_rfl)) 88 (.pointer (some ⟨gj, 0, none⟩)) (by kernel_rfl) ?_
    refine WO.one (SA.F (kpR _) (kpT _) _ 3 _ (by kernel_rfl)) 89 (.pointer (some ⟨gj, 3, none⟩)) (by kernel_rfl) ?_
    refine WO.ld (SA.S (kpR _) (kpT _) _ 4 _ (by kernel_rfl)) 90 (.slice Al xs.length cl) (by kernel_rfl) (fun _ k_ => ((H.blk 2).kp k_ (by show gj ∈ ([gj] : List Nat); simp)).at 3 (by kernel_rfl)) ?_
    refine WO.one (SA.F (kpR _) (kpT _) _ 5 _ (by kernel_rfl)) 91 (.slice Ab nb cb) (by kernel_rfl) ?_
    refine GcK (SA.ER _ 6 _ (by kernel_rfl) rfl) H 92 (clone_c Ab nb cb r hnb (by omega) (by omega)) [] [6] [2] ?_
    rintro ⟨A2, c2⟩ w hc2 H
    refine Gb (SA.ER _ 7 _ (by kernel_rfl) rfl) H 93 #[.slice A2 nb c2] 69 (fun g => .slice (some ⟨g, 0, none⟩) 1 1) (H.kpF [3]) ?_
    intro g10 w H
    refine Gay (SA.E _ 8 _ (by kernel_rfl) rfl) H 6 94 (A := Al) (c := cl) (xv := .slice (some ⟨g10, 0, none⟩) 1 1) (n := xs.length) (m := 1) et_r (List.map cR xs) (List.map cR ([((A2, nb, c2) : RX)])) ((List.length_map _).trans ((rfl : xs.length = _))) (by rw [List.length_map] <;> first | rfl | omega | (simp <;> omega)) (by omega) (RowB.src (RowB.of_blk (n := 1) (H.blk 0) (List.map cR [((A2, nb, c2) : RX)]) rfl rfl (cR_len _) (cR_one _) (by omega))) (cR_len _) (cR_one _) (by omega) (by omega) (fun _ => trivial) ?_
    intro A11 cap12 w hccap12 H
    rw [← List.map_append] at H
    refine WO.one (SA.F (kpR _) (kpT _) _ 9 _ (by kernel_rfl)) 95 (.pointer (some ⟨gj, 0, none⟩)) (by kernel_rfl) ?_
    refine WO.one (SA.F (kpR _) (kpT _) _ 10 _ (by kernel_rfl)) 96 (.pointer (some ⟨gj, 3, none⟩)) (by kernel_rfl) ?_
    refine Gs (SA.E _ 11 _ (by kernel_rfl) rfl) H 5 3 #[.pointer (some ⟨gd, 0, none⟩), .int .i64 many, .slice Ap ps.length cp, .slice A11 (xs.length + 1) cap12] (fun _ _ => trivial) ?_
    intro w H
    refine WO.doneA (by kernel_rfl) ?_
    refine WQ.keep [4] (e' := [(4, .nilIface)]) (by kernel_rfl) ?_
    refine WQ.thenN ?_
    refine WE.seq ?_
    refine WE.region ?_
    refine WO.run 1 0 [(4, .nilIface)] (by kernel_rfl) (by kernel_rfl) ?_
    refine WO.done (by kernel_rfl) ?_
    refine WQ.keep [4] (e' := [(4, .nilIface)]) (by kernel_rfl) ?_
    refine WQ.thenN ?_
    refine WE.ret ?_
    refine WQ.ret (v := .nilIface) (by kernel_rfl) ?_
    replace H := H.conv [3] (Ent.yv cB 5 1 A2 nb c2 r)
    replace H := H.conv [7, 0] (Ent.epush xs rs A2 r nb c2 hnb.symm (by omega))
    rw [show xs.length + 1 = (xs ++ [((A2, nb, c2) : RX)]).length by simp] at H
    replace H := H.close [1, 5, 1, 0] (jp ps (rs ++ [r])) (jq gj gd many ps (rs ++ [r])) (Ap, cp, A11, cap12, (xs ++ [((A2, nb, c2) : RX)])) (⟨by simp <;> omega, by simp <;> omega, by simp [hxr]⟩)
    rw [show jApp many r ps rs d = (0, ps, (rs ++ [r]), (append d (g0 ps (ps.length - 1)) (encT r)).2) from by first | exact jApp_s0 hxr (by omega) hz (by first | assumption | (simpa using by assumption))]
    exact H.leaf () [0, 1] trivial
   intro h9
   refine WO.done (by kernel_rfl) ?_
   refine WQ.keep [0, 1, 4, 5, 75] (e' := [(0, .pointer (some ⟨gj, 0, none⟩)), (1, .slice Ab nb cb), (4, .nilIface), (5, .int .i64 (g0 ps (ps.length - 1))), (75, .bool true)]) (by kernel_rfl) ?_
   refine WQ.thenN ?_
   refine WE.condT (by kernel_rfl) ?_
   refine WE.region ?_
   refine WO.run 4 0 [(79, .pointer (some ⟨gj, 2, none⟩)), (78, .pointer (some ⟨gj, 0, none⟩)), (77, .pointer (some ⟨gj, 0, none⟩)), (76, .pointer (some ⟨gj, 0, none⟩))] (by kernel_rfl) (by kernel_rfl) ?_
   refine WO.ld (SQ.S 4 (by kernel_rfl)) 80 (.slice Ap ps.length cp) (by kernel_rfl) (H.cell 2 2) ?_
   refine WO.run 1 5 [(81, .int .i64 (g0 ps (ps.length - 1)))] (by kernel_rfl) (by kernel_rfl) ?_
   refine Sb H 82 #[.int .i64 (g0 ps (ps.length - 1))] 3 (fun g => .slice (some ⟨g, 0, none⟩) 1 1) ?_
   intro g13 w H
   refine Gay (SQ.E 7 (by kernel_rfl)) H 4 83 (A := Ap) (c := cp) (xv := .slice (some ⟨g13, 0, none⟩) 1 1) (n := ps.length) (m := 1) et_i (List.map cI ps) (List.map cI ([(g0 ps (ps.length - 1))])) ((List.length_map _).trans ((rfl : ps.length = _))) (by rw [List.length_map] <;> first | rfl | omega | (simp <;> omega)) (by omega) (RowB.src (RowB.of_blk (n := 1) (H.blk 0) (List.map cI [(g0 ps (ps.length - 1))]) rfl rfl (cI_len _) (cI_one _) (by omega))) (cI_len _) (cI_one _) (by omega) (by omega) (fun _ => trivial) ?_
   intro A14 cap15 w hccap15 H
   rw [← List.map_append] at H
   refine WO.run 2 8 [(85, .pointer (some ⟨gj, 2, none⟩)), (84, .pointer (some ⟨gj, 0, none⟩))] (by kernel_rfl) (by kernel_rfl) ?_
   refine Ss H 4 2 #[.pointer (some ⟨gd, 0, none⟩), .int .i64 many, .slice A14 (ps.length + 1) cap15, .slice Al xs.length cl] ?_
   intro w H
   refine WO.done (by kernel_rfl) ?_
   refine WQ.keep [0, 1, 4] (e' := [(0, .pointer (some ⟨gj, 0, none⟩)), (1, .slice Ab nb cb), (4, .nilIface)]) (by kernel_rfl) ?_
   refine WQ.thenN ?_
   refine WE.seq ?_
   refine WE.draw [.free, .free, .free, .free, .still, .free, .effR, .effR, .eff, .free, .free, .eff] (Kp [gj]) (kpR _) (by kernel_rfl) 12 (Array.replicate 12 false) (by kernel_rfl) rfl ?_
   intro w F_ _
   replace H := H.step0 F_
   refine WO.one (SA.F (kpR _) (kpT _) _ 0 _ (by kernel_rfl)) 86 (.pointer (some ⟨gj, 0, none⟩)) (by kernel_rfl) ?_
   refine WO.one (SA.F (kpR _) (kpT _) _ 1 _ (by kernel_rfl)) 87 (.pointer (some ⟨gj, 0, none⟩)) (by kernel_rfl) ?_
   refine WO.one (SA.F (kpR _) (kpT _) _ 2 _ (by kernel_rfl)) 88 (.pointer (some ⟨gj, 0, none⟩)) (by kernel_rfl) ?_
   refine WO.one (SA.F (kpR _) (kpT _) _ 3 _ (by kernel_rfl)) 89 (.pointer (some ⟨gj, 3, none⟩)) (by kernel_rfl) ?_
   refine WO.ld (SA.S (kpR _) (kpT _) _ 4 _ (by kernel_rfl)) 90 (.slice Al xs.length cl) (by kernel_rfl) (fun _ k_ => ((H.blk 0).kp k_ (by show gj ∈ ([gj] : List Nat); simp)).at 3 (by kernel_rfl)) ?_
   refine WO.one (SA.F (kpR _) (kpT _) _ 5 _ (by kernel_rfl)) 91 (.slice Ab nb cb) (by kernel_rfl) ?_
   refine GcK (SA.ER _ 6 _ (by kernel_rfl) rfl) H 92 (clone_c Ab nb cb r hnb (by omega) (by omega)) [] [7] [0] ?_
   rintro ⟨A2, c2⟩ w hc2 H
   refine Gb (SA.ER _ 7 _ (by kernel_rfl) rfl) H 93 #[.slice A2 nb c2] 69 (fun g => .slice (some ⟨g, 0, none⟩) 1 1) (H.kpF [1]) ?_
   intro g16 w H
   refine Gay (SA.E _ 8 _ (by kernel_rfl) rfl) H 7 94 (A := Al) (c := cl) (xv := .slice (some ⟨g16, 0, none⟩) 1 1) (n := xs.length) (m := 1) et_r (List.map cR xs) (List.map cR ([((A2, nb, c2) : RX)])) ((List.length_map _).trans ((rfl : xs.length = _))) (by rw [List.length_map] <;> first | rfl | omega | (simp <;> omega)) (by omega) (RowB.src (RowB.of_blk (n := 1) (H.blk 0) (List.map cR [((A2, nb, c2) : RX)]) rfl rfl (cR_len _) (cR_one _) (by omega))) (cR_len _) (cR_one _) (by omega) (by omega) (fun _ => trivial) ?_
   intro A17 cap18 w hccap18 H
   rw [← List.map_append] at H
   refine WO.one (SA.F (kpR _) (kpT _) _ 9 _ (by kernel_rfl)) 95 (.pointer (some ⟨gj, 0, none⟩)) (by kernel_rfl) ?_
   refine WO.one (SA.F (kpR _) (kpT _) _ 10 _ (by kernel_rfl)) 96 (.pointer (some ⟨gj, 3, none⟩)) (by kernel_rfl) ?_
   refine Gs (SA.E _ 11 _ (by kernel_rfl) rfl) H 3 3 #[.pointer (some ⟨gd, 0, none⟩), .int .i64 many, .slice A14 (ps.length + 1) cap15, .slice A17 (xs.length + 1) cap18] (fun _ _ => trivial) ?_
   intro w H
   refine WO.doneA (by kernel_rfl) ?_
   refine WQ.keep [4] (e' := [(4, .nilIface)]) (by kernel_rfl) ?_
   refine WQ.thenN ?_
   refine WE.seq ?_
   refine WE.region ?_
   refine WO.run 1 0 [(4, .nilIface)] (by kernel_rfl) (by kernel_rfl) ?_
   refine WO.done (by kernel_rfl) ?_
   refine WQ.keep [4] (e' := [(4, .nilIface)]) (by kernel_rfl) ?_
   refine WQ.thenN ?_
   refine WE.ret ?_
   refine WQ.ret (v := .nilIface) (by kernel_rfl) ?_
   replace H := H.conv [3] (Ent.yv cB 5 1 A2 nb c2 r)
   replace H := H.conv [8, 0] (Ent.epush xs rs A2 r nb c2 hnb.symm (by omega))
   rw [show xs.length + 1 = (xs ++ [((A2, nb, c2) : RX)]).length by simp] at H
   rw [show ps.length + 1 = (ps ++ [g0 ps (ps.length - 1)]).length by simp] at H
   replace H := H.close [1, 3, 1, 0] (jp (ps ++ [g0 ps (ps.length - 1)]) (rs ++ [r])) (jq gj gd many (ps ++ [g0 ps (ps.length - 1)]) (rs ++ [r])) (A14, cap15, A17, cap18, (xs ++ [((A2, nb, c2) : RX)])) (⟨by simp <;> omega, by simp <;> omega, by simp [hxr]⟩)
   rw [show jApp many r ps rs d = (0, (ps ++ [g0 ps (ps.length - 1)]), (rs ++ [r]), (append d (g0 ps (ps.length - 1)) (encT r)).2) from by first | exact jApp_s1 hxr (by omega) hz (by first | assumption | (simpa using by assumption))]
   exact H.leaf () [0, 2] trivial
  refine WE.draw [.free, .free, .free, .still, .free, .free, .effR, .effR, .eff, .free] (Kp [gj]) (kpR _) (by kernel_rfl) 10 (Array.replicate 10 false) (by kernel_rfl) rfl ?_
  intro w F_ _
  replace H := H.step0 F_
  refine WO.one (SA.F (kpR _) (kpT _) _ 0 _ (by kernel_rfl)) 57 (.pointer (some ⟨gj, 0, none⟩)) (by kernel_rfl) ?_
  refine WO.one (SA.F (kpR _) (kpT _) _ 1 _ (by kernel_rfl)) 58 (.pointer (some ⟨gj, 0, none⟩)) (by kernel_rfl) ?_
  refine WO.one (SA.F (kpR _) (kpT _) _ 2 _ (by kernel_rfl)) 59 (.pointer (some ⟨gj, 0, none⟩)) (by kernel_rfl) ?_
  refine WO.ld (SA.S (kpR _) (kpT _) _ 3 _ (by kernel_rfl)) 60 (.pointer (some ⟨gd, 0, none⟩)) (by kernel_rfl) (fun _ k_ => ((H.blk 0).kp k_ (by show gj ∈ ([gj] : List Nat); simp)).at 0 (by kernel_rfl)) ?_
  refine WO.one (SA.F (kpR _) (kpT _) _ 4 _ (by kernel_rfl)) 61 (.int .i64 (g0 ps (ps.length - 1))) (by kernel_rfl) ?_
  refine WO.one (SA.F (kpR _) (kpT _) _ 5 _ (by kernel_rfl)) 62 (.slice Ab nb cb) (by kernel_rfl) ?_
  obtain ⟨F19, HV20⟩ := H.at 5 (rV cB 1 Ab r)
  refine WO.b2sE (v := .slice Ab nb cb) (SA.ER _ 6 _ (by kernel_rfl) rfl) 63 Wire.byt r (n := nb) hnb (by kernel_rfl) (VX.srcN HV20 hnb (cB_len _) (cB_one _) cb) (H.kpF [0]) ?_
  refine GcK (SA.ER _ 7 _ (by kernel_rfl) rfl) H 64 (text_ct r hro) [] [] [0] ?_
  rintro ⟨b21, cp22⟩ w hccp22 H
  refine Gc (SA.E _ 8 _ (by kernel_rfl) rfl) H 65 (dapp_ct gd d (g0 ps (ps.length - 1)) (some ⟨b21, 0, none⟩) (encT r).length cp22 (encT r) ho2 (by omega) rfl (by omega) hl2) [5] [0] (fun _ => trivial) ?_
  rintro ⟨⟩ w _ H
  refine WO.top (v' := .iface 88 (.int .i64 ((append d (g0 ps (ps.length - 1)) (encT r)).1))) (codeV_ne hz) ?_
  refine WO.one (SA.F (kpR _) (kpT _) _ 9 _ (by kernel_rfl)) 8 (.iface 88 (.int .i64 ((append d (g0 ps (ps.length - 1)) (encT r)).1))) (by kernel_rfl) ?_
  refine WO.doneA (by kernel_rfl) ?_
  refine WQ.keep [0, 1, 4, 5, 8] (e' := [(0, .pointer (some ⟨gj, 0, none⟩)), (1, .slice Ab nb cb), (4, .nilIface), (5, .int .i64 (g0 ps (ps.length - 1))), (8, .iface 88 (.int .i64 ((append d (g0 ps (ps.length - 1)) (encT r)).1)))]) (by kernel_rfl) ?_
  refine WQ.thenN ?_
  refine WE.seq ?_
  refine WE.region ?_
  refine WO.run 2 0 [(67, .bool true), (66, .iface 88 (.int .i64 ((append d (g0 ps (ps.length - 1)) (encT r)).1)))] (by kernel_rfl) (by kernel_rfl) ?_
  refine WO.done (by kernel_rfl) ?_
  refine WQ.keep [0, 1, 4, 5, 8, 67] (e' := [(0, .pointer (some ⟨gj, 0, none⟩)), (1, .slice Ab nb cb), (4, .nilIface), (5, .int .i64 (g0 ps (ps.length - 1))), (8, .iface 88 (.int .i64 ((append d (g0 ps (ps.length - 1)) (encT r)).1))), (67, .bool true)]) (by kernel_rfl) ?_
  refine WQ.thenN ?_
  refine WE.condT (by kernel_rfl) ?_
  refine WE.seq ?_
  refine WE.region ?_
  refine WO.run 2 0 [(4, .iface 88 (.int .i64 ((append d (g0 ps (ps.length - 1)) (encT r)).1))), (68, .iface 88 (.int .i64 ((append d (g0 ps (ps.length - 1)) (encT r)).1)))] (by kernel_rfl) (by kernel_rfl) ?_
  refine WO.done (by kernel_rfl) ?_
  refine WQ.keep [0, 1, 4, 5] (e' := [(0, .pointer (some ⟨gj, 0, none⟩)), (1, .slice Ab nb cb), (4, .iface 88 (.int .i64 ((append d (g0 ps (ps.length - 1)) (encT r)).1))), (5, .int .i64 (g0 ps (ps.length - 1)))]) (by kernel_rfl) ?_
  refine WQ.thenN ?_
  refine WE.ret ?_
  refine WQ.thenR ?_
  refine WQ.ret (v := .iface 88 (.int .i64 ((append d (g0 ps (ps.length - 1)) (encT r)).1))) (by kernel_rfl) ?_
  replace H := H.close [2, 2, 2, 2] (jp ps rs) (jq gj gd many ps rs) (Ap, cp, Al, cl, xs) (⟨by simp <;> omega, by simp <;> omega, by simp [hxr]⟩)
  rw [show jApp many r ps rs d = ((append d (g0 ps (ps.length - 1)) (encT r)).1, ps, rs, (append d (g0 ps (ps.length - 1)) (encT r)).2) from by first | exact jApp_sx hxr (by omega) hz (by first | assumption | (simpa using by assumption))]
  exact H.leaf () [0, 0] trivial (he := congrArg Ending.returned (codeV_ne hz).symm)
 by_cases h0 : ps.length = 0
 ·
  refine WE.draw [.free, .free, .free, .free, .free, .free, .free, .still, .free, .free, .free, .still, .free, .free, .free, .free, .still, .free, .free] Same sameR (by kernel_rfl) 19 (Array.replicate 19 false) (by kernel_rfl) rfl ?_
  intro w F_ _
  replace H := H.step0 F_
  refine WO.one (SA.F sameR sameT _ 0 _ (by kernel_rfl)) 25 (.int .i64 (ps.length : Int)) (by kernel_rfl) ?_
  refine WO.one (SA.F sameR sameT _ 1 _ (by kernel_rfl)) 26 (.bool (decide (((ps.length : Int) : Int) > (0 : Int)))) (by kernel_rfl) ?_
  refine WO.topPF (((ps.length : Int) : Int) > (0 : Int)) (by omega) ?_
  refine WO.one (SA.F sameR sameT _ 2 _ (by kernel_rfl)) 27 (.bool false) (by kernel_rfl) ?_
  refine WO.off (SA.O sameR sameT _ 3 _ (by kernel_rfl)) 28 (by kernel_rfl) ?_
  refine WO.off (SA.O sameR sameT _ 4 _ (by kernel_rfl)) 29 (by kernel_rfl) ?_
  refine WO.off (SA.O sameR sameT _ 5 _ (by kernel_rfl)) 30 (by kernel_rfl) ?_
  refine WO.off (SA.O sameR sameT _ 6 _ (by kernel_rfl)) 31 (by kernel_rfl) ?_
  refine WO.off (SA.O sameR sameT _ 7 _ (by kernel_rfl)) 32 (by kernel_rfl) ?_
  refine WO.off (SA.O sameR sameT _ 8 _ (by kernel_rfl)) 33 (by kernel_rfl) ?_
  refine WO.off (SA.O sameR sameT _ 9 _ (by kernel_rfl)) 34 (by kernel_rfl) ?_
  refine WO.off (SA.O sameR sameT _ 10 _ (by kernel_rfl)) 35 (by kernel_rfl) ?_
  refine WO.off (SA.O sameR sameT _ 11 _ (by kernel_rfl)) 36 (by kernel_rfl) ?_
  refine WO.off (SA.O sameR sameT _ 12 _ (by kernel_rfl)) 37 (by kernel_rfl) ?_
  refine WO.off (SA.O sameR sameT _ 13 _ (by kernel_rfl)) 38 (by kernel_rfl) ?_
  refine WO.off (SA.O sameR sameT _ 14 _ (by kernel_rfl)) 39 (by kernel_rfl) ?_
  refine WO.off (SA.O sameR sameT _ 15 _ (by kernel_rfl)) 40 (by kernel_rfl) ?_
  refine WO.off (SA.O sameR sameT _ 16 _ (by kernel_rfl)) 41 (by kernel_rfl) ?_
  refine WO.off (SA.O sameR sameT _ 17 _ (by kernel_rfl)) 42 (by kernel_rfl) ?_
  refine WO.one (SA.F sameR sameT _ 18 _ (by kernel_rfl)) 43 (.bool false) (by kernel_rfl) ?_
  refine WO.doneA (by kernel_rfl) ?_
  refine WQ.keep [0, 1, 4, 5, 6, 43] (e' := [(0, .pointer (some ⟨gj, 0, none⟩)), (1, .slice Ab nb cb), (4, .nilIface), (5, .int .i64 (firstN ps + (xs.length : Int))), (6, .int .i64 (ps.length : Int)), (43, .bool false)]) (by kernel_rfl) ?_
  refine WQ.thenN ?_
  refine WE.condF (by kernel_rfl) ?_
  refine WE.seq ?_
  refine WE.region ?_
  refine WO.run 1 0 [(52, .pointer (some ⟨gj, 0, none⟩))] (by kernel_rfl) (by kernel_rfl) ?_
  refine Sc H 53 (jsync_0 gj gd many Ap Al cp cl ps xs h0) [] [0, 0] ?_
  rintro ⟨⟩ w _ H
  refine WO.run 1 2 [(7, .nilIface)] (by kernel_rfl) (by kernel_rfl) ?_
  refine WO.done (by kernel_rfl) ?_
  refine WQ.keep [0, 1, 4, 5, 7] (e' := [(0, .pointer (some ⟨gj, 0, none⟩)), (1, .slice Ab nb cb), (4, .nilIface), (5, .int .i64 (firstN ps + (xs.length : Int))), (7, .nilIface)]) (by kernel_rfl) ?_
  refine WQ.thenN ?_
  refine WE.seq ?_
  refine WE.region ?_
  refine WO.run 2 0 [(55, .bool false), (54, .nilIface)] (by kernel_rfl) (by kernel_rfl) ?_
  refine WO.done (by kernel_rfl) ?_
  refine WQ.keep [0, 1, 4, 5, 7, 55] (e' := [(0, .pointer (some ⟨gj, 0, none⟩)), (1, .slice Ab nb cb), (4, .nilIface), (5, .int .i64 (firstN ps + (xs.length : Int))), (7, .nilIface), (55, .bool false)]) (by kernel_rfl) ?_
  refine WQ.thenN ?_
  refine WE.condF (by kernel_rfl) ?_
  refine WE.skip ?_
  refine WQ.thenN ?_
  refine WE.seq ?_
  refine WE.seq ?_
  obtain ⟨ho2, hl2⟩ : (d).Ok ∧ (d).l.length ≤ 1000000 := ⟨ho, hel⟩
  by_cases hz : (append d (firstN ps + (xs.length : Int)) (encT r)).1 = 0
  ·
   refine WE.draw [.free, .free, .free, .still, .free, .free, .effR, .effR, .eff, .free] (Kp [gj]) (kpR _) (by kernel_rfl) 10 (Array.replicate 10 false) (by kernel_rfl) rfl ?_
   intro w F_ _
   replace H := H.step0 F_
   refine WO.one (SA.F (kpR _) (kpT _) _ 0 _ (by kernel_rfl)) 57 (.pointer (some ⟨gj, 0, none⟩)) (by kernel_rfl) ?_
   refine WO.one (SA.F (kpR _) (kpT _) _ 1 _ (by kernel_rfl)) 58 (.pointer (some ⟨gj, 0, none⟩)) (by kernel_rfl) ?_
   refine WO.one (SA.F (kpR _) (kpT _) _ 2 _ (by kernel_rfl)) 59 (.pointer (some ⟨gj, 0, none⟩)) (by kernel_rfl) ?_
   refine WO.ld (SA.S (kpR _) (kpT _) _ 3 _ (by kernel_rfl)) 60 (.pointer (some ⟨gd, 0, none⟩)) (by kernel_rfl) (fun _ k_ => ((H.blk 0).kp k_ (by show gj ∈ ([gj] : List Nat); simp)).at 0 (by kernel_rfl)) ?_
   refine WO.one (SA.F (kpR _) (kpT _) _ 4 _ (by kernel_rfl)) 61 (.int .i64 (firstN ps + (xs.length : Int))) (by kernel_rfl) ?_
   refine WO.one (SA.F (kpR _) (kpT _) _ 5 _ (by kernel_rfl)) 62 (.slice Ab nb cb) (by kernel_rfl) ?_
   obtain ⟨F23, HV24⟩ := H.at 5 (rV cB 1 Ab r)
   refine WO.b2sE (v := .slice Ab nb cb) (SA.ER _ 6 _ (by kernel_rfl) rfl) 63 Wire.byt r (n := nb) hnb (by kernel_rfl) (VX.srcN HV24 hnb (cB_len _) (cB_one _) cb) (H.kpF [0]) ?_
   refine GcK (SA.ER _ 7 _ (by kernel_rfl) rfl) H 64 (text_ct r hro) [] [] [0] ?_
   rintro ⟨b25, cp26⟩ w hccp26 H
   refine Gc (SA.E _ 8 _ (by kernel_rfl) rfl) H 65 (dapp_ct gd d (firstN ps + (xs.length : Int)) (some ⟨b25, 0, none⟩) (encT r).length cp26 (encT r) ho2 (by omega) rfl (by omega) hl2) [5] [0] (fun _ => trivial) ?_
   rintro ⟨⟩ w _ H
   refine WO.top (v' := .nilIface) (by rw [hz]; rfl) ?_
   refine WO.one (SA.F (kpR _) (kpT _) _ 9 _ (by kernel_rfl)) 8 (.nilIface) (by kernel_rfl) ?_
   refine WO.doneA (by kernel_rfl) ?_
   refine WQ.keep [0, 1, 4, 5, 8] (e' := [(0, .pointer (some ⟨gj, 0, none⟩)), (1, .slice Ab nb cb), (4, .nilIface), (5, .int .i64 (firstN ps + (xs.length : Int))), (8, .nilIface)]) (by kernel_rfl) ?_
   refine WQ.thenN ?_
   refine WE.seq ?_
   refine WE.region ?_
   refine WO.run 2 0 [(67, .bool false), (66, .nilIface)] (by kernel_rfl) (by kernel_rfl) ?_
   refine WO.done (by kernel_rfl) ?_
   refine WQ.keep [0, 1, 4, 5, 8, 67] (e' := [(0, .pointer (some ⟨gj, 0, none⟩)), (1, .slice Ab nb cb), (4, .nilIface), (5, .int .i64 (firstN ps + (xs.length : Int))), (8, .nilIface), (67, .bool false)]) (by kernel_rfl) ?_
   refine WQ.thenN ?_
   refine WE.condF (by kernel_rfl) ?_
   refine WE.skip ?_
   refine WQ.thenN ?_
   refine WE.seq ?_
   refine WE.seq ?_
   refine WE.region ?_
   refine WO.run 3 0 [(71, .pointer (some ⟨gj, 2, none⟩)), (70, .pointer (some ⟨gj, 0, none⟩)), (69, .pointer (some ⟨gj, 0, none⟩))] (by kernel_rfl) (by kernel_rfl) ?_
   refine WO.ld (SQ.S 3 (by kernel_rfl)) 72 (.slice Ap ps.length cp) (by kernel_rfl) (H.cell 2 2) ?_
   refine WO.run 1 4 [(73, .int .i64 (firstN ps + (xs.length : Int)))] (by kernel_rfl) (by kernel_rfl) ?_
   refine Sc H 74 (contains_c Ap cp ps (firstN ps + (xs.length : Int)) hlp) [] [3] ?_
   rintro ⟨⟩ w _ H
   refine WO.one (SQ.F 6 (by kernel_rfl)) 75 (.bool (!(ps.contains (firstN ps + (xs.length : Int))))) (by kernel_rfl) ?_
   refine WO.topNB ((ps.contains (firstN ps + (xs.length : Int)))) ?_ ?_
   ·
    intro h27
    refine WO.done (by kernel_rfl) ?_
    refine WQ.keep [0, 1, 4, 5, 75] (e' := [(0, .pointer (some ⟨gj, 0, none⟩)), (1, .slice Ab nb cb), (4, .nilIface), (5, .int .i64 (firstN ps + (xs.length : Int))), (75, .bool false)]) (by kernel_rfl) ?_
    refine WQ.thenN ?_
    refine WE.condF (by kernel_rfl) ?_
    refine WE.skip ?_
    refine WQ.thenN ?_
    refine WE.seq ?_
    refine WE.draw [.free, .free, .free, .free, .still, .free, .effR, .effR, .eff, .free, .free, .eff] (Kp [gj]) (kpR _) (by kernel_rfl) 12 (Array.replicate 12 false) (by kernel_rfl) rfl ?_
    intro w F_ _
    replace H := H.step0 F_
    refine WO.one (SA.F (kpR _) (kpT _) _ 0 _ (by kernel_rfl)) 86 (.pointer (some ⟨gj, 0, none⟩)) (by kernel_rfl) ?_
    refine WO.one (SA.F (kpR _) (kpT _) _ 1 _ (by kernel_rfl)) 87 (.pointer (some ⟨gj, 0, none⟩)) (by kernel_rfl) ?_
    refine WO.one (SA.F (kpR _) (kpT _) _ 2 _ (by kernel_rfl)) 88 (.pointer (some ⟨gj, 0, none⟩)) (by kernel_rfl) ?_
    refine WO.one (SA.F (kpR _) (kpT _) _ 3 _ (by kernel_rfl)) 89 (.pointer (some ⟨gj, 3, none⟩)) (by kernel_rfl) ?_
    refine WO.ld (SA.S (kpR _) (kpT _) _ 4 _ (by kernel_rfl)) 90 (.slice Al xs.length cl) (by kernel_rfl) (fun _ k_ => ((H.blk 2).kp k_ (by show gj ∈ ([gj] : List Nat); simp)).at 3 (by kernel_rfl)) ?_
    refine WO.one (SA.F (kpR _) (kpT _) _ 5 _ (by kernel_rfl)) 91 (.slice Ab nb cb) (by kernel_rfl) ?_
    refine GcK (SA.ER _ 6 _ (by kernel_rfl) rfl) H 92 (clone_c Ab nb cb r hnb (by omega) (by omega)) [] [6] [2] ?_
    rintro ⟨A2, c2⟩ w hc2 H
    refine Gb (SA.ER _ 7 _ (by kernel_rfl) rfl) H 93 #[.slice A2 nb c2] 69 (fun g => .slice (some ⟨g, 0, none⟩) 1 1) (H.kpF [3]) ?_
    intro g28 w H
    refine Gay (SA.E _ 8 _ (by kernel_rfl) rfl) H 6 94 (A := Al) (c := cl) (xv := .slice (some ⟨g28, 0, none⟩) 1 1) (n := xs.length) (m := 1) et_r (List.map cR xs) (List.map cR ([((A2, nb, c2) : RX)])) ((List.length_map _).trans ((rfl : xs.length = _))) (by rw [List.length_map] <;> first | rfl | omega | (simp <;> omega)) (by omega) (RowB.src (RowB.of_blk (n := 1) (H.blk 0) (List.map cR [((A2, nb, c2) : RX)]) rfl rfl (cR_len _) (cR_one _) (by omega))) (cR_len _) (cR_one _) (by omega) (by omega) (fun _ => trivial) ?_
    intro A29 cap30 w hccap30 H
    rw [← List.map_append] at H
    refine WO.one (SA.F (kpR _) (kpT _) _ 9 _ (by kernel_rfl)) 95 (.pointer (some ⟨gj, 0, none⟩)) (by kernel_rfl) ?_
    refine WO.one (SA.F (kpR _) (kpT _) _ 10 _ (by kernel_rfl)) 96 (.pointer (some ⟨gj, 3, none⟩)) (by kernel_rfl) ?_
    refine Gs (SA.E _ 11 _ (by kernel_rfl) rfl) H 5 3 #[.pointer (some ⟨gd, 0, none⟩), .int .i64 many, .slice Ap ps.length cp, .slice A29 (xs.length + 1) cap30] (fun _ _ => trivial) ?_
    intro w H
    refine WO.doneA (by kernel_rfl) ?_
    refine WQ.keep [4] (e' := [(4, .nilIface)]) (by kernel_rfl) ?_
    refine WQ.thenN ?_
    refine WE.seq ?_
    refine WE.region ?_
    refine WO.run 1 0 [(4, .nilIface)] (by kernel_rfl) (by kernel_rfl) ?_
    refine WO.done (by kernel_rfl) ?_
    refine WQ.keep [4] (e' := [(4, .nilIface)]) (by kernel_rfl) ?_
    refine WQ.thenN ?_
    refine WE.ret ?_
    refine WQ.ret (v := .nilIface) (by kernel_rfl) ?_
    replace H := H.conv [3] (Ent.yv cB 5 1 A2 nb c2 r)
    replace H := H.conv [7, 0] (Ent.epush xs rs A2 r nb c2 hnb.symm (by omega))
    rw [show xs.length + 1 = (xs ++ [((A2, nb, c2) : RX)]).length by simp] at H
    replace H := H.close [1, 5, 1, 0] (jp ps (rs ++ [r])) (jq gj gd many ps (rs ++ [r])) (Ap, cp, A29, cap30, (xs ++ [((A2, nb, c2) : RX)])) (⟨by simp <;> omega, by simp <;> omega, by simp [hxr]⟩)
    rw [show jApp many r ps rs d = (0, ps, (rs ++ [r]), (append d (firstN ps + (xs.length : Int)) (encT r)).2) from by first | exact jApp_z0 hxr (by omega) hz (by first | assumption | (simpa using by assumption))]
    exact H.leaf () [0, 1] trivial
   intro h27
   refine WO.done (by kernel_rfl) ?_
   refine WQ.keep [0, 1, 4, 5, 75] (e' := [(0, .pointer (some ⟨gj, 0, none⟩)), (1, .slice Ab nb cb), (4, .nilIface), (5, .int .i64 (firstN ps + (xs.length : Int))), (75, .bool true)]) (by kernel_rfl) ?_
   refine WQ.thenN ?_
   refine WE.condT (by kernel_rfl) ?_
   refine WE.region ?_
   refine WO.run 4 0 [(79, .pointer (some ⟨gj, 2, none⟩)), (78, .pointer (some ⟨gj, 0, none⟩)), (77, .pointer (some ⟨gj, 0, none⟩)), (76, .pointer (some ⟨gj, 0, none⟩))] (by kernel_rfl) (by kernel_rfl) ?_
   refine WO.ld (SQ.S 4 (by kernel_rfl)) 80 (.slice Ap ps.length cp) (by kernel_rfl) (H.cell 2 2) ?_
   refine WO.run 1 5 [(81, .int .i64 (firstN ps + (xs.length : Int)))] (by kernel_rfl) (by kernel_rfl) ?_
   refine Sb H 82 #[.int .i64 (firstN ps + (xs.length : Int))] 3 (fun g => .slice (some ⟨g, 0, none⟩) 1 1) ?_
   intro g31 w H
   refine Gay (SQ.E 7 (by kernel_rfl)) H 4 83 (A := Ap) (c := cp) (xv := .slice (some ⟨g31, 0, none⟩) 1 1) (n := ps.length) (m := 1) et_i (List.map cI ps) (List.map cI ([(firstN ps + (xs.length : Int))])) ((List.length_map _).trans ((rfl : ps.length = _))) (by rw [List.length_map] <;> first | rfl | omega | (simp <;> omega)) (by omega) (RowB.src (RowB.of_blk (n := 1) (H.blk 0) (List.map cI [(firstN ps + (xs.length : Int))]) rfl rfl (cI_len _) (cI_one _) (by omega))) (cI_len _) (cI_one _) (by omega) (by omega) (fun _ => trivial) ?_
   intro A32 cap33 w hccap33 H
   rw [← List.map_append] at H
   refine WO.run 2 8 [(85, .pointer (some ⟨gj, 2, none⟩)), (84, .pointer (some ⟨gj, 0, none⟩))] (by kernel_rfl) (by kernel_rfl) ?_
   refine Ss H 4 2 #[.pointer (some ⟨gd, 0, none⟩), .int .i64 many, .slice A32 (ps.length + 1) cap33, .slice Al xs.length cl] ?_
   intro w H
   refine WO.done (by kernel_rfl) ?_
   refine WQ.keep [0, 1, 4] (e' := [(0, .pointer (some ⟨gj, 0, none⟩)), (1, .slice Ab nb cb), (4, .nilIface)]) (by kernel_rfl) ?_
   refine WQ.thenN ?_
   refine WE.seq ?_
   refine WE.draw [.free, .free, .free, .free, .still, .free, .effR, .effR, .eff, .free, .free, .eff] (Kp [gj]) (kpR _) (by kernel_rfl) 12 (Array.replicate 12 false) (by kernel_rfl) rfl ?_
   intro w F_ _
   replace H := H.step0 F_
   refine WO.one (SA.F (kpR _) (kpT _) _ 0 _ (by kernel_rfl)) 86 (.pointer (some ⟨gj, 0, none⟩)) (by kernel_rfl) ?_
   refine WO.one (SA.F (kpR _) (kpT _) _ 1 _ (by kernel_rfl)) 87 (.pointer (some ⟨gj, 0, none⟩)) (by kernel_rfl) ?_
   refine WO.one (SA.F (kpR _) (kpT _) _ 2 _ (by kernel_rfl)) 88 (.pointer (some ⟨gj, 0, none⟩)) (by kernel_rfl) ?_
   refine WO.one (SA.F (kpR _) (kpT _) _ 3 _ (by kernel_rfl)) 89 (.pointer (some ⟨gj, 3, none⟩)) (by kernel_rfl) ?_
   refine WO.ld (SA.S (kpR _) (kpT _) _ 4 _ (by kernel_rfl)) 90 (.slice Al xs.length cl) (by kernel_rfl) (fun _ k_ => ((H.blk 0).kp k_ (by show gj ∈ ([gj] : List Nat); simp)).at 3 (by kernel_rfl)) ?_
   refine WO.one (SA.F (kpR _) (kpT _) _ 5 _ (by kernel_rfl)) 91 (.slice Ab nb cb) (by kernel_rfl) ?_
   refine GcK (SA.ER _ 6 _ (by kernel_rfl) rfl) H 92 (clone_c Ab nb cb r hnb (by omega) (by omega)) [] [7] [0] ?_
   rintro ⟨A2, c2⟩ w hc2 H
   refine Gb (SA.ER _ 7 _ (by kernel_rfl) rfl) H 93 #[.slice A2 nb c2] 69 (fun g => .slice (some ⟨g, 0, none⟩) 1 1) (H.kpF [1]) ?_
   intro g34 w H
   refine Gay (SA.E _ 8 _ (by kernel_rfl) rfl) H 7 94 (A := Al) (c := cl) (xv := .slice (some ⟨g34, 0, none⟩) 1 1) (n := xs.length) (m := 1) et_r (List.map cR xs) (List.map cR ([((A2, nb, c2) : RX)])) ((List.length_map _).trans ((rfl : xs.length = _))) (by rw [List.length_map] <;> first | rfl | omega | (simp <;> omega)) (by omega) (RowB.src (RowB.of_blk (n := 1) (H.blk 0) (List.map cR [((A2, nb, c2) : RX)]) rfl rfl (cR_len _) (cR_one _) (by omega))) (cR_len _) (cR_one _) (by omega) (by omega) (fun _ => trivial) ?_
   intro A35 cap36 w hccap36 H
   rw [← List.map_append] at H
   refine WO.one (SA.F (kpR _) (kpT _) _ 9 _ (by kernel_rfl)) 95 (.pointer (some ⟨gj, 0, none⟩)) (by kernel_rfl) ?_
   refine WO.one (SA.F (kpR _) (kpT _) _ 10 _ (by kernel_rfl)) 96 (.pointer (some ⟨gj, 3, none⟩)) (by kernel_rfl) ?_
   refine Gs (SA.E _ 11 _ (by kernel_rfl) rfl) H 3 3 #[.pointer (some ⟨gd, 0, none⟩), .int .i64 many, .slice A32 (ps.length + 1) cap33, .slice A35 (xs.length + 1) cap36] (fun _ _ => trivial) ?_
   intro w H
   refine WO.doneA (by kernel_rfl) ?_
   refine WQ.keep [4] (e' := [(4, .nilIface)]) (by kernel_rfl) ?_
   refine WQ.thenN ?_
   refine WE.seq ?_
   refine WE.region ?_
   refine WO.run 1 0 [(4, .nilIface)] (by kernel_rfl) (by kernel_rfl) ?_
   refine WO.done (by kernel_rfl) ?_
   refine WQ.keep [4] (e' := [(4, .nilIface)]) (by kernel_rfl) ?_
   refine WQ.thenN ?_
   refine WE.ret ?_
   refine WQ.ret (v := .nilIface) (by kernel_rfl) ?_
   replace H := H.conv [3] (Ent.yv cB 5 1 A2 nb c2 r)
   replace H := H.conv [8, 0] (Ent.epush xs rs A2 r nb c2 hnb.symm (by omega))
   rw [show xs.length + 1 = (xs ++ [((A2, nb, c2) : RX)]).length by simp] at H
   rw [show ps.length + 1 = (ps ++ [firstN ps + (xs.length : Int)]).length by simp] at H
   replace H := H.close [1, 3, 1, 0] (jp (ps ++ [firstN ps + (xs.length : Int)]) (rs ++ [r])) (jq gj gd many (ps ++ [firstN ps + (xs.length : Int)]) (rs ++ [r])) (A32, cap33, A35, cap36, (xs ++ [((A2, nb, c2) : RX)])) (⟨by simp <;> omega, by simp <;> omega, by simp [hxr]⟩)
   rw [show jApp many r ps rs d = (0, (ps ++ [firstN ps + (xs.length : Int)]), (rs ++ [r]), (append d (firstN ps + (xs.length : Int)) (encT r)).2) from by first | exact jApp_z1 hxr (by omega) hz (by first | assumption | (simpa using by assumption))]
   exact H.leaf () [0, 2] trivial
  refine WE.draw [.free, .free, .free, .still, .free, .free, .effR, .effR, .eff, .free] (Kp [gj]) (kpR _) (by kernel_rfl) 10 (Array.replicate 10 false) (by kernel_rfl) rfl ?_
  intro w F_ _
  replace H := H.step0 F_
  refine WO.one (SA.F (kpR _) (kpT _) _ 0 _ (by kernel_rfl)) 57 (.pointer (some ⟨gj, 0, none⟩)) (by kernel_rfl) ?_
  refine WO.one (SA.F (kpR _) (kpT _) _ 1 _ (by kernel_rfl)) 58 (.pointer (some ⟨gj, 0, none⟩)) (by kernel_rfl) ?_
  refine WO.one (SA.F (kpR _) (kpT _) _ 2 _ (by kernel_rfl)) 59 (.pointer (some ⟨gj, 0, none⟩)) (by kernel_rfl) ?_
  refine WO.ld (SA.S (kpR _) (kpT _) _ 3 _ (by kernel_rfl)) 60 (.pointer (some ⟨gd, 0, none⟩)) (by kernel_rfl) (fun _ k_ => ((H.blk 0).kp k_ (by show gj ∈ ([gj] : List Nat); simp)).at 0 (by kernel_rfl)) ?_
  refine WO.one (SA.F (kpR _) (kpT _) _ 4 _ (by kernel_rfl)) 61 (.int .i64 (firstN ps + (xs.length : Int))) (by kernel_rfl) ?_
  refine WO.one (SA.F (kpR _) (kpT _) _ 5 _ (by kernel_rfl)) 62 (.slice Ab nb cb) (by kernel_rfl) ?_
  obtain ⟨F37, HV38⟩ := H.at 5 (rV cB 1 Ab r)
  refine WO.b2sE (v := .slice Ab nb cb) (SA.ER _ 6 _ (by kernel_rfl) rfl) 63 Wire.byt r (n := nb) hnb (by kernel_rfl) (VX.srcN HV38 hnb (cB_len _) (cB_one _) cb) (H.kpF [0]) ?_
  refine GcK (SA.ER _ 7 _ (by kernel_rfl) rfl) H 64 (text_ct r hro) [] [] [0] ?_
  rintro ⟨b39, cp40⟩ w hccp40 H
  refine Gc (SA.E _ 8 _ (by kernel_rfl) rfl) H 65 (dapp_ct gd d (firstN ps + (xs.length : Int)) (some ⟨b39, 0, none⟩) (encT r).length cp40 (encT r) ho2 (by omega) rfl (by omega) hl2) [5] [0] (fun _ => trivial) ?_
  rintro ⟨⟩ w _ H
  refine WO.top (v' := .iface 88 (.int .i64 ((append d (firstN ps + (xs.length : Int)) (encT r)).1))) (codeV_ne hz) ?_
  refine WO.one (SA.F (kpR _) (kpT _) _ 9 _ (by kernel_rfl)) 8 (.iface 88 (.int .i64 ((append d (firstN ps + (xs.length : Int)) (encT r)).1))) (by kernel_rfl) ?_
  refine WO.doneA (by kernel_rfl) ?_
  refine WQ.keep [0, 1, 4, 5, 8] (e' := [(0, .pointer (some ⟨gj, 0, none⟩)), (1, .slice Ab nb cb), (4, .nilIface), (5, .int .i64 (firstN ps + (xs.length : Int))), (8, .iface 88 (.int .i64 ((append d (firstN ps + (xs.length : Int)) (encT r)).1)))]) (by kernel_rfl) ?_
  refine WQ.thenN ?_
  refine WE.seq ?_
  refine WE.region ?_
  refine WO.run 2 0 [(67, .bool true), (66, .iface 88 (.int .i64 ((append d (firstN ps + (xs.length : Int)) (encT r)).1)))] (by kernel_rfl) (by kernel_rfl) ?_
  refine WO.done (by kernel_rfl) ?_
  refine WQ.keep [0, 1, 4, 5, 8, 67] (e' := [(0, .pointer (some ⟨gj, 0, none⟩)), (1, .slice Ab nb cb), (4, .nilIface), (5, .int .i64 (firstN ps + (xs.length : Int))), (8, .iface 88 (.int .i64 ((append d (firstN ps + (xs.length : Int)) (encT r)).1))), (67, .bool true)]) (by kernel_rfl) ?_
  refine WQ.thenN ?_
  refine WE.condT (by kernel_rfl) ?_
  refine WE.seq ?_
  refine WE.region ?_
  refine WO.run 2 0 [(4, .iface 88 (.int .i64 ((append d (firstN ps + (xs.length : Int)) (encT r)).1))), (68, .iface 88 (.int .i64 ((append d (firstN ps + (xs.length : Int)) (encT r)).1)))] (by kernel_rfl) (by kernel_rfl) ?_
  refine WO.done (by kernel_rfl) ?_
  refine WQ.keep [0, 1, 4, 5] (e' := [(0, .pointer (some ⟨gj, 0, none⟩)), (1, .slice Ab nb cb), (4, .iface 88 (.int .i64 ((append d (firstN ps + (xs.length : Int)) (encT r)).1))), (5, .int .i64 (firstN ps + (xs.length : Int)))]) (by kernel_rfl) ?_
  refine WQ.thenN ?_
  refine WE.ret ?_
  refine WQ.thenR ?_
  refine WQ.ret (v := .iface 88 (.int .i64 ((append d (firstN ps + (xs.length : Int)) (encT r)).1))) (by kernel_rfl) ?_
  replace H := H.close [2, 2, 2, 2] (jp ps rs) (jq gj gd many ps rs) (Ap, cp, Al, cl, xs) (⟨by simp <;> omega, by simp <;> omega, by simp [hxr]⟩)
  rw [show jApp many r ps rs d = ((append d (firstN ps + (xs.length : Int)) (encT r)).1, ps, rs, (append d (firstN ps + (xs.length : Int)) (encT r)).2) from by first | exact jApp_zx hxr (by omega) hz (by first | assumption | (simpa using by assumption))]
  exact H.leaf () [0, 0] trivial (he := congrArg Ending.returned (codeV_ne hz).symm)
 have hg1 := hg (by omega)
 refine WE.draw [.free, .free, .free, .free, .free, .free, .free, .still, .free, .free, .free, .still, .free, .free, .free, .free, .still, .free, .free] Same sameR (by kernel_rfl) 19 (Array.replicate 19 false) (by kernel_rfl) rfl ?_
 intro w F_ _
 replace H := H.step0 F_
 refine WO.one (SA.F sameR sameT _ 0 _ (by kernel_rfl)) 25 (.int .i64 (ps.length : Int)) (by kernel_rfl) ?_
 refine WO.one (SA.F sameR sameT _ 1 _ (by kernel_rfl)) 26 (.bool (decide (((ps.length : Int) : Int) > (0 : Int)))) (by kernel_rfl) ?_
 refine WO.topPT (((ps.length : Int) : Int) > (0 : Int)) (by omega) ?_
 refine WO.one (SA.F sameR sameT _ 2 _ (by kernel_rfl)) 27 (.bool true) (by kernel_rfl) ?_
 refine WO.one (SA.F sameR sameT _ 3 _ (by kernel_rfl)) 28 (.int .i64 (firstN ps + (xs.length : Int))) (by kernel_rfl) ?_
 refine WO.one (SA.F sameR sameT _ 4 _ (by kernel_rfl)) 29 (.pointer (some ⟨gj, 0, none⟩)) (by kernel_rfl) ?_
 refine WO.one (SA.F sameR sameT _ 5 _ (by kernel_rfl)) 30 (.pointer (some ⟨gj, 0, none⟩)) (by kernel_rfl) ?_
 refine WO.one (SA.F sameR sameT _ 6 _ (by kernel_rfl)) 31 (.pointer (some ⟨gj, 2, none⟩)) (by kernel_rfl) ?_
 refine WO.ld (SA.S sameR sameT _ 7 _ (by kernel_rfl)) 32 (.slice Ap ps.length cp) (by kernel_rfl) (H.cell 0 2) ?_
 refine WO.one (SA.F sameR sameT _ 8 _ (by kernel_rfl)) 33 (.int .i64 (ps.length : Int)) (by kernel_rfl) ?_
 refine WO.one (SA.F sameR sameT _ 9 _ (by kernel_rfl)) 34 (.int .i64 (IntKind.i64.wrap ((ps.length : Int) - 1))) (by kernel_rfl) ?_
 refine WO.top (v' := .int .i64 ((ps.length - 1 : Nat) : Int)) (wrap_i64 (by omega) (by omega)) ?_
 obtain ⟨ad41, hA42⟩ := H.yaddr 1 cI 3 1 Ap ps.length cp ps (k := ps.length - 1) (by have := (rfl : ps.length = _); omega)
 refine WO.ixo (SA.F sameR sameT _ 10 _ (by kernel_rfl)) 35 ps.length 1 (ps.length - 1) ((ps.length - 1 : Nat) : Int) hA42 (by kernel_rfl) rfl (by omega) ?_
 refine WO.ld (SA.S sameR sameT _ 11 _ (by kernel_rfl)) 36 (.int .i64 (g0 ps (ps.length - 1))) (by kernel_rfl) (H.ycell0 1 cI 3 1 Ap ps.length cp ps hA42 (g0_some ps (ps.length - 1) (by have := (rfl : ps.length = _); omega))) ?_
 refine WO.one (SA.F sameR sameT _ 12 _ (by kernel_rfl)) 37 (.int .i64 (IntKind.i64.wrap ((firstN ps + (xs.length : Int)) - (g0 ps (ps.length - 1))))) (by kernel_rfl) ?_
 refine WO.top (v' := .int .i64 ((firstN ps + (xs.length : Int)) - (g0 ps (ps.length - 1)))) (wrap_i64 (by omega) (by omega)) ?_
 refine WO.one (SA.F sameR sameT _ 13 _ (by kernel_rfl)) 38 (.pointer (some ⟨gj, 0, none⟩)) (by kernel_rfl) ?_
 refine WO.one (SA.F sameR sameT _ 14 _ (by kernel_rfl)) 39 (.pointer (some ⟨gj, 0, none⟩)) (by kernel_rfl) ?_
 refine WO.one (SA.F sameR sameT _ 15 _ (by kernel_rfl)) 40 (.pointer (some ⟨gj, 1, none⟩)) (by kernel_rfl) ?_
 refine WO.ld (SA.S sameR sameT _ 16 _ (by kernel_rfl)) 41 (.int .i64 many) (by kernel_rfl) (H.cell 0 1) ?_
 refine WO.one (SA.F sameR sameT _ 17 _ (by kernel_rfl)) 42 (.bool (decide (((firstN ps + (xs.length : Int)) - (g0 ps (ps.length - 1)) : Int) < many))) (by kernel_rfl) ?_
 refine WO.topPF (((firstN ps + (xs.length : Int)) - (g0 ps (ps.length - 1)) : Int) < many) (by omega) ?_
 refine WO.one (SA.F sameR sameT _ 18 _ (by kernel_rfl)) 43 (.bool false) (by kernel_rfl) ?_
 refine WO.doneA (by kernel_rfl) ?_
 refine WQ.keep [0, 1, 4, 5, 6, 43] (e' := [(0, .pointer (some ⟨gj, 0, none⟩)), (1, .slice Ab nb cb), (4, .nilIface), (5, .int .i64 (firstN ps + (xs.length : Int))), (6, .int .i64 (ps.length : Int)), (43, .bool false)]) (by kernel_rfl) ?_
 refine WQ.thenN ?_
 refine WE.condF (by kernel_rfl) ?_
 refine WE.seq ?_
 refine WE.region ?_
 refine WO.run 1 0 [(52, .pointer (some ⟨gj, 0, none⟩))] (by kernel_rfl) (by kernel_rfl) ?_
 refine Sc H 53 (jsync_n gj gd many Ap Al cp cl ps xs hlp hll d (by omega) ho (by omega)) [4] [0, 0] ?_
 rintro ⟨⟩ w _ H
 refine WO.top (v' := .nilIface) (by rw [hs (by omega)]; rfl) ?_
 refine WO.run 1 2 [(7, .nilIface)] (by kernel_rfl) (by kernel_rfl) ?_
 refine WO.done (by kernel_rfl) ?_
 refine WQ.keep [0, 1, 4, 5, 7] (e' := [(0, .pointer (some ⟨gj, 0, none⟩)), (1, .slice Ab nb cb), (4, .nilIface), (5, .int .i64 (firstN ps + (xs.length : Int))), (7, .nilIface)]) (by kernel_rfl) ?_
 refine WQ.thenN ?_
 refine WE.seq ?_
 refine WE.region ?_
 refine WO.run 2 0 [(55, .bool false), (54, .nilIface)] (by kernel_rfl) (by kernel_rfl) ?_
 refine WO.done (by kernel_rfl) ?_
 refine WQ.keep [0, 1, 4, 5, 7, 55] (e' := [(0, .pointer (some ⟨gj, 0, none⟩)), (1, .slice Ab nb cb), (4, .nilIface), (5, .int .i64 (firstN ps + (xs.length : Int))), (7, .nilIface), (55, .bool false)]) (by kernel_rfl) ?_
 refine WQ.thenN ?_
 refine WE.condF (by kernel_rfl) ?_
 refine WE.skip ?_
 refine WQ.thenN ?_
 refine WE.seq ?_
 refine WE.seq ?_
 obtain ⟨ho2, hl2⟩ : ((sync d (g0 ps (ps.length - 1))).2).Ok ∧ ((sync d (g0 ps (ps.length - 1))).2).l.length ≤ 1000000 := ⟨sync_ok ho _, by rw [sync_len]; exact hel⟩
 by_cases hz : (append ((sync d (g0 ps (ps.length - 1))).2) (firstN ps + (xs.length : Int)) (encT r)).1 = 0
 ·
  refine WE.draw [.free, .free, .free, .still, .free, .free, .effR, .effR, .eff, .free] (Kp [gj]) (kpR _) (by kernel_rfl) 10 (Array.replicate 10 false) (by kernel_rfl) rfl ?_
  intro w F_ _
  replace H := H.step0 F_
  refine WO.one (SA.F (kpR _) (kpT _) _ 0 _ (by kernel_rfl)) 57 (.pointer (some ⟨gj, 0, none⟩)) (by kernel_rfl) ?_
  refine WO.one (SA.F (kpR _) (kpT _) _ 1 _ (by kernel_rfl)) 58 (.pointer (some ⟨gj, 0, none⟩)) (by kernel_rfl) ?_
  refine WO.one (SA.F (kpR _) (kpT _) _ 2 _ (by kernel_rfl)) 59 (.pointer (some ⟨gj, 0, none⟩)) (by kernel_rfl) ?_
  refine WO.ld (SA.S (kpR _) (kpT _) _ 3 _ (by kernel_rfl)) 60 (.pointer (some ⟨gd, 0, none⟩)) (by kernel_rfl) (fun _ k_ => ((H.blk 1).kp k_ (by show gj ∈ ([gj] : List Nat); simp)).at 0 (by kernel_rfl)) ?_
  refine WO.one (SA.F (kpR _) (kpT _) _ 4 _ (by kernel_rfl)) 61 (.int .i64 (firstN ps + (xs.length : Int))) (by kernel_rfl) ?_
  refine WO.one (SA.F (kpR _) (kpT _) _ 5 _ (by kernel_rfl)) 62 (.slice Ab nb cb) (by kernel_rfl) ?_
  obtain ⟨F43, HV44⟩ := H.at 5 (rV cB 1 Ab r)
  refine WO.b2sE (v := .slice Ab nb cb) (SA.ER _ 6 _ (by kernel_rfl) rfl) 63 Wire.byt r (n := nb) hnb (by kernel_rfl) (VX.srcN HV44 hnb (cB_len _) (cB_one _) cb) (H.kpF [1]) ?_
  refine GcK (SA.ER _ 7 _ (by kernel_rfl) rfl) H 64 (text_ct r hro) [] [] [1] ?_
  rintro ⟨b45, cp46⟩ w hccp46 H
  refine Gc (SA.E _ 8 _ (by kernel_rfl) rfl) H 65 (dapp_ct gd ((sync d (g0 ps (ps.length - 1))).2) (firstN ps + (xs.length : Int)) (some ⟨b45, 0, none⟩) (encT r).length cp46 (encT r) ho2 (by omega) rfl (by omega) hl2) [1] [0] (fun _ => trivial) ?_
  rintro ⟨⟩ w _ H
  refine WO.top (v' := .nilIface) (by rw [hz]; rfl) ?_
  refine WO.one (SA.F (kpR _) (kpT _) _ 9 _ (by kernel_rfl)) 8 (.nilIface) (by kernel_rfl) ?_
  refine WO.doneA (by kernel_rfl) ?_
  refine WQ.keep [0, 1, 4, 5, 8] (e' := [(0, .pointer (some ⟨gj, 0, none⟩)), (1, .slice Ab nb cb), (4, .nilIface), (5, .int .i64 (firstN ps + (xs.length : Int))), (8, .nilIface)]) (by kernel_rfl) ?_
  refine WQ.thenN ?_
  refine WE.seq ?_
  refine WE.region ?_
  refine WO.run 2 0 [(67, .bool false), (66, .nilIface)] (by kernel_rfl) (by kernel_rfl) ?_
  refine WO.done (by kernel_rfl) ?_
  refine WQ.keep [0, 1, 4, 5, 8, 67] (e' := [(0, .pointer (some ⟨gj, 0, none⟩)), (1, .slice Ab nb cb), (4, .nilIface), (5, .int .i64 (firstN ps + (xs.length : Int))), (8, .nilIface), (67, .bool false)]) (by kernel_rfl) ?_
  refine WQ.thenN ?_
  refine WE.condF (by kernel_rfl) ?_
  refine WE.skip ?_
  refine WQ.thenN ?_
  refine WE.seq ?_
  refine WE.seq ?_
  refine WE.region ?_
  refine WO.run 3 0 [(71, .pointer (some ⟨gj, 2, none⟩)), (70, .pointer (some ⟨gj, 0, none⟩)), (69, .pointer (some ⟨gj, 0, none⟩))] (by kernel_rfl) (by kernel_rfl) ?_
  refine WO.ld (SQ.S 3 (by kernel_rfl)) 72 (.slice Ap ps.length cp) (by kernel_rfl) (H.cell 2 2) ?_
  refine WO.run 1 4 [(73, .int .i64 (firstN ps + (xs.length : Int)))] (by kernel_rfl) (by kernel_rfl) ?_
  refine Sc H 74 (contains_c Ap cp ps (firstN ps + (xs.length : Int)) hlp) [] [3] ?_
  rintro ⟨⟩ w _ H
  refine WO.one (SQ.F 6 (by kernel_rfl)) 75 (.bool (!(ps.contains (firstN ps + (xs.length : Int))))) (by kernel_rfl) ?_
  refine WO.topNB ((ps.contains (firstN ps + (xs.length : Int)))) ?_ ?_
  ·
   intro h47
   refine WO.done (by kernel_rfl) ?_
   refine WQ.keep [0, 1, 4, 5, 75] (e' := [(0, .pointer (some ⟨gj, 0, none⟩)), (1, .slice Ab nb cb), (4, .nilIface), (5, .int .i64 (firstN ps + (xs.length : Int))), (75, .bool false)]) (by kernel_rfl) ?_
   refine WQ.thenN ?_
   refine WE.condF (by kernel_rfl) ?_
   refine WE.skip ?_
   refine WQ.thenN ?_
   refine WE.seq ?_
   refine WE.draw [.free, .free, .free, .free, .still, .free, .effR, .effR, .eff, .free, .free, .eff] (Kp [gj]) (kpR _) (by kernel_rfl) 12 (Array.replicate 12 false) (by kernel_rfl) rfl ?_
   intro w F_ _
   replace H := H.step0 F_
   refine WO.one (SA.F (kpR _) (kpT _) _ 0 _ (by kernel_rfl)) 86 (.pointer (some ⟨gj, 0, none⟩)) (by kernel_rfl) ?_
   refine WO.one (SA.F (kpR _) (kpT _) _ 1 _ (by kernel_rfl)) 87 (.pointer (some ⟨gj, 0, none⟩)) (by kernel_rfl) ?_
   refine WO.one (SA.F (kpR _) (kpT _) _ 2 _ (by kernel_rfl)) 88 (.pointer (some ⟨gj, 0, none⟩)) (by kernel_rfl) ?_
   refine WO.one (SA.F (kpR _) (kpT _) _ 3 _ (by kernel_rfl)) 89 (.pointer (some ⟨gj, 3, none⟩)) (by kernel_rfl) ?_
   refine WO.ld (SA.S (kpR _) (kpT _) _ 4 _ (by kernel_rfl)) 90 (.slice Al xs.length cl) (by kernel_rfl) (fun _ k_ => ((H.blk 2).kp k_ (by show gj ∈ ([gj] : List Nat); simp)).at 3 (by kernel_rfl)) ?_
   refine WO.one (SA.F (kpR _) (kpT _) _ 5 _ (by kernel_rfl)) 91 (.slice Ab nb cb) (by kernel_rfl) ?_
   refine GcK (SA.ER _ 6 _ (by kernel_rfl) rfl) H 92 (clone_c Ab nb cb r hnb (by omega) (by omega)) [] [6] [2] ?_
   rintro ⟨A2, c2⟩ w hc2 H
   refine Gb (SA.ER _ 7 _ (by kernel_rfl) rfl) H 93 #[.slice A2 nb c2] 69 (fun g => .slice (some ⟨g, 0, none⟩) 1 1) (H.kpF [3]) ?_
   intro g48 w H
   refine Gay (SA.E _ 8 _ (by kernel_rfl) rfl) H 6 94 (A := Al) (c := cl) (xv := .slice (some ⟨g48, 0, none⟩) 1 1) (n := xs.length) (m := 1) et_r (List.map cR xs) (List.map cR ([((A2, nb, c2) : RX)])) ((List.length_map _).trans ((rfl : xs.length = _))) (by rw [List.length_map] <;> first | rfl | omega | (simp <;> omega)) (by omega) (RowB.src (RowB.of_blk (n := 1) (H.blk 0) (List.map cR [((A2, nb, c2) : RX)]) rfl rfl (cR_len _) (cR_one _) (by omega))) (cR_len _) (cR_one _) (by omega) (by omega) (fun _ => trivial) ?_
   intro A49 cap50 w hccap50 H
   rw [← List.map_append] at H
   refine WO.one (SA.F (kpR _) (kpT _) _ 9 _ (by kernel_rfl)) 95 (.pointer (some ⟨gj, 0, none⟩)) (by kernel_rfl) ?_
   refine WO.one (SA.F (kpR _) (kpT _) _ 10 _ (by kernel_rfl)) 96 (.pointer (some ⟨gj, 3, none⟩)) (by kernel_rfl) ?_
   refine Gs (SA.E _ 11 _ (by kernel_rfl) rfl) H 5 3 #[.pointer (some ⟨gd, 0, none⟩), .int .i64 many, .slice Ap ps.length cp, .slice A49 (xs.length + 1) cap50] (fun _ _ => trivial) ?_
   intro w H
   refine WO.doneA (by kernel_rfl) ?_
   refine WQ.keep [4] (e' := [(4, .nilIface)]) (by kernel_rfl) ?_
   refine WQ.thenN ?_
   refine WE.seq ?_
   refine WE.region ?_
   refine WO.run 1 0 [(4, .nilIface)] (by kernel_rfl) (by kernel_rfl) ?_
   refine WO.done (by kernel_rfl) ?_
   refine WQ.keep [4] (e' := [(4, .nilIface)]) (by kernel_rfl) ?_
   refine WQ.thenN ?_
   refine WE.ret ?_
   refine WQ.ret (v := .nilIface) (by kernel_rfl) ?_
   replace H := H.conv [3] (Ent.yv cB 5 1 A2 nb c2 r)
   replace H := H.conv [7, 0] (Ent.epush xs rs A2 r nb c2 hnb.symm (by omega))
   rw [show xs.length + 1 = (xs ++ [((A2, nb, c2) : RX)]).length by simp] at H
   replace H := H.close [1, 5, 1, 0] (jp ps (rs ++ [r])) (jq gj gd many ps (rs ++ [r])) (Ap, cp, A49, cap50, (xs ++ [((A2, nb, c2) : RX)])) (⟨by simp <;> omega, by simp <;> omega, by simp [hxr]⟩)
   rw [show jApp many r ps rs d = (0, ps, (rs ++ [r]), (append ((sync d (g0 ps (ps.length - 1))).2) (firstN ps + (xs.length : Int)) (encT r)).2) from by first | exact jApp_n0 hxr (by omega) hz (by first | assumption | (simpa using by assumption))]
   exact H.leaf () [0, 1] trivial
  intro h47
  refine WO.done (by kernel_rfl) ?_
  refine WQ.keep [0, 1, 4, 5, 75] (e' := [(0, .pointer (some ⟨gj, 0, none⟩)), (1, .slice Ab nb cb), (4, .nilIface), (5, .int .i64 (firstN ps + (xs.length : Int))), (75, .bool true)]) (by kernel_rfl) ?_
  refine WQ.thenN ?_
  refine WE.condT (by kernel_rfl) ?_
  refine WE.region ?_
  refine WO.run 4 0 [(79, .pointer (some ⟨gj, 2, none⟩)), (78, .pointer (some ⟨gj, 0, none⟩)), (77, .pointer (some ⟨gj, 0, none⟩)), (76, .pointer (some ⟨gj, 0, none⟩))] (by kernel_rfl) (by kernel_rfl) ?_
  refine WO.ld (SQ.S 4 (by kernel_rfl)) 80 (.slice Ap ps.length cp) (by kernel_rfl) (H.cell 2 2) ?_
  refine WO.run 1 5 [(81, .int .i64 (firstN ps + (xs.length : Int)))] (by kernel_rfl) (by kernel_rfl) ?_
  refine Sb H 82 #[.int .i64 (firstN ps + (xs.length : Int))] 3 (fun g => .slice (some ⟨g, 0, none⟩) 1 1) ?_
  intro g51 w H
  refine Gay (SQ.E 7 (by kernel_rfl)) H 4 83 (A := Ap) (c := cp) (xv := .slice (some ⟨g51, 0, none⟩) 1 1) (n := ps.length) (m := 1) et_i (List.map cI ps) (List.map cI ([(firstN ps + (xs.length : Int))])) ((List.length_map _).trans ((rfl : ps.length = _))) (by rw [List.length_map] <;> first | rfl | omega | (simp <;> omega)) (by omega) (RowB.src (RowB.of_blk (n := 1) (H.blk 0) (List.map cI [(firstN ps + (xs.length : Int))]) rfl rfl (cI_len _) (cI_one _) (by omega))) (cI_len _) (cI_one _) (by omega) (by omega) (fun _ => trivial) ?_
  intro A52 cap53 w hccap53 H
  rw [← List.map_append] at H
  refine WO.run 2 8 [(85, .pointer (some ⟨gj, 2, none⟩)), (84, .pointer (some ⟨gj, 0, none⟩))] (by kernel_rfl) (by kernel_rfl) ?_
  refine Ss H 4 2 #[.pointer (some ⟨gd, 0, none⟩), .int .i64 many, .slice A52 (ps.length + 1) cap53, .slice Al xs.length cl] ?_
  intro w H
  refine WO.done (by kernel_rfl) ?_
  refine WQ.keep [0, 1, 4] (e' := [(0, .pointer (some ⟨gj, 0, none⟩)), (1, .slice Ab nb cb), (4, .nilIface)]) (by kernel_rfl) ?_
  refine WQ.thenN ?_
  refine WE.seq ?_
  refine WE.draw [.free, .free, .free, .free, .still, .free, .effR, .effR, .eff, .free, .free, .eff] (Kp [gj]) (kpR _) (by kernel_rfl) 12 (Array.replicate 12 false) (by kernel_rfl) rfl ?_
  intro w F_ _
  replace H := H.step0 F_
  refine WO.one (SA.F (kpR _) (kpT _) _ 0 _ (by kernel_rfl)) 86 (.pointer (some ⟨gj, 0, none⟩)) (by kernel_rfl) ?_
  refine WO.one (SA.F (kpR _) (kpT _) _ 1 _ (by kernel_rfl)) 87 (.pointer (some ⟨gj, 0, none⟩)) (by kernel_rfl) ?_
  refine WO.one (SA.F (kpR _) (kpT _) _ 2 _ (by kernel_rfl)) 88 (.pointer (some ⟨gj, 0, none⟩)) (by kernel_rfl) ?_
  refine WO.one (SA.F (kpR _) (kpT _) _ 3 _ (by kernel_rfl)) 89 (.pointer (some ⟨gj, 3, none⟩)) (by kernel_rfl) ?_
  refine WO.ld (SA.S (kpR _) (kpT _) _ 4 _ (by kernel_rfl)) 90 (.slice Al xs.length cl) (by kernel_rfl) (fun _ k_ => ((H.blk 0).kp k_ (by show gj ∈ ([gj] : List Nat); simp)).at 3 (by kernel_rfl)) ?_
  refine WO.one (SA.F (kpR _) (kpT _) _ 5 _ (by kernel_rfl)) 91 (.slice Ab nb cb) (by kernel_rfl) ?_
  refine GcK (SA.ER _ 6 _ (by kernel_rfl) rfl) H 92 (clone_c Ab nb cb r hnb (by omega) (by omega)) [] [7] [0] ?_
  rintro ⟨A2, c2⟩ w hc2 H
  refine Gb (SA.ER _ 7 _ (by kernel_rfl) rfl) H 93 #[.slice A2 nb c2] 69 (fun g => .slice (some ⟨g, 0, none⟩) 1 1) (H.kpF [1]) ?_
  intro g54 w H
  refine Gay (SA.E _ 8 _ (by kernel_rfl) rfl) H 7 94 (A := Al) (c := cl) (xv := .slice (some ⟨g54, 0, none⟩) 1 1) (n := xs.length) (m := 1) et_r (List.map cR xs) (List.map cR ([((A2, nb, c2) : RX)])) ((List.length_map _).trans ((rfl : xs.length = _))) (by rw [List.length_map] <;> first | rfl | omega | (simp <;> omega)) (by omega) (RowB.src (RowB.of_blk (n := 1) (H.blk 0) (List.map cR [((A2, nb, c2) : RX)]) rfl rfl (cR_len _) (cR_one _) (by omega))) (cR_len _) (cR_one _) (by omega) (by omega) (fun _ => trivial) ?_
  intro A55 cap56 w hccap56 H
  rw [← List.map_append] at H
  refine WO.one (SA.F (kpR _) (kpT _) _ 9 _ (by kernel_rfl)) 95 (.pointer (some ⟨gj, 0, none⟩)) (by kernel_rfl) ?_
  refine WO.one (SA.F (kpR _) (kpT _) _ 10 _ (by kernel_rfl)) 96 (.pointer (some ⟨gj, 3, none⟩)) (by kernel_rfl) ?_
  refine Gs (SA.E _ 11 _ (by kernel_rfl) rfl) H 3 3 #[.pointer (some ⟨gd, 0, none⟩), .int .i64 many, .slice A52 (ps.length + 1) cap53, .slice A55 (xs.length + 1) cap56] (fun _ _ => trivial) ?_
  intro w H
  refine WO.doneA (by kernel_rfl) ?_
  refine WQ.keep [4] (e' := [(4, .nilIface)]) (by kernel_rfl) ?_
  refine WQ.thenN ?_
  refine WE.seq ?_
  refine WE.region ?_
  refine WO.run 1 0 [(4, .nilIface)] (by kernel_rfl) (by kernel_rfl) ?_
  refine WO.done (by kernel_rfl) ?_
  refine WQ.keep [4] (e' := [(4, .nilIface)]) (by kernel_rfl) ?_
  refine WQ.thenN ?_
  refine WE.ret ?_
  refine WQ.ret (v := .nilIface) (by kernel_rfl) ?_
  replace H := H.conv [3] (Ent.yv cB 5 1 A2 nb c2 r)
  replace H := H.conv [8, 0] (Ent.epush xs rs A2 r nb c2 hnb.symm (by omega))
  rw [show xs.length + 1 = (xs ++ [((A2, nb, c2) : RX)]).length by simp] at H
  rw [show ps.length + 1 = (ps ++ [firstN ps + (xs.length : Int)]).length by simp] at H
  replace H := H.close [1, 3, 1, 0] (jp (ps ++ [firstN ps + (xs.length : Int)]) (rs ++ [r])) (jq gj gd many (ps ++ [firstN ps + (xs.length : Int)]) (rs ++ [r])) (A52, cap53, A55, cap56, (xs ++ [((A2, nb, c2) : RX)])) (⟨by simp <;> omega, by simp <;> omega, by simp [hxr]⟩)
  rw [show jApp many r ps rs d = (0, (ps ++ [firstN ps + (xs.length : Int)]), (rs ++ [r]), (append ((sync d (g0 ps (ps.length - 1))).2) (firstN ps + (xs.length : Int)) (encT r)).2) from by first | exact jApp_n1 hxr (by omega) hz (by first | assumption | (simpa using by assumption))]
  exact H.leaf () [0, 2] trivial
 refine WE.draw [.free, .free, .free, .still, .free, .free, .effR, .effR, .eff, .free] (Kp [gj]) (kpR _) (by kernel_rfl) 10 (Array.replicate 10 false) (by kernel_rfl) rfl ?_
 intro w F_ _
 replace H := H.step0 F_
 refine WO.one (SA.F (kpR _) (kpT _) _ 0 _ (by kernel_rfl)) 57 (.pointer (some ⟨gj, 0, none⟩)) (by kernel_rfl) ?_
 refine WO.one (SA.F (kpR _) (kpT _) _ 1 _ (by kernel_rfl)) 58 (.pointer (some ⟨gj, 0, none⟩)) (by kernel_rfl) ?_
 refine WO.one (SA.F (kpR _) (kpT _) _ 2 _ (by kernel_rfl)) 59 (.pointer (some ⟨gj, 0, none⟩)) (by kernel_rfl) ?_
 refine WO.ld (SA.S (kpR _) (kpT _) _ 3 _ (by kernel_rfl)) 60 (.pointer (some ⟨gd, 0, none⟩)) (by kernel_rfl) (fun _ k_ => ((H.blk 1).kp k_ (by show gj ∈ ([gj] : List Nat); simp)).at 0 (by kernel_rfl)) ?_
 refine WO.one (SA.F (kpR _) (kpT _) _ 4 _ (by kernel_rfl)) 61 (.int .i64 (firstN ps + (xs.length : Int))) (by kernel_rfl) ?_
 refine WO.one (SA.F (kpR _) (kpT _) _ 5 _ (by kernel_rfl)) 62 (.slice Ab nb cb) (by kernel_rfl) ?_
 obtain ⟨F57, HV58⟩ := H.at 5 (rV cB 1 Ab r)
 refine WO.b2sE (v := .slice Ab nb cb) (SA.ER _ 6 _ (by kernel_rfl) rfl) 63 Wire.byt r (n := nb) hnb (by kernel_rfl) (VX.srcN HV58 hnb (cB_len _) (cB_one _) cb) (H.kpF [1]) ?_
 refine GcK (SA.ER _ 7 _ (by kernel_rfl) rfl) H 64 (text_ct r hro) [] [] [1] ?_
 rintro ⟨b59, cp60⟩ w hccp60 H
 refine Gc (SA.E _ 8 _ (by kernel_rfl) rfl) H 65 (dapp_ct gd ((sync d (g0 ps (ps.length - 1))).2) (firstN ps + (xs.length : Int)) (some ⟨b59, 0, none⟩) (encT r).length cp60 (encT r) ho2 (by omega) rfl (by omega) hl2) [1] [0] (fun _ => trivial) ?_
 rintro ⟨⟩ w _ H
 refine WO.top (v' := .iface 88 (.int .i64 ((append ((sync d (g0 ps (ps.length - 1))).2) (firstN ps + (xs.length : Int)) (encT r)).1))) (codeV_ne hz) ?_
 refine WO.one (SA.F (kpR _) (kpT _) _ 9 _ (by kernel_rfl)) 8 (.iface 88 (.int .i64 ((append ((sync d (g0 ps (ps.length - 1))).2) (firstN ps + (xs.length : Int)) (encT r)).1))) (by kernel_rfl) ?_
 refine WO.doneA (by kernel_rfl) ?_
 refine WQ.keep [0, 1, 4, 5, 8] (e' := [(0, .pointer (some ⟨gj, 0, none⟩)), (1, .slice Ab nb cb), (4, .nilIface), (5, .int .i64 (firstN ps + (xs.length : Int))), (8, .iface 88 (.int .i64 ((append ((sync d (g0 ps (ps.length - 1))).2) (firstN ps + (xs.length : Int)) (encT r)).1)))]) (by kernel_rfl) ?_
 refine WQ.thenN ?_
 refine WE.seq ?_
 refine WE.region ?_
 refine WO.run 2 0 [(67, .bool true), (66, .iface 88 (.int .i64 ((append ((sync d (g0 ps (ps.length - 1))).2) (firstN ps + (xs.length : Int)) (encT r)).1)))] (by kernel_rfl) (by kernel_rfl) ?_
 refine WO.done (by kernel_rfl) ?_
 refine WQ.keep [0, 1, 4, 5, 8, 67] (e' := [(0, .pointer (some ⟨gj, 0, none⟩)), (1, .slice Ab nb cb), (4, .nilIface), (5, .int .i64 (firstN ps + (xs.length : Int))), (8, .iface 88 (.int .i64 ((append ((sync d (g0 ps (ps.length - 1))).2) (firstN ps + (xs.length : Int)) (encT r)).1))), (67, .bool true)]) (by kernel_rfl) ?_
 refine WQ.thenN ?_
 refine WE.condT (by kernel_rfl) ?_
 refine WE.seq ?_
 refine WE.region ?_
 refine WO.run 2 0 [(4, .iface 88 (.int .i64 ((append ((sync d (g0 ps (ps.length - 1))).2) (firstN ps + (xs.length : Int)) (encT r)).1))), (68, .iface 88 (.int .i64 ((append ((sync d (g0 ps (ps.length - 1))).2) (firstN ps + (xs.length : Int)) (encT r)).1)))] (by kernel_rfl) (by kernel_rfl) ?_
 refine WO.done (by kernel_rfl) ?_
 refine WQ.keep [0, 1, 4, 5] (e' := [(0, .pointer (some ⟨gj, 0, none⟩)), (1, .slice Ab nb cb), (4, .iface 88 (.int .i64 ((append ((sync d (g0 ps (ps.length - 1))).2) (firstN ps + (xs.length : Int)) (encT r)).1))), (5, .int .i64 (firstN ps + (xs.length : Int)))]) (by kernel_rfl) ?_
 refine WQ.thenN ?_
 refine WE.ret ?_
 refine WQ.thenR ?_
 refine WQ.ret (v := .iface 88 (.int .i64 ((append ((sync d (g0 ps (ps.length - 1))).2) (firstN ps + (xs.length : Int)) (encT r)).1))) (by kernel_rfl) ?_
 replace H := H.close [2, 2, 2, 2] (jp ps rs) (jq gj gd many ps rs) (Ap, cp, Al, cl, xs) (⟨by simp <;> omega, by simp <;> omega, by simp [hxr]⟩)
 rw [show jApp many r ps rs d = ((append ((sync d (g0 ps (ps.length - 1))).2) (firstN ps + (xs.length : Int)) (encT r)).1, ps, rs, (append ((sync d (g0 ps (ps.length - 1))).2) (firstN ps + (xs.length : Int)) (encT r)).2) from by first | exact jApp_nx hxr (by omega) hz (by first | assumption | (simpa using by assumption))]
 exact H.leaf () [0, 0] trivial (he := congrArg Ending.returned (codeV_ne hz).symm)
end Go.Proofs.YtjfgmdkdcnfdoaaGreatDoor.Jrn
