/- Layer 9's walks: Append. -/
import Derived.Test.YtkhibpdkgjapgaaJrnA
set_option linter.unusedVariables false
set_option linter.unusedSimpArgs false
namespace Go.Proofs.Ytkhibpdkgjapgaa.Jrn
open Go Go.RowKit Go.Proofs.Ytkhibpdkgjapgaa Go.Proofs.Ytkhibpdkgjapgaa.Eng Go.Proofs.YtkhibpdkgjapgaaW.PrintWords
open Go.Proofs.Ytkhibpdkgjapgaa.Disk
open Go.Proofs.Ytkhibpdkgjapgaa.Wire (encT rText)
theorem jn_in {gj B : Nat} {FP FL FE FP2 FL2 Fc : List Nat} (h1 : ∀ y ∈ FP2, y ∈ FP ∨ B ≤ y) (h2 : ∀ y ∈ FL2, y ∈ FL ∨ B ≤ y) (h3 : ∀ y ∈ Fc, B ≤ y) : ∀ y ∈ gj :: (FP2 ++ (FL2 ++ (FE ++ Fc))), y ∈ gj :: (FP ++ (FL ++ FE)) ∨ B ≤ y := fun y hy => by
  simp only [List.mem_cons, List.mem_append] at hy ⊢
  rcases hy with h | h | h | h | h
  · exact .inl (.inl h)
  · exact (h1 y h).imp (fun k => .inr (.inl k)) id
  · exact (h2 y h).imp (fun k => .inr (.inr (.inl k))) id
  · exact .inl (.inr (.inr (.inr h)))
  · exact .inr (h3 y h)
set_option maxRecDepth 100000 in
set_option maxHeartbeats 400000 in
theorem japp_0 (gj gd : Nat) (many : Int) (Ap Al : Option Addr) (cp cl : Nat) (ps : List Int) (xs : List RX) (rs : List (List UInt8)) (F FP FL FE FB : List Nat) (d dA : Dk) (n : Int) (adb : Addr) (nb cb : Nat) (r : List UInt8) (w : World) (HJ : Blk w gj #[.pointer (some ⟨gd, 0, none⟩), .int .i64 many, .slice Ap ps.length cp, .slice Al xs.length cl] 80) (HG : GDisk w gd F d) (HOP : OwnX 3 1 w FP (.slice Ap ps.length cp) (ps.map cI)) (HOL : OwnX 22 1 w FL (.slice Al xs.length cl) (xs.map cR)) (HE : EV w FE xs rs) (HV : VX cB 1 w FB (some adb) r) (hnb : r.length = nb) (hro : recOk r) (nF : gj ∉ F) (nP : gj ∉ FP) (nL : gj ∉ FL) (nE : gj ∉ FE) (nB : gj ∉ FB) (dFP : ∀ y ∈ F, y ∉ FP) (dFL : ∀ y ∈ F, y ∉ FL) (dFE : ∀ y ∈ F, y ∉ FE) (dPL : ∀ y ∈ FP, y ∉ FL) (dPE : ∀ y ∈ FP, y ∉ FE) (dLE : ∀ y ∈ FL, y ∉ FE) (dFB : ∀ y ∈ F, y ∉ FB) (dPB : ∀ y ∈ FP, y ∉ FB) (dLB : ∀ y ∈ FL, y ∉ FB) (dEB : ∀ y ∈ FE, y ∉ FB) (hok : d.Ok) (hf0 : firstN ps = 0) (hpl : ps.length ≤ 100000) (hxl : xs.length ≤ 100000) (hnn : -9223372036854775808 ≤ n ∧ n ≤ 9223372036854775807) (hdl : dA.l.length ≤ 1000000) (hmany : 1 ≤ many ∧ many ≤ 100) (d2 : Dk) (h0 : ps.length = 0) (hdA : dA = d) (hnx : n = (xs.length : Int)) (hcon : ps.contains n = false) (hokA : dA.Ok) (hA1 : append dA n (encT r) = (0, d2)) (d2ok : True) :
    Calls Try.prog 28 #[.pointer (some ⟨gj, 0, none⟩), .slice (some adb) nb cb] w fun e w' => e = .returned .nilIface ∧ ∃ F' J', GDisk w' gd F' d2 ∧ Jn w' gj J' gd many (ps ++ [n]) (rs ++ [r]) ∧ Fr (gj :: (F ++ (FP ++ FL))) w w' ∧ (∀ y ∈ F', y ∈ gj :: (F ++ (FP ++ FL)) ∨ w.heap.size ≤ y) ∧ (∀ y ∈ J', y ∈ gj :: (FP ++ (FL ++ FE)) ∨ w.heap.size ≤ y) ∧ (∀ y ∈ F', y ∉ J') := by
  have HVP := VX.of_own HOP
  have hel := encT_len r hro
  have hro1 := hro.1
  have hro2 := hro.2
  have HA := Fr.refl (gj :: (F ++ (FP ++ FL))) w
  refine enter (N := 97) Try.func28 (c := _) rfl (by kernel_rfl) (by kernel_rfl) (e := [(0, .pointer (some ⟨gj, 0, none⟩)), (1, .slice (some adb) nb cb)]) (by kernel_rfl) ?_
  refine WE.seq ?_
  refine WE.region ?_
  refine WO.run 1 0 [(4, .nilIface)] (by kernel_rfl) (by kernel_rfl) ?_
  refine WO.done (by kernel_rfl) ?_
  refine WQ.keep [0, 1, 4] (e' := [(0, .pointer (some ⟨gj, 0, none⟩)), (1, .slice (some adb) nb cb), (4, .nilIface)]) (by kernel_rfl) ?_
  refine WQ.thenN ?_
  refine WE.seq ?_
  refine WE.seq ?_
  refine WE.region ?_
  refine WO.run 2 0 [(10, .int .i64 (nb : Int)), (9, .slice (some adb) nb cb)] (by kernel_rfl) (by kernel_rfl) ?_
  refine WO.one (SQ.F 2 (by kernel_rfl)) 11 (.bool (decide (((nb : Int) : Int) < (1 : Int)))) (by kernel_rfl) ?_
  refine WO.topPF (((nb : Int) : Int) < (1 : Int)) (by omega) ?_
  refine WO.run 3 3 [(14, .int .i64 (nb : Int)), (13, .slice (some adb) nb cb), (12, .bool false)] (by kernel_rfl) (by kernel_rfl) ?_
  refine WO.one (SQ.F 6 (by kernel_rfl)) 15 (.bool (decide (((nb : Int) : Int) > (4096 : Int)))) (by kernel_rfl) ?_
  refine WO.topPF (((nb : Int) : Int) > (4096 : Int)) (by omega) ?_
  refine WO.run 1 7 [(16, .bool false)] (by kernel_rfl) (by kernel_rfl) ?_
  refine WO.done (by kernel_rfl) ?_
  refine WQ.keep [0, 1, 4, 16] (e' := [(0, .pointer (some ⟨gj, 0, none⟩)), (1, .slice (some adb) nb cb), (4, .nilIface), (16, .bool false)]) (by kernel_rfl) ?_
  refine WQ.thenN ?_
  refine WE.condF (by kernel_rfl) ?_
  refine WE.skip ?_
  refine WQ.thenN ?_
  refine WE.seq ?_
  refine WE.region ?_
  refine WO.run 1 0 [(18, .pointer (some ⟨gj, 0, none⟩))] (by kernel_rfl) (by kernel_rfl) ?_
  refine WO.call (SQ.E 1 (by kernel_rfl)) 19 (by kernel_rfl) (next_j gj gd many Ap Al ps.length cp xs.length cl ps FP _ HJ HVP rfl nP (by omega) (by omega) (by rw [hf0]; omega)) ?_
  rintro _ w1 ⟨rfl, F2⟩
  rw [hf0]
  refine ⟨_, rfl, trivial, ?_⟩
  have HJ := Blk.keep HJ F2 (nin0 _)
  have HG := GDisk.keep HG F2 (fun _ _ => nin0 _)
  have HOP := HOP.keep F2 (fun _ _ => nin0 _)
  have HVP := HVP.keep F2 (fun _ _ => nin0 _)
  have HOL := HOL.keep F2 (fun _ _ => nin0 _)
  have HE := EV.keep HE F2 (fun _ _ => nin0 _)
  have HV := HV.keep F2 (fun _ _ => nin0 _)
  have HA := Fr.step0 HA F2
  refine WO.run 1 2 [(5, .int .i64 (0 + (xs.length : Int)))] (by kernel_rfl) (by kernel_rfl) ?_
  refine WO.done (by kernel_rfl) ?_
  refine WQ.keep [0, 1, 4, 5, 16] (e' := [(0, .pointer (some ⟨gj, 0, none⟩)), (1, .slice (some adb) nb cb), (4, .nilIface), (5, .int .i64 (0 + (xs.length : Int))), (16, .bool false)]) (by kernel_rfl) ?_
  refine WQ.thenN ?_
  refine WE.seq ?_
  refine WE.seq ?_
  refine WE.region ?_
  refine WO.run 3 0 [(22, .pointer (some ⟨gj, 2, none⟩)), (21, .pointer (some ⟨gj, 0, none⟩)), (20, .pointer (some ⟨gj, 0, none⟩))] (by kernel_rfl) (by kernel_rfl) ?_
  refine WO.ld (SQ.S 3 (by kernel_rfl)) 23 (.slice Ap ps.length cp) (by kernel_rfl) (same (HJ.at 2 (by kernel_rfl))) ?_
  refine WO.run 2 4 [(6, .int .i64 (ps.length : Int)), (24, .int .i64 (ps.length : Int))] (by kernel_rfl) (by kernel_rfl) ?_
  refine WO.done (by kernel_rfl) ?_
  refine WQ.keep [0, 1, 4, 5, 6, 16] (e' := [(0, .pointer (some ⟨gj, 0, none⟩)), (1, .slice (some adb) nb cb), (4, .nilIface), (5, .int .i64 (0 + (xs.length : Int))), (6, .int .i64 (ps.length : Int)), (16, .bool false)]) (by kernel_rfl) ?_
  refine WQ.thenN ?_
  refine WE.seq ?_
  refine WE.draw [.free, .free, .free, .free, .free, .free, .free, .still, .free, .free, .free, .still, .free, .free, .free, .free, .still, .free, .free] Same sameR (by kernel_rfl) 19 (Array.replicate 19 false) (by kernel_rfl) rfl ?_
  intro w3 F4 _
  have HJ := Blk.keep HJ F4 (nin0 _)
  have HG := GDisk.keep HG F4 (fun _ _ => nin0 _)
  have HOP := HOP.keep F4 (fun _ _ => nin0 _)
  have HVP := HVP.keep F4 (fun _ _ => nin0 _)
  have HOL := HOL.keep F4 (fun _ _ => nin0 _)
  have HE := EV.keep HE F4 (fun _ _ => nin0 _)
  have HV := HV.keep F4 (fun _ _ => nin0 _)
  have HA := Fr.step0 HA F4
  refine WO.one (SA.F sameR sameT _ 0 _ (by kernel_rfl)) 25 (.int .i64 (ps.length : Int)) (by kernel_rfl) ?_
  refine WO.one (SA.F sameR sameT _ 1 _ (by kernel_rfl)) 26 (.bool (decide (((ps.length : Int) : Int) > (0 : Int)))) (by kernel_rfl) ?_
  refine WO.topPF (((ps.length : Int) : Int) > (0 : Int)) (by omega) ?_
  refine WO.one (SA.F sameR sameT _ 2 _ (by kernel_rfl)) 27 (.bool false) (by kernel_rfl) ?_
  refine WO.off (SA.O sameR sameT _ 3 _ (by kernel_rfl)) 28 (by kernel_rfl) ?_
  refine WO.off (SA.O sameR sameT _ 4 _ (by kernel_rfl)) 29 (by kernel_rfl) ?_
  refine WO.off (SA.O sameR sameT _ 5 _ (by kernel_rfl)) 30 (by kernel_rfl) ?_
  refine WO.off (SA.O sameR sameT _ 6 _ (by kernel_rfl)) 31 (by kernel_rfl) ?_
  refine WO.off (SA.O sameR sameT _ 7 _ (by kernel_rfl)) 32 (by kernel_rfl) ?_
  refine WO.off (SA.O sameR sameT _ 8 _ (by kernel_rfl)) 33 (by kernel_rfl) ?_
  refine WO.off (SA.O sameR sameT _ 9 _ (by kernel_rfl)) 34 (by kernel_rfl) ?_
  refine WO.off (SA.O sameR sameT _ 10 _ (by kernel_rfl)) 35 (by kernel_rfl) ?_
  refine WO.off (SA.O sameR sameT _ 11 _ (by kernel_rfl)) 36 (by kernel_rfl) ?_
  refine WO.off (SA.O sameR sameT _ 12 _ (by kernel_rfl)) 37 (by kernel_rfl) ?_
  refine WO.off (SA.O sameR sameT _ 13 _ (by kernel_rfl)) 38 (by kernel_rfl) ?_
  refine WO.off (SA.O sameR sameT _ 14 _ (by kernel_rfl)) 39 (by kernel_rfl) ?_
  refine WO.off (SA.O sameR sameT _ 15 _ (by kernel_rfl)) 40 (by kernel_rfl) ?_
  refine WO.off (SA.O sameR sameT _ 16 _ (by kernel_rfl)) 41 (by kernel_rfl) ?_
  refine WO.off (SA.O sameR sameT _ 17 _ (by kernel_rfl)) 42 (by kernel_rfl) ?_
  refine WO.one (SA.F sameR sameT _ 18 _ (by kernel_rfl)) 43 (.bool false) (by kernel_rfl) ?_
  refine WO.doneA (by kernel_rfl) ?_
  refine WQ.keep [0, 1, 4, 5, 6, 16, 43] (e' := [(0, .pointer (some ⟨gj, 0, none⟩)), (1, .slice (some adb) nb cb), (4, .nilIface), (5, .int .i64 (0 + (xs.length : Int))), (6, .int .i64 (ps.length : Int)), (16, .bool false), (43, .bool false)]) (by kernel_rfl) ?_
  refine WQ.thenN ?_
  refine WE.condF (by kernel_rfl) ?_
  refine WE.seq ?_
  refine WE.region ?_
  refine WO.run 1 0 [(52, .pointer (some ⟨gj, 0, none⟩))] (by kernel_rfl) (by kernel_rfl) ?_
  refine WO.call (SQ.E 1 (by kernel_rfl)) 53 (by kernel_rfl) (jsync_0 gj gd many Ap cp _ ps FP _ (by have h_ := HJ; rw [h0] at h_; exact h_) (by exact HVP) nP h0) ?_
  rintro _ w5 ⟨rfl, F6⟩
  refine ⟨_, rfl, trivial, ?_⟩
  have HJ := Blk.keep HJ F6 (nin0 _)
  have HG := GDisk.keep HG F6 (fun _ _ => nin0 _)
  have HOP := HOP.keep F6 (fun _ _ => nin0 _)
  have HVP := HVP.keep F6 (fun _ _ => nin0 _)
  have HOL := HOL.keep F6 (fun _ _ => nin0 _)
  have HE := EV.keep HE F6 (fun _ _ => nin0 _)
  have HV := HV.keep F6 (fun _ _ => nin0 _)
  have HA := Fr.step0 HA F6
  refine WO.run 1 2 [(7, .nilIface)] (by kernel_rfl) (by kernel_rfl) ?_
  refine WO.done (by kernel_rfl) ?_
  refine WQ.keep [0, 1, 4, 5, 6, 7, 16, 43] (e' := [(0, .pointer (some ⟨gj, 0, none⟩)), (1, .slice (some adb) nb cb), (4, .nilIface), (5, .int .i64 (0 + (xs.length : Int))), (6, .int .i64 (ps.length : Int)), (7, .nilIface), (16, .bool false), (43, .bool false)]) (by kernel_rfl) ?_
  refine WQ.thenN ?_
  refine WE.seq ?_
  refine WE.region ?_
  refine WO.run 2 0 [(55, .bool false), (54, .nilIface)] (by kernel_rfl) (by kernel_rfl) ?_
  refine WO.done (by kernel_rfl) ?_
  refine WQ.keep [0, 1, 4, 5, 6, 7, 16, 43, 55] (e' := [(0, .pointer (some ⟨gj, 0, none⟩)), (1, .slice (some adb) nb cb), (4, .nilIface), (5, .int .i64 (0 + (xs.length : Int))), (6, .int .i64 (ps.length : Int)), (7, .nilIface), (16, .bool false), (43, .bool false), (55, .bool false)]) (by kernel_rfl) ?_
  refine WQ.thenN ?_
  refine WE.condF (by kernel_rfl) ?_
  refine WE.skip ?_
  refine WQ.thenN ?_
  refine WE.seq ?_
  refine WE.seq ?_
  rw [show (0 + (xs.length : Int)) = n by omega]
  have hz7 : (World.heap w5).size ≤ (World.heap w5).size := Nat.le_refl _
  have ltz_gj := HJ.lt
  have ltz_F := GDisk.lt HG
  have ltz_FP := HOP.lt
  have ltz_FP := HVP.lt
  have ltz_FL := HOL.lt
  have ltz_FE := EV.lt HE
  have ltz_FB := HV.lt
  refine WE.draw [.free, .free, .free, .still, .free, .free, .still, .effR, .eff, .free] (FrB (World.heap w5).size) (frBR _) (by kernel_rfl) 10 (Array.replicate 10 false) (by kernel_rfl) rfl ?_
  intro w8 F9 _
  have HJ := Blk.keep HJ F9 (nin0 _)
  have HG := GDisk.keep HG F9 (fun _ _ => nin0 _)
  have HOP := HOP.keep F9 (fun _ _ => nin0 _)
  have HVP := HVP.keep F9 (fun _ _ => nin0 _)
  have HOL := HOL.keep F9 (fun _ _ => nin0 _)
  have HE := EV.keep HE F9 (fun _ _ => nin0 _)
  have HV := HV.keep F9 (fun _ _ => nin0 _)
  have hz7 := Nat.le_trans hz7 F9.size
  have HA := Fr.step0 HA F9
  refine WO.one (SA.F (frBR _) (frBT _) _ 0 _ (by kernel_rfl)) 57 (.pointer (some ⟨gj, 0, none⟩)) (by kernel_rfl) ?_
  refine WO.one (SA.F (frBR _) (frBT _) _ 1 _ (by kernel_rfl)) 58 (.pointer (some ⟨gj, 0, none⟩)) (by kernel_rfl) ?_
  refine WO.one (SA.F (frBR _) (frBT _) _ 2 _ (by kernel_rfl)) 59 (.pointer (some ⟨gj, 0, none⟩)) (by kernel_rfl) ?_
  refine WO.ld (SA.S (frBR _) (frBT _) _ 3 _ (by kernel_rfl)) 60 (.pointer (some ⟨gd, 0, none⟩)) (by kernel_rfl) (fun _ k => (HJ.keepB k ltz_gj).at 0 (by kernel_rfl)) ?_
  refine WO.one (SA.F (frBR _) (frBT _) _ 4 _ (by kernel_rfl)) 61 (.int .i64 n) (by kernel_rfl) ?_
  refine WO.one (SA.F (frBR _) (frBT _) _ 5 _ (by kernel_rfl)) 62 (.slice (some adb) nb cb) (by kernel_rfl) ?_
  refine WO.b2s (v := .slice (some adb) nb cb) (SA.S (frBR _) (frBT _) _ 6 _ (by kernel_rfl)) 63 byt r (n := nb) hnb (by kernel_rfl) (fun _ k_ => ((HV.keepB k_ ltz_FB).srcN hnb (cB_len _) (cB_one _) cb)) ?_
  refine WO.call (SA.ER _ 7 _ (by kernel_rfl) rfl) 64 (by kernel_rfl) (Wire.text_w (str r) none 0 0 [] [] _ (VX.nil _ _) rfl (by simp) (by rw [str_size]; omega)) ?_
  rintro _ w10 ⟨b12, cap13, rfl, HR14, F11, le15⟩
  rw [List.nil_append, bs_str] at HR14 ⊢
  refine ⟨_, rfl, (frB_of hz7 (by simp)) _ F11, ?_⟩
  have ne_gj_b12 : gj ≠ b12 := Nat.ne_of_lt (Nat.lt_of_lt_of_le HJ.lt le15)
  have nin_b12_F : b12 ∉ F := new_nin (GDisk.lt HG) le15
  have nin_b12_FP : b12 ∉ FP := new_nin HOP.lt le15
  have nin_b12_FP : b12 ∉ FP := new_nin HVP.lt le15
  have nin_b12_FL : b12 ∉ FL := new_nin HOL.lt le15
  have nin_b12_FE : b12 ∉ FE := new_nin (EV.lt HE) le15
  have nin_b12_FB : b12 ∉ FB := new_nin HV.lt le15
  have ge_HA_b12 := Nat.le_trans HA.size le15
  have gz_hz7_b12 := Nat.le_trans hz7 le15
  have HJ := Blk.keep HJ F11 (nin0 _)
  have HG := GDisk.keep HG F11 (fun _ _ => nin0 _)
  have HOP := HOP.keep F11 (fun _ _ => nin0 _)
  have HVP := HVP.keep F11 (fun _ _ => nin0 _)
  have HOL := HOL.keep F11 (fun _ _ => nin0 _)
  have HE := EV.keep HE F11 (fun _ _ => nin0 _)
  have HV := HV.keep F11 (fun _ _ => nin0 _)
  have hz7 := Nat.le_trans hz7 F11.size
  have HA := Fr.step0 HA F11
  refine WO.call (SA.E _ 8 _ (by kernel_rfl) rfl) 65 (by kernel_rfl) (gappend gd F dA n (some ⟨b12, 0, none⟩) ((encT r).length) cap13 (encT r) [b12] _ (by rw [hdA]; exact HG) hokA hnn (VX.of_row HR14) rfl (by omega) (nin_sing nin_b12_F) hdl) ?_
  rintro _ w16 ⟨rfl, D18, HG20, F17, hg19⟩
  rw [hA1] at HG20 ⊢
  refine ⟨_, rfl, trivial, ?_⟩
  have nin_gj_D18 : gj ∉ D18 := grow_nin hg19 nF HJ.lt
  have nin_b12_D18 : b12 ∉ D18 := grow_nin hg19 nin_b12_F HR14.lt
  have dj_D18_FP : ∀ y ∈ D18, y ∉ FP := grow_dj hg19 dFP HOP.lt
  have dj_D18_FP : ∀ y ∈ D18, y ∉ FP := grow_dj hg19 dFP HVP.lt
  have dj_D18_FL : ∀ y ∈ D18, y ∉ FL := grow_dj hg19 dFL HOL.lt
  have dj_D18_FE : ∀ y ∈ D18, y ∉ FE := grow_dj hg19 dFE (EV.lt HE)
  have dj_D18_FB : ∀ y ∈ D18, y ∉ FB := grow_dj hg19 dFB HV.lt
  have inF_HA_D18 : ∀ y ∈ D18, y ∈ gj :: (F ++ (FP ++ FL)) ∨ (World.heap w).size ≤ y := grow_in hg19 (fun y hy => .inl (by simp [hy])) HA.size
  have HJ := Blk.keep HJ F17 nF
  have HR14 := RowB.keep HR14 F17 nin_b12_F
  have HOP := HOP.keep F17 (dj_symm dFP)
  have HVP := HVP.keep F17 (dj_symm dFP)
  have HOL := HOL.keep F17 (dj_symm dFL)
  have HE := EV.keep HE F17 (dj_symm dFE)
  have HV := HV.keep F17 (dj_symm dFB)
  have hz7 := Nat.le_trans hz7 F17.size
  have HA := Fr.step HA F17 (fun y hy => .inl (by simp [hy]))
  refine WO.one (SA.F (frBR _) (frBT _) _ 9 _ (by kernel_rfl)) 8 (.nilIface) (by kernel_rfl) ?_
  refine WO.doneA (by kernel_rfl) ?_
  refine WQ.keep [0, 1, 4, 5, 6, 7, 8, 16, 43, 55] (e' := [(0, .pointer (some ⟨gj, 0, none⟩)), (1, .slice (some adb) nb cb), (4, .nilIface), (5, .int .i64 n), (6, .int .i64 (ps.length : Int)), (7, .nilIface), (8, .nilIface), (16, .bool false), (43, .bool false), (55, .bool false)]) (by kernel_rfl) ?_
  refine WQ.thenN ?_
  refine WE.seq ?_
  refine WE.region ?_
  refine WO.run 2 0 [(67, .bool false), (66, .nilIface)] (by kernel_rfl) (by kernel_rfl) ?_
  refine WO.done (by kernel_rfl) ?_
  refine WQ.keep [0, 1, 4, 5, 6, 7, 8, 16, 43, 55, 67] (e' := [(0, .pointer (some ⟨gj, 0, none⟩)), (1, .slice (some adb) nb cb), (4, .nilIface), (5, .int .i64 n), (6, .int .i64 (ps.length : Int)), (7, .nilIface), (8, .nilIface), (16, .bool false), (43, .bool false), (55, .bool false), (67, .bool false)]) (by kernel_rfl) ?_
  refine WQ.thenN ?_
  refine WE.condF (by kernel_rfl) ?_
  refine WE.skip ?_
  refine WQ.thenN ?_
  refine WE.seq ?_
  refine WE.seq ?_
  refine WE.region ?_
  refine WO.run 3 0 [(71, .pointer (some ⟨gj, 2, none⟩)), (70, .pointer (some ⟨gj, 0, none⟩)), (69, .pointer (some ⟨gj, 0, none⟩))] (by kernel_rfl) (by kernel_rfl) ?_
  refine WO.ld (SQ.S 3 (by kernel_rfl)) 72 (.slice Ap ps.length cp) (by kernel_rfl) (same (HJ.at 2 (by kernel_rfl))) ?_
  refine WO.run 1 4 [(73, .int .i64 n)] (by kernel_rfl) (by kernel_rfl) ?_
  refine WO.call (SQ.E 5 (by kernel_rfl)) 74 (by kernel_rfl) (contains_j Ap ps.length cp ps FP n _ HVP rfl (by omega)) ?_
  rintro _ w21 ⟨rfl, F22⟩
  rw [hcon]
  refine ⟨_, rfl, trivial, ?_⟩
  have HJ := Blk.keep HJ F22 (nin0 _)
  have HOP := HOP.keep F22 (fun _ _ => nin0 _)
  have HVP := HVP.keep F22 (fun _ _ => nin0 _)
  have HOL := HOL.keep F22 (fun _ _ => nin0 _)
  have HE := EV.keep HE F22 (fun _ _ => nin0 _)
  have HV := HV.keep F22 (fun _ _ => nin0 _)
  have HG20 := GDisk.keep HG20 F22 (fun _ _ => nin0 _)
  have HA := Fr.step0 HA F22
  refine WO.run 1 6 [(75, .bool true)] (by kernel_rfl) (by kernel_rfl) ?_
  refine WO.done (by kernel_rfl) ?_
  refine WQ.keep [0, 1, 4, 5, 6, 7, 8, 16, 43, 55, 67, 75] (e' := [(0, .pointer (some ⟨gj, 0, none⟩)), (1, .slice (some adb) nb cb), (4, .nilIface), (5, .int .i64 n), (6, .int .i64 (ps.length : Int)), (7, .nilIface), (8, .nilIface), (16, .bool false), (43, .bool false), (55, .bool false), (67, .bool false), (75, .bool true)]) (by kernel_rfl) ?_
  refine WQ.thenN ?_
  refine WE.condT (by kernel_rfl) ?_
  refine WE.region ?_
  refine WO.run 4 0 [(79, .pointer (some ⟨gj, 2, none⟩)), (78, .pointer (some ⟨gj, 0, none⟩)), (77, .pointer (some ⟨gj, 0, none⟩)), (76, .pointer (some ⟨gj, 0, none⟩))] (by kernel_rfl) (by kernel_rfl) ?_
  refine WO.ld (SQ.S 4 (by kernel_rfl)) 80 (.slice Ap ps.length cp) (by kernel_rfl) (same (HJ.at 2 (by kernel_rfl))) ?_
  refine WO.run 1 5 [(81, .int .i64 n)] (by kernel_rfl) (by kernel_rfl) ?_
  refine WO.bx (SQ.E 6 (by kernel_rfl)) 82 #[.int .i64 n] 3 (fun g => .slice (some ⟨g, 0, none⟩) 1 1) (by kernel_rfl) (fun _ _ => trivial) ?_
  intro g23 w24 HB26 F25 le27 _
  have ne_gj_g23 : gj ≠ g23 := Nat.ne_of_lt (Nat.lt_of_lt_of_le HJ.lt le27)
  have nin_g23_FP : g23 ∉ FP := new_nin HOP.lt le27
  have nin_g23_FP : g23 ∉ FP := new_nin HVP.lt le27
  have nin_g23_FL : g23 ∉ FL := new_nin HOL.lt le27
  have nin_g23_FE : g23 ∉ FE := new_nin (EV.lt HE) le27
  have nin_g23_FB : g23 ∉ FB := new_nin HV.lt le27
  have nin_g23_D18 : g23 ∉ D18 := new_nin (GDisk.lt HG20) le27
  have ge_HA_g23 := Nat.le_trans HA.size le27
  have HJ := Blk.keep HJ F25 (nin0 _)
  have HOP := HOP.keep F25 (fun _ _ => nin0 _)
  have HVP := HVP.keep F25 (fun _ _ => nin0 _)
  have HOL := HOL.keep F25 (fun _ _ => nin0 _)
  have HE := EV.keep HE F25 (fun _ _ => nin0 _)
  have HV := HV.keep F25 (fun _ _ => nin0 _)
  have HG20 := GDisk.keep HG20 F25 (fun _ _ => nin0 _)
  have HA := Fr.step0 HA F25
  refine WO.appX (SQ.E 7 (by kernel_rfl)) 83 (m := 1) (ys := List.map cI ([n])) et_i HOP (by rw [List.length_map] <;> first | rfl | omega | (simp <;> omega)) (RowB.src (RowB.of_blk (n := 1) HB26 (List.map cI [n]) rfl rfl (cI_len _) (cI_one _) (by omega))) (cI_len _) (cI_one _) (by kernel_rfl) (by rw [List.length_map]; first | omega | (simp only [List.length_nil]; omega)) (by rw [List.length_map]; first | omega | (simp only [List.length_nil]; omega)) (fun _ _ => trivial) ?_
  intro v33 w34 G35 HO36 F37 hg38
  rw [← List.map_append] at HO36
  have nin_gj_G35 : gj ∉ G35 := grow_nin hg38 nP HJ.lt
  have nin_g23_G35 : g23 ∉ G35 := grow_nin hg38 nin_g23_FP HB26.lt
  have dj_G35_FL : ∀ y ∈ G35, y ∉ FL := grow_dj hg38 dPL HOL.lt
  have dj_G35_FE : ∀ y ∈ G35, y ∉ FE := grow_dj hg38 dPE (EV.lt HE)
  have dj_G35_FB : ∀ y ∈ G35, y ∉ FB := grow_dj hg38 dPB HV.lt
  have dj_G35_D18 : ∀ y ∈ G35, y ∉ D18 := grow_dj hg38 (dj_symm dj_D18_FP) (GDisk.lt HG20)
  have inF_HA_G35 : ∀ y ∈ G35, y ∈ gj :: (F ++ (FP ++ FL)) ∨ (World.heap w).size ≤ y := grow_in hg38 (fun y hy => .inl (by simp [hy])) HA.size
  have in_FP := fun y hy => (hg38 y hy).imp id (Nat.le_trans HA.size)
  have HJ := Blk.keep HJ F37 nP
  have HB26 := Blk.keep HB26 F37 nin_g23_FP
  have HOL := HOL.keep F37 (dj_symm dPL)
  have HE := EV.keep HE F37 (dj_symm dPE)
  have HV := HV.keep F37 (dj_symm dPB)
  have HG20 := GDisk.keep HG20 F37 dj_D18_FP
  have HA := Fr.step HA F37 (fun y hy => .inl (by simp [hy]))
  obtain ⟨A39, cap40, rfl⟩ := HO36.sliceN (List.length_map _)
  have := @List.length_append _ ps ([n])
  refine WO.run 2 8 [(85, .pointer (some ⟨gj, 2, none⟩)), (84, .pointer (some ⟨gj, 0, none⟩))] (by kernel_rfl) (by kernel_rfl) ?_
  refine WO.st (SQ.E 10 (by kernel_rfl)) gj 2 [.slice A39 ((ps ++ [n]).length) cap40] #[.pointer (some ⟨gd, 0, none⟩), .int .i64 many, .slice A39 ((ps ++ [n]).length) cap40, .slice Al xs.length cl] (by kernel_rfl) HJ (by kernel_rfl) (by kernel_rfl) (fun _ _ => trivial) ?_
  intro w41 HB43 F42 _
  have HB26 := Blk.keep HB26 F42 (ninC (Ne.symm ne_gj_g23) (nin0 _))
  have HOL := HOL.keep F42 (djB nL)
  have HE := EV.keep HE F42 (djB nE)
  have HV := HV.keep F42 (djB nB)
  have HG20 := GDisk.keep HG20 F42 (djB nin_gj_D18)
  have HO36 := HO36.keep F42 (djB nin_gj_G35)
  have HA := Fr.step HA F42 (inSL (by simp) inS0)
  refine WO.done (by kernel_rfl) ?_
  refine WQ.keep [0, 1, 4, 5, 6, 7, 8, 16, 43, 55, 67, 75] (e' := [(0, .pointer (some ⟨gj, 0, none⟩)), (1, .slice (some adb) nb cb), (4, .nilIface), (5, .int .i64 n), (6, .int .i64 (ps.length : Int)), (7, .nilIface), (8, .nilIface), (16, .bool false), (43, .bool false), (55, .bool false), (67, .bool false), (75, .bool true)]) (by kernel_rfl) ?_
  refine WQ.thenN ?_
  refine WE.seq ?_
  have hz44 : (World.heap w41).size ≤ (World.heap w41).size := Nat.le_refl _
  have ltz_g23 := HB26.lt
  have ltz_gj := HB43.lt
  have ltz_FL := HOL.lt
  have ltz_FE := EV.lt HE
  have ltz_FB := HV.lt
  have ltz_D18 := GDisk.lt HG20
  have ltz_G35 := HO36.lt
  refine WE.draw [.free, .free, .free, .free, .still, .free, .effR, .effR, .eff, .free, .free, .eff] (FrB (World.heap w41).size) (frBR _) (by kernel_rfl) 12 (Array.replicate 12 false) (by kernel_rfl) rfl ?_
  intro w45 F46 _
  have HB26 := Blk.keep HB26 F46 (nin0 _)
  have HB43 := Blk.keep HB43 F46 (nin0 _)
  have HOL := HOL.keep F46 (fun _ _ => nin0 _)
  have HE := EV.keep HE F46 (fun _ _ => nin0 _)
  have HV := HV.keep F46 (fun _ _ => nin0 _)
  have HG20 := GDisk.keep HG20 F46 (fun _ _ => nin0 _)
  have HO36 := HO36.keep F46 (fun _ _ => nin0 _)
  have hz44 := Nat.le_trans hz44 F46.size
  have HA := Fr.step0 HA F46
  refine WO.one (SA.F (frBR _) (frBT _) _ 0 _ (by kernel_rfl)) 86 (.pointer (some ⟨gj, 0, none⟩)) (by kernel_rfl) ?_
  refine WO.one (SA.F (frBR _) (frBT _) _ 1 _ (by kernel_rfl)) 87 (.pointer (some ⟨gj, 0, none⟩)) (by kernel_rfl) ?_
  refine WO.one (SA.F (frBR _) (frBT _) _ 2 _ (by kernel_rfl)) 88 (.pointer (some ⟨gj, 0, none⟩)) (by kernel_rfl) ?_
  refine WO.one (SA.F (frBR _) (frBT _) _ 3 _ (by kernel_rfl)) 89 (.pointer (some ⟨gj, 3, none⟩)) (by kernel_rfl) ?_
  refine WO.ld (SA.S (frBR _) (frBT _) _ 4 _ (by kernel_rfl)) 90 (.slice Al xs.length cl) (by kernel_rfl) (fun _ k => (HB43.keepB k ltz_gj).at 3 (by kernel_rfl)) ?_
  refine WO.one (SA.F (frBR _) (frBT _) _ 5 _ (by kernel_rfl)) 91 (.slice (some adb) nb cb) (by kernel_rfl) ?_
  refine WO.call (SA.ER _ 6 _ (by kernel_rfl) rfl) 92 (by kernel_rfl) (clone_v adb nb cb r FB _ HV hnb (by omega)) ?_
  rintro _ w47 ⟨b49, cp50, rfl, hc53, HVc51, F48, ge52⟩
  refine ⟨_, rfl, (frB_of hz44 (by simp)) _ F48, ?_⟩
  have ne_g23_b49 : g23 ≠ b49 := Nat.ne_of_lt (Nat.lt_of_lt_of_le HB26.lt ge52)
  have ne_gj_b49 : gj ≠ b49 := Nat.ne_of_lt (Nat.lt_of_lt_of_le HB43.lt ge52)
  have nin_b49_FL : b49 ∉ FL := new_nin HOL.lt ge52
  have nin_b49_FE : b49 ∉ FE := new_nin (EV.lt HE) ge52
  have nin_b49_FB : b49 ∉ FB := new_nin HV.lt ge52
  have nin_b49_D18 : b49 ∉ D18 := new_nin (GDisk.lt HG20) ge52
  have nin_b49_G35 : b49 ∉ G35 := new_nin HO36.lt ge52
  have ge_HA_b49 := Nat.le_trans HA.size ge52
  have gz_hz44_b49 := Nat.le_trans hz44 ge52
  obtain ⟨F54, hF54⟩ : ∃ F_, F_ = [b49] := ⟨_, rfl⟩
  rw [← hF54] at HVc51
  have nin_g23_F54 : g23 ∉ F54 := by rw [hF54]; simpa using ne_g23_b49
  have nin_gj_F54 : gj ∉ F54 := by rw [hF54]; simpa using ne_gj_b49
  have dj_F54_FL : ∀ y ∈ F54, y ∉ FL := by rw [hF54]; intro y hy; rw [List.mem_singleton.1 hy]; exact nin_b49_FL
  have dj_F54_FE : ∀ y ∈ F54, y ∉ FE := by rw [hF54]; intro y hy; rw [List.mem_singleton.1 hy]; exact nin_b49_FE
  have dj_F54_FB : ∀ y ∈ F54, y ∉ FB := by rw [hF54]; intro y hy; rw [List.mem_singleton.1 hy]; exact nin_b49_FB
  have dj_F54_D18 : ∀ y ∈ F54, y ∉ D18 := by rw [hF54]; intro y hy; rw [List.mem_singleton.1 hy]; exact nin_b49_D18
  have dj_F54_G35 : ∀ y ∈ F54, y ∉ G35 := by rw [hF54]; intro y hy; rw [List.mem_singleton.1 hy]; exact nin_b49_G35
  have ge_HA_F54 : ∀ y ∈ F54, (World.heap w).size ≤ y := by rw [hF54]; intro y hy; rw [List.mem_singleton.1 hy]; exact ge_HA_b49
  have HB26 := Blk.keep HB26 F48 (nin0 _)
  have HB43 := Blk.keep HB43 F48 (nin0 _)
  have HOL := HOL.keep F48 (fun _ _ => nin0 _)
  have HE := EV.keep HE F48 (fun _ _ => nin0 _)
  have HV := HV.keep F48 (fun _ _ => nin0 _)
  have HG20 := GDisk.keep HG20 F48 (fun _ _ => nin0 _)
  have HO36 := HO36.keep F48 (fun _ _ => nin0 _)
  have hz44 := Nat.le_trans hz44 F48.size
  have HA := Fr.step0 HA F48
  refine WO.bx (SA.ER _ 7 _ (by kernel_rfl) rfl) 93 #[.slice (some ⟨b49, 0, none⟩) nb cp50] 22 (fun g => .slice (some ⟨g, 0, none⟩) 1 1) (by kernel_rfl) (frB_of hz44 (by simp)) ?_
  intro g55 w56 HB58 F57 le59 _
  have ne_g23_g55 : g23 ≠ g55 := Nat.ne_of_lt (Nat.lt_of_lt_of_le HB26.lt le59)
  have ne_gj_g55 : gj ≠ g55 := Nat.ne_of_lt (Nat.lt_of_lt_of_le HB43.lt le59)
  have nin_g55_FL : g55 ∉ FL := new_nin HOL.lt le59
  have nin_g55_FE : g55 ∉ FE := new_nin (EV.lt HE) le59
  have nin_g55_FB : g55 ∉ FB := new_nin HV.lt le59
  have nin_g55_D18 : g55 ∉ D18 := new_nin (GDisk.lt HG20) le59
  have nin_g55_G35 : g55 ∉ G35 := new_nin HO36.lt le59
  have nin_g55_F54 : g55 ∉ F54 := new_nin HVc51.lt le59
  have ge_HA_g55 := Nat.le_trans HA.size le59
  have gz_hz44_g55 := Nat.le_trans hz44 le59
  have HB26 := Blk.keep HB26 F57 (nin0 _)
  have HB43 := Blk.keep HB43 F57 (nin0 _)
  have HOL := HOL.keep F57 (fun _ _ => nin0 _)
  have HE := EV.keep HE F57 (fun _ _ => nin0 _)
  have HV := HV.keep F57 (fun _ _ => nin0 _)
  have HG20 := GDisk.keep HG20 F57 (fun _ _ => nin0 _)
  have HO36 := HO36.keep F57 (fun _ _ => nin0 _)
  have HVc51 := HVc51.keep F57 (fun _ _ => nin0 _)
  have hz44 := Nat.le_trans hz44 F57.size
  have HA := Fr.step0 HA F57
  refine WO.appX (SA.E _ 8 _ (by kernel_rfl) rfl) 94 (m := 1) (ys := List.map cR ([(((some ⟨b49, 0, none⟩), nb, cp50) : RX)])) et_r HOL (by rw [List.length_map] <;> first | rfl | omega | (simp <;> omega)) (RowB.src (RowB.of_blk (n := 1) HB58 (List.map cR [(((some ⟨b49, 0, none⟩), nb, cp50) : RX)]) rfl rfl (cR_len _) (cR_one _) (by omega))) (cR_len _) (cR_one _) (by kernel_rfl) (by rw [List.length_map]; first | omega | (simp only [List.length_nil]; omega)) (by rw [List.length_map]; first | omega | (simp only [List.length_nil]; omega)) (fun _ _ => trivial) ?_
  intro v65 w66 G67 HO68 F69 hg70
  rw [← List.map_append] at HO68
  have nin_g23_G67 : g23 ∉ G67 := grow_nin hg70 nin_g23_FL HB26.lt
  have nin_gj_G67 : gj ∉ G67 := grow_nin hg70 nL HB43.lt
  have nin_g55_G67 : g55 ∉ G67 := grow_nin hg70 nin_g55_FL HB58.lt
  have dj_G67_FE : ∀ y ∈ G67, y ∉ FE := grow_dj hg70 dLE (EV.lt HE)
  have dj_G67_FB : ∀ y ∈ G67, y ∉ FB := grow_dj hg70 dLB HV.lt
  have dj_G67_D18 : ∀ y ∈ G67, y ∉ D18 := grow_dj hg70 (dj_symm dj_D18_FL) (GDisk.lt HG20)
  have dj_G67_G35 : ∀ y ∈ G67, y ∉ G35 := grow_dj hg70 (dj_symm dj_G35_FL) HO36.lt
  have dj_G67_F54 : ∀ y ∈ G67, y ∉ F54 := grow_dj hg70 (dj_symm dj_F54_FL) HVc51.lt
  have inF_HA_G67 : ∀ y ∈ G67, y ∈ gj :: (F ++ (FP ++ FL)) ∨ (World.heap w).size ≤ y := grow_in hg70 (fun y hy => .inl (by simp [hy])) HA.size
  have in_FL := fun y hy => (hg70 y hy).imp id (Nat.le_trans HA.size)
  have HB26 := Blk.keep HB26 F69 nin_g23_FL
  have HB43 := Blk.keep HB43 F69 nL
  have HB58 := Blk.keep HB58 F69 nin_g55_FL
  have HE := EV.keep HE F69 (dj_symm dLE)
  have HV := HV.keep F69 (dj_symm dLB)
  have HG20 := GDisk.keep HG20 F69 dj_D18_FL
  have HO36 := HO36.keep F69 dj_G35_FL
  have HVc51 := HVc51.keep F69 dj_F54_FL
  have hz44 := Nat.le_trans hz44 F69.size
  have HA := Fr.step HA F69 (fun y hy => .inl (by simp [hy]))
  obtain ⟨A71, cap72, rfl⟩ := HO68.sliceN (List.length_map _)
  have := @List.length_append _ xs ([(((some ⟨b49, 0, none⟩), nb, cp50) : RX)])
  refine WO.one (SA.F (frBR _) (frBT _) _ 9 _ (by kernel_rfl)) 95 (.pointer (some ⟨gj, 0, none⟩)) (by kernel_rfl) ?_
  refine WO.one (SA.F (frBR _) (frBT _) _ 10 _ (by kernel_rfl)) 96 (.pointer (some ⟨gj, 3, none⟩)) (by kernel_rfl) ?_
  refine WO.st (SA.E _ 11 _ (by kernel_rfl) rfl) gj 3 [.slice A71 ((xs ++ [(((some ⟨b49, 0, none⟩), nb, cp50) : RX)]).length) cap72] #[.pointer (some ⟨gd, 0, none⟩), .int .i64 many, .slice A39 ((ps ++ [n]).length) cap40, .slice A71 ((xs ++ [(((some ⟨b49, 0, none⟩), nb, cp50) : RX)]).length) cap72] (by kernel_rfl) HB43 (by kernel_rfl) (by kernel_rfl) (fun _ _ => trivial) ?_
  intro w73 HB75 F74 _
  have HB26 := Blk.keep HB26 F74 (ninC (Ne.symm ne_gj_g23) (nin0 _))
  have HB58 := Blk.keep HB58 F74 (ninC (Ne.symm ne_gj_g55) (nin0 _))
  have HE := EV.keep HE F74 (djB nE)
  have HV := HV.keep F74 (djB nB)
  have HG20 := GDisk.keep HG20 F74 (djB nin_gj_D18)
  have HO36 := HO36.keep F74 (djB nin_gj_G35)
  have HVc51 := HVc51.keep F74 (djB nin_gj_F54)
  have HO68 := HO68.keep F74 (djB nin_gj_G67)
  have hz44 := Nat.le_trans hz44 F74.size
  have HA := Fr.step HA F74 (inSL (by simp) inS0)
  refine WO.doneA (by kernel_rfl) ?_
  refine WQ.keep [0, 1, 4, 5, 6, 7, 8, 16, 43, 55, 67, 75] (e' := [(0, .pointer (some ⟨gj, 0, none⟩)), (1, .slice (some adb) nb cb), (4, .nilIface), (5, .int .i64 n), (6, .int .i64 (ps.length : Int)), (7, .nilIface), (8, .nilIface), (16, .bool false), (43, .bool false), (55, .bool false), (67, .bool false), (75, .bool true)]) (by kernel_rfl) ?_
  refine WQ.thenN ?_
  refine WE.seq ?_
  refine WE.region ?_
  refine WO.run 1 0 [(4, .nilIface)] (by kernel_rfl) (by kernel_rfl) ?_
  refine WO.done (by kernel_rfl) ?_
  refine WQ.keep [0, 1, 4, 5, 6, 7, 8, 16, 43, 55, 67, 75] (e' := [(0, .pointer (some ⟨gj, 0, none⟩)), (1, .slice (some adb) nb cb), (4, .nilIface), (5, .int .i64 n), (6, .int .i64 (ps.length : Int)), (7, .nilIface), (8, .nilIface), (16, .bool false), (43, .bool false), (55, .bool false), (67, .bool false), (75, .bool true)]) (by kernel_rfl) ?_
  refine WQ.thenN ?_
  refine WE.ret ?_
  refine WQ.ret (v := .nilIface) (by kernel_rfl) ?_
  have HE2 := HE.push HVc51 (c := cp50) hnb.symm (by omega)
  refine ⟨rfl, D18, gj :: (G35 ++ (G67 ++ (FE ++ F54))), HG20, ⟨_, _, G35, G67, FE ++ F54, _, rfl, nin_gj_G35, nin_gj_G67, fun h_ => (List.mem_append.1 h_).elim nE nin_gj_F54, (dj_symm dj_G67_G35), fun y hy h_ => (List.mem_append.1 h_).elim (dj_G35_FE y hy) ((dj_symm dj_F54_G35) y hy), fun y hy h_ => (List.mem_append.1 h_).elim (dj_G67_FE y hy) (dj_G67_F54 y hy), HB75, HO36, HO68, HE2⟩, HA, inF_HA_D18, ?_, jn_dj nin_gj_D18 (dj_symm dj_G35_D18) (dj_symm dj_G67_D18) (fun y hy h_ => (List.mem_append.1 h_).elim (dj_D18_FE y hy) ((dj_symm dj_F54_D18) y hy))⟩
  exact jn_in in_FP in_FL ge_HA_F54

set_option maxRecDepth 100000 in
set_option maxHeartbeats 400000 in
theorem japp_same (gj gd : Nat) (many : Int) (Ap Al : Option Addr) (cp cl : Nat) (ps : List Int) (xs : List RX) (rs : List (List UInt8)) (F FP FL FE FB : List Nat) (d dA : Dk) (n : Int) (adb : Addr) (nb cb : Nat) (r : List UInt8) (w : World) (HJ : Blk w gj #[.pointer (some ⟨gd, 0, none⟩), .int .i64 many, .slice Ap ps.length cp, .slice Al xs.length cl] 80) (HG : GDisk w gd F d) (HOP : OwnX 3 1 w FP (.slice Ap ps.length cp) (ps.map cI)) (HOL : OwnX 22 1 w FL (.slice Al xs.length cl) (xs.map cR)) (HE : EV w FE xs rs) (HV : VX cB 1 w FB (some adb) r) (hnb : r.length = nb) (hro : recOk r) (nF : gj ∉ F) (nP : gj ∉ FP) (nL : gj ∉ FL) (nE : gj ∉ FE) (nB : gj ∉ FB) (dFP : ∀ y ∈ F, y ∉ FP) (dFL : ∀ y ∈ F, y ∉ FL) (dFE : ∀ y ∈ F, y ∉ FE) (dPL : ∀ y ∈ FP, y ∉ FL) (dPE : ∀ y ∈ FP, y ∉ FE) (dLE : ∀ y ∈ FL, y ∉ FE) (dFB : ∀ y ∈ F, y ∉ FB) (dPB : ∀ y ∈ FP, y ∉ FB) (dLB : ∀ y ∈ FL, y ∉ FB) (dEB : ∀ y ∈ FE, y ∉ FB) (hok : d.Ok) (hf0 : firstN ps = 0) (hpl : ps.length ≤ 100000) (hxl : xs.length ≤ 100000) (hnn : -9223372036854775808 ≤ n ∧ n ≤ 9223372036854775807) (hdl : dA.l.length ≤ 1000000) (hmany : 1 ≤ many ∧ many ≤ 100) (d2 : Dk) (h0 : 0 < ps.length) (hdA : dA = d) (hlast : g0 ps (ps.length - 1) = n) (hlt : (xs.length : Int) - n < many) (hcon : ps.contains n = true) (hokA : dA.Ok) (hA1 : append dA n (encT r) = (0, d2)) (d2ok : True) :
    Calls Try.prog 28 #[.pointer (some ⟨gj, 0, none⟩), .slice (some adb) nb cb] w fun e w' => e = .returned .nilIface ∧ ∃ F' J', GDisk w' gd F' d2 ∧ Jn w' gj J' gd many (ps) (rs ++ [r]) ∧ Fr (gj :: (F ++ (FP ++ FL))) w w' ∧ (∀ y ∈ F', y ∈ gj :: (F ++ (FP ++ FL)) ∨ w.heap.size ≤ y) ∧ (∀ y ∈ J', y ∈ gj :: (FP ++ (FL ++ FE)) ∨ w.heap.size ≤ y) ∧ (∀ y ∈ F', y ∉ J') := by
  have HVP := VX.of_own HOP
  have hel := encT_len r hro
  have hro1 := hro.1
  have hro2 := hro.2
  have HA := Fr.refl (gj :: (F ++ (FP ++ FL))) w
  refine enter (N := 97) Try.func28 (c := _) rfl (by kernel_rfl) (by kernel_rfl) (e := [(0, .pointer (some ⟨gj, 0, none⟩)), (1, .slice (some adb) nb cb)]) (by kernel_rfl) ?_
  refine WE.seq ?_
  refine WE.region ?_
  refine WO.run 1 0 [(4, .nilIface)] (by kernel_rfl) (by kernel_rfl) ?_
  refine WO.done (by kernel_rfl) ?_
  refine WQ.keep [0, 1, 4] (e' := [(0, .pointer (some ⟨gj, 0, none⟩)), (1, .slice (some adb) nb cb), (4, .nilIface)]) (by kernel_rfl) ?_
  refine WQ.thenN ?_
  refine WE.seq ?_
  refine WE.seq ?_
  refine WE.region ?_
  refine WO.run 2 0 [(10, .int .i64 (nb : Int)), (9, .slice (some adb) nb cb)] (by kernel_rfl) (by kernel_rfl) ?_
  refine WO.one (SQ.F 2 (by kernel_rfl)) 11 (.bool (decide (((nb : Int) : Int) < (1 : Int)))) (by kernel_rfl) ?_
  refine WO.topPF (((nb : Int) : Int) < (1 : Int)) (by omega) ?_
  refine WO.run 3 3 [(14, .int .i64 (nb : Int)), (13, .slice (some adb) nb cb), (12, .bool false)] (by kernel_rfl) (by kernel_rfl) ?_
  refine WO.one (SQ.F 6 (by kernel_rfl)) 15 (.bool (decide (((nb : Int) : Int) > (4096 : Int)))) (by kernel_rfl) ?_
  refine WO.topPF (((nb : Int) : Int) > (4096 : Int)) (by omega) ?_
  refine WO.run 1 7 [(16, .bool false)] (by kernel_rfl) (by kernel_rfl) ?_
  refine WO.done (by kernel_rfl) ?_
  refine WQ.keep [0, 1, 4, 16] (e' := [(0, .pointer (some ⟨gj, 0, none⟩)), (1, .slice (some adb) nb cb), (4, .nilIface), (16, .bool false)]) (by kernel_rfl) ?_
  refine WQ.thenN ?_
  refine WE.condF (by kernel_rfl) ?_
  refine WE.skip ?_
  refine WQ.thenN ?_
  refine WE.seq ?_
  refine WE.region ?_
  refine WO.run 1 0 [(18, .pointer (some ⟨gj, 0, none⟩))] (by kernel_rfl) (by kernel_rfl) ?_
  refine WO.call (SQ.E 1 (by kernel_rfl)) 19 (by kernel_rfl) (next_j gj gd many Ap Al ps.length cp xs.length cl ps FP _ HJ HVP rfl nP (by omega) (by omega) (by rw [hf0]; omega)) ?_
  rintro _ w1 ⟨rfl, F2⟩
  rw [hf0]
  refine ⟨_, rfl, trivial, ?_⟩
  have HJ := Blk.keep HJ F2 (nin0 _)
  have HG := GDisk.keep HG F2 (fun _ _ => nin0 _)
  have HOP := HOP.keep F2 (fun _ _ => nin0 _)
  have HVP := HVP.keep F2 (fun _ _ => nin0 _)
  have HOL := HOL.keep F2 (fun _ _ => nin0 _)
  have HE := EV.keep HE F2 (fun _ _ => nin0 _)
  have HV := HV.keep F2 (fun _ _ => nin0 _)
  have HA := Fr.step0 HA F2
  refine WO.run 1 2 [(5, .int .i64 (0 + (xs.length : Int)))] (by kernel_rfl) (by kernel_rfl) ?_
  refine WO.done (by kernel_rfl) ?_
  refine WQ.keep [0, 1, 4, 5, 16] (e' := [(0, .pointer (some ⟨gj, 0, none⟩)), (1, .slice (some adb) nb cb), (4, .nilIface), (5, .int .i64 (0 + (xs.length : Int))), (16, .bool false)]) (by kernel_rfl) ?_
  refine WQ.thenN ?_
  refine WE.seq ?_
  refine WE.seq ?_
  refine WE.region ?_
  refine WO.run 3 0 [(22, .pointer (some ⟨gj, 2, none⟩)), (21, .pointer (some ⟨gj, 0, none⟩)), (20, .pointer (some ⟨gj, 0, none⟩))] (by kernel_rfl) (by kernel_rfl) ?_
  refine WO.ld (SQ.S 3 (by kernel_rfl)) 23 (.slice Ap ps.length cp) (by kernel_rfl) (same (HJ.at 2 (by kernel_rfl))) ?_
  refine WO.run 2 4 [(6, .int .i64 (ps.length : Int)), (24, .int .i64 (ps.length : Int))] (by kernel_rfl) (by kernel_rfl) ?_
  refine WO.done (by kernel_rfl) ?_
  refine WQ.keep [0, 1, 4, 5, 6, 16] (e' := [(0, .pointer (some ⟨gj, 0, none⟩)), (1, .slice (some adb) nb cb), (4, .nilIface), (5, .int .i64 (0 + (xs.length : Int))), (6, .int .i64 (ps.length : Int)), (16, .bool false)]) (by kernel_rfl) ?_
  refine WQ.thenN ?_
  refine WE.seq ?_
  refine WE.draw [.free, .free, .free, .free, .free, .free, .free, .still, .free, .free, .free, .still, .free, .free, .free, .free, .still, .free, .free] Same sameR (by kernel_rfl) 19 (Array.replicate 19 false) (by kernel_rfl) rfl ?_
  intro w3 F4 _
  have HJ := Blk.keep HJ F4 (nin0 _)
  have HG := GDisk.keep HG F4 (fun _ _ => nin0 _)
  have HOP := HOP.keep F4 (fun _ _ => nin0 _)
  have HVP := HVP.keep F4 (fun _ _ => nin0 _)
  have HOL := HOL.keep F4 (fun _ _ => nin0 _)
  have HE := EV.keep HE F4 (fun _ _ => nin0 _)
  have HV := HV.keep F4 (fun _ _ => nin0 _)
  have HA := Fr.step0 HA F4
  refine WO.one (SA.F sameR sameT _ 0 _ (by kernel_rfl)) 25 (.int .i64 (ps.length : Int)) (by kernel_rfl) ?_
  refine WO.one (SA.F sameR sameT _ 1 _ (by kernel_rfl)) 26 (.bool (decide (((ps.length : Int) : Int) > (0 : Int)))) (by kernel_rfl) ?_
  refine WO.topPT (((ps.length : Int) : Int) > (0 : Int)) (by omega) ?_
  refine WO.one (SA.F sameR sameT _ 2 _ (by kernel_rfl)) 27 (.bool true) (by kernel_rfl) ?_
  refine WO.one (SA.F sameR sameT _ 3 _ (by kernel_rfl)) 28 (.int .i64 (0 + (xs.length : Int))) (by kernel_rfl) ?_
  refine WO.one (SA.F sameR sameT _ 4 _ (by kernel_rfl)) 29 (.pointer (some ⟨gj, 0, none⟩)) (by kernel_rfl) ?_
  refine WO.one (SA.F sameR sameT _ 5 _ (by kernel_rfl)) 30 (.pointer (some ⟨gj, 0, none⟩)) (by kernel_rfl) ?_
  refine WO.one (SA.F sameR sameT _ 6 _ (by kernel_rfl)) 31 (.pointer (some ⟨gj, 2, none⟩)) (by kernel_rfl) ?_
  refine WO.ld (SA.S sameR sameT _ 7 _ (by kernel_rfl)) 32 (.slice Ap ps.length cp) (by kernel_rfl) (same (HJ.at 2 (by kernel_rfl))) ?_
  refine WO.one (SA.F sameR sameT _ 8 _ (by kernel_rfl)) 33 (.int .i64 (ps.length : Int)) (by kernel_rfl) ?_
  refine WO.one (SA.F sameR sameT _ 9 _ (by kernel_rfl)) 34 (.int .i64 (IntKind.i64.wrap ((ps.length : Int) - 1))) (by kernel_rfl) ?_
  refine WO.top (v' := .int .i64 ((ps.length - 1 : Nat) : Int)) (wrap_i64 (by omega) (by omega)) ?_
  obtain ⟨ad5, hA6⟩ := HVP.addr (i := ps.length - 1) (by have := (rfl : ps.length = _); omega)
  refine WO.ixo (SA.F sameR sameT _ 10 _ (by kernel_rfl)) 35 ps.length 1 (ps.length - 1) ((ps.length - 1 : Nat) : Int) hA6 (by kernel_rfl) rfl (by omega) ?_
  refine WO.ld (SA.S sameR sameT _ 11 _ (by kernel_rfl)) 36 (.int .i64 (g0 ps (ps.length - 1))) (by kernel_rfl) (same (HVP.at0 hA6 (g0_some ps (ps.length - 1) (by have := (rfl : ps.length = _); omega)) (by kernel_rfl))) ?_
  refine WO.one (SA.F sameR sameT _ 12 _ (by kernel_rfl)) 37 (.int .i64 (IntKind.i64.wrap ((0 + (xs.length : Int)) - (g0 ps (ps.length - 1))))) (by kernel_rfl) ?_
  refine WO.top (v' := .int .i64 ((0 + (xs.length : Int)) - (g0 ps (ps.length - 1)))) (wrap_i64 (by omega) (by omega)) ?_
  refine WO.one (SA.F sameR sameT _ 13 _ (by kernel_rfl)) 38 (.pointer (some ⟨gj, 0, none⟩)) (by kernel_rfl) ?_
  refine WO.one (SA.F sameR sameT _ 14 _ (by kernel_rfl)) 39 (.pointer (some ⟨gj, 0, none⟩)) (by kernel_rfl) ?_
  refine WO.one (SA.F sameR sameT _ 15 _ (by kernel_rfl)) 40 (.pointer (some ⟨gj, 1, none⟩)) (by kernel_rfl) ?_
  refine WO.ld (SA.S sameR sameT _ 16 _ (by kernel_rfl)) 41 (.int .i64 many) (by kernel_rfl) (same (HJ.at 1 (by kernel_rfl))) ?_
  refine WO.one (SA.F sameR sameT _ 17 _ (by kernel_rfl)) 42 (.bool (decide (((0 + (xs.length : Int)) - (g0 ps (ps.length - 1)) : Int) < many))) (by kernel_rfl) ?_
  refine WO.topPT (((0 + (xs.length : Int)) - (g0 ps (ps.length - 1)) : Int) < many) (by rw [hlast]; omega) ?_
  refine WO.one (SA.F sameR sameT _ 18 _ (by kernel_rfl)) 43 (.bool true) (by kernel_rfl) ?_
  refine WO.doneA (by kernel_rfl) ?_
  refine WQ.keep [0, 1, 4, 5, 6, 16, 43] (e' := [(0, .pointer (some ⟨gj, 0, none⟩)), (1, .slice (some adb) nb cb), (4, .nilIface), (5, .int .i64 (0 + (xs.length : Int))), (6, .int .i64 (ps.length : Int)), (16, .bool false), (43, .bool true)]) (by kernel_rfl) ?_
  refine WQ.thenN ?_
  refine WE.condT (by kernel_rfl) ?_
  refine WE.region ?_
  refine WO.run 3 0 [(46, .pointer (some ⟨gj, 2, none⟩)), (45, .pointer (some ⟨gj, 0, none⟩)), (44, .pointer (some ⟨gj, 0, none⟩))] (by kernel_rfl) (by kernel_rfl) ?_
  refine WO.ld (SQ.S 3 (by kernel_rfl)) 47 (.slice Ap ps.length cp) (by kernel_rfl) (same (HJ.at 2 (by kernel_rfl))) ?_
  refine WO.run 1 4 [(48, .int .i64 (ps.length : Int))] (by kernel_rfl) (by kernel_rfl) ?_
  refine WO.one (SQ.F 5 (by kernel_rfl)) 49 (.int .i64 (IntKind.i64.wrap ((ps.length : Int) - 1))) (by kernel_rfl) ?_
  refine WO.top (v' := .int .i64 ((ps.length - 1 : Nat) : Int)) (wrap_i64 (by omega) (by omega)) ?_
  obtain ⟨ad7, hA8⟩ := HVP.addr (i := ps.length - 1) (by have := (rfl : ps.length = _); omega)
  refine WO.ixo (SQ.F 6 (by kernel_rfl)) 50 ps.length 1 (ps.length - 1) ((ps.length - 1 : Nat) : Int) hA8 (by kernel_rfl) rfl (by omega) ?_
  refine WO.ld (SQ.S 7 (by kernel_rfl)) 51 (.int .i64 (g0 ps (ps.length - 1))) (by kernel_rfl) (same (HVP.at0 hA8 (g0_some ps (ps.length - 1) (by have := (rfl : ps.length = _); omega)) (by kernel_rfl))) ?_
  refine WO.run 1 8 [(5, .int .i64 (g0 ps (ps.length - 1)))] (by kernel_rfl) (by kernel_rfl) ?_
  refine WO.done (by kernel_rfl) ?_
  refine WQ.keep [0, 1, 4, 5, 6, 16, 43] (e' := [(0, .pointer (some ⟨gj, 0, none⟩)), (1, .slice (some adb) nb cb), (4, .nilIface), (5, .int .i64 (g0 ps (ps.length - 1))), (6, .int .i64 (ps.length : Int)), (16, .bool false), (43, .bool true)]) (by kernel_rfl) ?_
  refine WQ.thenN ?_
  refine WE.seq ?_
  refine WE.seq ?_
  rw [hlast]
  have hz9 : (World.heap w3).size ≤ (World.heap w3).size := Nat.le_refl _
  have ltz_gj := HJ.lt
  have ltz_F := GDisk.lt HG
  have ltz_FP := HOP.lt
  have ltz_FP := HVP.lt
  have ltz_FL := HOL.lt
  have ltz_FE := EV.lt HE
  have ltz_FB := HV.lt
  refine WE.draw [.free, .free, .free, .still, .free, .free, .still, .effR, .eff, .free] (FrB (World.heap w3).size) (frBR _) (by kernel_rfl) 10 (Array.replicate 10 false) (by kernel_rfl) rfl ?_
  intro w10 F11 _
  have HJ := Blk.keep HJ F11 (nin0 _)
  have HG := GDisk.keep HG F11 (fun _ _ => nin0 _)
  have HOP := HOP.keep F11 (fun _ _ => nin0 _)
  have HVP := HVP.keep F11 (fun _ _ => nin0 _)
  have HOL := HOL.keep F11 (fun _ _ => nin0 _)
  have HE := EV.keep HE F11 (fun _ _ => nin0 _)
  have HV := HV.keep F11 (fun _ _ => nin0 _)
  have hz9 := Nat.le_trans hz9 F11.size
  have HA := Fr.step0 HA F11
  refine WO.one (SA.F (frBR _) (frBT _) _ 0 _ (by kernel_rfl)) 57 (.pointer (some ⟨gj, 0, none⟩)) (by kernel_rfl) ?_
  refine WO.one (SA.F (frBR _) (frBT _) _ 1 _ (by kernel_rfl)) 58 (.pointer (some ⟨gj, 0, none⟩)) (by kernel_rfl) ?_
  refine WO.one (SA.F (frBR _) (frBT _) _ 2 _ (by kernel_rfl)) 59 (.pointer (some ⟨gj, 0, none⟩)) (by kernel_rfl) ?_
  refine WO.ld (SA.S (frBR _) (frBT _) _ 3 _ (by kernel_rfl)) 60 (.pointer (some ⟨gd, 0, none⟩)) (by kernel_rfl) (fun _ k => (HJ.keepB k ltz_gj).at 0 (by kernel_rfl)) ?_
  refine WO.one (SA.F (frBR _) (frBT _) _ 4 _ (by kernel_rfl)) 61 (.int .i64 n) (by kernel_rfl) ?_
  refine WO.one (SA.F (frBR _) (frBT _) _ 5 _ (by kernel_rfl)) 62 (.slice (some adb) nb cb) (by kernel_rfl) ?_
  refine WO.b2s (v := .slice (some adb) nb cb) (SA.S (frBR _) (frBT _) _ 6 _ (by kernel_rfl)) 63 byt r (n := nb) hnb (by kernel_rfl) (fun _ k_ => ((HV.keepB k_ ltz_FB).srcN hnb (cB_len _) (cB_one _) cb)) ?_
  refine WO.call (SA.ER _ 7 _ (by kernel_rfl) rfl) 64 (by kernel_rfl) (Wire.text_w (str r) none 0 0 [] [] _ (VX.nil _ _) rfl (by simp) (by rw [str_size]; omega)) ?_
  rintro _ w12 ⟨b14, cap15, rfl, HR16, F13, le17⟩
  rw [List.nil_append, bs_str] at HR16 ⊢
  refine ⟨_, rfl, (frB_of hz9 (by simp)) _ F13, ?_⟩
  have ne_gj_b14 : gj ≠ b14 := Nat.ne_of_lt (Nat.lt_of_lt_of_le HJ.lt le17)
  have nin_b14_F : b14 ∉ F := new_nin (GDisk.lt HG) le17
  have nin_b14_FP : b14 ∉ FP := new_nin HOP.lt le17
  have nin_b14_FP : b14 ∉ FP := new_nin HVP.lt le17
  have nin_b14_FL : b14 ∉ FL := new_nin HOL.lt le17
  have nin_b14_FE : b14 ∉ FE := new_nin (EV.lt HE) le17
  have nin_b14_FB : b14 ∉ FB := new_nin HV.lt le17
  have ge_HA_b14 := Nat.le_trans HA.size le17
  have gz_hz9_b14 := Nat.le_trans hz9 le17
  have HJ := Blk.keep HJ F13 (nin0 _)
  have HG := GDisk.keep HG F13 (fun _ _ => nin0 _)
  have HOP := HOP.keep F13 (fun _ _ => nin0 _)
  have HVP := HVP.keep F13 (fun _ _ => nin0 _)
  have HOL := HOL.keep F13 (fun _ _ => nin0 _)
  have HE := EV.keep HE F13 (fun _ _ => nin0 _)
  have HV := HV.keep F13 (fun _ _ => nin0 _)
  have hz9 := Nat.le_trans hz9 F13.size
  have HA := Fr.step0 HA F13
  refine WO.call (SA.E _ 8 _ (by kernel_rfl) rfl) 65 (by kernel_rfl) (gappend gd F dA n (some ⟨b14, 0, none⟩) ((encT r).length) cap15 (encT r) [b14] _ (by rw [hdA]; exact HG) hokA hnn (VX.of_row HR16) rfl (by omega) (nin_sing nin_b14_F) hdl) ?_
  rintro _ w18 ⟨rfl, D20, HG22, F19, hg21⟩
  rw [hA1] at HG22 ⊢
  refine ⟨_, rfl, trivial, ?_⟩
  have nin_gj_D20 : gj ∉ D20 := grow_nin hg21 nF HJ.lt
  have nin_b14_D20 : b14 ∉ D20 := grow_nin hg21 nin_b14_F HR16.lt
  have dj_D20_FP : ∀ y ∈ D20, y ∉ FP := grow_dj hg21 dFP HOP.lt
  have dj_D20_FP : ∀ y ∈ D20, y ∉ FP := grow_dj hg21 dFP HVP.lt
  have dj_D20_FL : ∀ y ∈ D20, y ∉ FL := grow_dj hg21 dFL HOL.lt
  have dj_D20_FE : ∀ y ∈ D20, y ∉ FE := grow_dj hg21 dFE (EV.lt HE)
  have dj_D20_FB : ∀ y ∈ D20, y ∉ FB := grow_dj hg21 dFB HV.lt
  have inF_HA_D20 : ∀ y ∈ D20, y ∈ gj :: (F ++ (FP ++ FL)) ∨ (World.heap w).size ≤ y := grow_in hg21 (fun y hy => .inl (by simp [hy])) HA.size
  have HJ := Blk.keep HJ F19 nF
  have HR16 := RowB.keep HR16 F19 nin_b14_F
  have HOP := HOP.keep F19 (dj_symm dFP)
  have HVP := HVP.keep F19 (dj_symm dFP)
  have HOL := HOL.keep F19 (dj_symm dFL)
  have HE := EV.keep HE F19 (dj_symm dFE)
  have HV := HV.keep F19 (dj_symm dFB)
  have hz9 := Nat.le_trans hz9 F19.size
  have HA := Fr.step HA F19 (fun y hy => .inl (by simp [hy]))
  refine WO.one (SA.F (frBR _) (frBT _) _ 9 _ (by kernel_rfl)) 8 (.nilIface) (by kernel_rfl) ?_
  refine WO.doneA (by kernel_rfl) ?_
  refine WQ.keep [0, 1, 4, 5, 6, 8, 16, 43] (e' := [(0, .pointer (some ⟨gj, 0, none⟩)), (1, .slice (some adb) nb cb), (4, .nilIface), (5, .int .i64 n), (6, .int .i64 (ps.length : Int)), (8, .nilIface), (16, .bool false), (43, .bool true)]) (by kernel_rfl) ?_
  refine WQ.thenN ?_
  refine WE.seq ?_
  refine WE.region ?_
  refine WO.run 2 0 [(67, .bool false), (66, .nilIface)] (by kernel_rfl) (by kernel_rfl) ?_
  refine WO.done (by kernel_rfl) ?_
  refine WQ.keep [0, 1, 4, 5, 6, 8, 16, 43, 67] (e' := [(0, .pointer (some ⟨gj, 0, none⟩)), (1, .slice (some adb) nb cb), (4, .nilIface), (5, .int .i64 n), (6, .int .i64 (ps.length : Int)), (8, .nilIface), (16, .bool false), (43, .bool true), (67, .bool false)]) (by kernel_rfl) ?_
  refine WQ.thenN ?_
  refine WE.condF (by kernel_rfl) ?_
  refine WE.skip ?_
  refine WQ.thenN ?_
  refine WE.seq ?_
  refine WE.seq ?_
  refine WE.region ?_
  refine WO.run 3 0 [(71, .pointer (some ⟨gj, 2, none⟩)), (70, .pointer (some ⟨gj, 0, none⟩)), (69, .pointer (some ⟨gj, 0, none⟩))] (by kernel_rfl) (by kernel_rfl) ?_
  refine WO.ld (SQ.S 3 (by kernel_rfl)) 72 (.slice Ap ps.length cp) (by kernel_rfl) (same (HJ.at 2 (by kernel_rfl))) ?_
  refine WO.run 1 4 [(73, .int .i64 n)] (by kernel_rfl) (by kernel_rfl) ?_
  refine WO.call (SQ.E 5 (by kernel_rfl)) 74 (by kernel_rfl) (contains_j Ap ps.length cp ps FP n _ HVP rfl (by omega)) ?_
  rintro _ w23 ⟨rfl, F24⟩
  rw [hcon]
  refine ⟨_, rfl, trivial, ?_⟩
  have HJ := Blk.keep HJ F24 (nin0 _)
  have HOP := HOP.keep F24 (fun _ _ => nin0 _)
  have HVP := HVP.keep F24 (fun _ _ => nin0 _)
  have HOL := HOL.keep F24 (fun _ _ => nin0 _)
  have HE := EV.keep HE F24 (fun _ _ => nin0 _)
  have HV := HV.keep F24 (fun _ _ => nin0 _)
  have HG22 := GDisk.keep HG22 F24 (fun _ _ => nin0 _)
  have HA := Fr.step0 HA F24
  refine WO.run 1 6 [(75, .bool false)] (by kernel_rfl) (by kernel_rfl) ?_
  refine WO.done (by kernel_rfl) ?_
  refine WQ.keep [0, 1, 4, 5, 6, 8, 16, 43, 67, 75] (e' := [(0, .pointer (some ⟨gj, 0, none⟩)), (1, .slice (some adb) nb cb), (4, .nilIface), (5, .int .i64 n), (6, .int .i64 (ps.length : Int)), (8, .nilIface), (16, .bool false), (43, .bool true), (67, .bool false), (75, .bool false)]) (by kernel_rfl) ?_
  refine WQ.thenN ?_
  refine WE.condF (by kernel_rfl) ?_
  refine WE.skip ?_
  refine WQ.thenN ?_
  refine WE.seq ?_
  have hz25 : (World.heap w23).size ≤ (World.heap w23).size := Nat.le_refl _
  have ltz_gj := HJ.lt
  have ltz_FP := HOP.lt
  have ltz_FP := HVP.lt
  have ltz_FL := HOL.lt
  have ltz_FE := EV.lt HE
  have ltz_FB := HV.lt
  have ltz_D20 := GDisk.lt HG22
  refine WE.draw [.free, .free, .free, .free, .still, .free, .effR, .effR, .eff, .free, .free, .eff] (FrB (World.heap w23).size) (frBR _) (by kernel_rfl) 12 (Array.replicate 12 false) (by kernel_rfl) rfl ?_
  intro w26 F27 _
  have HJ := Blk.keep HJ F27 (nin0 _)
  have HOP := HOP.keep F27 (fun _ _ => nin0 _)
  have HVP := HVP.keep F27 (fun _ _ => nin0 _)
  have HOL := HOL.keep F27 (fun _ _ => nin0 _)
  have HE := EV.keep HE F27 (fun _ _ => nin0 _)
  have HV := HV.keep F27 (fun _ _ => nin0 _)
  have HG22 := GDisk.keep HG22 F27 (fun _ _ => nin0 _)
  have hz25 := Nat.le_trans hz25 F27.size
  have HA := Fr.step0 HA F27
  refine WO.one (SA.F (frBR _) (frBT _) _ 0 _ (by kernel_rfl)) 86 (.pointer (some ⟨gj, 0, none⟩)) (by kernel_rfl) ?_
  refine WO.one (SA.F (frBR _) (frBT _) _ 1 _ (by kernel_rfl)) 87 (.pointer (some ⟨gj, 0, none⟩)) (by kernel_rfl) ?_
  refine WO.one (SA.F (frBR _) (frBT _) _ 2 _ (by kernel_rfl)) 88 (.pointer (some ⟨gj, 0, none⟩)) (by kernel_rfl) ?_
  refine WO.one (SA.F (frBR _) (frBT _) _ 3 _ (by kernel_rfl)) 89 (.pointer (some ⟨gj, 3, none⟩)) (by kernel_rfl) ?_
  refine WO.ld (SA.S (frBR _) (frBT _) _ 4 _ (by kernel_rfl)) 90 (.slice Al xs.length cl) (by kernel_rfl) (fun _ k => (HJ.keepB k ltz_gj).at 3 (by kernel_rfl)) ?_
  refine WO.one (SA.F (frBR _) (frBT _) _ 5 _ (by kernel_rfl)) 91 (.slice (some adb) nb cb) (by kernel_rfl) ?_
  refine WO.call (SA.ER _ 6 _ (by kernel_rfl) rfl) 92 (by kernel_rfl) (clone_v adb nb cb r FB _ HV hnb (by omega)) ?_
  rintro _ w28 ⟨b30, cp31, rfl, hc34, HVc32, F29, ge33⟩
  refine ⟨_, rfl, (frB_of hz25 (by simp)) _ F29, ?_⟩
  have ne_gj_b30 : gj ≠ b30 := Nat.ne_of_lt (Nat.lt_of_lt_of_le HJ.lt ge33)
  have nin_b30_FP : b30 ∉ FP := new_nin HOP.lt ge33
  have nin_b30_FP : b30 ∉ FP := new_nin HVP.lt ge33
  have nin_b30_FL : b30 ∉ FL := new_nin HOL.lt ge33
  have nin_b30_FE : b30 ∉ FE := new_nin (EV.lt HE) ge33
  have nin_b30_FB : b30 ∉ FB := new_nin HV.lt ge33
  have nin_b30_D20 : b30 ∉ D20 := new_nin (GDisk.lt HG22) ge33
  have ge_HA_b30 := Nat.le_trans HA.size ge33
  have gz_hz25_b30 := Nat.le_trans hz25 ge33
  obtain ⟨F35, hF35⟩ : ∃ F_, F_ = [b30] := ⟨_, rfl⟩
  rw [← hF35] at HVc32
  have nin_gj_F35 : gj ∉ F35 := by rw [hF35]; simpa using ne_gj_b30
  have dj_F35_FP : ∀ y ∈ F35, y ∉ FP := by rw [hF35]; intro y hy; rw [List.mem_singleton.1 hy]; exact nin_b30_FP
  have dj_F35_FP : ∀ y ∈ F35, y ∉ FP := by rw [hF35]; intro y hy; rw [List.mem_singleton.1 hy]; exact nin_b30_FP
  have dj_F35_FL : ∀ y ∈ F35, y ∉ FL := by rw [hF35]; intro y hy; rw [List.mem_singleton.1 hy]; exact nin_b30_FL
  have dj_F35_FE : ∀ y ∈ F35, y ∉ FE := by rw [hF35]; intro y hy; rw [List.mem_singleton.1 hy]; exact nin_b30_FE
  have dj_F35_FB : ∀ y ∈ F35, y ∉ FB := by rw [hF35]; intro y hy; rw [List.mem_singleton.1 hy]; exact nin_b30_FB
  have dj_F35_D20 : ∀ y ∈ F35, y ∉ D20 := by rw [hF35]; intro y hy; rw [List.mem_singleton.1 hy]; exact nin_b30_D20
  have ge_HA_F35 : ∀ y ∈ F35, (World.heap w).size ≤ y := by rw [hF35]; intro y hy; rw [List.mem_singleton.1 hy]; exact ge_HA_b30
  have HJ := Blk.keep HJ F29 (nin0 _)
  have HOP := HOP.keep F29 (fun _ _ => nin0 _)
  have HVP := HVP.keep F29 (fun _ _ => nin0 _)
  have HOL := HOL.keep F29 (fun _ _ => nin0 _)
  have HE := EV.keep HE F29 (fun _ _ => nin0 _)
  have HV := HV.keep F29 (fun _ _ => nin0 _)
  have HG22 := GDisk.keep HG22 F29 (fun _ _ => nin0 _)
  have hz25 := Nat.le_trans hz25 F29.size
  have HA := Fr.step0 HA F29
  refine WO.bx (SA.ER _ 7 _ (by kernel_rfl) rfl) 93 #[.slice (some ⟨b30, 0, none⟩) nb cp31] 22 (fun g => .slice (some ⟨g, 0, none⟩) 1 1) (by kernel_rfl) (frB_of hz25 (by simp)) ?_
  intro g36 w37 HB39 F38 le40 _
  have ne_gj_g36 : gj ≠ g36 := Nat.ne_of_lt (Nat.lt_of_lt_of_le HJ.lt le40)
  have nin_g36_FP : g36 ∉ FP := new_nin HOP.lt le40
  have nin_g36_FP : g36 ∉ FP := new_nin HVP.lt le40
  have nin_g36_FL : g36 ∉ FL := new_nin HOL.lt le40
  have nin_g36_FE : g36 ∉ FE := new_nin (EV.lt HE) le40
  have nin_g36_FB : g36 ∉ FB := new_nin HV.lt le40
  have nin_g36_D20 : g36 ∉ D20 := new_nin (GDisk.lt HG22) le40
  have nin_g36_F35 : g36 ∉ F35 := new_nin HVc32.lt le40
  have ge_HA_g36 := Nat.le_trans HA.size le40
  have gz_hz25_g36 := Nat.le_trans hz25 le40
  have HJ := Blk.keep HJ F38 (nin0 _)
  have HOP := HOP.keep F38 (fun _ _ => nin0 _)
  have HVP := HVP.keep F38 (fun _ _ => nin0 _)
  have HOL := HOL.keep F38 (fun _ _ => nin0 _)
  have HE := EV.keep HE F38 (fun _ _ => nin0 _)
  have HV := HV.keep F38 (fun _ _ => nin0 _)
  have HG22 := GDisk.keep HG22 F38 (fun _ _ => nin0 _)
  have HVc32 := HVc32.keep F38 (fun _ _ => nin0 _)
  have hz25 := Nat.le_trans hz25 F38.size
  have HA := Fr.step0 HA F38
  refine WO.appX (SA.E _ 8 _ (by kernel_rfl) rfl) 94 (m := 1) (ys := List.map cR ([(((some ⟨b30, 0, none⟩), nb, cp31) : RX)])) et_r HOL (by rw [List.length_map] <;> first | rfl | omega | (simp <;> omega)) (RowB.src (RowB.of_blk (n := 1) HB39 (List.map cR [(((some ⟨b30, 0, none⟩), nb, cp31) : RX)]) rfl rfl (cR_len _) (cR_one _) (by omega))) (cR_len _) (cR_one _) (by kernel_rfl) (by rw [List.length_map]; first | omega | (simp only [List.length_nil]; omega)) (by rw [List.length_map]; first | omega | (simp only [List.length_nil]; omega)) (fun _ _ => trivial) ?_
  intro v46 w47 G48 HO49 F50 hg51
  rw [← List.map_append] at HO49
  have nin_gj_G48 : gj ∉ G48 := grow_nin hg51 nL HJ.lt
  have nin_g36_G48 : g36 ∉ G48 := grow_nin hg51 nin_g36_FL HB39.lt
  have dj_G48_FP : ∀ y ∈ G48, y ∉ FP := grow_dj hg51 (dj_symm dPL) HOP.lt
  have dj_G48_FP : ∀ y ∈ G48, y ∉ FP := grow_dj hg51 (dj_symm dPL) HVP.lt
  have dj_G48_FE : ∀ y ∈ G48, y ∉ FE := grow_dj hg51 dLE (EV.lt HE)
  have dj_G48_FB : ∀ y ∈ G48, y ∉ FB := grow_dj hg51 dLB HV.lt
  have dj_G48_D20 : ∀ y ∈ G48, y ∉ D20 := grow_dj hg51 (dj_symm dj_D20_FL) (GDisk.lt HG22)
  have dj_G48_F35 : ∀ y ∈ G48, y ∉ F35 := grow_dj hg51 (dj_symm dj_F35_FL) HVc32.lt
  have inF_HA_G48 : ∀ y ∈ G48, y ∈ gj :: (F ++ (FP ++ FL)) ∨ (World.heap w).size ≤ y := grow_in hg51 (fun y hy => .inl (by simp [hy])) HA.size
  have in_FL := fun y hy => (hg51 y hy).imp id (Nat.le_trans HA.size)
  have HJ := Blk.keep HJ F50 nL
  have HB39 := Blk.keep HB39 F50 nin_g36_FL
  have HOP := HOP.keep F50 dPL
  have HVP := HVP.keep F50 dPL
  have HE := EV.keep HE F50 (dj_symm dLE)
  have HV := HV.keep F50 (dj_symm dLB)
  have HG22 := GDisk.keep HG22 F50 dj_D20_FL
  have HVc32 := HVc32.keep F50 dj_F35_FL
  have hz25 := Nat.le_trans hz25 F50.size
  have HA := Fr.step HA F50 (fun y hy => .inl (by simp [hy]))
  obtain ⟨A52, cap53, rfl⟩ := HO49.sliceN (List.length_map _)
  have := @List.length_append _ xs ([(((some ⟨b30, 0, none⟩), nb, cp31) : RX)])
  refine WO.one (SA.F (frBR _) (frBT _) _ 9 _ (by kernel_rfl)) 95 (.pointer (some ⟨gj, 0, none⟩)) (by kernel_rfl) ?_
  refine WO.one (SA.F (frBR _) (frBT _) _ 10 _ (by kernel_rfl)) 96 (.pointer (some ⟨gj, 3, none⟩)) (by kernel_rfl) ?_
  refine WO.st (SA.E _ 11 _ (by kernel_rfl) rfl) gj 3 [.slice A52 ((xs ++ [(((some ⟨b30, 0, none⟩), nb, cp31) : RX)]).length) cap53] #[.pointer (some ⟨gd, 0, none⟩), .int .i64 many, .slice Ap ps.length cp, .slice A52 ((xs ++ [(((some ⟨b30, 0, none⟩), nb, cp31) : RX)]).length) cap53] (by kernel_rfl) HJ (by kernel_rfl) (by kernel_rfl) (fun _ _ => trivial) ?_
  intro w54 HB56 F55 _
  have HB39 := Blk.keep HB39 F55 (ninC (Ne.symm ne_gj_g36) (nin0 _))
  have HOP := HOP.keep F55 (djB nP)
  have HVP := HVP.keep F55 (djB nP)
  have HE := EV.keep HE F55 (djB nE)
  have HV := HV.keep F55 (djB nB)
  have HG22 := GDisk.keep HG22 F55 (djB nin_gj_D20)
  have HVc32 := HVc32.keep F55 (djB nin_gj_F35)
  have HO49 := HO49.keep F55 (djB nin_gj_G48)
  have hz25 := Nat.le_trans hz25 F55.size
  have HA := Fr.step HA F55 (inSL (by simp) inS0)
  refine WO.doneA (by kernel_rfl) ?_
  refine WQ.keep [0, 1, 4, 5, 6, 8, 16, 43, 67, 75] (e' := [(0, .pointer (some ⟨gj, 0, none⟩)), (1, .slice (some adb) nb cb), (4, .nilIface), (5, .int .i64 n), (6, .int .i64 (ps.length : Int)), (8, .nilIface), (16, .bool false), (43, .bool true), (67, .bool false), (75, .bool false)]) (by kernel_rfl) ?_
  refine WQ.thenN ?_
  refine WE.seq ?_
  refine WE.region ?_
  refine WO.run 1 0 [(4, .nilIface)] (by kernel_rfl) (by kernel_rfl) ?_
  refine WO.done (by kernel_rfl) ?_
  refine WQ.keep [0, 1, 4, 5, 6, 8, 16, 43, 67, 75] (e' := [(0, .pointer (some ⟨gj, 0, none⟩)), (1, .slice (some adb) nb cb), (4, .nilIface), (5, .int .i64 n), (6, .int .i64 (ps.length : Int)), (8, .nilIface), (16, .bool false), (43, .bool true), (67, .bool false), (75, .bool false)]) (by kernel_rfl) ?_
  refine WQ.thenN ?_
  refine WE.ret ?_
  refine WQ.ret (v := .nilIface) (by kernel_rfl) ?_
  have HE2 := HE.push HVc32 (c := cp31) hnb.symm (by omega)
  refine ⟨rfl, D20, gj :: (FP ++ (G48 ++ (FE ++ F35))), HG22, ⟨_, _, FP, G48, FE ++ F35, _, rfl, nP, nin_gj_G48, fun h_ => (List.mem_append.1 h_).elim nE nin_gj_F35, (dj_symm dj_G48_FP), fun y hy h_ => (List.mem_append.1 h_).elim (dPE y hy) ((dj_symm dj_F35_FP) y hy), fun y hy h_ => (List.mem_append.1 h_).elim (dj_G48_FE y hy) (dj_G48_F35 y hy), HB56, HOP, HO49, HE2⟩, HA, inF_HA_D20, ?_, jn_dj nin_gj_D20 dj_D20_FP (dj_symm dj_G48_D20) (fun y hy h_ => (List.mem_append.1 h_).elim (dj_D20_FE y hy) ((dj_symm dj_F35_D20) y hy))⟩
  exact jn_in (fun y hy => .inl hy) in_FL ge_HA_F35

set_option maxRecDepth 100000 in
set_option maxHeartbeats 400000 in
theorem japp_new (gj gd : Nat) (many : Int) (Ap Al : Option Addr) (cp cl : Nat) (ps : List Int) (xs : List RX) (rs : List (List UInt8)) (F FP FL FE FB : List Nat) (d dA : Dk) (n : Int) (adb : Addr) (nb cb : Nat) (r : List UInt8) (w : World) (HJ : Blk w gj #[.pointer (some ⟨gd, 0, none⟩), .int .i64 many, .slice Ap ps.length cp, .slice Al xs.length cl] 80) (HG : GDisk w gd F d) (HOP : OwnX 3 1 w FP (.slice Ap ps.length cp) (ps.map cI)) (HOL : OwnX 22 1 w FL (.slice Al xs.length cl) (xs.map cR)) (HE : EV w FE xs rs) (HV : VX cB 1 w FB (some adb) r) (hnb : r.length = nb) (hro : recOk r) (nF : gj ∉ F) (nP : gj ∉ FP) (nL : gj ∉ FL) (nE : gj ∉ FE) (nB : gj ∉ FB) (dFP : ∀ y ∈ F, y ∉ FP) (dFL : ∀ y ∈ F, y ∉ FL) (dFE : ∀ y ∈ F, y ∉ FE) (dPL : ∀ y ∈ FP, y ∉ FL) (dPE : ∀ y ∈ FP, y ∉ FE) (dLE : ∀ y ∈ FL, y ∉ FE) (dFB : ∀ y ∈ F, y ∉ FB) (dPB : ∀ y ∈ FP, y ∉ FB) (dLB : ∀ y ∈ FL, y ∉ FB) (dEB : ∀ y ∈ FE, y ∉ FB) (hok : d.Ok) (hf0 : firstN ps = 0) (hpl : ps.length ≤ 100000) (hxl : xs.length ≤ 100000) (hnn : -9223372036854775808 ≤ n ∧ n ≤ 9223372036854775807) (hdl : dA.l.length ≤ 1000000) (hmany : 1 ≤ many ∧ many ≤ 100) (d2 : Dk) (n0 : Int) (h0 : 0 < ps.length) (hlast : g0 ps (ps.length - 1) = n0) (hn0 : -9223372036854775808 ≤ n0 ∧ n0 ≤ 9223372036854775807) (hlt : ¬ (xs.length : Int) - n0 < many) (hn0p : 0 ≤ n0) (hS : sync d n0 = (0, dA)) (hnx : n = (xs.length : Int)) (hcon : ps.contains n = false) (hokA : dA.Ok) (hA1 : append dA n (encT r) = (0, d2)) (d2ok : True) :
    Calls Try.prog 28 #[.pointer (some ⟨gj, 0, none⟩), .slice (some adb) nb cb] w fun e w' => e = .returned .nilIface ∧ ∃ F' J', GDisk w' gd F' d2 ∧ Jn w' gj J' gd many (ps ++ [n]) (rs ++ [r]) ∧ Fr (gj :: (F ++ (FP ++ FL))) w w' ∧ (∀ y ∈ F', y ∈ gj :: (F ++ (FP ++ FL)) ∨ w.heap.size ≤ y) ∧ (∀ y ∈ J', y ∈ gj :: (FP ++ (FL ++ FE)) ∨ w.heap.size ≤ y) ∧ (∀ y ∈ F', y ∉ J') := by
  have HVP := VX.of_own HOP
  have hel := encT_len r hro
  have hro1 := hro.1
  have hro2 := hro.2
  have HA := Fr.refl (gj :: (F ++ (FP ++ FL))) w
  refine enter (N := 97) Try.func28 (c := _) rfl (by kernel_rfl) (by kernel_rfl) (e := [(0, .pointer (some ⟨gj, 0, none⟩)), (1, .slice (some adb) nb cb)]) (by kernel_rfl) ?_
  refine WE.seq ?_
  refine WE.region ?_
  refine WO.run 1 0 [(4, .nilIface)] (by kernel_rfl) (by kernel_rfl) ?_
  refine WO.done (by kernel_rfl) ?_
  refine WQ.keep [0, 1, 4] (e' := [(0, .pointer (some ⟨gj, 0, none⟩)), (1, .slice (some adb) nb cb), (4, .nilIface)]) (by kernel_rfl) ?_
  refine WQ.thenN ?_
  refine WE.seq ?_
  refine WE.seq ?_
  refine WE.region ?_
  refine WO.run 2 0 [(10, .int .i64 (nb : Int)), (9, .slice (some adb) nb cb)] (by kernel_rfl) (by kernel_rfl) ?_
  refine WO.one (SQ.F 2 (by kernel_rfl)) 11 (.bool (decide (((nb : Int) : Int) < (1 : Int)))) (by kernel_rfl) ?_
  refine WO.topPF (((nb : Int) : Int) < (1 : Int)) (by omega) ?_
  refine WO.run 3 3 [(14, .int .i64 (nb : Int)), (13, .slice (some adb) nb cb), (12, .bool false)] (by kernel_rfl) (by kernel_rfl) ?_
  refine WO.one (SQ.F 6 (by kernel_rfl)) 15 (.bool (decide (((nb : Int) : Int) > (4096 : Int)))) (by kernel_rfl) ?_
  refine WO.topPF (((nb : Int) : Int) > (4096 : Int)) (by omega) ?_
  refine WO.run 1 7 [(16, .bool false)] (by kernel_rfl) (by kernel_rfl) ?_
  refine WO.done (by kernel_rfl) ?_
  refine WQ.keep [0, 1, 4, 16] (e' := [(0, .pointer (some ⟨gj, 0, none⟩)), (1, .slice (some adb) nb cb), (4, .nilIface), (16, .bool false)]) (by kernel_rfl) ?_
  refine WQ.thenN ?_
  refine WE.condF (by kernel_rfl) ?_
  refine WE.skip ?_
  refine WQ.thenN ?_
  refine WE.seq ?_
  refine WE.region ?_
  refine WO.run 1 0 [(18, .pointer (some ⟨gj, 0, none⟩))] (by kernel_rfl) (by kernel_rfl) ?_
  refine WO.call (SQ.E 1 (by kernel_rfl)) 19 (by kernel_rfl) (next_j gj gd many Ap Al ps.length cp xs.length cl ps FP _ HJ HVP rfl nP (by omega) (by omega) (by rw [hf0]; omega)) ?_
  rintro _ w1 ⟨rfl, F2⟩
  rw [hf0]
  refine ⟨_, rfl, trivial, ?_⟩
  have HJ := Blk.keep HJ F2 (nin0 _)
  have HG := GDisk.keep HG F2 (fun _ _ => nin0 _)
  have HOP := HOP.keep F2 (fun _ _ => nin0 _)
  have HVP := HVP.keep F2 (fun _ _ => nin0 _)
  have HOL := HOL.keep F2 (fun _ _ => nin0 _)
  have HE := EV.keep HE F2 (fun _ _ => nin0 _)
  have HV := HV.keep F2 (fun _ _ => nin0 _)
  have HA := Fr.step0 HA F2
  refine WO.run 1 2 [(5, .int .i64 (0 + (xs.length : Int)))] (by kernel_rfl) (by kernel_rfl) ?_
  refine WO.done (by kernel_rfl) ?_
  refine WQ.keep [0, 1, 4, 5, 16] (e' := [(0, .pointer (some ⟨gj, 0, none⟩)), (1, .slice (some adb) nb cb), (4, .nilIface), (5, .int .i64 (0 + (xs.length : Int))), (16, .bool false)]) (by kernel_rfl) ?_
  refine WQ.thenN ?_
  refine WE.seq ?_
  refine WE.seq ?_
  refine WE.region ?_
  refine WO.run 3 0 [(22, .pointer (some ⟨gj, 2, none⟩)), (21, .pointer (some ⟨gj, 0, none⟩)), (20, .pointer (some ⟨gj, 0, none⟩))] (by kernel_rfl) (by kernel_rfl) ?_
  refine WO.ld (SQ.S 3 (by kernel_rfl)) 23 (.slice Ap ps.length cp) (by kernel_rfl) (same (HJ.at 2 (by kernel_rfl))) ?_
  refine WO.run 2 4 [(6, .int .i64 (ps.length : Int)), (24, .int .i64 (ps.length : Int))] (by kernel_rfl) (by kernel_rfl) ?_
  refine WO.done (by kernel_rfl) ?_
  refine WQ.keep [0, 1, 4, 5, 6, 16] (e' := [(0, .pointer (some ⟨gj, 0, none⟩)), (1, .slice (some adb) nb cb), (4, .nilIface), (5, .int .i64 (0 + (xs.length : Int))), (6, .int .i64 (ps.length : Int)), (16, .bool false)]) (by kernel_rfl) ?_
  refine WQ.thenN ?_
  refine WE.seq ?_
  refine WE.draw [.free, .free, .free, .free, .free, .free, .free, .still, .free, .free, .free, .still, .free, .free, .free, .free, .still, .free, .free] Same sameR (by kernel_rfl) 19 (Array.replicate 19 false) (by kernel_rfl) rfl ?_
  intro w3 F4 _
  have HJ := Blk.keep HJ F4 (nin0 _)
  have HG := GDisk.keep HG F4 (fun _ _ => nin0 _)
  have HOP := HOP.keep F4 (fun _ _ => nin0 _)
  have HVP := HVP.keep F4 (fun _ _ => nin0 _)
  have HOL := HOL.keep F4 (fun _ _ => nin0 _)
  have HE := EV.keep HE F4 (fun _ _ => nin0 _)
  have HV := HV.keep F4 (fun _ _ => nin0 _)
  have HA := Fr.step0 HA F4
  refine WO.one (SA.F sameR sameT _ 0 _ (by kernel_rfl)) 25 (.int .i64 (ps.length : Int)) (by kernel_rfl) ?_
  refine WO.one (SA.F sameR sameT _ 1 _ (by kernel_rfl)) 26 (.bool (decide (((ps.length : Int) : Int) > (0 : Int)))) (by kernel_rfl) ?_
  refine WO.topPT (((ps.length : Int) : Int) > (0 : Int)) (by omega) ?_
  refine WO.one (SA.F sameR sameT _ 2 _ (by kernel_rfl)) 27 (.bool true) (by kernel_rfl) ?_
  refine WO.one (SA.F sameR sameT _ 3 _ (by kernel_rfl)) 28 (.int .i64 (0 + (xs.length : Int))) (by kernel_rfl) ?_
  refine WO.one (SA.F sameR sameT _ 4 _ (by kernel_rfl)) 29 (.pointer (some ⟨gj, 0, none⟩)) (by kernel_rfl) ?_
  refine WO.one (SA.F sameR sameT _ 5 _ (by kernel_rfl)) 30 (.pointer (some ⟨gj, 0, none⟩)) (by kernel_rfl) ?_
  refine WO.one (SA.F sameR sameT _ 6 _ (by kernel_rfl)) 31 (.pointer (some ⟨gj, 2, none⟩)) (by kernel_rfl) ?_
  refine WO.ld (SA.S sameR sameT _ 7 _ (by kernel_rfl)) 32 (.slice Ap ps.length cp) (by kernel_rfl) (same (HJ.at 2 (by kernel_rfl))) ?_
  refine WO.one (SA.F sameR sameT _ 8 _ (by kernel_rfl)) 33 (.int .i64 (ps.length : Int)) (by kernel_rfl) ?_
  refine WO.one (SA.F sameR sameT _ 9 _ (by kernel_rfl)) 34 (.int .i64 (IntKind.i64.wrap ((ps.length : Int) - 1))) (by kernel_rfl) ?_
  refine WO.top (v' := .int .i64 ((ps.length - 1 : Nat) : Int)) (wrap_i64 (by omega) (by omega)) ?_
  obtain ⟨ad5, hA6⟩ := HVP.addr (i := ps.length - 1) (by have := (rfl : ps.length = _); omega)
  refine WO.ixo (SA.F sameR sameT _ 10 _ (by kernel_rfl)) 35 ps.length 1 (ps.length - 1) ((ps.length - 1 : Nat) : Int) hA6 (by kernel_rfl) rfl (by omega) ?_
  refine WO.ld (SA.S sameR sameT _ 11 _ (by kernel_rfl)) 36 (.int .i64 (g0 ps (ps.length - 1))) (by kernel_rfl) (same (HVP.at0 hA6 (g0_some ps (ps.length - 1) (by have := (rfl : ps.length = _); omega)) (by kernel_rfl))) ?_
  refine WO.one (SA.F sameR sameT _ 12 _ (by kernel_rfl)) 37 (.int .i64 (IntKind.i64.wrap ((0 + (xs.length : Int)) - (g0 ps (ps.length - 1))))) (by kernel_rfl) ?_
  refine WO.top (v' := .int .i64 ((0 + (xs.length : Int)) - (g0 ps (ps.length - 1)))) (wrap_i64 (by omega) (by omega)) ?_
  refine WO.one (SA.F sameR sameT _ 13 _ (by kernel_rfl)) 38 (.pointer (some ⟨gj, 0, none⟩)) (by kernel_rfl) ?_
  refine WO.one (SA.F sameR sameT _ 14 _ (by kernel_rfl)) 39 (.pointer (some ⟨gj, 0, none⟩)) (by kernel_rfl) ?_
  refine WO.one (SA.F sameR sameT _ 15 _ (by kernel_rfl)) 40 (.pointer (some ⟨gj, 1, none⟩)) (by kernel_rfl) ?_
  refine WO.ld (SA.S sameR sameT _ 16 _ (by kernel_rfl)) 41 (.int .i64 many) (by kernel_rfl) (same (HJ.at 1 (by kernel_rfl))) ?_
  refine WO.one (SA.F sameR sameT _ 17 _ (by kernel_rfl)) 42 (.bool (decide (((0 + (xs.length : Int)) - (g0 ps (ps.length - 1)) : Int) < many))) (by kernel_rfl) ?_
  refine WO.topPF (((0 + (xs.length : Int)) - (g0 ps (ps.length - 1)) : Int) < many) (by rw [hlast]; omega) ?_
  refine WO.one (SA.F sameR sameT _ 18 _ (by kernel_rfl)) 43 (.bool false) (by kernel_rfl) ?_
  refine WO.doneA (by kernel_rfl) ?_
  refine WQ.keep [0, 1, 4, 5, 6, 16, 43] (e' := [(0, .pointer (some ⟨gj, 0, none⟩)), (1, .slice (some adb) nb cb), (4, .nilIface), (5, .int .i64 (0 + (xs.length : Int))), (6, .int .i64 (ps.length : Int)), (16, .bool false), (43, .bool false)]) (by kernel_rfl) ?_
  refine WQ.thenN ?_
  refine WE.condF (by kernel_rfl) ?_
  refine WE.seq ?_
  refine WE.region ?_
  refine WO.run 1 0 [(52, .pointer (some ⟨gj, 0, none⟩))] (by kernel_rfl) (by kernel_rfl) ?_
  refine WO.call (SQ.E 1 (by kernel_rfl)) 53 (by kernel_rfl) (jsync_n gj gd many Ap ps.length cp _ ps FP _ HJ HVP nP rfl (by omega) n0 hlast d F HG hok hn0 nF dFP (by omega)) ?_
  rintro _ w7 ⟨rfl, D9, HG11, F8, hg10⟩
  rw [hS] at HG11 ⊢
  refine ⟨_, rfl, trivial, ?_⟩
  have nin_gj_D9 : gj ∉ D9 := grow_nin hg10 nF HJ.lt
  have dj_D9_FP : ∀ y ∈ D9, y ∉ FP := grow_dj hg10 dFP HOP.lt
  have dj_D9_FP : ∀ y ∈ D9, y ∉ FP := grow_dj hg10 dFP HVP.lt
  have dj_D9_FL : ∀ y ∈ D9, y ∉ FL := grow_dj hg10 dFL HOL.lt
  have dj_D9_FE : ∀ y ∈ D9, y ∉ FE := grow_dj hg10 dFE (EV.lt HE)
  have dj_D9_FB : ∀ y ∈ D9, y ∉ FB := grow_dj hg10 dFB HV.lt
  have inF_HA_D9 : ∀ y ∈ D9, y ∈ gj :: (F ++ (FP ++ FL)) ∨ (World.heap w).size ≤ y := grow_in hg10 (fun y hy => .inl (by simp [hy])) HA.size
  have HJ := Blk.keep HJ F8 nF
  have HOP := HOP.keep F8 (dj_symm dFP)
  have HVP := HVP.keep F8 (dj_symm dFP)
  have HOL := HOL.keep F8 (dj_symm dFL)
  have HE := EV.keep HE F8 (dj_symm dFE)
  have HV := HV.keep F8 (dj_symm dFB)
  have HA := Fr.step HA F8 (fun y hy => .inl (by simp [hy]))
  refine WO.run 1 2 [(7, .nilIface)] (by kernel_rfl) (by kernel_rfl) ?_
  refine WO.done (by kernel_rfl) ?_
  refine WQ.keep [0, 1, 4, 5, 6, 7, 16, 43] (e' := [(0, .pointer (some ⟨gj, 0, none⟩)), (1, .slice (some adb) nb cb), (4, .nilIface), (5, .int .i64 (0 + (xs.length : Int))), (6, .int .i64 (ps.length : Int)), (7, .nilIface), (16, .bool false), (43, .bool false)]) (by kernel_rfl) ?_
  refine WQ.thenN ?_
  refine WE.seq ?_
  refine WE.region ?_
  refine WO.run 2 0 [(55, .bool false), (54, .nilIface)] (by kernel_rfl) (by kernel_rfl) ?_
  refine WO.done (by kernel_rfl) ?_
  refine WQ.keep [0, 1, 4, 5, 6, 7, 16, 43, 55] (e' := [(0, .pointer (some ⟨gj, 0, none⟩)), (1, .slice (some adb) nb cb), (4, .nilIface), (5, .int .i64 (0 + (xs.length : Int))), (6, .int .i64 (ps.length : Int)), (7, .nilIface), (16, .bool false), (43, .bool false), (55, .bool false)]) (by kernel_rfl) ?_
  refine WQ.thenN ?_
  refine WE.condF (by kernel_rfl) ?_
  refine WE.skip ?_
  refine WQ.thenN ?_
  refine WE.seq ?_
  refine WE.seq ?_
  rw [show (0 + (xs.length : Int)) = n by omega]
  have hz12 : (World.heap w7).size ≤ (World.heap w7).size := Nat.le_refl _
  have ltz_gj := HJ.lt
  have ltz_FP := HOP.lt
  have ltz_FP := HVP.lt
  have ltz_FL := HOL.lt
  have ltz_FE := EV.lt HE
  have ltz_FB := HV.lt
  have ltz_D9 := GDisk.lt HG11
  refine WE.draw [.free, .free, .free, .still, .free, .free, .still, .effR, .eff, .free] (FrB (World.heap w7).size) (frBR _) (by kernel_rfl) 10 (Array.replicate 10 false) (by kernel_rfl) rfl ?_
  intro w13 F14 _
  have HJ := Blk.keep HJ F14 (nin0 _)
  have HOP := HOP.keep F14 (fun _ _ => nin0 _)
  have HVP := HVP.keep F14 (fun _ _ => nin0 _)
  have HOL := HOL.keep F14 (fun _ _ => nin0 _)
  have HE := EV.keep HE F14 (fun _ _ => nin0 _)
  have HV := HV.keep F14 (fun _ _ => nin0 _)
  have HG11 := GDisk.keep HG11 F14 (fun _ _ => nin0 _)
  have hz12 := Nat.le_trans hz12 F14.size
  have HA := Fr.step0 HA F14
  refine WO.one (SA.F (frBR _) (frBT _) _ 0 _ (by kernel_rfl)) 57 (.pointer (some ⟨gj, 0, none⟩)) (by kernel_rfl) ?_
  refine WO.one (SA.F (frBR _) (frBT _) _ 1 _ (by kernel_rfl)) 58 (.pointer (some ⟨gj, 0, none⟩)) (by kernel_rfl) ?_
  refine WO.one (SA.F (frBR _) (frBT _) _ 2 _ (by kernel_rfl)) 59 (.pointer (some ⟨gj, 0, none⟩)) (by kernel_rfl) ?_
  refine WO.ld (SA.S (frBR _) (frBT _) _ 3 _ (by kernel_rfl)) 60 (.pointer (some ⟨gd, 0, none⟩)) (by kernel_rfl) (fun _ k => (HJ.keepB k ltz_gj).at 0 (by kernel_rfl)) ?_
  refine WO.one (SA.F (frBR _) (frBT _) _ 4 _ (by kernel_rfl)) 61 (.int .i64 n) (by kernel_rfl) ?_
  refine WO.one (SA.F (frBR _) (frBT _) _ 5 _ (by kernel_rfl)) 62 (.slice (some adb) nb cb) (by kernel_rfl) ?_
  refine WO.b2s (v := .slice (some adb) nb cb) (SA.S (frBR _) (frBT _) _ 6 _ (by kernel_rfl)) 63 byt r (n := nb) hnb (by kernel_rfl) (fun _ k_ => ((HV.keepB k_ ltz_FB).srcN hnb (cB_len _) (cB_one _) cb)) ?_
  refine WO.call (SA.ER _ 7 _ (by kernel_rfl) rfl) 64 (by kernel_rfl) (Wire.text_w (str r) none 0 0 [] [] _ (VX.nil _ _) rfl (by simp) (by rw [str_size]; omega)) ?_
  rintro _ w15 ⟨b17, cap18, rfl, HR19, F16, le20⟩
  rw [List.nil_append, bs_str] at HR19 ⊢
  refine ⟨_, rfl, (frB_of hz12 (by simp)) _ F16, ?_⟩
  have ne_gj_b17 : gj ≠ b17 := Nat.ne_of_lt (Nat.lt_of_lt_of_le HJ.lt le20)
  have nin_b17_FP : b17 ∉ FP := new_nin HOP.lt le20
  have nin_b17_FP : b17 ∉ FP := new_nin HVP.lt le20
  have nin_b17_FL : b17 ∉ FL := new_nin HOL.lt le20
  have nin_b17_FE : b17 ∉ FE := new_nin (EV.lt HE) le20
  have nin_b17_FB : b17 ∉ FB := new_nin HV.lt le20
  have nin_b17_D9 : b17 ∉ D9 := new_nin (GDisk.lt HG11) le20
  have ge_HA_b17 := Nat.le_trans HA.size le20
  have gz_hz12_b17 := Nat.le_trans hz12 le20
  have HJ := Blk.keep HJ F16 (nin0 _)
  have HOP := HOP.keep F16 (fun _ _ => nin0 _)
  have HVP := HVP.keep F16 (fun _ _ => nin0 _)
  have HOL := HOL.keep F16 (fun _ _ => nin0 _)
  have HE := EV.keep HE F16 (fun _ _ => nin0 _)
  have HV := HV.keep F16 (fun _ _ => nin0 _)
  have HG11 := GDisk.keep HG11 F16 (fun _ _ => nin0 _)
  have hz12 := Nat.le_trans hz12 F16.size
  have HA := Fr.step0 HA F16
  refine WO.call (SA.E _ 8 _ (by kernel_rfl) rfl) 65 (by kernel_rfl) (gappend gd D9 dA n (some ⟨b17, 0, none⟩) ((encT r).length) cap18 (encT r) [b17] _ HG11 hokA hnn (VX.of_row HR19) rfl (by omega) (nin_sing nin_b17_D9) hdl) ?_
  rintro _ w21 ⟨rfl, D23, HG25, F22, hg24⟩
  rw [hA1] at HG25 ⊢
  refine ⟨_, rfl, trivial, ?_⟩
  have nin_gj_D23 : gj ∉ D23 := grow_nin hg24 nin_gj_D9 HJ.lt
  have nin_b17_D23 : b17 ∉ D23 := grow_nin hg24 nin_b17_D9 HR19.lt
  have dj_D23_FP : ∀ y ∈ D23, y ∉ FP := grow_dj hg24 dj_D9_FP HOP.lt
  have dj_D23_FP : ∀ y ∈ D23, y ∉ FP := grow_dj hg24 dj_D9_FP HVP.lt
  have dj_D23_FL : ∀ y ∈ D23, y ∉ FL := grow_dj hg24 dj_D9_FL HOL.lt
  have dj_D23_FE : ∀ y ∈ D23, y ∉ FE := grow_dj hg24 dj_D9_FE (EV.lt HE)
  have dj_D23_FB : ∀ y ∈ D23, y ∉ FB := grow_dj hg24 dj_D9_FB HV.lt
  have inF_HA_D23 : ∀ y ∈ D23, y ∈ gj :: (F ++ (FP ++ FL)) ∨ (World.heap w).size ≤ y := grow_in hg24 inF_HA_D9 HA.size
  have HJ := Blk.keep HJ F22 nin_gj_D9
  have HR19 := RowB.keep HR19 F22 nin_b17_D9
  have HOP := HOP.keep F22 (dj_symm dj_D9_FP)
  have HVP := HVP.keep F22 (dj_symm dj_D9_FP)
  have HOL := HOL.keep F22 (dj_symm dj_D9_FL)
  have HE := EV.keep HE F22 (dj_symm dj_D9_FE)
  have HV := HV.keep F22 (dj_symm dj_D9_FB)
  have hz12 := Nat.le_trans hz12 F22.size
  have HA := Fr.step HA F22 inF_HA_D9
  refine WO.one (SA.F (frBR _) (frBT _) _ 9 _ (by kernel_rfl)) 8 (.nilIface) (by kernel_rfl) ?_
  refine WO.doneA (by kernel_rfl) ?_
  refine WQ.keep [0, 1, 4, 5, 6, 7, 8, 16, 43, 55] (e' := [(0, .pointer (some ⟨gj, 0, none⟩)), (1, .slice (some adb) nb cb), (4, .nilIface), (5, .int .i64 n), (6, .int .i64 (ps.length : Int)), (7, .nilIface), (8, .nilIface), (16, .bool false), (43, .bool false), (55, .bool false)]) (by kernel_rfl) ?_
  refine WQ.thenN ?_
  refine WE.seq ?_
  refine WE.region ?_
  refine WO.run 2 0 [(67, .bool false), (66, .nilIface)] (by kernel_rfl) (by kernel_rfl) ?_
  refine WO.done (by kernel_rfl) ?_
  refine WQ.keep [0, 1, 4, 5, 6, 7, 8, 16, 43, 55, 67] (e' := [(0, .pointer (some ⟨gj, 0, none⟩)), (1, .slice (some adb) nb cb), (4, .nilIface), (5, .int .i64 n), (6, .int .i64 (ps.length : Int)), (7, .nilIface), (8, .nilIface), (16, .bool false), (43, .bool false), (55, .bool false), (67, .bool false)]) (by kernel_rfl) ?_
  refine WQ.thenN ?_
  refine WE.condF (by kernel_rfl) ?_
  refine WE.skip ?_
  refine WQ.thenN ?_
  refine WE.seq ?_
  refine WE.seq ?_
  refine WE.region ?_
  refine WO.run 3 0 [(71, .pointer (some ⟨gj, 2, none⟩)), (70, .pointer (some ⟨gj, 0, none⟩)), (69, .pointer (some ⟨gj, 0, none⟩))] (by kernel_rfl) (by kernel_rfl) ?_
  refine WO.ld (SQ.S 3 (by kernel_rfl)) 72 (.slice Ap ps.length cp) (by kernel_rfl) (same (HJ.at 2 (by kernel_rfl))) ?_
  refine WO.run 1 4 [(73, .int .i64 n)] (by kernel_rfl) (by kernel_rfl) ?_
  refine WO.call (SQ.E 5 (by kernel_rfl)) 74 (by kernel_rfl) (contains_j Ap ps.length cp ps FP n _ HVP rfl (by omega)) ?_
  rintro _ w26 ⟨rfl, F27⟩
  rw [hcon]
  refine ⟨_, rfl, trivial, ?_⟩
  have HJ := Blk.keep HJ F27 (nin0 _)
  have HOP := HOP.keep F27 (fun _ _ => nin0 _)
  have HVP := HVP.keep F27 (fun _ _ => nin0 _)
  have HOL := HOL.keep F27 (fun _ _ => nin0 _)
  have HE := EV.keep HE F27 (fun _ _ => nin0 _)
  have HV := HV.keep F27 (fun _ _ => nin0 _)
  have HG25 := GDisk.keep HG25 F27 (fun _ _ => nin0 _)
  have HA := Fr.step0 HA F27
  refine WO.run 1 6 [(75, .bool true)] (by kernel_rfl) (by kernel_rfl) ?_
  refine WO.done (by kernel_rfl) ?_
  refine WQ.keep [0, 1, 4, 5, 6, 7, 8, 16, 43, 55, 67, 75] (e' := [(0, .pointer (some ⟨gj, 0, none⟩)), (1, .slice (some adb) nb cb), (4, .nilIface), (5, .int .i64 n), (6, .int .i64 (ps.length : Int)), (7, .nilIface), (8, .nilIface), (16, .bool false), (43, .bool false), (55, .bool false), (67, .bool false), (75, .bool true)]) (by kernel_rfl) ?_
  refine WQ.thenN ?_
  refine WE.condT (by kernel_rfl) ?_
  refine WE.region ?_
  refine WO.run 4 0 [(79, .pointer (some ⟨gj, 2, none⟩)), (78, .pointer (some ⟨gj, 0, none⟩)), (77, .pointer (some ⟨gj, 0, none⟩)), (76, .pointer (some ⟨gj, 0, none⟩))] (by kernel_rfl) (by kernel_rfl) ?_
  refine WO.ld (SQ.S 4 (by kernel_rfl)) 80 (.slice Ap ps.length cp) (by kernel_rfl) (same (HJ.at 2 (by kernel_rfl))) ?_
  refine WO.run 1 5 [(81, .int .i64 n)] (by kernel_rfl) (by kernel_rfl) ?_
  refine WO.bx (SQ.E 6 (by kernel_rfl)) 82 #[.int .i64 n] 3 (fun g => .slice (some ⟨g, 0, none⟩) 1 1) (by kernel_rfl) (fun _ _ => trivial) ?_
  intro g28 w29 HB31 F30 le32 _
  have ne_gj_g28 : gj ≠ g28 := Nat.ne_of_lt (Nat.lt_of_lt_of_le HJ.lt le32)
  have nin_g28_FP : g28 ∉ FP := new_nin HOP.lt le32
  have nin_g28_FP : g28 ∉ FP := new_nin HVP.lt le32
  have nin_g28_FL : g28 ∉ FL := new_nin HOL.lt le32
  have nin_g28_FE : g28 ∉ FE := new_nin (EV.lt HE) le32
  have nin_g28_FB : g28 ∉ FB := new_nin HV.lt le32
  have nin_g28_D23 : g28 ∉ D23 := new_nin (GDisk.lt HG25) le32
  have ge_HA_g28 := Nat.le_trans HA.size le32
  have HJ := Blk.keep HJ F30 (nin0 _)
  have HOP := HOP.keep F30 (fun _ _ => nin0 _)
  have HVP := HVP.keep F30 (fun _ _ => nin0 _)
  have HOL := HOL.keep F30 (fun _ _ => nin0 _)
  have HE := EV.keep HE F30 (fun _ _ => nin0 _)
  have HV := HV.keep F30 (fun _ _ => nin0 _)
  have HG25 := GDisk.keep HG25 F30 (fun _ _ => nin0 _)
  have HA := Fr.step0 HA F30
  refine WO.appX (SQ.E 7 (by kernel_rfl)) 83 (m := 1) (ys := List.map cI ([n])) et_i HOP (by rw [List.length_map] <;> first | rfl | omega | (simp <;> omega)) (RowB.src (RowB.of_blk (n := 1) HB31 (List.map cI [n]) rfl rfl (cI_len _) (cI_one _) (by omega))) (cI_len _) (cI_one _) (by kernel_rfl) (by rw [List.length_map]; first | omega | (simp only [List.length_nil]; omega)) (by rw [List.length_map]; first | omega | (simp only [List.length_nil]; omega)) (fun _ _ => trivial) ?_
  intro v38 w39 G40 HO41 F42 hg43
  rw [← List.map_append] at HO41
  have nin_gj_G40 : gj ∉ G40 := grow_nin hg43 nP HJ.lt
  have nin_g28_G40 : g28 ∉ G40 := grow_nin hg43 nin_g28_FP HB31.lt
  have dj_G40_FL : ∀ y ∈ G40, y ∉ FL := grow_dj hg43 dPL HOL.lt
  have dj_G40_FE : ∀ y ∈ G40, y ∉ FE := grow_dj hg43 dPE (EV.lt HE)
  have dj_G40_FB : ∀ y ∈ G40, y ∉ FB := grow_dj hg43 dPB HV.lt
  have dj_G40_D23 : ∀ y ∈ G40, y ∉ D23 := grow_dj hg43 (dj_symm dj_D23_FP) (GDisk.lt HG25)
  have inF_HA_G40 : ∀ y ∈ G40, y ∈ gj :: (F ++ (FP ++ FL)) ∨ (World.heap w).size ≤ y := grow_in hg43 (fun y hy => .inl (by simp [hy])) HA.size
  have in_FP := fun y hy => (hg43 y hy).imp id (Nat.le_trans HA.size)
  have HJ := Blk.keep HJ F42 nP
  have HB31 := Blk.keep HB31 F42 nin_g28_FP
  have HOL := HOL.keep F42 (dj_symm dPL)
  have HE := EV.keep HE F42 (dj_symm dPE)
  have HV := HV.keep F42 (dj_symm dPB)
  have HG25 := GDisk.keep HG25 F42 dj_D23_FP
  have HA := Fr.step HA F42 (fun y hy => .inl (by simp [hy]))
  obtain ⟨A44, cap45, rfl⟩ := HO41.sliceN (List.length_map _)
  have := @List.length_append _ ps ([n])
  refine WO.run 2 8 [(85, .pointer (some ⟨gj, 2, none⟩)), (84, .pointer (some ⟨gj, 0, none⟩))] (by kernel_rfl) (by kernel_rfl) ?_
  refine WO.st (SQ.E 10 (by kernel_rfl)) gj 2 [.slice A44 ((ps ++ [n]).length) cap45] #[.pointer (some ⟨gd, 0, none⟩), .int .i64 many, .slice A44 ((ps ++ [n]).length) cap45, .slice Al xs.length cl] (by kernel_rfl) HJ (by kernel_rfl) (by kernel_rfl) (fun _ _ => trivial) ?_
  intro w46 HB48 F47 _
  have HB31 := Blk.keep HB31 F47 (ninC (Ne.symm ne_gj_g28) (nin0 _))
  have HOL := HOL.keep F47 (djB nL)
  have HE := EV.keep HE F47 (djB nE)
  have HV := HV.keep F47 (djB nB)
  have HG25 := GDisk.keep HG25 F47 (djB nin_gj_D23)
  have HO41 := HO41.keep F47 (djB nin_gj_G40)
  have HA := Fr.step HA F47 (inSL (by simp) inS0)
  refine WO.done (by kernel_rfl) ?_
  refine WQ.keep [0, 1, 4, 5, 6, 7, 8, 16, 43, 55, 67, 75] (e' := [(0, .pointer (some ⟨gj, 0, none⟩)), (1, .slice (some adb) nb cb), (4, .nilIface), (5, .int .i64 n), (6, .int .i64 (ps.length : Int)), (7, .nilIface), (8, .nilIface), (16, .bool false), (43, .bool false), (55, .bool false), (67, .bool false), (75, .bool true)]) (by kernel_rfl) ?_
  refine WQ.thenN ?_
  refine WE.seq ?_
  have hz49 : (World.heap w46).size ≤ (World.heap w46).size := Nat.le_refl _
  have ltz_g28 := HB31.lt
  have ltz_gj := HB48.lt
  have ltz_FL := HOL.lt
  have ltz_FE := EV.lt HE
  have ltz_FB := HV.lt
  have ltz_D23 := GDisk.lt HG25
  have ltz_G40 := HO41.lt
  refine WE.draw [.free, .free, .free, .free, .still, .free, .effR, .effR, .eff, .free, .free, .eff] (FrB (World.heap w46).size) (frBR _) (by kernel_rfl) 12 (Array.replicate 12 false) (by kernel_rfl) rfl ?_
  intro w50 F51 _
  have HB31 := Blk.keep HB31 F51 (nin0 _)
  have HB48 := Blk.keep HB48 F51 (nin0 _)
  have HOL := HOL.keep F51 (fun _ _ => nin0 _)
  have HE := EV.keep HE F51 (fun _ _ => nin0 _)
  have HV := HV.keep F51 (fun _ _ => nin0 _)
  have HG25 := GDisk.keep HG25 F51 (fun _ _ => nin0 _)
  have HO41 := HO41.keep F51 (fun _ _ => nin0 _)
  have hz49 := Nat.le_trans hz49 F51.size
  have HA := Fr.step0 HA F51
  refine WO.one (SA.F (frBR _) (frBT _) _ 0 _ (by kernel_rfl)) 86 (.pointer (some ⟨gj, 0, none⟩)) (by kernel_rfl) ?_
  refine WO.one (SA.F (frBR _) (frBT _) _ 1 _ (by kernel_rfl)) 87 (.pointer (some ⟨gj, 0, none⟩)) (by kernel_rfl) ?_
  refine WO.one (SA.F (frBR _) (frBT _) _ 2 _ (by kernel_rfl)) 88 (.pointer (some ⟨gj, 0, none⟩)) (by kernel_rfl) ?_
  refine WO.one (SA.F (frBR _) (frBT _) _ 3 _ (by kernel_rfl)) 89 (.pointer (some ⟨gj, 3, none⟩)) (by kernel_rfl) ?_
  refine WO.ld (SA.S (frBR _) (frBT _) _ 4 _ (by kernel_rfl)) 90 (.slice Al xs.length cl) (by kernel_rfl) (fun _ k => (HB48.keepB k ltz_gj).at 3 (by kernel_rfl)) ?_
  refine WO.one (SA.F (frBR _) (frBT _) _ 5 _ (by kernel_rfl)) 91 (.slice (some adb) nb cb) (by kernel_rfl) ?_
  refine WO.call (SA.ER _ 6 _ (by kernel_rfl) rfl) 92 (by kernel_rfl) (clone_v adb nb cb r FB _ HV hnb (by omega)) ?_
  rintro _ w52 ⟨b54, cp55, rfl, hc58, HVc56, F53, ge57⟩
  refine ⟨_, rfl, (frB_of hz49 (by simp)) _ F53, ?_⟩
  have ne_g28_b54 : g28 ≠ b54 := Nat.ne_of_lt (Nat.lt_of_lt_of_le HB31.lt ge57)
  have ne_gj_b54 : gj ≠ b54 := Nat.ne_of_lt (Nat.lt_of_lt_of_le HB48.lt ge57)
  have nin_b54_FL : b54 ∉ FL := new_nin HOL.lt ge57
  have nin_b54_FE : b54 ∉ FE := new_nin (EV.lt HE) ge57
  have nin_b54_FB : b54 ∉ FB := new_nin HV.lt ge57
  have nin_b54_D23 : b54 ∉ D23 := new_nin (GDisk.lt HG25) ge57
  have nin_b54_G40 : b54 ∉ G40 := new_nin HO41.lt ge57
  have ge_HA_b54 := Nat.le_trans HA.size ge57
  have gz_hz49_b54 := Nat.le_trans hz49 ge57
  obtain ⟨F59, hF59⟩ : ∃ F_, F_ = [b54] := ⟨_, rfl⟩
  rw [← hF59] at HVc56
  have nin_g28_F59 : g28 ∉ F59 := by rw [hF59]; simpa using ne_g28_b54
  have nin_gj_F59 : gj ∉ F59 := by rw [hF59]; simpa using ne_gj_b54
  have dj_F59_FL : ∀ y ∈ F59, y ∉ FL := by rw [hF59]; intro y hy; rw [List.mem_singleton.1 hy]; exact nin_b54_FL
  have dj_F59_FE : ∀ y ∈ F59, y ∉ FE := by rw [hF59]; intro y hy; rw [List.mem_singleton.1 hy]; exact nin_b54_FE
  have dj_F59_FB : ∀ y ∈ F59, y ∉ FB := by rw [hF59]; intro y hy; rw [List.mem_singleton.1 hy]; exact nin_b54_FB
  have dj_F59_D23 : ∀ y ∈ F59, y ∉ D23 := by rw [hF59]; intro y hy; rw [List.mem_singleton.1 hy]; exact nin_b54_D23
  have dj_F59_G40 : ∀ y ∈ F59, y ∉ G40 := by rw [hF59]; intro y hy; rw [List.mem_singleton.1 hy]; exact nin_b54_G40
  have ge_HA_F59 : ∀ y ∈ F59, (World.heap w).size ≤ y := by rw [hF59]; intro y hy; rw [List.mem_singleton.1 hy]; exact ge_HA_b54
  have HB31 := Blk.keep HB31 F53 (nin0 _)
  have HB48 := Blk.keep HB48 F53 (nin0 _)
  have HOL := HOL.keep F53 (fun _ _ => nin0 _)
  have HE := EV.keep HE F53 (fun _ _ => nin0 _)
  have HV := HV.keep F53 (fun _ _ => nin0 _)
  have HG25 := GDisk.keep HG25 F53 (fun _ _ => nin0 _)
  have HO41 := HO41.keep F53 (fun _ _ => nin0 _)
  have hz49 := Nat.le_trans hz49 F53.size
  have HA := Fr.step0 HA F53
  refine WO.bx (SA.ER _ 7 _ (by kernel_rfl) rfl) 93 #[.slice (some ⟨b54, 0, none⟩) nb cp55] 22 (fun g => .slice (some ⟨g, 0, none⟩) 1 1) (by kernel_rfl) (frB_of hz49 (by simp)) ?_
  intro g60 w61 HB63 F62 le64 _
  have ne_g28_g60 : g28 ≠ g60 := Nat.ne_of_lt (Nat.lt_of_lt_of_le HB31.lt le64)
  have ne_gj_g60 : gj ≠ g60 := Nat.ne_of_lt (Nat.lt_of_lt_of_le HB48.lt le64)
  have nin_g60_FL : g60 ∉ FL := new_nin HOL.lt le64
  have nin_g60_FE : g60 ∉ FE := new_nin (EV.lt HE) le64
  have nin_g60_FB : g60 ∉ FB := new_nin HV.lt le64
  have nin_g60_D23 : g60 ∉ D23 := new_nin (GDisk.lt HG25) le64
  have nin_g60_G40 : g60 ∉ G40 := new_nin HO41.lt le64
  have nin_g60_F59 : g60 ∉ F59 := new_nin HVc56.lt le64
  have ge_HA_g60 := Nat.le_trans HA.size le64
  have gz_hz49_g60 := Nat.le_trans hz49 le64
  have HB31 := Blk.keep HB31 F62 (nin0 _)
  have HB48 := Blk.keep HB48 F62 (nin0 _)
  have HOL := HOL.keep F62 (fun _ _ => nin0 _)
  have HE := EV.keep HE F62 (fun _ _ => nin0 _)
  have HV := HV.keep F62 (fun _ _ => nin0 _)
  have HG25 := GDisk.keep HG25 F62 (fun _ _ => nin0 _)
  have HO41 := HO41.keep F62 (fun _ _ => nin0 _)
  have HVc56 := HVc56.keep F62 (fun _ _ => nin0 _)
  have hz49 := Nat.le_trans hz49 F62.size
  have HA := Fr.step0 HA F62
  refine WO.appX (SA.E _ 8 _ (by kernel_rfl) rfl) 94 (m := 1) (ys := List.map cR ([(((some ⟨b54, 0, none⟩), nb, cp55) : RX)])) et_r HOL (by rw [List.length_map] <;> first | rfl | omega | (simp <;> omega)) (RowB.src (RowB.of_blk (n := 1) HB63 (List.map cR [(((some ⟨b54, 0, none⟩), nb, cp55) : RX)]) rfl rfl (cR_len _) (cR_one _) (by omega))) (cR_len _) (cR_one _) (by kernel_rfl) (by rw [List.length_map]; first | omega | (simp only [List.length_nil]; omega)) (by rw [List.length_map]; first | omega | (simp only [List.length_nil]; omega)) (fun _ _ => trivial) ?_
  intro v70 w71 G72 HO73 F74 hg75
  rw [← List.map_append] at HO73
  have nin_g28_G72 : g28 ∉ G72 := grow_nin hg75 nin_g28_FL HB31.lt
  have nin_gj_G72 : gj ∉ G72 := grow_nin hg75 nL HB48.lt
  have nin_g60_G72 : g60 ∉ G72 := grow_nin hg75 nin_g60_FL HB63.lt
  have dj_G72_FE : ∀ y ∈ G72, y ∉ FE := grow_dj hg75 dLE (EV.lt HE)
  have dj_G72_FB : ∀ y ∈ G72, y ∉ FB := grow_dj hg75 dLB HV.lt
  have dj_G72_D23 : ∀ y ∈ G72, y ∉ D23 := grow_dj hg75 (dj_symm dj_D23_FL) (GDisk.lt HG25)
  have dj_G72_G40 : ∀ y ∈ G72, y ∉ G40 := grow_dj hg75 (dj_symm dj_G40_FL) HO41.lt
  have dj_G72_F59 : ∀ y ∈ G72, y ∉ F59 := grow_dj hg75 (dj_symm dj_F59_FL) HVc56.lt
  have inF_HA_G72 : ∀ y ∈ G72, y ∈ gj :: (F ++ (FP ++ FL)) ∨ (World.heap w).size ≤ y := grow_in hg75 (fun y hy => .inl (by simp [hy])) HA.size
  have in_FL := fun y hy => (hg75 y hy).imp id (Nat.le_trans HA.size)
  have HB31 := Blk.keep HB31 F74 nin_g28_FL
  have HB48 := Blk.keep HB48 F74 nL
  have HB63 := Blk.keep HB63 F74 nin_g60_FL
  have HE := EV.keep HE F74 (dj_symm dLE)
  have HV := HV.keep F74 (dj_symm dLB)
  have HG25 := GDisk.keep HG25 F74 dj_D23_FL
  have HO41 := HO41.keep F74 dj_G40_FL
  have HVc56 := HVc56.keep F74 dj_F59_FL
  have hz49 := Nat.le_trans hz49 F74.size
  have HA := Fr.step HA F74 (fun y hy => .inl (by simp [hy]))
  obtain ⟨A76, cap77, rfl⟩ := HO73.sliceN (List.length_map _)
  have := @List.length_append _ xs ([(((some ⟨b54, 0, none⟩), nb, cp55) : RX)])
  refine WO.one (SA.F (frBR _) (frBT _) _ 9 _ (by kernel_rfl)) 95 (.pointer (some ⟨gj, 0, none⟩)) (by kernel_rfl) ?_
  refine WO.one (SA.F (frBR _) (frBT _) _ 10 _ (by kernel_rfl)) 96 (.pointer (some ⟨gj, 3, none⟩)) (by kernel_rfl) ?_
  refine WO.st (SA.E _ 11 _ (by kernel_rfl) rfl) gj 3 [.slice A76 ((xs ++ [(((some ⟨b54, 0, none⟩), nb, cp55) : RX)]).length) cap77] #[.pointer (some ⟨gd, 0, none⟩), .int .i64 many, .slice A44 ((ps ++ [n]).length) cap45, .slice A76 ((xs ++ [(((some ⟨b54, 0, none⟩), nb, cp55) : RX)]).length) cap77] (by kernel_rfl) HB48 (by kernel_rfl) (by kernel_rfl) (fun _ _ => trivial) ?_
  intro w78 HB80 F79 _
  have HB31 := Blk.keep HB31 F79 (ninC (Ne.symm ne_gj_g28) (nin0 _))
  have HB63 := Blk.keep HB63 F79 (ninC (Ne.symm ne_gj_g60) (nin0 _))
  have HE := EV.keep HE F79 (djB nE)
  have HV := HV.keep F79 (djB nB)
  have HG25 := GDisk.keep HG25 F79 (djB nin_gj_D23)
  have HO41 := HO41.keep F79 (djB nin_gj_G40)
  have HVc56 := HVc56.keep F79 (djB nin_gj_F59)
  have HO73 := HO73.keep F79 (djB nin_gj_G72)
  have hz49 := Nat.le_trans hz49 F79.size
  have HA := Fr.step HA F79 (inSL (by simp) inS0)
  refine WO.doneA (by kernel_rfl) ?_
  refine WQ.keep [0, 1, 4, 5, 6, 7, 8, 16, 43, 55, 67, 75] (e' := [(0, .pointer (some ⟨gj, 0, none⟩)), (1, .slice (some adb) nb cb), (4, .nilIface), (5, .int .i64 n), (6, .int .i64 (ps.length : Int)), (7, .nilIface), (8, .nilIface), (16, .bool false), (43, .bool false), (55, .bool false), (67, .bool false), (75, .bool true)]) (by kernel_rfl) ?_
  refine WQ.thenN ?_
  refine WE.seq ?_
  refine WE.region ?_
  refine WO.run 1 0 [(4, .nilIface)] (by kernel_rfl) (by kernel_rfl) ?_
  refine WO.done (by kernel_rfl) ?_
  refine WQ.keep [0, 1, 4, 5, 6, 7, 8, 16, 43, 55, 67, 75] (e' := [(0, .pointer (some ⟨gj, 0, none⟩)), (1, .slice (some adb) nb cb), (4, .nilIface), (5, .int .i64 n), (6, .int .i64 (ps.length : Int)), (7, .nilIface), (8, .nilIface), (16, .bool false), (43, .bool false), (55, .bool false), (67, .bool false), (75, .bool true)]) (by kernel_rfl) ?_
  refine WQ.thenN ?_
  refine WE.ret ?_
  refine WQ.ret (v := .nilIface) (by kernel_rfl) ?_
  have HE2 := HE.push HVc56 (c := cp55) hnb.symm (by omega)
  refine ⟨rfl, D23, gj :: (G40 ++ (G72 ++ (FE ++ F59))), HG25, ⟨_, _, G40, G72, FE ++ F59, _, rfl, nin_gj_G40, nin_gj_G72, fun h_ => (List.mem_append.1 h_).elim nE nin_gj_F59, (dj_symm dj_G72_G40), fun y hy h_ => (List.mem_append.1 h_).elim (dj_G40_FE y hy) ((dj_symm dj_F59_G40) y hy), fun y hy h_ => (List.mem_append.1 h_).elim (dj_G72_FE y hy) (dj_G72_F59 y hy), HB80, HO41, HO73, HE2⟩, HA, inF_HA_D23, ?_, jn_dj nin_gj_D23 (dj_symm dj_G40_D23) (dj_symm dj_G72_D23) (fun y hy h_ => (List.mem_append.1 h_).elim (dj_D23_FE y hy) ((dj_symm dj_F59_D23) y hy))⟩
  exact jn_in in_FP in_FL ge_HA_F59
end Go.Proofs.Ytkhibpdkgjapgaa.Jrn
