/- Layer 8's law DiskPlays. -/
import Derived.Test.YtkhibpdkgjapgaaDiskS
set_option linter.unusedVariables false
set_option linter.unusedSimpArgs false
namespace Go.Proofs.Ytkhibpdkgjapgaa.Disk
open Go Go.RowKit Go.Proofs.Ytkhibpdkgjapgaa Go.Proofs.Ytkhibpdkgjapgaa.Eng Go.Proofs.YtkhibpdkgjapgaaW.PrintWords
set_option maxRecDepth 100000 in
set_option maxHeartbeats 400000 in
theorem plays_ok (room : Int) (AL : Option Addr) (nL cL : Nat) (q : List GD) (FL : List Nat) (w : World) (hroom : -9223372036854775808 ≤ room ∧ room ≤ 9223372036854775807) (HVl : VX cD 4 w FL AL q) (hnL : q.length = nL) (hnm : nL ≤ 9223372036854775807) (hbad : ¬ (room < 1 ∨ 65536 < room)) (hq : ∀ x ∈ q, (-9223372036854775808 ≤ x.what ∧ x.what ≤ 9223372036854775807) ∧ (-9223372036854775808 ≤ x.n ∧ x.n ≤ 9223372036854775807) ∧ (-9223372036854775808 ≤ x.z ∧ x.z ≤ 9223372036854775807) ∧ VX cB 1 w x.F x.A x.b ∧ (∀ y ∈ x.F, y < w.heap.size) ∧ x.b.length ≤ 9223372036854775807) :
    Calls Try.prog 4 #[.int .i64 room, .slice AL nL cL] w fun e w' => e = .returned (.bool true) ∧ Fr [] w w' := by
  have ok0 : Dk.Ok ⟨room, [], false⟩ := ⟨List.Pairwise.nil, by simp, by simp only; omega, by simp only [usedL, List.map_nil, List.sum_nil]; omega, by simp⟩
  have hFL := HVl.lt
  have HA := Fr.refl [] w
  refine enter (N := 271) Try.func4 (c := _) rfl (by kernel_rfl) (by kernel_rfl) (e := [(0, .int .i64 room), (1, .slice AL nL cL)]) (by kernel_rfl) ?_
  refine WE.seq ?_
  refine WE.region ?_
  refine WO.run 1 0 [(4, .bool false)] (by kernel_rfl) (by kernel_rfl) ?_
  refine WO.done (by kernel_rfl) ?_
  refine WQ.keep [0, 1, 4] (e' := [(0, .int .i64 room), (1, .slice AL nL cL), (4, .bool false)]) (by kernel_rfl) ?_
  refine WQ.thenN ?_
  refine WE.seq ?_
  refine WE.region ?_
  refine WO.call (SQ.E 0 (by kernel_rfl)) 24 (by kernel_rfl) (up_any2 _) ?_
  rintro _ w1 ⟨rfl, F2⟩
  refine ⟨_, rfl, trivial, ?_⟩
  have HVl := HVl.keep F2 (fun _ _ => nin0 _)
  have HA := Fr.step0 HA F2
  refine WO.run 1 1 [(5, .bool true)] (by kernel_rfl) (by kernel_rfl) ?_
  refine WO.done (by kernel_rfl) ?_
  refine WQ.keep [0, 1, 4, 5] (e' := [(0, .int .i64 room), (1, .slice AL nL cL), (4, .bool false), (5, .bool true)]) (by kernel_rfl) ?_
  refine WQ.thenN ?_
  refine WE.seq ?_
  refine WE.region ?_
  refine WO.run 1 0 [(26, .int .i64 room)] (by kernel_rfl) (by kernel_rfl) ?_
  refine WO.call (SQ.E 1 (by kernel_rfl)) 27 (by kernel_rfl) (gnew room _ (by omega)) ?_
  rintro _ w3 ⟨g5, D6, rfl, HG8, F4, hg7⟩
  refine ⟨_, rfl, trivial, ?_⟩
  have dj_D6_FL : ∀ y ∈ D6, y ∉ FL := grow_dj hg7 (by simp) HVl.lt
  have ge_HA_D6 : ∀ y ∈ D6, (World.heap w).size ≤ y := grow_ge hg7 (by simp) HA.size
  have HVl := HVl.keep F4 (fun _ _ => nin0 _)
  have HA := Fr.step0 HA F4
  refine WO.run 5 2 [(7, .nilIface), (6, .pointer (some ⟨g5, 0, none⟩)), (29, .nilIface), (28, .pointer (some ⟨g5, 0, none⟩)), (25, .tuple #[.pointer (some ⟨g5, 0, none⟩), .nilIface])] (by kernel_rfl) (by kernel_rfl) ?_
  refine WO.done (by kernel_rfl) ?_
  refine WQ.keep [0, 1, 4, 5, 6, 7] (e' := [(0, .int .i64 room), (1, .slice AL nL cL), (4, .bool false), (5, .bool true), (6, .pointer (some ⟨g5, 0, none⟩)), (7, .nilIface)]) (by kernel_rfl) ?_
  refine WQ.thenN ?_
  refine WE.seq ?_
  refine WE.seq ?_
  refine WE.region ?_
  refine WO.run 1 0 [(30, .int .i64 room)] (by kernel_rfl) (by kernel_rfl) ?_
  refine WO.one (SQ.F 1 (by kernel_rfl)) 31 (.bool (decide ((room : Int) < 1))) (by kernel_rfl) ?_
  refine WO.topPF ((room : Int) < 1) (by omega) ?_
  refine WO.run 2 2 [(33, .int .i64 room), (32, .bool false)] (by kernel_rfl) (by kernel_rfl) ?_
  refine WO.one (SQ.F 4 (by kernel_rfl)) 34 (.bool (decide ((room : Int) > 65536))) (by kernel_rfl) ?_
  refine WO.topPF ((room : Int) > 65536) (by omega) ?_
  refine WO.run 1 5 [(35, .bool false)] (by kernel_rfl) (by kernel_rfl) ?_
  refine WO.done (by kernel_rfl) ?_
  refine WQ.keep [0, 1, 4, 5, 6, 7, 35] (e' := [(0, .int .i64 room), (1, .slice AL nL cL), (4, .bool false), (5, .bool true), (6, .pointer (some ⟨g5, 0, none⟩)), (7, .nilIface), (35, .bool false)]) (by kernel_rfl) ?_
  refine WQ.thenN ?_
  refine WE.condF (by kernel_rfl) ?_
  refine WE.skip ?_
  refine WQ.thenN ?_
  refine WE.seq ?_
  refine WE.seq ?_
  refine WE.region ?_
  refine WO.run 9 0 [(54, .int .i64 (nL : Int)), (53, .slice AL nL cL), (52, .bool false), (51, .bool false), (50, .bool false), (49, .nilIface), (48, .bool false), (47, .bool false), (46, .pointer (some ⟨g5, 0, none⟩))] (by kernel_rfl) (by kernel_rfl) ?_
  refine WO.one (SQ.F 9 (by kernel_rfl)) 55 (.bool (decide (((nL : Int) : Int) > (100 : Int)))) (by kernel_rfl) ?_
  refine WO.topP (((nL : Int) : Int) > (100 : Int)) ?_ ?_
  · intro h9
    refine WO.run 1 10 [(56, .bool true)] (by kernel_rfl) (by kernel_rfl) ?_
    refine WO.done (by kernel_rfl) ?_
    refine WQ.keep [0, 1, 4, 5, 6, 7, 35, 56] (e' := [(0, .int .i64 room), (1, .slice AL nL cL), (4, .bool false), (5, .bool true), (6, .pointer (some ⟨g5, 0, none⟩)), (7, .nilIface), (35, .bool false), (56, .bool true)]) (by kernel_rfl) ?_
    refine WQ.thenN ?_
    refine WE.condT (by kernel_rfl) ?_
    refine WE.seq ?_
    refine WE.region ?_
    refine WO.run 10 0 [(4, .bool true), (65, .bool true), (64, .bool true), (63, .nilIface), (62, .bool true), (61, .bool true), (60, .bool true), (59, .pointer (some ⟨g5, 0, none⟩)), (58, .bool true), (57, .bool true)] (by kernel_rfl) (by kernel_rfl) ?_
    refine WO.done (by kernel_rfl) ?_
    refine WQ.keep [0, 1, 4, 5, 6, 7, 35, 56] (e' := [(0, .int .i64 room), (1, .slice AL nL cL), (4, .bool true), (5, .bool true), (6, .pointer (some ⟨g5, 0, none⟩)), (7, .nilIface), (35, .bool false), (56, .bool true)]) (by kernel_rfl) ?_
    refine WQ.thenN ?_
    refine WE.ret ?_
    refine WQ.thenR ?_
    refine WQ.ret (v := .bool true) (by kernel_rfl) ?_
    exact ⟨rfl, HA⟩
  intro h9
  refine WO.run 1 10 [(56, .bool false)] (by kernel_rfl) (by kernel_rfl) ?_
  refine WO.done (by kernel_rfl) ?_
  refine WQ.keep [0, 1, 4, 5, 6, 7, 35, 56] (e' := [(0, .int .i64 room), (1, .slice AL nL cL), (4, .bool false), (5, .bool true), (6, .pointer (some ⟨g5, 0, none⟩)), (7, .nilIface), (35, .bool false), (56, .bool false)]) (by kernel_rfl) ?_
  refine WQ.thenN ?_
  refine WE.condF (by kernel_rfl) ?_
  refine WE.skip ?_
  refine WQ.thenN ?_
  refine WE.seq ?_
  refine WE.region ?_
  refine WO.run 2 0 [(67, .agg #[.int .i64 room, .slice none 0 0, .bool false]), (66, .int .i64 room)] (by kernel_rfl) (by kernel_rfl) ?_
  refine WO.bx (SQ.E 2 (by kernel_rfl)) 68 #[.int .i64 room, .slice none 0 0, .bool false] 40 (fun g => .pointer (some ⟨g, 0, none⟩)) (by kernel_rfl) (fun _ _ => trivial) ?_
  intro g10 w11 HB13 F12 le14 _
  have nin_g10_FL : g10 ∉ FL := new_nin HVl.lt le14
  have nin_g10_D6 : g10 ∉ D6 := new_nin (GDisk.lt HG8) le14
  have ge_HA_g10 := Nat.le_trans HA.size le14
  have HVl := HVl.keep F12 (fun _ _ => nin0 _)
  have HG8 := GDisk.keep HG8 F12 (fun _ _ => nin0 _)
  have HA := Fr.step0 HA F12
  refine WO.run 1 3 [(8, .pointer (some ⟨g10, 0, none⟩))] (by kernel_rfl) (by kernel_rfl) ?_
  refine WO.done (by kernel_rfl) ?_
  refine WQ.keep [0, 1, 4, 5, 6, 7, 8, 35, 56] (e' := [(0, .int .i64 room), (1, .slice AL nL cL), (4, .bool false), (5, .bool true), (6, .pointer (some ⟨g5, 0, none⟩)), (7, .nilIface), (8, .pointer (some ⟨g10, 0, none⟩)), (35, .bool false), (56, .bool false)]) (by kernel_rfl) ?_
  refine WQ.thenN ?_
  refine WE.seq ?_
  refine WE.seq ?_
  obtain ⟨FM, hFM⟩ : ∃ F_, F_ = [g10] := ⟨_, rfl⟩
  have HM : MDisk w11 g10 FM ⟨room, [], false⟩ := ⟨_, [], hFM, by simp, HB13, OwnX.nil _ _ _⟩
  have dj_FM_FL : ∀ y ∈ FM, y ∉ FL := by rw [hFM]; intro y hy; rw [List.mem_singleton.1 hy]; exact nin_g10_FL
  have dj_FM_D6 : ∀ y ∈ FM, y ∉ D6 := by rw [hFM]; intro y hy; rw [List.mem_singleton.1 hy]; exact nin_g10_D6
  have ge_HA_FM : ∀ y ∈ FM, (World.heap w).size ≤ y := by rw [hFM]; intro y hy; rw [List.mem_singleton.1 hy]; exact ge_HA_g10
  refine WE.region ?_
  refine WO.run 1 0 [(9, .int .i64 0)] (by kernel_rfl) (by kernel_rfl) ?_
  refine WO.done (by kernel_rfl) ?_
  refine WQ.keep [0, 1, 4, 5, 6, 7, 8, 9, 35, 56] (e' := [(0, .int .i64 room), (1, .slice AL nL cL), (4, .bool false), (5, .bool true), (6, .pointer (some ⟨g5, 0, none⟩)), (7, .nilIface), (8, .pointer (some ⟨g10, 0, none⟩)), (9, .int .i64 0), (35, .bool false), (56, .bool false)]) (by kernel_rfl) ?_
  refine WQ.thenN ?_
  refine WE.block ?_
  refine WE.loop (α := Nat × Dk × List Nat × List Nat) (E := fun ⟨i, d, F, FM⟩ => [(0, .int .i64 room), (1, .slice AL nL cL), (5, .bool true), (6, .pointer (some ⟨g5, 0, none⟩)), (8, .pointer (some ⟨g10, 0, none⟩)), (9, .int .i64 (i : Int))]) (I := fun ⟨i, d, F, FM⟩ wr => i ≤ nL ∧ d.Ok ∧ d.l.length ≤ i ∧ GDisk wr g5 F d ∧ MDisk wr g10 FM d ∧ VX cD 4 wr FL AL q ∧ (∀ y ∈ F, w.heap.size ≤ y) ∧ (∀ y ∈ FM, w.heap.size ≤ y) ∧ (∀ y ∈ F, y ∉ FM) ∧ Fr [] w wr) (m := fun ⟨i, d, F, FM⟩ => nL - i) (0, ⟨room, [], false⟩, D6, FM) [0, 1, 5, 6, 8, 9] (by kernel_rfl) ?_ ?_
  · exact ⟨Nat.zero_le _, ok0, Nat.le_refl _, HG8, HM, HVl, ge_HA_D6, ge_HA_FM, (dj_symm dj_FM_D6), HA⟩
  rintro ⟨i, d, F, FM⟩ wr ⟨hi, hok, hdl, HG, HM, HVl, hgF, hgM, hdj, HA⟩
  dsimp only at hi hok hdl HG HM hgF hgM hdj ⊢
  have hdjL : ∀ y ∈ F, y ∉ FL := fun y hy h_ => absurd (hFL y h_) (Nat.not_lt.2 (hgF y hy))
  have hdjM : ∀ y ∈ FM, y ∉ FL := fun y hy h_ => absurd (hFL y h_) (Nat.not_lt.2 (hgM y hy))
  refine WE.seq ?_
  refine WE.seq ?_
  refine WE.region ?_
  refine WO.run 3 0 [(71, .int .i64 (nL : Int)), (70, .slice AL nL cL), (69, .int .i64 (i : Int))] (by kernel_rfl) (by kernel_rfl) ?_
  refine WO.one (SQ.F 3 (by kernel_rfl)) 72 (.bool (decide (((i : Int) : Int) < (nL : Int)))) (by kernel_rfl) ?_
  refine WO.topP (((i : Int) : Int) < (nL : Int)) ?_ ?_
  · intro h15
    refine WO.done (by kernel_rfl) ?_
    refine WQ.keep [0, 1, 5, 6, 8, 9, 72] (e' := [(0, .int .i64 room), (1, .slice AL nL cL), (5, .bool true), (6, .pointer (some ⟨g5, 0, none⟩)), (8, .pointer (some ⟨g10, 0, none⟩)), (9, .int .i64 (i : Int)), (72, .bool true)]) (by kernel_rfl) ?_
    refine WQ.thenN ?_
    refine WE.condT (by kernel_rfl) ?_
    refine WE.skip ?_
    refine WQ.thenN ?_
    refine WE.seq ?_
    refine WE.block ?_
    refine WE.seq ?_
    have hmem : gD q i ∈ q := gD_mem q i (by omega)
    obtain ⟨hwh, hnn, hzz, hVi, hFi, hbl⟩ := hq _ hmem
    refine WE.region ?_
    refine WO.run 2 0 [(76, .int .i64 (i : Int)), (75, .slice AL nL cL)] (by kernel_rfl) (by kernel_rfl) ?_
    obtain ⟨ad16, hA17⟩ := HVl.addr (i := i) (by have := hnL; omega)
    refine WO.ixo (SQ.F 2 (by kernel_rfl)) 77 nL 4 i (i : Int) hA17 (by kernel_rfl) rfl (by omega) ?_
    refine WO.ldA (ad := (ad16.add (i * 4))) (SQ.S 3 (by kernel_rfl)) 78 [.int .i64 ((gD q i).what), .int .i64 ((gD q i).n), .int .i64 ((gD q i).z), .slice ((gD q i).A) ((gD q i).b.length) ((gD q i).cap)] (by kernel_rfl) (by kernel_rfl) (fun _ hw_ _ hj_ => by subst hw_; exact HVl.part0 hA17 (gD_some q i (by have := hnL; omega)) [.int .i64 ((gD q i).what), .int .i64 ((gD q i).n), .int .i64 ((gD q i).z), .slice ((gD q i).A) ((gD q i).b.length) ((gD q i).cap)] (by kernel_rfl) _ hj_) ?_
    refine WO.bx (SQ.E 4 (by kernel_rfl)) 10 #[.int .i64 0, .int .i64 0, .int .i64 0, .slice none 0 0] 42 (fun g => .pointer (some ⟨g, 0, none⟩)) (by kernel_rfl) (fun _ _ => trivial) ?_
    intro g18 w19 HB21 F20 le22 _
    have nin_g18_F : g18 ∉ F := new_nin (GDisk.lt HG) le22
    have nin_g18_FM : g18 ∉ FM := new_nin (MDisk.lt HM) le22
    have nin_g18_FL : g18 ∉ FL := new_nin HVl.lt le22
    have ge_HA_g18 := Nat.le_trans HA.size le22
    have HG := GDisk.keep HG F20 (fun _ _ => nin0 _)
    have HM := MDisk.keep HM F20 (fun _ _ => nin0 _)
    have HVl := HVl.keep F20 (fun _ _ => nin0 _)
    have HA := Fr.step0 HA F20
    refine WO.st (SQ.E 5 (by kernel_rfl)) g18 0 [.int .i64 ((gD q i).what), .int .i64 ((gD q i).n), .int .i64 ((gD q i).z), .slice ((gD q i).A) ((gD q i).b.length) ((gD q i).cap)] #[.int .i64 ((gD q i).what), .int .i64 ((gD q i).n), .int .i64 ((gD q i).z), .slice ((gD q i).A) ((gD q i).b.length) ((gD q i).cap)] (by kernel_rfl) HB21 (by kernel_rfl) (by kernel_rfl) (fun _ _ => trivial) ?_
    intro w23 HB25 F24 _
    have HG := GDisk.keep HG F24 (djB nin_g18_F)
    have HM := MDisk.keep HM F24 (djB nin_g18_FM)
    have HVl := HVl.keep F24 (djB nin_g18_FL)
    have HA := Fr.step HA F24 (inSR ge_HA_g18 inS0)
    refine WO.done (by kernel_rfl) ?_
    refine WQ.keep [0, 1, 5, 6, 8, 9, 10, 72] (e' := [(0, .int .i64 room), (1, .slice AL nL cL), (5, .bool true), (6, .pointer (some ⟨g5, 0, none⟩)), (8, .pointer (some ⟨g10, 0, none⟩)), (9, .int .i64 (i : Int)), (10, .pointer (some ⟨g18, 0, none⟩)), (72, .bool true)]) (by kernel_rfl) ?_
    refine WQ.thenN ?_
    refine WE.seq ?_
    refine WE.seq ?_
    refine WE.region ?_
    refine WO.run 1 0 [(79, .pointer (some ⟨g18, 3, none⟩))] (by kernel_rfl) (by kernel_rfl) ?_
    refine WO.ld (SQ.S 1 (by kernel_rfl)) 80 (.slice ((gD q i).A) ((gD q i).b.length) ((gD q i).cap)) (by kernel_rfl) (same (HB25.at 3 (by kernel_rfl))) ?_
    refine WO.run 1 2 [(81, .int .i64 ((gD q i).b.length : Int))] (by kernel_rfl) (by kernel_rfl) ?_
    refine WO.one (SQ.F 3 (by kernel_rfl)) 82 (.bool (decide ((((gD q i).b.length : Int) : Int) > (500 : Int)))) (by kernel_rfl) ?_
    refine WO.topP ((((gD q i).b.length : Int) : Int) > (500 : Int)) ?_ ?_
    · intro h26
      refine WO.done (by kernel_rfl) ?_
      refine WQ.keep [0, 1, 5, 6, 8, 9, 10, 72, 82] (e' := [(0, .int .i64 room), (1, .slice AL nL cL), (5, .bool true), (6, .pointer (some ⟨g5, 0, none⟩)), (8, .pointer (some ⟨g10, 0, none⟩)), (9, .int .i64 (i : Int)), (10, .pointer (some ⟨g18, 0, none⟩)), (72, .bool true), (82, .bool true)]) (by kernel_rfl) ?_
      refine WQ.thenN ?_
      refine WE.condT (by kernel_rfl) ?_
      refine WE.seq ?_
      refine WE.region ?_
      refine WO.run 2 0 [(4, .bool true), (83, .bool true)] (by kernel_rfl) (by kernel_rfl) ?_
      refine WO.done (by kernel_rfl) ?_
      refine WQ.keep [0, 1, 4, 5, 6, 8, 9, 10, 72, 82] (e' := [(0, .int .i64 room), (1, .slice AL nL cL), (4, .bool true), (5, .bool true), (6, .pointer (some ⟨g5, 0, none⟩)), (8, .pointer (some ⟨g10, 0, none⟩)), (9, .int .i64 (i : Int)), (10, .pointer (some ⟨g18, 0, none⟩)), (72, .bool true), (82, .bool true)]) (by kernel_rfl) ?_
      refine WQ.thenN ?_
      refine WE.ret ?_
      refine WQ.thenR ?_
      refine WQ.blkR ?_
      refine WQ.thenR ?_
      refine WQ.thenR ?_
      refine WQ.blkR ?_
      refine WQ.thenR ?_
      refine WQ.ret (v := .bool true) (by kernel_rfl) ?_
      exact ⟨rfl, HA⟩
    intro h26
    refine WO.done (by kernel_rfl) ?_
    refine WQ.keep [0, 1, 5, 6, 8, 9, 10, 72, 82] (e' := [(0, .int .i64 room), (1, .slice AL nL cL), (5, .bool true), (6, .pointer (some ⟨g5, 0, none⟩)), (8, .pointer (some ⟨g10, 0, none⟩)), (9, .int .i64 (i : Int)), (10, .pointer (some ⟨g18, 0, none⟩)), (72, .bool true), (82, .bool false)]) (by kernel_rfl) ?_
    refine WQ.thenN ?_
    refine WE.condF (by kernel_rfl) ?_
    refine WE.skip ?_
    refine WQ.thenN ?_
    refine WE.seq ?_
    have HVi := hVi.keep HA (fun _ _ => nin0 _)
    obtain ⟨Fi, hFie⟩ : ∃ F_, F_ = (gD q i).F := ⟨_, rfl⟩
    rw [← hFie] at HVi hFi
    have dji_F : ∀ y ∈ F, y ∉ Fi := fun y hy h_ => absurd (hFi y h_) (Nat.not_lt.2 (hgF y hy))
    have dji_FM : ∀ y ∈ FM, y ∉ Fi := fun y hy h_ => absurd (hFi y h_) (Nat.not_lt.2 (hgM y hy))
    have ninFi_g18 : g18 ∉ Fi := fun h_ => absurd (hFi _ h_) (Nat.not_lt.2 ge_HA_g18)
    refine WE.region ?_
    refine WO.bx (SQ.E 0 (by kernel_rfl)) 84 #[] 5 (fun g => .slice (some ⟨g, 0, none⟩) 0 0) (by kernel_rfl) (fun _ _ => trivial) ?_
    intro g27 w28 HB30 F29 le31 _
    have ne_g18_g27 : g18 ≠ g27 := Nat.ne_of_lt (Nat.lt_of_lt_of_le HB25.lt le31)
    have nin_g27_F : g27 ∉ F := new_nin (GDisk.lt HG) le31
    have nin_g27_FM : g27 ∉ FM := new_nin (MDisk.lt HM) le31
    have nin_g27_FL : g27 ∉ FL := new_nin HVl.lt le31
    have nin_g27_Fi : g27 ∉ Fi := new_nin HVi.lt le31
    have ge_HA_g27 := Nat.le_trans HA.size le31
    have HB25 := Blk.keep HB25 F29 (nin0 _)
    have HG := GDisk.keep HG F29 (fun _ _ => nin0 _)
    have HM := MDisk.keep HM F29 (fun _ _ => nin0 _)
    have HVl := HVl.keep F29 (fun _ _ => nin0 _)
    have HVi := HVi.keep F29 (fun _ _ => nin0 _)
    have HA := Fr.step0 HA F29
    refine WO.run 1 1 [(85, .pointer (some ⟨g18, 3, none⟩))] (by kernel_rfl) (by kernel_rfl) ?_
    refine WO.ld (SQ.S 2 (by kernel_rfl)) 86 (.slice ((gD q i).A) ((gD q i).b.length) ((gD q i).cap)) (by kernel_rfl) (same (HB25.at 3 (by kernel_rfl))) ?_
    have HR37 := RowB.of_blk (n := 0) HB30 (List.map cB []) rfl rfl (cB_len _) (cB_one _) (by omega)
    refine WO.appRow (SQ.E 3 (by kernel_rfl)) 87 (n := 0) (m := ((gD q i).b.length)) (ys := List.map cB ((gD q i).b)) et_b HR37 ((List.length_map _).trans ((rfl : List.length ([] : List UInt8) = 0))) (by rw [List.length_map] <;> first | rfl | omega | (simp <;> omega)) (HVi.srcN (rfl : List.length (gD q i).b = _) (cB_len _) (cB_one _) ((gD q i).cap)) (cB_len _) (cB_one _) (by kernel_rfl) (by omega) (by omega) (fun _ _ => trivial) ?_
    intro b32 cap33 w34 HR35 F36 hb38
    have ne_g18_b32 : g18 ≠ b32 := hb38.elim (fun h => h ▸ ne_g18_g27) (fun h => Nat.ne_of_lt (Nat.lt_of_lt_of_le HB25.lt h))
    have nin_b32_F : b32 ∉ F := hb38.elim (fun h => h ▸ nin_g27_F) (fun h => new_nin (GDisk.lt HG) h)
    have nin_b32_FM : b32 ∉ FM := hb38.elim (fun h => h ▸ nin_g27_FM) (fun h => new_nin (MDisk.lt HM) h)
    have nin_b32_FL : b32 ∉ FL := hb38.elim (fun h => h ▸ nin_g27_FL) (fun h => new_nin HVl.lt h)
    have nin_b32_Fi : b32 ∉ Fi := hb38.elim (fun h => h ▸ nin_g27_Fi) (fun h => new_nin HVi.lt h)
    have in_HA_b32 : b32 ∈ [] ∨ (World.heap w).size ≤ b32 := hb38.elim (fun h => Or.inr (h ▸ ge_HA_g27)) (fun h => Or.inr (Nat.le_trans HA.size h))
    have HB25 := Blk.keep HB25 F36 (ninC ne_g18_g27 (nin0 _))
    have HG := GDisk.keep HG F36 (djB nin_g27_F)
    have HM := MDisk.keep HM F36 (djB nin_g27_FM)
    have HVl := HVl.keep F36 (djB nin_g27_FL)
    have HVi := HVi.keep F36 (djB nin_g27_Fi)
    have HA := Fr.step HA F36 (inSR ge_HA_g27 inS0)
    have HR35 : RowB w34 b32 5 1 cap33 ((([] : List UInt8) ++ (gD q i).b).map cB) := by rw [List.map_append]; exact HR35
    refine WO.run 1 4 [(11, .slice (some ⟨b32, 0, none⟩) (0 + ((gD q i).b.length)) cap33)] (by kernel_rfl) (by kernel_rfl) ?_
    refine WO.done (by kernel_rfl) ?_
    refine WQ.keep [0, 1, 5, 6, 8, 9, 10, 11, 72, 82] (e' := [(0, .int .i64 room), (1, .slice AL nL cL), (5, .bool true), (6, .pointer (some ⟨g5, 0, none⟩)), (8, .pointer (some ⟨g10, 0, none⟩)), (9, .int .i64 (i : Int)), (10, .pointer (some ⟨g18, 0, none⟩)), (11, .slice (some ⟨b32, 0, none⟩) (0 + ((gD q i).b.length)) cap33), (72, .bool true), (82, .bool false)]) (by kernel_rfl) ?_
    refine WQ.thenN ?_
    refine WE.seq ?_
    refine WE.region ?_
    refine WO.run 1 0 [(12, .int .i64 0)] (by kernel_rfl) (by kernel_rfl) ?_
    refine WO.done (by kernel_rfl) ?_
    refine WQ.keep [0, 1, 5, 6, 8, 9, 10, 11, 12, 72, 82] (e' := [(0, .int .i64 room), (1, .slice AL nL cL), (5, .bool true), (6, .pointer (some ⟨g5, 0, none⟩)), (8, .pointer (some ⟨g10, 0, none⟩)), (9, .int .i64 (i : Int)), (10, .pointer (some ⟨g18, 0, none⟩)), (11, .slice (some ⟨b32, 0, none⟩) (0 + ((gD q i).b.length)) cap33), (12, .int .i64 0), (72, .bool true), (82, .bool false)]) (by kernel_rfl) ?_
    refine WQ.thenN ?_
    refine WE.seq ?_
    refine WE.region ?_
    refine WO.run 1 0 [(13, .nilIface)] (by kernel_rfl) (by kernel_rfl) ?_
    refine WO.done (by kernel_rfl) ?_
    refine WQ.keep [0, 1, 5, 6, 8, 9, 10, 11, 12, 13, 72, 82] (e' := [(0, .int .i64 room), (1, .slice AL nL cL), (5, .bool true), (6, .pointer (some ⟨g5, 0, none⟩)), (8, .pointer (some ⟨g10, 0, none⟩)), (9, .int .i64 (i : Int)), (10, .pointer (some ⟨g18, 0, none⟩)), (11, .slice (some ⟨b32, 0, none⟩) (0 + ((gD q i).b.length)) cap33), (12, .int .i64 0), (13, .nilIface), (72, .bool true), (82, .bool false)]) (by kernel_rfl) ?_
    refine WQ.thenN ?_
    refine WE.seq ?_
    refine WE.seq ?_
    refine WE.region ?_
    refine WO.run 1 0 [(88, .pointer (some ⟨g18, 0, none⟩))] (by kernel_rfl) (by kernel_rfl) ?_
    refine WO.ld (SQ.S 1 (by kernel_rfl)) 89 (.int .i64 ((gD q i).what)) (by kernel_rfl) (same (HB25.at 0 (by kernel_rfl))) ?_
    refine WO.call (SQ.E 2 (by kernel_rfl)) 90 (by kernel_rfl) (pick_any (gD q i).what _ hwh) ?_
    rintro _ w39 ⟨v41, rfl, F40⟩
    refine ⟨_, rfl, trivial, ?_⟩
    have HB25 := Blk.keep HB25 F40 (nin0 _)
    have HR35 := RowB.keep HR35 F40 (nin0 _)
    have HG := GDisk.keep HG F40 (fun _ _ => nin0 _)
    have HM := MDisk.keep HM F40 (fun _ _ => nin0 _)
    have HVl := HVl.keep F40 (fun _ _ => nin0 _)
    have HVi := HVi.keep F40 (fun _ _ => nin0 _)
    have HA := Fr.step0 HA F40
    refine WO.done (by kernel_rfl) ?_
    refine WQ.keep [0, 1, 5, 6, 8, 9, 10, 11, 12, 13, 72, 82, 90] (e' := [(0, .int .i64 room), (1, .slice AL nL cL), (5, .bool true), (6, .pointer (some ⟨g5, 0, none⟩)), (8, .pointer (some ⟨g10, 0, none⟩)), (9, .int .i64 (i : Int)), (10, .pointer (some ⟨g18, 0, none⟩)), (11, .slice (some ⟨b32, 0, none⟩) (0 + ((gD q i).b.length)) cap33), (12, .int .i64 0), (13, .nilIface), (72, .bool true), (82, .bool false), (90, .int .i64 v41)]) (by kernel_rfl) ?_
    refine WQ.thenN ?_
    refine WE.block ?_
    refine WE.seq ?_
    refine WE.seq ?_
    refine WE.region ?_
    refine WO.one (SQ.F 0 (by kernel_rfl)) 97 (.bool (decide ((v41 : Int) = 0))) (by kernel_rfl) ?_
    refine WO.topP ((v41 : Int) = 0) ?_ ?_
    · intro h42
      refine WO.run 1 1 [(96, .bool true)] (by kernel_rfl) (by kernel_rfl) ?_
      refine WO.done (by kernel_rfl) ?_
      refine WQ.keep [0, 1, 5, 6, 8, 9, 10, 11, 12, 13, 72, 82, 90, 96] (e' := [(0, .int .i64 room), (1, .slice AL nL cL), (5, .bool true), (6, .pointer (some ⟨g5, 0, none⟩)), (8, .pointer (some ⟨g10, 0, none⟩)), (9, .int .i64 (i : Int)), (10, .pointer (some ⟨g18, 0, none⟩)), (11, .slice (some ⟨b32, 0, none⟩) (0 + ((gD q i).b.length)) cap33), (12, .int .i64 0), (13, .nilIface), (72, .bool true), (82, .bool false), (90, .int .i64 v41), (96, .bool true)]) (by kernel_rfl) ?_
      refine WQ.thenN ?_
      refine WE.condT (by kernel_rfl) ?_
      refine WE.skip ?_
      refine WQ.thenN ?_
      refine WE.condT (by kernel_rfl) ?_
      refine WE.seq ?_
      refine WE.region ?_
      refine WO.run 2 0 [(100, .pointer (some ⟨g18, 1, none⟩)), (99, .pointer (some ⟨g5, 0, none⟩))] (by kernel_rfl) (by kernel_rfl) ?_
      refine WO.ld (SQ.S 2 (by kernel_rfl)) 101 (.int .i64 ((gD q i).n)) (by kernel_rfl) (same (HB25.at 1 (by kernel_rfl))) ?_
      refine WO.run 1 3 [(102, .slice (some ⟨b32, 0, none⟩) (0 + ((gD q i).b.length)) cap33)] (by kernel_rfl) (by kernel_rfl) ?_
      refine WO.call (SQ.E 4 (by kernel_rfl)) 103 (by kernel_rfl) (gappend g5 F d (gD q i).n (some ⟨b32, 0, none⟩) (0 + ((gD q i).b.length)) cap33 (([] : List UInt8) ++ (gD q i).b) [b32] _ HG hok hnn (VX.of_row HR35) ((show (([] : List UInt8) ++ (gD q i).b).length = 0 + ((gD q i).b.length) by rw [List.length_append, (rfl : List.length ([] : List UInt8) = 0)]; first | rfl | (have := (rfl : List.length ([] : List UInt8) = 0); simp; omega))) (by simp only [List.nil_append]; omega) (nin_sing nin_b32_F) (by omega)) ?_
      rintro _ w43 ⟨rfl, D45, HG47, F44, hg46⟩
      refine ⟨_, rfl, trivial, ?_⟩
      have nin_g18_D45 : g18 ∉ D45 := grow_nin hg46 nin_g18_F HB25.lt
      have nin_b32_D45 : b32 ∉ D45 := grow_nin hg46 nin_b32_F HR35.lt
      have dj_D45_FM : ∀ y ∈ D45, y ∉ FM := grow_dj hg46 hdj (MDisk.lt HM)
      have dj_D45_FL : ∀ y ∈ D45, y ∉ FL := grow_dj hg46 hdjL HVl.lt
      have dj_D45_Fi : ∀ y ∈ D45, y ∉ Fi := grow_dj hg46 dji_F HVi.lt
      have ge_HA_D45 : ∀ y ∈ D45, (World.heap w).size ≤ y := grow_ge hg46 hgF HA.size
      have HB25 := Blk.keep HB25 F44 nin_g18_F
      have HR35 := RowB.keep HR35 F44 nin_b32_F
      have HM := MDisk.keep HM F44 (dj_symm hdj)
      have HVl := HVl.keep F44 (dj_symm hdjL)
      have HVi := HVi.keep F44 (dj_symm dji_F)
      have HA := Fr.step HA F44 (inF hgF)
      have ok48 : Dk.Ok (append d (gD q i).n ([] ++ (gD q i).b)).2 := append_ok hok _ _ hnn.2
      have hdl49 : (append d (gD q i).n ([] ++ (gD q i).b)).2.l.length ≤ i + 1 := Nat.le_trans (len_append _ _ _) (by omega)
      have hcd : 0 ≤ (append d (gD q i).n ([] ++ (gD q i).b)).1 ∧ (append d (gD q i).n ([] ++ (gD q i).b)).1 ≤ 10 := code_append _ _ _
      refine WO.run 1 5 [(13, codeV (append d (gD q i).n ([] ++ (gD q i).b)).1)] (by kernel_rfl) (by kernel_rfl) ?_
      refine WO.done (by kernel_rfl) ?_
      refine WQ.keep [0, 1, 5, 6, 8, 9, 10, 11, 12, 13, 72, 82, 90, 96] (e' := [(0, .int .i64 room), (1, .slice AL nL cL), (5, .bool true), (6, .pointer (some ⟨g5, 0, none⟩)), (8, .pointer (some ⟨g10, 0, none⟩)), (9, .int .i64 (i : Int)), (10, .pointer (some ⟨g18, 0, none⟩)), (11, .slice (some ⟨b32, 0, none⟩) (0 + ((gD q i).b.length)) cap33), (12, .int .i64 0), (13, codeV (append d (gD q i).n ([] ++ (gD q i).b)).1), (72, .bool true), (82, .bool false), (90, .int .i64 v41), (96, .bool true)]) (by kernel_rfl) ?_
      refine WQ.thenN ?_
      refine WE.region ?_
      refine WO.run 2 0 [(105, .pointer (some ⟨g18, 1, none⟩)), (104, .pointer (some ⟨g10, 0, none⟩))] (by kernel_rfl) (by kernel_rfl) ?_
      refine WO.ld (SQ.S 2 (by kernel_rfl)) 106 (.int .i64 ((gD q i).n)) (by kernel_rfl) (same (HB25.at 1 (by kernel_rfl))) ?_
      refine WO.run 1 3 [(107, .pointer (some ⟨g18, 3, none⟩))] (by kernel_rfl) (by kernel_rfl) ?_
      refine WO.ld (SQ.S 4 (by kernel_rfl)) 108 (.slice ((gD q i).A) ((gD q i).b.length) ((gD q i).cap)) (by kernel_rfl) (same (HB25.at 3 (by kernel_rfl))) ?_
      refine WO.b2s (v := .slice ((gD q i).A) ((gD q i).b.length) ((gD q i).cap)) (SQ.S 5 (by kernel_rfl)) 109 byt ((gD q i).b) (n := ((gD q i).b.length)) (rfl : List.length (gD q i).b = _) (by kernel_rfl) (same (HVi.srcN (rfl : List.length (gD q i).b = _) (cB_len _) (cB_one _) ((gD q i).cap))) ?_
      refine WO.call (SQ.E 6 (by kernel_rfl)) 110 (by kernel_rfl) (mappend g10 FM d (gD q i).n ([] ++ (gD q i).b) _ HM hok (by omega) (by simp only [List.nil_append]; omega)) ?_
      rintro _ w50 ⟨rfl, D52, HM54, F51, hg53⟩
      refine ⟨_, rfl, trivial, ?_⟩
      have nin_g18_D52 : g18 ∉ D52 := grow_nin hg53 nin_g18_FM HB25.lt
      have nin_b32_D52 : b32 ∉ D52 := grow_nin hg53 nin_b32_FM HR35.lt
      have dj_D52_FL : ∀ y ∈ D52, y ∉ FL := grow_dj hg53 hdjM HVl.lt
      have dj_D52_Fi : ∀ y ∈ D52, y ∉ Fi := grow_dj hg53 dji_FM HVi.lt
      have dj_D52_D45 : ∀ y ∈ D52, y ∉ D45 := grow_dj hg53 (dj_symm dj_D45_FM) (GDisk.lt HG47)
      have ge_HA_D52 : ∀ y ∈ D52, (World.heap w).size ≤ y := grow_ge hg53 hgM HA.size
      have HB25 := Blk.keep HB25 F51 nin_g18_FM
      have HR35 := RowB.keep HR35 F51 nin_b32_FM
      have HVl := HVl.keep F51 (dj_symm hdjM)
      have HVi := HVi.keep F51 (dj_symm dji_FM)
      have HG47 := GDisk.keep HG47 F51 dj_D45_FM
      have HA := Fr.step HA F51 (inF hgM)
      refine WO.run 1 7 [(12, .int .i64 ((append d (gD q i).n ([] ++ (gD q i).b)).1))] (by kernel_rfl) (by kernel_rfl) ?_
      refine WO.done (by kernel_rfl) ?_
      refine WQ.keep [0, 1, 5, 6, 8, 9, 10, 11, 12, 13, 72, 82, 90, 96] (e' := [(0, .int .i64 room), (1, .slice AL nL cL), (5, .bool true), (6, .pointer (some ⟨g5, 0, none⟩)), (8, .pointer (some ⟨g10, 0, none⟩)), (9, .int .i64 (i : Int)), (10, .pointer (some ⟨g18, 0, none⟩)), (11, .slice (some ⟨b32, 0, none⟩) (0 + ((gD q i).b.length)) cap33), (12, .int .i64 ((append d (gD q i).n ([] ++ (gD q i).b)).1)), (13, codeV (append d (gD q i).n ([] ++ (gD q i).b)).1), (72, .bool true), (82, .bool false), (90, .int .i64 v41), (96, .bool true)]) (by kernel_rfl) ?_
      refine WQ.blkN ?_
      refine WQ.thenN ?_
      refine WE.seq ?_
      refine WE.seq ?_
      refine WE.region ?_
      refine WO.run 1 0 [(18, .int .i64 0)] (by kernel_rfl) (by kernel_rfl) ?_
      refine WO.done (by kernel_rfl) ?_
      refine WQ.keep [0, 1, 5, 6, 8, 9, 10, 11, 12, 13, 18, 72, 82, 90, 96] (e' := [(0, .int .i64 room), (1, .slice AL nL cL), (5, .bool true), (6, .pointer (some ⟨g5, 0, none⟩)), (8, .pointer (some ⟨g10, 0, none⟩)), (9, .int .i64 (i : Int)), (10, .pointer (some ⟨g18, 0, none⟩)), (11, .slice (some ⟨b32, 0, none⟩) (0 + ((gD q i).b.length)) cap33), (12, .int .i64 ((append d (gD q i).n ([] ++ (gD q i).b)).1)), (13, codeV (append d (gD q i).n ([] ++ (gD q i).b)).1), (18, .int .i64 0), (72, .bool true), (82, .bool false), (90, .int .i64 v41), (96, .bool true)]) (by kernel_rfl) ?_
      refine WQ.thenN ?_
      refine WE.block ?_
      refine WE.loop (α := Nat × List UInt8) (E := fun ⟨j, z⟩ => [(0, .int .i64 room), (1, .slice AL nL cL), (5, .bool true), (6, .pointer (some ⟨g5, 0, none⟩)), (8, .pointer (some ⟨g10, 0, none⟩)), (9, .int .i64 (i : Int)), (11, .slice (some ⟨b32, 0, none⟩) (0 + ((gD q i).b.length)) cap33), (12, .int .i64 ((append d (gD q i).n ([] ++ (gD q i).b)).1)), (13, codeV (append d (gD q i).n ([] ++ (gD q i).b)).1), (18, .int .i64 (j : Int))]) (I := fun ⟨j, z⟩ wo => j ≤ 0 + ((gD q i).b.length) ∧ z.length = 0 + ((gD q i).b.length) ∧ RowB wo b32 5 1 cap33 (z.map cB) ∧ GDisk wo g5 D45 ((append d (gD q i).n ([] ++ (gD q i).b)).2) ∧ MDisk wo g10 D52 ((append d (gD q i).n ([] ++ (gD q i).b)).2) ∧ VX cD 4 wo FL AL q ∧ Fr [] w wo) (m := fun ⟨j, z⟩ => (0 + ((gD q i).b.length)) - j) (0, (([] : List UInt8) ++ (gD q i).b)) [0, 1, 5, 6, 8, 9, 11, 12, 13, 18] (by kernel_rfl) ?_ ?_
      · exact ⟨Nat.zero_le _, (show (([] : List UInt8) ++ (gD q i).b).length = 0 + ((gD q i).b.length) by rw [List.length_append, (rfl : List.length ([] : List UInt8) = 0)]; first | rfl | (have := (rfl : List.length ([] : List UInt8) = 0); simp; omega)), HR35, HG47, HM54, HVl, HA⟩
      rintro ⟨j, z⟩ wo ⟨hj, hz, HRz, HG47, HM54, HVl, HA⟩
      dsimp only at hj hz HRz ⊢
      refine WE.seq ?_
      refine WE.seq ?_
      refine WE.region ?_
      refine WO.run 3 0 [(179, .int .i64 (0 + ((gD q i).b.length) : Int)), (178, .slice (some ⟨b32, 0, none⟩) (0 + ((gD q i).b.length)) cap33), (177, .int .i64 (j : Int))] (by kernel_rfl) (by kernel_rfl) ?_
      refine WO.one (SQ.F 3 (by kernel_rfl)) 180 (.bool (decide (((j : Int) : Int) < (0 + ((gD q i).b.length) : Int)))) (by kernel_rfl) ?_
      refine WO.topP (((j : Int) : Int) < (0 + ((gD q i).b.length) : Int)) ?_ ?_
      · intro h55
        refine WO.done (by kernel_rfl) ?_
        refine WQ.keep [0, 1, 5, 6, 8, 9, 11, 12, 13, 18, 180] (e' := [(0, .int .i64 room), (1, .slice AL nL cL), (5, .bool true), (6, .pointer (some ⟨g5, 0, none⟩)), (8, .pointer (some ⟨g10, 0, none⟩)), (9, .int .i64 (i : Int)), (11, .slice (some ⟨b32, 0, none⟩) (0 + ((gD q i).b.length)) cap33), (12, .int .i64 ((append d (gD q i).n ([] ++ (gD q i).b)).1)), (13, codeV (append d (gD q i).n ([] ++ (gD q i).b)).1), (18, .int .i64 (j : Int)), (180, .bool true)]) (by kernel_rfl) ?_
        refine WQ.thenN ?_
        refine WE.condT (by kernel_rfl) ?_
        refine WE.skip ?_
        refine WQ.thenN ?_
        refine WE.seq ?_
        refine WE.block ?_
        refine WE.region ?_
        refine WO.run 4 0 [(186, .int .i64 (j : Int)), (185, .slice (some ⟨b32, 0, none⟩) (0 + ((gD q i).b.length)) cap33), (184, .int .i64 (j : Int)), (183, .slice (some ⟨b32, 0, none⟩) (0 + ((gD q i).b.length)) cap33)] (by kernel_rfl) (by kernel_rfl) ?_
        refine WO.ixB (SQ.F 4 (by kernel_rfl)) 187 j b32 0 (0 + ((gD q i).b.length)) 1 (j : Int) (by kernel_rfl) (by omega) (by omega) (by omega) ?_
        refine WO.ld (SQ.S 5 (by kernel_rfl)) 188 (.int .u8 ((gB z j).toNat : Int)) (by kernel_rfl) (same (HRz.at j 0 j _ (by rw [List.length_map]; have := hz; omega) (by omega) (by rw [(map_gB z j (by have := hz; omega))]; rfl) (by omega))) ?_
        refine WO.one (SQ.F 6 (by kernel_rfl)) 189 (.int .u8 (IntKind.u8.wrap (((gB z j).toNat : Int) + 1))) (by kernel_rfl) ?_
        refine WO.top (v' := .int .u8 ((gB z j + 1).toNat : Int)) (congrArg (Value.int .u8) (u8_inc _)) ?_
        refine WO.ixB (SQ.F 7 (by kernel_rfl)) 190 j b32 0 (0 + ((gD q i).b.length)) 1 (j : Int) (by kernel_rfl) (by omega) (by omega) (by omega) ?_
        refine WO.stR (SQ.E 8 (by kernel_rfl)) b32 j j [.int .u8 ((gB z j + 1).toNat : Int)] HRz (by rw [List.length_map]; have := hz; omega) rfl (by omega) rfl (by kernel_rfl) (fun _ _ => trivial) ?_
        intro w56 HR58 F57 _
        have HG47 := GDisk.keep HG47 F57 (djB nin_b32_D45)
        have HM54 := MDisk.keep HM54 F57 (djB nin_b32_D52)
        have HVl := HVl.keep F57 (djB nin_b32_FL)
        have HA := Fr.step HA F57 (inSD in_HA_b32 inS0)
        have HR58 : RowB w56 b32 5 1 cap33 ((z.set j (gB z j + 1)).map cB) := by rw [List.map_set]; exact HR58
        refine WO.done (by kernel_rfl) ?_
        refine WQ.keep [0, 1, 5, 6, 8, 9, 11, 12, 13, 18, 180] (e' := [(0, .int .i64 room), (1, .slice AL nL cL), (5, .bool true), (6, .pointer (some ⟨g5, 0, none⟩)), (8, .pointer (some ⟨g10, 0, none⟩)), (9, .int .i64 (i : Int)), (11, .slice (some ⟨b32, 0, none⟩) (0 + ((gD q i).b.length)) cap33), (12, .int .i64 ((append d (gD q i).n ([] ++ (gD q i).b)).1)), (13, codeV (append d (gD q i).n ([] ++ (gD q i).b)).1), (18, .int .i64 (j : Int)), (180, .bool true)]) (by kernel_rfl) ?_
        refine WQ.blkN ?_
        refine WQ.thenN ?_
        refine WE.region ?_
        refine WO.run 1 0 [(181, .int .i64 (j : Int))] (by kernel_rfl) (by kernel_rfl) ?_
        refine WO.one (SQ.F 1 (by kernel_rfl)) 182 (.int .i64 (IntKind.i64.wrap ((j : Int) + 1))) (by kernel_rfl) ?_
        refine WO.top (v' := .int .i64 ((j + 1 : Nat) : Int)) (wrap_i64 (by omega) (by omega)) ?_
        refine WO.run 1 2 [(18, .int .i64 ((j + 1 : Nat) : Int))] (by kernel_rfl) (by kernel_rfl) ?_
        refine WO.done (by kernel_rfl) ?_
        refine WQ.keep [0, 1, 5, 6, 8, 9, 11, 12, 13, 18, 180] (e' := [(0, .int .i64 room), (1, .slice AL nL cL), (5, .bool true), (6, .pointer (some ⟨g5, 0, none⟩)), (8, .pointer (some ⟨g10, 0, none⟩)), (9, .int .i64 (i : Int)), (11, .slice (some ⟨b32, 0, none⟩) (0 + ((gD q i).b.length)) cap33), (12, .int .i64 ((append d (gD q i).n ([] ++ (gD q i).b)).1)), (13, codeV (append d (gD q i).n ([] ++ (gD q i).b)).1), (18, .int .i64 ((j + 1 : Nat) : Int)), (180, .bool true)]) (by kernel_rfl) ?_
        refine WQ.round ?_
        intro a_ ha_
        refine ⟨(j + 1, z.set j (gB z j + 1)), ?_, ha_.keep [0, 1, 5, 6, 8, 9, 11, 12, 13, 18] (by kernel_rfl), ?_⟩
        · show 0 + ((gD q i).b.length) - (j + 1) < 0 + ((gD q i).b.length) - j; omega
        · exact ⟨by show j + 1 ≤ _; omega, by rw [List.length_set]; exact hz, HR58, HG47, HM54, HVl, HA⟩
      intro h55
      refine WO.done (by kernel_rfl) ?_
      refine WQ.keep [0, 1, 5, 6, 8, 9, 11, 12, 13, 18, 180] (e' := [(0, .int .i64 room), (1, .slice AL nL cL), (5, .bool true), (6, .pointer (some ⟨g5, 0, none⟩)), (8, .pointer (some ⟨g10, 0, none⟩)), (9, .int .i64 (i : Int)), (11, .slice (some ⟨b32, 0, none⟩) (0 + ((gD q i).b.length)) cap33), (12, .int .i64 ((append d (gD q i).n ([] ++ (gD q i).b)).1)), (13, codeV (append d (gD q i).n ([] ++ (gD q i).b)).1), (18, .int .i64 (j : Int)), (180, .bool false)]) (by kernel_rfl) ?_
      refine WQ.thenN ?_
      refine WE.condF (by kernel_rfl) ?_
      refine WE.exit ?_
      refine WQ.thenE ?_
      refine WQ.thenE ?_
      refine WQ.blkE ?_
      refine WQ.thenN ?_
      refine WE.seq ?_
      refine WE.seq ?_
      refine WE.region ?_
      refine WO.run 1 0 [(191, codeV (append d (gD q i).n ([] ++ (gD q i).b)).1)] (by kernel_rfl) (by kernel_rfl) ?_
      refine WO.call (SQ.E 1 (by kernel_rfl)) 192 (by kernel_rfl) (code_any ((append d (gD q i).n ([] ++ (gD q i).b)).1 : Int) hcd _) ?_
      rintro _ w59 ⟨rfl, F60⟩
      refine ⟨_, rfl, trivial, ?_⟩
      have HRz := RowB.keep HRz F60 (nin0 _)
      have HG47 := GDisk.keep HG47 F60 (fun _ _ => nin0 _)
      have HM54 := MDisk.keep HM54 F60 (fun _ _ => nin0 _)
      have HVl := HVl.keep F60 (fun _ _ => nin0 _)
      have HA := Fr.step0 HA F60
      refine WO.run 1 2 [(193, .int .i64 ((append d (gD q i).n ([] ++ (gD q i).b)).1))] (by kernel_rfl) (by kernel_rfl) ?_
      refine WO.one (SQ.F 3 (by kernel_rfl)) 194 (.bool (!decide (((append d (gD q i).n ([] ++ (gD q i).b)).1 : Int) = ((append d (gD q i).n ([] ++ (gD q i).b)).1)))) (by kernel_rfl) ?_
      refine WO.topNT (((append d (gD q i).n ([] ++ (gD q i).b)).1 : Int) = ((append d (gD q i).n ([] ++ (gD q i).b)).1)) (by rfl) ?_
      refine WO.run 2 4 [(196, .pointer (some ⟨g5, 0, none⟩)), (195, .bool false)] (by kernel_rfl) (by kernel_rfl) ?_
      refine WO.call (SQ.E 6 (by kernel_rfl)) 197 (by kernel_rfl) (gused g5 D45 ((append d (gD q i).n ([] ++ (gD q i).b)).2) _ HG47 ok48) ?_
      rintro _ w61 ⟨rfl, F62⟩
      refine ⟨_, rfl, trivial, ?_⟩
      have HRz := RowB.keep HRz F62 (nin0 _)
      have HG47 := GDisk.keep HG47 F62 (fun _ _ => nin0 _)
      have HM54 := MDisk.keep HM54 F62 (fun _ _ => nin0 _)
      have HVl := HVl.keep F62 (fun _ _ => nin0 _)
      have HA := Fr.step0 HA F62
      refine WO.run 1 7 [(198, .pointer (some ⟨g10, 0, none⟩))] (by kernel_rfl) (by kernel_rfl) ?_
      refine WO.call (SQ.E 8 (by kernel_rfl)) 199 (by kernel_rfl) (mused g10 D52 ((append d (gD q i).n ([] ++ (gD q i).b)).2) _ HM54 ok48 (by omega)) ?_
      rintro _ w63 ⟨rfl, F64⟩
      refine ⟨_, rfl, trivial, ?_⟩
      have HRz := RowB.keep HRz F64 (nin0 _)
      have HG47 := GDisk.keep HG47 F64 (fun _ _ => nin0 _)
      have HM54 := MDisk.keep HM54 F64 (fun _ _ => nin0 _)
      have HVl := HVl.keep F64 (fun _ _ => nin0 _)
      have HA := Fr.step0 HA F64
      refine WO.one (SQ.F 9 (by kernel_rfl)) 200 (.bool (!decide (((usedL (append d (gD q i).n ([] ++ (gD q i).b)).2.l : Int) : Int) = (usedL (append d (gD q i).n ([] ++ (gD q i).b)).2.l : Int)))) (by kernel_rfl) ?_
      refine WO.topNT (((usedL (append d (gD q i).n ([] ++ (gD q i).b)).2.l : Int) : Int) = (usedL (append d (gD q i).n ([] ++ (gD q i).b)).2.l : Int)) (by rfl) ?_
      refine WO.run 1 10 [(201, .bool false)] (by kernel_rfl) (by kernel_rfl) ?_
      refine WO.done (by kernel_rfl) ?_
      refine WQ.keep [0, 1, 5, 6, 8, 9, 11, 12, 13, 18, 180, 201] (e' := [(0, .int .i64 room), (1, .slice AL nL cL), (5, .bool true), (6, .pointer (some ⟨g5, 0, none⟩)), (8, .pointer (some ⟨g10, 0, none⟩)), (9, .int .i64 (i : Int)), (11, .slice (some ⟨b32, 0, none⟩) (0 + ((gD q i).b.length)) cap33), (12, .int .i64 ((append d (gD q i).n ([] ++ (gD q i).b)).1)), (13, codeV (append d (gD q i).n ([] ++ (gD q i).b)).1), (18, .int .i64 (j : Int)), (180, .bool false), (201, .bool false)]) (by kernel_rfl) ?_
      refine WQ.thenN ?_
      refine WE.condF (by kernel_rfl) ?_
      refine WE.skip ?_
      refine WQ.thenN ?_
      refine WE.seq ?_
      refine WE.region ?_
      refine WO.run 1 0 [(202, .pointer (some ⟨g5, 0, none⟩))] (by kernel_rfl) (by kernel_rfl) ?_
      refine WO.call (SQ.E 1 (by kernel_rfl)) 203 (by kernel_rfl) (gparts g5 D45 ((append d (gD q i).n ([] ++ (gD q i).b)).2) _ HG47 ok48 (by omega)) ?_
      rintro _ w65 ⟨v67, G68, rfl, HO69, F66, ge70⟩
      refine ⟨_, rfl, trivial, ?_⟩
      obtain ⟨Ad71, cp72, rfl⟩ := HO69.sliceN (n := (append d (gD q i).n ([] ++ (gD q i).b)).2.l.length) (by simp)
      have HVp := VX.of_own HO69
      have ge70r := fun y hy => Or.inr (a := y ∈ ([] : List Nat)) (ge70 y hy)
      have hpl : ((append d (gD q i).n ([] ++ (gD q i).b)).2.l.map fun p => p.n).length = (append d (gD q i).n ([] ++ (gD q i).b)).2.l.length := List.length_map _
      have nin_b32_G68 : b32 ∉ G68 := grow_nin ge70r (nin0 _) HRz.lt
      have dj_G68_D45 : ∀ y ∈ G68, y ∉ D45 := grow_dj ge70r (by simp) (GDisk.lt HG47)
      have dj_G68_D52 : ∀ y ∈ G68, y ∉ D52 := grow_dj ge70r (by simp) (MDisk.lt HM54)
      have dj_G68_FL : ∀ y ∈ G68, y ∉ FL := grow_dj ge70r (by simp) HVl.lt
      have ge_HA_G68 : ∀ y ∈ G68, (World.heap w).size ≤ y := grow_ge ge70r (by simp) HA.size
      have HRz := RowB.keep HRz F66 (nin0 _)
      have HG47 := GDisk.keep HG47 F66 (fun _ _ => nin0 _)
      have HM54 := MDisk.keep HM54 F66 (fun _ _ => nin0 _)
      have HVl := HVl.keep F66 (fun _ _ => nin0 _)
      have HA := Fr.step0 HA F66
      refine WO.run 1 2 [(19, .slice Ad71 ((append d (gD q i).n ([] ++ (gD q i).b)).2.l.length) cp72)] (by kernel_rfl) (by kernel_rfl) ?_
      refine WO.done (by kernel_rfl) ?_
      refine WQ.keep [0, 1, 5, 6, 8, 9, 11, 12, 13, 18, 19, 180, 201] (e' := [(0, .int .i64 room), (1, .slice AL nL cL), (5, .bool true), (6, .pointer (some ⟨g5, 0, none⟩)), (8, .pointer (some ⟨g10, 0, none⟩)), (9, .int .i64 (i : Int)), (11, .slice (some ⟨b32, 0, none⟩) (0 + ((gD q i).b.length)) cap33), (12, .int .i64 ((append d (gD q i).n ([] ++ (gD q i).b)).1)), (13, codeV (append d (gD q i).n ([] ++ (gD q i).b)).1), (18, .int .i64 (j : Int)), (19, .slice Ad71 ((append d (gD q i).n ([] ++ (gD q i).b)).2.l.length) cp72), (180, .bool false), (201, .bool false)]) (by kernel_rfl) ?_
      refine WQ.thenN ?_
      refine WE.seq ?_
      refine WE.seq ?_
      obtain ⟨AM, cM, GM_, VM⟩ := mview HM54
      have HBm := VM.blk
      have HVm := VM.view
      have hgGM := VM.hg
      refine WE.region ?_
      refine WO.run 5 0 [(208, .pointer (some ⟨g10, 1, none⟩)), (207, .pointer (some ⟨g10, 0, none⟩)), (206, .pointer (some ⟨g10, 0, none⟩)), (205, .int .i64 ((append d (gD q i).n ([] ++ (gD q i).b)).2.l.length : Int)), (204, .slice Ad71 ((append d (gD q i).n ([] ++ (gD q i).b)).2.l.length) cp72)] (by kernel_rfl) (by kernel_rfl) ?_
      refine WO.ld (SQ.S 5 (by kernel_rfl)) 209 (.slice AM ((append d (gD q i).n ([] ++ (gD q i).b)).2.l.length) cM) (by kernel_rfl) (same (HBm.at 1 (by kernel_rfl))) ?_
      refine WO.run 1 6 [(210, .int .i64 ((append d (gD q i).n ([] ++ (gD q i).b)).2.l.length : Int))] (by kernel_rfl) (by kernel_rfl) ?_
      refine WO.one (SQ.F 7 (by kernel_rfl)) 211 (.bool (!decide ((((append d (gD q i).n ([] ++ (gD q i).b)).2.l.length : Int) : Int) = ((append d (gD q i).n ([] ++ (gD q i).b)).2.l.length : Int)))) (by kernel_rfl) ?_
      refine WO.topNT ((((append d (gD q i).n ([] ++ (gD q i).b)).2.l.length : Int) : Int) = ((append d (gD q i).n ([] ++ (gD q i).b)).2.l.length : Int)) (by rfl) ?_
      refine WO.done (by kernel_rfl) ?_
      refine WQ.keep [0, 1, 5, 6, 8, 9, 11, 12, 13, 18, 19, 180, 201, 211] (e' := [(0, .int .i64 room), (1, .slice AL nL cL), (5, .bool true), (6, .pointer (some ⟨g5, 0, none⟩)), (8, .pointer (some ⟨g10, 0, none⟩)), (9, .int .i64 (i : Int)), (11, .slice (some ⟨b32, 0, none⟩) (0 + ((gD q i).b.length)) cap33), (12, .int .i64 ((append d (gD q i).n ([] ++ (gD q i).b)).1)), (13, codeV (append d (gD q i).n ([] ++ (gD q i).b)).1), (18, .int .i64 (j : Int)), (19, .slice Ad71 ((append d (gD q i).n ([] ++ (gD q i).b)).2.l.length) cp72), (180, .bool false), (201, .bool false), (211, .bool false)]) (by kernel_rfl) ?_
      refine WQ.thenN ?_
      refine WE.condF (by kernel_rfl) ?_
      refine WE.skip ?_
      refine WQ.thenN ?_
      refine WE.seq ?_
      refine WE.region ?_
      refine WO.run 1 0 [(20, .int .i64 0)] (by kernel_rfl) (by kernel_rfl) ?_
      refine WO.done (by kernel_rfl) ?_
      refine WQ.keep [0, 1, 5, 6, 8, 9, 11, 12, 13, 18, 19, 20, 180, 201, 211] (e' := [(0, .int .i64 room), (1, .slice AL nL cL), (5, .bool true), (6, .pointer (some ⟨g5, 0, none⟩)), (8, .pointer (some ⟨g10, 0, none⟩)), (9, .int .i64 (i : Int)), (11, .slice (some ⟨b32, 0, none⟩) (0 + ((gD q i).b.length)) cap33), (12, .int .i64 ((append d (gD q i).n ([] ++ (gD q i).b)).1)), (13, codeV (append d (gD q i).n ([] ++ (gD q i).b)).1), (18, .int .i64 (j : Int)), (19, .slice Ad71 ((append d (gD q i).n ([] ++ (gD q i).b)).2.l.length) cp72), (20, .int .i64 0), (180, .bool false), (201, .bool false), (211, .bool false)]) (by kernel_rfl) ?_
      refine WQ.thenN ?_
      refine WE.block ?_
      refine WE.loop (α := Nat) (E := fun j => [(0, .int .i64 room), (1, .slice AL nL cL), (5, .bool true), (6, .pointer (some ⟨g5, 0, none⟩)), (8, .pointer (some ⟨g10, 0, none⟩)), (9, .int .i64 (i : Int)), (19, .slice Ad71 ((append d (gD q i).n ([] ++ (gD q i).b)).2.l.length) cp72), (20, .int .i64 (j : Int))]) (I := fun j wo => j ≤ (append d (gD q i).n ([] ++ (gD q i).b)).2.l.length ∧ GDisk wo g5 D45 ((append d (gD q i).n ([] ++ (gD q i).b)).2) ∧ MDisk wo g10 D52 ((append d (gD q i).n ([] ++ (gD q i).b)).2) ∧ VX cD 4 wo FL AL q ∧ VX cI 1 wo G68 Ad71 ((append d (gD q i).n ([] ++ (gD q i).b)).2.l.map fun p => p.n) ∧ VX cP 3 wo GM_ AM ((append d (gD q i).n ([] ++ (gD q i).b)).2.l) ∧ Blk wo g10 #[.int .i64 (append d (gD q i).n ([] ++ (gD q i).b)).2.room, .slice AM ((append d (gD q i).n ([] ++ (gD q i).b)).2.l.length) cM, .bool (append d (gD q i).n ([] ++ (gD q i).b)).2.down] 40 ∧ Fr [] w wo) (m := fun j => (append d (gD q i).n ([] ++ (gD q i).b)).2.l.length - j) 0 [0, 1, 5, 6, 8, 9, 19, 20] (by kernel_rfl) ?_ ?_
      · exact ⟨Nat.zero_le _, HG47, HM54, HVl, HVp, HVm, HBm, HA⟩
      rintro j wo ⟨hj, HG47, HM54, HVl, HVp, HVm, HBm, HA⟩
      refine WE.seq ?_
      refine WE.seq ?_
      refine WE.region ?_
      refine WO.run 3 0 [(214, .int .i64 ((append d (gD q i).n ([] ++ (gD q i).b)).2.l.length : Int)), (213, .slice Ad71 ((append d (gD q i).n ([] ++ (gD q i).b)).2.l.length) cp72), (212, .int .i64 (j : Int))] (by kernel_rfl) (by kernel_rfl) ?_
      refine WO.one (SQ.F 3 (by kernel_rfl)) 215 (.bool (decide (((j : Int) : Int) < ((append d (gD q i).n ([] ++ (gD q i).b)).2.l.length : Int)))) (by kernel_rfl) ?_
      refine WO.topP (((j : Int) : Int) < ((append d (gD q i).n ([] ++ (gD q i).b)).2.l.length : Int)) ?_ ?_
      · intro h73
        refine WO.done (by kernel_rfl) ?_
        refine WQ.keep [0, 1, 5, 6, 8, 9, 19, 20, 215] (e' := [(0, .int .i64 room), (1, .slice AL nL cL), (5, .bool true), (6, .pointer (some ⟨g5, 0, none⟩)), (8, .pointer (some ⟨g10, 0, none⟩)), (9, .int .i64 (i : Int)), (19, .slice Ad71 ((append d (gD q i).n ([] ++ (gD q i).b)).2.l.length) cp72), (20, .int .i64 (j : Int)), (215, .bool true)]) (by kernel_rfl) ?_
        refine WQ.thenN ?_
        refine WE.condT (by kernel_rfl) ?_
        refine WE.skip ?_
        refine WQ.thenN ?_
        refine WE.seq ?_
        refine WE.block ?_
        refine WE.seq ?_
        refine WE.draw [.free, .free, .free, .still, .free, .free, .free, .still, .free, .free, .free, .still, .free] Same sameR (by kernel_rfl) 13 (Array.replicate 13 false) (by kernel_rfl) rfl ?_
        intro w74 F75 _
        have HBm := Blk.keep HBm F75 (nin0 _)
        have HG47 := GDisk.keep HG47 F75 (fun _ _ => nin0 _)
        have HM54 := MDisk.keep HM54 F75 (fun _ _ => nin0 _)
        have HVl := HVl.keep F75 (fun _ _ => nin0 _)
        have HVp := HVp.keep F75 (fun _ _ => nin0 _)
        have HVm := HVm.keep F75 (fun _ _ => nin0 _)
        have HA := Fr.step0 HA F75
        refine WO.one (SA.F sameR sameT _ 0 _ (by kernel_rfl)) 218 (.slice Ad71 ((append d (gD q i).n ([] ++ (gD q i).b)).2.l.length) cp72) (by kernel_rfl) ?_
        refine WO.one (SA.F sameR sameT _ 1 _ (by kernel_rfl)) 219 (.int .i64 (j : Int)) (by kernel_rfl) ?_
        obtain ⟨ad76, hA77⟩ := HVp.addr (i := j) (by have := hpl; omega)
        refine WO.ixo (SA.F sameR sameT _ 2 _ (by kernel_rfl)) 220 ((append d (gD q i).n ([] ++ (gD q i).b)).2.l.length) 1 j (j : Int) hA77 (by kernel_rfl) rfl (by omega) ?_
        refine WO.ld (SA.S sameR sameT _ 3 _ (by kernel_rfl)) 221 (.int .i64 (g0 ((append d (gD q i).n ([] ++ (gD q i).b)).2.l.map fun p => p.n) j)) (by kernel_rfl) (same (HVp.at0 hA77 (g0_some ((append d (gD q i).n ([] ++ (gD q i).b)).2.l.map fun p => p.n) j (by have := hpl; omega)) (by kernel_rfl))) ?_
        refine WO.one (SA.F sameR sameT _ 4 _ (by kernel_rfl)) 222 (.pointer (some ⟨g10, 0, none⟩)) (by kernel_rfl) ?_
        refine WO.one (SA.F sameR sameT _ 5 _ (by kernel_rfl)) 223 (.pointer (some ⟨g10, 0, none⟩)) (by kernel_rfl) ?_
        refine WO.one (SA.F sameR sameT _ 6 _ (by kernel_rfl)) 224 (.pointer (some ⟨g10, 1, none⟩)) (by kernel_rfl) ?_
        refine WO.ld (SA.S sameR sameT _ 7 _ (by kernel_rfl)) 225 (.slice AM ((append d (gD q i).n ([] ++ (gD q i).b)).2.l.length) cM) (by kernel_rfl) (same (HBm.at 1 (by kernel_rfl))) ?_
        refine WO.one (SA.F sameR sameT _ 8 _ (by kernel_rfl)) 226 (.int .i64 (j : Int)) (by kernel_rfl) ?_
        obtain ⟨ad78, hA79⟩ := HVm.addr (i := j) (by have := (rfl : List.length (append d (gD q i).n ([] ++ (gD q i).b)).2.l = _); omega)
        refine WO.ixo (SA.F sameR sameT _ 9 _ (by kernel_rfl)) 227 ((append d (gD q i).n ([] ++ (gD q i).b)).2.l.length) 3 j (j : Int) hA79 (by kernel_rfl) rfl (by omega) ?_
        refine WO.one (SA.F sameR sameT _ 10 _ (by kernel_rfl)) 228 (.pointer (some (ad78.add (j * 3)))) (by kernel_rfl) ?_
        refine WO.ld (SA.S sameR sameT _ 11 _ (by kernel_rfl)) 229 (.int .i64 ((gP ((append d (gD q i).n ([] ++ (gD q i).b)).2.l) j).n)) (by kernel_rfl) (same (HVm.at0 hA79 (gP_some ((append d (gD q i).n ([] ++ (gD q i).b)).2.l) j (by have := (rfl : List.length (append d (gD q i).n ([] ++ (gD q i).b)).2.l = _); omega)) (by kernel_rfl))) ?_
        refine WO.one (SA.F sameR sameT _ 12 _ (by kernel_rfl)) 230 (.bool (!decide ((g0 ((append d (gD q i).n ([] ++ (gD q i).b)).2.l.map fun p => p.n) j : Int) = ((gP ((append d (gD q i).n ([] ++ (gD q i).b)).2.l) j).n)))) (by kernel_rfl) ?_
        refine WO.topNT ((g0 ((append d (gD q i).n ([] ++ (gD q i).b)).2.l.map fun p => p.n) j : Int) = ((gP ((append d (gD q i).n ([] ++ (gD q i).b)).2.l) j).n)) (by exact g0_gP _ _ (by omega)) ?_
        refine WO.doneA (by kernel_rfl) ?_
        refine WQ.keep [0, 1, 5, 6, 8, 9, 19, 20, 215, 230] (e' := [(0, .int .i64 room), (1, .slice AL nL cL), (5, .bool true), (6, .pointer (some ⟨g5, 0, none⟩)), (8, .pointer (some ⟨g10, 0, none⟩)), (9, .int .i64 (i : Int)), (19, .slice Ad71 ((append d (gD q i).n ([] ++ (gD q i).b)).2.l.length) cp72), (20, .int .i64 (j : Int)), (215, .bool true), (230, .bool false)]) (by kernel_rfl) ?_
        refine WQ.thenN ?_
        refine WE.condF (by kernel_rfl) ?_
        refine WE.skip ?_
        refine WQ.blkN ?_
        refine WQ.thenN ?_
        refine WE.region ?_
        refine WO.run 1 0 [(216, .int .i64 (j : Int))] (by kernel_rfl) (by kernel_rfl) ?_
        refine WO.one (SQ.F 1 (by kernel_rfl)) 217 (.int .i64 (IntKind.i64.wrap ((j : Int) + 1))) (by kernel_rfl) ?_
        refine WO.top (v' := .int .i64 ((j + 1 : Nat) : Int)) (wrap_i64 (by omega) (by omega)) ?_
        refine WO.run 1 2 [(20, .int .i64 ((j + 1 : Nat) : Int))] (by kernel_rfl) (by kernel_rfl) ?_
        refine WO.done (by kernel_rfl) ?_
        refine WQ.keep [0, 1, 5, 6, 8, 9, 19, 20, 215, 230] (e' := [(0, .int .i64 room), (1, .slice AL nL cL), (5, .bool true), (6, .pointer (some ⟨g5, 0, none⟩)), (8, .pointer (some ⟨g10, 0, none⟩)), (9, .int .i64 (i : Int)), (19, .slice Ad71 ((append d (gD q i).n ([] ++ (gD q i).b)).2.l.length) cp72), (20, .int .i64 ((j + 1 : Nat) : Int)), (215, .bool true), (230, .bool false)]) (by kernel_rfl) ?_
        refine WQ.round ?_
        intro a_ ha_
        refine ⟨j + 1, ?_, ha_.keep [0, 1, 5, 6, 8, 9, 19, 20] (by kernel_rfl), ?_⟩
        · omega
        · exact ⟨by omega, HG47, HM54, HVl, HVp, HVm, HBm, HA⟩
      intro h73
      refine WO.done (by kernel_rfl) ?_
      refine WQ.keep [0, 1, 5, 6, 8, 9, 19, 20, 215] (e' := [(0, .int .i64 room), (1, .slice AL nL cL), (5, .bool true), (6, .pointer (some ⟨g5, 0, none⟩)), (8, .pointer (some ⟨g10, 0, none⟩)), (9, .int .i64 (i : Int)), (19, .slice Ad71 ((append d (gD q i).n ([] ++ (gD q i).b)).2.l.length) cp72), (20, .int .i64 (j : Int)), (215, .bool false)]) (by kernel_rfl) ?_
      refine WQ.thenN ?_
      refine WE.condF (by kernel_rfl) ?_
      refine WE.exit ?_
      refine WQ.thenE ?_
      refine WQ.thenE ?_
      refine WQ.blkE ?_
      refine WQ.blkN ?_
      refine WQ.thenN ?_
      refine WE.region ?_
      refine WO.run 1 0 [(73, .int .i64 (i : Int))] (by kernel_rfl) (by kernel_rfl) ?_
      refine WO.one (SQ.F 1 (by kernel_rfl)) 74 (.int .i64 (IntKind.i64.wrap ((i : Int) + 1))) (by kernel_rfl) ?_
      refine WO.top (v' := .int .i64 ((i + 1 : Nat) : Int)) (wrap_i64 (by omega) (by omega)) ?_
      refine WO.run 1 2 [(9, .int .i64 ((i + 1 : Nat) : Int))] (by kernel_rfl) (by kernel_rfl) ?_
      refine WO.done (by kernel_rfl) ?_
      refine WQ.keep [0, 1, 5, 6, 8, 9, 19, 20, 215] (e' := [(0, .int .i64 room), (1, .slice AL nL cL), (5, .bool true), (6, .pointer (some ⟨g5, 0, none⟩)), (8, .pointer (some ⟨g10, 0, none⟩)), (9, .int .i64 ((i + 1 : Nat) : Int)), (19, .slice Ad71 ((append d (gD q i).n ([] ++ (gD q i).b)).2.l.length) cp72), (20, .int .i64 (j : Int)), (215, .bool false)]) (by kernel_rfl) ?_
      refine WQ.round ?_
      intro a_ ha_
      refine ⟨(i + 1, (append d (gD q i).n ([] ++ (gD q i).b)).2, D45, D52), ?_, ha_.keep [0, 1, 5, 6, 8, 9] (by kernel_rfl), ?_⟩
      · show nL - (i + 1) < nL - i; omega
      · exact ⟨by show i + 1 ≤ nL; omega, ok48, hdl49, HG47, HM54, HVl, ge_HA_D45, ge_HA_D52, (dj_symm dj_D52_D45), HA⟩
    intro h42
    refine WO.run 1 1 [(96, .bool false)] (by kernel_rfl) (by kernel_rfl) ?_
    refine WO.done (by kernel_rfl) ?_
    refine WQ.keep [0, 1, 5, 6, 8, 9, 10, 11, 12, 13, 72, 82, 90, 96] (e' := [(0, .int .i64 room), (1, .slice AL nL cL), (5, .bool true), (6, .pointer (some ⟨g5, 0, none⟩)), (8, .pointer (some ⟨g10, 0, none⟩)), (9, .int .i64 (i : Int)), (10, .pointer (some ⟨g18, 0, none⟩)), (11, .slice (some ⟨b32, 0, none⟩) (0 + ((gD q i).b.length)) cap33), (12, .int .i64 0), (13, .nilIface), (72, .bool true), (82, .bool false), (90, .int .i64 v41), (96, .bool false)]) (by kernel_rfl) ?_
    refine WQ.thenN ?_
    refine WE.condF (by kernel_rfl) ?_
    refine WE.region ?_
    refine WO.one (SQ.F 0 (by kernel_rfl)) 98 (.bool (decide ((v41 : Int) = 1))) (by kernel_rfl) ?_
    refine WO.topP ((v41 : Int) = 1) ?_ ?_
    · intro h80
      refine WO.run 1 1 [(96, .bool true)] (by kernel_rfl) (by kernel_rfl) ?_
      refine WO.done (by kernel_rfl) ?_
      refine WQ.keep [0, 1, 5, 6, 8, 9, 10, 11, 12, 13, 72, 82, 90, 96] (e' := [(0, .int .i64 room), (1, .slice AL nL cL), (5, .bool true), (6, .pointer (some ⟨g5, 0, none⟩)), (8, .pointer (some ⟨g10, 0, none⟩)), (9, .int .i64 (i : Int)), (10, .pointer (some ⟨g18, 0, none⟩)), (11, .slice (some ⟨b32, 0, none⟩) (0 + ((gD q i).b.length)) cap33), (12, .int .i64 0), (13, .nilIface), (72, .bool true), (82, .bool false), (90, .int .i64 v41), (96, .bool true)]) (by kernel_rfl) ?_
      refine WQ.thenN ?_
      refine WE.condT (by kernel_rfl) ?_
      refine WE.seq ?_
      refine WE.region ?_
      refine WO.run 2 0 [(100, .pointer (some ⟨g18, 1, none⟩)), (99, .pointer (some ⟨g5, 0, none⟩))] (by kernel_rfl) (by kernel_rfl) ?_
      refine WO.ld (SQ.S 2 (by kernel_rfl)) 101 (.int .i64 ((gD q i).n)) (by kernel_rfl) (same (HB25.at 1 (by kernel_rfl))) ?_
      refine WO.run 1 3 [(102, .slice (some ⟨b32, 0, none⟩) (0 + ((gD q i).b.length)) cap33)] (by kernel_rfl) (by kernel_rfl) ?_
      refine WO.call (SQ.E 4 (by kernel_rfl)) 103 (by kernel_rfl) (gappend g5 F d (gD q i).n (some ⟨b32, 0, none⟩) (0 + ((gD q i).b.length)) cap33 (([] : List UInt8) ++ (gD q i).b) [b32] _ HG hok hnn (VX.of_row HR35) ((show (([] : List UInt8) ++ (gD q i).b).length = 0 + ((gD q i).b.length) by rw [List.length_append, (rfl : List.length ([] : List UInt8) = 0)]; first | rfl | (have := (rfl : List.length ([] : List UInt8) = 0); simp; omega))) (by simp only [List.nil_append]; omega) (nin_sing nin_b32_F) (by omega)) ?_
      rintro _ w81 ⟨rfl, D83, HG85, F82, hg84⟩
      refine ⟨_, rfl, trivial, ?_⟩
      have nin_g18_D83 : g18 ∉ D83 := grow_nin hg84 nin_g18_F HB25.lt
      have nin_b32_D83 : b32 ∉ D83 := grow_nin hg84 nin_b32_F HR35.lt
      have dj_D83_FM : ∀ y ∈ D83, y ∉ FM := grow_dj hg84 hdj (MDisk.lt HM)
      have dj_D83_FL : ∀ y ∈ D83, y ∉ FL := grow_dj hg84 hdjL HVl.lt
      have dj_D83_Fi : ∀ y ∈ D83, y ∉ Fi := grow_dj hg84 dji_F HVi.lt
      have ge_HA_D83 : ∀ y ∈ D83, (World.heap w).size ≤ y := grow_ge hg84 hgF HA.size
      have HB25 := Blk.keep HB25 F82 nin_g18_F
      have HR35 := RowB.keep HR35 F82 nin_b32_F
      have HM := MDisk.keep HM F82 (dj_symm hdj)
      have HVl := HVl.keep F82 (dj_symm hdjL)
      have HVi := HVi.keep F82 (dj_symm dji_F)
      have HA := Fr.step HA F82 (inF hgF)
      have ok86 : Dk.Ok (append d (gD q i).n ([] ++ (gD q i).b)).2 := append_ok hok _ _ hnn.2
      have hdl87 : (append d (gD q i).n ([] ++ (gD q i).b)).2.l.length ≤ i + 1 := Nat.le_trans (len_append _ _ _) (by omega)
      have hcd : 0 ≤ (append d (gD q i).n ([] ++ (gD q i).b)).1 ∧ (append d (gD q i).n ([] ++ (gD q i).b)).1 ≤ 10 := code_append _ _ _
      refine WO.run 1 5 [(13, codeV (append d (gD q i).n ([] ++ (gD q i).b)).1)] (by kernel_rfl) (by kernel_rfl) ?_
      refine WO.done (by kernel_rfl) ?_
      refine WQ.keep [0, 1, 5, 6, 8, 9, 10, 11, 12, 13, 72, 82, 90, 96] (e' := [(0, .int .i64 room), (1, .slice AL nL cL), (5, .bool true), (6, .pointer (some ⟨g5, 0, none⟩)), (8, .pointer (some ⟨g10, 0, none⟩)), (9, .int .i64 (i : Int)), (10, .pointer (some ⟨g18, 0, none⟩)), (11, .slice (some ⟨b32, 0, none⟩) (0 + ((gD q i).b.length)) cap33), (12, .int .i64 0), (13, codeV (append d (gD q i).n ([] ++ (gD q i).b)).1), (72, .bool true), (82, .bool false), (90, .int .i64 v41), (96, .bool true)]) (by kernel_rfl) ?_
      refine WQ.thenN ?_
      refine WE.region ?_
      refine WO.run 2 0 [(105, .pointer (some ⟨g18, 1, none⟩)), (104, .pointer (some ⟨g10, 0, none⟩))] (by kernel_rfl) (by kernel_rfl) ?_
      refine WO.ld (SQ.S 2 (by kernel_rfl)) 106 (.int .i64 ((gD q i).n)) (by kernel_rfl) (same (HB25.at 1 (by kernel_rfl))) ?_
      refine WO.run 1 3 [(107, .pointer (some ⟨g18, 3, none⟩))] (by kernel_rfl) (by kernel_rfl) ?_
      refine WO.ld (SQ.S 4 (by kernel_rfl)) 108 (.slice ((gD q i).A) ((gD q i).b.length) ((gD q i).cap)) (by kernel_rfl) (same (HB25.at 3 (by kernel_rfl))) ?_
      refine WO.b2s (v := .slice ((gD q i).A) ((gD q i).b.length) ((gD q i).cap)) (SQ.S 5 (by kernel_rfl)) 109 byt ((gD q i).b) (n := ((gD q i).b.length)) (rfl : List.length (gD q i).b = _) (by kernel_rfl) (same (HVi.srcN (rfl : List.length (gD q i).b = _) (cB_len _) (cB_one _) ((gD q i).cap))) ?_
      refine WO.call (SQ.E 6 (by kernel_rfl)) 110 (by kernel_rfl) (mappend g10 FM d (gD q i).n ([] ++ (gD q i).b) _ HM hok (by omega) (by simp only [List.nil_append]; omega)) ?_
      rintro _ w88 ⟨rfl, D90, HM92, F89, hg91⟩
      refine ⟨_, rfl, trivial, ?_⟩
      have nin_g18_D90 : g18 ∉ D90 := grow_nin hg91 nin_g18_FM HB25.lt
      have nin_b32_D90 : b32 ∉ D90 := grow_nin hg91 nin_b32_FM HR35.lt
      have dj_D90_FL : ∀ y ∈ D90, y ∉ FL := grow_dj hg91 hdjM HVl.lt
      have dj_D90_Fi : ∀ y ∈ D90, y ∉ Fi := grow_dj hg91 dji_FM HVi.lt
      have dj_D90_D83 : ∀ y ∈ D90, y ∉ D83 := grow_dj hg91 (dj_symm dj_D83_FM) (GDisk.lt HG85)
      have ge_HA_D90 : ∀ y ∈ D90, (World.heap w).size ≤ y := grow_ge hg91 hgM HA.size
      have HB25 := Blk.keep HB25 F89 nin_g18_FM
      have HR35 := RowB.keep HR35 F89 nin_b32_FM
      have HVl := HVl.keep F89 (dj_symm hdjM)
      have HVi := HVi.keep F89 (dj_symm dji_FM)
      have HG85 := GDisk.keep HG85 F89 dj_D83_FM
      have HA := Fr.step HA F89 (inF hgM)
      refine WO.run 1 7 [(12, .int .i64 ((append d (gD q i).n ([] ++ (gD q i).b)).1))] (by kernel_rfl) (by kernel_rfl) ?_
      refine WO.done (by kernel_rfl) ?_
      refine WQ.keep [0, 1, 5, 6, 8, 9, 10, 11, 12, 13, 72, 82, 90, 96] (e' := [(0, .int .i64 room), (1, .slice AL nL cL), (5, .bool true), (6, .pointer (some ⟨g5, 0, none⟩)), (8, .pointer (some ⟨g10, 0, none⟩)), (9, .int .i64 (i : Int)), (10, .pointer (some ⟨g18, 0, none⟩)), (11, .slice (some ⟨b32, 0, none⟩) (0 + ((gD q i).b.length)) cap33), (12, .int .i64 ((append d (gD q i).n ([] ++ (gD q i).b)).1)), (13, codeV (append d (gD q i).n ([] ++ (gD q i).b)).1), (72, .bool true), (82, .bool false), (90, .int .i64 v41), (96, .bool true)]) (by kernel_rfl) ?_
      refine WQ.blkN ?_
      refine WQ.thenN ?_
      refine WE.seq ?_
      refine WE.seq ?_
      refine WE.region ?_
      refine WO.run 1 0 [(18, .int .i64 0)] (by kernel_rfl) (by kernel_rfl) ?_
      refine WO.done (by kernel_rfl) ?_
      refine WQ.keep [0, 1, 5, 6, 8, 9, 10, 11, 12, 13, 18, 72, 82, 90, 96] (e' := [(0, .int .i64 room), (1, .slice AL nL cL), (5, .bool true), (6, .pointer (some ⟨g5, 0, none⟩)), (8, .pointer (some ⟨g10, 0, none⟩)), (9, .int .i64 (i : Int)), (10, .pointer (some ⟨g18, 0, none⟩)), (11, .slice (some ⟨b32, 0, none⟩) (0 + ((gD q i).b.length)) cap33), (12, .int .i64 ((append d (gD q i).n ([] ++ (gD q i).b)).1)), (13, codeV (append d (gD q i).n ([] ++ (gD q i).b)).1), (18, .int .i64 0), (72, .bool true), (82, .bool false), (90, .int .i64 v41), (96, .bool true)]) (by kernel_rfl) ?_
      refine WQ.thenN ?_
      refine WE.block ?_
      refine WE.loop (α := Nat × List UInt8) (E := fun ⟨j, z⟩ => [(0, .int .i64 room), (1, .slice AL nL cL), (5, .bool true), (6, .pointer (some ⟨g5, 0, none⟩)), (8, .pointer (some ⟨g10, 0, none⟩)), (9, .int .i64 (i : Int)), (11, .slice (some ⟨b32, 0, none⟩) (0 + ((gD q i).b.length)) cap33), (12, .int .i64 ((append d (gD q i).n ([] ++ (gD q i).b)).1)), (13, codeV (append d (gD q i).n ([] ++ (gD q i).b)).1), (18, .int .i64 (j : Int))]) (I := fun ⟨j, z⟩ wo => j ≤ 0 + ((gD q i).b.length) ∧ z.length = 0 + ((gD q i).b.length) ∧ RowB wo b32 5 1 cap33 (z.map cB) ∧ GDisk wo g5 D83 ((append d (gD q i).n ([] ++ (gD q i).b)).2) ∧ MDisk wo g10 D90 ((append d (gD q i).n ([] ++ (gD q i).b)).2) ∧ VX cD 4 wo FL AL q ∧ Fr [] w wo) (m := fun ⟨j, z⟩ => (0 + ((gD q i).b.length)) - j) (0, (([] : List UInt8) ++ (gD q i).b)) [0, 1, 5, 6, 8, 9, 11, 12, 13, 18] (by kernel_rfl) ?_ ?_
      · exact ⟨Nat.zero_le _, (show (([] : List UInt8) ++ (gD q i).b).length = 0 + ((gD q i).b.length) by rw [List.length_append, (rfl : List.length ([] : List UInt8) = 0)]; first | rfl | (have := (rfl : List.length ([] : List UInt8) = 0); simp; omega)), HR35, HG85, HM92, HVl, HA⟩
      rintro ⟨j, z⟩ wo ⟨hj, hz, HRz, HG85, HM92, HVl, HA⟩
      dsimp only at hj hz HRz ⊢
      refine WE.seq ?_
      refine WE.seq ?_
      refine WE.region ?_
      refine WO.run 3 0 [(179, .int .i64 (0 + ((gD q i).b.length) : Int)), (178, .slice (some ⟨b32, 0, none⟩) (0 + ((gD q i).b.length)) cap33), (177, .int .i64 (j : Int))] (by kernel_rfl) (by kernel_rfl) ?_
      refine WO.one (SQ.F 3 (by kernel_rfl)) 180 (.bool (decide (((j : Int) : Int) < (0 + ((gD q i).b.length) : Int)))) (by kernel_rfl) ?_
      refine WO.topP (((j : Int) : Int) < (0 + ((gD q i).b.length) : Int)) ?_ ?_
      · intro h93
        refine WO.done (by kernel_rfl) ?_
        refine WQ.keep [0, 1, 5, 6, 8, 9, 11, 12, 13, 18, 180] (e' := [(0, .int .i64 room), (1, .slice AL nL cL), (5, .bool true), (6, .pointer (some ⟨g5, 0, none⟩)), (8, .pointer (some ⟨g10, 0, none⟩)), (9, .int .i64 (i : Int)), (11, .slice (some ⟨b32, 0, none⟩) (0 + ((gD q i).b.length)) cap33), (12, .int .i64 ((append d (gD q i).n ([] ++ (gD q i).b)).1)), (13, codeV (append d (gD q i).n ([] ++ (gD q i).b)).1), (18, .int .i64 (j : Int)), (180, .bool true)]) (by kernel_rfl) ?_
        refine WQ.thenN ?_
        refine WE.condT (by kernel_rfl) ?_
        refine WE.skip ?_
        refine WQ.thenN ?_
        refine WE.seq ?_
        refine WE.block ?_
        refine WE.region ?_
        refine WO.run 4 0 [(186, .int .i64 (j : Int)), (185, .slice (some ⟨b32, 0, none⟩) (0 + ((gD q i).b.length)) cap33), (184, .int .i64 (j : Int)), (183, .slice (some ⟨b32, 0, none⟩) (0 + ((gD q i).b.length)) cap33)] (by kernel_rfl) (by kernel_rfl) ?_
        refine WO.ixB (SQ.F 4 (by kernel_rfl)) 187 j b32 0 (0 + ((gD q i).b.length)) 1 (j : Int) (by kernel_rfl) (by omega) (by omega) (by omega) ?_
        refine WO.ld (SQ.S 5 (by kernel_rfl)) 188 (.int .u8 ((gB z j).toNat : Int)) (by kernel_rfl) (same (HRz.at j 0 j _ (by rw [List.length_map]; have := hz; omega) (by omega) (by rw [(map_gB z j (by have := hz; omega))]; rfl) (by omega))) ?_
        refine WO.one (SQ.F 6 (by kernel_rfl)) 189 (.int .u8 (IntKind.u8.wrap (((gB z j).toNat : Int) + 1))) (by kernel_rfl) ?_
        refine WO.top (v' := .int .u8 ((gB z j + 1).toNat : Int)) (congrArg (Value.int .u8) (u8_inc _)) ?_
        refine WO.ixB (SQ.F 7 (by kernel_rfl)) 190 j b32 0 (0 + ((gD q i).b.length)) 1 (j : Int) (by kernel_rfl) (by omega) (by omega) (by omega) ?_
        refine WO.stR (SQ.E 8 (by kernel_rfl)) b32 j j [.int .u8 ((gB z j + 1).toNat : Int)] HRz (by rw [List.length_map]; have := hz; omega) rfl (by omega) rfl (by kernel_rfl) (fun _ _ => trivial) ?_
        intro w94 HR96 F95 _
        have HG85 := GDisk.keep HG85 F95 (djB nin_b32_D83)
        have HM92 := MDisk.keep HM92 F95 (djB nin_b32_D90)
        have HVl := HVl.keep F95 (djB nin_b32_FL)
        have HA := Fr.step HA F95 (inSD in_HA_b32 inS0)
        have HR96 : RowB w94 b32 5 1 cap33 ((z.set j (gB z j + 1)).map cB) := by rw [List.map_set]; exact HR96
        refine WO.done (by kernel_rfl) ?_
        refine WQ.keep [0, 1, 5, 6, 8, 9, 11, 12, 13, 18, 180] (e' := [(0, .int .i64 room), (1, .slice AL nL cL), (5, .bool true), (6, .pointer (some ⟨g5, 0, none⟩)), (8, .pointer (some ⟨g10, 0, none⟩)), (9, .int .i64 (i : Int)), (11, .slice (some ⟨b32, 0, none⟩) (0 + ((gD q i).b.length)) cap33), (12, .int .i64 ((append d (gD q i).n ([] ++ (gD q i).b)).1)), (13, codeV (append d (gD q i).n ([] ++ (gD q i).b)).1), (18, .int .i64 (j : Int)), (180, .bool true)]) (by kernel_rfl) ?_
        refine WQ.blkN ?_
        refine WQ.thenN ?_
        refine WE.region ?_
        refine WO.run 1 0 [(181, .int .i64 (j : Int))] (by kernel_rfl) (by kernel_rfl) ?_
        refine WO.one (SQ.F 1 (by kernel_rfl)) 182 (.int .i64 (IntKind.i64.wrap ((j : Int) + 1))) (by kernel_rfl) ?_
        refine WO.top (v' := .int .i64 ((j + 1 : Nat) : Int)) (wrap_i64 (by omega) (by omega)) ?_
        refine WO.run 1 2 [(18, .int .i64 ((j + 1 : Nat) : Int))] (by kernel_rfl) (by kernel_rfl) ?_
        refine WO.done (by kernel_rfl) ?_
        refine WQ.keep [0, 1, 5, 6, 8, 9, 11, 12, 13, 18, 180] (e' := [(0, .int .i64 room), (1, .slice AL nL cL), (5, .bool true), (6, .pointer (some ⟨g5, 0, none⟩)), (8, .pointer (some ⟨g10, 0, none⟩)), (9, .int .i64 (i : Int)), (11, .slice (some ⟨b32, 0, none⟩) (0 + ((gD q i).b.length)) cap33), (12, .int .i64 ((append d (gD q i).n ([] ++ (gD q i).b)).1)), (13, codeV (append d (gD q i).n ([] ++ (gD q i).b)).1), (18, .int .i64 ((j + 1 : Nat) : Int)), (180, .bool true)]) (by kernel_rfl) ?_
        refine WQ.round ?_
        intro a_ ha_
        refine ⟨(j + 1, z.set j (gB z j + 1)), ?_, ha_.keep [0, 1, 5, 6, 8, 9, 11, 12, 13, 18] (by kernel_rfl), ?_⟩
        · show 0 + ((gD q i).b.length) - (j + 1) < 0 + ((gD q i).b.length) - j; omega
        · exact ⟨by show j + 1 ≤ _; omega, by rw [List.length_set]; exact hz, HR96, HG85, HM92, HVl, HA⟩
      intro h93
      refine WO.done (by kernel_rfl) ?_
      refine WQ.keep [0, 1, 5, 6, 8, 9, 11, 12, 13, 18, 180] (e' := [(0, .int .i64 room), (1, .slice AL nL cL), (5, .bool true), (6, .pointer (some ⟨g5, 0, none⟩)), (8, .pointer (some ⟨g10, 0, none⟩)), (9, .int .i64 (i : Int)), (11, .slice (some ⟨b32, 0, none⟩) (0 + ((gD q i).b.length)) cap33), (12, .int .i64 ((append d (gD q i).n ([] ++ (gD q i).b)).1)), (13, codeV (append d (gD q i).n ([] ++ (gD q i).b)).1), (18, .int .i64 (j : Int)), (180, .bool false)]) (by kernel_rfl) ?_
      refine WQ.thenN ?_
      refine WE.condF (by kernel_rfl) ?_
      refine WE.exit ?_
      refine WQ.thenE ?_
      refine WQ.thenE ?_
      refine WQ.blkE ?_
      refine WQ.thenN ?_
      refine WE.seq ?_
      refine WE.seq ?_
      refine WE.region ?_
      refine WO.run 1 0 [(191, codeV (append d (gD q i).n ([] ++ (gD q i).b)).1)] (by kernel_rfl) (by kernel_rfl) ?_
      refine WO.call (SQ.E 1 (by kernel_rfl)) 192 (by kernel_rfl) (code_any ((append d (gD q i).n ([] ++ (gD q i).b)).1 : Int) hcd _) ?_
      rintro _ w97 ⟨rfl, F98⟩
      refine ⟨_, rfl, trivial, ?_⟩
      have HRz := RowB.keep HRz F98 (nin0 _)
      have HG85 := GDisk.keep HG85 F98 (fun _ _ => nin0 _)
      have HM92 := MDisk.keep HM92 F98 (fun _ _ => nin0 _)
      have HVl := HVl.keep F98 (fun _ _ => nin0 _)
      have HA := Fr.step0 HA F98
      refine WO.run 1 2 [(193, .int .i64 ((append d (gD q i).n ([] ++ (gD q i).b)).1))] (by kernel_rfl) (by kernel_rfl) ?_
      refine WO.one (SQ.F 3 (by kernel_rfl)) 194 (.bool (!decide (((append d (gD q i).n ([] ++ (gD q i).b)).1 : Int) = ((append d (gD q i).n ([] ++ (gD q i).b)).1)))) (by kernel_rfl) ?_
      refine WO.topNT (((append d (gD q i).n ([] ++ (gD q i).b)).1 : Int) = ((append d (gD q i).n ([] ++ (gD q i).b)).1)) (by rfl) ?_
      refine WO.run 2 4 [(196, .pointer (some ⟨g5, 0, none⟩)), (195, .bool false)] (by kernel_rfl) (by kernel_rfl) ?_
      refine WO.call (SQ.E 6 (by kernel_rfl)) 197 (by kernel_rfl) (gused g5 D83 ((append d (gD q i).n ([] ++ (gD q i).b)).2) _ HG85 ok86) ?_
      rintro _ w99 ⟨rfl, F100⟩
      refine ⟨_, rfl, trivial, ?_⟩
      have HRz := RowB.keep HRz F100 (nin0 _)
      have HG85 := GDisk.keep HG85 F100 (fun _ _ => nin0 _)
      have HM92 := MDisk.keep HM92 F100 (fun _ _ => nin0 _)
      have HVl := HVl.keep F100 (fun _ _ => nin0 _)
      have HA := Fr.step0 HA F100
      refine WO.run 1 7 [(198, .pointer (some ⟨g10, 0, none⟩))] (by kernel_rfl) (by kernel_rfl) ?_
      refine WO.call (SQ.E 8 (by kernel_rfl)) 199 (by kernel_rfl) (mused g10 D90 ((append d (gD q i).n ([] ++ (gD q i).b)).2) _ HM92 ok86 (by omega)) ?_
      rintro _ w101 ⟨rfl, F102⟩
      refine ⟨_, rfl, trivial, ?_⟩
      have HRz := RowB.keep HRz F102 (nin0 _)
      have HG85 := GDisk.keep HG85 F102 (fun _ _ => nin0 _)
      have HM92 := MDisk.keep HM92 F102 (fun _ _ => nin0 _)
      have HVl := HVl.keep F102 (fun _ _ => nin0 _)
      have HA := Fr.step0 HA F102
      refine WO.one (SQ.F 9 (by kernel_rfl)) 200 (.bool (!decide (((usedL (append d (gD q i).n ([] ++ (gD q i).b)).2.l : Int) : Int) = (usedL (append d (gD q i).n ([] ++ (gD q i).b)).2.l : Int)))) (by kernel_rfl) ?_
      refine WO.topNT (((usedL (append d (gD q i).n ([] ++ (gD q i).b)).2.l : Int) : Int) = (usedL (append d (gD q i).n ([] ++ (gD q i).b)).2.l : Int)) (by rfl) ?_
      refine WO.run 1 10 [(201, .bool false)] (by kernel_rfl) (by kernel_rfl) ?_
      refine WO.done (by kernel_rfl) ?_
      refine WQ.keep [0, 1, 5, 6, 8, 9, 11, 12, 13, 18, 180, 201] (e' := [(0, .int .i64 room), (1, .slice AL nL cL), (5, .bool true), (6, .pointer (some ⟨g5, 0, none⟩)), (8, .pointer (some ⟨g10, 0, none⟩)), (9, .int .i64 (i : Int)), (11, .slice (some ⟨b32, 0, none⟩) (0 + ((gD q i).b.length)) cap33), (12, .int .i64 ((append d (gD q i).n ([] ++ (gD q i).b)).1)), (13, codeV (append d (gD q i).n ([] ++ (gD q i).b)).1), (18, .int .i64 (j : Int)), (180, .bool false), (201, .bool false)]) (by kernel_rfl) ?_
      refine WQ.thenN ?_
      refine WE.condF (by kernel_rfl) ?_
      refine WE.skip ?_
      refine WQ.thenN ?_
      refine WE.seq ?_
      refine WE.region ?_
      refine WO.run 1 0 [(202, .pointer (some ⟨g5, 0, none⟩))] (by kernel_rfl) (by kernel_rfl) ?_
      refine WO.call (SQ.E 1 (by kernel_rfl)) 203 (by kernel_rfl) (gparts g5 D83 ((append d (gD q i).n ([] ++ (gD q i).b)).2) _ HG85 ok86 (by omega)) ?_
      rintro _ w103 ⟨v105, G106, rfl, HO107, F104, ge108⟩
      refine ⟨_, rfl, trivial, ?_⟩
      obtain ⟨Ad109, cp110, rfl⟩ := HO107.sliceN (n := (append d (gD q i).n ([] ++ (gD q i).b)).2.l.length) (by simp)
      have HVp := VX.of_own HO107
      have ge108r := fun y hy => Or.inr (a := y ∈ ([] : List Nat)) (ge108 y hy)
      have hpl : ((append d (gD q i).n ([] ++ (gD q i).b)).2.l.map fun p => p.n).length = (append d (gD q i).n ([] ++ (gD q i).b)).2.l.length := List.length_map _
      have nin_b32_G106 : b32 ∉ G106 := grow_nin ge108r (nin0 _) HRz.lt
      have dj_G106_D83 : ∀ y ∈ G106, y ∉ D83 := grow_dj ge108r (by simp) (GDisk.lt HG85)
      have dj_G106_D90 : ∀ y ∈ G106, y ∉ D90 := grow_dj ge108r (by simp) (MDisk.lt HM92)
      have dj_G106_FL : ∀ y ∈ G106, y ∉ FL := grow_dj ge108r (by simp) HVl.lt
      have ge_HA_G106 : ∀ y ∈ G106, (World.heap w).size ≤ y := grow_ge ge108r (by simp) HA.size
      have HRz := RowB.keep HRz F104 (nin0 _)
      have HG85 := GDisk.keep HG85 F104 (fun _ _ => nin0 _)
      have HM92 := MDisk.keep HM92 F104 (fun _ _ => nin0 _)
      have HVl := HVl.keep F104 (fun _ _ => nin0 _)
      have HA := Fr.step0 HA F104
      refine WO.run 1 2 [(19, .slice Ad109 ((append d (gD q i).n ([] ++ (gD q i).b)).2.l.length) cp110)] (by kernel_rfl) (by kernel_rfl) ?_
      refine WO.done (by kernel_rfl) ?_
      refine WQ.keep [0, 1, 5, 6, 8, 9, 11, 12, 13, 18, 19, 180, 201] (e' := [(0, .int .i64 room), (1, .slice AL nL cL), (5, .bool true), (6, .pointer (some ⟨g5, 0, none⟩)), (8, .pointer (some ⟨g10, 0, none⟩)), (9, .int .i64 (i : Int)), (11, .slice (some ⟨b32, 0, none⟩) (0 + ((gD q i).b.length)) cap33), (12, .int .i64 ((append d (gD q i).n ([] ++ (gD q i).b)).1)), (13, codeV (append d (gD q i).n ([] ++ (gD q i).b)).1), (18, .int .i64 (j : Int)), (19, .slice Ad109 ((append d (gD q i).n ([] ++ (gD q i).b)).2.l.length) cp110), (180, .bool false), (201, .bool false)]) (by kernel_rfl) ?_
      refine WQ.thenN ?_
      refine WE.seq ?_
      refine WE.seq ?_
      obtain ⟨AM, cM, GM_, VM⟩ := mview HM92
      have HBm := VM.blk
      have HVm := VM.view
      have hgGM := VM.hg
      refine WE.region ?_
      refine WO.run 5 0 [(208, .pointer (some ⟨g10, 1, none⟩)), (207, .pointer (some ⟨g10, 0, none⟩)), (206, .pointer (some ⟨g10, 0, none⟩)), (205, .int .i64 ((append d (gD q i).n ([] ++ (gD q i).b)).2.l.length : Int)), (204, .slice Ad109 ((append d (gD q i).n ([] ++ (gD q i).b)).2.l.length) cp110)] (by kernel_rfl) (by kernel_rfl) ?_
      refine WO.ld (SQ.S 5 (by kernel_rfl)) 209 (.slice AM ((append d (gD q i).n ([] ++ (gD q i).b)).2.l.length) cM) (by kernel_rfl) (same (HBm.at 1 (by kernel_rfl))) ?_
      refine WO.run 1 6 [(210, .int .i64 ((append d (gD q i).n ([] ++ (gD q i).b)).2.l.length : Int))] (by kernel_rfl) (by kernel_rfl) ?_
      refine WO.one (SQ.F 7 (by kernel_rfl)) 211 (.bool (!decide ((((append d (gD q i).n ([] ++ (gD q i).b)).2.l.length : Int) : Int) = ((append d (gD q i).n ([] ++ (gD q i).b)).2.l.length : Int)))) (by kernel_rfl) ?_
      refine WO.topNT ((((append d (gD q i).n ([] ++ (gD q i).b)).2.l.length : Int) : Int) = ((append d (gD q i).n ([] ++ (gD q i).b)).2.l.length : Int)) (by rfl) ?_
      refine WO.done (by kernel_rfl) ?_
      refine WQ.keep [0, 1, 5, 6, 8, 9, 11, 12, 13, 18, 19, 180, 201, 211] (e' := [(0, .int .i64 room), (1, .slice AL nL cL), (5, .bool true), (6, .pointer (some ⟨g5, 0, none⟩)), (8, .pointer (some ⟨g10, 0, none⟩)), (9, .int .i64 (i : Int)), (11, .slice (some ⟨b32, 0, none⟩) (0 + ((gD q i).b.length)) cap33), (12, .int .i64 ((append d (gD q i).n ([] ++ (gD q i).b)).1)), (13, codeV (append d (gD q i).n ([] ++ (gD q i).b)).1), (18, .int .i64 (j : Int)), (19, .slice Ad109 ((append d (gD q i).n ([] ++ (gD q i).b)).2.l.length) cp110), (180, .bool false), (201, .bool false), (211, .bool false)]) (by kernel_rfl) ?_
      refine WQ.thenN ?_
      refine WE.condF (by kernel_rfl) ?_
      refine WE.skip ?_
      refine WQ.thenN ?_
      refine WE.seq ?_
      refine WE.region ?_
      refine WO.run 1 0 [(20, .int .i64 0)] (by kernel_rfl) (by kernel_rfl) ?_
      refine WO.done (by kernel_rfl) ?_
      refine WQ.keep [0, 1, 5, 6, 8, 9, 11, 12, 13, 18, 19, 20, 180, 201, 211] (e' := [(0, .int .i64 room), (1, .slice AL nL cL), (5, .bool true), (6, .pointer (some ⟨g5, 0, none⟩)), (8, .pointer (some ⟨g10, 0, none⟩)), (9, .int .i64 (i : Int)), (11, .slice (some ⟨b32, 0, none⟩) (0 + ((gD q i).b.length)) cap33), (12, .int .i64 ((append d (gD q i).n ([] ++ (gD q i).b)).1)), (13, codeV (append d (gD q i).n ([] ++ (gD q i).b)).1), (18, .int .i64 (j : Int)), (19, .slice Ad109 ((append d (gD q i).n ([] ++ (gD q i).b)).2.l.length) cp110), (20, .int .i64 0), (180, .bool false), (201, .bool false), (211, .bool false)]) (by kernel_rfl) ?_
      refine WQ.thenN ?_
      refine WE.block ?_
      refine WE.loop (α := Nat) (E := fun j => [(0, .int .i64 room), (1, .slice AL nL cL), (5, .bool true), (6, .pointer (some ⟨g5, 0, none⟩)), (8, .pointer (some ⟨g10, 0, none⟩)), (9, .int .i64 (i : Int)), (19, .slice Ad109 ((append d (gD q i).n ([] ++ (gD q i).b)).2.l.length) cp110), (20, .int .i64 (j : Int))]) (I := fun j wo => j ≤ (append d (gD q i).n ([] ++ (gD q i).b)).2.l.length ∧ GDisk wo g5 D83 ((append d (gD q i).n ([] ++ (gD q i).b)).2) ∧ MDisk wo g10 D90 ((append d (gD q i).n ([] ++ (gD q i).b)).2) ∧ VX cD 4 wo FL AL q ∧ VX cI 1 wo G106 Ad109 ((append d (gD q i).n ([] ++ (gD q i).b)).2.l.map fun p => p.n) ∧ VX cP 3 wo GM_ AM ((append d (gD q i).n ([] ++ (gD q i).b)).2.l) ∧ Blk wo g10 #[.int .i64 (append d (gD q i).n ([] ++ (gD q i).b)).2.room, .slice AM ((append d (gD q i).n ([] ++ (gD q i).b)).2.l.length) cM, .bool (append d (gD q i).n ([] ++ (gD q i).b)).2.down] 40 ∧ Fr [] w wo) (m := fun j => (append d (gD q i).n ([] ++ (gD q i).b)).2.l.length - j) 0 [0, 1, 5, 6, 8, 9, 19, 20] (by kernel_rfl) ?_ ?_
      · exact ⟨Nat.zero_le _, HG85, HM92, HVl, HVp, HVm, HBm, HA⟩
      rintro j wo ⟨hj, HG85, HM92, HVl, HVp, HVm, HBm, HA⟩
      refine WE.seq ?_
      refine WE.seq ?_
      refine WE.region ?_
      refine WO.run 3 0 [(214, .int .i64 ((append d (gD q i).n ([] ++ (gD q i).b)).2.l.length : Int)), (213, .slice Ad109 ((append d (gD q i).n ([] ++ (gD q i).b)).2.l.length) cp110), (212, .int .i64 (j : Int))] (by kernel_rfl) (by kernel_rfl) ?_
      refine WO.one (SQ.F 3 (by kernel_rfl)) 215 (.bool (decide (((j : Int) : Int) < ((append d (gD q i).n ([] ++ (gD q i).b)).2.l.length : Int)))) (by kernel_rfl) ?_
      refine WO.topP (((j : Int) : Int) < ((append d (gD q i).n ([] ++ (gD q i).b)).2.l.length : Int)) ?_ ?_
      · intro h111
        refine WO.done (by kernel_rfl) ?_
        refine WQ.keep [0, 1, 5, 6, 8, 9, 19, 20, 215] (e' := [(0, .int .i64 room), (1, .slice AL nL cL), (5, .bool true), (6, .pointer (some ⟨g5, 0, none⟩)), (8, .pointer (some ⟨g10, 0, none⟩)), (9, .int .i64 (i : Int)), (19, .slice Ad109 ((append d (gD q i).n ([] ++ (gD q i).b)).2.l.length) cp110), (20, .int .i64 (j : Int)), (215, .bool true)]) (by kernel_rfl) ?_
        refine WQ.thenN ?_
        refine WE.condT (by kernel_rfl) ?_
        refine WE.skip ?_
        refine WQ.thenN ?_
        refine WE.seq ?_
        refine WE.block ?_
        refine WE.seq ?_
        refine WE.draw [.free, .free, .free, .still, .free, .free, .free, .still, .free, .free, .free, .still, .free] Same sameR (by kernel_rfl) 13 (Array.replicate 13 false) (by kernel_rfl) rfl ?_
        intro w112 F113 _
        have HBm := Blk.keep HBm F113 (nin0 _)
        have HG85 := GDisk.keep HG85 F113 (fun _ _ => nin0 _)
        have HM92 := MDisk.keep HM92 F113 (fun _ _ => nin0 _)
        have HVl := HVl.keep F113 (fun _ _ => nin0 _)
        have HVp := HVp.keep F113 (fun _ _ => nin0 _)
        have HVm := HVm.keep F113 (fun _ _ => nin0 _)
        have HA := Fr.step0 HA F113
        refine WO.one (SA.F sameR sameT _ 0 _ (by kernel_rfl)) 218 (.slice Ad109 ((append d (gD q i).n ([] ++ (gD q i).b)).2.l.length) cp110) (by kernel_rfl) ?_
        refine WO.one (SA.F sameR sameT _ 1 _ (by kernel_rfl)) 219 (.int .i64 (j : Int)) (by kernel_rfl) ?_
        obtain ⟨ad114, hA115⟩ := HVp.addr (i := j) (by have := hpl; omega)
        refine WO.ixo (SA.F sameR sameT _ 2 _ (by kernel_rfl)) 220 ((append d (gD q i).n ([] ++ (gD q i).b)).2.l.length) 1 j (j : Int) hA115 (by kernel_rfl) rfl (by omega) ?_
        refine WO.ld (SA.S sameR sameT _ 3 _ (by kernel_rfl)) 221 (.int .i64 (g0 ((append d (gD q i).n ([] ++ (gD q i).b)).2.l.map fun p => p.n) j)) (by kernel_rfl) (same (HVp.at0 hA115 (g0_some ((append d (gD q i).n ([] ++ (gD q i).b)).2.l.map fun p => p.n) j (by have := hpl; omega)) (by kernel_rfl))) ?_
        refine WO.one (SA.F sameR sameT _ 4 _ (by kernel_rfl)) 222 (.pointer (some ⟨g10, 0, none⟩)) (by kernel_rfl) ?_
        refine WO.one (SA.F sameR sameT _ 5 _ (by kernel_rfl)) 223 (.pointer (some ⟨g10, 0, none⟩)) (by kernel_rfl) ?_
        refine WO.one (SA.F sameR sameT _ 6 _ (by kernel_rfl)) 224 (.pointer (some ⟨g10, 1, none⟩)) (by kernel_rfl) ?_
        refine WO.ld (SA.S sameR sameT _ 7 _ (by kernel_rfl)) 225 (.slice AM ((append d (gD q i).n ([] ++ (gD q i).b)).2.l.length) cM) (by kernel_rfl) (same (HBm.at 1 (by kernel_rfl))) ?_
        refine WO.one (SA.F sameR sameT _ 8 _ (by kernel_rfl)) 226 (.int .i64 (j : Int)) (by kernel_rfl) ?_
        obtain ⟨ad116, hA117⟩ := HVm.addr (i := j) (by have := (rfl : List.length (append d (gD q i).n ([] ++ (gD q i).b)).2.l = _); omega)
        refine WO.ixo (SA.F sameR sameT _ 9 _ (by kernel_rfl)) 227 ((append d (gD q i).n ([] ++ (gD q i).b)).2.l.length) 3 j (j : Int) hA117 (by kernel_rfl) rfl (by omega) ?_
        refine WO.one (SA.F sameR sameT _ 10 _ (by kernel_rfl)) 228 (.pointer (some (ad116.add (j * 3)))) (by kernel_rfl) ?_
        refine WO.ld (SA.S sameR sameT _ 11 _ (by kernel_rfl)) 229 (.int .i64 ((gP ((append d (gD q i).n ([] ++ (gD q i).b)).2.l) j).n)) (by kernel_rfl) (same (HVm.at0 hA117 (gP_some ((append d (gD q i).n ([] ++ (gD q i).b)).2.l) j (by have := (rfl : List.length (append d (gD q i).n ([] ++ (gD q i).b)).2.l = _); omega)) (by kernel_rfl))) ?_
        refine WO.one (SA.F sameR sameT _ 12 _ (by kernel_rfl)) 230 (.bool (!decide ((g0 ((append d (gD q i).n ([] ++ (gD q i).b)).2.l.map fun p => p.n) j : Int) = ((gP ((append d (gD q i).n ([] ++ (gD q i).b)).2.l) j).n)))) (by kernel_rfl) ?_
        refine WO.topNT ((g0 ((append d (gD q i).n ([] ++ (gD q i).b)).2.l.map fun p => p.n) j : Int) = ((gP ((append d (gD q i).n ([] ++ (gD q i).b)).2.l) j).n)) (by exact g0_gP _ _ (by omega)) ?_
        refine WO.doneA (by kernel_rfl) ?_
        refine WQ.keep [0, 1, 5, 6, 8, 9, 19, 20, 215, 230] (e' := [(0, .int .i64 room), (1, .slice AL nL cL), (5, .bool true), (6, .pointer (some ⟨g5, 0, none⟩)), (8, .pointer (some ⟨g10, 0, none⟩)), (9, .int .i64 (i : Int)), (19, .slice Ad109 ((append d (gD q i).n ([] ++ (gD q i).b)).2.l.length) cp110), (20, .int .i64 (j : Int)), (215, .bool true), (230, .bool false)]) (by kernel_rfl) ?_
        refine WQ.thenN ?_
        refine WE.condF (by kernel_rfl) ?_
        refine WE.skip ?_
        refine WQ.blkN ?_
        refine WQ.thenN ?_
        refine WE.region ?_
        refine WO.run 1 0 [(216, .int .i64 (j : Int))] (by kernel_rfl) (by kernel_rfl) ?_
        refine WO.one (SQ.F 1 (by kernel_rfl)) 217 (.int .i64 (IntKind.i64.wrap ((j : Int) + 1))) (by kernel_rfl) ?_
        refine WO.top (v' := .int .i64 ((j + 1 : Nat) : Int)) (wrap_i64 (by omega) (by omega)) ?_
        refine WO.run 1 2 [(20, .int .i64 ((j + 1 : Nat) : Int))] (by kernel_rfl) (by kernel_rfl) ?_
        refine WO.done (by kernel_rfl) ?_
        refine WQ.keep [0, 1, 5, 6, 8, 9, 19, 20, 215, 230] (e' := [(0, .int .i64 room), (1, .slice AL nL cL), (5, .bool true), (6, .pointer (some ⟨g5, 0, none⟩)), (8, .pointer (some ⟨g10, 0, none⟩)), (9, .int .i64 (i : Int)), (19, .slice Ad109 ((append d (gD q i).n ([] ++ (gD q i).b)).2.l.length) cp110), (20, .int .i64 ((j + 1 : Nat) : Int)), (215, .bool true), (230, .bool false)]) (by kernel_rfl) ?_
        refine WQ.round ?_
        intro a_ ha_
        refine ⟨j + 1, ?_, ha_.keep [0, 1, 5, 6, 8, 9, 19, 20] (by kernel_rfl), ?_⟩
        · omega
        · exact ⟨by omega, HG85, HM92, HVl, HVp, HVm, HBm, HA⟩
      intro h111
      refine WO.done (by kernel_rfl) ?_
      refine WQ.keep [0, 1, 5, 6, 8, 9, 19, 20, 215] (e' := [(0, .int .i64 room), (1, .slice AL nL cL), (5, .bool true), (6, .pointer (some ⟨g5, 0, none⟩)), (8, .pointer (some ⟨g10, 0, none⟩)), (9, .int .i64 (i : Int)), (19, .slice Ad109 ((append d (gD q i).n ([] ++ (gD q i).b)).2.l.length) cp110), (20, .int .i64 (j : Int)), (215, .bool false)]) (by kernel_rfl) ?_
      refine WQ.thenN ?_
      refine WE.condF (by kernel_rfl) ?_
      refine WE.exit ?_
      refine WQ.thenE ?_
      refine WQ.thenE ?_
      refine WQ.blkE ?_
      refine WQ.blkN ?_
      refine WQ.thenN ?_
      refine WE.region ?_
      refine WO.run 1 0 [(73, .int .i64 (i : Int))] (by kernel_rfl) (by kernel_rfl) ?_
      refine WO.one (SQ.F 1 (by kernel_rfl)) 74 (.int .i64 (IntKind.i64.wrap ((i : Int) + 1))) (by kernel_rfl) ?_
      refine WO.top (v' := .int .i64 ((i + 1 : Nat) : Int)) (wrap_i64 (by omega) (by omega)) ?_
      refine WO.run 1 2 [(9, .int .i64 ((i + 1 : Nat) : Int))] (by kernel_rfl) (by kernel_rfl) ?_
      refine WO.done (by kernel_rfl) ?_
      refine WQ.keep [0, 1, 5, 6, 8, 9, 19, 20, 215] (e' := [(0, .int .i64 room), (1, .slice AL nL cL), (5, .bool true), (6, .pointer (some ⟨g5, 0, none⟩)), (8, .pointer (some ⟨g10, 0, none⟩)), (9, .int .i64 ((i + 1 : Nat) : Int)), (19, .slice Ad109 ((append d (gD q i).n ([] ++ (gD q i).b)).2.l.length) cp110), (20, .int .i64 (j : Int)), (215, .bool false)]) (by kernel_rfl) ?_
      refine WQ.round ?_
      intro a_ ha_
      refine ⟨(i + 1, (append d (gD q i).n ([] ++ (gD q i).b)).2, D83, D90), ?_, ha_.keep [0, 1, 5, 6, 8, 9] (by kernel_rfl), ?_⟩
      · show nL - (i + 1) < nL - i; omega
      · exact ⟨by show i + 1 ≤ nL; omega, ok86, hdl87, HG85, HM92, HVl, ge_HA_D83, ge_HA_D90, (dj_symm dj_D90_D83), HA⟩
    intro h80
    refine WO.run 1 1 [(96, .bool false)] (by kernel_rfl) (by kernel_rfl) ?_
    refine WO.done (by kernel_rfl) ?_
    refine WQ.keep [0, 1, 5, 6, 8, 9, 10, 11, 12, 13, 72, 82, 90, 96] (e' := [(0, .int .i64 room), (1, .slice AL nL cL), (5, .bool true), (6, .pointer (some ⟨g5, 0, none⟩)), (8, .pointer (some ⟨g10, 0, none⟩)), (9, .int .i64 (i : Int)), (10, .pointer (some ⟨g18, 0, none⟩)), (11, .slice (some ⟨b32, 0, none⟩) (0 + ((gD q i).b.length)) cap33), (12, .int .i64 0), (13, .nilIface), (72, .bool true), (82, .bool false), (90, .int .i64 v41), (96, .bool false)]) (by kernel_rfl) ?_
    refine WQ.thenN ?_
    refine WE.condF (by kernel_rfl) ?_
    refine WE.seq ?_
    refine WE.region ?_
    refine WO.one (SQ.F 0 (by kernel_rfl)) 112 (.bool (decide ((v41 : Int) = 2))) (by kernel_rfl) ?_
    refine WO.topP ((v41 : Int) = 2) ?_ ?_
    · intro h118
      refine WO.run 1 1 [(111, .bool true)] (by kernel_rfl) (by kernel_rfl) ?_
      refine WO.done (by kernel_rfl) ?_
      refine WQ.keep [0, 1, 5, 6, 8, 9, 10, 11, 12, 13, 72, 82, 90, 96, 111] (e' := [(0, .int .i64 room), (1, .slice AL nL cL), (5, .bool true), (6, .pointer (some ⟨g5, 0, none⟩)), (8, .pointer (some ⟨g10, 0, none⟩)), (9, .int .i64 (i : Int)), (10, .pointer (some ⟨g18, 0, none⟩)), (11, .slice (some ⟨b32, 0, none⟩) (0 + ((gD q i).b.length)) cap33), (12, .int .i64 0), (13, .nilIface), (72, .bool true), (82, .bool false), (90, .int .i64 v41), (96, .bool false), (111, .bool true)]) (by kernel_rfl) ?_
      refine WQ.thenN ?_
      refine WE.condT (by kernel_rfl) ?_
      refine WE.seq ?_
      refine WE.region ?_
      refine WO.run 2 0 [(114, .pointer (some ⟨g18, 1, none⟩)), (113, .pointer (some ⟨g5, 0, none⟩))] (by kernel_rfl) (by kernel_rfl) ?_
      refine WO.ld (SQ.S 2 (by kernel_rfl)) 115 (.int .i64 ((gD q i).n)) (by kernel_rfl) (same (HB25.at 1 (by kernel_rfl))) ?_
      refine WO.call (SQ.E 3 (by kernel_rfl)) 116 (by kernel_rfl) (gsync g5 F d (gD q i).n _ HG hok hnn) ?_
      rintro _ w119 ⟨rfl, D121, HG123, F120, hg122⟩
      refine ⟨_, rfl, trivial, ?_⟩
      have nin_g18_D121 : g18 ∉ D121 := grow_nin hg122 nin_g18_F HB25.lt
      have nin_b32_D121 : b32 ∉ D121 := grow_nin hg122 nin_b32_F HR35.lt
      have dj_D121_FM : ∀ y ∈ D121, y ∉ FM := grow_dj hg122 hdj (MDisk.lt HM)
      have dj_D121_FL : ∀ y ∈ D121, y ∉ FL := grow_dj hg122 hdjL HVl.lt
      have dj_D121_Fi : ∀ y ∈ D121, y ∉ Fi := grow_dj hg122 dji_F HVi.lt
      have ge_HA_D121 : ∀ y ∈ D121, (World.heap w).size ≤ y := grow_ge hg122 hgF HA.size
      have HB25 := Blk.keep HB25 F120 nin_g18_F
      have HR35 := RowB.keep HR35 F120 nin_b32_F
      have HM := MDisk.keep HM F120 (dj_symm hdj)
      have HVl := HVl.keep F120 (dj_symm hdjL)
      have HVi := HVi.keep F120 (dj_symm dji_F)
      have HA := Fr.step HA F120 (inF hgF)
      have ok124 : Dk.Ok (sync d (gD q i).n).2 := sync_ok hok _
      have hdl125 : (sync d (gD q i).n).2.l.length ≤ i + 1 := Nat.le_trans (len_sync _ _) (by omega)
      have hcd : 0 ≤ (sync d (gD q i).n).1 ∧ (sync d (gD q i).n).1 ≤ 10 := code_sync _ _
      refine WO.run 1 4 [(13, codeV (sync d (gD q i).n).1)] (by kernel_rfl) (by kernel_rfl) ?_
      refine WO.done (by kernel_rfl) ?_
      refine WQ.keep [0, 1, 5, 6, 8, 9, 10, 11, 12, 13, 72, 82, 90, 96, 111] (e' := [(0, .int .i64 room), (1, .slice AL nL cL), (5, .bool true), (6, .pointer (some ⟨g5, 0, none⟩)), (8, .pointer (some ⟨g10, 0, none⟩)), (9, .int .i64 (i : Int)), (10, .pointer (some ⟨g18, 0, none⟩)), (11, .slice (some ⟨b32, 0, none⟩) (0 + ((gD q i).b.length)) cap33), (12, .int .i64 0), (13, codeV (sync d (gD q i).n).1), (72, .bool true), (82, .bool false), (90, .int .i64 v41), (96, .bool false), (111, .bool true)]) (by kernel_rfl) ?_
      refine WQ.thenN ?_
      refine WE.region ?_
      refine WO.run 2 0 [(118, .pointer (some ⟨g18, 1, none⟩)), (117, .pointer (some ⟨g10, 0, none⟩))] (by kernel_rfl) (by kernel_rfl) ?_
      refine WO.ld (SQ.S 2 (by kernel_rfl)) 119 (.int .i64 ((gD q i).n)) (by kernel_rfl) (same (HB25.at 1 (by kernel_rfl))) ?_
      refine WO.call (SQ.E 3 (by kernel_rfl)) 120 (by kernel_rfl) (msync g10 FM d (gD q i).n _ HM hok (by omega)) ?_
      rintro _ w126 ⟨rfl, D128, HM130, F127, hg129⟩
      refine ⟨_, rfl, trivial, ?_⟩
      have nin_g18_D128 : g18 ∉ D128 := grow_nin hg129 nin_g18_FM HB25.lt
      have nin_b32_D128 : b32 ∉ D128 := grow_nin hg129 nin_b32_FM HR35.lt
      have dj_D128_FL : ∀ y ∈ D128, y ∉ FL := grow_dj hg129 hdjM HVl.lt
      have dj_D128_Fi : ∀ y ∈ D128, y ∉ Fi := grow_dj hg129 dji_FM HVi.lt
      have dj_D128_D121 : ∀ y ∈ D128, y ∉ D121 := grow_dj hg129 (dj_symm dj_D121_FM) (GDisk.lt HG123)
      have ge_HA_D128 : ∀ y ∈ D128, (World.heap w).size ≤ y := grow_ge hg129 hgM HA.size
      have HB25 := Blk.keep HB25 F127 nin_g18_FM
      have HR35 := RowB.keep HR35 F127 nin_b32_FM
      have HVl := HVl.keep F127 (dj_symm hdjM)
      have HVi := HVi.keep F127 (dj_symm dji_FM)
      have HG123 := GDisk.keep HG123 F127 dj_D121_FM
      have HA := Fr.step HA F127 (inF hgM)
      refine WO.run 1 4 [(12, .int .i64 ((sync d (gD q i).n).1))] (by kernel_rfl) (by kernel_rfl) ?_
      refine WO.done (by kernel_rfl) ?_
      refine WQ.keep [0, 1, 5, 6, 8, 9, 10, 11, 12, 13, 72, 82, 90, 96, 111] (e' := [(0, .int .i64 room), (1, .slice AL nL cL), (5, .bool true), (6, .pointer (some ⟨g5, 0, none⟩)), (8, .pointer (some ⟨g10, 0, none⟩)), (9, .int .i64 (i : Int)), (10, .pointer (some ⟨g18, 0, none⟩)), (11, .slice (some ⟨b32, 0, none⟩) (0 + ((gD q i).b.length)) cap33), (12, .int .i64 ((sync d (gD q i).n).1)), (13, codeV (sync d (gD q i).n).1), (72, .bool true), (82, .bool false), (90, .int .i64 v41), (96, .bool false), (111, .bool true)]) (by kernel_rfl) ?_
      refine WQ.blkN ?_
      refine WQ.thenN ?_
      refine WE.seq ?_
      refine WE.seq ?_
      refine WE.region ?_
      refine WO.run 1 0 [(18, .int .i64 0)] (by kernel_rfl) (by kernel_rfl) ?_
      refine WO.done (by kernel_rfl) ?_
      refine WQ.keep [0, 1, 5, 6, 8, 9, 10, 11, 12, 13, 18, 72, 82, 90, 96, 111] (e' := [(0, .int .i64 room), (1, .slice AL nL cL), (5, .bool true), (6, .pointer (some ⟨g5, 0, none⟩)), (8, .pointer (some ⟨g10, 0, none⟩)), (9, .int .i64 (i : Int)), (10, .pointer (some ⟨g18, 0, none⟩)), (11, .slice (some ⟨b32, 0, none⟩) (0 + ((gD q i).b.length)) cap33), (12, .int .i64 ((sync d (gD q i).n).1)), (13, codeV (sync d (gD q i).n).1), (18, .int .i64 0), (72, .bool true), (82, .bool false), (90, .int .i64 v41), (96, .bool false), (111, .bool true)]) (by kernel_rfl) ?_
      refine WQ.thenN ?_
      refine WE.block ?_
      refine WE.loop (α := Nat × List UInt8) (E := fun ⟨j, z⟩ => [(0, .int .i64 room), (1, .slice AL nL cL), (5, .bool true), (6, .pointer (some ⟨g5, 0, none⟩)), (8, .pointer (some ⟨g10, 0, none⟩)), (9, .int .i64 (i : Int)), (11, .slice (some ⟨b32, 0, none⟩) (0 + ((gD q i).b.length)) cap33), (12, .int .i64 ((sync d (gD q i).n).1)), (13, codeV (sync d (gD q i).n).1), (18, .int .i64 (j : Int))]) (I := fun ⟨j, z⟩ wo => j ≤ 0 + ((gD q i).b.length) ∧ z.length = 0 + ((gD q i).b.length) ∧ RowB wo b32 5 1 cap33 (z.map cB) ∧ GDisk wo g5 D121 ((sync d (gD q i).n).2) ∧ MDisk wo g10 D128 ((sync d (gD q i).n).2) ∧ VX cD 4 wo FL AL q ∧ Fr [] w wo) (m := fun ⟨j, z⟩ => (0 + ((gD q i).b.length)) - j) (0, (([] : List UInt8) ++ (gD q i).b)) [0, 1, 5, 6, 8, 9, 11, 12, 13, 18] (by kernel_rfl) ?_ ?_
      · exact ⟨Nat.zero_le _, (show (([] : List UInt8) ++ (gD q i).b).length = 0 + ((gD q i).b.length) by rw [List.length_append, (rfl : List.length ([] : List UInt8) = 0)]; first | rfl | (have := (rfl : List.length ([] : List UInt8) = 0); simp; omega)), HR35, HG123, HM130, HVl, HA⟩
      rintro ⟨j, z⟩ wo ⟨hj, hz, HRz, HG123, HM130, HVl, HA⟩
      dsimp only at hj hz HRz ⊢
      refine WE.seq ?_
      refine WE.seq ?_
      refine WE.region ?_
      refine WO.run 3 0 [(179, .int .i64 (0 + ((gD q i).b.length) : Int)), (178, .slice (some ⟨b32, 0, none⟩) (0 + ((gD q i).b.length)) cap33), (177, .int .i64 (j : Int))] (by kernel_rfl) (by kernel_rfl) ?_
      refine WO.one (SQ.F 3 (by kernel_rfl)) 180 (.bool (decide (((j : Int) : Int) < (0 + ((gD q i).b.length) : Int)))) (by kernel_rfl) ?_
      refine WO.topP (((j : Int) : Int) < (0 + ((gD q i).b.length) : Int)) ?_ ?_
      · intro h131
        refine WO.done (by kernel_rfl) ?_
        refine WQ.keep [0, 1, 5, 6, 8, 9, 11, 12, 13, 18, 180] (e' := [(0, .int .i64 room), (1, .slice AL nL cL), (5, .bool true), (6, .pointer (some ⟨g5, 0, none⟩)), (8, .pointer (some ⟨g10, 0, none⟩)), (9, .int .i64 (i : Int)), (11, .slice (some ⟨b32, 0, none⟩) (0 + ((gD q i).b.length)) cap33), (12, .int .i64 ((sync d (gD q i).n).1)), (13, codeV (sync d (gD q i).n).1), (18, .int .i64 (j : Int)), (180, .bool true)]) (by kernel_rfl) ?_
        refine WQ.thenN ?_
        refine WE.condT (by kernel_rfl) ?_
        refine WE.skip ?_
        refine WQ.thenN ?_
        refine WE.seq ?_
        refine WE.block ?_
        refine WE.region ?_
        refine WO.run 4 0 [(186, .int .i64 (j : Int)), (185, .slice (some ⟨b32, 0, none⟩) (0 + ((gD q i).b.length)) cap33), (184, .int .i64 (j : Int)), (183, .slice (some ⟨b32, 0, none⟩) (0 + ((gD q i).b.length)) cap33)] (by kernel_rfl) (by kernel_rfl) ?_
        refine WO.ixB (SQ.F 4 (by kernel_rfl)) 187 j b32 0 (0 + ((gD q i).b.length)) 1 (j : Int) (by kernel_rfl) (by omega) (by omega) (by omega) ?_
        refine WO.ld (SQ.S 5 (by kernel_rfl)) 188 (.int .u8 ((gB z j).toNat : Int)) (by kernel_rfl) (same (HRz.at j 0 j _ (by rw [List.length_map]; have := hz; omega) (by omega) (by rw [(map_gB z j (by have := hz; omega))]; rfl) (by omega))) ?_
        refine WO.one (SQ.F 6 (by kernel_rfl)) 189 (.int .u8 (IntKind.u8.wrap (((gB z j).toNat : Int) + 1))) (by kernel_rfl) ?_
        refine WO.top (v' := .int .u8 ((gB z j + 1).toNat : Int)) (congrArg (Value.int .u8) (u8_inc _)) ?_
        refine WO.ixB (SQ.F 7 (by kernel_rfl)) 190 j b32 0 (0 + ((gD q i).b.length)) 1 (j : Int) (by kernel_rfl) (by omega) (by omega) (by omega) ?_
        refine WO.stR (SQ.E 8 (by kernel_rfl)) b32 j j [.int .u8 ((gB z j + 1).toNat : Int)] HRz (by rw [List.length_map]; have := hz; omega) rfl (by omega) rfl (by kernel_rfl) (fun _ _ => trivial) ?_
        intro w132 HR134 F133 _
        have HG123 := GDisk.keep HG123 F133 (djB nin_b32_D121)
        have HM130 := MDisk.keep HM130 F133 (djB nin_b32_D128)
        have HVl := HVl.keep F133 (djB nin_b32_FL)
        have HA := Fr.step HA F133 (inSD in_HA_b32 inS0)
        have HR134 : RowB w132 b32 5 1 cap33 ((z.set j (gB z j + 1)).map cB) := by rw [List.map_set]; exact HR134
        refine WO.done (by kernel_rfl) ?_
        refine WQ.keep [0, 1, 5, 6, 8, 9, 11, 12, 13, 18, 180] (e' := [(0, .int .i64 room), (1, .slice AL nL cL), (5, .bool true), (6, .pointer (some ⟨g5, 0, none⟩)), (8, .pointer (some ⟨g10, 0, none⟩)), (9, .int .i64 (i : Int)), (11, .slice (some ⟨b32, 0, none⟩) (0 + ((gD q i).b.length)) cap33), (12, .int .i64 ((sync d (gD q i).n).1)), (13, codeV (sync d (gD q i).n).1), (18, .int .i64 (j : Int)), (180, .bool true)]) (by kernel_rfl) ?_
        refine WQ.blkN ?_
        refine WQ.thenN ?_
        refine WE.region ?_
        refine WO.run 1 0 [(181, .int .i64 (j : Int))] (by kernel_rfl) (by kernel_rfl) ?_
        refine WO.one (SQ.F 1 (by kernel_rfl)) 182 (.int .i64 (IntKind.i64.wrap ((j : Int) + 1))) (by kernel_rfl) ?_
        refine WO.top (v' := .int .i64 ((j + 1 : Nat) : Int)) (wrap_i64 (by omega) (by omega)) ?_
        refine WO.run 1 2 [(18, .int .i64 ((j + 1 : Nat) : Int))] (by kernel_rfl) (by kernel_rfl) ?_
        refine WO.done (by kernel_rfl) ?_
        refine WQ.keep [0, 1, 5, 6, 8, 9, 11, 12, 13, 18, 180] (e' := [(0, .int .i64 room), (1, .slice AL nL cL), (5, .bool true), (6, .pointer (some ⟨g5, 0, none⟩)), (8, .pointer (some ⟨g10, 0, none⟩)), (9, .int .i64 (i : Int)), (11, .slice (some ⟨b32, 0, none⟩) (0 + ((gD q i).b.length)) cap33), (12, .int .i64 ((sync d (gD q i).n).1)), (13, codeV (sync d (gD q i).n).1), (18, .int .i64 ((j + 1 : Nat) : Int)), (180, .bool true)]) (by kernel_rfl) ?_
        refine WQ.round ?_
        intro a_ ha_
        refine ⟨(j + 1, z.set j (gB z j + 1)), ?_, ha_.keep [0, 1, 5, 6, 8, 9, 11, 12, 13, 18] (by kernel_rfl), ?_⟩
        · show 0 + ((gD q i).b.length) - (j + 1) < 0 + ((gD q i).b.length) - j; omega
        · exact ⟨by show j + 1 ≤ _; omega, by rw [List.length_set]; exact hz, HR134, HG123, HM130, HVl, HA⟩
      intro h131
      refine WO.done (by kernel_rfl) ?_
      refine WQ.keep [0, 1, 5, 6, 8, 9, 11, 12, 13, 18, 180] (e' := [(0, .int .i64 room), (1, .slice AL nL cL), (5, .bool true), (6, .pointer (some ⟨g5, 0, none⟩)), (8, .pointer (some ⟨g10, 0, none⟩)), (9, .int .i64 (i : Int)), (11, .slice (some ⟨b32, 0, none⟩) (0 + ((gD q i).b.length)) cap33), (12, .int .i64 ((sync d (gD q i).n).1)), (13, codeV (sync d (gD q i).n).1), (18, .int .i64 (j : Int)), (180, .bool false)]) (by kernel_rfl) ?_
      refine WQ.thenN ?_
      refine WE.condF (by kernel_rfl) ?_
      refine WE.exit ?_
      refine WQ.thenE ?_
      refine WQ.thenE ?_
      refine WQ.blkE ?_
      refine WQ.thenN ?_
      refine WE.seq ?_
      refine WE.seq ?_
      refine WE.region ?_
      refine WO.run 1 0 [(191, codeV (sync d (gD q i).n).1)] (by kernel_rfl) (by kernel_rfl) ?_
      refine WO.call (SQ.E 1 (by kernel_rfl)) 192 (by kernel_rfl) (code_any ((sync d (gD q i).n).1 : Int) hcd _) ?_
      rintro _ w135 ⟨rfl, F136⟩
      refine ⟨_, rfl, trivial, ?_⟩
      have HRz := RowB.keep HRz F136 (nin0 _)
      have HG123 := GDisk.keep HG123 F136 (fun _ _ => nin0 _)
      have HM130 := MDisk.keep HM130 F136 (fun _ _ => nin0 _)
      have HVl := HVl.keep F136 (fun _ _ => nin0 _)
      have HA := Fr.step0 HA F136
      refine WO.run 1 2 [(193, .int .i64 ((sync d (gD q i).n).1))] (by kernel_rfl) (by kernel_rfl) ?_
      refine WO.one (SQ.F 3 (by kernel_rfl)) 194 (.bool (!decide (((sync d (gD q i).n).1 : Int) = ((sync d (gD q i).n).1)))) (by kernel_rfl) ?_
      refine WO.topNT (((sync d (gD q i).n).1 : Int) = ((sync d (gD q i).n).1)) (by rfl) ?_
      refine WO.run 2 4 [(196, .pointer (some ⟨g5, 0, none⟩)), (195, .bool false)] (by kernel_rfl) (by kernel_rfl) ?_
      refine WO.call (SQ.E 6 (by kernel_rfl)) 197 (by kernel_rfl) (gused g5 D121 ((sync d (gD q i).n).2) _ HG123 ok124) ?_
      rintro _ w137 ⟨rfl, F138⟩
      refine ⟨_, rfl, trivial, ?_⟩
      have HRz := RowB.keep HRz F138 (nin0 _)
      have HG123 := GDisk.keep HG123 F138 (fun _ _ => nin0 _)
      have HM130 := MDisk.keep HM130 F138 (fun _ _ => nin0 _)
      have HVl := HVl.keep F138 (fun _ _ => nin0 _)
      have HA := Fr.step0 HA F138
      refine WO.run 1 7 [(198, .pointer (some ⟨g10, 0, none⟩))] (by kernel_rfl) (by kernel_rfl) ?_
      refine WO.call (SQ.E 8 (by kernel_rfl)) 199 (by kernel_rfl) (mused g10 D128 ((sync d (gD q i).n).2) _ HM130 ok124 (by omega)) ?_
      rintro _ w139 ⟨rfl, F140⟩
      refine ⟨_, rfl, trivial, ?_⟩
      have HRz := RowB.keep HRz F140 (nin0 _)
      have HG123 := GDisk.keep HG123 F140 (fun _ _ => nin0 _)
      have HM130 := MDisk.keep HM130 F140 (fun _ _ => nin0 _)
      have HVl := HVl.keep F140 (fun _ _ => nin0 _)
      have HA := Fr.step0 HA F140
      refine WO.one (SQ.F 9 (by kernel_rfl)) 200 (.bool (!decide (((usedL (sync d (gD q i).n).2.l : Int) : Int) = (usedL (sync d (gD q i).n).2.l : Int)))) (by kernel_rfl) ?_
      refine WO.topNT (((usedL (sync d (gD q i).n).2.l : Int) : Int) = (usedL (sync d (gD q i).n).2.l : Int)) (by rfl) ?_
      refine WO.run 1 10 [(201, .bool false)] (by kernel_rfl) (by kernel_rfl) ?_
      refine WO.done (by kernel_rfl) ?_
      refine WQ.keep [0, 1, 5, 6, 8, 9, 11, 12, 13, 18, 180, 201] (e' := [(0, .int .i64 room), (1, .slice AL nL cL), (5, .bool true), (6, .pointer (some ⟨g5, 0, none⟩)), (8, .pointer (some ⟨g10, 0, none⟩)), (9, .int .i64 (i : Int)), (11, .slice (some ⟨b32, 0, none⟩) (0 + ((gD q i).b.length)) cap33), (12, .int .i64 ((sync d (gD q i).n).1)), (13, codeV (sync d (gD q i).n).1), (18, .int .i64 (j : Int)), (180, .bool false), (201, .bool false)]) (by kernel_rfl) ?_
      refine WQ.thenN ?_
      refine WE.condF (by kernel_rfl) ?_
      refine WE.skip ?_
      refine WQ.thenN ?_
      refine WE.seq ?_
      refine WE.region ?_
      refine WO.run 1 0 [(202, .pointer (some ⟨g5, 0, none⟩))] (by kernel_rfl) (by kernel_rfl) ?_
      refine WO.call (SQ.E 1 (by kernel_rfl)) 203 (by kernel_rfl) (gparts g5 D121 ((sync d (gD q i).n).2) _ HG123 ok124 (by omega)) ?_
      rintro _ w141 ⟨v143, G144, rfl, HO145, F142, ge146⟩
      refine ⟨_, rfl, trivial, ?_⟩
      obtain ⟨Ad147, cp148, rfl⟩ := HO145.sliceN (n := (sync d (gD q i).n).2.l.length) (by simp)
      have HVp := VX.of_own HO145
      have ge146r := fun y hy => Or.inr (a := y ∈ ([] : List Nat)) (ge146 y hy)
      have hpl : ((sync d (gD q i).n).2.l.map fun p => p.n).length = (sync d (gD q i).n).2.l.length := List.length_map _
      have nin_b32_G144 : b32 ∉ G144 := grow_nin ge146r (nin0 _) HRz.lt
      have dj_G144_D121 : ∀ y ∈ G144, y ∉ D121 := grow_dj ge146r (by simp) (GDisk.lt HG123)
      have dj_G144_D128 : ∀ y ∈ G144, y ∉ D128 := grow_dj ge146r (by simp) (MDisk.lt HM130)
      have dj_G144_FL : ∀ y ∈ G144, y ∉ FL := grow_dj ge146r (by simp) HVl.lt
      have ge_HA_G144 : ∀ y ∈ G144, (World.heap w).size ≤ y := grow_ge ge146r (by simp) HA.size
      have HRz := RowB.keep HRz F142 (nin0 _)
      have HG123 := GDisk.keep HG123 F142 (fun _ _ => nin0 _)
      have HM130 := MDisk.keep HM130 F142 (fun _ _ => nin0 _)
      have HVl := HVl.keep F142 (fun _ _ => nin0 _)
      have HA := Fr.step0 HA F142
      refine WO.run 1 2 [(19, .slice Ad147 ((sync d (gD q i).n).2.l.length) cp148)] (by kernel_rfl) (by kernel_rfl) ?_
      refine WO.done (by kernel_rfl) ?_
      refine WQ.keep [0, 1, 5, 6, 8, 9, 11, 12, 13, 18, 19, 180, 201] (e' := [(0, .int .i64 room), (1, .slice AL nL cL), (5, .bool true), (6, .pointer (some ⟨g5, 0, none⟩)), (8, .pointer (some ⟨g10, 0, none⟩)), (9, .int .i64 (i : Int)), (11, .slice (some ⟨b32, 0, none⟩) (0 + ((gD q i).b.length)) cap33), (12, .int .i64 ((sync d (gD q i).n).1)), (13, codeV (sync d (gD q i).n).1), (18, .int .i64 (j : Int)), (19, .slice Ad147 ((sync d (gD q i).n).2.l.length) cp148), (180, .bool false), (201, .bool false)]) (by kernel_rfl) ?_
      refine WQ.thenN ?_
      refine WE.seq ?_
      refine WE.seq ?_
      obtain ⟨AM, cM, GM_, VM⟩ := mview HM130
      have HBm := VM.blk
      have HVm := VM.view
      have hgGM := VM.hg
      refine WE.region ?_
      refine WO.run 5 0 [(208, .pointer (some ⟨g10, 1, none⟩)), (207, .pointer (some ⟨g10, 0, none⟩)), (206, .pointer (some ⟨g10, 0, none⟩)), (205, .int .i64 ((sync d (gD q i).n).2.l.length : Int)), (204, .slice Ad147 ((sync d (gD q i).n).2.l.length) cp148)] (by kernel_rfl) (by kernel_rfl) ?_
      refine WO.ld (SQ.S 5 (by kernel_rfl)) 209 (.slice AM ((sync d (gD q i).n).2.l.length) cM) (by kernel_rfl) (same (HBm.at 1 (by kernel_rfl))) ?_
      refine WO.run 1 6 [(210, .int .i64 ((sync d (gD q i).n).2.l.length : Int))] (by kernel_rfl) (by kernel_rfl) ?_
      refine WO.one (SQ.F 7 (by kernel_rfl)) 211 (.bool (!decide ((((sync d (gD q i).n).2.l.length : Int) : Int) = ((sync d (gD q i).n).2.l.length : Int)))) (by kernel_rfl) ?_
      refine WO.topNT ((((sync d (gD q i).n).2.l.length : Int) : Int) = ((sync d (gD q i).n).2.l.length : Int)) (by rfl) ?_
      refine WO.done (by kernel_rfl) ?_
      refine WQ.keep [0, 1, 5, 6, 8, 9, 11, 12, 13, 18, 19, 180, 201, 211] (e' := [(0, .int .i64 room), (1, .slice AL nL cL), (5, .bool true), (6, .pointer (some ⟨g5, 0, none⟩)), (8, .pointer (some ⟨g10, 0, none⟩)), (9, .int .i64 (i : Int)), (11, .slice (some ⟨b32, 0, none⟩) (0 + ((gD q i).b.length)) cap33), (12, .int .i64 ((sync d (gD q i).n).1)), (13, codeV (sync d (gD q i).n).1), (18, .int .i64 (j : Int)), (19, .slice Ad147 ((sync d (gD q i).n).2.l.length) cp148), (180, .bool false), (201, .bool false), (211, .bool false)]) (by kernel_rfl) ?_
      refine WQ.thenN ?_
      refine WE.condF (by kernel_rfl) ?_
      refine WE.skip ?_
      refine WQ.thenN ?_
      refine WE.seq ?_
      refine WE.region ?_
      refine WO.run 1 0 [(20, .int .i64 0)] (by kernel_rfl) (by kernel_rfl) ?_
      refine WO.done (by kernel_rfl) ?_
      refine WQ.keep [0, 1, 5, 6, 8, 9, 11, 12, 13, 18, 19, 20, 180, 201, 211] (e' := [(0, .int .i64 room), (1, .slice AL nL cL), (5, .bool true), (6, .pointer (some ⟨g5, 0, none⟩)), (8, .pointer (some ⟨g10, 0, none⟩)), (9, .int .i64 (i : Int)), (11, .slice (some ⟨b32, 0, none⟩) (0 + ((gD q i).b.length)) cap33), (12, .int .i64 ((sync d (gD q i).n).1)), (13, codeV (sync d (gD q i).n).1), (18, .int .i64 (j : Int)), (19, .slice Ad147 ((sync d (gD q i).n).2.l.length) cp148), (20, .int .i64 0), (180, .bool false), (201, .bool false), (211, .bool false)]) (by kernel_rfl) ?_
      refine WQ.thenN ?_
      refine WE.block ?_
      refine WE.loop (α := Nat) (E := fun j => [(0, .int .i64 room), (1, .slice AL nL cL), (5, .bool true), (6, .pointer (some ⟨g5, 0, none⟩)), (8, .pointer (some ⟨g10, 0, none⟩)), (9, .int .i64 (i : Int)), (19, .slice Ad147 ((sync d (gD q i).n).2.l.length) cp148), (20, .int .i64 (j : Int))]) (I := fun j wo => j ≤ (sync d (gD q i).n).2.l.length ∧ GDisk wo g5 D121 ((sync d (gD q i).n).2) ∧ MDisk wo g10 D128 ((sync d (gD q i).n).2) ∧ VX cD 4 wo FL AL q ∧ VX cI 1 wo G144 Ad147 ((sync d (gD q i).n).2.l.map fun p => p.n) ∧ VX cP 3 wo GM_ AM ((sync d (gD q i).n).2.l) ∧ Blk wo g10 #[.int .i64 (sync d (gD q i).n).2.room, .slice AM ((sync d (gD q i).n).2.l.length) cM, .bool (sync d (gD q i).n).2.down] 40 ∧ Fr [] w wo) (m := fun j => (sync d (gD q i).n).2.l.length - j) 0 [0, 1, 5, 6, 8, 9, 19, 20] (by kernel_rfl) ?_ ?_
      · exact ⟨Nat.zero_le _, HG123, HM130, HVl, HVp, HVm, HBm, HA⟩
      rintro j wo ⟨hj, HG123, HM130, HVl, HVp, HVm, HBm, HA⟩
      refine WE.seq ?_
      refine WE.seq ?_
      refine WE.region ?_
      refine WO.run 3 0 [(214, .int .i64 ((sync d (gD q i).n).2.l.length : Int)), (213, .slice Ad147 ((sync d (gD q i).n).2.l.length) cp148), (212, .int .i64 (j : Int))] (by kernel_rfl) (by kernel_rfl) ?_
      refine WO.one (SQ.F 3 (by kernel_rfl)) 215 (.bool (decide (((j : Int) : Int) < ((sync d (gD q i).n).2.l.length : Int)))) (by kernel_rfl) ?_
      refine WO.topP (((j : Int) : Int) < ((sync d (gD q i).n).2.l.length : Int)) ?_ ?_
      · intro h149
        refine WO.done (by kernel_rfl) ?_
        refine WQ.keep [0, 1, 5, 6, 8, 9, 19, 20, 215] (e' := [(0, .int .i64 room), (1, .slice AL nL cL), (5, .bool true), (6, .pointer (some ⟨g5, 0, none⟩)), (8, .pointer (some ⟨g10, 0, none⟩)), (9, .int .i64 (i : Int)), (19, .slice Ad147 ((sync d (gD q i).n).2.l.length) cp148), (20, .int .i64 (j : Int)), (215, .bool true)]) (by kernel_rfl) ?_
        refine WQ.thenN ?_
        refine WE.condT (by kernel_rfl) ?_
        refine WE.skip ?_
        refine WQ.thenN ?_
        refine WE.seq ?_
        refine WE.block ?_
        refine WE.seq ?_
        refine WE.draw [.free, .free, .free, .still, .free, .free, .free, .still, .free, .free, .free, .still, .free] Same sameR (by kernel_rfl) 13 (Array.replicate 13 false) (by kernel_rfl) rfl ?_
        intro w150 F151 _
        have HBm := Blk.keep HBm F151 (nin0 _)
        have HG123 := GDisk.keep HG123 F151 (fun _ _ => nin0 _)
        have HM130 := MDisk.keep HM130 F151 (fun _ _ => nin0 _)
        have HVl := HVl.keep F151 (fun _ _ => nin0 _)
        have HVp := HVp.keep F151 (fun _ _ => nin0 _)
        have HVm := HVm.keep F151 (fun _ _ => nin0 _)
        have HA := Fr.step0 HA F151
        refine WO.one (SA.F sameR sameT _ 0 _ (by kernel_rfl)) 218 (.slice Ad147 ((sync d (gD q i).n).2.l.length) cp148) (by kernel_rfl) ?_
        refine WO.one (SA.F sameR sameT _ 1 _ (by kernel_rfl)) 219 (.int .i64 (j : Int)) (by kernel_rfl) ?_
        obtain ⟨ad152, hA153⟩ := HVp.addr (i := j) (by have := hpl; omega)
        refine WO.ixo (SA.F sameR sameT _ 2 _ (by kernel_rfl)) 220 ((sync d (gD q i).n).2.l.length) 1 j (j : Int) hA153 (by kernel_rfl) rfl (by omega) ?_
        refine WO.ld (SA.S sameR sameT _ 3 _ (by kernel_rfl)) 221 (.int .i64 (g0 ((sync d (gD q i).n).2.l.map fun p => p.n) j)) (by kernel_rfl) (same (HVp.at0 hA153 (g0_some ((sync d (gD q i).n).2.l.map fun p => p.n) j (by have := hpl; omega)) (by kernel_rfl))) ?_
        refine WO.one (SA.F sameR sameT _ 4 _ (by kernel_rfl)) 222 (.pointer (some ⟨g10, 0, none⟩)) (by kernel_rfl) ?_
        refine WO.one (SA.F sameR sameT _ 5 _ (by kernel_rfl)) 223 (.pointer (some ⟨g10, 0, none⟩)) (by kernel_rfl) ?_
        refine WO.one (SA.F sameR sameT _ 6 _ (by kernel_rfl)) 224 (.pointer (some ⟨g10, 1, none⟩)) (by kernel_rfl) ?_
        refine WO.ld (SA.S sameR sameT _ 7 _ (by kernel_rfl)) 225 (.slice AM ((sync d (gD q i).n).2.l.length) cM) (by kernel_rfl) (same (HBm.at 1 (by kernel_rfl))) ?_
        refine WO.one (SA.F sameR sameT _ 8 _ (by kernel_rfl)) 226 (.int .i64 (j : Int)) (by kernel_rfl) ?_
        obtain ⟨ad154, hA155⟩ := HVm.addr (i := j) (by have := (rfl : List.length (sync d (gD q i).n).2.l = _); omega)
        refine WO.ixo (SA.F sameR sameT _ 9 _ (by kernel_rfl)) 227 ((sync d (gD q i).n).2.l.length) 3 j (j : Int) hA155 (by kernel_rfl) rfl (by omega) ?_
        refine WO.one (SA.F sameR sameT _ 10 _ (by kernel_rfl)) 228 (.pointer (some (ad154.add (j * 3)))) (by kernel_rfl) ?_
        refine WO.ld (SA.S sameR sameT _ 11 _ (by kernel_rfl)) 229 (.int .i64 ((gP ((sync d (gD q i).n).2.l) j).n)) (by kernel_rfl) (same (HVm.at0 hA155 (gP_some ((sync d (gD q i).n).2.l) j (by have := (rfl : List.length (sync d (gD q i).n).2.l = _); omega)) (by kernel_rfl))) ?_
        refine WO.one (SA.F sameR sameT _ 12 _ (by kernel_rfl)) 230 (.bool (!decide ((g0 ((sync d (gD q i).n).2.l.map fun p => p.n) j : Int) = ((gP ((sync d (gD q i).n).2.l) j).n)))) (by kernel_rfl) ?_
        refine WO.topNT ((g0 ((sync d (gD q i).n).2.l.map fun p => p.n) j : Int) = ((gP ((sync d (gD q i).n).2.l) j).n)) (by exact g0_gP _ _ (by omega)) ?_
        refine WO.doneA (by kernel_rfl) ?_
        refine WQ.keep [0, 1, 5, 6, 8, 9, 19, 20, 215, 230] (e' := [(0, .int .i64 room), (1, .slice AL nL cL), (5, .bool true), (6, .pointer (some ⟨g5, 0, none⟩)), (8, .pointer (some ⟨g10, 0, none⟩)), (9, .int .i64 (i : Int)), (19, .slice Ad147 ((sync d (gD q i).n).2.l.length) cp148), (20, .int .i64 (j : Int)), (215, .bool true), (230, .bool false)]) (by kernel_rfl) ?_
        refine WQ.thenN ?_
        refine WE.condF (by kernel_rfl) ?_
        refine WE.skip ?_
        refine WQ.blkN ?_
        refine WQ.thenN ?_
        refine WE.region ?_
        refine WO.run 1 0 [(216, .int .i64 (j : Int))] (by kernel_rfl) (by kernel_rfl) ?_
        refine WO.one (SQ.F 1 (by kernel_rfl)) 217 (.int .i64 (IntKind.i64.wrap ((j : Int) + 1))) (by kernel_rfl) ?_
        refine WO.top (v' := .int .i64 ((j + 1 : Nat) : Int)) (wrap_i64 (by omega) (by omega)) ?_
        refine WO.run 1 2 [(20, .int .i64 ((j + 1 : Nat) : Int))] (by kernel_rfl) (by kernel_rfl) ?_
        refine WO.done (by kernel_rfl) ?_
        refine WQ.keep [0, 1, 5, 6, 8, 9, 19, 20, 215, 230] (e' := [(0, .int .i64 room), (1, .slice AL nL cL), (5, .bool true), (6, .pointer (some ⟨g5, 0, none⟩)), (8, .pointer (some ⟨g10, 0, none⟩)), (9, .int .i64 (i : Int)), (19, .slice Ad147 ((sync d (gD q i).n).2.l.length) cp148), (20, .int .i64 ((j + 1 : Nat) : Int)), (215, .bool true), (230, .bool false)]) (by kernel_rfl) ?_
        refine WQ.round ?_
        intro a_ ha_
        refine ⟨j + 1, ?_, ha_.keep [0, 1, 5, 6, 8, 9, 19, 20] (by kernel_rfl), ?_⟩
        · omega
        · exact ⟨by omega, HG123, HM130, HVl, HVp, HVm, HBm, HA⟩
      intro h149
      refine WO.done (by kernel_rfl) ?_
      refine WQ.keep [0, 1, 5, 6, 8, 9, 19, 20, 215] (e' := [(0, .int .i64 room), (1, .slice AL nL cL), (5, .bool true), (6, .pointer (some ⟨g5, 0, none⟩)), (8, .pointer (some ⟨g10, 0, none⟩)), (9, .int .i64 (i : Int)), (19, .slice Ad147 ((sync d (gD q i).n).2.l.length) cp148), (20, .int .i64 (j : Int)), (215, .bool false)]) (by kernel_rfl) ?_
      refine WQ.thenN ?_
      refine WE.condF (by kernel_rfl) ?_
      refine WE.exit ?_
      refine WQ.thenE ?_
      refine WQ.thenE ?_
      refine WQ.blkE ?_
      refine WQ.blkN ?_
      refine WQ.thenN ?_
      refine WE.region ?_
      refine WO.run 1 0 [(73, .int .i64 (i : Int))] (by kernel_rfl) (by kernel_rfl) ?_
      refine WO.one (SQ.F 1 (by kernel_rfl)) 74 (.int .i64 (IntKind.i64.wrap ((i : Int) + 1))) (by kernel_rfl) ?_
      refine WO.top (v' := .int .i64 ((i + 1 : Nat) : Int)) (wrap_i64 (by omega) (by omega)) ?_
      refine WO.run 1 2 [(9, .int .i64 ((i + 1 : Nat) : Int))] (by kernel_rfl) (by kernel_rfl) ?_
      refine WO.done (by kernel_rfl) ?_
      refine WQ.keep [0, 1, 5, 6, 8, 9, 19, 20, 215] (e' := [(0, .int .i64 room), (1, .slice AL nL cL), (5, .bool true), (6, .pointer (some ⟨g5, 0, none⟩)), (8, .pointer (some ⟨g10, 0, none⟩)), (9, .int .i64 ((i + 1 : Nat) : Int)), (19, .slice Ad147 ((sync d (gD q i).n).2.l.length) cp148), (20, .int .i64 (j : Int)), (215, .bool false)]) (by kernel_rfl) ?_
      refine WQ.round ?_
      intro a_ ha_
      refine ⟨(i + 1, (sync d (gD q i).n).2, D121, D128), ?_, ha_.keep [0, 1, 5, 6, 8, 9] (by kernel_rfl), ?_⟩
      · show nL - (i + 1) < nL - i; omega
      · exact ⟨by show i + 1 ≤ nL; omega, ok124, hdl125, HG123, HM130, HVl, ge_HA_D121, ge_HA_D128, (dj_symm dj_D128_D121), HA⟩
    intro h118
    refine WO.run 1 1 [(111, .bool false)] (by kernel_rfl) (by kernel_rfl) ?_
    refine WO.done (by kernel_rfl) ?_
    refine WQ.keep [0, 1, 5, 6, 8, 9, 10, 11, 12, 13, 72, 82, 90, 96, 111] (e' := [(0, .int .i64 room), (1, .slice AL nL cL), (5, .bool true), (6, .pointer (some ⟨g5, 0, none⟩)), (8, .pointer (some ⟨g10, 0, none⟩)), (9, .int .i64 (i : Int)), (10, .pointer (some ⟨g18, 0, none⟩)), (11, .slice (some ⟨b32, 0, none⟩) (0 + ((gD q i).b.length)) cap33), (12, .int .i64 0), (13, .nilIface), (72, .bool true), (82, .bool false), (90, .int .i64 v41), (96, .bool false), (111, .bool false)]) (by kernel_rfl) ?_
    refine WQ.thenN ?_
    refine WE.condF (by kernel_rfl) ?_
    refine WE.seq ?_
    refine WE.region ?_
    refine WO.one (SQ.F 0 (by kernel_rfl)) 122 (.bool (decide ((v41 : Int) = 3))) (by kernel_rfl) ?_
    refine WO.topP ((v41 : Int) = 3) ?_ ?_
    · intro h156
      refine WO.run 1 1 [(121, .bool true)] (by kernel_rfl) (by kernel_rfl) ?_
      refine WO.done (by kernel_rfl) ?_
      refine WQ.keep [0, 1, 5, 6, 8, 9, 10, 11, 12, 13, 72, 82, 90, 96, 111, 121] (e' := [(0, .int .i64 room), (1, .slice AL nL cL), (5, .bool true), (6, .pointer (some ⟨g5, 0, none⟩)), (8, .pointer (some ⟨g10, 0, none⟩)), (9, .int .i64 (i : Int)), (10, .pointer (some ⟨g18, 0, none⟩)), (11, .slice (some ⟨b32, 0, none⟩) (0 + ((gD q i).b.length)) cap33), (12, .int .i64 0), (13, .nilIface), (72, .bool true), (82, .bool false), (90, .int .i64 v41), (96, .bool false), (111, .bool false), (121, .bool true)]) (by kernel_rfl) ?_
      refine WQ.thenN ?_
      refine WE.condT (by kernel_rfl) ?_
      refine WE.seq ?_
      refine WE.region ?_
      refine WO.run 2 0 [(124, .pointer (some ⟨g18, 1, none⟩)), (123, .pointer (some ⟨g5, 0, none⟩))] (by kernel_rfl) (by kernel_rfl) ?_
      refine WO.ld (SQ.S 2 (by kernel_rfl)) 125 (.int .i64 ((gD q i).n)) (by kernel_rfl) (same (HB25.at 1 (by kernel_rfl))) ?_
      refine WO.run 1 3 [(126, .pointer (some ⟨g18, 2, none⟩))] (by kernel_rfl) (by kernel_rfl) ?_
      refine WO.ld (SQ.S 4 (by kernel_rfl)) 127 (.int .i64 ((gD q i).z)) (by kernel_rfl) (same (HB25.at 2 (by kernel_rfl))) ?_
      refine WO.call (SQ.E 5 (by kernel_rfl)) 128 (by kernel_rfl) (gcut g5 F d (gD q i).n (gD q i).z _ HG hok hnn) ?_
      rintro _ w157 ⟨rfl, D159, HG161, F158, hg160⟩
      refine ⟨_, rfl, trivial, ?_⟩
      have nin_g18_D159 : g18 ∉ D159 := grow_nin hg160 nin_g18_F HB25.lt
      have nin_b32_D159 : b32 ∉ D159 := grow_nin hg160 nin_b32_F HR35.lt
      have dj_D159_FM : ∀ y ∈ D159, y ∉ FM := grow_dj hg160 hdj (MDisk.lt HM)
      have dj_D159_FL : ∀ y ∈ D159, y ∉ FL := grow_dj hg160 hdjL HVl.lt
      have dj_D159_Fi : ∀ y ∈ D159, y ∉ Fi := grow_dj hg160 dji_F HVi.lt
      have ge_HA_D159 : ∀ y ∈ D159, (World.heap w).size ≤ y := grow_ge hg160 hgF HA.size
      have HB25 := Blk.keep HB25 F158 nin_g18_F
      have HR35 := RowB.keep HR35 F158 nin_b32_F
      have HM := MDisk.keep HM F158 (dj_symm hdj)
      have HVl := HVl.keep F158 (dj_symm hdjL)
      have HVi := HVi.keep F158 (dj_symm dji_F)
      have HA := Fr.step HA F158 (inF hgF)
      have ok162 : Dk.Ok (cut d (gD q i).n (gD q i).z).2 := cut_ok hok _ _
      have hdl163 : (cut d (gD q i).n (gD q i).z).2.l.length ≤ i + 1 := Nat.le_trans (len_cut _ _ _) (by omega)
      have hcd : 0 ≤ (cut d (gD q i).n (gD q i).z).1 ∧ (cut d (gD q i).n (gD q i).z).1 ≤ 10 := code_cut _ _ _
      refine WO.run 1 6 [(13, codeV (cut d (gD q i).n (gD q i).z).1)] (by kernel_rfl) (by kernel_rfl) ?_
      refine WO.done (by kernel_rfl) ?_
      refine WQ.keep [0, 1, 5, 6, 8, 9, 10, 11, 12, 13, 72, 82, 90, 96, 111, 121] (e' := [(0, .int .i64 room), (1, .slice AL nL cL), (5, .bool true), (6, .pointer (some ⟨g5, 0, none⟩)), (8, .pointer (some ⟨g10, 0, none⟩)), (9, .int .i64 (i : Int)), (10, .pointer (some ⟨g18, 0, none⟩)), (11, .slice (some ⟨b32, 0, none⟩) (0 + ((gD q i).b.length)) cap33), (12, .int .i64 0), (13, codeV (cut d (gD q i).n (gD q i).z).1), (72, .bool true), (82, .bool false), (90, .int .i64 v41), (96, .bool false), (111, .bool false), (121, .bool true)]) (by kernel_rfl) ?_
      refine WQ.thenN ?_
      refine WE.region ?_
      refine WO.run 2 0 [(130, .pointer (some ⟨g18, 1, none⟩)), (129, .pointer (some ⟨g10, 0, none⟩))] (by kernel_rfl) (by kernel_rfl) ?_
      refine WO.ld (SQ.S 2 (by kernel_rfl)) 131 (.int .i64 ((gD q i).n)) (by kernel_rfl) (same (HB25.at 1 (by kernel_rfl))) ?_
      refine WO.run 1 3 [(132, .pointer (some ⟨g18, 2, none⟩))] (by kernel_rfl) (by kernel_rfl) ?_
      refine WO.ld (SQ.S 4 (by kernel_rfl)) 133 (.int .i64 ((gD q i).z)) (by kernel_rfl) (same (HB25.at 2 (by kernel_rfl))) ?_
      refine WO.call (SQ.E 5 (by kernel_rfl)) 134 (by kernel_rfl) (mcut g10 FM d (gD q i).n (gD q i).z _ HM hok (by omega)) ?_
      rintro _ w164 ⟨rfl, D166, HM168, F165, hg167⟩
      refine ⟨_, rfl, trivial, ?_⟩
      have nin_g18_D166 : g18 ∉ D166 := grow_nin hg167 nin_g18_FM HB25.lt
      have nin_b32_D166 : b32 ∉ D166 := grow_nin hg167 nin_b32_FM HR35.lt
      have dj_D166_FL : ∀ y ∈ D166, y ∉ FL := grow_dj hg167 hdjM HVl.lt
      have dj_D166_Fi : ∀ y ∈ D166, y ∉ Fi := grow_dj hg167 dji_FM HVi.lt
      have dj_D166_D159 : ∀ y ∈ D166, y ∉ D159 := grow_dj hg167 (dj_symm dj_D159_FM) (GDisk.lt HG161)
      have ge_HA_D166 : ∀ y ∈ D166, (World.heap w).size ≤ y := grow_ge hg167 hgM HA.size
      have HB25 := Blk.keep HB25 F165 nin_g18_FM
      have HR35 := RowB.keep HR35 F165 nin_b32_FM
      have HVl := HVl.keep F165 (dj_symm hdjM)
      have HVi := HVi.keep F165 (dj_symm dji_FM)
      have HG161 := GDisk.keep HG161 F165 dj_D159_FM
      have HA := Fr.step HA F165 (inF hgM)
      refine WO.run 1 6 [(12, .int .i64 ((cut d (gD q i).n (gD q i).z).1))] (by kernel_rfl) (by kernel_rfl) ?_
      refine WO.done (by kernel_rfl) ?_
      refine WQ.keep [0, 1, 5, 6, 8, 9, 10, 11, 12, 13, 72, 82, 90, 96, 111, 121] (e' := [(0, .int .i64 room), (1, .slice AL nL cL), (5, .bool true), (6, .pointer (some ⟨g5, 0, none⟩)), (8, .pointer (some ⟨g10, 0, none⟩)), (9, .int .i64 (i : Int)), (10, .pointer (some ⟨g18, 0, none⟩)), (11, .slice (some ⟨b32, 0, none⟩) (0 + ((gD q i).b.length)) cap33), (12, .int .i64 ((cut d (gD q i).n (gD q i).z).1)), (13, codeV (cut d (gD q i).n (gD q i).z).1), (72, .bool true), (82, .bool false), (90, .int .i64 v41), (96, .bool false), (111, .bool false), (121, .bool true)]) (by kernel_rfl) ?_
      refine WQ.blkN ?_
      refine WQ.thenN ?_
      refine WE.seq ?_
      refine WE.seq ?_
      refine WE.region ?_
      refine WO.run 1 0 [(18, .int .i64 0)] (by kernel_rfl) (by kernel_rfl) ?_
      refine WO.done (by kernel_rfl) ?_
      refine WQ.keep [0, 1, 5, 6, 8, 9, 10, 11, 12, 13, 18, 72, 82, 90, 96, 111, 121] (e' := [(0, .int .i64 room), (1, .slice AL nL cL), (5, .bool true), (6, .pointer (some ⟨g5, 0, none⟩)), (8, .pointer (some ⟨g10, 0, none⟩)), (9, .int .i64 (i : Int)), (10, .pointer (some ⟨g18, 0, none⟩)), (11, .slice (some ⟨b32, 0, none⟩) (0 + ((gD q i).b.length)) cap33), (12, .int .i64 ((cut d (gD q i).n (gD q i).z).1)), (13, codeV (cut d (gD q i).n (gD q i).z).1), (18, .int .i64 0), (72, .bool true), (82, .bool false), (90, .int .i64 v41), (96, .bool false), (111, .bool false), (121, .bool true)]) (by kernel_rfl) ?_
      refine WQ.thenN ?_
      refine WE.block ?_
      refine WE.loop (α := Nat × List UInt8) (E := fun ⟨j, z⟩ => [(0, .int .i64 room), (1, .slice AL nL cL), (5, .bool true), (6, .pointer (some ⟨g5, 0, none⟩)), (8, .pointer (some ⟨g10, 0, none⟩)), (9, .int .i64 (i : Int)), (11, .slice (some ⟨b32, 0, none⟩) (0 + ((gD q i).b.length)) cap33), (12, .int .i64 ((cut d (gD q i).n (gD q i).z).1)), (13, codeV (cut d (gD q i).n (gD q i).z).1), (18, .int .i64 (j : Int))]) (I := fun ⟨j, z⟩ wo => j ≤ 0 + ((gD q i).b.length) ∧ z.length = 0 + ((gD q i).b.length) ∧ RowB wo b32 5 1 cap33 (z.map cB) ∧ GDisk wo g5 D159 ((cut d (gD q i).n (gD q i).z).2) ∧ MDisk wo g10 D166 ((cut d (gD q i).n (gD q i).z).2) ∧ VX cD 4 wo FL AL q ∧ Fr [] w wo) (m := fun ⟨j, z⟩ => (0 + ((gD q i).b.length)) - j) (0, (([] : List UInt8) ++ (gD q i).b)) [0, 1, 5, 6, 8, 9, 11, 12, 13, 18] (by kernel_rfl) ?_ ?_
      · exact ⟨Nat.zero_le _, (show (([] : List UInt8) ++ (gD q i).b).length = 0 + ((gD q i).b.length) by rw [List.length_append, (rfl : List.length ([] : List UInt8) = 0)]; first | rfl | (have := (rfl : List.length ([] : List UInt8) = 0); simp; omega)), HR35, HG161, HM168, HVl, HA⟩
      rintro ⟨j, z⟩ wo ⟨hj, hz, HRz, HG161, HM168, HVl, HA⟩
      dsimp only at hj hz HRz ⊢
      refine WE.seq ?_
      refine WE.seq ?_
      refine WE.region ?_
      refine WO.run 3 0 [(179, .int .i64 (0 + ((gD q i).b.length) : Int)), (178, .slice (some ⟨b32, 0, none⟩) (0 + ((gD q i).b.length)) cap33), (177, .int .i64 (j : Int))] (by kernel_rfl) (by kernel_rfl) ?_
      refine WO.one (SQ.F 3 (by kernel_rfl)) 180 (.bool (decide (((j : Int) : Int) < (0 + ((gD q i).b.length) : Int)))) (by kernel_rfl) ?_
      refine WO.topP (((j : Int) : Int) < (0 + ((gD q i).b.length) : Int)) ?_ ?_
      · intro h169
        refine WO.done (by kernel_rfl) ?_
        refine WQ.keep [0, 1, 5, 6, 8, 9, 11, 12, 13, 18, 180] (e' := [(0, .int .i64 room), (1, .slice AL nL cL), (5, .bool true), (6, .pointer (some ⟨g5, 0, none⟩)), (8, .pointer (some ⟨g10, 0, none⟩)), (9, .int .i64 (i : Int)), (11, .slice (some ⟨b32, 0, none⟩) (0 + ((gD q i).b.length)) cap33), (12, .int .i64 ((cut d (gD q i).n (gD q i).z).1)), (13, codeV (cut d (gD q i).n (gD q i).z).1), (18, .int .i64 (j : Int)), (180, .bool true)]) (by kernel_rfl) ?_
        refine WQ.thenN ?_
        refine WE.condT (by kernel_rfl) ?_
        refine WE.skip ?_
        refine WQ.thenN ?_
        refine WE.seq ?_
        refine WE.block ?_
        refine WE.region ?_
        refine WO.run 4 0 [(186, .int .i64 (j : Int)), (185, .slice (some ⟨b32, 0, none⟩) (0 + ((gD q i).b.length)) cap33), (184, .int .i64 (j : Int)), (183, .slice (some ⟨b32, 0, none⟩) (0 + ((gD q i).b.length)) cap33)] (by kernel_rfl) (by kernel_rfl) ?_
        refine WO.ixB (SQ.F 4 (by kernel_rfl)) 187 j b32 0 (0 + ((gD q i).b.length)) 1 (j : Int) (by kernel_rfl) (by omega) (by omega) (by omega) ?_
        refine WO.ld (SQ.S 5 (by kernel_rfl)) 188 (.int .u8 ((gB z j).toNat : Int)) (by kernel_rfl) (same (HRz.at j 0 j _ (by rw [List.length_map]; have := hz; omega) (by omega) (by rw [(map_gB z j (by have := hz; omega))]; rfl) (by omega))) ?_
        refine WO.one (SQ.F 6 (by kernel_rfl)) 189 (.int .u8 (IntKind.u8.wrap (((gB z j).toNat : Int) + 1))) (by kernel_rfl) ?_
        refine WO.top (v' := .int .u8 ((gB z j + 1).toNat : Int)) (congrArg (Value.int .u8) (u8_inc _)) ?_
        refine WO.ixB (SQ.F 7 (by kernel_rfl)) 190 j b32 0 (0 + ((gD q i).b.length)) 1 (j : Int) (by kernel_rfl) (by omega) (by omega) (by omega) ?_
        refine WO.stR (SQ.E 8 (by kernel_rfl)) b32 j j [.int .u8 ((gB z j + 1).toNat : Int)] HRz (by rw [List.length_map]; have := hz; omega) rfl (by omega) rfl (by kernel_rfl) (fun _ _ => trivial) ?_
        intro w170 HR172 F171 _
        have HG161 := GDisk.keep HG161 F171 (djB nin_b32_D159)
        have HM168 := MDisk.keep HM168 F171 (djB nin_b32_D166)
        have HVl := HVl.keep F171 (djB nin_b32_FL)
        have HA := Fr.step HA F171 (inSD in_HA_b32 inS0)
        have HR172 : RowB w170 b32 5 1 cap33 ((z.set j (gB z j + 1)).map cB) := by rw [List.map_set]; exact HR172
        refine WO.done (by kernel_rfl) ?_
        refine WQ.keep [0, 1, 5, 6, 8, 9, 11, 12, 13, 18, 180] (e' := [(0, .int .i64 room), (1, .slice AL nL cL), (5, .bool true), (6, .pointer (some ⟨g5, 0, none⟩)), (8, .pointer (some ⟨g10, 0, none⟩)), (9, .int .i64 (i : Int)), (11, .slice (some ⟨b32, 0, none⟩) (0 + ((gD q i).b.length)) cap33), (12, .int .i64 ((cut d (gD q i).n (gD q i).z).1)), (13, codeV (cut d (gD q i).n (gD q i).z).1), (18, .int .i64 (j : Int)), (180, .bool true)]) (by kernel_rfl) ?_
        refine WQ.blkN ?_
        refine WQ.thenN ?_
        refine WE.region ?_
        refine WO.run 1 0 [(181, .int .i64 (j : Int))] (by kernel_rfl) (by kernel_rfl) ?_
        refine WO.one (SQ.F 1 (by kernel_rfl)) 182 (.int .i64 (IntKind.i64.wrap ((j : Int) + 1))) (by kernel_rfl) ?_
        refine WO.top (v' := .int .i64 ((j + 1 : Nat) : Int)) (wrap_i64 (by omega) (by omega)) ?_
        refine WO.run 1 2 [(18, .int .i64 ((j + 1 : Nat) : Int))] (by kernel_rfl) (by kernel_rfl) ?_
        refine WO.done (by kernel_rfl) ?_
        refine WQ.keep [0, 1, 5, 6, 8, 9, 11, 12, 13, 18, 180] (e' := [(0, .int .i64 room), (1, .slice AL nL cL), (5, .bool true), (6, .pointer (some ⟨g5, 0, none⟩)), (8, .pointer (some ⟨g10, 0, none⟩)), (9, .int .i64 (i : Int)), (11, .slice (some ⟨b32, 0, none⟩) (0 + ((gD q i).b.length)) cap33), (12, .int .i64 ((cut d (gD q i).n (gD q i).z).1)), (13, codeV (cut d (gD q i).n (gD q i).z).1), (18, .int .i64 ((j + 1 : Nat) : Int)), (180, .bool true)]) (by kernel_rfl) ?_
        refine WQ.round ?_
        intro a_ ha_
        refine ⟨(j + 1, z.set j (gB z j + 1)), ?_, ha_.keep [0, 1, 5, 6, 8, 9, 11, 12, 13, 18] (by kernel_rfl), ?_⟩
        · show 0 + ((gD q i).b.length) - (j + 1) < 0 + ((gD q i).b.length) - j; omega
        · exact ⟨by show j + 1 ≤ _; omega, by rw [List.length_set]; exact hz, HR172, HG161, HM168, HVl, HA⟩
      intro h169
      refine WO.done (by kernel_rfl) ?_
      refine WQ.keep [0, 1, 5, 6, 8, 9, 11, 12, 13, 18, 180] (e' := [(0, .int .i64 room), (1, .slice AL nL cL), (5, .bool true), (6, .pointer (some ⟨g5, 0, none⟩)), (8, .pointer (some ⟨g10, 0, none⟩)), (9, .int .i64 (i : Int)), (11, .slice (some ⟨b32, 0, none⟩) (0 + ((gD q i).b.length)) cap33), (12, .int .i64 ((cut d (gD q i).n (gD q i).z).1)), (13, codeV (cut d (gD q i).n (gD q i).z).1), (18, .int .i64 (j : Int)), (180, .bool false)]) (by kernel_rfl) ?_
      refine WQ.thenN ?_
      refine WE.condF (by kernel_rfl) ?_
      refine WE.exit ?_
      refine WQ.thenE ?_
      refine WQ.thenE ?_
      refine WQ.blkE ?_
      refine WQ.thenN ?_
      refine WE.seq ?_
      refine WE.seq ?_
      refine WE.region ?_
      refine WO.run 1 0 [(191, codeV (cut d (gD q i).n (gD q i).z).1)] (by kernel_rfl) (by kernel_rfl) ?_
      refine WO.call (SQ.E 1 (by kernel_rfl)) 192 (by kernel_rfl) (code_any ((cut d (gD q i).n (gD q i).z).1 : Int) hcd _) ?_
      rintro _ w173 ⟨rfl, F174⟩
      refine ⟨_, rfl, trivial, ?_⟩
      have HRz := RowB.keep HRz F174 (nin0 _)
      have HG161 := GDisk.keep HG161 F174 (fun _ _ => nin0 _)
      have HM168 := MDisk.keep HM168 F174 (fun _ _ => nin0 _)
      have HVl := HVl.keep F174 (fun _ _ => nin0 _)
      have HA := Fr.step0 HA F174
      refine WO.run 1 2 [(193, .int .i64 ((cut d (gD q i).n (gD q i).z).1))] (by kernel_rfl) (by kernel_rfl) ?_
      refine WO.one (SQ.F 3 (by kernel_rfl)) 194 (.bool (!decide (((cut d (gD q i).n (gD q i).z).1 : Int) = ((cut d (gD q i).n (gD q i).z).1)))) (by kernel_rfl) ?_
      refine WO.topNT (((cut d (gD q i).n (gD q i).z).1 : Int) = ((cut d (gD q i).n (gD q i).z).1)) (by rfl) ?_
      refine WO.run 2 4 [(196, .pointer (some ⟨g5, 0, none⟩)), (195, .bool false)] (by kernel_rfl) (by kernel_rfl) ?_
      refine WO.call (SQ.E 6 (by kernel_rfl)) 197 (by kernel_rfl) (gused g5 D159 ((cut d (gD q i).n (gD q i).z).2) _ HG161 ok162) ?_
      rintro _ w175 ⟨rfl, F176⟩
      refine ⟨_, rfl, trivial, ?_⟩
      have HRz := RowB.keep HRz F176 (nin0 _)
      have HG161 := GDisk.keep HG161 F176 (fun _ _ => nin0 _)
      have HM168 := MDisk.keep HM168 F176 (fun _ _ => nin0 _)
      have HVl := HVl.keep F176 (fun _ _ => nin0 _)
      have HA := Fr.step0 HA F176
      refine WO.run 1 7 [(198, .pointer (some ⟨g10, 0, none⟩))] (by kernel_rfl) (by kernel_rfl) ?_
      refine WO.call (SQ.E 8 (by kernel_rfl)) 199 (by kernel_rfl) (mused g10 D166 ((cut d (gD q i).n (gD q i).z).2) _ HM168 ok162 (by omega)) ?_
      rintro _ w177 ⟨rfl, F178⟩
      refine ⟨_, rfl, trivial, ?_⟩
      have HRz := RowB.keep HRz F178 (nin0 _)
      have HG161 := GDisk.keep HG161 F178 (fun _ _ => nin0 _)
      have HM168 := MDisk.keep HM168 F178 (fun _ _ => nin0 _)
      have HVl := HVl.keep F178 (fun _ _ => nin0 _)
      have HA := Fr.step0 HA F178
      refine WO.one (SQ.F 9 (by kernel_rfl)) 200 (.bool (!decide (((usedL (cut d (gD q i).n (gD q i).z).2.l : Int) : Int) = (usedL (cut d (gD q i).n (gD q i).z).2.l : Int)))) (by kernel_rfl) ?_
      refine WO.topNT (((usedL (cut d (gD q i).n (gD q i).z).2.l : Int) : Int) = (usedL (cut d (gD q i).n (gD q i).z).2.l : Int)) (by rfl) ?_
      refine WO.run 1 10 [(201, .bool false)] (by kernel_rfl) (by kernel_rfl) ?_
      refine WO.done (by kernel_rfl) ?_
      refine WQ.keep [0, 1, 5, 6, 8, 9, 11, 12, 13, 18, 180, 201] (e' := [(0, .int .i64 room), (1, .slice AL nL cL), (5, .bool true), (6, .pointer (some ⟨g5, 0, none⟩)), (8, .pointer (some ⟨g10, 0, none⟩)), (9, .int .i64 (i : Int)), (11, .slice (some ⟨b32, 0, none⟩) (0 + ((gD q i).b.length)) cap33), (12, .int .i64 ((cut d (gD q i).n (gD q i).z).1)), (13, codeV (cut d (gD q i).n (gD q i).z).1), (18, .int .i64 (j : Int)), (180, .bool false), (201, .bool false)]) (by kernel_rfl) ?_
      refine WQ.thenN ?_
      refine WE.condF (by kernel_rfl) ?_
      refine WE.skip ?_
      refine WQ.thenN ?_
      refine WE.seq ?_
      refine WE.region ?_
      refine WO.run 1 0 [(202, .pointer (some ⟨g5, 0, none⟩))] (by kernel_rfl) (by kernel_rfl) ?_
      refine WO.call (SQ.E 1 (by kernel_rfl)) 203 (by kernel_rfl) (gparts g5 D159 ((cut d (gD q i).n (gD q i).z).2) _ HG161 ok162 (by omega)) ?_
      rintro _ w179 ⟨v181, G182, rfl, HO183, F180, ge184⟩
      refine ⟨_, rfl, trivial, ?_⟩
      obtain ⟨Ad185, cp186, rfl⟩ := HO183.sliceN (n := (cut d (gD q i).n (gD q i).z).2.l.length) (by simp)
      have HVp := VX.of_own HO183
      have ge184r := fun y hy => Or.inr (a := y ∈ ([] : List Nat)) (ge184 y hy)
      have hpl : ((cut d (gD q i).n (gD q i).z).2.l.map fun p => p.n).length = (cut d (gD q i).n (gD q i).z).2.l.length := List.length_map _
      have nin_b32_G182 : b32 ∉ G182 := grow_nin ge184r (nin0 _) HRz.lt
      have dj_G182_D159 : ∀ y ∈ G182, y ∉ D159 := grow_dj ge184r (by simp) (GDisk.lt HG161)
      have dj_G182_D166 : ∀ y ∈ G182, y ∉ D166 := grow_dj ge184r (by simp) (MDisk.lt HM168)
      have dj_G182_FL : ∀ y ∈ G182, y ∉ FL := grow_dj ge184r (by simp) HVl.lt
      have ge_HA_G182 : ∀ y ∈ G182, (World.heap w).size ≤ y := grow_ge ge184r (by simp) HA.size
      have HRz := RowB.keep HRz F180 (nin0 _)
      have HG161 := GDisk.keep HG161 F180 (fun _ _ => nin0 _)
      have HM168 := MDisk.keep HM168 F180 (fun _ _ => nin0 _)
      have HVl := HVl.keep F180 (fun _ _ => nin0 _)
      have HA := Fr.step0 HA F180
      refine WO.run 1 2 [(19, .slice Ad185 ((cut d (gD q i).n (gD q i).z).2.l.length) cp186)] (by kernel_rfl) (by kernel_rfl) ?_
      refine WO.done (by kernel_rfl) ?_
      refine WQ.keep [0, 1, 5, 6, 8, 9, 11, 12, 13, 18, 19, 180, 201] (e' := [(0, .int .i64 room), (1, .slice AL nL cL), (5, .bool true), (6, .pointer (some ⟨g5, 0, none⟩)), (8, .pointer (some ⟨g10, 0, none⟩)), (9, .int .i64 (i : Int)), (11, .slice (some ⟨b32, 0, none⟩) (0 + ((gD q i).b.length)) cap33), (12, .int .i64 ((cut d (gD q i).n (gD q i).z).1)), (13, codeV (cut d (gD q i).n (gD q i).z).1), (18, .int .i64 (j : Int)), (19, .slice Ad185 ((cut d (gD q i).n (gD q i).z).2.l.length) cp186), (180, .bool false), (201, .bool false)]) (by kernel_rfl) ?_
      refine WQ.thenN ?_
      refine WE.seq ?_
      refine WE.seq ?_
      obtain ⟨AM, cM, GM_, VM⟩ := mview HM168
      have HBm := VM.blk
      have HVm := VM.view
      have hgGM := VM.hg
      refine WE.region ?_
      refine WO.run 5 0 [(208, .pointer (some ⟨g10, 1, none⟩)), (207, .pointer (some ⟨g10, 0, none⟩)), (206, .pointer (some ⟨g10, 0, none⟩)), (205, .int .i64 ((cut d (gD q i).n (gD q i).z).2.l.length : Int)), (204, .slice Ad185 ((cut d (gD q i).n (gD q i).z).2.l.length) cp186)] (by kernel_rfl) (by kernel_rfl) ?_
      refine WO.ld (SQ.S 5 (by kernel_rfl)) 209 (.slice AM ((cut d (gD q i).n (gD q i).z).2.l.length) cM) (by kernel_rfl) (same (HBm.at 1 (by kernel_rfl))) ?_
      refine WO.run 1 6 [(210, .int .i64 ((cut d (gD q i).n (gD q i).z).2.l.length : Int))] (by kernel_rfl) (by kernel_rfl) ?_
      refine WO.one (SQ.F 7 (by kernel_rfl)) 211 (.bool (!decide ((((cut d (gD q i).n (gD q i).z).2.l.length : Int) : Int) = ((cut d (gD q i).n (gD q i).z).2.l.length : Int)))) (by kernel_rfl) ?_
      refine WO.topNT ((((cut d (gD q i).n (gD q i).z).2.l.length : Int) : Int) = ((cut d (gD q i).n (gD q i).z).2.l.length : Int)) (by rfl) ?_
      refine WO.done (by kernel_rfl) ?_
      refine WQ.keep [0, 1, 5, 6, 8, 9, 11, 12, 13, 18, 19, 180, 201, 211] (e' := [(0, .int .i64 room), (1, .slice AL nL cL), (5, .bool true), (6, .pointer (some ⟨g5, 0, none⟩)), (8, .pointer (some ⟨g10, 0, none⟩)), (9, .int .i64 (i : Int)), (11, .slice (some ⟨b32, 0, none⟩) (0 + ((gD q i).b.length)) cap33), (12, .int .i64 ((cut d (gD q i).n (gD q i).z).1)), (13, codeV (cut d (gD q i).n (gD q i).z).1), (18, .int .i64 (j : Int)), (19, .slice Ad185 ((cut d (gD q i).n (gD q i).z).2.l.length) cp186), (180, .bool false), (201, .bool false), (211, .bool false)]) (by kernel_rfl) ?_
      refine WQ.thenN ?_
      refine WE.condF (by kernel_rfl) ?_
      refine WE.skip ?_
      refine WQ.thenN ?_
      refine WE.seq ?_
      refine WE.region ?_
      refine WO.run 1 0 [(20, .int .i64 0)] (by kernel_rfl) (by kernel_rfl) ?_
      refine WO.done (by kernel_rfl) ?_
      refine WQ.keep [0, 1, 5, 6, 8, 9, 11, 12, 13, 18, 19, 20, 180, 201, 211] (e' := [(0, .int .i64 room), (1, .slice AL nL cL), (5, .bool true), (6, .pointer (some ⟨g5, 0, none⟩)), (8, .pointer (some ⟨g10, 0, none⟩)), (9, .int .i64 (i : Int)), (11, .slice (some ⟨b32, 0, none⟩) (0 + ((gD q i).b.length)) cap33), (12, .int .i64 ((cut d (gD q i).n (gD q i).z).1)), (13, codeV (cut d (gD q i).n (gD q i).z).1), (18, .int .i64 (j : Int)), (19, .slice Ad185 ((cut d (gD q i).n (gD q i).z).2.l.length) cp186), (20, .int .i64 0), (180, .bool false), (201, .bool false), (211, .bool false)]) (by kernel_rfl) ?_
      refine WQ.thenN ?_
      refine WE.block ?_
      refine WE.loop (α := Nat) (E := fun j => [(0, .int .i64 room), (1, .slice AL nL cL), (5, .bool true), (6, .pointer (some ⟨g5, 0, none⟩)), (8, .pointer (some ⟨g10, 0, none⟩)), (9, .int .i64 (i : Int)), (19, .slice Ad185 ((cut d (gD q i).n (gD q i).z).2.l.length) cp186), (20, .int .i64 (j : Int))]) (I := fun j wo => j ≤ (cut d (gD q i).n (gD q i).z).2.l.length ∧ GDisk wo g5 D159 ((cut d (gD q i).n (gD q i).z).2) ∧ MDisk wo g10 D166 ((cut d (gD q i).n (gD q i).z).2) ∧ VX cD 4 wo FL AL q ∧ VX cI 1 wo G182 Ad185 ((cut d (gD q i).n (gD q i).z).2.l.map fun p => p.n) ∧ VX cP 3 wo GM_ AM ((cut d (gD q i).n (gD q i).z).2.l) ∧ Blk wo g10 #[.int .i64 (cut d (gD q i).n (gD q i).z).2.room, .slice AM ((cut d (gD q i).n (gD q i).z).2.l.length) cM, .bool (cut d (gD q i).n (gD q i).z).2.down] 40 ∧ Fr [] w wo) (m := fun j => (cut d (gD q i).n (gD q i).z).2.l.length - j) 0 [0, 1, 5, 6, 8, 9, 19, 20] (by kernel_rfl) ?_ ?_
      · exact ⟨Nat.zero_le _, HG161, HM168, HVl, HVp, HVm, HBm, HA⟩
      rintro j wo ⟨hj, HG161, HM168, HVl, HVp, HVm, HBm, HA⟩
      refine WE.seq ?_
      refine WE.seq ?_
      refine WE.region ?_
      refine WO.run 3 0 [(214, .int .i64 ((cut d (gD q i).n (gD q i).z).2.l.length : Int)), (213, .slice Ad185 ((cut d (gD q i).n (gD q i).z).2.l.length) cp186), (212, .int .i64 (j : Int))] (by kernel_rfl) (by kernel_rfl) ?_
      refine WO.one (SQ.F 3 (by kernel_rfl)) 215 (.bool (decide (((j : Int) : Int) < ((cut d (gD q i).n (gD q i).z).2.l.length : Int)))) (by kernel_rfl) ?_
      refine WO.topP (((j : Int) : Int) < ((cut d (gD q i).n (gD q i).z).2.l.length : Int)) ?_ ?_
      · intro h187
        refine WO.done (by kernel_rfl) ?_
        refine WQ.keep [0, 1, 5, 6, 8, 9, 19, 20, 215] (e' := [(0, .int .i64 room), (1, .slice AL nL cL), (5, .bool true), (6, .pointer (some ⟨g5, 0, none⟩)), (8, .pointer (some ⟨g10, 0, none⟩)), (9, .int .i64 (i : Int)), (19, .slice Ad185 ((cut d (gD q i).n (gD q i).z).2.l.length) cp186), (20, .int .i64 (j : Int)), (215, .bool true)]) (by kernel_rfl) ?_
        refine WQ.thenN ?_
        refine WE.condT (by kernel_rfl) ?_
        refine WE.skip ?_
        refine WQ.thenN ?_
        refine WE.seq ?_
        refine WE.block ?_
        refine WE.seq ?_
        refine WE.draw [.free, .free, .free, .still, .free, .free, .free, .still, .free, .free, .free, .still, .free] Same sameR (by kernel_rfl) 13 (Array.replicate 13 false) (by kernel_rfl) rfl ?_
        intro w188 F189 _
        have HBm := Blk.keep HBm F189 (nin0 _)
        have HG161 := GDisk.keep HG161 F189 (fun _ _ => nin0 _)
        have HM168 := MDisk.keep HM168 F189 (fun _ _ => nin0 _)
        have HVl := HVl.keep F189 (fun _ _ => nin0 _)
        have HVp := HVp.keep F189 (fun _ _ => nin0 _)
        have HVm := HVm.keep F189 (fun _ _ => nin0 _)
        have HA := Fr.step0 HA F189
        refine WO.one (SA.F sameR sameT _ 0 _ (by kernel_rfl)) 218 (.slice Ad185 ((cut d (gD q i).n (gD q i).z).2.l.length) cp186) (by kernel_rfl) ?_
        refine WO.one (SA.F sameR sameT _ 1 _ (by kernel_rfl)) 219 (.int .i64 (j : Int)) (by kernel_rfl) ?_
        obtain ⟨ad190, hA191⟩ := HVp.addr (i := j) (by have := hpl; omega)
        refine WO.ixo (SA.F sameR sameT _ 2 _ (by kernel_rfl)) 220 ((cut d (gD q i).n (gD q i).z).2.l.length) 1 j (j : Int) hA191 (by kernel_rfl) rfl (by omega) ?_
        refine WO.ld (SA.S sameR sameT _ 3 _ (by kernel_rfl)) 221 (.int .i64 (g0 ((cut d (gD q i).n (gD q i).z).2.l.map fun p => p.n) j)) (by kernel_rfl) (same (HVp.at0 hA191 (g0_some ((cut d (gD q i).n (gD q i).z).2.l.map fun p => p.n) j (by have := hpl; omega)) (by kernel_rfl))) ?_
        refine WO.one (SA.F sameR sameT _ 4 _ (by kernel_rfl)) 222 (.pointer (some ⟨g10, 0, none⟩)) (by kernel_rfl) ?_
        refine WO.one (SA.F sameR sameT _ 5 _ (by kernel_rfl)) 223 (.pointer (some ⟨g10, 0, none⟩)) (by kernel_rfl) ?_
        refine WO.one (SA.F sameR sameT _ 6 _ (by kernel_rfl)) 224 (.pointer (some ⟨g10, 1, none⟩)) (by kernel_rfl) ?_
        refine WO.ld (SA.S sameR sameT _ 7 _ (by kernel_rfl)) 225 (.slice AM ((cut d (gD q i).n (gD q i).z).2.l.length) cM) (by kernel_rfl) (same (HBm.at 1 (by kernel_rfl))) ?_
        refine WO.one (SA.F sameR sameT _ 8 _ (by kernel_rfl)) 226 (.int .i64 (j : Int)) (by kernel_rfl) ?_
        obtain ⟨ad192, hA193⟩ := HVm.addr (i := j) (by have := (rfl : List.length (cut d (gD q i).n (gD q i).z).2.l = _); omega)
        refine WO.ixo (SA.F sameR sameT _ 9 _ (by kernel_rfl)) 227 ((cut d (gD q i).n (gD q i).z).2.l.length) 3 j (j : Int) hA193 (by kernel_rfl) rfl (by omega) ?_
        refine WO.one (SA.F sameR sameT _ 10 _ (by kernel_rfl)) 228 (.pointer (some (ad192.add (j * 3)))) (by kernel_rfl) ?_
        refine WO.ld (SA.S sameR sameT _ 11 _ (by kernel_rfl)) 229 (.int .i64 ((gP ((cut d (gD q i).n (gD q i).z).2.l) j).n)) (by kernel_rfl) (same (HVm.at0 hA193 (gP_some ((cut d (gD q i).n (gD q i).z).2.l) j (by have := (rfl : List.length (cut d (gD q i).n (gD q i).z).2.l = _); omega)) (by kernel_rfl))) ?_
        refine WO.one (SA.F sameR sameT _ 12 _ (by kernel_rfl)) 230 (.bool (!decide ((g0 ((cut d (gD q i).n (gD q i).z).2.l.map fun p => p.n) j : Int) = ((gP ((cut d (gD q i).n (gD q i).z).2.l) j).n)))) (by kernel_rfl) ?_
        refine WO.topNT ((g0 ((cut d (gD q i).n (gD q i).z).2.l.map fun p => p.n) j : Int) = ((gP ((cut d (gD q i).n (gD q i).z).2.l) j).n)) (by exact g0_gP _ _ (by omega)) ?_
        refine WO.doneA (by kernel_rfl) ?_
        refine WQ.keep [0, 1, 5, 6, 8, 9, 19, 20, 215, 230] (e' := [(0, .int .i64 room), (1, .slice AL nL cL), (5, .bool true), (6, .pointer (some ⟨g5, 0, none⟩)), (8, .pointer (some ⟨g10, 0, none⟩)), (9, .int .i64 (i : Int)), (19, .slice Ad185 ((cut d (gD q i).n (gD q i).z).2.l.length) cp186), (20, .int .i64 (j : Int)), (215, .bool true), (230, .bool false)]) (by kernel_rfl) ?_
        refine WQ.thenN ?_
        refine WE.condF (by kernel_rfl) ?_
        refine WE.skip ?_
        refine WQ.blkN ?_
        refine WQ.thenN ?_
        refine WE.region ?_
        refine WO.run 1 0 [(216, .int .i64 (j : Int))] (by kernel_rfl) (by kernel_rfl) ?_
        refine WO.one (SQ.F 1 (by kernel_rfl)) 217 (.int .i64 (IntKind.i64.wrap ((j : Int) + 1))) (by kernel_rfl) ?_
        refine WO.top (v' := .int .i64 ((j + 1 : Nat) : Int)) (wrap_i64 (by omega) (by omega)) ?_
        refine WO.run 1 2 [(20, .int .i64 ((j + 1 : Nat) : Int))] (by kernel_rfl) (by kernel_rfl) ?_
        refine WO.done (by kernel_rfl) ?_
        refine WQ.keep [0, 1, 5, 6, 8, 9, 19, 20, 215, 230] (e' := [(0, .int .i64 room), (1, .slice AL nL cL), (5, .bool true), (6, .pointer (some ⟨g5, 0, none⟩)), (8, .pointer (some ⟨g10, 0, none⟩)), (9, .int .i64 (i : Int)), (19, .slice Ad185 ((cut d (gD q i).n (gD q i).z).2.l.length) cp186), (20, .int .i64 ((j + 1 : Nat) : Int)), (215, .bool true), (230, .bool false)]) (by kernel_rfl) ?_
        refine WQ.round ?_
        intro a_ ha_
        refine ⟨j + 1, ?_, ha_.keep [0, 1, 5, 6, 8, 9, 19, 20] (by kernel_rfl), ?_⟩
        · omega
        · exact ⟨by omega, HG161, HM168, HVl, HVp, HVm, HBm, HA⟩
      intro h187
      refine WO.done (by kernel_rfl) ?_
      refine WQ.keep [0, 1, 5, 6, 8, 9, 19, 20, 215] (e' := [(0, .int .i64 room), (1, .slice AL nL cL), (5, .bool true), (6, .pointer (some ⟨g5, 0, none⟩)), (8, .pointer (some ⟨g10, 0, none⟩)), (9, .int .i64 (i : Int)), (19, .slice Ad185 ((cut d (gD q i).n (gD q i).z).2.l.length) cp186), (20, .int .i64 (j : Int)), (215, .bool false)]) (by kernel_rfl) ?_
      refine WQ.thenN ?_
      refine WE.condF (by kernel_rfl) ?_
      refine WE.exit ?_
      refine WQ.thenE ?_
      refine WQ.thenE ?_
      refine WQ.blkE ?_
      refine WQ.blkN ?_
      refine WQ.thenN ?_
      refine WE.region ?_
      refine WO.run 1 0 [(73, .int .i64 (i : Int))] (by kernel_rfl) (by kernel_rfl) ?_
      refine WO.one (SQ.F 1 (by kernel_rfl)) 74 (.int .i64 (IntKind.i64.wrap ((i : Int) + 1))) (by kernel_rfl) ?_
      refine WO.top (v' := .int .i64 ((i + 1 : Nat) : Int)) (wrap_i64 (by omega) (by omega)) ?_
      refine WO.run 1 2 [(9, .int .i64 ((i + 1 : Nat) : Int))] (by kernel_rfl) (by kernel_rfl) ?_
      refine WO.done (by kernel_rfl) ?_
      refine WQ.keep [0, 1, 5, 6, 8, 9, 19, 20, 215] (e' := [(0, .int .i64 room), (1, .slice AL nL cL), (5, .bool true), (6, .pointer (some ⟨g5, 0, none⟩)), (8, .pointer (some ⟨g10, 0, none⟩)), (9, .int .i64 ((i + 1 : Nat) : Int)), (19, .slice Ad185 ((cut d (gD q i).n (gD q i).z).2.l.length) cp186), (20, .int .i64 (j : Int)), (215, .bool false)]) (by kernel_rfl) ?_
      refine WQ.round ?_
      intro a_ ha_
      refine ⟨(i + 1, (cut d (gD q i).n (gD q i).z).2, D159, D166), ?_, ha_.keep [0, 1, 5, 6, 8, 9] (by kernel_rfl), ?_⟩
      · show nL - (i + 1) < nL - i; omega
      · exact ⟨by show i + 1 ≤ nL; omega, ok162, hdl163, HG161, HM168, HVl, ge_HA_D159, ge_HA_D166, (dj_symm dj_D166_D159), HA⟩
    intro h156
    refine WO.run 1 1 [(121, .bool false)] (by kernel_rfl) (by kernel_rfl) ?_
    refine WO.done (by kernel_rfl) ?_
    refine WQ.keep [0, 1, 5, 6, 8, 9, 10, 11, 12, 13, 72, 82, 90, 96, 111, 121] (e' := [(0, .int .i64 room), (1, .slice AL nL cL), (5, .bool true), (6, .pointer (some ⟨g5, 0, none⟩)), (8, .pointer (some ⟨g10, 0, none⟩)), (9, .int .i64 (i : Int)), (10, .pointer (some ⟨g18, 0, none⟩)), (11, .slice (some ⟨b32, 0, none⟩) (0 + ((gD q i).b.length)) cap33), (12, .int .i64 0), (13, .nilIface), (72, .bool true), (82, .bool false), (90, .int .i64 v41), (96, .bool false), (111, .bool false), (121, .bool false)]) (by kernel_rfl) ?_
    refine WQ.thenN ?_
    refine WE.condF (by kernel_rfl) ?_
    refine WE.seq ?_
    refine WE.region ?_
    refine WO.one (SQ.F 0 (by kernel_rfl)) 136 (.bool (decide ((v41 : Int) = 4))) (by kernel_rfl) ?_
    refine WO.topP ((v41 : Int) = 4) ?_ ?_
    · intro h194
      refine WO.run 1 1 [(135, .bool true)] (by kernel_rfl) (by kernel_rfl) ?_
      refine WO.done (by kernel_rfl) ?_
      refine WQ.keep [0, 1, 5, 6, 8, 9, 10, 11, 12, 13, 72, 82, 90, 96, 111, 121, 135] (e' := [(0, .int .i64 room), (1, .slice AL nL cL), (5, .bool true), (6, .pointer (some ⟨g5, 0, none⟩)), (8, .pointer (some ⟨g10, 0, none⟩)), (9, .int .i64 (i : Int)), (10, .pointer (some ⟨g18, 0, none⟩)), (11, .slice (some ⟨b32, 0, none⟩) (0 + ((gD q i).b.length)) cap33), (12, .int .i64 0), (13, .nilIface), (72, .bool true), (82, .bool false), (90, .int .i64 v41), (96, .bool false), (111, .bool false), (121, .bool false), (135, .bool true)]) (by kernel_rfl) ?_
      refine WQ.thenN ?_
      refine WE.condT (by kernel_rfl) ?_
      refine WE.seq ?_
      refine WE.region ?_
      refine WO.run 2 0 [(138, .pointer (some ⟨g18, 1, none⟩)), (137, .pointer (some ⟨g5, 0, none⟩))] (by kernel_rfl) (by kernel_rfl) ?_
      refine WO.ld (SQ.S 2 (by kernel_rfl)) 139 (.int .i64 ((gD q i).n)) (by kernel_rfl) (same (HB25.at 1 (by kernel_rfl))) ?_
      refine WO.call (SQ.E 3 (by kernel_rfl)) 140 (by kernel_rfl) (gremove g5 F d (gD q i).n _ HG hok hnn) ?_
      rintro _ w195 ⟨rfl, D197, HG199, F196, hg198⟩
      refine ⟨_, rfl, trivial, ?_⟩
      have nin_g18_D197 : g18 ∉ D197 := grow_nin hg198 nin_g18_F HB25.lt
      have nin_b32_D197 : b32 ∉ D197 := grow_nin hg198 nin_b32_F HR35.lt
      have dj_D197_FM : ∀ y ∈ D197, y ∉ FM := grow_dj hg198 hdj (MDisk.lt HM)
      have dj_D197_FL : ∀ y ∈ D197, y ∉ FL := grow_dj hg198 hdjL HVl.lt
      have dj_D197_Fi : ∀ y ∈ D197, y ∉ Fi := grow_dj hg198 dji_F HVi.lt
      have ge_HA_D197 : ∀ y ∈ D197, (World.heap w).size ≤ y := grow_ge hg198 hgF HA.size
      have HB25 := Blk.keep HB25 F196 nin_g18_F
      have HR35 := RowB.keep HR35 F196 nin_b32_F
      have HM := MDisk.keep HM F196 (dj_symm hdj)
      have HVl := HVl.keep F196 (dj_symm hdjL)
      have HVi := HVi.keep F196 (dj_symm dji_F)
      have HA := Fr.step HA F196 (inF hgF)
      have ok200 : Dk.Ok (remove d (gD q i).n).2 := remove_ok hok _
      have hdl201 : (remove d (gD q i).n).2.l.length ≤ i + 1 := Nat.le_trans (len_remove _ _) (by omega)
      have hcd : 0 ≤ (remove d (gD q i).n).1 ∧ (remove d (gD q i).n).1 ≤ 10 := code_remove _ _
      refine WO.run 1 4 [(13, codeV (remove d (gD q i).n).1)] (by kernel_rfl) (by kernel_rfl) ?_
      refine WO.done (by kernel_rfl) ?_
      refine WQ.keep [0, 1, 5, 6, 8, 9, 10, 11, 12, 13, 72, 82, 90, 96, 111, 121, 135] (e' := [(0, .int .i64 room), (1, .slice AL nL cL), (5, .bool true), (6, .pointer (some ⟨g5, 0, none⟩)), (8, .pointer (some ⟨g10, 0, none⟩)), (9, .int .i64 (i : Int)), (10, .pointer (some ⟨g18, 0, none⟩)), (11, .slice (some ⟨b32, 0, none⟩) (0 + ((gD q i).b.length)) cap33), (12, .int .i64 0), (13, codeV (remove d (gD q i).n).1), (72, .bool true), (82, .bool false), (90, .int .i64 v41), (96, .bool false), (111, .bool false), (121, .bool false), (135, .bool true)]) (by kernel_rfl) ?_
      refine WQ.thenN ?_
      refine WE.region ?_
      refine WO.run 2 0 [(142, .pointer (some ⟨g18, 1, none⟩)), (141, .pointer (some ⟨g10, 0, none⟩))] (by kernel_rfl) (by kernel_rfl) ?_
      refine WO.ld (SQ.S 2 (by kernel_rfl)) 143 (.int .i64 ((gD q i).n)) (by kernel_rfl) (same (HB25.at 1 (by kernel_rfl))) ?_
      refine WO.call (SQ.E 3 (by kernel_rfl)) 144 (by kernel_rfl) (mremove g10 FM d (gD q i).n _ HM hok (by omega)) ?_
      rintro _ w202 ⟨rfl, D204, HM206, F203, hg205⟩
      refine ⟨_, rfl, trivial, ?_⟩
      have nin_g18_D204 : g18 ∉ D204 := grow_nin hg205 nin_g18_FM HB25.lt
      have nin_b32_D204 : b32 ∉ D204 := grow_nin hg205 nin_b32_FM HR35.lt
      have dj_D204_FL : ∀ y ∈ D204, y ∉ FL := grow_dj hg205 hdjM HVl.lt
      have dj_D204_Fi : ∀ y ∈ D204, y ∉ Fi := grow_dj hg205 dji_FM HVi.lt
      have dj_D204_D197 : ∀ y ∈ D204, y ∉ D197 := grow_dj hg205 (dj_symm dj_D197_FM) (GDisk.lt HG199)
      have ge_HA_D204 : ∀ y ∈ D204, (World.heap w).size ≤ y := grow_ge hg205 hgM HA.size
      have HB25 := Blk.keep HB25 F203 nin_g18_FM
      have HR35 := RowB.keep HR35 F203 nin_b32_FM
      have HVl := HVl.keep F203 (dj_symm hdjM)
      have HVi := HVi.keep F203 (dj_symm dji_FM)
      have HG199 := GDisk.keep HG199 F203 dj_D197_FM
      have HA := Fr.step HA F203 (inF hgM)
      refine WO.run 1 4 [(12, .int .i64 ((remove d (gD q i).n).1))] (by kernel_rfl) (by kernel_rfl) ?_
      refine WO.done (by kernel_rfl) ?_
      refine WQ.keep [0, 1, 5, 6, 8, 9, 10, 11, 12, 13, 72, 82, 90, 96, 111, 121, 135] (e' := [(0, .int .i64 room), (1, .slice AL nL cL), (5, .bool true), (6, .pointer (some ⟨g5, 0, none⟩)), (8, .pointer (some ⟨g10, 0, none⟩)), (9, .int .i64 (i : Int)), (10, .pointer (some ⟨g18, 0, none⟩)), (11, .slice (some ⟨b32, 0, none⟩) (0 + ((gD q i).b.length)) cap33), (12, .int .i64 ((remove d (gD q i).n).1)), (13, codeV (remove d (gD q i).n).1), (72, .bool true), (82, .bool false), (90, .int .i64 v41), (96, .bool false), (111, .bool false), (121, .bool false), (135, .bool true)]) (by kernel_rfl) ?_
      refine WQ.blkN ?_
      refine WQ.thenN ?_
      refine WE.seq ?_
      refine WE.seq ?_
      refine WE.region ?_
      refine WO.run 1 0 [(18, .int .i64 0)] (by kernel_rfl) (by kernel_rfl) ?_
      refine WO.done (by kernel_rfl) ?_
      refine WQ.keep [0, 1, 5, 6, 8, 9, 10, 11, 12, 13, 18, 72, 82, 90, 96, 111, 121, 135] (e' := [(0, .int .i64 room), (1, .slice AL nL cL), (5, .bool true), (6, .pointer (some ⟨g5, 0, none⟩)), (8, .pointer (some ⟨g10, 0, none⟩)), (9, .int .i64 (i : Int)), (10, .pointer (some ⟨g18, 0, none⟩)), (11, .slice (some ⟨b32, 0, none⟩) (0 + ((gD q i).b.length)) cap33), (12, .int .i64 ((remove d (gD q i).n).1)), (13, codeV (remove d (gD q i).n).1), (18, .int .i64 0), (72, .bool true), (82, .bool false), (90, .int .i64 v41), (96, .bool false), (111, .bool false), (121, .bool false), (135, .bool true)]) (by kernel_rfl) ?_
      refine WQ.thenN ?_
      refine WE.block ?_
      refine WE.loop (α := Nat × List UInt8) (E := fun ⟨j, z⟩ => [(0, .int .i64 room), (1, .slice AL nL cL), (5, .bool true), (6, .pointer (some ⟨g5, 0, none⟩)), (8, .pointer (some ⟨g10, 0, none⟩)), (9, .int .i64 (i : Int)), (11, .slice (some ⟨b32, 0, none⟩) (0 + ((gD q i).b.length)) cap33), (12, .int .i64 ((remove d (gD q i).n).1)), (13, codeV (remove d (gD q i).n).1), (18, .int .i64 (j : Int))]) (I := fun ⟨j, z⟩ wo => j ≤ 0 + ((gD q i).b.length) ∧ z.length = 0 + ((gD q i).b.length) ∧ RowB wo b32 5 1 cap33 (z.map cB) ∧ GDisk wo g5 D197 ((remove d (gD q i).n).2) ∧ MDisk wo g10 D204 ((remove d (gD q i).n).2) ∧ VX cD 4 wo FL AL q ∧ Fr [] w wo) (m := fun ⟨j, z⟩ => (0 + ((gD q i).b.length)) - j) (0, (([] : List UInt8) ++ (gD q i).b)) [0, 1, 5, 6, 8, 9, 11, 12, 13, 18] (by kernel_rfl) ?_ ?_
      · exact ⟨Nat.zero_le _, (show (([] : List UInt8) ++ (gD q i).b).length = 0 + ((gD q i).b.length) by rw [List.length_append, (rfl : List.length ([] : List UInt8) = 0)]; first | rfl | (have := (rfl : List.length ([] : List UInt8) = 0); simp; omega)), HR35, HG199, HM206, HVl, HA⟩
      rintro ⟨j, z⟩ wo ⟨hj, hz, HRz, HG199, HM206, HVl, HA⟩
      dsimp only at hj hz HRz ⊢
      refine WE.seq ?_
      refine WE.seq ?_
      refine WE.region ?_
      refine WO.run 3 0 [(179, .int .i64 (0 + ((gD q i).b.length) : Int)), (178, .slice (some ⟨b32, 0, none⟩) (0 + ((gD q i).b.length)) cap33), (177, .int .i64 (j : Int))] (by kernel_rfl) (by kernel_rfl) ?_
      refine WO.one (SQ.F 3 (by kernel_rfl)) 180 (.bool (decide (((j : Int) : Int) < (0 + ((gD q i).b.length) : Int)))) (by kernel_rfl) ?_
      refine WO.topP (((j : Int) : Int) < (0 + ((gD q i).b.length) : Int)) ?_ ?_
      · intro h207
        refine WO.done (by kernel_rfl) ?_
        refine WQ.keep [0, 1, 5, 6, 8, 9, 11, 12, 13, 18, 180] (e' := [(0, .int .i64 room), (1, .slice AL nL cL), (5, .bool true), (6, .pointer (some ⟨g5, 0, none⟩)), (8, .pointer (some ⟨g10, 0, none⟩)), (9, .int .i64 (i : Int)), (11, .slice (some ⟨b32, 0, none⟩) (0 + ((gD q i).b.length)) cap33), (12, .int .i64 ((remove d (gD q i).n).1)), (13, codeV (remove d (gD q i).n).1), (18, .int .i64 (j : Int)), (180, .bool true)]) (by kernel_rfl) ?_
        refine WQ.thenN ?_
        refine WE.condT (by kernel_rfl) ?_
        refine WE.skip ?_
        refine WQ.thenN ?_
        refine WE.seq ?_
        refine WE.block ?_
        refine WE.region ?_
        refine WO.run 4 0 [(186, .int .i64 (j : Int)), (185, .slice (some ⟨b32, 0, none⟩) (0 + ((gD q i).b.length)) cap33), (184, .int .i64 (j : Int)), (183, .slice (some ⟨b32, 0, none⟩) (0 + ((gD q i).b.length)) cap33)] (by kernel_rfl) (by kernel_rfl) ?_
        refine WO.ixB (SQ.F 4 (by kernel_rfl)) 187 j b32 0 (0 + ((gD q i).b.length)) 1 (j : Int) (by kernel_rfl) (by omega) (by omega) (by omega) ?_
        refine WO.ld (SQ.S 5 (by kernel_rfl)) 188 (.int .u8 ((gB z j).toNat : Int)) (by kernel_rfl) (same (HRz.at j 0 j _ (by rw [List.length_map]; have := hz; omega) (by omega) (by rw [(map_gB z j (by have := hz; omega))]; rfl) (by omega))) ?_
        refine WO.one (SQ.F 6 (by kernel_rfl)) 189 (.int .u8 (IntKind.u8.wrap (((gB z j).toNat : Int) + 1))) (by kernel_rfl) ?_
        refine WO.top (v' := .int .u8 ((gB z j + 1).toNat : Int)) (congrArg (Value.int .u8) (u8_inc _)) ?_
        refine WO.ixB (SQ.F 7 (by kernel_rfl)) 190 j b32 0 (0 + ((gD q i).b.length)) 1 (j : Int) (by kernel_rfl) (by omega) (by omega) (by omega) ?_
        refine WO.stR (SQ.E 8 (by kernel_rfl)) b32 j j [.int .u8 ((gB z j + 1).toNat : Int)] HRz (by rw [List.length_map]; have := hz; omega) rfl (by omega) rfl (by kernel_rfl) (fun _ _ => trivial) ?_
        intro w208 HR210 F209 _
        have HG199 := GDisk.keep HG199 F209 (djB nin_b32_D197)
        have HM206 := MDisk.keep HM206 F209 (djB nin_b32_D204)
        have HVl := HVl.keep F209 (djB nin_b32_FL)
        have HA := Fr.step HA F209 (inSD in_HA_b32 inS0)
        have HR210 : RowB w208 b32 5 1 cap33 ((z.set j (gB z j + 1)).map cB) := by rw [List.map_set]; exact HR210
        refine WO.done (by kernel_rfl) ?_
        refine WQ.keep [0, 1, 5, 6, 8, 9, 11, 12, 13, 18, 180] (e' := [(0, .int .i64 room), (1, .slice AL nL cL), (5, .bool true), (6, .pointer (some ⟨g5, 0, none⟩)), (8, .pointer (some ⟨g10, 0, none⟩)), (9, .int .i64 (i : Int)), (11, .slice (some ⟨b32, 0, none⟩) (0 + ((gD q i).b.length)) cap33), (12, .int .i64 ((remove d (gD q i).n).1)), (13, codeV (remove d (gD q i).n).1), (18, .int .i64 (j : Int)), (180, .bool true)]) (by kernel_rfl) ?_
        refine WQ.blkN ?_
        refine WQ.thenN ?_
        refine WE.region ?_
        refine WO.run 1 0 [(181, .int .i64 (j : Int))] (by kernel_rfl) (by kernel_rfl) ?_
        refine WO.one (SQ.F 1 (by kernel_rfl)) 182 (.int .i64 (IntKind.i64.wrap ((j : Int) + 1))) (by kernel_rfl) ?_
        refine WO.top (v' := .int .i64 ((j + 1 : Nat) : Int)) (wrap_i64 (by omega) (by omega)) ?_
        refine WO.run 1 2 [(18, .int .i64 ((j + 1 : Nat) : Int))] (by kernel_rfl) (by kernel_rfl) ?_
        refine WO.done (by kernel_rfl) ?_
        refine WQ.keep [0, 1, 5, 6, 8, 9, 11, 12, 13, 18, 180] (e' := [(0, .int .i64 room), (1, .slice AL nL cL), (5, .bool true), (6, .pointer (some ⟨g5, 0, none⟩)), (8, .pointer (some ⟨g10, 0, none⟩)), (9, .int .i64 (i : Int)), (11, .slice (some ⟨b32, 0, none⟩) (0 + ((gD q i).b.length)) cap33), (12, .int .i64 ((remove d (gD q i).n).1)), (13, codeV (remove d (gD q i).n).1), (18, .int .i64 ((j + 1 : Nat) : Int)), (180, .bool true)]) (by kernel_rfl) ?_
        refine WQ.round ?_
        intro a_ ha_
        refine ⟨(j + 1, z.set j (gB z j + 1)), ?_, ha_.keep [0, 1, 5, 6, 8, 9, 11, 12, 13, 18] (by kernel_rfl), ?_⟩
        · show 0 + ((gD q i).b.length) - (j + 1) < 0 + ((gD q i).b.length) - j; omega
        · exact ⟨by show j + 1 ≤ _; omega, by rw [List.length_set]; exact hz, HR210, HG199, HM206, HVl, HA⟩
      intro h207
      refine WO.done (by kernel_rfl) ?_
      refine WQ.keep [0, 1, 5, 6, 8, 9, 11, 12, 13, 18, 180] (e' := [(0, .int .i64 room), (1, .slice AL nL cL), (5, .bool true), (6, .pointer (some ⟨g5, 0, none⟩)), (8, .pointer (some ⟨g10, 0, none⟩)), (9, .int .i64 (i : Int)), (11, .slice (some ⟨b32, 0, none⟩) (0 + ((gD q i).b.length)) cap33), (12, .int .i64 ((remove d (gD q i).n).1)), (13, codeV (remove d (gD q i).n).1), (18, .int .i64 (j : Int)), (180, .bool false)]) (by kernel_rfl) ?_
      refine WQ.thenN ?_
      refine WE.condF (by kernel_rfl) ?_
      refine WE.exit ?_
      refine WQ.thenE ?_
      refine WQ.thenE ?_
      refine WQ.blkE ?_
      refine WQ.thenN ?_
      refine WE.seq ?_
      refine WE.seq ?_
      refine WE.region ?_
      refine WO.run 1 0 [(191, codeV (remove d (gD q i).n).1)] (by kernel_rfl) (by kernel_rfl) ?_
      refine WO.call (SQ.E 1 (by kernel_rfl)) 192 (by kernel_rfl) (code_any ((remove d (gD q i).n).1 : Int) hcd _) ?_
      rintro _ w211 ⟨rfl, F212⟩
      refine ⟨_, rfl, trivial, ?_⟩
      have HRz := RowB.keep HRz F212 (nin0 _)
      have HG199 := GDisk.keep HG199 F212 (fun _ _ => nin0 _)
      have HM206 := MDisk.keep HM206 F212 (fun _ _ => nin0 _)
      have HVl := HVl.keep F212 (fun _ _ => nin0 _)
      have HA := Fr.step0 HA F212
      refine WO.run 1 2 [(193, .int .i64 ((remove d (gD q i).n).1))] (by kernel_rfl) (by kernel_rfl) ?_
      refine WO.one (SQ.F 3 (by kernel_rfl)) 194 (.bool (!decide (((remove d (gD q i).n).1 : Int) = ((remove d (gD q i).n).1)))) (by kernel_rfl) ?_
      refine WO.topNT (((remove d (gD q i).n).1 : Int) = ((remove d (gD q i).n).1)) (by rfl) ?_
      refine WO.run 2 4 [(196, .pointer (some ⟨g5, 0, none⟩)), (195, .bool false)] (by kernel_rfl) (by kernel_rfl) ?_
      refine WO.call (SQ.E 6 (by kernel_rfl)) 197 (by kernel_rfl) (gused g5 D197 ((remove d (gD q i).n).2) _ HG199 ok200) ?_
      rintro _ w213 ⟨rfl, F214⟩
      refine ⟨_, rfl, trivial, ?_⟩
      have HRz := RowB.keep HRz F214 (nin0 _)
      have HG199 := GDisk.keep HG199 F214 (fun _ _ => nin0 _)
      have HM206 := MDisk.keep HM206 F214 (fun _ _ => nin0 _)
      have HVl := HVl.keep F214 (fun _ _ => nin0 _)
      have HA := Fr.step0 HA F214
      refine WO.run 1 7 [(198, .pointer (some ⟨g10, 0, none⟩))] (by kernel_rfl) (by kernel_rfl) ?_
      refine WO.call (SQ.E 8 (by kernel_rfl)) 199 (by kernel_rfl) (mused g10 D204 ((remove d (gD q i).n).2) _ HM206 ok200 (by omega)) ?_
      rintro _ w215 ⟨rfl, F216⟩
      refine ⟨_, rfl, trivial, ?_⟩
      have HRz := RowB.keep HRz F216 (nin0 _)
      have HG199 := GDisk.keep HG199 F216 (fun _ _ => nin0 _)
      have HM206 := MDisk.keep HM206 F216 (fun _ _ => nin0 _)
      have HVl := HVl.keep F216 (fun _ _ => nin0 _)
      have HA := Fr.step0 HA F216
      refine WO.one (SQ.F 9 (by kernel_rfl)) 200 (.bool (!decide (((usedL (remove d (gD q i).n).2.l : Int) : Int) = (usedL (remove d (gD q i).n).2.l : Int)))) (by kernel_rfl) ?_
      refine WO.topNT (((usedL (remove d (gD q i).n).2.l : Int) : Int) = (usedL (remove d (gD q i).n).2.l : Int)) (by rfl) ?_
      refine WO.run 1 10 [(201, .bool false)] (by kernel_rfl) (by kernel_rfl) ?_
      refine WO.done (by kernel_rfl) ?_
      refine WQ.keep [0, 1, 5, 6, 8, 9, 11, 12, 13, 18, 180, 201] (e' := [(0, .int .i64 room), (1, .slice AL nL cL), (5, .bool true), (6, .pointer (some ⟨g5, 0, none⟩)), (8, .pointer (some ⟨g10, 0, none⟩)), (9, .int .i64 (i : Int)), (11, .slice (some ⟨b32, 0, none⟩) (0 + ((gD q i).b.length)) cap33), (12, .int .i64 ((remove d (gD q i).n).1)), (13, codeV (remove d (gD q i).n).1), (18, .int .i64 (j : Int)), (180, .bool false), (201, .bool false)]) (by kernel_rfl) ?_
      refine WQ.thenN ?_
      refine WE.condF (by kernel_rfl) ?_
      refine WE.skip ?_
      refine WQ.thenN ?_
      refine WE.seq ?_
      refine WE.region ?_
      refine WO.run 1 0 [(202, .pointer (some ⟨g5, 0, none⟩))] (by kernel_rfl) (by kernel_rfl) ?_
      refine WO.call (SQ.E 1 (by kernel_rfl)) 203 (by kernel_rfl) (gparts g5 D197 ((remove d (gD q i).n).2) _ HG199 ok200 (by omega)) ?_
      rintro _ w217 ⟨v219, G220, rfl, HO221, F218, ge222⟩
      refine ⟨_, rfl, trivial, ?_⟩
      obtain ⟨Ad223, cp224, rfl⟩ := HO221.sliceN (n := (remove d (gD q i).n).2.l.length) (by simp)
      have HVp := VX.of_own HO221
      have ge222r := fun y hy => Or.inr (a := y ∈ ([] : List Nat)) (ge222 y hy)
      have hpl : ((remove d (gD q i).n).2.l.map fun p => p.n).length = (remove d (gD q i).n).2.l.length := List.length_map _
      have nin_b32_G220 : b32 ∉ G220 := grow_nin ge222r (nin0 _) HRz.lt
      have dj_G220_D197 : ∀ y ∈ G220, y ∉ D197 := grow_dj ge222r (by simp) (GDisk.lt HG199)
      have dj_G220_D204 : ∀ y ∈ G220, y ∉ D204 := grow_dj ge222r (by simp) (MDisk.lt HM206)
      have dj_G220_FL : ∀ y ∈ G220, y ∉ FL := grow_dj ge222r (by simp) HVl.lt
      have ge_HA_G220 : ∀ y ∈ G220, (World.heap w).size ≤ y := grow_ge ge222r (by simp) HA.size
      have HRz := RowB.keep HRz F218 (nin0 _)
      have HG199 := GDisk.keep HG199 F218 (fun _ _ => nin0 _)
      have HM206 := MDisk.keep HM206 F218 (fun _ _ => nin0 _)
      have HVl := HVl.keep F218 (fun _ _ => nin0 _)
      have HA := Fr.step0 HA F218
      refine WO.run 1 2 [(19, .slice Ad223 ((remove d (gD q i).n).2.l.length) cp224)] (by kernel_rfl) (by kernel_rfl) ?_
      refine WO.done (by kernel_rfl) ?_
      refine WQ.keep [0, 1, 5, 6, 8, 9, 11, 12, 13, 18, 19, 180, 201] (e' := [(0, .int .i64 room), (1, .slice AL nL cL), (5, .bool true), (6, .pointer (some ⟨g5, 0, none⟩)), (8, .pointer (some ⟨g10, 0, none⟩)), (9, .int .i64 (i : Int)), (11, .slice (some ⟨b32, 0, none⟩) (0 + ((gD q i).b.length)) cap33), (12, .int .i64 ((remove d (gD q i).n).1)), (13, codeV (remove d (gD q i).n).1), (18, .int .i64 (j : Int)), (19, .slice Ad223 ((remove d (gD q i).n).2.l.length) cp224), (180, .bool false), (201, .bool false)]) (by kernel_rfl) ?_
      refine WQ.thenN ?_
      refine WE.seq ?_
      refine WE.seq ?_
      obtain ⟨AM, cM, GM_, VM⟩ := mview HM206
      have HBm := VM.blk
      have HVm := VM.view
      have hgGM := VM.hg
      refine WE.region ?_
      refine WO.run 5 0 [(208, .pointer (some ⟨g10, 1, none⟩)), (207, .pointer (some ⟨g10, 0, none⟩)), (206, .pointer (some ⟨g10, 0, none⟩)), (205, .int .i64 ((remove d (gD q i).n).2.l.length : Int)), (204, .slice Ad223 ((remove d (gD q i).n).2.l.length) cp224)] (by kernel_rfl) (by kernel_rfl) ?_
      refine WO.ld (SQ.S 5 (by kernel_rfl)) 209 (.slice AM ((remove d (gD q i).n).2.l.length) cM) (by kernel_rfl) (same (HBm.at 1 (by kernel_rfl))) ?_
      refine WO.run 1 6 [(210, .int .i64 ((remove d (gD q i).n).2.l.length : Int))] (by kernel_rfl) (by kernel_rfl) ?_
      refine WO.one (SQ.F 7 (by kernel_rfl)) 211 (.bool (!decide ((((remove d (gD q i).n).2.l.length : Int) : Int) = ((remove d (gD q i).n).2.l.length : Int)))) (by kernel_rfl) ?_
      refine WO.topNT ((((remove d (gD q i).n).2.l.length : Int) : Int) = ((remove d (gD q i).n).2.l.length : Int)) (by rfl) ?_
      refine WO.done (by kernel_rfl) ?_
      refine WQ.keep [0, 1, 5, 6, 8, 9, 11, 12, 13, 18, 19, 180, 201, 211] (e' := [(0, .int .i64 room), (1, .slice AL nL cL), (5, .bool true), (6, .pointer (some ⟨g5, 0, none⟩)), (8, .pointer (some ⟨g10, 0, none⟩)), (9, .int .i64 (i : Int)), (11, .slice (some ⟨b32, 0, none⟩) (0 + ((gD q i).b.length)) cap33), (12, .int .i64 ((remove d (gD q i).n).1)), (13, codeV (remove d (gD q i).n).1), (18, .int .i64 (j : Int)), (19, .slice Ad223 ((remove d (gD q i).n).2.l.length) cp224), (180, .bool false), (201, .bool false), (211, .bool false)]) (by kernel_rfl) ?_
      refine WQ.thenN ?_
      refine WE.condF (by kernel_rfl) ?_
      refine WE.skip ?_
      refine WQ.thenN ?_
      refine WE.seq ?_
      refine WE.region ?_
      refine WO.run 1 0 [(20, .int .i64 0)] (by kernel_rfl) (by kernel_rfl) ?_
      refine WO.done (by kernel_rfl) ?_
      refine WQ.keep [0, 1, 5, 6, 8, 9, 11, 12, 13, 18, 19, 20, 180, 201, 211] (e' := [(0, .int .i64 room), (1, .slice AL nL cL), (5, .bool true), (6, .pointer (some ⟨g5, 0, none⟩)), (8, .pointer (some ⟨g10, 0, none⟩)), (9, .int .i64 (i : Int)), (11, .slice (some ⟨b32, 0, none⟩) (0 + ((gD q i).b.length)) cap33), (12, .int .i64 ((remove d (gD q i).n).1)), (13, codeV (remove d (gD q i).n).1), (18, .int .i64 (j : Int)), (19, .slice Ad223 ((remove d (gD q i).n).2.l.length) cp224), (20, .int .i64 0), (180, .bool false), (201, .bool false), (211, .bool false)]) (by kernel_rfl) ?_
      refine WQ.thenN ?_
      refine WE.block ?_
      refine WE.loop (α := Nat) (E := fun j => [(0, .int .i64 room), (1, .slice AL nL cL), (5, .bool true), (6, .pointer (some ⟨g5, 0, none⟩)), (8, .pointer (some ⟨g10, 0, none⟩)), (9, .int .i64 (i : Int)), (19, .slice Ad223 ((remove d (gD q i).n).2.l.length) cp224), (20, .int .i64 (j : Int))]) (I := fun j wo => j ≤ (remove d (gD q i).n).2.l.length ∧ GDisk wo g5 D197 ((remove d (gD q i).n).2) ∧ MDisk wo g10 D204 ((remove d (gD q i).n).2) ∧ VX cD 4 wo FL AL q ∧ VX cI 1 wo G220 Ad223 ((remove d (gD q i).n).2.l.map fun p => p.n) ∧ VX cP 3 wo GM_ AM ((remove d (gD q i).n).2.l) ∧ Blk wo g10 #[.int .i64 (remove d (gD q i).n).2.room, .slice AM ((remove d (gD q i).n).2.l.length) cM, .bool (remove d (gD q i).n).2.down] 40 ∧ Fr [] w wo) (m := fun j => (remove d (gD q i).n).2.l.length - j) 0 [0, 1, 5, 6, 8, 9, 19, 20] (by kernel_rfl) ?_ ?_
      · exact ⟨Nat.zero_le _, HG199, HM206, HVl, HVp, HVm, HBm, HA⟩
      rintro j wo ⟨hj, HG199, HM206, HVl, HVp, HVm, HBm, HA⟩
      refine WE.seq ?_
      refine WE.seq ?_
      refine WE.region ?_
      refine WO.run 3 0 [(214, .int .i64 ((remove d (gD q i).n).2.l.length : Int)), (213, .slice Ad223 ((remove d (gD q i).n).2.l.length) cp224), (212, .int .i64 (j : Int))] (by kernel_rfl) (by kernel_rfl) ?_
      refine WO.one (SQ.F 3 (by kernel_rfl)) 215 (.bool (decide (((j : Int) : Int) < ((remove d (gD q i).n).2.l.length : Int)))) (by kernel_rfl) ?_
      refine WO.topP (((j : Int) : Int) < ((remove d (gD q i).n).2.l.length : Int)) ?_ ?_
      · intro h225
        refine WO.done (by kernel_rfl) ?_
        refine WQ.keep [0, 1, 5, 6, 8, 9, 19, 20, 215] (e' := [(0, .int .i64 room), (1, .slice AL nL cL), (5, .bool true), (6, .pointer (some ⟨g5, 0, none⟩)), (8, .pointer (some ⟨g10, 0, none⟩)), (9, .int .i64 (i : Int)), (19, .slice Ad223 ((remove d (gD q i).n).2.l.length) cp224), (20, .int .i64 (j : Int)), (215, .bool true)]) (by kernel_rfl) ?_
        refine WQ.thenN ?_
        refine WE.condT (by kernel_rfl) ?_
        refine WE.skip ?_
        refine WQ.thenN ?_
        refine WE.seq ?_
        refine WE.block ?_
        refine WE.seq ?_
        refine WE.draw [.free, .free, .free, .still, .free, .free, .free, .still, .free, .free, .free, .still, .free] Same sameR (by kernel_rfl) 13 (Array.replicate 13 false) (by kernel_rfl) rfl ?_
        intro w226 F227 _
        have HBm := Blk.keep HBm F227 (nin0 _)
        have HG199 := GDisk.keep HG199 F227 (fun _ _ => nin0 _)
        have HM206 := MDisk.keep HM206 F227 (fun _ _ => nin0 _)
        have HVl := HVl.keep F227 (fun _ _ => nin0 _)
        have HVp := HVp.keep F227 (fun _ _ => nin0 _)
        have HVm := HVm.keep F227 (fun _ _ => nin0 _)
        have HA := Fr.step0 HA F227
        refine WO.one (SA.F sameR sameT _ 0 _ (by kernel_rfl)) 218 (.slice Ad223 ((remove d (gD q i).n).2.l.length) cp224) (by kernel_rfl) ?_
        refine WO.one (SA.F sameR sameT _ 1 _ (by kernel_rfl)) 219 (.int .i64 (j : Int)) (by kernel_rfl) ?_
        obtain ⟨ad228, hA229⟩ := HVp.addr (i := j) (by have := hpl; omega)
        refine WO.ixo (SA.F sameR sameT _ 2 _ (by kernel_rfl)) 220 ((remove d (gD q i).n).2.l.length) 1 j (j : Int) hA229 (by kernel_rfl) rfl (by omega) ?_
        refine WO.ld (SA.S sameR sameT _ 3 _ (by kernel_rfl)) 221 (.int .i64 (g0 ((remove d (gD q i).n).2.l.map fun p => p.n) j)) (by kernel_rfl) (same (HVp.at0 hA229 (g0_some ((remove d (gD q i).n).2.l.map fun p => p.n) j (by have := hpl; omega)) (by kernel_rfl))) ?_
        refine WO.one (SA.F sameR sameT _ 4 _ (by kernel_rfl)) 222 (.pointer (some ⟨g10, 0, none⟩)) (by kernel_rfl) ?_
        refine WO.one (SA.F sameR sameT _ 5 _ (by kernel_rfl)) 223 (.pointer (some ⟨g10, 0, none⟩)) (by kernel_rfl) ?_
        refine WO.one (SA.F sameR sameT _ 6 _ (by kernel_rfl)) 224 (.pointer (some ⟨g10, 1, none⟩)) (by kernel_rfl) ?_
        refine WO.ld (SA.S sameR sameT _ 7 _ (by kernel_rfl)) 225 (.slice AM ((remove d (gD q i).n).2.l.length) cM) (by kernel_rfl) (same (HBm.at 1 (by kernel_rfl))) ?_
        refine WO.one (SA.F sameR sameT _ 8 _ (by kernel_rfl)) 226 (.int .i64 (j : Int)) (by kernel_rfl) ?_
        obtain ⟨ad230, hA231⟩ := HVm.addr (i := j) (by have := (rfl : List.length (remove d (gD q i).n).2.l = _); omega)
        refine WO.ixo (SA.F sameR sameT _ 9 _ (by kernel_rfl)) 227 ((remove d (gD q i).n).2.l.length) 3 j (j : Int) hA231 (by kernel_rfl) rfl (by omega) ?_
        refine WO.one (SA.F sameR sameT _ 10 _ (by kernel_rfl)) 228 (.pointer (some (ad230.add (j * 3)))) (by kernel_rfl) ?_
        refine WO.ld (SA.S sameR sameT _ 11 _ (by kernel_rfl)) 229 (.int .i64 ((gP ((remove d (gD q i).n).2.l) j).n)) (by kernel_rfl) (same (HVm.at0 hA231 (gP_some ((remove d (gD q i).n).2.l) j (by have := (rfl : List.length (remove d (gD q i).n).2.l = _); omega)) (by kernel_rfl))) ?_
        refine WO.one (SA.F sameR sameT _ 12 _ (by kernel_rfl)) 230 (.bool (!decide ((g0 ((remove d (gD q i).n).2.l.map fun p => p.n) j : Int) = ((gP ((remove d (gD q i).n).2.l) j).n)))) (by kernel_rfl) ?_
        refine WO.topNT ((g0 ((remove d (gD q i).n).2.l.map fun p => p.n) j : Int) = ((gP ((remove d (gD q i).n).2.l) j).n)) (by exact g0_gP _ _ (by omega)) ?_
        refine WO.doneA (by kernel_rfl) ?_
        refine WQ.keep [0, 1, 5, 6, 8, 9, 19, 20, 215, 230] (e' := [(0, .int .i64 room), (1, .slice AL nL cL), (5, .bool true), (6, .pointer (some ⟨g5, 0, none⟩)), (8, .pointer (some ⟨g10, 0, none⟩)), (9, .int .i64 (i : Int)), (19, .slice Ad223 ((remove d (gD q i).n).2.l.length) cp224), (20, .int .i64 (j : Int)), (215, .bool true), (230, .bool false)]) (by kernel_rfl) ?_
        refine WQ.thenN ?_
        refine WE.condF (by kernel_rfl) ?_
        refine WE.skip ?_
        refine WQ.blkN ?_
        refine WQ.thenN ?_
        refine WE.region ?_
        refine WO.run 1 0 [(216, .int .i64 (j : Int))] (by kernel_rfl) (by kernel_rfl) ?_
        refine WO.one (SQ.F 1 (by kernel_rfl)) 217 (.int .i64 (IntKind.i64.wrap ((j : Int) + 1))) (by kernel_rfl) ?_
        refine WO.top (v' := .int .i64 ((j + 1 : Nat) : Int)) (wrap_i64 (by omega) (by omega)) ?_
        refine WO.run 1 2 [(20, .int .i64 ((j + 1 : Nat) : Int))] (by kernel_rfl) (by kernel_rfl) ?_
        refine WO.done (by kernel_rfl) ?_
        refine WQ.keep [0, 1, 5, 6, 8, 9, 19, 20, 215, 230] (e' := [(0, .int .i64 room), (1, .slice AL nL cL), (5, .bool true), (6, .pointer (some ⟨g5, 0, none⟩)), (8, .pointer (some ⟨g10, 0, none⟩)), (9, .int .i64 (i : Int)), (19, .slice Ad223 ((remove d (gD q i).n).2.l.length) cp224), (20, .int .i64 ((j + 1 : Nat) : Int)), (215, .bool true), (230, .bool false)]) (by kernel_rfl) ?_
        refine WQ.round ?_
        intro a_ ha_
        refine ⟨j + 1, ?_, ha_.keep [0, 1, 5, 6, 8, 9, 19, 20] (by kernel_rfl), ?_⟩
        · omega
        · exact ⟨by omega, HG199, HM206, HVl, HVp, HVm, HBm, HA⟩
      intro h225
      refine WO.done (by kernel_rfl) ?_
      refine WQ.keep [0, 1, 5, 6, 8, 9, 19, 20, 215] (e' := [(0, .int .i64 room), (1, .slice AL nL cL), (5, .bool true), (6, .pointer (some ⟨g5, 0, none⟩)), (8, .pointer (some ⟨g10, 0, none⟩)), (9, .int .i64 (i : Int)), (19, .slice Ad223 ((remove d (gD q i).n).2.l.length) cp224), (20, .int .i64 (j : Int)), (215, .bool false)]) (by kernel_rfl) ?_
      refine WQ.thenN ?_
      refine WE.condF (by kernel_rfl) ?_
      refine WE.exit ?_
      refine WQ.thenE ?_
      refine WQ.thenE ?_
      refine WQ.blkE ?_
      refine WQ.blkN ?_
      refine WQ.thenN ?_
      refine WE.region ?_
      refine WO.run 1 0 [(73, .int .i64 (i : Int))] (by kernel_rfl) (by kernel_rfl) ?_
      refine WO.one (SQ.F 1 (by kernel_rfl)) 74 (.int .i64 (IntKind.i64.wrap ((i : Int) + 1))) (by kernel_rfl) ?_
      refine WO.top (v' := .int .i64 ((i + 1 : Nat) : Int)) (wrap_i64 (by omega) (by omega)) ?_
      refine WO.run 1 2 [(9, .int .i64 ((i + 1 : Nat) : Int))] (by kernel_rfl) (by kernel_rfl) ?_
      refine WO.done (by kernel_rfl) ?_
      refine WQ.keep [0, 1, 5, 6, 8, 9, 19, 20, 215] (e' := [(0, .int .i64 room), (1, .slice AL nL cL), (5, .bool true), (6, .pointer (some ⟨g5, 0, none⟩)), (8, .pointer (some ⟨g10, 0, none⟩)), (9, .int .i64 ((i + 1 : Nat) : Int)), (19, .slice Ad223 ((remove d (gD q i).n).2.l.length) cp224), (20, .int .i64 (j : Int)), (215, .bool false)]) (by kernel_rfl) ?_
      refine WQ.round ?_
      intro a_ ha_
      refine ⟨(i + 1, (remove d (gD q i).n).2, D197, D204), ?_, ha_.keep [0, 1, 5, 6, 8, 9] (by kernel_rfl), ?_⟩
      · show nL - (i + 1) < nL - i; omega
      · exact ⟨by show i + 1 ≤ nL; omega, ok200, hdl201, HG199, HM206, HVl, ge_HA_D197, ge_HA_D204, (dj_symm dj_D204_D197), HA⟩
    intro h194
    refine WO.run 1 1 [(135, .bool false)] (by kernel_rfl) (by kernel_rfl) ?_
    refine WO.done (by kernel_rfl) ?_
    refine WQ.keep [0, 1, 5, 6, 8, 9, 10, 11, 12, 13, 72, 82, 90, 96, 111, 121, 135] (e' := [(0, .int .i64 room), (1, .slice AL nL cL), (5, .bool true), (6, .pointer (some ⟨g5, 0, none⟩)), (8, .pointer (some ⟨g10, 0, none⟩)), (9, .int .i64 (i : Int)), (10, .pointer (some ⟨g18, 0, none⟩)), (11, .slice (some ⟨b32, 0, none⟩) (0 + ((gD q i).b.length)) cap33), (12, .int .i64 0), (13, .nilIface), (72, .bool true), (82, .bool false), (90, .int .i64 v41), (96, .bool false), (111, .bool false), (121, .bool false), (135, .bool false)]) (by kernel_rfl) ?_
    refine WQ.thenN ?_
    refine WE.condF (by kernel_rfl) ?_
    refine WE.seq ?_
    refine WE.region ?_
    refine WO.one (SQ.F 0 (by kernel_rfl)) 146 (.bool (decide ((v41 : Int) = 5))) (by kernel_rfl) ?_
    refine WO.topP ((v41 : Int) = 5) ?_ ?_
    · intro h232
      refine WO.run 1 1 [(145, .bool true)] (by kernel_rfl) (by kernel_rfl) ?_
      refine WO.done (by kernel_rfl) ?_
      refine WQ.keep [0, 1, 5, 6, 8, 9, 10, 11, 12, 13, 72, 82, 90, 96, 111, 121, 135, 145] (e' := [(0, .int .i64 room), (1, .slice AL nL cL), (5, .bool true), (6, .pointer (some ⟨g5, 0, none⟩)), (8, .pointer (some ⟨g10, 0, none⟩)), (9, .int .i64 (i : Int)), (10, .pointer (some ⟨g18, 0, none⟩)), (11, .slice (some ⟨b32, 0, none⟩) (0 + ((gD q i).b.length)) cap33), (12, .int .i64 0), (13, .nilIface), (72, .bool true), (82, .bool false), (90, .int .i64 v41), (96, .bool false), (111, .bool false), (121, .bool false), (135, .bool false), (145, .bool true)]) (by kernel_rfl) ?_
      refine WQ.thenN ?_
      refine WE.condT (by kernel_rfl) ?_
      refine WE.seq ?_
      refine WE.region ?_
      refine WO.run 2 0 [(149, .pointer (some ⟨g18, 1, none⟩)), (148, .pointer (some ⟨g5, 0, none⟩))] (by kernel_rfl) (by kernel_rfl) ?_
      refine WO.ld (SQ.S 2 (by kernel_rfl)) 150 (.int .i64 ((gD q i).n)) (by kernel_rfl) (same (HB25.at 1 (by kernel_rfl))) ?_
      refine WO.call (SQ.E 3 (by kernel_rfl)) 151 (by kernel_rfl) (gread g5 F d ((gD q i).n) _ HG hok hnn) ?_
      rintro _ w233 ⟨v235, G236, rfl, HO237, F234, ge238⟩
      refine ⟨_, rfl, trivial, ?_⟩
      obtain ⟨Ad239, cp240, rfl⟩ := HO237.sliceN (n := ((read d (gD q i).n).1).length) (List.length_map _)
      have HVr241 := VX.of_own HO237
      have ge238r := fun y hy => Or.inr (a := y ∈ ([] : List Nat)) (ge238 y hy)
      have nin_g18_G236 : g18 ∉ G236 := grow_nin ge238r (nin0 _) HB25.lt
      have nin_b32_G236 : b32 ∉ G236 := grow_nin ge238r (nin0 _) HR35.lt
      have dj_G236_F : ∀ y ∈ G236, y ∉ F := grow_dj ge238r (by simp) (GDisk.lt HG)
      have dj_G236_FM : ∀ y ∈ G236, y ∉ FM := grow_dj ge238r (by simp) (MDisk.lt HM)
      have dj_G236_FL : ∀ y ∈ G236, y ∉ FL := grow_dj ge238r (by simp) HVl.lt
      have dj_G236_Fi : ∀ y ∈ G236, y ∉ Fi := grow_dj ge238r (by simp) HVi.lt
      have ge_HA_G236 : ∀ y ∈ G236, (World.heap w).size ≤ y := grow_ge ge238r (by simp) HA.size
      have HB25 := Blk.keep HB25 F234 (nin0 _)
      have HR35 := RowB.keep HR35 F234 (nin0 _)
      have HG := GDisk.keep HG F234 (fun _ _ => nin0 _)
      have HM := MDisk.keep HM F234 (fun _ _ => nin0 _)
      have HVl := HVl.keep F234 (fun _ _ => nin0 _)
      have HVi := HVi.keep F234 (fun _ _ => nin0 _)
      have HA := Fr.step0 HA F234
      have hcd : 0 ≤ (read d (gD q i).n).2 ∧ (read d (gD q i).n).2 ≤ 10 := code_read _ _
      have hdl1 : d.l.length ≤ i + 1 := by omega
      refine WO.run 5 4 [(15, codeV (read d (gD q i).n).2), (14, .slice Ad239 (((read d (gD q i).n).1).length) cp240), (153, codeV (read d (gD q i).n).2), (152, .slice Ad239 (((read d (gD q i).n).1).length) cp240), (147, .tuple #[.slice Ad239 (((read d (gD q i).n).1).length) cp240, codeV (read d (gD q i).n).2])] (by kernel_rfl) (by kernel_rfl) ?_
      refine WO.done (by kernel_rfl) ?_
      refine WQ.keep [0, 1, 5, 6, 8, 9, 10, 11, 12, 13, 14, 15, 72, 82, 90, 96, 111, 121, 135, 145] (e' := [(0, .int .i64 room), (1, .slice AL nL cL), (5, .bool true), (6, .pointer (some ⟨g5, 0, none⟩)), (8, .pointer (some ⟨g10, 0, none⟩)), (9, .int .i64 (i : Int)), (10, .pointer (some ⟨g18, 0, none⟩)), (11, .slice (some ⟨b32, 0, none⟩) (0 + ((gD q i).b.length)) cap33), (12, .int .i64 0), (13, .nilIface), (14, .slice Ad239 (((read d (gD q i).n).1).length) cp240), (15, codeV (read d (gD q i).n).2), (72, .bool true), (82, .bool false), (90, .int .i64 v41), (96, .bool false), (111, .bool false), (121, .bool false), (135, .bool false), (145, .bool true)]) (by kernel_rfl) ?_
      refine WQ.thenN ?_
      refine WE.seq ?_
      refine WE.region ?_
      refine WO.run 2 0 [(156, .pointer (some ⟨g18, 1, none⟩)), (155, .pointer (some ⟨g10, 0, none⟩))] (by kernel_rfl) (by kernel_rfl) ?_
      refine WO.ld (SQ.S 2 (by kernel_rfl)) 157 (.int .i64 ((gD q i).n)) (by kernel_rfl) (same (HB25.at 1 (by kernel_rfl))) ?_
      refine WO.call (SQ.E 3 (by kernel_rfl)) 158 (by kernel_rfl) (mread g10 FM d (gD q i).n _ HM hok (by omega)) ?_
      rintro _ w243 ⟨rfl, F244⟩
      refine ⟨_, rfl, trivial, ?_⟩
      have HB25 := Blk.keep HB25 F244 (nin0 _)
      have HR35 := RowB.keep HR35 F244 (nin0 _)
      have HG := GDisk.keep HG F244 (fun _ _ => nin0 _)
      have HM := MDisk.keep HM F244 (fun _ _ => nin0 _)
      have HVl := HVl.keep F244 (fun _ _ => nin0 _)
      have HVi := HVi.keep F244 (fun _ _ => nin0 _)
      have HVr241 := HVr241.keep F244 (fun _ _ => nin0 _)
      have HA := Fr.step0 HA F244
      refine WO.run 5 4 [(17, .int .i64 ((read d (gD q i).n).2)), (16, .string (str (read d (gD q i).n).1)), (160, .int .i64 ((read d (gD q i).n).2)), (159, .string (str (read d (gD q i).n).1)), (154, .tuple #[.string (str (read d (gD q i).n).1), .int .i64 ((read d (gD q i).n).2)])] (by kernel_rfl) (by kernel_rfl) ?_
      refine WO.done (by kernel_rfl) ?_
      refine WQ.keep [0, 1, 5, 6, 8, 9, 10, 11, 12, 13, 14, 15, 16, 17, 72, 82, 90, 96, 111, 121, 135, 145] (e' := [(0, .int .i64 room), (1, .slice AL nL cL), (5, .bool true), (6, .pointer (some ⟨g5, 0, none⟩)), (8, .pointer (some ⟨g10, 0, none⟩)), (9, .int .i64 (i : Int)), (10, .pointer (some ⟨g18, 0, none⟩)), (11, .slice (some ⟨b32, 0, none⟩) (0 + ((gD q i).b.length)) cap33), (12, .int .i64 0), (13, .nilIface), (14, .slice Ad239 (((read d (gD q i).n).1).length) cp240), (15, codeV (read d (gD q i).n).2), (16, .string (str (read d (gD q i).n).1)), (17, .int .i64 ((read d (gD q i).n).2)), (72, .bool true), (82, .bool false), (90, .int .i64 v41), (96, .bool false), (111, .bool false), (121, .bool false), (135, .bool false), (145, .bool true)]) (by kernel_rfl) ?_
      refine WQ.thenN ?_
      refine WE.seq ?_
      refine WE.region ?_
      refine WO.run 2 0 [(13, codeV (read d (gD q i).n).2), (161, codeV (read d (gD q i).n).2)] (by kernel_rfl) (by kernel_rfl) ?_
      refine WO.done (by kernel_rfl) ?_
      refine WQ.keep [0, 1, 5, 6, 8, 9, 10, 11, 12, 13, 14, 15, 16, 17, 72, 82, 90, 96, 111, 121, 135, 145] (e' := [(0, .int .i64 room), (1, .slice AL nL cL), (5, .bool true), (6, .pointer (some ⟨g5, 0, none⟩)), (8, .pointer (some ⟨g10, 0, none⟩)), (9, .int .i64 (i : Int)), (10, .pointer (some ⟨g18, 0, none⟩)), (11, .slice (some ⟨b32, 0, none⟩) (0 + ((gD q i).b.length)) cap33), (12, .int .i64 0), (13, codeV (read d (gD q i).n).2), (14, .slice Ad239 (((read d (gD q i).n).1).length) cp240), (15, codeV (read d (gD q i).n).2), (16, .string (str (read d (gD q i).n).1)), (17, .int .i64 ((read d (gD q i).n).2)), (72, .bool true), (82, .bool false), (90, .int .i64 v41), (96, .bool false), (111, .bool false), (121, .bool false), (135, .bool false), (145, .bool true)]) (by kernel_rfl) ?_
      refine WQ.thenN ?_
      refine WE.seq ?_
      refine WE.region ?_
      refine WO.run 2 0 [(12, .int .i64 ((read d (gD q i).n).2)), (162, .int .i64 ((read d (gD q i).n).2))] (by kernel_rfl) (by kernel_rfl) ?_
      refine WO.done (by kernel_rfl) ?_
      refine WQ.keep [0, 1, 5, 6, 8, 9, 10, 11, 12, 13, 14, 15, 16, 17, 72, 82, 90, 96, 111, 121, 135, 145] (e' := [(0, .int .i64 room), (1, .slice AL nL cL), (5, .bool true), (6, .pointer (some ⟨g5, 0, none⟩)), (8, .pointer (some ⟨g10, 0, none⟩)), (9, .int .i64 (i : Int)), (10, .pointer (some ⟨g18, 0, none⟩)), (11, .slice (some ⟨b32, 0, none⟩) (0 + ((gD q i).b.length)) cap33), (12, .int .i64 ((read d (gD q i).n).2)), (13, codeV (read d (gD q i).n).2), (14, .slice Ad239 (((read d (gD q i).n).1).length) cp240), (15, codeV (read d (gD q i).n).2), (16, .string (str (read d (gD q i).n).1)), (17, .int .i64 ((read d (gD q i).n).2)), (72, .bool true), (82, .bool false), (90, .int .i64 v41), (96, .bool false), (111, .bool false), (121, .bool false), (135, .bool false), (145, .bool true)]) (by kernel_rfl) ?_
      refine WQ.thenN ?_
      refine WE.seq ?_
      refine WE.region ?_
      refine WO.run 1 0 [(163, .slice Ad239 (((read d (gD q i).n).1).length) cp240)] (by kernel_rfl) (by kernel_rfl) ?_
      refine WO.b2s (v := .slice Ad239 (((read d (gD q i).n).1).length) cp240) (SQ.S 1 (by kernel_rfl)) 164 byt ((read d (gD q i).n).1) (n := (((read d (gD q i).n).1).length)) (rfl : List.length ((read d (gD q i).n).1) = _) (by kernel_rfl) (same (HVr241.srcN (rfl : List.length ((read d (gD q i).n).1) = _) (cB_len _) (cB_one _) cp240)) ?_
      refine WO.run 1 2 [(165, .string (str (read d (gD q i).n).1))] (by kernel_rfl) (by kernel_rfl) ?_
      refine WO.one (SQ.F 3 (by kernel_rfl)) 166 (.bool (!((str ((read d (gD q i).n).1)).toList == (str (read d (gD q i).n).1).toList))) (by kernel_rfl) ?_
      refine WO.top (v' := .bool (!decide ((str ((read d (gD q i).n).1)) = (str (read d (gD q i).n).1)))) (congrArg Value.bool (congrArg not (streq (str ((read d (gD q i).n).1)) (str (read d (gD q i).n).1)))) ?_
      refine WO.topNT ((str ((read d (gD q i).n).1)) = (str (read d (gD q i).n).1)) (by rfl) ?_
      refine WO.done (by kernel_rfl) ?_
      refine WQ.keep [0, 1, 5, 6, 8, 9, 10, 11, 12, 13, 14, 15, 16, 17, 72, 82, 90, 96, 111, 121, 135, 145, 166] (e' := [(0, .int .i64 room), (1, .slice AL nL cL), (5, .bool true), (6, .pointer (some ⟨g5, 0, none⟩)), (8, .pointer (some ⟨g10, 0, none⟩)), (9, .int .i64 (i : Int)), (10, .pointer (some ⟨g18, 0, none⟩)), (11, .slice (some ⟨b32, 0, none⟩) (0 + ((gD q i).b.length)) cap33), (12, .int .i64 ((read d (gD q i).n).2)), (13, codeV (read d (gD q i).n).2), (14, .slice Ad239 (((read d (gD q i).n).1).length) cp240), (15, codeV (read d (gD q i).n).2), (16, .string (str (read d (gD q i).n).1)), (17, .int .i64 ((read d (gD q i).n).2)), (72, .bool true), (82, .bool false), (90, .int .i64 v41), (96, .bool false), (111, .bool false), (121, .bool false), (135, .bool false), (145, .bool true), (166, .bool false)]) (by kernel_rfl) ?_
      refine WQ.thenN ?_
      refine WE.condF (by kernel_rfl) ?_
      refine WE.skip ?_
      refine WQ.blkN ?_
      refine WQ.thenN ?_
      refine WE.seq ?_
      refine WE.seq ?_
      refine WE.region ?_
      refine WO.run 1 0 [(18, .int .i64 0)] (by kernel_rfl) (by kernel_rfl) ?_
      refine WO.done (by kernel_rfl) ?_
      refine WQ.keep [0, 1, 5, 6, 8, 9, 10, 11, 12, 13, 14, 15, 16, 17, 18, 72, 82, 90, 96, 111, 121, 135, 145, 166] (e' := [(0, .int .i64 room), (1, .slice AL nL cL), (5, .bool true), (6, .pointer (some ⟨g5, 0, none⟩)), (8, .pointer (some ⟨g10, 0, none⟩)), (9, .int .i64 (i : Int)), (10, .pointer (some ⟨g18, 0, none⟩)), (11, .slice (some ⟨b32, 0, none⟩) (0 + ((gD q i).b.length)) cap33), (12, .int .i64 ((read d (gD q i).n).2)), (13, codeV (read d (gD q i).n).2), (14, .slice Ad239 (((read d (gD q i).n).1).length) cp240), (15, codeV (read d (gD q i).n).2), (16, .string (str (read d (gD q i).n).1)), (17, .int .i64 ((read d (gD q i).n).2)), (18, .int .i64 0), (72, .bool true), (82, .bool false), (90, .int .i64 v41), (96, .bool false), (111, .bool false), (121, .bool false), (135, .bool false), (145, .bool true), (166, .bool false)]) (by kernel_rfl) ?_
      refine WQ.thenN ?_
      refine WE.block ?_
      refine WE.loop (α := Nat × List UInt8) (E := fun ⟨j, z⟩ => [(0, .int .i64 room), (1, .slice AL nL cL), (5, .bool true), (6, .pointer (some ⟨g5, 0, none⟩)), (8, .pointer (some ⟨g10, 0, none⟩)), (9, .int .i64 (i : Int)), (11, .slice (some ⟨b32, 0, none⟩) (0 + ((gD q i).b.length)) cap33), (12, .int .i64 ((read d (gD q i).n).2)), (13, codeV (read d (gD q i).n).2), (18, .int .i64 (j : Int))]) (I := fun ⟨j, z⟩ wo => j ≤ 0 + ((gD q i).b.length) ∧ z.length = 0 + ((gD q i).b.length) ∧ RowB wo b32 5 1 cap33 (z.map cB) ∧ GDisk wo g5 F d ∧ MDisk wo g10 FM d ∧ VX cD 4 wo FL AL q ∧ Fr [] w wo) (m := fun ⟨j, z⟩ => (0 + ((gD q i).b.length)) - j) (0, (([] : List UInt8) ++ (gD q i).b)) [0, 1, 5, 6, 8, 9, 11, 12, 13, 18] (by kernel_rfl) ?_ ?_
      · exact ⟨Nat.zero_le _, (show (([] : List UInt8) ++ (gD q i).b).length = 0 + ((gD q i).b.length) by rw [List.length_append, (rfl : List.length ([] : List UInt8) = 0)]; first | rfl | (have := (rfl : List.length ([] : List UInt8) = 0); simp; omega)), HR35, HG, HM, HVl, HA⟩
      rintro ⟨j, z⟩ wo ⟨hj, hz, HRz, HG, HM, HVl, HA⟩
      dsimp only at hj hz HRz ⊢
      refine WE.seq ?_
      refine WE.seq ?_
      refine WE.region ?_
      refine WO.run 3 0 [(179, .int .i64 (0 + ((gD q i).b.length) : Int)), (178, .slice (some ⟨b32, 0, none⟩) (0 + ((gD q i).b.length)) cap33), (177, .int .i64 (j : Int))] (by kernel_rfl) (by kernel_rfl) ?_
      refine WO.one (SQ.F 3 (by kernel_rfl)) 180 (.bool (decide (((j : Int) : Int) < (0 + ((gD q i).b.length) : Int)))) (by kernel_rfl) ?_
      refine WO.topP (((j : Int) : Int) < (0 + ((gD q i).b.length) : Int)) ?_ ?_
      · intro h245
        refine WO.done (by kernel_rfl) ?_
        refine WQ.keep [0, 1, 5, 6, 8, 9, 11, 12, 13, 18, 180] (e' := [(0, .int .i64 room), (1, .slice AL nL cL), (5, .bool true), (6, .pointer (some ⟨g5, 0, none⟩)), (8, .pointer (some ⟨g10, 0, none⟩)), (9, .int .i64 (i : Int)), (11, .slice (some ⟨b32, 0, none⟩) (0 + ((gD q i).b.length)) cap33), (12, .int .i64 ((read d (gD q i).n).2)), (13, codeV (read d (gD q i).n).2), (18, .int .i64 (j : Int)), (180, .bool true)]) (by kernel_rfl) ?_
        refine WQ.thenN ?_
        refine WE.condT (by kernel_rfl) ?_
        refine WE.skip ?_
        refine WQ.thenN ?_
        refine WE.seq ?_
        refine WE.block ?_
        refine WE.region ?_
        refine WO.run 4 0 [(186, .int .i64 (j : Int)), (185, .slice (some ⟨b32, 0, none⟩) (0 + ((gD q i).b.length)) cap33), (184, .int .i64 (j : Int)), (183, .slice (some ⟨b32, 0, none⟩) (0 + ((gD q i).b.length)) cap33)] (by kernel_rfl) (by kernel_rfl) ?_
        refine WO.ixB (SQ.F 4 (by kernel_rfl)) 187 j b32 0 (0 + ((gD q i).b.length)) 1 (j : Int) (by kernel_rfl) (by omega) (by omega) (by omega) ?_
        refine WO.ld (SQ.S 5 (by kernel_rfl)) 188 (.int .u8 ((gB z j).toNat : Int)) (by kernel_rfl) (same (HRz.at j 0 j _ (by rw [List.length_map]; have := hz; omega) (by omega) (by rw [(map_gB z j (by have := hz; omega))]; rfl) (by omega))) ?_
        refine WO.one (SQ.F 6 (by kernel_rfl)) 189 (.int .u8 (IntKind.u8.wrap (((gB z j).toNat : Int) + 1))) (by kernel_rfl) ?_
        refine WO.top (v' := .int .u8 ((gB z j + 1).toNat : Int)) (congrArg (Value.int .u8) (u8_inc _)) ?_
        refine WO.ixB (SQ.F 7 (by kernel_rfl)) 190 j b32 0 (0 + ((gD q i).b.length)) 1 (j : Int) (by kernel_rfl) (by omega) (by omega) (by omega) ?_
        refine WO.stR (SQ.E 8 (by kernel_rfl)) b32 j j [.int .u8 ((gB z j + 1).toNat : Int)] HRz (by rw [List.length_map]; have := hz; omega) rfl (by omega) rfl (by kernel_rfl) (fun _ _ => trivial) ?_
        intro w246 HR248 F247 _
        have HG := GDisk.keep HG F247 (djB nin_b32_F)
        have HM := MDisk.keep HM F247 (djB nin_b32_FM)
        have HVl := HVl.keep F247 (djB nin_b32_FL)
        have HA := Fr.step HA F247 (inSD in_HA_b32 inS0)
        have HR248 : RowB w246 b32 5 1 cap33 ((z.set j (gB z j + 1)).map cB) := by rw [List.map_set]; exact HR248
        refine WO.done (by kernel_rfl) ?_
        refine WQ.keep [0, 1, 5, 6, 8, 9, 11, 12, 13, 18, 180] (e' := [(0, .int .i64 room), (1, .slice AL nL cL), (5, .bool true), (6, .pointer (some ⟨g5, 0, none⟩)), (8, .pointer (some ⟨g10, 0, none⟩)), (9, .int .i64 (i : Int)), (11, .slice (some ⟨b32, 0, none⟩) (0 + ((gD q i).b.length)) cap33), (12, .int .i64 ((read d (gD q i).n).2)), (13, codeV (read d (gD q i).n).2), (18, .int .i64 (j : Int)), (180, .bool true)]) (by kernel_rfl) ?_
        refine WQ.blkN ?_
        refine WQ.thenN ?_
        refine WE.region ?_
        refine WO.run 1 0 [(181, .int .i64 (j : Int))] (by kernel_rfl) (by kernel_rfl) ?_
        refine WO.one (SQ.F 1 (by kernel_rfl)) 182 (.int .i64 (IntKind.i64.wrap ((j : Int) + 1))) (by kernel_rfl) ?_
        refine WO.top (v' := .int .i64 ((j + 1 : Nat) : Int)) (wrap_i64 (by omega) (by omega)) ?_
        refine WO.run 1 2 [(18, .int .i64 ((j + 1 : Nat) : Int))] (by kernel_rfl) (by kernel_rfl) ?_
        refine WO.done (by kernel_rfl) ?_
        refine WQ.keep [0, 1, 5, 6, 8, 9, 11, 12, 13, 18, 180] (e' := [(0, .int .i64 room), (1, .slice AL nL cL), (5, .bool true), (6, .pointer (some ⟨g5, 0, none⟩)), (8, .pointer (some ⟨g10, 0, none⟩)), (9, .int .i64 (i : Int)), (11, .slice (some ⟨b32, 0, none⟩) (0 + ((gD q i).b.length)) cap33), (12, .int .i64 ((read d (gD q i).n).2)), (13, codeV (read d (gD q i).n).2), (18, .int .i64 ((j + 1 : Nat) : Int)), (180, .bool true)]) (by kernel_rfl) ?_
        refine WQ.round ?_
        intro a_ ha_
        refine ⟨(j + 1, z.set j (gB z j + 1)), ?_, ha_.keep [0, 1, 5, 6, 8, 9, 11, 12, 13, 18] (by kernel_rfl), ?_⟩
        · show 0 + ((gD q i).b.length) - (j + 1) < 0 + ((gD q i).b.length) - j; omega
        · exact ⟨by show j + 1 ≤ _; omega, by rw [List.length_set]; exact hz, HR248, HG, HM, HVl, HA⟩
      intro h245
      refine WO.done (by kernel_rfl) ?_
      refine WQ.keep [0, 1, 5, 6, 8, 9, 11, 12, 13, 18, 180] (e' := [(0, .int .i64 room), (1, .slice AL nL cL), (5, .bool true), (6, .pointer (some ⟨g5, 0, none⟩)), (8, .pointer (some ⟨g10, 0, none⟩)), (9, .int .i64 (i : Int)), (11, .slice (some ⟨b32, 0, none⟩) (0 + ((gD q i).b.length)) cap33), (12, .int .i64 ((read d (gD q i).n).2)), (13, codeV (read d (gD q i).n).2), (18, .int .i64 (j : Int)), (180, .bool false)]) (by kernel_rfl) ?_
      refine WQ.thenN ?_
      refine WE.condF (by kernel_rfl) ?_
      refine WE.exit ?_
      refine WQ.thenE ?_
      refine WQ.thenE ?_
      refine WQ.blkE ?_
      refine WQ.thenN ?_
      refine WE.seq ?_
      refine WE.seq ?_
      refine WE.region ?_
      refine WO.run 1 0 [(191, codeV (read d (gD q i).n).2)] (by kernel_rfl) (by kernel_rfl) ?_
      refine WO.call (SQ.E 1 (by kernel_rfl)) 192 (by kernel_rfl) (code_any ((read d (gD q i).n).2 : Int) hcd _) ?_
      rintro _ w249 ⟨rfl, F250⟩
      refine ⟨_, rfl, trivial, ?_⟩
      have HRz := RowB.keep HRz F250 (nin0 _)
      have HG := GDisk.keep HG F250 (fun _ _ => nin0 _)
      have HM := MDisk.keep HM F250 (fun _ _ => nin0 _)
      have HVl := HVl.keep F250 (fun _ _ => nin0 _)
      have HA := Fr.step0 HA F250
      refine WO.run 1 2 [(193, .int .i64 ((read d (gD q i).n).2))] (by kernel_rfl) (by kernel_rfl) ?_
      refine WO.one (SQ.F 3 (by kernel_rfl)) 194 (.bool (!decide (((read d (gD q i).n).2 : Int) = ((read d (gD q i).n).2)))) (by kernel_rfl) ?_
      refine WO.topNT (((read d (gD q i).n).2 : Int) = ((read d (gD q i).n).2)) (by rfl) ?_
      refine WO.run 2 4 [(196, .pointer (some ⟨g5, 0, none⟩)), (195, .bool false)] (by kernel_rfl) (by kernel_rfl) ?_
      refine WO.call (SQ.E 6 (by kernel_rfl)) 197 (by kernel_rfl) (gused g5 F d _ HG hok) ?_
      rintro _ w251 ⟨rfl, F252⟩
      refine ⟨_, rfl, trivial, ?_⟩
      have HRz := RowB.keep HRz F252 (nin0 _)
      have HG := GDisk.keep HG F252 (fun _ _ => nin0 _)
      have HM := MDisk.keep HM F252 (fun _ _ => nin0 _)
      have HVl := HVl.keep F252 (fun _ _ => nin0 _)
      have HA := Fr.step0 HA F252
      refine WO.run 1 7 [(198, .pointer (some ⟨g10, 0, none⟩))] (by kernel_rfl) (by kernel_rfl) ?_
      refine WO.call (SQ.E 8 (by kernel_rfl)) 199 (by kernel_rfl) (mused g10 FM d _ HM hok (by omega)) ?_
      rintro _ w253 ⟨rfl, F254⟩
      refine ⟨_, rfl, trivial, ?_⟩
      have HRz := RowB.keep HRz F254 (nin0 _)
      have HG := GDisk.keep HG F254 (fun _ _ => nin0 _)
      have HM := MDisk.keep HM F254 (fun _ _ => nin0 _)
      have HVl := HVl.keep F254 (fun _ _ => nin0 _)
      have HA := Fr.step0 HA F254
      refine WO.one (SQ.F 9 (by kernel_rfl)) 200 (.bool (!decide (((usedL d.l : Int) : Int) = (usedL d.l : Int)))) (by kernel_rfl) ?_
      refine WO.topNT (((usedL d.l : Int) : Int) = (usedL d.l : Int)) (by rfl) ?_
      refine WO.run 1 10 [(201, .bool false)] (by kernel_rfl) (by kernel_rfl) ?_
      refine WO.done (by kernel_rfl) ?_
      refine WQ.keep [0, 1, 5, 6, 8, 9, 11, 12, 13, 18, 180, 201] (e' := [(0, .int .i64 room), (1, .slice AL nL cL), (5, .bool true), (6, .pointer (some ⟨g5, 0, none⟩)), (8, .pointer (some ⟨g10, 0, none⟩)), (9, .int .i64 (i : Int)), (11, .slice (some ⟨b32, 0, none⟩) (0 + ((gD q i).b.length)) cap33), (12, .int .i64 ((read d (gD q i).n).2)), (13, codeV (read d (gD q i).n).2), (18, .int .i64 (j : Int)), (180, .bool false), (201, .bool false)]) (by kernel_rfl) ?_
      refine WQ.thenN ?_
      refine WE.condF (by kernel_rfl) ?_
      refine WE.skip ?_
      refine WQ.thenN ?_
      refine WE.seq ?_
      refine WE.region ?_
      refine WO.run 1 0 [(202, .pointer (some ⟨g5, 0, none⟩))] (by kernel_rfl) (by kernel_rfl) ?_
      refine WO.call (SQ.E 1 (by kernel_rfl)) 203 (by kernel_rfl) (gparts g5 F d _ HG hok (by omega)) ?_
      rintro _ w255 ⟨v257, G258, rfl, HO259, F256, ge260⟩
      refine ⟨_, rfl, trivial, ?_⟩
      obtain ⟨Ad261, cp262, rfl⟩ := HO259.sliceN (n := d.l.length) (by simp)
      have HVp := VX.of_own HO259
      have ge260r := fun y hy => Or.inr (a := y ∈ ([] : List Nat)) (ge260 y hy)
      have hpl : (d.l.map fun p => p.n).length = d.l.length := List.length_map _
      have nin_b32_G258 : b32 ∉ G258 := grow_nin ge260r (nin0 _) HRz.lt
      have dj_G258_F : ∀ y ∈ G258, y ∉ F := grow_dj ge260r (by simp) (GDisk.lt HG)
      have dj_G258_FM : ∀ y ∈ G258, y ∉ FM := grow_dj ge260r (by simp) (MDisk.lt HM)
      have dj_G258_FL : ∀ y ∈ G258, y ∉ FL := grow_dj ge260r (by simp) HVl.lt
      have ge_HA_G258 : ∀ y ∈ G258, (World.heap w).size ≤ y := grow_ge ge260r (by simp) HA.size
      have HRz := RowB.keep HRz F256 (nin0 _)
      have HG := GDisk.keep HG F256 (fun _ _ => nin0 _)
      have HM := MDisk.keep HM F256 (fun _ _ => nin0 _)
      have HVl := HVl.keep F256 (fun _ _ => nin0 _)
      have HA := Fr.step0 HA F256
      refine WO.run 1 2 [(19, .slice Ad261 d.l.length cp262)] (by kernel_rfl) (by kernel_rfl) ?_
      refine WO.done (by kernel_rfl) ?_
      refine WQ.keep [0, 1, 5, 6, 8, 9, 11, 12, 13, 18, 19, 180, 201] (e' := [(0, .int .i64 room), (1, .slice AL nL cL), (5, .bool true), (6, .pointer (some ⟨g5, 0, none⟩)), (8, .pointer (some ⟨g10, 0, none⟩)), (9, .int .i64 (i : Int)), (11, .slice (some ⟨b32, 0, none⟩) (0 + ((gD q i).b.length)) cap33), (12, .int .i64 ((read d (gD q i).n).2)), (13, codeV (read d (gD q i).n).2), (18, .int .i64 (j : Int)), (19, .slice Ad261 d.l.length cp262), (180, .bool false), (201, .bool false)]) (by kernel_rfl) ?_
      refine WQ.thenN ?_
      refine WE.seq ?_
      refine WE.seq ?_
      obtain ⟨AM, cM, GM_, VM⟩ := mview HM
      have HBm := VM.blk
      have HVm := VM.view
      have hgGM := VM.hg
      refine WE.region ?_
      refine WO.run 5 0 [(208, .pointer (some ⟨g10, 1, none⟩)), (207, .pointer (some ⟨g10, 0, none⟩)), (206, .pointer (some ⟨g10, 0, none⟩)), (205, .int .i64 (d.l.length : Int)), (204, .slice Ad261 d.l.length cp262)] (by kernel_rfl) (by kernel_rfl) ?_
      refine WO.ld (SQ.S 5 (by kernel_rfl)) 209 (.slice AM d.l.length cM) (by kernel_rfl) (same (HBm.at 1 (by kernel_rfl))) ?_
      refine WO.run 1 6 [(210, .int .i64 (d.l.length : Int))] (by kernel_rfl) (by kernel_rfl) ?_
      refine WO.one (SQ.F 7 (by kernel_rfl)) 211 (.bool (!decide (((d.l.length : Int) : Int) = (d.l.length : Int)))) (by kernel_rfl) ?_
      refine WO.topNT (((d.l.length : Int) : Int) = (d.l.length : Int)) (by rfl) ?_
      refine WO.done (by kernel_rfl) ?_
      refine WQ.keep [0, 1, 5, 6, 8, 9, 11, 12, 13, 18, 19, 180, 201, 211] (e' := [(0, .int .i64 room), (1, .slice AL nL cL), (5, .bool true), (6, .pointer (some ⟨g5, 0, none⟩)), (8, .pointer (some ⟨g10, 0, none⟩)), (9, .int .i64 (i : Int)), (11, .slice (some ⟨b32, 0, none⟩) (0 + ((gD q i).b.length)) cap33), (12, .int .i64 ((read d (gD q i).n).2)), (13, codeV (read d (gD q i).n).2), (18, .int .i64 (j : Int)), (19, .slice Ad261 d.l.length cp262), (180, .bool false), (201, .bool false), (211, .bool false)]) (by kernel_rfl) ?_
      refine WQ.thenN ?_
      refine WE.condF (by kernel_rfl) ?_
      refine WE.skip ?_
      refine WQ.thenN ?_
      refine WE.seq ?_
      refine WE.region ?_
      refine WO.run 1 0 [(20, .int .i64 0)] (by kernel_rfl) (by kernel_rfl) ?_
      refine WO.done (by kernel_rfl) ?_
      refine WQ.keep [0, 1, 5, 6, 8, 9, 11, 12, 13, 18, 19, 20, 180, 201, 211] (e' := [(0, .int .i64 room), (1, .slice AL nL cL), (5, .bool true), (6, .pointer (some ⟨g5, 0, none⟩)), (8, .pointer (some ⟨g10, 0, none⟩)), (9, .int .i64 (i : Int)), (11, .slice (some ⟨b32, 0, none⟩) (0 + ((gD q i).b.length)) cap33), (12, .int .i64 ((read d (gD q i).n).2)), (13, codeV (read d (gD q i).n).2), (18, .int .i64 (j : Int)), (19, .slice Ad261 d.l.length cp262), (20, .int .i64 0), (180, .bool false), (201, .bool false), (211, .bool false)]) (by kernel_rfl) ?_
      refine WQ.thenN ?_
      refine WE.block ?_
      refine WE.loop (α := Nat) (E := fun j => [(0, .int .i64 room), (1, .slice AL nL cL), (5, .bool true), (6, .pointer (some ⟨g5, 0, none⟩)), (8, .pointer (some ⟨g10, 0, none⟩)), (9, .int .i64 (i : Int)), (19, .slice Ad261 d.l.length cp262), (20, .int .i64 (j : Int))]) (I := fun j wo => j ≤ d.l.length ∧ GDisk wo g5 F d ∧ MDisk wo g10 FM d ∧ VX cD 4 wo FL AL q ∧ VX cI 1 wo G258 Ad261 (d.l.map fun p => p.n) ∧ VX cP 3 wo GM_ AM d.l ∧ Blk wo g10 #[.int .i64 d.room, .slice AM d.l.length cM, .bool d.down] 40 ∧ Fr [] w wo) (m := fun j => d.l.length - j) 0 [0, 1, 5, 6, 8, 9, 19, 20] (by kernel_rfl) ?_ ?_
      · exact ⟨Nat.zero_le _, HG, HM, HVl, HVp, HVm, HBm, HA⟩
      rintro j wo ⟨hj, HG, HM, HVl, HVp, HVm, HBm, HA⟩
      refine WE.seq ?_
      refine WE.seq ?_
      refine WE.region ?_
      refine WO.run 3 0 [(214, .int .i64 (d.l.length : Int)), (213, .slice Ad261 d.l.length cp262), (212, .int .i64 (j : Int))] (by kernel_rfl) (by kernel_rfl) ?_
      refine WO.one (SQ.F 3 (by kernel_rfl)) 215 (.bool (decide (((j : Int) : Int) < (d.l.length : Int)))) (by kernel_rfl) ?_
      refine WO.topP (((j : Int) : Int) < (d.l.length : Int)) ?_ ?_
      · intro h263
        refine WO.done (by kernel_rfl) ?_
        refine WQ.keep [0, 1, 5, 6, 8, 9, 19, 20, 215] (e' := [(0, .int .i64 room), (1, .slice AL nL cL), (5, .bool true), (6, .pointer (some ⟨g5, 0, none⟩)), (8, .pointer (some ⟨g10, 0, none⟩)), (9, .int .i64 (i : Int)), (19, .slice Ad261 d.l.length cp262), (20, .int .i64 (j : Int)), (215, .bool true)]) (by kernel_rfl) ?_
        refine WQ.thenN ?_
        refine WE.condT (by kernel_rfl) ?_
        refine WE.skip ?_
        refine WQ.thenN ?_
        refine WE.seq ?_
        refine WE.block ?_
        refine WE.seq ?_
        refine WE.draw [.free, .free, .free, .still, .free, .free, .free, .still, .free, .free, .free, .still, .free] Same sameR (by kernel_rfl) 13 (Array.replicate 13 false) (by kernel_rfl) rfl ?_
        intro w264 F265 _
        have HBm := Blk.keep HBm F265 (nin0 _)
        have HG := GDisk.keep HG F265 (fun _ _ => nin0 _)
        have HM := MDisk.keep HM F265 (fun _ _ => nin0 _)
        have HVl := HVl.keep F265 (fun _ _ => nin0 _)
        have HVp := HVp.keep F265 (fun _ _ => nin0 _)
        have HVm := HVm.keep F265 (fun _ _ => nin0 _)
        have HA := Fr.step0 HA F265
        refine WO.one (SA.F sameR sameT _ 0 _ (by kernel_rfl)) 218 (.slice Ad261 d.l.length cp262) (by kernel_rfl) ?_
        refine WO.one (SA.F sameR sameT _ 1 _ (by kernel_rfl)) 219 (.int .i64 (j : Int)) (by kernel_rfl) ?_
        obtain ⟨ad266, hA267⟩ := HVp.addr (i := j) (by have := hpl; omega)
        refine WO.ixo (SA.F sameR sameT _ 2 _ (by kernel_rfl)) 220 d.l.length 1 j (j : Int) hA267 (by kernel_rfl) rfl (by omega) ?_
        refine WO.ld (SA.S sameR sameT _ 3 _ (by kernel_rfl)) 221 (.int .i64 (g0 (d.l.map fun p => p.n) j)) (by kernel_rfl) (same (HVp.at0 hA267 (g0_some (d.l.map fun p => p.n) j (by have := hpl; omega)) (by kernel_rfl))) ?_
        refine WO.one (SA.F sameR sameT _ 4 _ (by kernel_rfl)) 222 (.pointer (some ⟨g10, 0, none⟩)) (by kernel_rfl) ?_
        refine WO.one (SA.F sameR sameT _ 5 _ (by kernel_rfl)) 223 (.pointer (some ⟨g10, 0, none⟩)) (by kernel_rfl) ?_
        refine WO.one (SA.F sameR sameT _ 6 _ (by kernel_rfl)) 224 (.pointer (some ⟨g10, 1, none⟩)) (by kernel_rfl) ?_
        refine WO.ld (SA.S sameR sameT _ 7 _ (by kernel_rfl)) 225 (.slice AM d.l.length cM) (by kernel_rfl) (same (HBm.at 1 (by kernel_rfl))) ?_
        refine WO.one (SA.F sameR sameT _ 8 _ (by kernel_rfl)) 226 (.int .i64 (j : Int)) (by kernel_rfl) ?_
        obtain ⟨ad268, hA269⟩ := HVm.addr (i := j) (by have := (rfl : List.length d.l = _); omega)
        refine WO.ixo (SA.F sameR sameT _ 9 _ (by kernel_rfl)) 227 d.l.length 3 j (j : Int) hA269 (by kernel_rfl) rfl (by omega) ?_
        refine WO.one (SA.F sameR sameT _ 10 _ (by kernel_rfl)) 228 (.pointer (some (ad268.add (j * 3)))) (by kernel_rfl) ?_
        refine WO.ld (SA.S sameR sameT _ 11 _ (by kernel_rfl)) 229 (.int .i64 ((gP d.l j).n)) (by kernel_rfl) (same (HVm.at0 hA269 (gP_some d.l j (by have := (rfl : List.length d.l = _); omega)) (by kernel_rfl))) ?_
        refine WO.one (SA.F sameR sameT _ 12 _ (by kernel_rfl)) 230 (.bool (!decide ((g0 (d.l.map fun p => p.n) j : Int) = ((gP d.l j).n)))) (by kernel_rfl) ?_
        refine WO.topNT ((g0 (d.l.map fun p => p.n) j : Int) = ((gP d.l j).n)) (by exact g0_gP _ _ (by omega)) ?_
        refine WO.doneA (by kernel_rfl) ?_
        refine WQ.keep [0, 1, 5, 6, 8, 9, 19, 20, 215, 230] (e' := [(0, .int .i64 room), (1, .slice AL nL cL), (5, .bool true), (6, .pointer (some ⟨g5, 0, none⟩)), (8, .pointer (some ⟨g10, 0, none⟩)), (9, .int .i64 (i : Int)), (19, .slice Ad261 d.l.length cp262), (20, .int .i64 (j : Int)), (215, .bool true), (230, .bool false)]) (by kernel_rfl) ?_
        refine WQ.thenN ?_
        refine WE.condF (by kernel_rfl) ?_
        refine WE.skip ?_
        refine WQ.blkN ?_
        refine WQ.thenN ?_
        refine WE.region ?_
        refine WO.run 1 0 [(216, .int .i64 (j : Int))] (by kernel_rfl) (by kernel_rfl) ?_
        refine WO.one (SQ.F 1 (by kernel_rfl)) 217 (.int .i64 (IntKind.i64.wrap ((j : Int) + 1))) (by kernel_rfl) ?_
        refine WO.top (v' := .int .i64 ((j + 1 : Nat) : Int)) (wrap_i64 (by omega) (by omega)) ?_
        refine WO.run 1 2 [(20, .int .i64 ((j + 1 : Nat) : Int))] (by kernel_rfl) (by kernel_rfl) ?_
        refine WO.done (by kernel_rfl) ?_
        refine WQ.keep [0, 1, 5, 6, 8, 9, 19, 20, 215, 230] (e' := [(0, .int .i64 room), (1, .slice AL nL cL), (5, .bool true), (6, .pointer (some ⟨g5, 0, none⟩)), (8, .pointer (some ⟨g10, 0, none⟩)), (9, .int .i64 (i : Int)), (19, .slice Ad261 d.l.length cp262), (20, .int .i64 ((j + 1 : Nat) : Int)), (215, .bool true), (230, .bool false)]) (by kernel_rfl) ?_
        refine WQ.round ?_
        intro a_ ha_
        refine ⟨j + 1, ?_, ha_.keep [0, 1, 5, 6, 8, 9, 19, 20] (by kernel_rfl), ?_⟩
        · omega
        · exact ⟨by omega, HG, HM, HVl, HVp, HVm, HBm, HA⟩
      intro h263
      refine WO.done (by kernel_rfl) ?_
      refine WQ.keep [0, 1, 5, 6, 8, 9, 19, 20, 215] (e' := [(0, .int .i64 room), (1, .slice AL nL cL), (5, .bool true), (6, .pointer (some ⟨g5, 0, none⟩)), (8, .pointer (some ⟨g10, 0, none⟩)), (9, .int .i64 (i : Int)), (19, .slice Ad261 d.l.length cp262), (20, .int .i64 (j : Int)), (215, .bool false)]) (by kernel_rfl) ?_
      refine WQ.thenN ?_
      refine WE.condF (by kernel_rfl) ?_
      refine WE.exit ?_
      refine WQ.thenE ?_
      refine WQ.thenE ?_
      refine WQ.blkE ?_
      refine WQ.blkN ?_
      refine WQ.thenN ?_
      refine WE.region ?_
      refine WO.run 1 0 [(73, .int .i64 (i : Int))] (by kernel_rfl) (by kernel_rfl) ?_
      refine WO.one (SQ.F 1 (by kernel_rfl)) 74 (.int .i64 (IntKind.i64.wrap ((i : Int) + 1))) (by kernel_rfl) ?_
      refine WO.top (v' := .int .i64 ((i + 1 : Nat) : Int)) (wrap_i64 (by omega) (by omega)) ?_
      refine WO.run 1 2 [(9, .int .i64 ((i + 1 : Nat) : Int))] (by kernel_rfl) (by kernel_rfl) ?_
      refine WO.done (by kernel_rfl) ?_
      refine WQ.keep [0, 1, 5, 6, 8, 9, 19, 20, 215] (e' := [(0, .int .i64 room), (1, .slice AL nL cL), (5, .bool true), (6, .pointer (some ⟨g5, 0, none⟩)), (8, .pointer (some ⟨g10, 0, none⟩)), (9, .int .i64 ((i + 1 : Nat) : Int)), (19, .slice Ad261 d.l.length cp262), (20, .int .i64 (j : Int)), (215, .bool false)]) (by kernel_rfl) ?_
      refine WQ.round ?_
      intro a_ ha_
      refine ⟨(i + 1, d, F, FM), ?_, ha_.keep [0, 1, 5, 6, 8, 9] (by kernel_rfl), ?_⟩
      · show nL - (i + 1) < nL - i; omega
      · exact ⟨by show i + 1 ≤ nL; omega, hok, hdl1, HG, HM, HVl, hgF, hgM, hdj, HA⟩
    intro h232
    refine WO.run 1 1 [(145, .bool false)] (by kernel_rfl) (by kernel_rfl) ?_
    refine WO.done (by kernel_rfl) ?_
    refine WQ.keep [0, 1, 5, 6, 8, 9, 10, 11, 12, 13, 72, 82, 90, 96, 111, 121, 135, 145] (e' := [(0, .int .i64 room), (1, .slice AL nL cL), (5, .bool true), (6, .pointer (some ⟨g5, 0, none⟩)), (8, .pointer (some ⟨g10, 0, none⟩)), (9, .int .i64 (i : Int)), (10, .pointer (some ⟨g18, 0, none⟩)), (11, .slice (some ⟨b32, 0, none⟩) (0 + ((gD q i).b.length)) cap33), (12, .int .i64 0), (13, .nilIface), (72, .bool true), (82, .bool false), (90, .int .i64 v41), (96, .bool false), (111, .bool false), (121, .bool false), (135, .bool false), (145, .bool false)]) (by kernel_rfl) ?_
    refine WQ.thenN ?_
    refine WE.condF (by kernel_rfl) ?_
    refine WE.seq ?_
    refine WE.region ?_
    refine WO.one (SQ.F 0 (by kernel_rfl)) 168 (.bool (decide ((v41 : Int) = 6))) (by kernel_rfl) ?_
    refine WO.topP ((v41 : Int) = 6) ?_ ?_
    · intro h270
      refine WO.run 1 1 [(167, .bool true)] (by kernel_rfl) (by kernel_rfl) ?_
      refine WO.done (by kernel_rfl) ?_
      refine WQ.keep [0, 1, 5, 6, 8, 9, 10, 11, 12, 13, 72, 82, 90, 96, 111, 121, 135, 145, 167] (e' := [(0, .int .i64 room), (1, .slice AL nL cL), (5, .bool true), (6, .pointer (some ⟨g5, 0, none⟩)), (8, .pointer (some ⟨g10, 0, none⟩)), (9, .int .i64 (i : Int)), (10, .pointer (some ⟨g18, 0, none⟩)), (11, .slice (some ⟨b32, 0, none⟩) (0 + ((gD q i).b.length)) cap33), (12, .int .i64 0), (13, .nilIface), (72, .bool true), (82, .bool false), (90, .int .i64 v41), (96, .bool false), (111, .bool false), (121, .bool false), (135, .bool false), (145, .bool false), (167, .bool true)]) (by kernel_rfl) ?_
      refine WQ.thenN ?_
      refine WE.condT (by kernel_rfl) ?_
      refine WE.seq ?_
      refine WE.region ?_
      refine WO.run 2 0 [(170, .pointer (some ⟨g18, 2, none⟩)), (169, .pointer (some ⟨g5, 0, none⟩))] (by kernel_rfl) (by kernel_rfl) ?_
      refine WO.ld (SQ.S 2 (by kernel_rfl)) 171 (.int .i64 ((gD q i).z)) (by kernel_rfl) (same (HB25.at 2 (by kernel_rfl))) ?_
      refine WO.call (SQ.E 3 (by kernel_rfl)) 172 (by kernel_rfl) (gcrash g5 F d (gD q i).z _ HG hok (by omega) hzz) ?_
      rintro _ w271 ⟨rfl, HGn, F272⟩
      refine ⟨_, rfl, trivial, ?_⟩
      have HB25 := Blk.keep HB25 F272 nin_g18_F
      have HR35 := RowB.keep HR35 F272 nin_b32_F
      have HM := MDisk.keep HM F272 (dj_symm hdj)
      have HVl := HVl.keep F272 (dj_symm hdjL)
      have HVi := HVi.keep F272 (dj_symm dji_F)
      have HA := Fr.step HA F272 (inF hgF)
      have HG := HGn
      have okc := crash_ok hok (gD q i).z
      have hdl1 : (crash d (gD q i).z).l.length ≤ i + 1 := by rw [len_crash]; omega
      have hcd : 0 ≤ (0 : Int) ∧ (0 : Int) ≤ 10 := by decide
      refine WO.done (by kernel_rfl) ?_
      refine WQ.keep [0, 1, 5, 6, 8, 9, 10, 11, 12, 13, 72, 82, 90, 96, 111, 121, 135, 145, 167] (e' := [(0, .int .i64 room), (1, .slice AL nL cL), (5, .bool true), (6, .pointer (some ⟨g5, 0, none⟩)), (8, .pointer (some ⟨g10, 0, none⟩)), (9, .int .i64 (i : Int)), (10, .pointer (some ⟨g18, 0, none⟩)), (11, .slice (some ⟨b32, 0, none⟩) (0 + ((gD q i).b.length)) cap33), (12, .int .i64 0), (13, .nilIface), (72, .bool true), (82, .bool false), (90, .int .i64 v41), (96, .bool false), (111, .bool false), (121, .bool false), (135, .bool false), (145, .bool false), (167, .bool true)]) (by kernel_rfl) ?_
      refine WQ.thenN ?_
      refine WE.region ?_
      refine WO.run 2 0 [(174, .pointer (some ⟨g18, 2, none⟩)), (173, .pointer (some ⟨g10, 0, none⟩))] (by kernel_rfl) (by kernel_rfl) ?_
      refine WO.ld (SQ.S 2 (by kernel_rfl)) 175 (.int .i64 ((gD q i).z)) (by kernel_rfl) (same (HB25.at 2 (by kernel_rfl))) ?_
      refine WO.call (SQ.E 3 (by kernel_rfl)) 176 (by kernel_rfl) (mcrash g10 FM d (gD q i).z _ HM hok (by omega) hzz) ?_
      rintro _ w273 ⟨rfl, HMn, F274⟩
      refine ⟨_, rfl, trivial, ?_⟩
      have HB25 := Blk.keep HB25 F274 nin_g18_FM
      have HR35 := RowB.keep HR35 F274 nin_b32_FM
      have HVl := HVl.keep F274 (dj_symm hdjM)
      have HVi := HVi.keep F274 (dj_symm dji_FM)
      have HG := GDisk.keep HG F274 hdj
      have HA := Fr.step HA F274 (inF hgM)
      have HM := HMn
      refine WO.done (by kernel_rfl) ?_
      refine WQ.keep [0, 1, 5, 6, 8, 9, 10, 11, 12, 13, 72, 82, 90, 96, 111, 121, 135, 145, 167] (e' := [(0, .int .i64 room), (1, .slice AL nL cL), (5, .bool true), (6, .pointer (some ⟨g5, 0, none⟩)), (8, .pointer (some ⟨g10, 0, none⟩)), (9, .int .i64 (i : Int)), (10, .pointer (some ⟨g18, 0, none⟩)), (11, .slice (some ⟨b32, 0, none⟩) (0 + ((gD q i).b.length)) cap33), (12, .int .i64 0), (13, .nilIface), (72, .bool true), (82, .bool false), (90, .int .i64 v41), (96, .bool false), (111, .bool false), (121, .bool false), (135, .bool false), (145, .bool false), (167, .bool true)]) (by kernel_rfl) ?_
      refine WQ.blkN ?_
      refine WQ.thenN ?_
      refine WE.seq ?_
      refine WE.seq ?_
      refine WE.region ?_
      refine WO.run 1 0 [(18, .int .i64 0)] (by kernel_rfl) (by kernel_rfl) ?_
      refine WO.done (by kernel_rfl) ?_
      refine WQ.keep [0, 1, 5, 6, 8, 9, 10, 11, 12, 13, 18, 72, 82, 90, 96, 111, 121, 135, 145, 167] (e' := [(0, .int .i64 room), (1, .slice AL nL cL), (5, .bool true), (6, .pointer (some ⟨g5, 0, none⟩)), (8, .pointer (some ⟨g10, 0, none⟩)), (9, .int .i64 (i : Int)), (10, .pointer (some ⟨g18, 0, none⟩)), (11, .slice (some ⟨b32, 0, none⟩) (0 + ((gD q i).b.length)) cap33), (12, .int .i64 0), (13, .nilIface), (18, .int .i64 0), (72, .bool true), (82, .bool false), (90, .int .i64 v41), (96, .bool false), (111, .bool false), (121, .bool false), (135, .bool false), (145, .bool false), (167, .bool true)]) (by kernel_rfl) ?_
      refine WQ.thenN ?_
      refine WE.block ?_
      refine WE.loop (α := Nat × List UInt8) (E := fun ⟨j, z⟩ => [(0, .int .i64 room), (1, .slice AL nL cL), (5, .bool true), (6, .pointer (some ⟨g5, 0, none⟩)), (8, .pointer (some ⟨g10, 0, none⟩)), (9, .int .i64 (i : Int)), (11, .slice (some ⟨b32, 0, none⟩) (0 + ((gD q i).b.length)) cap33), (12, .int .i64 0), (13, .nilIface), (18, .int .i64 (j : Int))]) (I := fun ⟨j, z⟩ wo => j ≤ 0 + ((gD q i).b.length) ∧ z.length = 0 + ((gD q i).b.length) ∧ RowB wo b32 5 1 cap33 (z.map cB) ∧ GDisk wo g5 F (crash d (gD q i).z) ∧ MDisk wo g10 FM (crash d (gD q i).z) ∧ VX cD 4 wo FL AL q ∧ Fr [] w wo) (m := fun ⟨j, z⟩ => (0 + ((gD q i).b.length)) - j) (0, (([] : List UInt8) ++ (gD q i).b)) [0, 1, 5, 6, 8, 9, 11, 12, 13, 18] (by kernel_rfl) ?_ ?_
      · exact ⟨Nat.zero_le _, (show (([] : List UInt8) ++ (gD q i).b).length = 0 + ((gD q i).b.length) by rw [List.length_append, (rfl : List.length ([] : List UInt8) = 0)]; first | rfl | (have := (rfl : List.length ([] : List UInt8) = 0); simp; omega)), HR35, HG, HM, HVl, HA⟩
      rintro ⟨j, z⟩ wo ⟨hj, hz, HRz, HG, HM, HVl, HA⟩
      dsimp only at hj hz HRz ⊢
      refine WE.seq ?_
      refine WE.seq ?_
      refine WE.region ?_
      refine WO.run 3 0 [(179, .int .i64 (0 + ((gD q i).b.length) : Int)), (178, .slice (some ⟨b32, 0, none⟩) (0 + ((gD q i).b.length)) cap33), (177, .int .i64 (j : Int))] (by kernel_rfl) (by kernel_rfl) ?_
      refine WO.one (SQ.F 3 (by kernel_rfl)) 180 (.bool (decide (((j : Int) : Int) < (0 + ((gD q i).b.length) : Int)))) (by kernel_rfl) ?_
      refine WO.topP (((j : Int) : Int) < (0 + ((gD q i).b.length) : Int)) ?_ ?_
      · intro h275
        refine WO.done (by kernel_rfl) ?_
        refine WQ.keep [0, 1, 5, 6, 8, 9, 11, 12, 13, 18, 180] (e' := [(0, .int .i64 room), (1, .slice AL nL cL), (5, .bool true), (6, .pointer (some ⟨g5, 0, none⟩)), (8, .pointer (some ⟨g10, 0, none⟩)), (9, .int .i64 (i : Int)), (11, .slice (some ⟨b32, 0, none⟩) (0 + ((gD q i).b.length)) cap33), (12, .int .i64 0), (13, .nilIface), (18, .int .i64 (j : Int)), (180, .bool true)]) (by kernel_rfl) ?_
        refine WQ.thenN ?_
        refine WE.condT (by kernel_rfl) ?_
        refine WE.skip ?_
        refine WQ.thenN ?_
        refine WE.seq ?_
        refine WE.block ?_
        refine WE.region ?_
        refine WO.run 4 0 [(186, .int .i64 (j : Int)), (185, .slice (some ⟨b32, 0, none⟩) (0 + ((gD q i).b.length)) cap33), (184, .int .i64 (j : Int)), (183, .slice (some ⟨b32, 0, none⟩) (0 + ((gD q i).b.length)) cap33)] (by kernel_rfl) (by kernel_rfl) ?_
        refine WO.ixB (SQ.F 4 (by kernel_rfl)) 187 j b32 0 (0 + ((gD q i).b.length)) 1 (j : Int) (by kernel_rfl) (by omega) (by omega) (by omega) ?_
        refine WO.ld (SQ.S 5 (by kernel_rfl)) 188 (.int .u8 ((gB z j).toNat : Int)) (by kernel_rfl) (same (HRz.at j 0 j _ (by rw [List.length_map]; have := hz; omega) (by omega) (by rw [(map_gB z j (by have := hz; omega))]; rfl) (by omega))) ?_
        refine WO.one (SQ.F 6 (by kernel_rfl)) 189 (.int .u8 (IntKind.u8.wrap (((gB z j).toNat : Int) + 1))) (by kernel_rfl) ?_
        refine WO.top (v' := .int .u8 ((gB z j + 1).toNat : Int)) (congrArg (Value.int .u8) (u8_inc _)) ?_
        refine WO.ixB (SQ.F 7 (by kernel_rfl)) 190 j b32 0 (0 + ((gD q i).b.length)) 1 (j : Int) (by kernel_rfl) (by omega) (by omega) (by omega) ?_
        refine WO.stR (SQ.E 8 (by kernel_rfl)) b32 j j [.int .u8 ((gB z j + 1).toNat : Int)] HRz (by rw [List.length_map]; have := hz; omega) rfl (by omega) rfl (by kernel_rfl) (fun _ _ => trivial) ?_
        intro w276 HR278 F277 _
        have HG := GDisk.keep HG F277 (djB nin_b32_F)
        have HM := MDisk.keep HM F277 (djB nin_b32_FM)
        have HVl := HVl.keep F277 (djB nin_b32_FL)
        have HA := Fr.step HA F277 (inSD in_HA_b32 inS0)
        have HR278 : RowB w276 b32 5 1 cap33 ((z.set j (gB z j + 1)).map cB) := by rw [List.map_set]; exact HR278
        refine WO.done (by kernel_rfl) ?_
        refine WQ.keep [0, 1, 5, 6, 8, 9, 11, 12, 13, 18, 180] (e' := [(0, .int .i64 room), (1, .slice AL nL cL), (5, .bool true), (6, .pointer (some ⟨g5, 0, none⟩)), (8, .pointer (some ⟨g10, 0, none⟩)), (9, .int .i64 (i : Int)), (11, .slice (some ⟨b32, 0, none⟩) (0 + ((gD q i).b.length)) cap33), (12, .int .i64 0), (13, .nilIface), (18, .int .i64 (j : Int)), (180, .bool true)]) (by kernel_rfl) ?_
        refine WQ.blkN ?_
        refine WQ.thenN ?_
        refine WE.region ?_
        refine WO.run 1 0 [(181, .int .i64 (j : Int))] (by kernel_rfl) (by kernel_rfl) ?_
        refine WO.one (SQ.F 1 (by kernel_rfl)) 182 (.int .i64 (IntKind.i64.wrap ((j : Int) + 1))) (by kernel_rfl) ?_
        refine WO.top (v' := .int .i64 ((j + 1 : Nat) : Int)) (wrap_i64 (by omega) (by omega)) ?_
        refine WO.run 1 2 [(18, .int .i64 ((j + 1 : Nat) : Int))] (by kernel_rfl) (by kernel_rfl) ?_
        refine WO.done (by kernel_rfl) ?_
        refine WQ.keep [0, 1, 5, 6, 8, 9, 11, 12, 13, 18, 180] (e' := [(0, .int .i64 room), (1, .slice AL nL cL), (5, .bool true), (6, .pointer (some ⟨g5, 0, none⟩)), (8, .pointer (some ⟨g10, 0, none⟩)), (9, .int .i64 (i : Int)), (11, .slice (some ⟨b32, 0, none⟩) (0 + ((gD q i).b.length)) cap33), (12, .int .i64 0), (13, .nilIface), (18, .int .i64 ((j + 1 : Nat) : Int)), (180, .bool true)]) (by kernel_rfl) ?_
        refine WQ.round ?_
        intro a_ ha_
        refine ⟨(j + 1, z.set j (gB z j + 1)), ?_, ha_.keep [0, 1, 5, 6, 8, 9, 11, 12, 13, 18] (by kernel_rfl), ?_⟩
        · show 0 + ((gD q i).b.length) - (j + 1) < 0 + ((gD q i).b.length) - j; omega
        · exact ⟨by show j + 1 ≤ _; omega, by rw [List.length_set]; exact hz, HR278, HG, HM, HVl, HA⟩
      intro h275
      refine WO.done (by kernel_rfl) ?_
      refine WQ.keep [0, 1, 5, 6, 8, 9, 11, 12, 13, 18, 180] (e' := [(0, .int .i64 room), (1, .slice AL nL cL), (5, .bool true), (6, .pointer (some ⟨g5, 0, none⟩)), (8, .pointer (some ⟨g10, 0, none⟩)), (9, .int .i64 (i : Int)), (11, .slice (some ⟨b32, 0, none⟩) (0 + ((gD q i).b.length)) cap33), (12, .int .i64 0), (13, .nilIface), (18, .int .i64 (j : Int)), (180, .bool false)]) (by kernel_rfl) ?_
      refine WQ.thenN ?_
      refine WE.condF (by kernel_rfl) ?_
      refine WE.exit ?_
      refine WQ.thenE ?_
      refine WQ.thenE ?_
      refine WQ.blkE ?_
      refine WQ.thenN ?_
      refine WE.seq ?_
      refine WE.seq ?_
      refine WE.region ?_
      refine WO.run 1 0 [(191, .nilIface)] (by kernel_rfl) (by kernel_rfl) ?_
      refine WO.call (SQ.E 1 (by kernel_rfl)) 192 (by kernel_rfl) (code_any (0 : Int) hcd _) ?_
      rintro _ w279 ⟨rfl, F280⟩
      refine ⟨_, rfl, trivial, ?_⟩
      have HRz := RowB.keep HRz F280 (nin0 _)
      have HG := GDisk.keep HG F280 (fun _ _ => nin0 _)
      have HM := MDisk.keep HM F280 (fun _ _ => nin0 _)
      have HVl := HVl.keep F280 (fun _ _ => nin0 _)
      have HA := Fr.step0 HA F280
      refine WO.run 4 2 [(196, .pointer (some ⟨g5, 0, none⟩)), (195, .bool false), (194, .bool false), (193, .int .i64 0)] (by kernel_rfl) (by kernel_rfl) ?_
      refine WO.call (SQ.E 6 (by kernel_rfl)) 197 (by kernel_rfl) (gused g5 F (crash d (gD q i).z) _ HG okc) ?_
      rintro _ w281 ⟨rfl, F282⟩
      refine ⟨_, rfl, trivial, ?_⟩
      have HRz := RowB.keep HRz F282 (nin0 _)
      have HG := GDisk.keep HG F282 (fun _ _ => nin0 _)
      have HM := MDisk.keep HM F282 (fun _ _ => nin0 _)
      have HVl := HVl.keep F282 (fun _ _ => nin0 _)
      have HA := Fr.step0 HA F282
      refine WO.run 1 7 [(198, .pointer (some ⟨g10, 0, none⟩))] (by kernel_rfl) (by kernel_rfl) ?_
      refine WO.call (SQ.E 8 (by kernel_rfl)) 199 (by kernel_rfl) (mused g10 FM (crash d (gD q i).z) _ HM okc (by omega)) ?_
      rintro _ w283 ⟨rfl, F284⟩
      refine ⟨_, rfl, trivial, ?_⟩
      have HRz := RowB.keep HRz F284 (nin0 _)
      have HG := GDisk.keep HG F284 (fun _ _ => nin0 _)
      have HM := MDisk.keep HM F284 (fun _ _ => nin0 _)
      have HVl := HVl.keep F284 (fun _ _ => nin0 _)
      have HA := Fr.step0 HA F284
      refine WO.one (SQ.F 9 (by kernel_rfl)) 200 (.bool (!decide (((usedL (crash d (gD q i).z).l : Int) : Int) = (usedL (crash d (gD q i).z).l : Int)))) (by kernel_rfl) ?_
      refine WO.topNT (((usedL (crash d (gD q i).z).l : Int) : Int) = (usedL (crash d (gD q i).z).l : Int)) (by rfl) ?_
      refine WO.run 1 10 [(201, .bool false)] (by kernel_rfl) (by kernel_rfl) ?_
      refine WO.done (by kernel_rfl) ?_
      refine WQ.keep [0, 1, 5, 6, 8, 9, 11, 12, 13, 18, 180, 201] (e' := [(0, .int .i64 room), (1, .slice AL nL cL), (5, .bool true), (6, .pointer (some ⟨g5, 0, none⟩)), (8, .pointer (some ⟨g10, 0, none⟩)), (9, .int .i64 (i : Int)), (11, .slice (some ⟨b32, 0, none⟩) (0 + ((gD q i).b.length)) cap33), (12, .int .i64 0), (13, .nilIface), (18, .int .i64 (j : Int)), (180, .bool false), (201, .bool false)]) (by kernel_rfl) ?_
      refine WQ.thenN ?_
      refine WE.condF (by kernel_rfl) ?_
      refine WE.skip ?_
      refine WQ.thenN ?_
      refine WE.seq ?_
      refine WE.region ?_
      refine WO.run 1 0 [(202, .pointer (some ⟨g5, 0, none⟩))] (by kernel_rfl) (by kernel_rfl) ?_
      refine WO.call (SQ.E 1 (by kernel_rfl)) 203 (by kernel_rfl) (gparts g5 F (crash d (gD q i).z) _ HG okc (by omega)) ?_
      rintro _ w285 ⟨v287, G288, rfl, HO289, F286, ge290⟩
      refine ⟨_, rfl, trivial, ?_⟩
      obtain ⟨Ad291, cp292, rfl⟩ := HO289.sliceN (n := (crash d (gD q i).z).l.length) (by simp)
      have HVp := VX.of_own HO289
      have ge290r := fun y hy => Or.inr (a := y ∈ ([] : List Nat)) (ge290 y hy)
      have hpl : ((crash d (gD q i).z).l.map fun p => p.n).length = (crash d (gD q i).z).l.length := List.length_map _
      have nin_b32_G288 : b32 ∉ G288 := grow_nin ge290r (nin0 _) HRz.lt
      have dj_G288_F : ∀ y ∈ G288, y ∉ F := grow_dj ge290r (by simp) (GDisk.lt HG)
      have dj_G288_FM : ∀ y ∈ G288, y ∉ FM := grow_dj ge290r (by simp) (MDisk.lt HM)
      have dj_G288_FL : ∀ y ∈ G288, y ∉ FL := grow_dj ge290r (by simp) HVl.lt
      have ge_HA_G288 : ∀ y ∈ G288, (World.heap w).size ≤ y := grow_ge ge290r (by simp) HA.size
      have HRz := RowB.keep HRz F286 (nin0 _)
      have HG := GDisk.keep HG F286 (fun _ _ => nin0 _)
      have HM := MDisk.keep HM F286 (fun _ _ => nin0 _)
      have HVl := HVl.keep F286 (fun _ _ => nin0 _)
      have HA := Fr.step0 HA F286
      refine WO.run 1 2 [(19, .slice Ad291 ((crash d (gD q i).z).l.length) cp292)] (by kernel_rfl) (by kernel_rfl) ?_
      refine WO.done (by kernel_rfl) ?_
      refine WQ.keep [0, 1, 5, 6, 8, 9, 11, 12, 13, 18, 19, 180, 201] (e' := [(0, .int .i64 room), (1, .slice AL nL cL), (5, .bool true), (6, .pointer (some ⟨g5, 0, none⟩)), (8, .pointer (some ⟨g10, 0, none⟩)), (9, .int .i64 (i : Int)), (11, .slice (some ⟨b32, 0, none⟩) (0 + ((gD q i).b.length)) cap33), (12, .int .i64 0), (13, .nilIface), (18, .int .i64 (j : Int)), (19, .slice Ad291 ((crash d (gD q i).z).l.length) cp292), (180, .bool false), (201, .bool false)]) (by kernel_rfl) ?_
      refine WQ.thenN ?_
      refine WE.seq ?_
      refine WE.seq ?_
      obtain ⟨AM, cM, GM_, VM⟩ := mview HM
      have HBm := VM.blk
      have HVm := VM.view
      have hgGM := VM.hg
      refine WE.region ?_
      refine WO.run 5 0 [(208, .pointer (some ⟨g10, 1, none⟩)), (207, .pointer (some ⟨g10, 0, none⟩)), (206, .pointer (some ⟨g10, 0, none⟩)), (205, .int .i64 ((crash d (gD q i).z).l.length : Int)), (204, .slice Ad291 ((crash d (gD q i).z).l.length) cp292)] (by kernel_rfl) (by kernel_rfl) ?_
      refine WO.ld (SQ.S 5 (by kernel_rfl)) 209 (.slice AM ((crash d (gD q i).z).l.length) cM) (by kernel_rfl) (same (HBm.at 1 (by kernel_rfl))) ?_
      refine WO.run 1 6 [(210, .int .i64 ((crash d (gD q i).z).l.length : Int))] (by kernel_rfl) (by kernel_rfl) ?_
      refine WO.one (SQ.F 7 (by kernel_rfl)) 211 (.bool (!decide ((((crash d (gD q i).z).l.length : Int) : Int) = ((crash d (gD q i).z).l.length : Int)))) (by kernel_rfl) ?_
      refine WO.topNT ((((crash d (gD q i).z).l.length : Int) : Int) = ((crash d (gD q i).z).l.length : Int)) (by rfl) ?_
      refine WO.done (by kernel_rfl) ?_
      refine WQ.keep [0, 1, 5, 6, 8, 9, 11, 12, 13, 18, 19, 180, 201, 211] (e' := [(0, .int .i64 room), (1, .slice AL nL cL), (5, .bool true), (6, .pointer (some ⟨g5, 0, none⟩)), (8, .pointer (some ⟨g10, 0, none⟩)), (9, .int .i64 (i : Int)), (11, .slice (some ⟨b32, 0, none⟩) (0 + ((gD q i).b.length)) cap33), (12, .int .i64 0), (13, .nilIface), (18, .int .i64 (j : Int)), (19, .slice Ad291 ((crash d (gD q i).z).l.length) cp292), (180, .bool false), (201, .bool false), (211, .bool false)]) (by kernel_rfl) ?_
      refine WQ.thenN ?_
      refine WE.condF (by kernel_rfl) ?_
      refine WE.skip ?_
      refine WQ.thenN ?_
      refine WE.seq ?_
      refine WE.region ?_
      refine WO.run 1 0 [(20, .int .i64 0)] (by kernel_rfl) (by kernel_rfl) ?_
      refine WO.done (by kernel_rfl) ?_
      refine WQ.keep [0, 1, 5, 6, 8, 9, 11, 12, 13, 18, 19, 20, 180, 201, 211] (e' := [(0, .int .i64 room), (1, .slice AL nL cL), (5, .bool true), (6, .pointer (some ⟨g5, 0, none⟩)), (8, .pointer (some ⟨g10, 0, none⟩)), (9, .int .i64 (i : Int)), (11, .slice (some ⟨b32, 0, none⟩) (0 + ((gD q i).b.length)) cap33), (12, .int .i64 0), (13, .nilIface), (18, .int .i64 (j : Int)), (19, .slice Ad291 ((crash d (gD q i).z).l.length) cp292), (20, .int .i64 0), (180, .bool false), (201, .bool false), (211, .bool false)]) (by kernel_rfl) ?_
      refine WQ.thenN ?_
      refine WE.block ?_
      refine WE.loop (α := Nat) (E := fun j => [(0, .int .i64 room), (1, .slice AL nL cL), (5, .bool true), (6, .pointer (some ⟨g5, 0, none⟩)), (8, .pointer (some ⟨g10, 0, none⟩)), (9, .int .i64 (i : Int)), (19, .slice Ad291 ((crash d (gD q i).z).l.length) cp292), (20, .int .i64 (j : Int))]) (I := fun j wo => j ≤ (crash d (gD q i).z).l.length ∧ GDisk wo g5 F (crash d (gD q i).z) ∧ MDisk wo g10 FM (crash d (gD q i).z) ∧ VX cD 4 wo FL AL q ∧ VX cI 1 wo G288 Ad291 ((crash d (gD q i).z).l.map fun p => p.n) ∧ VX cP 3 wo GM_ AM ((crash d (gD q i).z).l) ∧ Blk wo g10 #[.int .i64 (crash d (gD q i).z).room, .slice AM ((crash d (gD q i).z).l.length) cM, .bool (crash d (gD q i).z).down] 40 ∧ Fr [] w wo) (m := fun j => (crash d (gD q i).z).l.length - j) 0 [0, 1, 5, 6, 8, 9, 19, 20] (by kernel_rfl) ?_ ?_
      · exact ⟨Nat.zero_le _, HG, HM, HVl, HVp, HVm, HBm, HA⟩
      rintro j wo ⟨hj, HG, HM, HVl, HVp, HVm, HBm, HA⟩
      refine WE.seq ?_
      refine WE.seq ?_
      refine WE.region ?_
      refine WO.run 3 0 [(214, .int .i64 ((crash d (gD q i).z).l.length : Int)), (213, .slice Ad291 ((crash d (gD q i).z).l.length) cp292), (212, .int .i64 (j : Int))] (by kernel_rfl) (by kernel_rfl) ?_
      refine WO.one (SQ.F 3 (by kernel_rfl)) 215 (.bool (decide (((j : Int) : Int) < ((crash d (gD q i).z).l.length : Int)))) (by kernel_rfl) ?_
      refine WO.topP (((j : Int) : Int) < ((crash d (gD q i).z).l.length : Int)) ?_ ?_
      · intro h293
        refine WO.done (by kernel_rfl) ?_
        refine WQ.keep [0, 1, 5, 6, 8, 9, 19, 20, 215] (e' := [(0, .int .i64 room), (1, .slice AL nL cL), (5, .bool true), (6, .pointer (some ⟨g5, 0, none⟩)), (8, .pointer (some ⟨g10, 0, none⟩)), (9, .int .i64 (i : Int)), (19, .slice Ad291 ((crash d (gD q i).z).l.length) cp292), (20, .int .i64 (j : Int)), (215, .bool true)]) (by kernel_rfl) ?_
        refine WQ.thenN ?_
        refine WE.condT (by kernel_rfl) ?_
        refine WE.skip ?_
        refine WQ.thenN ?_
        refine WE.seq ?_
        refine WE.block ?_
        refine WE.seq ?_
        refine WE.draw [.free, .free, .free, .still, .free, .free, .free, .still, .free, .free, .free, .still, .free] Same sameR (by kernel_rfl) 13 (Array.replicate 13 false) (by kernel_rfl) rfl ?_
        intro w294 F295 _
        have HBm := Blk.keep HBm F295 (nin0 _)
        have HG := GDisk.keep HG F295 (fun _ _ => nin0 _)
        have HM := MDisk.keep HM F295 (fun _ _ => nin0 _)
        have HVl := HVl.keep F295 (fun _ _ => nin0 _)
        have HVp := HVp.keep F295 (fun _ _ => nin0 _)
        have HVm := HVm.keep F295 (fun _ _ => nin0 _)
        have HA := Fr.step0 HA F295
        refine WO.one (SA.F sameR sameT _ 0 _ (by kernel_rfl)) 218 (.slice Ad291 ((crash d (gD q i).z).l.length) cp292) (by kernel_rfl) ?_
        refine WO.one (SA.F sameR sameT _ 1 _ (by kernel_rfl)) 219 (.int .i64 (j : Int)) (by kernel_rfl) ?_
        obtain ⟨ad296, hA297⟩ := HVp.addr (i := j) (by have := hpl; omega)
        refine WO.ixo (SA.F sameR sameT _ 2 _ (by kernel_rfl)) 220 ((crash d (gD q i).z).l.length) 1 j (j : Int) hA297 (by kernel_rfl) rfl (by omega) ?_
        refine WO.ld (SA.S sameR sameT _ 3 _ (by kernel_rfl)) 221 (.int .i64 (g0 ((crash d (gD q i).z).l.map fun p => p.n) j)) (by kernel_rfl) (same (HVp.at0 hA297 (g0_some ((crash d (gD q i).z).l.map fun p => p.n) j (by have := hpl; omega)) (by kernel_rfl))) ?_
        refine WO.one (SA.F sameR sameT _ 4 _ (by kernel_rfl)) 222 (.pointer (some ⟨g10, 0, none⟩)) (by kernel_rfl) ?_
        refine WO.one (SA.F sameR sameT _ 5 _ (by kernel_rfl)) 223 (.pointer (some ⟨g10, 0, none⟩)) (by kernel_rfl) ?_
        refine WO.one (SA.F sameR sameT _ 6 _ (by kernel_rfl)) 224 (.pointer (some ⟨g10, 1, none⟩)) (by kernel_rfl) ?_
        refine WO.ld (SA.S sameR sameT _ 7 _ (by kernel_rfl)) 225 (.slice AM ((crash d (gD q i).z).l.length) cM) (by kernel_rfl) (same (HBm.at 1 (by kernel_rfl))) ?_
        refine WO.one (SA.F sameR sameT _ 8 _ (by kernel_rfl)) 226 (.int .i64 (j : Int)) (by kernel_rfl) ?_
        obtain ⟨ad298, hA299⟩ := HVm.addr (i := j) (by have := (rfl : List.length (crash d (gD q i).z).l = _); omega)
        refine WO.ixo (SA.F sameR sameT _ 9 _ (by kernel_rfl)) 227 ((crash d (gD q i).z).l.length) 3 j (j : Int) hA299 (by kernel_rfl) rfl (by omega) ?_
        refine WO.one (SA.F sameR sameT _ 10 _ (by kernel_rfl)) 228 (.pointer (some (ad298.add (j * 3)))) (by kernel_rfl) ?_
        refine WO.ld (SA.S sameR sameT _ 11 _ (by kernel_rfl)) 229 (.int .i64 ((gP ((crash d (gD q i).z).l) j).n)) (by kernel_rfl) (same (HVm.at0 hA299 (gP_some ((crash d (gD q i).z).l) j (by have := (rfl : List.length (crash d (gD q i).z).l = _); omega)) (by kernel_rfl))) ?_
        refine WO.one (SA.F sameR sameT _ 12 _ (by kernel_rfl)) 230 (.bool (!decide ((g0 ((crash d (gD q i).z).l.map fun p => p.n) j : Int) = ((gP ((crash d (gD q i).z).l) j).n)))) (by kernel_rfl) ?_
        refine WO.topNT ((g0 ((crash d (gD q i).z).l.map fun p => p.n) j : Int) = ((gP ((crash d (gD q i).z).l) j).n)) (by exact g0_gP _ _ (by omega)) ?_
        refine WO.doneA (by kernel_rfl) ?_
        refine WQ.keep [0, 1, 5, 6, 8, 9, 19, 20, 215, 230] (e' := [(0, .int .i64 room), (1, .slice AL nL cL), (5, .bool true), (6, .pointer (some ⟨g5, 0, none⟩)), (8, .pointer (some ⟨g10, 0, none⟩)), (9, .int .i64 (i : Int)), (19, .slice Ad291 ((crash d (gD q i).z).l.length) cp292), (20, .int .i64 (j : Int)), (215, .bool true), (230, .bool false)]) (by kernel_rfl) ?_
        refine WQ.thenN ?_
        refine WE.condF (by kernel_rfl) ?_
        refine WE.skip ?_
        refine WQ.blkN ?_
        refine WQ.thenN ?_
        refine WE.region ?_
        refine WO.run 1 0 [(216, .int .i64 (j : Int))] (by kernel_rfl) (by kernel_rfl) ?_
        refine WO.one (SQ.F 1 (by kernel_rfl)) 217 (.int .i64 (IntKind.i64.wrap ((j : Int) + 1))) (by kernel_rfl) ?_
        refine WO.top (v' := .int .i64 ((j + 1 : Nat) : Int)) (wrap_i64 (by omega) (by omega)) ?_
        refine WO.run 1 2 [(20, .int .i64 ((j + 1 : Nat) : Int))] (by kernel_rfl) (by kernel_rfl) ?_
        refine WO.done (by kernel_rfl) ?_
        refine WQ.keep [0, 1, 5, 6, 8, 9, 19, 20, 215, 230] (e' := [(0, .int .i64 room), (1, .slice AL nL cL), (5, .bool true), (6, .pointer (some ⟨g5, 0, none⟩)), (8, .pointer (some ⟨g10, 0, none⟩)), (9, .int .i64 (i : Int)), (19, .slice Ad291 ((crash d (gD q i).z).l.length) cp292), (20, .int .i64 ((j + 1 : Nat) : Int)), (215, .bool true), (230, .bool false)]) (by kernel_rfl) ?_
        refine WQ.round ?_
        intro a_ ha_
        refine ⟨j + 1, ?_, ha_.keep [0, 1, 5, 6, 8, 9, 19, 20] (by kernel_rfl), ?_⟩
        · omega
        · exact ⟨by omega, HG, HM, HVl, HVp, HVm, HBm, HA⟩
      intro h293
      refine WO.done (by kernel_rfl) ?_
      refine WQ.keep [0, 1, 5, 6, 8, 9, 19, 20, 215] (e' := [(0, .int .i64 room), (1, .slice AL nL cL), (5, .bool true), (6, .pointer (some ⟨g5, 0, none⟩)), (8, .pointer (some ⟨g10, 0, none⟩)), (9, .int .i64 (i : Int)), (19, .slice Ad291 ((crash d (gD q i).z).l.length) cp292), (20, .int .i64 (j : Int)), (215, .bool false)]) (by kernel_rfl) ?_
      refine WQ.thenN ?_
      refine WE.condF (by kernel_rfl) ?_
      refine WE.exit ?_
      refine WQ.thenE ?_
      refine WQ.thenE ?_
      refine WQ.blkE ?_
      refine WQ.blkN ?_
      refine WQ.thenN ?_
      refine WE.region ?_
      refine WO.run 1 0 [(73, .int .i64 (i : Int))] (by kernel_rfl) (by kernel_rfl) ?_
      refine WO.one (SQ.F 1 (by kernel_rfl)) 74 (.int .i64 (IntKind.i64.wrap ((i : Int) + 1))) (by kernel_rfl) ?_
      refine WO.top (v' := .int .i64 ((i + 1 : Nat) : Int)) (wrap_i64 (by omega) (by omega)) ?_
      refine WO.run 1 2 [(9, .int .i64 ((i + 1 : Nat) : Int))] (by kernel_rfl) (by kernel_rfl) ?_
      refine WO.done (by kernel_rfl) ?_
      refine WQ.keep [0, 1, 5, 6, 8, 9, 19, 20, 215] (e' := [(0, .int .i64 room), (1, .slice AL nL cL), (5, .bool true), (6, .pointer (some ⟨g5, 0, none⟩)), (8, .pointer (some ⟨g10, 0, none⟩)), (9, .int .i64 ((i + 1 : Nat) : Int)), (19, .slice Ad291 ((crash d (gD q i).z).l.length) cp292), (20, .int .i64 (j : Int)), (215, .bool false)]) (by kernel_rfl) ?_
      refine WQ.round ?_
      intro a_ ha_
      refine ⟨(i + 1, (crash d (gD q i).z), F, FM), ?_, ha_.keep [0, 1, 5, 6, 8, 9] (by kernel_rfl), ?_⟩
      · show nL - (i + 1) < nL - i; omega
      · exact ⟨by show i + 1 ≤ nL; omega, okc, hdl1, HG, HM, HVl, hgF, hgM, hdj, HA⟩
    intro h270
    refine WO.run 1 1 [(167, .bool false)] (by kernel_rfl) (by kernel_rfl) ?_
    refine WO.done (by kernel_rfl) ?_
    refine WQ.keep [0, 1, 5, 6, 8, 9, 10, 11, 12, 13, 72, 82, 90, 96, 111, 121, 135, 145, 167] (e' := [(0, .int .i64 room), (1, .slice AL nL cL), (5, .bool true), (6, .pointer (some ⟨g5, 0, none⟩)), (8, .pointer (some ⟨g10, 0, none⟩)), (9, .int .i64 (i : Int)), (10, .pointer (some ⟨g18, 0, none⟩)), (11, .slice (some ⟨b32, 0, none⟩) (0 + ((gD q i).b.length)) cap33), (12, .int .i64 0), (13, .nilIface), (72, .bool true), (82, .bool false), (90, .int .i64 v41), (96, .bool false), (111, .bool false), (121, .bool false), (135, .bool false), (145, .bool false), (167, .bool false)]) (by kernel_rfl) ?_
    refine WQ.thenN ?_
    refine WE.condF (by kernel_rfl) ?_
    refine WE.seq ?_
    refine WE.region ?_
    refine WO.run 1 0 [(91, .pointer (some ⟨g5, 0, none⟩))] (by kernel_rfl) (by kernel_rfl) ?_
    refine WO.call (SQ.E 1 (by kernel_rfl)) 92 (by kernel_rfl) (gup g5 F d _ HG) ?_
    rintro _ w300 ⟨rfl, HGn, F301⟩
    refine ⟨_, rfl, trivial, ?_⟩
    have HB25 := Blk.keep HB25 F301 nin_g18_F
    have HR35 := RowB.keep HR35 F301 nin_b32_F
    have HM := MDisk.keep HM F301 (dj_symm hdj)
    have HVl := HVl.keep F301 (dj_symm hdjL)
    have HVi := HVi.keep F301 (dj_symm dji_F)
    have HA := Fr.step HA F301 (inF hgF)
    have HG := HGn
    have oku := up_ok hok
    have hdl1 : (up d).l.length ≤ i + 1 := by show d.l.length ≤ i + 1; omega
    have hcd : 0 ≤ (0 : Int) ∧ (0 : Int) ≤ 10 := by decide
    refine WO.done (by kernel_rfl) ?_
    refine WQ.keep [0, 1, 5, 6, 8, 9, 10, 11, 12, 13, 72, 82, 90, 96, 111, 121, 135, 145, 167] (e' := [(0, .int .i64 room), (1, .slice AL nL cL), (5, .bool true), (6, .pointer (some ⟨g5, 0, none⟩)), (8, .pointer (some ⟨g10, 0, none⟩)), (9, .int .i64 (i : Int)), (10, .pointer (some ⟨g18, 0, none⟩)), (11, .slice (some ⟨b32, 0, none⟩) (0 + ((gD q i).b.length)) cap33), (12, .int .i64 0), (13, .nilIface), (72, .bool true), (82, .bool false), (90, .int .i64 v41), (96, .bool false), (111, .bool false), (121, .bool false), (135, .bool false), (145, .bool false), (167, .bool false)]) (by kernel_rfl) ?_
    refine WQ.thenN ?_
    obtain ⟨vm, Gm, hFM, hgm, HBm, HOm⟩ := HM
    rw [hFM] at hgM hdj hdjM dji_FM nin_g18_FM nin_b32_FM
    have nin_gm_FL : g10 ∉ FL := hdjM _ (by simp)
    have djm_FL : ∀ y ∈ Gm, y ∉ FL := fun y hy => hdjM y (List.mem_cons_of_mem _ hy)
    have nin_gm_Fi : g10 ∉ Fi := dji_FM _ (by simp)
    have djm_Fi : ∀ y ∈ Gm, y ∉ Fi := fun y hy => dji_FM y (List.mem_cons_of_mem _ hy)
    have nin_gm_F : g10 ∉ F := (dj_symm hdj) _ (by simp)
    have djm_F : ∀ y ∈ Gm, y ∉ F := fun y hy => (dj_symm hdj) y (List.mem_cons_of_mem _ hy)
    have ne_gm_g18 : g18 ≠ g10 := fun h_ => nin_g18_FM (by rw [h_]; simp)
    have nin_Gm_g18 : g18 ∉ Gm := fun h_ => nin_g18_FM (List.mem_cons_of_mem _ h_)
    have ne_gm_b32 : b32 ≠ g10 := fun h_ => nin_b32_FM (by rw [h_]; simp)
    have nin_Gm_b32 : b32 ∉ Gm := fun h_ => nin_b32_FM (List.mem_cons_of_mem _ h_)
    have ge_HA_g10 : w.heap.size ≤ g10 := hgM _ (by simp)
    have ge_HA_Gm : ∀ y ∈ Gm, w.heap.size ≤ y := fun y hy => hgM y (List.mem_cons_of_mem _ hy)
    refine WE.region ?_
    refine WO.run 3 0 [(95, .pointer (some ⟨g10, 2, none⟩)), (94, .pointer (some ⟨g10, 0, none⟩)), (93, .pointer (some ⟨g10, 0, none⟩))] (by kernel_rfl) (by kernel_rfl) ?_
    refine WO.st (SQ.E 3 (by kernel_rfl)) g10 2 [.bool false] #[.int .i64 d.room, vm, .bool false] (by kernel_rfl) HBm (by kernel_rfl) (by kernel_rfl) (fun _ _ => trivial) ?_
    intro w302 HB304 F303 _
    have HB25 := Blk.keep HB25 F303 (ninC ne_gm_g18 (nin0 _))
    have HR35 := RowB.keep HR35 F303 (ninC ne_gm_b32 (nin0 _))
    have HVl := HVl.keep F303 (djB nin_gm_FL)
    have HVi := HVi.keep F303 (djB nin_gm_Fi)
    have HG := GDisk.keep HG F303 (djB nin_gm_F)
    have HOm := HOm.keep F303 (djB hgm)
    have HA := Fr.step HA F303 (inSR ge_HA_g10 inS0)
    refine WO.done (by kernel_rfl) ?_
    refine WQ.keep [0, 1, 5, 6, 8, 9, 10, 11, 12, 13, 72, 82, 90, 96, 111, 121, 135, 145, 167] (e' := [(0, .int .i64 room), (1, .slice AL nL cL), (5, .bool true), (6, .pointer (some ⟨g5, 0, none⟩)), (8, .pointer (some ⟨g10, 0, none⟩)), (9, .int .i64 (i : Int)), (10, .pointer (some ⟨g18, 0, none⟩)), (11, .slice (some ⟨b32, 0, none⟩) (0 + ((gD q i).b.length)) cap33), (12, .int .i64 0), (13, .nilIface), (72, .bool true), (82, .bool false), (90, .int .i64 v41), (96, .bool false), (111, .bool false), (121, .bool false), (135, .bool false), (145, .bool false), (167, .bool false)]) (by kernel_rfl) ?_
    refine WQ.blkN ?_
    refine WQ.thenN ?_
    refine WE.seq ?_
    refine WE.seq ?_
    have HM : MDisk w302 g10 FM (up d) := ⟨vm, Gm, hFM, hgm, HB304, HOm⟩
    rw [← hFM] at hgM hdj hdjM dji_FM nin_g18_FM nin_b32_FM
    refine WE.region ?_
    refine WO.run 1 0 [(18, .int .i64 0)] (by kernel_rfl) (by kernel_rfl) ?_
    refine WO.done (by kernel_rfl) ?_
    refine WQ.keep [0, 1, 5, 6, 8, 9, 10, 11, 12, 13, 18, 72, 82, 90, 96, 111, 121, 135, 145, 167] (e' := [(0, .int .i64 room), (1, .slice AL nL cL), (5, .bool true), (6, .pointer (some ⟨g5, 0, none⟩)), (8, .pointer (some ⟨g10, 0, none⟩)), (9, .int .i64 (i : Int)), (10, .pointer (some ⟨g18, 0, none⟩)), (11, .slice (some ⟨b32, 0, none⟩) (0 + ((gD q i).b.length)) cap33), (12, .int .i64 0), (13, .nilIface), (18, .int .i64 0), (72, .bool true), (82, .bool false), (90, .int .i64 v41), (96, .bool false), (111, .bool false), (121, .bool false), (135, .bool false), (145, .bool false), (167, .bool false)]) (by kernel_rfl) ?_
    refine WQ.thenN ?_
    refine WE.block ?_
    refine WE.loop (α := Nat × List UInt8) (E := fun ⟨j, z⟩ => [(0, .int .i64 room), (1, .slice AL nL cL), (5, .bool true), (6, .pointer (some ⟨g5, 0, none⟩)), (8, .pointer (some ⟨g10, 0, none⟩)), (9, .int .i64 (i : Int)), (11, .slice (some ⟨b32, 0, none⟩) (0 + ((gD q i).b.length)) cap33), (12, .int .i64 0), (13, .nilIface), (18, .int .i64 (j : Int))]) (I := fun ⟨j, z⟩ wo => j ≤ 0 + ((gD q i).b.length) ∧ z.length = 0 + ((gD q i).b.length) ∧ RowB wo b32 5 1 cap33 (z.map cB) ∧ GDisk wo g5 F (up d) ∧ MDisk wo g10 FM (up d) ∧ VX cD 4 wo FL AL q ∧ Fr [] w wo) (m := fun ⟨j, z⟩ => (0 + ((gD q i).b.length)) - j) (0, (([] : List UInt8) ++ (gD q i).b)) [0, 1, 5, 6, 8, 9, 11, 12, 13, 18] (by kernel_rfl) ?_ ?_
    · exact ⟨Nat.zero_le _, (show (([] : List UInt8) ++ (gD q i).b).length = 0 + ((gD q i).b.length) by rw [List.length_append, (rfl : List.length ([] : List UInt8) = 0)]; first | rfl | (have := (rfl : List.length ([] : List UInt8) = 0); simp; omega)), HR35, HG, HM, HVl, HA⟩
    rintro ⟨j, z⟩ wo ⟨hj, hz, HRz, HG, HM, HVl, HA⟩
    dsimp only at hj hz HRz ⊢
    refine WE.seq ?_
    refine WE.seq ?_
    refine WE.region ?_
    refine WO.run 3 0 [(179, .int .i64 (0 + ((gD q i).b.length) : Int)), (178, .slice (some ⟨b32, 0, none⟩) (0 + ((gD q i).b.length)) cap33), (177, .int .i64 (j : Int))] (by kernel_rfl) (by kernel_rfl) ?_
    refine WO.one (SQ.F 3 (by kernel_rfl)) 180 (.bool (decide (((j : Int) : Int) < (0 + ((gD q i).b.length) : Int)))) (by kernel_rfl) ?_
    refine WO.topP (((j : Int) : Int) < (0 + ((gD q i).b.length) : Int)) ?_ ?_
    · intro h305
      refine WO.done (by kernel_rfl) ?_
      refine WQ.keep [0, 1, 5, 6, 8, 9, 11, 12, 13, 18, 180] (e' := [(0, .int .i64 room), (1, .slice AL nL cL), (5, .bool true), (6, .pointer (some ⟨g5, 0, none⟩)), (8, .pointer (some ⟨g10, 0, none⟩)), (9, .int .i64 (i : Int)), (11, .slice (some ⟨b32, 0, none⟩) (0 + ((gD q i).b.length)) cap33), (12, .int .i64 0), (13, .nilIface), (18, .int .i64 (j : Int)), (180, .bool true)]) (by kernel_rfl) ?_
      refine WQ.thenN ?_
      refine WE.condT (by kernel_rfl) ?_
      refine WE.skip ?_
      refine WQ.thenN ?_
      refine WE.seq ?_
      refine WE.block ?_
      refine WE.region ?_
      refine WO.run 4 0 [(186, .int .i64 (j : Int)), (185, .slice (some ⟨b32, 0, none⟩) (0 + ((gD q i).b.length)) cap33), (184, .int .i64 (j : Int)), (183, .slice (some ⟨b32, 0, none⟩) (0 + ((gD q i).b.length)) cap33)] (by kernel_rfl) (by kernel_rfl) ?_
      refine WO.ixB (SQ.F 4 (by kernel_rfl)) 187 j b32 0 (0 + ((gD q i).b.length)) 1 (j : Int) (by kernel_rfl) (by omega) (by omega) (by omega) ?_
      refine WO.ld (SQ.S 5 (by kernel_rfl)) 188 (.int .u8 ((gB z j).toNat : Int)) (by kernel_rfl) (same (HRz.at j 0 j _ (by rw [List.length_map]; have := hz; omega) (by omega) (by rw [(map_gB z j (by have := hz; omega))]; rfl) (by omega))) ?_
      refine WO.one (SQ.F 6 (by kernel_rfl)) 189 (.int .u8 (IntKind.u8.wrap (((gB z j).toNat : Int) + 1))) (by kernel_rfl) ?_
      refine WO.top (v' := .int .u8 ((gB z j + 1).toNat : Int)) (congrArg (Value.int .u8) (u8_inc _)) ?_
      refine WO.ixB (SQ.F 7 (by kernel_rfl)) 190 j b32 0 (0 + ((gD q i).b.length)) 1 (j : Int) (by kernel_rfl) (by omega) (by omega) (by omega) ?_
      refine WO.stR (SQ.E 8 (by kernel_rfl)) b32 j j [.int .u8 ((gB z j + 1).toNat : Int)] HRz (by rw [List.length_map]; have := hz; omega) rfl (by omega) rfl (by kernel_rfl) (fun _ _ => trivial) ?_
      intro w306 HR308 F307 _
      have HG := GDisk.keep HG F307 (djB nin_b32_F)
      have HM := MDisk.keep HM F307 (djB nin_b32_FM)
      have HVl := HVl.keep F307 (djB nin_b32_FL)
      have HA := Fr.step HA F307 (inSD in_HA_b32 inS0)
      have HR308 : RowB w306 b32 5 1 cap33 ((z.set j (gB z j + 1)).map cB) := by rw [List.map_set]; exact HR308
      refine WO.done (by kernel_rfl) ?_
      refine WQ.keep [0, 1, 5, 6, 8, 9, 11, 12, 13, 18, 180] (e' := [(0, .int .i64 room), (1, .slice AL nL cL), (5, .bool true), (6, .pointer (some ⟨g5, 0, none⟩)), (8, .pointer (some ⟨g10, 0, none⟩)), (9, .int .i64 (i : Int)), (11, .slice (some ⟨b32, 0, none⟩) (0 + ((gD q i).b.length)) cap33), (12, .int .i64 0), (13, .nilIface), (18, .int .i64 (j : Int)), (180, .bool true)]) (by kernel_rfl) ?_
      refine WQ.blkN ?_
      refine WQ.thenN ?_
      refine WE.region ?_
      refine WO.run 1 0 [(181, .int .i64 (j : Int))] (by kernel_rfl) (by kernel_rfl) ?_
      refine WO.one (SQ.F 1 (by kernel_rfl)) 182 (.int .i64 (IntKind.i64.wrap ((j : Int) + 1))) (by kernel_rfl) ?_
      refine WO.top (v' := .int .i64 ((j + 1 : Nat) : Int)) (wrap_i64 (by omega) (by omega)) ?_
      refine WO.run 1 2 [(18, .int .i64 ((j + 1 : Nat) : Int))] (by kernel_rfl) (by kernel_rfl) ?_
      refine WO.done (by kernel_rfl) ?_
      refine WQ.keep [0, 1, 5, 6, 8, 9, 11, 12, 13, 18, 180] (e' := [(0, .int .i64 room), (1, .slice AL nL cL), (5, .bool true), (6, .pointer (some ⟨g5, 0, none⟩)), (8, .pointer (some ⟨g10, 0, none⟩)), (9, .int .i64 (i : Int)), (11, .slice (some ⟨b32, 0, none⟩) (0 + ((gD q i).b.length)) cap33), (12, .int .i64 0), (13, .nilIface), (18, .int .i64 ((j + 1 : Nat) : Int)), (180, .bool true)]) (by kernel_rfl) ?_
      refine WQ.round ?_
      intro a_ ha_
      refine ⟨(j + 1, z.set j (gB z j + 1)), ?_, ha_.keep [0, 1, 5, 6, 8, 9, 11, 12, 13, 18] (by kernel_rfl), ?_⟩
      · show 0 + ((gD q i).b.length) - (j + 1) < 0 + ((gD q i).b.length) - j; omega
      · exact ⟨by show j + 1 ≤ _; omega, by rw [List.length_set]; exact hz, HR308, HG, HM, HVl, HA⟩
    intro h305
    refine WO.done (by kernel_rfl) ?_
    refine WQ.keep [0, 1, 5, 6, 8, 9, 11, 12, 13, 18, 180] (e' := [(0, .int .i64 room), (1, .slice AL nL cL), (5, .bool true), (6, .pointer (some ⟨g5, 0, none⟩)), (8, .pointer (some ⟨g10, 0, none⟩)), (9, .int .i64 (i : Int)), (11, .slice (some ⟨b32, 0, none⟩) (0 + ((gD q i).b.length)) cap33), (12, .int .i64 0), (13, .nilIface), (18, .int .i64 (j : Int)), (180, .bool false)]) (by kernel_rfl) ?_
    refine WQ.thenN ?_
    refine WE.condF (by kernel_rfl) ?_
    refine WE.exit ?_
    refine WQ.thenE ?_
    refine WQ.thenE ?_
    refine WQ.blkE ?_
    refine WQ.thenN ?_
    refine WE.seq ?_
    refine WE.seq ?_
    refine WE.region ?_
    refine WO.run 1 0 [(191, .nilIface)] (by kernel_rfl) (by kernel_rfl) ?_
    refine WO.call (SQ.E 1 (by kernel_rfl)) 192 (by kernel_rfl) (code_any (0 : Int) hcd _) ?_
    rintro _ w309 ⟨rfl, F310⟩
    refine ⟨_, rfl, trivial, ?_⟩
    have HRz := RowB.keep HRz F310 (nin0 _)
    have HG := GDisk.keep HG F310 (fun _ _ => nin0 _)
    have HM := MDisk.keep HM F310 (fun _ _ => nin0 _)
    have HVl := HVl.keep F310 (fun _ _ => nin0 _)
    have HA := Fr.step0 HA F310
    refine WO.run 4 2 [(196, .pointer (some ⟨g5, 0, none⟩)), (195, .bool false), (194, .bool false), (193, .int .i64 0)] (by kernel_rfl) (by kernel_rfl) ?_
    refine WO.call (SQ.E 6 (by kernel_rfl)) 197 (by kernel_rfl) (gused g5 F (up d) _ HG oku) ?_
    rintro _ w311 ⟨rfl, F312⟩
    refine ⟨_, rfl, trivial, ?_⟩
    have HRz := RowB.keep HRz F312 (nin0 _)
    have HG := GDisk.keep HG F312 (fun _ _ => nin0 _)
    have HM := MDisk.keep HM F312 (fun _ _ => nin0 _)
    have HVl := HVl.keep F312 (fun _ _ => nin0 _)
    have HA := Fr.step0 HA F312
    refine WO.run 1 7 [(198, .pointer (some ⟨g10, 0, none⟩))] (by kernel_rfl) (by kernel_rfl) ?_
    refine WO.call (SQ.E 8 (by kernel_rfl)) 199 (by kernel_rfl) (mused g10 FM (up d) _ HM oku (by omega)) ?_
    rintro _ w313 ⟨rfl, F314⟩
    refine ⟨_, rfl, trivial, ?_⟩
    have HRz := RowB.keep HRz F314 (nin0 _)
    have HG := GDisk.keep HG F314 (fun _ _ => nin0 _)
    have HM := MDisk.keep HM F314 (fun _ _ => nin0 _)
    have HVl := HVl.keep F314 (fun _ _ => nin0 _)
    have HA := Fr.step0 HA F314
    refine WO.one (SQ.F 9 (by kernel_rfl)) 200 (.bool (!decide (((usedL (up d).l : Int) : Int) = (usedL (up d).l : Int)))) (by kernel_rfl) ?_
    refine WO.topNT (((usedL (up d).l : Int) : Int) = (usedL (up d).l : Int)) (by rfl) ?_
    refine WO.run 1 10 [(201, .bool false)] (by kernel_rfl) (by kernel_rfl) ?_
    refine WO.done (by kernel_rfl) ?_
    refine WQ.keep [0, 1, 5, 6, 8, 9, 11, 12, 13, 18, 180, 201] (e' := [(0, .int .i64 room), (1, .slice AL nL cL), (5, .bool true), (6, .pointer (some ⟨g5, 0, none⟩)), (8, .pointer (some ⟨g10, 0, none⟩)), (9, .int .i64 (i : Int)), (11, .slice (some ⟨b32, 0, none⟩) (0 + ((gD q i).b.length)) cap33), (12, .int .i64 0), (13, .nilIface), (18, .int .i64 (j : Int)), (180, .bool false), (201, .bool false)]) (by kernel_rfl) ?_
    refine WQ.thenN ?_
    refine WE.condF (by kernel_rfl) ?_
    refine WE.skip ?_
    refine WQ.thenN ?_
    refine WE.seq ?_
    refine WE.region ?_
    refine WO.run 1 0 [(202, .pointer (some ⟨g5, 0, none⟩))] (by kernel_rfl) (by kernel_rfl) ?_
    refine WO.call (SQ.E 1 (by kernel_rfl)) 203 (by kernel_rfl) (gparts g5 F (up d) _ HG oku (by omega)) ?_
    rintro _ w315 ⟨v317, G318, rfl, HO319, F316, ge320⟩
    refine ⟨_, rfl, trivial, ?_⟩
    obtain ⟨Ad321, cp322, rfl⟩ := HO319.sliceN (n := (up d).l.length) (by simp)
    have HVp := VX.of_own HO319
    have ge320r := fun y hy => Or.inr (a := y ∈ ([] : List Nat)) (ge320 y hy)
    have hpl : ((up d).l.map fun p => p.n).length = (up d).l.length := List.length_map _
    have nin_b32_G318 : b32 ∉ G318 := grow_nin ge320r (nin0 _) HRz.lt
    have dj_G318_F : ∀ y ∈ G318, y ∉ F := grow_dj ge320r (by simp) (GDisk.lt HG)
    have dj_G318_FM : ∀ y ∈ G318, y ∉ FM := grow_dj ge320r (by simp) (MDisk.lt HM)
    have dj_G318_FL : ∀ y ∈ G318, y ∉ FL := grow_dj ge320r (by simp) HVl.lt
    have ge_HA_G318 : ∀ y ∈ G318, (World.heap w).size ≤ y := grow_ge ge320r (by simp) HA.size
    have HRz := RowB.keep HRz F316 (nin0 _)
    have HG := GDisk.keep HG F316 (fun _ _ => nin0 _)
    have HM := MDisk.keep HM F316 (fun _ _ => nin0 _)
    have HVl := HVl.keep F316 (fun _ _ => nin0 _)
    have HA := Fr.step0 HA F316
    refine WO.run 1 2 [(19, .slice Ad321 ((up d).l.length) cp322)] (by kernel_rfl) (by kernel_rfl) ?_
    refine WO.done (by kernel_rfl) ?_
    refine WQ.keep [0, 1, 5, 6, 8, 9, 11, 12, 13, 18, 19, 180, 201] (e' := [(0, .int .i64 room), (1, .slice AL nL cL), (5, .bool true), (6, .pointer (some ⟨g5, 0, none⟩)), (8, .pointer (some ⟨g10, 0, none⟩)), (9, .int .i64 (i : Int)), (11, .slice (some ⟨b32, 0, none⟩) (0 + ((gD q i).b.length)) cap33), (12, .int .i64 0), (13, .nilIface), (18, .int .i64 (j : Int)), (19, .slice Ad321 ((up d).l.length) cp322), (180, .bool false), (201, .bool false)]) (by kernel_rfl) ?_
    refine WQ.thenN ?_
    refine WE.seq ?_
    refine WE.seq ?_
    obtain ⟨AM, cM, GM_, VM⟩ := mview HM
    have HBm := VM.blk
    have HVm := VM.view
    have hgGM := VM.hg
    refine WE.region ?_
    refine WO.run 5 0 [(208, .pointer (some ⟨g10, 1, none⟩)), (207, .pointer (some ⟨g10, 0, none⟩)), (206, .pointer (some ⟨g10, 0, none⟩)), (205, .int .i64 ((up d).l.length : Int)), (204, .slice Ad321 ((up d).l.length) cp322)] (by kernel_rfl) (by kernel_rfl) ?_
    refine WO.ld (SQ.S 5 (by kernel_rfl)) 209 (.slice AM ((up d).l.length) cM) (by kernel_rfl) (same (HBm.at 1 (by kernel_rfl))) ?_
    refine WO.run 1 6 [(210, .int .i64 ((up d).l.length : Int))] (by kernel_rfl) (by kernel_rfl) ?_
    refine WO.one (SQ.F 7 (by kernel_rfl)) 211 (.bool (!decide ((((up d).l.length : Int) : Int) = ((up d).l.length : Int)))) (by kernel_rfl) ?_
    refine WO.topNT ((((up d).l.length : Int) : Int) = ((up d).l.length : Int)) (by rfl) ?_
    refine WO.done (by kernel_rfl) ?_
    refine WQ.keep [0, 1, 5, 6, 8, 9, 11, 12, 13, 18, 19, 180, 201, 211] (e' := [(0, .int .i64 room), (1, .slice AL nL cL), (5, .bool true), (6, .pointer (some ⟨g5, 0, none⟩)), (8, .pointer (some ⟨g10, 0, none⟩)), (9, .int .i64 (i : Int)), (11, .slice (some ⟨b32, 0, none⟩) (0 + ((gD q i).b.length)) cap33), (12, .int .i64 0), (13, .nilIface), (18, .int .i64 (j : Int)), (19, .slice Ad321 ((up d).l.length) cp322), (180, .bool false), (201, .bool false), (211, .bool false)]) (by kernel_rfl) ?_
    refine WQ.thenN ?_
    refine WE.condF (by kernel_rfl) ?_
    refine WE.skip ?_
    refine WQ.thenN ?_
    refine WE.seq ?_
    refine WE.region ?_
    refine WO.run 1 0 [(20, .int .i64 0)] (by kernel_rfl) (by kernel_rfl) ?_
    refine WO.done (by kernel_rfl) ?_
    refine WQ.keep [0, 1, 5, 6, 8, 9, 11, 12, 13, 18, 19, 20, 180, 201, 211] (e' := [(0, .int .i64 room), (1, .slice AL nL cL), (5, .bool true), (6, .pointer (some ⟨g5, 0, none⟩)), (8, .pointer (some ⟨g10, 0, none⟩)), (9, .int .i64 (i : Int)), (11, .slice (some ⟨b32, 0, none⟩) (0 + ((gD q i).b.length)) cap33), (12, .int .i64 0), (13, .nilIface), (18, .int .i64 (j : Int)), (19, .slice Ad321 ((up d).l.length) cp322), (20, .int .i64 0), (180, .bool false), (201, .bool false), (211, .bool false)]) (by kernel_rfl) ?_
    refine WQ.thenN ?_
    refine WE.block ?_
    refine WE.loop (α := Nat) (E := fun j => [(0, .int .i64 room), (1, .slice AL nL cL), (5, .bool true), (6, .pointer (some ⟨g5, 0, none⟩)), (8, .pointer (some ⟨g10, 0, none⟩)), (9, .int .i64 (i : Int)), (19, .slice Ad321 ((up d).l.length) cp322), (20, .int .i64 (j : Int))]) (I := fun j wo => j ≤ (up d).l.length ∧ GDisk wo g5 F (up d) ∧ MDisk wo g10 FM (up d) ∧ VX cD 4 wo FL AL q ∧ VX cI 1 wo G318 Ad321 ((up d).l.map fun p => p.n) ∧ VX cP 3 wo GM_ AM ((up d).l) ∧ Blk wo g10 #[.int .i64 (up d).room, .slice AM ((up d).l.length) cM, .bool (up d).down] 40 ∧ Fr [] w wo) (m := fun j => (up d).l.length - j) 0 [0, 1, 5, 6, 8, 9, 19, 20] (by kernel_rfl) ?_ ?_
    · exact ⟨Nat.zero_le _, HG, HM, HVl, HVp, HVm, HBm, HA⟩
    rintro j wo ⟨hj, HG, HM, HVl, HVp, HVm, HBm, HA⟩
    refine WE.seq ?_
    refine WE.seq ?_
    refine WE.region ?_
    refine WO.run 3 0 [(214, .int .i64 ((up d).l.length : Int)), (213, .slice Ad321 ((up d).l.length) cp322), (212, .int .i64 (j : Int))] (by kernel_rfl) (by kernel_rfl) ?_
    refine WO.one (SQ.F 3 (by kernel_rfl)) 215 (.bool (decide (((j : Int) : Int) < ((up d).l.length : Int)))) (by kernel_rfl) ?_
    refine WO.topP (((j : Int) : Int) < ((up d).l.length : Int)) ?_ ?_
    · intro h323
      refine WO.done (by kernel_rfl) ?_
      refine WQ.keep [0, 1, 5, 6, 8, 9, 19, 20, 215] (e' := [(0, .int .i64 room), (1, .slice AL nL cL), (5, .bool true), (6, .pointer (some ⟨g5, 0, none⟩)), (8, .pointer (some ⟨g10, 0, none⟩)), (9, .int .i64 (i : Int)), (19, .slice Ad321 ((up d).l.length) cp322), (20, .int .i64 (j : Int)), (215, .bool true)]) (by kernel_rfl) ?_
      refine WQ.thenN ?_
      refine WE.condT (by kernel_rfl) ?_
      refine WE.skip ?_
      refine WQ.thenN ?_
      refine WE.seq ?_
      refine WE.block ?_
      refine WE.seq ?_
      refine WE.draw [.free, .free, .free, .still, .free, .free, .free, .still, .free, .free, .free, .still, .free] Same sameR (by kernel_rfl) 13 (Array.replicate 13 false) (by kernel_rfl) rfl ?_
      intro w324 F325 _
      have HBm := Blk.keep HBm F325 (nin0 _)
      have HG := GDisk.keep HG F325 (fun _ _ => nin0 _)
      have HM := MDisk.keep HM F325 (fun _ _ => nin0 _)
      have HVl := HVl.keep F325 (fun _ _ => nin0 _)
      have HVp := HVp.keep F325 (fun _ _ => nin0 _)
      have HVm := HVm.keep F325 (fun _ _ => nin0 _)
      have HA := Fr.step0 HA F325
      refine WO.one (SA.F sameR sameT _ 0 _ (by kernel_rfl)) 218 (.slice Ad321 ((up d).l.length) cp322) (by kernel_rfl) ?_
      refine WO.one (SA.F sameR sameT _ 1 _ (by kernel_rfl)) 219 (.int .i64 (j : Int)) (by kernel_rfl) ?_
      obtain ⟨ad326, hA327⟩ := HVp.addr (i := j) (by have := hpl; omega)
      refine WO.ixo (SA.F sameR sameT _ 2 _ (by kernel_rfl)) 220 ((up d).l.length) 1 j (j : Int) hA327 (by kernel_rfl) rfl (by omega) ?_
      refine WO.ld (SA.S sameR sameT _ 3 _ (by kernel_rfl)) 221 (.int .i64 (g0 ((up d).l.map fun p => p.n) j)) (by kernel_rfl) (same (HVp.at0 hA327 (g0_some ((up d).l.map fun p => p.n) j (by have := hpl; omega)) (by kernel_rfl))) ?_
      refine WO.one (SA.F sameR sameT _ 4 _ (by kernel_rfl)) 222 (.pointer (some ⟨g10, 0, none⟩)) (by kernel_rfl) ?_
      refine WO.one (SA.F sameR sameT _ 5 _ (by kernel_rfl)) 223 (.pointer (some ⟨g10, 0, none⟩)) (by kernel_rfl) ?_
      refine WO.one (SA.F sameR sameT _ 6 _ (by kernel_rfl)) 224 (.pointer (some ⟨g10, 1, none⟩)) (by kernel_rfl) ?_
      refine WO.ld (SA.S sameR sameT _ 7 _ (by kernel_rfl)) 225 (.slice AM ((up d).l.length) cM) (by kernel_rfl) (same (HBm.at 1 (by kernel_rfl))) ?_
      refine WO.one (SA.F sameR sameT _ 8 _ (by kernel_rfl)) 226 (.int .i64 (j : Int)) (by kernel_rfl) ?_
      obtain ⟨ad328, hA329⟩ := HVm.addr (i := j) (by have := (rfl : List.length (up d).l = _); omega)
      refine WO.ixo (SA.F sameR sameT _ 9 _ (by kernel_rfl)) 227 ((up d).l.length) 3 j (j : Int) hA329 (by kernel_rfl) rfl (by omega) ?_
      refine WO.one (SA.F sameR sameT _ 10 _ (by kernel_rfl)) 228 (.pointer (some (ad328.add (j * 3)))) (by kernel_rfl) ?_
      refine WO.ld (SA.S sameR sameT _ 11 _ (by kernel_rfl)) 229 (.int .i64 ((gP ((up d).l) j).n)) (by kernel_rfl) (same (HVm.at0 hA329 (gP_some ((up d).l) j (by have := (rfl : List.length (up d).l = _); omega)) (by kernel_rfl))) ?_
      refine WO.one (SA.F sameR sameT _ 12 _ (by kernel_rfl)) 230 (.bool (!decide ((g0 ((up d).l.map fun p => p.n) j : Int) = ((gP ((up d).l) j).n)))) (by kernel_rfl) ?_
      refine WO.topNT ((g0 ((up d).l.map fun p => p.n) j : Int) = ((gP ((up d).l) j).n)) (by exact g0_gP _ _ (by omega)) ?_
      refine WO.doneA (by kernel_rfl) ?_
      refine WQ.keep [0, 1, 5, 6, 8, 9, 19, 20, 215, 230] (e' := [(0, .int .i64 room), (1, .slice AL nL cL), (5, .bool true), (6, .pointer (some ⟨g5, 0, none⟩)), (8, .pointer (some ⟨g10, 0, none⟩)), (9, .int .i64 (i : Int)), (19, .slice Ad321 ((up d).l.length) cp322), (20, .int .i64 (j : Int)), (215, .bool true), (230, .bool false)]) (by kernel_rfl) ?_
      refine WQ.thenN ?_
      refine WE.condF (by kernel_rfl) ?_
      refine WE.skip ?_
      refine WQ.blkN ?_
      refine WQ.thenN ?_
      refine WE.region ?_
      refine WO.run 1 0 [(216, .int .i64 (j : Int))] (by kernel_rfl) (by kernel_rfl) ?_
      refine WO.one (SQ.F 1 (by kernel_rfl)) 217 (.int .i64 (IntKind.i64.wrap ((j : Int) + 1))) (by kernel_rfl) ?_
      refine WO.top (v' := .int .i64 ((j + 1 : Nat) : Int)) (wrap_i64 (by omega) (by omega)) ?_
      refine WO.run 1 2 [(20, .int .i64 ((j + 1 : Nat) : Int))] (by kernel_rfl) (by kernel_rfl) ?_
      refine WO.done (by kernel_rfl) ?_
      refine WQ.keep [0, 1, 5, 6, 8, 9, 19, 20, 215, 230] (e' := [(0, .int .i64 room), (1, .slice AL nL cL), (5, .bool true), (6, .pointer (some ⟨g5, 0, none⟩)), (8, .pointer (some ⟨g10, 0, none⟩)), (9, .int .i64 (i : Int)), (19, .slice Ad321 ((up d).l.length) cp322), (20, .int .i64 ((j + 1 : Nat) : Int)), (215, .bool true), (230, .bool false)]) (by kernel_rfl) ?_
      refine WQ.round ?_
      intro a_ ha_
      refine ⟨j + 1, ?_, ha_.keep [0, 1, 5, 6, 8, 9, 19, 20] (by kernel_rfl), ?_⟩
      · omega
      · exact ⟨by omega, HG, HM, HVl, HVp, HVm, HBm, HA⟩
    intro h323
    refine WO.done (by kernel_rfl) ?_
    refine WQ.keep [0, 1, 5, 6, 8, 9, 19, 20, 215] (e' := [(0, .int .i64 room), (1, .slice AL nL cL), (5, .bool true), (6, .pointer (some ⟨g5, 0, none⟩)), (8, .pointer (some ⟨g10, 0, none⟩)), (9, .int .i64 (i : Int)), (19, .slice Ad321 ((up d).l.length) cp322), (20, .int .i64 (j : Int)), (215, .bool false)]) (by kernel_rfl) ?_
    refine WQ.thenN ?_
    refine WE.condF (by kernel_rfl) ?_
    refine WE.exit ?_
    refine WQ.thenE ?_
    refine WQ.thenE ?_
    refine WQ.blkE ?_
    refine WQ.blkN ?_
    refine WQ.thenN ?_
    refine WE.region ?_
    refine WO.run 1 0 [(73, .int .i64 (i : Int))] (by kernel_rfl) (by kernel_rfl) ?_
    refine WO.one (SQ.F 1 (by kernel_rfl)) 74 (.int .i64 (IntKind.i64.wrap ((i : Int) + 1))) (by kernel_rfl) ?_
    refine WO.top (v' := .int .i64 ((i + 1 : Nat) : Int)) (wrap_i64 (by omega) (by omega)) ?_
    refine WO.run 1 2 [(9, .int .i64 ((i + 1 : Nat) : Int))] (by kernel_rfl) (by kernel_rfl) ?_
    refine WO.done (by kernel_rfl) ?_
    refine WQ.keep [0, 1, 5, 6, 8, 9, 19, 20, 215] (e' := [(0, .int .i64 room), (1, .slice AL nL cL), (5, .bool true), (6, .pointer (some ⟨g5, 0, none⟩)), (8, .pointer (some ⟨g10, 0, none⟩)), (9, .int .i64 ((i + 1 : Nat) : Int)), (19, .slice Ad321 ((up d).l.length) cp322), (20, .int .i64 (j : Int)), (215, .bool false)]) (by kernel_rfl) ?_
    refine WQ.round ?_
    intro a_ ha_
    refine ⟨(i + 1, (up d), F, FM), ?_, ha_.keep [0, 1, 5, 6, 8, 9] (by kernel_rfl), ?_⟩
    · show nL - (i + 1) < nL - i; omega
    · exact ⟨by show i + 1 ≤ nL; omega, oku, hdl1, HG, HM, HVl, hgF, hgM, hdj, HA⟩
  intro h15
  refine WO.done (by kernel_rfl) ?_
  refine WQ.keep [0, 1, 5, 6, 8, 9, 72] (e' := [(0, .int .i64 room), (1, .slice AL nL cL), (5, .bool true), (6, .pointer (some ⟨g5, 0, none⟩)), (8, .pointer (some ⟨g10, 0, none⟩)), (9, .int .i64 (i : Int)), (72, .bool false)]) (by kernel_rfl) ?_
  refine WQ.thenN ?_
  refine WE.condF (by kernel_rfl) ?_
  refine WE.exit ?_
  refine WQ.thenE ?_
  refine WQ.thenE ?_
  refine WQ.blkE ?_
  refine WQ.thenN ?_
  refine WE.seq ?_
  refine WE.region ?_
  refine WO.run 1 0 [(231, .pointer (some ⟨g5, 0, none⟩))] (by kernel_rfl) (by kernel_rfl) ?_
  refine WO.call (SQ.E 1 (by kernel_rfl)) 232 (by kernel_rfl) (gup g5 F d _ HG) ?_
  rintro _ w330 ⟨rfl, HGn, F331⟩
  refine ⟨_, rfl, trivial, ?_⟩
  have HM := MDisk.keep HM F331 (dj_symm hdj)
  have HVl := HVl.keep F331 (dj_symm hdjL)
  have HA := Fr.step HA F331 (inF hgF)
  have HG := HGn
  have oku := up_ok hok
  have hdl1 : (up d).l.length ≤ i + 1 := by show d.l.length ≤ i + 1; omega
  have hcd : 0 ≤ (0 : Int) ∧ (0 : Int) ≤ 10 := by decide
  refine WO.done (by kernel_rfl) ?_
  refine WQ.keep [0, 1, 5, 6, 8, 9, 72] (e' := [(0, .int .i64 room), (1, .slice AL nL cL), (5, .bool true), (6, .pointer (some ⟨g5, 0, none⟩)), (8, .pointer (some ⟨g10, 0, none⟩)), (9, .int .i64 (i : Int)), (72, .bool false)]) (by kernel_rfl) ?_
  refine WQ.thenN ?_
  refine WE.seq ?_
  refine WE.seq ?_
  obtain ⟨AM, cM, GM_, VM⟩ := mview HM
  have HBm := VM.blk
  have HVm := VM.view
  have hgGM := VM.hg
  refine WE.region ?_
  refine WO.run 1 0 [(21, .int .i64 0)] (by kernel_rfl) (by kernel_rfl) ?_
  refine WO.done (by kernel_rfl) ?_
  refine WQ.keep [0, 1, 5, 6, 8, 9, 21, 72] (e' := [(0, .int .i64 room), (1, .slice AL nL cL), (5, .bool true), (6, .pointer (some ⟨g5, 0, none⟩)), (8, .pointer (some ⟨g10, 0, none⟩)), (9, .int .i64 (i : Int)), (21, .int .i64 0), (72, .bool false)]) (by kernel_rfl) ?_
  refine WQ.thenN ?_
  refine WE.block ?_
  refine WE.loop (α := Nat) (E := fun k => [(5, .bool true), (6, .pointer (some ⟨g5, 0, none⟩)), (8, .pointer (some ⟨g10, 0, none⟩)), (21, .int .i64 (k : Int))]) (I := fun k wo => k ≤ d.l.length ∧ GDisk wo g5 F (up d) ∧ VX cP 3 wo GM_ AM d.l ∧ Blk wo g10 #[.int .i64 d.room, .slice AM d.l.length cM, .bool d.down] 40 ∧ Fr [] w wo) (m := fun k => d.l.length - k) 0 [5, 6, 8, 21] (by kernel_rfl) ?_ ?_
  · exact ⟨Nat.zero_le _, HG, HVm, HBm, HA⟩
  rintro k wo ⟨hk, HG, HVm, HBm, HA⟩
  refine WE.seq ?_
  refine WE.seq ?_
  refine WE.region ?_
  refine WO.run 4 0 [(236, .pointer (some ⟨g10, 1, none⟩)), (235, .pointer (some ⟨g10, 0, none⟩)), (234, .pointer (some ⟨g10, 0, none⟩)), (233, .int .i64 (k : Int))] (by kernel_rfl) (by kernel_rfl) ?_
  refine WO.ld (SQ.S 4 (by kernel_rfl)) 237 (.slice AM d.l.length cM) (by kernel_rfl) (same (HBm.at 1 (by kernel_rfl))) ?_
  refine WO.run 1 5 [(238, .int .i64 (d.l.length : Int))] (by kernel_rfl) (by kernel_rfl) ?_
  refine WO.one (SQ.F 6 (by kernel_rfl)) 239 (.bool (decide (((k : Int) : Int) < (d.l.length : Int)))) (by kernel_rfl) ?_
  refine WO.topP (((k : Int) : Int) < (d.l.length : Int)) ?_ ?_
  · intro h332
    refine WO.done (by kernel_rfl) ?_
    refine WQ.keep [5, 6, 8, 21, 239] (e' := [(5, .bool true), (6, .pointer (some ⟨g5, 0, none⟩)), (8, .pointer (some ⟨g10, 0, none⟩)), (21, .int .i64 (k : Int)), (239, .bool true)]) (by kernel_rfl) ?_
    refine WQ.thenN ?_
    refine WE.condT (by kernel_rfl) ?_
    refine WE.skip ?_
    refine WQ.thenN ?_
    refine WE.seq ?_
    refine WE.block ?_
    refine WE.seq ?_
    have hrd := read_at hok (by omega : k < d.l.length)
    have hkey := hok.keys _ (gP_mem (by omega : k < d.l.length))
    refine WE.region ?_
    refine WO.run 4 0 [(246, .pointer (some ⟨g10, 1, none⟩)), (245, .pointer (some ⟨g10, 0, none⟩)), (244, .pointer (some ⟨g10, 0, none⟩)), (243, .pointer (some ⟨g5, 0, none⟩))] (by kernel_rfl) (by kernel_rfl) ?_
    refine WO.ld (SQ.S 4 (by kernel_rfl)) 247 (.slice AM d.l.length cM) (by kernel_rfl) (same (HBm.at 1 (by kernel_rfl))) ?_
    refine WO.run 1 5 [(248, .int .i64 (k : Int))] (by kernel_rfl) (by kernel_rfl) ?_
    obtain ⟨ad333, hA334⟩ := HVm.addr (i := k) (by have := (rfl : List.length d.l = _); omega)
    refine WO.ixo (SQ.F 6 (by kernel_rfl)) 249 d.l.length 3 k (k : Int) hA334 (by kernel_rfl) rfl (by omega) ?_
    refine WO.run 1 7 [(250, .pointer (some (ad333.add (k * 3))))] (by kernel_rfl) (by kernel_rfl) ?_
    refine WO.ld (SQ.S 8 (by kernel_rfl)) 251 (.int .i64 ((gP d.l k).n)) (by kernel_rfl) (same (HVm.at0 hA334 (gP_some d.l k (by have := (rfl : List.length d.l = _); omega)) (by kernel_rfl))) ?_
    refine WO.call (SQ.E 9 (by kernel_rfl)) 252 (by kernel_rfl) (gread g5 F (up d) ((gP d.l k).n) _ HG oku hkey) ?_
    rintro _ w335 ⟨v337, G338, rfl, HO339, F336, ge340⟩
    rw [hrd] at HO339 ⊢
    refine ⟨_, rfl, trivial, ?_⟩
    obtain ⟨Ad341, cp342, rfl⟩ := HO339.sliceN (n := ((gP d.l k).b).length) (List.length_map _)
    have HVr343 := VX.of_own HO339
    have ge340r := fun y hy => Or.inr (a := y ∈ ([] : List Nat)) (ge340 y hy)
    have nin_g10_G338 : g10 ∉ G338 := grow_nin ge340r (nin0 _) HBm.lt
    have dj_G338_F : ∀ y ∈ G338, y ∉ F := grow_dj ge340r (by simp) (GDisk.lt HG)
    have dj_G338_GM_ : ∀ y ∈ G338, y ∉ GM_ := grow_dj ge340r (by simp) HVm.lt
    have ge_HA_G338 : ∀ y ∈ G338, (World.heap w).size ≤ y := grow_ge ge340r (by simp) HA.size
    have HBm := Blk.keep HBm F336 (nin0 _)
    have HG := GDisk.keep HG F336 (fun _ _ => nin0 _)
    have HVm := HVm.keep F336 (fun _ _ => nin0 _)
    have HA := Fr.step0 HA F336
    refine WO.run 5 10 [(23, .nilIface), (22, .slice Ad341 (((gP d.l k).b).length) cp342), (254, .nilIface), (253, .slice Ad341 (((gP d.l k).b).length) cp342), (242, .tuple #[.slice Ad341 (((gP d.l k).b).length) cp342, .nilIface])] (by kernel_rfl) (by kernel_rfl) ?_
    refine WO.done (by kernel_rfl) ?_
    refine WQ.keep [5, 6, 8, 21, 22, 23, 239] (e' := [(5, .bool true), (6, .pointer (some ⟨g5, 0, none⟩)), (8, .pointer (some ⟨g10, 0, none⟩)), (21, .int .i64 (k : Int)), (22, .slice Ad341 (((gP d.l k).b).length) cp342), (23, .nilIface), (239, .bool true)]) (by kernel_rfl) ?_
    refine WQ.thenN ?_
    refine WE.seq ?_
    refine WE.draw [.free, .free, .free, .free, .still, .free, .free, .free, .still, .free, .free, .free, .still, .free, .free] Same sameR (by kernel_rfl) 15 (Array.replicate 15 false) (by kernel_rfl) rfl ?_
    intro w345 F346 _
    have HBm := Blk.keep HBm F346 (nin0 _)
    have HG := GDisk.keep HG F346 (fun _ _ => nin0 _)
    have HVm := HVm.keep F346 (fun _ _ => nin0 _)
    have HVr343 := HVr343.keep F346 (fun _ _ => nin0 _)
    have HA := Fr.step0 HA F346
    refine WO.one (SA.F sameR sameT _ 0 _ (by kernel_rfl)) 255 (.nilIface) (by kernel_rfl) ?_
    refine WO.one (SA.F sameR sameT _ 1 _ (by kernel_rfl)) 256 (.bool false) (by kernel_rfl) ?_
    refine WO.one (SA.F sameR sameT _ 2 _ (by kernel_rfl)) 257 (.bool false) (by kernel_rfl) ?_
    refine WO.one (SA.F sameR sameT _ 3 _ (by kernel_rfl)) 258 (.slice Ad341 (((gP d.l k).b).length) cp342) (by kernel_rfl) ?_
    refine WO.b2s (v := .slice Ad341 (((gP d.l k).b).length) cp342) (SA.S sameR sameT _ 4 _ (by kernel_rfl)) 259 byt ((gP d.l k).b) (n := (((gP d.l k).b).length)) (rfl : List.length ((gP d.l k).b) = _) (by kernel_rfl) (same (HVr343.srcN (rfl : List.length ((gP d.l k).b) = _) (cB_len _) (cB_one _) cp342)) ?_
    refine WO.one (SA.F sameR sameT _ 5 _ (by kernel_rfl)) 260 (.pointer (some ⟨g10, 0, none⟩)) (by kernel_rfl) ?_
    refine WO.one (SA.F sameR sameT _ 6 _ (by kernel_rfl)) 261 (.pointer (some ⟨g10, 0, none⟩)) (by kernel_rfl) ?_
    refine WO.one (SA.F sameR sameT _ 7 _ (by kernel_rfl)) 262 (.pointer (some ⟨g10, 1, none⟩)) (by kernel_rfl) ?_
    refine WO.ld (SA.S sameR sameT _ 8 _ (by kernel_rfl)) 263 (.slice AM d.l.length cM) (by kernel_rfl) (same (HBm.at 1 (by kernel_rfl))) ?_
    refine WO.one (SA.F sameR sameT _ 9 _ (by kernel_rfl)) 264 (.int .i64 (k : Int)) (by kernel_rfl) ?_
    obtain ⟨ad347, hA348⟩ := HVm.addr (i := k) (by have := (rfl : List.length d.l = _); omega)
    refine WO.ixo (SA.F sameR sameT _ 10 _ (by kernel_rfl)) 265 d.l.length 3 k (k : Int) hA348 (by kernel_rfl) rfl (by omega) ?_
    refine WO.one (SA.F sameR sameT _ 11 _ (by kernel_rfl)) 266 (.pointer (some ((ad347.add (k * 3)).add 1))) (by kernel_rfl) ?_
    refine WO.ld (SA.S sameR sameT _ 12 _ (by kernel_rfl)) 267 (.string (str (gP d.l k).b)) (by kernel_rfl) (same (HVm.at hA348 (gP_some d.l k (by have := (rfl : List.length d.l = _); omega)) 1 (by kernel_rfl))) ?_
    refine WO.one (SA.F sameR sameT _ 13 _ (by kernel_rfl)) 268 (.bool (!((str ((gP d.l k).b)).toList == (str (gP d.l k).b).toList))) (by kernel_rfl) ?_
    refine WO.top (v' := .bool (!decide ((str ((gP d.l k).b)) = (str (gP d.l k).b)))) (congrArg Value.bool (congrArg not (streq (str ((gP d.l k).b)) (str (gP d.l k).b)))) ?_
    refine WO.topNT ((str ((gP d.l k).b)) = (str (gP d.l k).b)) (by rfl) ?_
    refine WO.one (SA.F sameR sameT _ 14 _ (by kernel_rfl)) 269 (.bool false) (by kernel_rfl) ?_
    refine WO.doneA (by kernel_rfl) ?_
    refine WQ.keep [5, 6, 8, 21, 22, 23, 239, 269] (e' := [(5, .bool true), (6, .pointer (some ⟨g5, 0, none⟩)), (8, .pointer (some ⟨g10, 0, none⟩)), (21, .int .i64 (k : Int)), (22, .slice Ad341 (((gP d.l k).b).length) cp342), (23, .nilIface), (239, .bool true), (269, .bool false)]) (by kernel_rfl) ?_
    refine WQ.thenN ?_
    refine WE.condF (by kernel_rfl) ?_
    refine WE.skip ?_
    refine WQ.blkN ?_
    refine WQ.thenN ?_
    refine WE.region ?_
    refine WO.run 1 0 [(240, .int .i64 (k : Int))] (by kernel_rfl) (by kernel_rfl) ?_
    refine WO.one (SQ.F 1 (by kernel_rfl)) 241 (.int .i64 (IntKind.i64.wrap ((k : Int) + 1))) (by kernel_rfl) ?_
    refine WO.top (v' := .int .i64 ((k + 1 : Nat) : Int)) (wrap_i64 (by omega) (by omega)) ?_
    refine WO.run 1 2 [(21, .int .i64 ((k + 1 : Nat) : Int))] (by kernel_rfl) (by kernel_rfl) ?_
    refine WO.done (by kernel_rfl) ?_
    refine WQ.keep [5, 6, 8, 21, 22, 23, 239, 269] (e' := [(5, .bool true), (6, .pointer (some ⟨g5, 0, none⟩)), (8, .pointer (some ⟨g10, 0, none⟩)), (21, .int .i64 ((k + 1 : Nat) : Int)), (22, .slice Ad341 (((gP d.l k).b).length) cp342), (23, .nilIface), (239, .bool true), (269, .bool false)]) (by kernel_rfl) ?_
    refine WQ.round ?_
    intro a_ ha_
    refine ⟨k + 1, ?_, ha_.keep [5, 6, 8, 21] (by kernel_rfl), ?_⟩
    · omega
    · exact ⟨by omega, HG, HVm, HBm, HA⟩
  intro h332
  refine WO.done (by kernel_rfl) ?_
  refine WQ.keep [5, 6, 8, 21, 239] (e' := [(5, .bool true), (6, .pointer (some ⟨g5, 0, none⟩)), (8, .pointer (some ⟨g10, 0, none⟩)), (21, .int .i64 (k : Int)), (239, .bool false)]) (by kernel_rfl) ?_
  refine WQ.thenN ?_
  refine WE.condF (by kernel_rfl) ?_
  refine WE.exit ?_
  refine WQ.thenE ?_
  refine WQ.thenE ?_
  refine WQ.blkE ?_
  refine WQ.thenN ?_
  refine WE.seq ?_
  refine WE.region ?_
  refine WO.run 2 0 [(4, .bool true), (270, .bool true)] (by kernel_rfl) (by kernel_rfl) ?_
  refine WO.done (by kernel_rfl) ?_
  refine WQ.keep [4, 5, 6, 8, 21, 239] (e' := [(4, .bool true), (5, .bool true), (6, .pointer (some ⟨g5, 0, none⟩)), (8, .pointer (some ⟨g10, 0, none⟩)), (21, .int .i64 (k : Int)), (239, .bool false)]) (by kernel_rfl) ?_
  refine WQ.thenN ?_
  refine WE.ret ?_
  refine WQ.ret (v := .bool true) (by kernel_rfl) ?_
  exact ⟨rfl, HA⟩
end Go.Proofs.Ytkhibpdkgjapgaa.Disk
