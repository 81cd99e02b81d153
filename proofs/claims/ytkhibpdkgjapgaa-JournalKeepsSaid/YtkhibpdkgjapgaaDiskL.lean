/- Layer 8's laws: the document's example, DiskLasts. -/
import Derived.Test.YtkhibpdkgjapgaaDiskR
import Derived.Test.YtkhibpdkgjapgaaConst
set_option linter.unusedVariables false
set_option linter.unusedSimpArgs false
namespace Go.Proofs.Ytkhibpdkgjapgaa.Disk
open Go Go.RowKit Go.Proofs.Ytkhibpdkgjapgaa Go.Proofs.Ytkhibpdkgjapgaa.Eng Go.Proofs.YtkhibpdkgjapgaaW.PrintWords
theorem nin_sing {b : Nat} {F : List Nat} (h : b ∉ F) : ∀ y ∈ F, y ∉ [b] := fun y hy h2 => h (List.mem_singleton.1 h2 ▸ hy)
theorem gnew (r : Int) (w : World) (h : ¬ (r < 1 ∨ 65536 < r)) :
    Calls Try.prog 7 #[.int .i64 r] w fun e w' => ∃ g F, e = .returned (.tuple #[.pointer (some ⟨g, 0, none⟩), .nilIface]) ∧ GDisk w' g F ⟨r, [], false⟩ ∧ Fr [] w w' ∧ ∀ y ∈ F, y ∈ ([] : List Nat) ∨ w.heap.size ≤ y := by
  refine (new_ok r w h).mono fun e w' hh => ?_
  obtain ⟨g, m, rfl, h1, h2, h3, h4, h5, h6⟩ := hh
  refine ⟨g, g :: m :: foot [], rfl, ⟨m, [], rfl, rfl, ⟨h1, h2, by simp, by simpa [foot] using h6⟩⟩, h3, fun y hy => .inr ?_⟩
  simp only [foot, List.flatMap_nil, List.mem_cons, List.not_mem_nil, or_false] at hy
  rcases hy with rfl | rfl
  · exact h4
  · exact h5
set_option maxRecDepth 100000 in
set_option maxHeartbeats 400000 in
theorem up_any2 (w : World) :
    Calls Try.prog 6 #[] w fun e w' => e = .returned (.bool true) ∧ Fr [] w w' := by
  have ok0 : Dk.Ok ⟨10, [], false⟩ := ⟨List.Pairwise.nil, by simp, by decide, by decide, by simp⟩
  have HA := Fr.refl [] w
  refine enter (N := 75) Try.func6 (c := _) rfl (by kernel_rfl) (by kernel_rfl) (e := []) (by kernel_rfl) ?_
  refine WE.seq ?_
  refine WE.region ?_
  refine WO.run 1 0 [(0, .bool false)] (by kernel_rfl) (by kernel_rfl) ?_
  refine WO.done (by kernel_rfl) ?_
  refine WQ.thenN ?_
  refine WE.seq ?_
  refine WE.region ?_
  refine WO.call (SQ.E 0 (by kernel_rfl)) 12 (by kernel_rfl) (gnew 10 _ (by omega)) ?_
  rintro _ w1 ⟨g3, D4, rfl, HG6, F2, hg5⟩
  refine ⟨_, rfl, trivial, ?_⟩
  have ge_HA_D4 : ∀ y ∈ D4, (World.heap w).size ≤ y := grow_ge hg5 (by simp) HA.size
  have HA := Fr.step0 HA F2
  refine WO.run 5 1 [(2, .nilIface), (1, .pointer (some ⟨g3, 0, none⟩)), (14, .nilIface), (13, .pointer (some ⟨g3, 0, none⟩)), (11, .tuple #[.pointer (some ⟨g3, 0, none⟩), .nilIface])] (by kernel_rfl) (by kernel_rfl) ?_
  refine WO.done (by kernel_rfl) ?_
  refine WQ.keep [0, 1, 2] (e' := [(0, .bool false), (1, .pointer (some ⟨g3, 0, none⟩)), (2, .nilIface)]) (by kernel_rfl) ?_
  refine WQ.thenN ?_
  refine WE.seq ?_
  refine WE.region ?_
  refine WO.call (SQ.E 0 (by kernel_rfl)) 16 (by kernel_rfl) (new_bad 0 _ (by omega)) ?_
  rintro _ w7 ⟨rfl, F8⟩
  refine ⟨_, rfl, trivial, ?_⟩
  have HG6 := GDisk.keep HG6 F8 (fun _ _ => nin0 _)
  have HA := Fr.step0 HA F8
  refine WO.run 5 1 [(4, .iface 36 (.int .i64 1)), (3, .pointer none), (18, .iface 36 (.int .i64 1)), (17, .pointer none), (15, .tuple #[.pointer none, .iface 36 (.int .i64 1)])] (by kernel_rfl) (by kernel_rfl) ?_
  refine WO.done (by kernel_rfl) ?_
  refine WQ.keep [0, 1, 2, 4] (e' := [(0, .bool false), (1, .pointer (some ⟨g3, 0, none⟩)), (2, .nilIface), (4, .iface 36 (.int .i64 1))]) (by kernel_rfl) ?_
  refine WQ.thenN ?_
  refine WE.seq ?_
  refine WE.seq ?_
  refine WE.region ?_
  refine WO.run 6 0 [(24, .bool false), (23, .bool false), (22, .nilIface), (21, .bool false), (20, .bool false), (19, .pointer (some ⟨g3, 0, none⟩))] (by kernel_rfl) (by kernel_rfl) ?_
  refine WO.done (by kernel_rfl) ?_
  refine WQ.keep [0, 1, 2, 4, 24] (e' := [(0, .bool false), (1, .pointer (some ⟨g3, 0, none⟩)), (2, .nilIface), (4, .iface 36 (.int .i64 1)), (24, .bool false)]) (by kernel_rfl) ?_
  refine WQ.thenN ?_
  refine WE.condF (by kernel_rfl) ?_
  refine WE.skip ?_
  refine WQ.thenN ?_
  refine WE.seq ?_
  refine WE.region ?_
  refine WO.run 1 0 [(25, .pointer (some ⟨g3, 0, none⟩))] (by kernel_rfl) (by kernel_rfl) ?_
  refine WO.bx (SQ.E 1 (by kernel_rfl)) 26 #[.int .u8 97, .int .u8 98] 5 (fun g => .slice (some ⟨g, 0, none⟩) 2 2) (by kernel_rfl) (fun _ _ => trivial) ?_
  intro g9 w10 HB12 F11 le13 _
  have nin_g9_D4 : g9 ∉ D4 := new_nin (GDisk.lt HG6) le13
  have ge_HA_g9 := Nat.le_trans HA.size le13
  have HG6 := GDisk.keep HG6 F11 (fun _ _ => nin0 _)
  have HA := Fr.step0 HA F11
  refine WO.cst (g := g9) (n := 2) (c := 2) (SQ.E 2 (by kernel_rfl)) 27 byt ([(97 : UInt8), (98 : UInt8)] : List UInt8) (by kernel_rfl) HB12 rfl (fun _ _ => trivial) ?_
  intro w14 HV16 F15
  have HG6 := GDisk.keep HG6 F15 (djB nin_g9_D4)
  have HA := Fr.step HA F15 (inSR ge_HA_g9 inS0)
  obtain ⟨F17, hF17⟩ : ∃ F_, F_ = [g9] := ⟨_, rfl⟩
  rw [← hF17] at HV16
  have dj_F17_D4 : ∀ y ∈ F17, y ∉ D4 := by rw [hF17]; intro y hy; rw [List.mem_singleton.1 hy]; exact nin_g9_D4
  have ge_HA_F17 : ∀ y ∈ F17, (World.heap w).size ≤ y := by rw [hF17]; intro y hy; rw [List.mem_singleton.1 hy]; exact ge_HA_g9
  have hE22 := (show append (⟨10, [], false⟩ : Dk) 0 [97, 98] = (0, (⟨10, [⟨0, [97, 98], 0⟩], false⟩ : Dk)) by kernel_rfl)
  have ok23 := append_ok ok0 0 [97, 98] (by omega); rw [hE22] at ok23
  refine WO.call (SQ.E 3 (by kernel_rfl)) 28 (by kernel_rfl) (gappend g3 D4 (⟨10, [], false⟩ : Dk) 0 (some ⟨g9, 0, none⟩) 2 2 ([(97 : UInt8), (98 : UInt8)]) F17 _ HG6 ok0 (by omega) HV16 (rfl : List.length ([(97 : UInt8), (98 : UInt8)] : List UInt8) = 2) (by first | omega | (simp only [List.length_cons, List.length_nil]; omega)) (dj_symm dj_F17_D4) (by simp)) ?_
  rintro _ w18 ⟨rfl, D20, HG6, F19, hg21⟩
  rw [hE22] at HG6 ⊢
  refine ⟨_, rfl, trivial, ?_⟩
  have dj_D20_F17 : ∀ y ∈ D20, y ∉ F17 := grow_dj hg21 (dj_symm dj_F17_D4) HV16.lt
  have ge_HA_D20 : ∀ y ∈ D20, (World.heap w).size ≤ y := grow_ge hg21 ge_HA_D4 HA.size
  have HV16 := HV16.keep F19 dj_F17_D4
  have HA := Fr.step HA F19 (inF ge_HA_D4)
  refine WO.run 1 4 [(5, .nilIface)] (by kernel_rfl) (by kernel_rfl) ?_
  refine WO.done (by kernel_rfl) ?_
  refine WQ.keep [0, 1, 2, 4, 5, 24] (e' := [(0, .bool false), (1, .pointer (some ⟨g3, 0, none⟩)), (2, .nilIface), (4, .iface 36 (.int .i64 1)), (5, .nilIface), (24, .bool false)]) (by kernel_rfl) ?_
  refine WQ.thenN ?_
  refine WE.seq ?_
  refine WE.region ?_
  refine WO.run 1 0 [(29, .pointer (some ⟨g3, 0, none⟩))] (by kernel_rfl) (by kernel_rfl) ?_
  have hE28 := (show sync (⟨10, [⟨0, [97, 98], 0⟩], false⟩ : Dk) 0 = (0, (⟨10, [⟨0, [97, 98], 2⟩], false⟩ : Dk)) by kernel_rfl)
  have ok29 := sync_ok ok23 0; rw [hE28] at ok29
  refine WO.call (SQ.E 1 (by kernel_rfl)) 30 (by kernel_rfl) (gsync g3 D20 (⟨10, [⟨0, [97, 98], 0⟩], false⟩ : Dk) 0 _ HG6 ok23 (by omega)) ?_
  rintro _ w24 ⟨rfl, D26, HG6, F25, hg27⟩
  rw [hE28] at HG6 ⊢
  refine ⟨_, rfl, trivial, ?_⟩
  have dj_D26_F17 : ∀ y ∈ D26, y ∉ F17 := grow_dj hg27 dj_D20_F17 HV16.lt
  have ge_HA_D26 : ∀ y ∈ D26, (World.heap w).size ≤ y := grow_ge hg27 ge_HA_D20 HA.size
  have HV16 := HV16.keep F25 (dj_symm dj_D20_F17)
  have HA := Fr.step HA F25 (inF ge_HA_D20)
  refine WO.run 1 2 [(6, .nilIface)] (by kernel_rfl) (by kernel_rfl) ?_
  refine WO.done (by kernel_rfl) ?_
  refine WQ.keep [0, 1, 2, 4, 5, 6, 24] (e' := [(0, .bool false), (1, .pointer (some ⟨g3, 0, none⟩)), (2, .nilIface), (4, .iface 36 (.int .i64 1)), (5, .nilIface), (6, .nilIface), (24, .bool false)]) (by kernel_rfl) ?_
  refine WQ.thenN ?_
  refine WE.seq ?_
  refine WE.region ?_
  refine WO.run 1 0 [(31, .pointer (some ⟨g3, 0, none⟩))] (by kernel_rfl) (by kernel_rfl) ?_
  refine WO.bx (SQ.E 1 (by kernel_rfl)) 32 #[.int .u8 99, .int .u8 100] 5 (fun g => .slice (some ⟨g, 0, none⟩) 2 2) (by kernel_rfl) (fun _ _ => trivial) ?_
  intro g30 w31 HB33 F32 le34 _
  have nin_g30_F17 : g30 ∉ F17 := new_nin HV16.lt le34
  have nin_g30_D26 : g30 ∉ D26 := new_nin (GDisk.lt HG6) le34
  have ge_HA_g30 := Nat.le_trans HA.size le34
  have HV16 := HV16.keep F32 (fun _ _ => nin0 _)
  have HG6 := GDisk.keep HG6 F32 (fun _ _ => nin0 _)
  have HA := Fr.step0 HA F32
  refine WO.cst (g := g30) (n := 2) (c := 2) (SQ.E 2 (by kernel_rfl)) 33 byt ([(99 : UInt8), (100 : UInt8)] : List UInt8) (by kernel_rfl) HB33 rfl (fun _ _ => trivial) ?_
  intro w35 HV37 F36
  have HV16 := HV16.keep F36 (djB nin_g30_F17)
  have HG6 := GDisk.keep HG6 F36 (djB nin_g30_D26)
  have HA := Fr.step HA F36 (inSR ge_HA_g30 inS0)
  obtain ⟨F38, hF38⟩ : ∃ F_, F_ = [g30] := ⟨_, rfl⟩
  rw [← hF38] at HV37
  have dj_F38_F17 : ∀ y ∈ F38, y ∉ F17 := by rw [hF38]; intro y hy; rw [List.mem_singleton.1 hy]; exact nin_g30_F17
  have dj_F38_D26 : ∀ y ∈ F38, y ∉ D26 := by rw [hF38]; intro y hy; rw [List.mem_singleton.1 hy]; exact nin_g30_D26
  have ge_HA_F38 : ∀ y ∈ F38, (World.heap w).size ≤ y := by rw [hF38]; intro y hy; rw [List.mem_singleton.1 hy]; exact ge_HA_g30
  have hE43 := (show append (⟨10, [⟨0, [97, 98], 2⟩], false⟩ : Dk) 0 [99, 100] = (0, (⟨10, [⟨0, [97, 98, 99, 100], 2⟩], false⟩ : Dk)) by kernel_rfl)
  have ok44 := append_ok ok29 0 [99, 100] (by omega); rw [hE43] at ok44
  refine WO.call (SQ.E 3 (by kernel_rfl)) 34 (by kernel_rfl) (gappend g3 D26 (⟨10, [⟨0, [97, 98], 2⟩], false⟩ : Dk) 0 (some ⟨g30, 0, none⟩) 2 2 ([(99 : UInt8), (100 : UInt8)]) F38 _ HG6 ok29 (by omega) HV37 (rfl : List.length ([(99 : UInt8), (100 : UInt8)] : List UInt8) = 2) (by first | omega | (simp only [List.length_cons, List.length_nil]; omega)) (dj_symm dj_F38_D26) (by simp)) ?_
  rintro _ w39 ⟨rfl, D41, HG6, F40, hg42⟩
  rw [hE43] at HG6 ⊢
  refine ⟨_, rfl, trivial, ?_⟩
  have dj_D41_F17 : ∀ y ∈ D41, y ∉ F17 := grow_dj hg42 dj_D26_F17 HV16.lt
  have dj_D41_F38 : ∀ y ∈ D41, y ∉ F38 := grow_dj hg42 (dj_symm dj_F38_D26) HV37.lt
  have ge_HA_D41 : ∀ y ∈ D41, (World.heap w).size ≤ y := grow_ge hg42 ge_HA_D26 HA.size
  have HV16 := HV16.keep F40 (dj_symm dj_D26_F17)
  have HV37 := HV37.keep F40 dj_F38_D26
  have HA := Fr.step HA F40 (inF ge_HA_D26)
  refine WO.run 1 4 [(7, .nilIface)] (by kernel_rfl) (by kernel_rfl) ?_
  refine WO.done (by kernel_rfl) ?_
  refine WQ.keep [0, 1, 2, 4, 5, 6, 7, 24] (e' := [(0, .bool false), (1, .pointer (some ⟨g3, 0, none⟩)), (2, .nilIface), (4, .iface 36 (.int .i64 1)), (5, .nilIface), (6, .nilIface), (7, .nilIface), (24, .bool false)]) (by kernel_rfl) ?_
  refine WQ.thenN ?_
  refine WE.seq ?_
  refine WE.region ?_
  refine WO.run 1 0 [(35, .pointer (some ⟨g3, 0, none⟩))] (by kernel_rfl) (by kernel_rfl) ?_
  have hE47 := (show crash (⟨10, [⟨0, [97, 98, 99, 100], 2⟩], false⟩ : Dk) 1 = (⟨10, [⟨0, [97, 98, 99], 3⟩], true⟩ : Dk) by kernel_rfl)
  have ok48 := crash_ok ok44 1; rw [hE47] at ok48
  refine WO.call (SQ.E 1 (by kernel_rfl)) 36 (by kernel_rfl) (gcrash g3 D41 (⟨10, [⟨0, [97, 98, 99, 100], 2⟩], false⟩ : Dk) 1 _ HG6 ok44 (by simp) (by omega)) ?_
  rintro _ w45 ⟨rfl, HGn, F46⟩
  rw [hE47] at HGn
  refine ⟨_, rfl, trivial, ?_⟩
  have HV16 := HV16.keep F46 (dj_symm dj_D41_F17)
  have HV37 := HV37.keep F46 (dj_symm dj_D41_F38)
  have HA := Fr.step HA F46 (inF ge_HA_D41)
  have HG6 := HGn
  refine WO.done (by kernel_rfl) ?_
  refine WQ.keep [0, 1, 2, 4, 5, 6, 7, 24] (e' := [(0, .bool false), (1, .pointer (some ⟨g3, 0, none⟩)), (2, .nilIface), (4, .iface 36 (.int .i64 1)), (5, .nilIface), (6, .nilIface), (7, .nilIface), (24, .bool false)]) (by kernel_rfl) ?_
  refine WQ.thenN ?_
  refine WE.seq ?_
  refine WE.region ?_
  refine WO.run 1 0 [(37, .pointer (some ⟨g3, 0, none⟩))] (by kernel_rfl) (by kernel_rfl) ?_
  have hE53 := (show append (⟨10, [⟨0, [97, 98, 99], 3⟩], true⟩ : Dk) 0 [] = (10, (⟨10, [⟨0, [97, 98, 99], 3⟩], true⟩ : Dk)) by kernel_rfl)
  have ok54 := append_ok ok48 0 [] (by omega); rw [hE53] at ok54
  refine WO.call (SQ.E 1 (by kernel_rfl)) 38 (by kernel_rfl) (gappend g3 D41 (⟨10, [⟨0, [97, 98, 99], 3⟩], true⟩ : Dk) 0 none 0 0 [] [] _ HG6 ok48 (by omega) (VX.nil _ _) rfl (by simp) (by simp) (by simp)) ?_
  rintro _ w49 ⟨rfl, D51, HG6, F50, hg52⟩
  rw [hE53] at HG6 ⊢
  refine ⟨_, rfl, trivial, ?_⟩
  have dj_D51_F17 : ∀ y ∈ D51, y ∉ F17 := grow_dj hg52 dj_D41_F17 HV16.lt
  have dj_D51_F38 : ∀ y ∈ D51, y ∉ F38 := grow_dj hg52 dj_D41_F38 HV37.lt
  have ge_HA_D51 : ∀ y ∈ D51, (World.heap w).size ≤ y := grow_ge hg52 ge_HA_D41 HA.size
  have HV16 := HV16.keep F50 (dj_symm dj_D41_F17)
  have HV37 := HV37.keep F50 (dj_symm dj_D41_F38)
  have HA := Fr.step HA F50 (inF ge_HA_D41)
  refine WO.run 1 2 [(8, .iface 36 (.int .i64 10))] (by kernel_rfl) (by kernel_rfl) ?_
  refine WO.done (by kernel_rfl) ?_
  refine WQ.keep [0, 1, 2, 4, 5, 6, 7, 8, 24] (e' := [(0, .bool false), (1, .pointer (some ⟨g3, 0, none⟩)), (2, .nilIface), (4, .iface 36 (.int .i64 1)), (5, .nilIface), (6, .nilIface), (7, .nilIface), (8, .iface 36 (.int .i64 10)), (24, .bool false)]) (by kernel_rfl) ?_
  refine WQ.thenN ?_
  refine WE.seq ?_
  refine WE.region ?_
  refine WO.run 1 0 [(39, .pointer (some ⟨g3, 0, none⟩))] (by kernel_rfl) (by kernel_rfl) ?_
  have ok57 : Dk.Ok (⟨10, [⟨0, [97, 98, 99], 3⟩], false⟩ : Dk) := up_ok ok54
  refine WO.call (SQ.E 1 (by kernel_rfl)) 40 (by kernel_rfl) (gup g3 D51 (⟨10, [⟨0, [97, 98, 99], 3⟩], true⟩ : Dk) _ HG6) ?_
  rintro _ w55 ⟨rfl, HGn, F56⟩
  change GDisk _ _ _ (⟨10, [⟨0, [97, 98, 99], 3⟩], false⟩ : Dk) at HGn
  refine ⟨_, rfl, trivial, ?_⟩
  have HV16 := HV16.keep F56 (dj_symm dj_D51_F17)
  have HV37 := HV37.keep F56 (dj_symm dj_D51_F38)
  have HA := Fr.step HA F56 (inF ge_HA_D51)
  have HG6 := HGn
  refine WO.done (by kernel_rfl) ?_
  refine WQ.keep [0, 1, 2, 4, 5, 6, 7, 8, 24] (e' := [(0, .bool false), (1, .pointer (some ⟨g3, 0, none⟩)), (2, .nilIface), (4, .iface 36 (.int .i64 1)), (5, .nilIface), (6, .nilIface), (7, .nilIface), (8, .iface 36 (.int .i64 10)), (24, .bool false)]) (by kernel_rfl) ?_
  refine WQ.thenN ?_
  refine WE.seq ?_
  refine WE.region ?_
  refine WO.run 1 0 [(42, .pointer (some ⟨g3, 0, none⟩))] (by kernel_rfl) (by kernel_rfl) ?_
  have hE67 := (show read (⟨10, [⟨0, [97, 98, 99], 3⟩], false⟩ : Dk) 0 = ([97, 98, 99], 0) by kernel_rfl)
  refine WO.call (SQ.E 1 (by kernel_rfl)) 43 (by kernel_rfl) (gread g3 D51 (⟨10, [⟨0, [97, 98, 99], 3⟩], false⟩ : Dk) 0 _ HG6 ok57 (by omega)) ?_
  rintro _ w58 ⟨v60, G61, rfl, HO62, F59, ge63⟩
  rw [hE67] at HO62 ⊢
  refine ⟨_, rfl, trivial, ?_⟩
  obtain ⟨Ad64, cp65, rfl⟩ := HO62.sliceN (n := 3) ((List.length_map _).trans (rfl))
  have HVr66 := VX.of_own HO62
  have ge63r := fun y hy => Or.inr (a := y ∈ ([] : List Nat)) (ge63 y hy)
  have dj_G61_F17 : ∀ y ∈ G61, y ∉ F17 := grow_dj ge63r (by simp) HV16.lt
  have dj_G61_F38 : ∀ y ∈ G61, y ∉ F38 := grow_dj ge63r (by simp) HV37.lt
  have dj_G61_D51 : ∀ y ∈ G61, y ∉ D51 := grow_dj ge63r (by simp) (GDisk.lt HG6)
  have ge_HA_G61 : ∀ y ∈ G61, (World.heap w).size ≤ y := grow_ge ge63r (by simp) HA.size
  have HV16 := HV16.keep F59 (fun _ _ => nin0 _)
  have HV37 := HV37.keep F59 (fun _ _ => nin0 _)
  have HG6 := GDisk.keep HG6 F59 (fun _ _ => nin0 _)
  have HA := Fr.step0 HA F59
  refine WO.run 5 2 [(10, .nilIface), (9, .slice Ad64 3 cp65), (45, .nilIface), (44, .slice Ad64 3 cp65), (41, .tuple #[.slice Ad64 3 cp65, .nilIface])] (by kernel_rfl) (by kernel_rfl) ?_
  refine WO.done (by kernel_rfl) ?_
  refine WQ.keep [0, 1, 2, 4, 5, 6, 7, 8, 9, 10, 24] (e' := [(0, .bool false), (1, .pointer (some ⟨g3, 0, none⟩)), (2, .nilIface), (4, .iface 36 (.int .i64 1)), (5, .nilIface), (6, .nilIface), (7, .nilIface), (8, .iface 36 (.int .i64 10)), (9, .slice Ad64 3 cp65), (10, .nilIface), (24, .bool false)]) (by kernel_rfl) ?_
  refine WQ.thenN ?_
  refine WE.seq ?_
  refine WE.region ?_
  refine WO.run 26 0 [(71, .slice Ad64 3 cp65), (70, .bool true), (69, .bool true), (68, .bool true), (67, .nilIface), (66, .bool true), (65, .bool true), (64, .bool true), (63, .iface 36 (.int .i64 10)), (62, .iface 36 (.int .i64 10)), (61, .bool true), (60, .bool true), (59, .bool true), (58, .nilIface), (57, .bool true), (56, .bool true), (55, .bool true), (54, .nilIface), (53, .bool true), (52, .bool true), (51, .bool true), (50, .nilIface), (49, .bool true), (48, .bool true), (47, .iface 36 (.int .i64 1)), (46, .iface 36 (.int .i64 1))] (by kernel_rfl) (by kernel_rfl) ?_
  refine WO.b2s (v := .slice Ad64 3 cp65) (SQ.S 26 (by kernel_rfl)) 72 byt ([97, 98, 99]) (n := 3) rfl (by kernel_rfl) (same (HVr66.srcN rfl (cB_len _) (cB_one _) cp65)) ?_
  refine WO.one (SQ.F 27 (by kernel_rfl)) 73 (.bool ((str ([97, 98, 99])).toList == (⟨#[97, 98, 99]⟩ : ByteArray).toList)) (by kernel_rfl) ?_
  refine WO.top (v' := .bool (decide ((str ([97, 98, 99])) = (⟨#[97, 98, 99]⟩ : ByteArray)))) (congrArg Value.bool (streq (str ([97, 98, 99])) (⟨#[97, 98, 99]⟩ : ByteArray))) ?_
  refine WO.run 2 28 [(0, .bool (decide ((str ([97, 98, 99])) = (⟨#[97, 98, 99]⟩ : ByteArray)))), (74, .bool (decide ((str ([97, 98, 99])) = (⟨#[97, 98, 99]⟩ : ByteArray))))] (by kernel_rfl) (by kernel_rfl) ?_
  refine WO.done (by kernel_rfl) ?_
  refine WQ.keep [0, 1, 2, 4, 5, 6, 7, 8, 9, 10, 24] (e' := [(0, .bool (decide ((str ([97, 98, 99])) = (⟨#[97, 98, 99]⟩ : ByteArray)))), (1, .pointer (some ⟨g3, 0, none⟩)), (2, .nilIface), (4, .iface 36 (.int .i64 1)), (5, .nilIface), (6, .nilIface), (7, .nilIface), (8, .iface 36 (.int .i64 10)), (9, .slice Ad64 3 cp65), (10, .nilIface), (24, .bool false)]) (by kernel_rfl) ?_
  refine WQ.thenN ?_
  refine WE.ret ?_
  refine WQ.ret (v := .bool (decide ((str ([97, 98, 99])) = (⟨#[97, 98, 99]⟩ : ByteArray)))) (by kernel_rfl) ?_
  exact ⟨rfl, HA⟩
end Go.Proofs.Ytkhibpdkgjapgaa.Disk
