/- Layer 8's laws: the document's example, DiskLasts. -/
import Derived.Test.YtkhibpdkgjapgaaDiskR
import Derived.Test.YtkhibpdkgjapgaaConst
set_option linter.unusedVariables false
set_option linter.unusedSimpArgs false
namespace Go.Proofs.Ytkhibpdkgjapgaa.Disk
open Go Go.RowKit Go.Proofs.Ytkhibpdkgjapgaa Go.Proofs.Ytkhibpdkgjapgaa.Eng Go.Proofs.YtkhibpdkgjapgaaW.PrintWords
theorem nin_sing {b : Nat} {F : List Nat} (h : b ∉ F) : ∀ y ∈ F, y ∉ [b] := fun y hy h2 => h (List.mem_singleton.1 h2 ▸ hy)
theorem gnew (r : Int) (w : World) (h : ¬ (r < 1 ∨ 65536 < r)) :
    Calls Try.prog 7 #[.int .i64 r] w fun e w' => ∃ g F, e = .returned (.tuple #[.pointer (some ⟨g, 0, none⟩), .nilIface]) ∧ GDisk w' g F ⟨r, [], false⟩ ∧ Fr [] w w' ∧ ∀ y ∈ F, y ∈ ([] : List Nat) ∨ w.heap.size ≤ y := by
  refine (new_ok r w h).mono fun e w' hh => ?_
  obtain ⟨g, m, rfl, h1, h2, h3, h4, h5, h6⟩ := hh
  refine ⟨g, g :: m :: foot [], rfl, ⟨m, [], rfl, rfl, ⟨h1, h2, by simp, by simpa [foot] using h6⟩⟩, h3, fun y hy => .inr ?_⟩
  simp only [foot, List.flatMap_nil, List.mem_cons, List.not_mem_nil, or_false] at hy
  rcases hy with rfl | rfl
  · exact h4
  · exact h5
theorem lasts1 (a : List UInt8) (h : a.length ≤ 6000) : append ⟨6000, [], false⟩ 1 a = (0, ⟨6000, [⟨1, a, 0⟩], false⟩) := by
  simp [append, usedL, addL, hasL, insL]
  omega
theorem lasts2 (a : List UInt8) : sync ⟨6000, [⟨1, a, 0⟩], false⟩ 1 = (0, ⟨6000, [⟨1, a, a.length⟩], false⟩) := by
  simp [sync, there, hasL, updL]
theorem lasts3 (a b : List UInt8) (h : a.length + b.length ≤ 6000) : append ⟨6000, [⟨1, a, a.length⟩], false⟩ 1 b = (0, ⟨6000, [⟨1, a ++ b, a.length⟩], false⟩) := by
  simp [append, usedL, addL, hasL, updL]
  omega
theorem lasts4 (a b l : List UInt8) (h : a.length + b.length + l.length ≤ 6000) : append ⟨6000, [⟨1, a ++ b, a.length⟩], false⟩ 2 l = (0, ⟨6000, [⟨1, a ++ b, a.length⟩, ⟨2, l, 0⟩], false⟩) := by
  simp [append, usedL, addL, hasL, insL]
  omega
theorem lasts5 (a b l : List UInt8) (keep : Int) {m1 m2 : Nat} (h1 : m1 = min keep.toNat b.length) (h2 : m2 = min (keep.toNat - m1) l.length) : crash ⟨6000, [⟨1, a ++ b, a.length⟩, ⟨2, l, 0⟩], false⟩ keep = ⟨6000, [⟨1, a ++ b.take m1, a.length + m1⟩, ⟨2, l.take m2, m2⟩], true⟩ := by
  have e : min keep.toNat (a.length + b.length - a.length) = m1 := by omega
  have e2 : min (keep.toNat - m1) l.length = m2 := h2.symm
  have e3 : min keep.toNat b.length = m1 := h1.symm
  have e4 : List.take (a.length + m1) a = a := List.take_of_length_le (by omega)
  simp [crash, crashL, e, e2, e3, e4, List.take_append]
  try omega
theorem lasts6 (a b l : List UInt8) (m1 m2 : Nat) : read ⟨6000, [⟨1, a ++ b.take m1, a.length + m1⟩, ⟨2, l.take m2, m2⟩], false⟩ 1 = (a ++ b.take m1, 0) := by
  simp [read, there, hasL, getL]
theorem lasts7 (a b l : List UInt8) (m1 m2 : Nat) : read ⟨6000, [⟨1, a ++ b.take m1, a.length + m1⟩, ⟨2, l.take m2, m2⟩], false⟩ 2 = (l.take m2, 0) := by
  simp [read, there, hasL, getL]
set_option maxRecDepth 100000 in
set_option maxHeartbeats 400000 in
theorem up_any2 (w : World) :
    Calls Try.prog 6 #[] w fun e w' => e = .returned (.bool true) ∧ Fr [] w w' := by
  have ok0 : Dk.Ok ⟨10, [], false⟩ := ⟨List.Pairwise.nil, by simp, by decide, by decide, by simp⟩
  have HA := Fr.refl [] w
  refine enter (N := 75) Try.func6 (c := _) rfl (by kernel_rfl) (by kernel_rfl) (e := []) (by kernel_rfl) ?_
  refine WE.seq ?_
  -- R0 law.go:20
  refine WE.region ?_
  refine WO.run 1 0 [(0, .bool false)] (by kernel_rfl) (by kernel_rfl) ?_
  refine WO.done (by kernel_rfl) ?_
  refine WQ.thenN ?_
  refine WE.seq ?_
  -- R1 law.go:21
  refine WE.region ?_
  refine WO.call (SQ.E 0 (by kernel_rfl)) 12 (by kernel_rfl) (gnew 10 _ (by omega)) ?_
  rintro _ w1 ⟨g3, D4, rfl, HG6, F2, hg5⟩
  refine ⟨_, rfl, trivial, ?_⟩
  have ge_HA_D4 : ∀ y ∈ D4, (World.heap w).size ≤ y := grow_ge hg5 (by simp) HA.size
  have HA := Fr.step0 HA F2
  refine WO.run 5 1 [(2, .nilIface), (1, .pointer (some ⟨g3, 0, none⟩)), (14, .nilIface), (13, .pointer (some ⟨g3, 0, none⟩)), (11, .tuple #[.pointer (some ⟨g3, 0, none⟩), .nilIface])] (by kernel_rfl) (by kernel_rfl) ?_
  refine WO.done (by kernel_rfl) ?_
  refine WQ.keep [0, 1, 2] (e' := [(0, .bool false), (1, .pointer (some ⟨g3, 0, none⟩)), (2, .nilIface)]) (by kernel_rfl) ?_
  refine WQ.thenN ?_
  refine WE.seq ?_
  -- R2 law.go:22
  refine WE.region ?_
  refine WO.call (SQ.E 0 (by kernel_rfl)) 16 (by kernel_rfl) (new_bad 0 _ (by omega)) ?_
  rintro _ w7 ⟨rfl, F8⟩
  refine ⟨_, rfl, trivial, ?_⟩
  have HG6 := GDisk.keep HG6 F8 (fun _ _ => nin0 _)
  have HA := Fr.step0 HA F8
  refine WO.run 5 1 [(4, .iface 36 (.int .i64 1)), (3, .pointer none), (18, .iface 36 (.int .i64 1)), (17, .pointer none), (15, .tuple #[.pointer none, .iface 36 (.int .i64 1)])] (by kernel_rfl) (by kernel_rfl) ?_
  refine WO.done (by kernel_rfl) ?_
  refine WQ.keep [0, 1, 2, 4] (e' := [(0, .bool false), (1, .pointer (some ⟨g3, 0, none⟩)), (2, .nilIface), (4, .iface 36 (.int .i64 1))]) (by kernel_rfl) ?_
  refine WQ.thenN ?_
  refine WE.seq ?_
  refine WE.seq ?_
  -- R3 law.go:23
  refine WE.region ?_
  refine WO.run 6 0 [(24, .bool false), (23, .bool false), (22, .nilIface), (21, .bool false), (20, .bool false), (19, .pointer (some ⟨g3, 0, none⟩))] (by kernel_rfl) (by kernel_rfl) ?_
  refine WO.done (by kernel_rfl) ?_
  refine WQ.keep [0, 1, 2, 4, 24] (e' := [(0, .bool false), (1, .pointer (some ⟨g3, 0, none⟩)), (2, .nilIface), (4, .iface 36 (.int .i64 1)), (24, .bool false)]) (by kernel_rfl) ?_
  refine WQ.thenN ?_
  refine WE.condF (by kernel_rfl) ?_
  refine WE.skip ?_
  refine WQ.thenN ?_
  refine WE.seq ?_
  -- R5 law.go:26
  refine WE.region ?_
  refine WO.run 1 0 [(25, .pointer (some ⟨g3, 0, none⟩))] (by kernel_rfl) (by kernel_rfl) ?_
  refine WO.bx (SQ.E 1 (by kernel_rfl)) 26 #[.int .u8 97, .int .u8 98] 5 (fun g => .slice (some ⟨g, 0, none⟩) 2 2) (by kernel_rfl) (fun _ _ => trivial) ?_
  intro g9 w10 HB12 F11 le13 _
  have nin_g9_D4 : g9 ∉ D4 := new_nin (GDisk.lt HG6) le13
  have ge_HA_g9 := Nat.le_trans HA.size le13
  have HG6 := GDisk.keep HG6 F11 (fun _ _ => nin0 _)
  have HA := Fr.step0 HA F11
  refine WO.cst (g := g9) (n := 2) (c := 2) (SQ.E 2 (by kernel_rfl)) 27 byt ([(97 : UInt8), (98 : UInt8)] : List UInt8) (by kernel_rfl) HB12 rfl (fun _ _ => trivial) ?_
  intro w14 HV16 F15
  have HG6 := GDisk.keep HG6 F15 (djB nin_g9_D4)
  have HA := Fr.step HA F15 (inSR ge_HA_g9 inS0)
  obtain ⟨F17, hF17⟩ : ∃ F_, F_ = [g9] := ⟨_, rfl⟩
  rw [← hF17] at HV16
  have dj_F17_D4 : ∀ y ∈ F17, y ∉ D4 := by rw [hF17]; intro y hy; rw [List.mem_singleton.1 hy]; exact nin_g9_D4
  have ge_HA_F17 : ∀ y ∈ F17, (World.heap w).size ≤ y := by rw [hF17]; intro y hy; rw [List.mem_singleton.1 hy]; exact ge_HA_g9
  have hE22 := (show append (⟨10, [], false⟩ : Dk) 0 [97, 98] = (0, (⟨10, [⟨0, [97, 98], 0⟩], false⟩ : Dk)) by kernel_rfl)
  have ok23 := append_ok ok0 0 [97, 98] (by omega); rw [hE22] at ok23
  refine WO.call (SQ.E 3 (by kernel_rfl)) 28 (by kernel_rfl) (gappend g3 D4 (⟨10, [], false⟩ : Dk) 0 (some ⟨g9, 0, none⟩) 2 2 ([(97 : UInt8), (98 : UInt8)]) F17 _ HG6 ok0 (by omega) HV16 (rfl : List.length ([(97 : UInt8), (98 : UInt8)] : List UInt8) = 2) (by first | omega | (simp only [List.length_cons, List.length_nil]; omega)) (dj_symm dj_F17_D4) (by simp)) ?_
  rintro _ w18 ⟨rfl, D20, HG6, F19, hg21⟩
  rw [hE22] at HG6 ⊢
  refine ⟨_, rfl, trivial, ?_⟩
  have dj_D20_F17 : ∀ y ∈ D20, y ∉ F17 := grow_dj hg21 (dj_symm dj_F17_D4) HV16.lt
  have ge_HA_D20 : ∀ y ∈ D20, (World.heap w).size ≤ y := grow_ge hg21 ge_HA_D4 HA.size
  have HV16 := HV16.keep F19 dj_F17_D4
  have HA := Fr.step HA F19 (inF ge_HA_D4)
  refine WO.run 1 4 [(5, .nilIface)] (by kernel_rfl) (by kernel_rfl) ?_
  refine WO.done (by kernel_rfl) ?_
  refine WQ.keep [0, 1, 2, 4, 5, 24] (e' := [(0, .bool false), (1, .pointer (some ⟨g3, 0, none⟩)), (2, .nilIface), (4, .iface 36 (.int .i64 1)), (5, .nilIface), (24, .bool false)]) (by kernel_rfl) ?_
  refine WQ.thenN ?_
  refine WE.seq ?_
  -- R6 law.go:27
  refine WE.region ?_
  refine WO.run 1 0 [(29, .pointer (some ⟨g3, 0, none⟩))] (by kernel_rfl) (by kernel_rfl) ?_
  have hE28 := (show sync (⟨10, [⟨0, [97, 98], 0⟩], false⟩ : Dk) 0 = (0, (⟨10, [⟨0, [97, 98], 2⟩], false⟩ : Dk)) by kernel_rfl)
  have ok29 := sync_ok ok23 0; rw [hE28] at ok29
  refine WO.call (SQ.E 1 (by kernel_rfl)) 30 (by kernel_rfl) (gsync g3 D20 (⟨10, [⟨0, [97, 98], 0⟩], false⟩ : Dk) 0 _ HG6 ok23 (by omega)) ?_
  rintro _ w24 ⟨rfl, D26, HG6, F25, hg27⟩
  rw [hE28] at HG6 ⊢
  refine ⟨_, rfl, trivial, ?_⟩
  have dj_D26_F17 : ∀ y ∈ D26, y ∉ F17 := grow_dj hg27 dj_D20_F17 HV16.lt
  have ge_HA_D26 : ∀ y ∈ D26, (World.heap w).size ≤ y := grow_ge hg27 ge_HA_D20 HA.size
  have HV16 := HV16.keep F25 (dj_symm dj_D20_F17)
  have HA := Fr.step HA F25 (inF ge_HA_D20)
  refine WO.run 1 2 [(6, .nilIface)] (by kernel_rfl) (by kernel_rfl) ?_
  refine WO.done (by kernel_rfl) ?_
  refine WQ.keep [0, 1, 2, 4, 5, 6, 24] (e' := [(0, .bool false), (1, .pointer (some ⟨g3, 0, none⟩)), (2, .nilIface), (4, .iface 36 (.int .i64 1)), (5, .nilIface), (6, .nilIface), (24, .bool false)]) (by kernel_rfl) ?_
  refine WQ.thenN ?_
  refine WE.seq ?_
  -- R7 law.go:28
  refine WE.region ?_
  refine WO.run 1 0 [(31, .pointer (some ⟨g3, 0, none⟩))] (by kernel_rfl) (by kernel_rfl) ?_
  refine WO.bx (SQ.E 1 (by kernel_rfl)) 32 #[.int .u8 99, .int .u8 100] 5 (fun g => .slice (some ⟨g, 0, none⟩) 2 2) (by kernel_rfl) (fun _ _ => trivial) ?_
  intro g30 w31 HB33 F32 le34 _
  have nin_g30_F17 : g30 ∉ F17 := new_nin HV16.lt le34
  have nin_g30_D26 : g30 ∉ D26 := new_nin (GDisk.lt HG6) le34
  have ge_HA_g30 := Nat.le_trans HA.size le34
  have HV16 := HV16.keep F32 (fun _ _ => nin0 _)
  have HG6 := GDisk.keep HG6 F32 (fun _ _ => nin0 _)
  have HA := Fr.step0 HA F32
  refine WO.cst (g := g30) (n := 2) (c := 2) (SQ.E 2 (by kernel_rfl)) 33 byt ([(99 : UInt8), (100 : UInt8)] : List UInt8) (by kernel_rfl) HB33 rfl (fun _ _ => trivial) ?_
  intro w35 HV37 F36
  have HV16 := HV16.keep F36 (djB nin_g30_F17)
  have HG6 := GDisk.keep HG6 F36 (djB nin_g30_D26)
  have HA := Fr.step HA F36 (inSR ge_HA_g30 inS0)
  obtain ⟨F38, hF38⟩ : ∃ F_, F_ = [g30] := ⟨_, rfl⟩
  rw [← hF38] at HV37
  have dj_F38_F17 : ∀ y ∈ F38, y ∉ F17 := by rw [hF38]; intro y hy; rw [List.mem_singleton.1 hy]; exact nin_g30_F17
  have dj_F38_D26 : ∀ y ∈ F38, y ∉ D26 := by rw [hF38]; intro y hy; rw [List.mem_singleton.1 hy]; exact nin_g30_D26
  have ge_HA_F38 : ∀ y ∈ F38, (World.heap w).size ≤ y := by rw [hF38]; intro y hy; rw [List.mem_singleton.1 hy]; exact ge_HA_g30
  have hE43 := (show append (⟨10, [⟨0, [97, 98], 2⟩], false⟩ : Dk) 0 [99, 100] = (0, (⟨10, [⟨0, [97, 98, 99, 100], 2⟩], false⟩ : Dk)) by kernel_rfl)
  have ok44 := append_ok ok29 0 [99, 100] (by omega); rw [hE43] at ok44
  refine WO.call (SQ.E 3 (by kernel_rfl)) 34 (by kernel_rfl) (gappend g3 D26 (⟨10, [⟨0, [97, 98], 2⟩], false⟩ : Dk) 0 (some ⟨g30, 0, none⟩) 2 2 ([(99 : UInt8), (100 : UInt8)]) F38 _ HG6 ok29 (by omega) HV37 (rfl : List.length ([(99 : UInt8), (100 : UInt8)] : List UInt8) = 2) (by first | omega | (simp only [List.length_cons, List.length_nil]; omega)) (dj_symm dj_F38_D26) (by simp)) ?_
  rintro _ w39 ⟨rfl, D41, HG6, F40, hg42⟩
  rw [hE43] at HG6 ⊢
  refine ⟨_, rfl, trivial, ?_⟩
  have dj_D41_F17 : ∀ y ∈ D41, y ∉ F17 := grow_dj hg42 dj_D26_F17 HV16.lt
  have dj_D41_F38 : ∀ y ∈ D41, y ∉ F38 := grow_dj hg42 (dj_symm dj_F38_D26) HV37.lt
  have ge_HA_D41 : ∀ y ∈ D41, (World.heap w).size ≤ y := grow_ge hg42 ge_HA_D26 HA.size
  have HV16 := HV16.keep F40 (dj_symm dj_D26_F17)
  have HV37 := HV37.keep F40 dj_F38_D26
  have HA := Fr.step HA F40 (inF ge_HA_D26)
  refine WO.run 1 4 [(7, .nilIface)] (by kernel_rfl) (by kernel_rfl) ?_
  refine WO.done (by kernel_rfl) ?_
  refine WQ.keep [0, 1, 2, 4, 5, 6, 7, 24] (e' := [(0, .bool false), (1, .pointer (some ⟨g3, 0, none⟩)), (2, .nilIface), (4, .iface 36 (.int .i64 1)), (5, .nilIface), (6, .nilIface), (7, .nilIface), (24, .bool false)]) (by kernel_rfl) ?_
  refine WQ.thenN ?_
  refine WE.seq ?_
  -- R8 law.go:29
  refine WE.region ?_
  refine WO.run 1 0 [(35, .pointer (some ⟨g3, 0, none⟩))] (by kernel_rfl) (by kernel_rfl) ?_
  have hE47 := (show crash (⟨10, [⟨0, [97, 98, 99, 100], 2⟩], false⟩ : Dk) 1 = (⟨10, [⟨0, [97, 98, 99], 3⟩], true⟩ : Dk) by kernel_rfl)
  have ok48 := crash_ok ok44 1; rw [hE47] at ok48
  refine WO.call (SQ.E 1 (by kernel_rfl)) 36 (by kernel_rfl) (gcrash g3 D41 (⟨10, [⟨0, [97, 98, 99, 100], 2⟩], false⟩ : Dk) 1 _ HG6 ok44 (by simp) (by omega)) ?_
  rintro _ w45 ⟨rfl, HGn, F46⟩
  rw [hE47] at HGn
  refine ⟨_, rfl, trivial, ?_⟩
  have HV16 := HV16.keep F46 (dj_symm dj_D41_F17)
  have HV37 := HV37.keep F46 (dj_symm dj_D41_F38)
  have HA := Fr.step HA F46 (inF ge_HA_D41)
  have HG6 := HGn
  refine WO.done (by kernel_rfl) ?_
  refine WQ.keep [0, 1, 2, 4, 5, 6, 7, 24] (e' := [(0, .bool false), (1, .pointer (some ⟨g3, 0, none⟩)), (2, .nilIface), (4, .iface 36 (.int .i64 1)), (5, .nilIface), (6, .nilIface), (7, .nilIface), (24, .bool false)]) (by kernel_rfl) ?_
  refine WQ.thenN ?_
  refine WE.seq ?_
  -- R9 law.go:30
  refine WE.region ?_
  refine WO.run 1 0 [(37, .pointer (some ⟨g3, 0, none⟩))] (by kernel_rfl) (by kernel_rfl) ?_
  have hE53 := (show append (⟨10, [⟨0, [97, 98, 99], 3⟩], true⟩ : Dk) 0 [] = (10, (⟨10, [⟨0, [97, 98, 99], 3⟩], true⟩ : Dk)) by kernel_rfl)
  have ok54 := append_ok ok48 0 [] (by omega); rw [hE53] at ok54
  refine WO.call (SQ.E 1 (by kernel_rfl)) 38 (by kernel_rfl) (gappend g3 D41 (⟨10, [⟨0, [97, 98, 99], 3⟩], true⟩ : Dk) 0 none 0 0 [] [] _ HG6 ok48 (by omega) (VX.nil _ _) rfl (by simp) (by simp) (by simp)) ?_
  rintro _ w49 ⟨rfl, D51, HG6, F50, hg52⟩
  rw [hE53] at HG6 ⊢
  refine ⟨_, rfl, trivial, ?_⟩
  have dj_D51_F17 : ∀ y ∈ D51, y ∉ F17 := grow_dj hg52 dj_D41_F17 HV16.lt
  have dj_D51_F38 : ∀ y ∈ D51, y ∉ F38 := grow_dj hg52 dj_D41_F38 HV37.lt
  have ge_HA_D51 : ∀ y ∈ D51, (World.heap w).size ≤ y := grow_ge hg52 ge_HA_D41 HA.size
  have HV16 := HV16.keep F50 (dj_symm dj_D41_F17)
  have HV37 := HV37.keep F50 (dj_symm dj_D41_F38)
  have HA := Fr.step HA F50 (inF ge_HA_D41)
  refine WO.run 1 2 [(8, .iface 36 (.int .i64 10))] (by kernel_rfl) (by kernel_rfl) ?_
  refine WO.done (by kernel_rfl) ?_
  refine WQ.keep [0, 1, 2, 4, 5, 6, 7, 8, 24] (e' := [(0, .bool false), (1, .pointer (some ⟨g3, 0, none⟩)), (2, .nilIface), (4, .iface 36 (.int .i64 1)), (5, .nilIface), (6, .nilIface), (7, .nilIface), (8, .iface 36 (.int .i64 10)), (24, .bool false)]) (by kernel_rfl) ?_
  refine WQ.thenN ?_
  refine WE.seq ?_
  -- R10 law.go:31
  refine WE.region ?_
  refine WO.run 1 0 [(39, .pointer (some ⟨g3, 0, none⟩))] (by kernel_rfl) (by kernel_rfl) ?_
  have ok57 : Dk.Ok (⟨10, [⟨0, [97, 98, 99], 3⟩], false⟩ : Dk) := up_ok ok54
  refine WO.call (SQ.E 1 (by kernel_rfl)) 40 (by kernel_rfl) (gup g3 D51 (⟨10, [⟨0, [97, 98, 99], 3⟩], true⟩ : Dk) _ HG6) ?_
  rintro _ w55 ⟨rfl, HGn, F56⟩
  change GDisk _ _ _ (⟨10, [⟨0, [97, 98, 99], 3⟩], false⟩ : Dk) at HGn
  refine ⟨_, rfl, trivial, ?_⟩
  have HV16 := HV16.keep F56 (dj_symm dj_D51_F17)
  have HV37 := HV37.keep F56 (dj_symm dj_D51_F38)
  have HA := Fr.step HA F56 (inF ge_HA_D51)
  have HG6 := HGn
  refine WO.done (by kernel_rfl) ?_
  refine WQ.keep [0, 1, 2, 4, 5, 6, 7, 8, 24] (e' := [(0, .bool false), (1, .pointer (some ⟨g3, 0, none⟩)), (2, .nilIface), (4, .iface 36 (.int .i64 1)), (5, .nilIface), (6, .nilIface), (7, .nilIface), (8, .iface 36 (.int .i64 10)), (24, .bool false)]) (by kernel_rfl) ?_
  refine WQ.thenN ?_
  refine WE.seq ?_
  -- R11 law.go:32
  refine WE.region ?_
  refine WO.run 1 0 [(42, .pointer (some ⟨g3, 0, none⟩))] (by kernel_rfl) (by kernel_rfl) ?_
  have hE67 := (show read (⟨10, [⟨0, [97, 98, 99], 3⟩], false⟩ : Dk) 0 = ([97, 98, 99], 0) by kernel_rfl)
  refine WO.call (SQ.E 1 (by kernel_rfl)) 43 (by kernel_rfl) (gread g3 D51 (⟨10, [⟨0, [97, 98, 99], 3⟩], false⟩ : Dk) 0 _ HG6 ok57 (by omega)) ?_
  rintro _ w58 ⟨v60, G61, rfl, HO62, F59, ge63⟩
  rw [hE67] at HO62 ⊢
  refine ⟨_, rfl, trivial, ?_⟩
  obtain ⟨Ad64, cp65, rfl⟩ := HO62.sliceN (n := 3) ((List.length_map _).trans (rfl))
  have HVr66 := VX.of_own HO62
  have ge63r := fun y hy => Or.inr (a := y ∈ ([] : List Nat)) (ge63 y hy)
  have dj_G61_F17 : ∀ y ∈ G61, y ∉ F17 := grow_dj ge63r (by simp) HV16.lt
  have dj_G61_F38 : ∀ y ∈ G61, y ∉ F38 := grow_dj ge63r (by simp) HV37.lt
  have dj_G61_D51 : ∀ y ∈ G61, y ∉ D51 := grow_dj ge63r (by simp) (GDisk.lt HG6)
  have ge_HA_G61 : ∀ y ∈ G61, (World.heap w).size ≤ y := grow_ge ge63r (by simp) HA.size
  have HV16 := HV16.keep F59 (fun _ _ => nin0 _)
  have HV37 := HV37.keep F59 (fun _ _ => nin0 _)
  have HG6 := GDisk.keep HG6 F59 (fun _ _ => nin0 _)
  have HA := Fr.step0 HA F59
  refine WO.run 5 2 [(10, .nilIface), (9, .slice Ad64 3 cp65), (45, .nilIface), (44, .slice Ad64 3 cp65), (41, .tuple #[.slice Ad64 3 cp65, .nilIface])] (by kernel_rfl) (by kernel_rfl) ?_
  refine WO.done (by kernel_rfl) ?_
  refine WQ.keep [0, 1, 2, 4, 5, 6, 7, 8, 9, 10, 24] (e' := [(0, .bool false), (1, .pointer (some ⟨g3, 0, none⟩)), (2, .nilIface), (4, .iface 36 (.int .i64 1)), (5, .nilIface), (6, .nilIface), (7, .nilIface), (8, .iface 36 (.int .i64 10)), (9, .slice Ad64 3 cp65), (10, .nilIface), (24, .bool false)]) (by kernel_rfl) ?_
  refine WQ.thenN ?_
  refine WE.seq ?_
  -- R12 law.go:33
  refine WE.region ?_
  refine WO.run 26 0 [(71, .slice Ad64 3 cp65), (70, .bool true), (69, .bool true), (68, .bool true), (67, .nilIface), (66, .bool true), (65, .bool true), (64, .bool true), (63, .iface 36 (.int .i64 10)), (62, .iface 36 (.int .i64 10)), (61, .bool true), (60, .bool true), (59, .bool true), (58, .nilIface), (57, .bool true), (56, .bool true), (55, .bool true), (54, .nilIface), (53, .bool true), (52, .bool true), (51, .bool true), (50, .nilIface), (49, .bool true), (48, .bool true), (47, .iface 36 (.int .i64 1)), (46, .iface 36 (.int .i64 1))] (by kernel_rfl) (by kernel_rfl) ?_
  refine WO.b2s (v := .slice Ad64 3 cp65) (SQ.S 26 (by kernel_rfl)) 72 byt ([97, 98, 99]) (n := 3) rfl (by kernel_rfl) (same (HVr66.srcN rfl (cB_len _) (cB_one _) cp65)) ?_
  refine WO.one (SQ.F 27 (by kernel_rfl)) 73 (.bool ((str ([97, 98, 99])).toList == (⟨#[97, 98, 99]⟩ : ByteArray).toList)) (by kernel_rfl) ?_
  refine WO.top (v' := .bool (decide ((str ([97, 98, 99])) = (⟨#[97, 98, 99]⟩ : ByteArray)))) (congrArg Value.bool (streq (str ([97, 98, 99])) (⟨#[97, 98, 99]⟩ : ByteArray))) ?_
  refine WO.run 2 28 [(0, .bool (decide ((str ([97, 98, 99])) = (⟨#[97, 98, 99]⟩ : ByteArray)))), (74, .bool (decide ((str ([97, 98, 99])) = (⟨#[97, 98, 99]⟩ : ByteArray))))] (by kernel_rfl) (by kernel_rfl) ?_
  refine WO.done (by kernel_rfl) ?_
  refine WQ.keep [0, 1, 2, 4, 5, 6, 7, 8, 9, 10, 24] (e' := [(0, .bool (decide ((str ([97, 98, 99])) = (⟨#[97, 98, 99]⟩ : ByteArray)))), (1, .pointer (some ⟨g3, 0, none⟩)), (2, .nilIface), (4, .iface 36 (.int .i64 1)), (5, .nilIface), (6, .nilIface), (7, .nilIface), (8, .iface 36 (.int .i64 10)), (9, .slice Ad64 3 cp65), (10, .nilIface), (24, .bool false)]) (by kernel_rfl) ?_
  refine WQ.thenN ?_
  refine WE.ret ?_
  refine WQ.ret (v := .bool (decide ((str ([97, 98, 99])) = (⟨#[97, 98, 99]⟩ : ByteArray)))) (by kernel_rfl) ?_
  exact ⟨rfl, HA⟩

set_option maxRecDepth 100000 in
set_option maxHeartbeats 400000 in
theorem lasts_any (Aa Ab Ac : Option Addr) (na nb nc ca cb cc : Nat) (a b l : List UInt8) (Fa Fb Fc : List Nat) (keep : Int) (w : World) (HV1 : VX cB 1 w Fa Aa a) (hna : a.length = na) (HV2 : VX cB 1 w Fb Ab b) (hnb : b.length = nb) (HV3 : VX cB 1 w Fc Ac l) (hnc : l.length = nc) (hk : -9223372036854775808 ≤ keep ∧ keep ≤ 9223372036854775807) (hla : na * 1 ≤ 140737488351232 ∧ na ≤ ca) (hlb : nb * 1 ≤ 140737488351232 ∧ nb ≤ cb) (hlc : nc * 1 ≤ 140737488351232 ∧ nc ≤ cc) :
    Calls Try.prog 3 #[.slice Aa na ca, .slice Ab nb cb, .slice Ac nc cc, .int .i64 keep] w fun e w' => e = .returned (.bool true) ∧ Fr [] w w' := by
  have ok0 : Dk.Ok ⟨6000, [], false⟩ := ⟨List.Pairwise.nil, by simp, by decide, by decide, by simp⟩
  obtain ⟨m1, hm1⟩ : ∃ m1, m1 = min keep.toNat b.length := ⟨_, rfl⟩
  obtain ⟨m2, hm2⟩ : ∃ m2, m2 = min (keep.toNat - m1) l.length := ⟨_, rfl⟩
  have HA := Fr.refl [] w
  refine enter (N := 163) Try.func3 (c := _) rfl (by kernel_rfl) (by kernel_rfl) (e := [(0, .slice Aa na ca), (1, .slice Ab nb cb), (2, .slice Ac nc cc), (3, .int .i64 keep)]) (by kernel_rfl) ?_
  refine WE.seq ?_
  -- R0 law.go:118
  refine WE.region ?_
  refine WO.run 1 0 [(8, .bool false)] (by kernel_rfl) (by kernel_rfl) ?_
  refine WO.done (by kernel_rfl) ?_
  refine WQ.keep [0, 1, 2, 3, 8] (e' := [(0, .slice Aa na ca), (1, .slice Ab nb cb), (2, .slice Ac nc cc), (3, .int .i64 keep), (8, .bool false)]) (by kernel_rfl) ?_
  refine WQ.thenN ?_
  refine WE.seq ?_
  -- R1 law.go:119
  refine WE.region ?_
  refine WO.call (SQ.E 0 (by kernel_rfl)) 17 (by kernel_rfl) (up_any2 _) ?_
  rintro _ w1 ⟨rfl, F2⟩
  refine ⟨_, rfl, trivial, ?_⟩
  have HV1 := HV1.keep F2 (fun _ _ => nin0 _)
  have HV2 := HV2.keep F2 (fun _ _ => nin0 _)
  have HV3 := HV3.keep F2 (fun _ _ => nin0 _)
  have HA := Fr.step0 HA F2
  refine WO.run 1 1 [(9, .bool true)] (by kernel_rfl) (by kernel_rfl) ?_
  refine WO.done (by kernel_rfl) ?_
  refine WQ.keep [0, 1, 2, 3, 8, 9] (e' := [(0, .slice Aa na ca), (1, .slice Ab nb cb), (2, .slice Ac nc cc), (3, .int .i64 keep), (8, .bool false), (9, .bool true)]) (by kernel_rfl) ?_
  refine WQ.thenN ?_
  refine WE.seq ?_
  refine WE.seq ?_
  -- R2 law.go:120
  refine WE.region ?_
  refine WO.run 4 0 [(21, .int .i64 (nb : Int)), (20, .slice Ab nb cb), (19, .int .i64 (na : Int)), (18, .slice Aa na ca)] (by kernel_rfl) (by kernel_rfl) ?_
  refine WO.one (SQ.F 4 (by kernel_rfl)) 22 (.int .i64 (IntKind.i64.wrap ((na : Int) + (nb : Int)))) (by kernel_rfl) ?_
  refine WO.top (v' := .int .i64 ((na + nb : Nat) : Int)) (wrap_i64 (by omega) (by omega)) ?_
  refine WO.run 2 5 [(24, .int .i64 (nc : Int)), (23, .slice Ac nc cc)] (by kernel_rfl) (by kernel_rfl) ?_
  refine WO.one (SQ.F 7 (by kernel_rfl)) 25 (.int .i64 (IntKind.i64.wrap (((na + nb : Nat) : Int) + (nc : Int)))) (by kernel_rfl) ?_
  refine WO.top (v' := .int .i64 (((na + nb) + nc : Nat) : Int)) (wrap_i64 (by omega) (by omega)) ?_
  refine WO.one (SQ.F 8 (by kernel_rfl)) 26 (.bool (decide ((((na + nb) + nc : Int) : Int) > (5000 : Int)))) (by kernel_rfl) ?_
  refine WO.topP ((((na + nb) + nc : Int) : Int) > (5000 : Int)) ?_ ?_
  · intro h3
    refine WO.done (by kernel_rfl) ?_
    refine WQ.keep [0, 1, 2, 3, 8, 9, 26] (e' := [(0, .slice Aa na ca), (1, .slice Ab nb cb), (2, .slice Ac nc cc), (3, .int .i64 keep), (8, .bool false), (9, .bool true), (26, .bool true)]) (by kernel_rfl) ?_
    refine WQ.thenN ?_
    refine WE.condT (by kernel_rfl) ?_
    refine WE.seq ?_
    -- R3 law.go:121
    refine WE.region ?_
    refine WO.run 2 0 [(8, .bool true), (27, .bool true)] (by kernel_rfl) (by kernel_rfl) ?_
    refine WO.done (by kernel_rfl) ?_
    refine WQ.keep [0, 1, 2, 3, 8, 9, 26] (e' := [(0, .slice Aa na ca), (1, .slice Ab nb cb), (2, .slice Ac nc cc), (3, .int .i64 keep), (8, .bool true), (9, .bool true), (26, .bool true)]) (by kernel_rfl) ?_
    refine WQ.thenN ?_
    refine WE.ret ?_
    refine WQ.thenR ?_
    refine WQ.ret (v := .bool true) (by kernel_rfl) ?_
    exact ⟨rfl, HA⟩
  · intro h3
    refine WO.done (by kernel_rfl) ?_
    refine WQ.keep [0, 1, 2, 3, 8, 9, 26] (e' := [(0, .slice Aa na ca), (1, .slice Ab nb cb), (2, .slice Ac nc cc), (3, .int .i64 keep), (8, .bool false), (9, .bool true), (26, .bool false)]) (by kernel_rfl) ?_
    refine WQ.thenN ?_
    refine WE.condF (by kernel_rfl) ?_
    refine WE.skip ?_
    refine WQ.thenN ?_
    refine WE.seq ?_
    -- R4 law.go:123
    refine WE.region ?_
    refine WO.call (SQ.E 0 (by kernel_rfl)) 29 (by kernel_rfl) (gnew 6000 _ (by omega)) ?_
    rintro _ w4 ⟨g6, D7, rfl, HG9, F5, hg8⟩
    refine ⟨_, rfl, trivial, ?_⟩
    have dj_D7_Fa : ∀ y ∈ D7, y ∉ Fa := grow_dj hg8 (by simp) HV1.lt
    have dj_D7_Fb : ∀ y ∈ D7, y ∉ Fb := grow_dj hg8 (by simp) HV2.lt
    have dj_D7_Fc : ∀ y ∈ D7, y ∉ Fc := grow_dj hg8 (by simp) HV3.lt
    have ge_HA_D7 : ∀ y ∈ D7, (World.heap w).size ≤ y := grow_ge hg8 (by simp) HA.size
    have HV1 := HV1.keep F5 (fun _ _ => nin0 _)
    have HV2 := HV2.keep F5 (fun _ _ => nin0 _)
    have HV3 := HV3.keep F5 (fun _ _ => nin0 _)
    have HA := Fr.step0 HA F5
    refine WO.run 5 1 [(11, .nilIface), (10, .pointer (some ⟨g6, 0, none⟩)), (31, .nilIface), (30, .pointer (some ⟨g6, 0, none⟩)), (28, .tuple #[.pointer (some ⟨g6, 0, none⟩), .nilIface])] (by kernel_rfl) (by kernel_rfl) ?_
    refine WO.done (by kernel_rfl) ?_
    refine WQ.keep [0, 1, 2, 3, 8, 9, 10, 11, 26] (e' := [(0, .slice Aa na ca), (1, .slice Ab nb cb), (2, .slice Ac nc cc), (3, .int .i64 keep), (8, .bool false), (9, .bool true), (10, .pointer (some ⟨g6, 0, none⟩)), (11, .nilIface), (26, .bool false)]) (by kernel_rfl) ?_
    refine WQ.thenN ?_
    refine WE.seq ?_
    refine WE.seq ?_
    -- R5 law.go:124
    refine WE.region ?_
    refine WO.run 6 0 [(37, .bool false), (36, .bool false), (35, .nilIface), (34, .bool false), (33, .bool false), (32, .pointer (some ⟨g6, 0, none⟩))] (by kernel_rfl) (by kernel_rfl) ?_
    refine WO.done (by kernel_rfl) ?_
    refine WQ.keep [0, 1, 2, 3, 8, 9, 10, 11, 26, 37] (e' := [(0, .slice Aa na ca), (1, .slice Ab nb cb), (2, .slice Ac nc cc), (3, .int .i64 keep), (8, .bool false), (9, .bool true), (10, .pointer (some ⟨g6, 0, none⟩)), (11, .nilIface), (26, .bool false), (37, .bool false)]) (by kernel_rfl) ?_
    refine WQ.thenN ?_
    refine WE.condF (by kernel_rfl) ?_
    refine WE.skip ?_
    refine WQ.thenN ?_
    refine WE.seq ?_
    -- R7 law.go:127
    refine WE.region ?_
    refine WO.run 2 0 [(39, .slice Aa na ca), (38, .pointer (some ⟨g6, 0, none⟩))] (by kernel_rfl) (by kernel_rfl) ?_
    have hE14 := lasts1 a (by omega)
    have ok15 := append_ok ok0 1 a (by omega); rw [hE14] at ok15
    refine WO.call (SQ.E 2 (by kernel_rfl)) 40 (by kernel_rfl) (gappend g6 D7 (⟨6000, [], false⟩ : Dk) 1 Aa na ca a Fa _ HG9 ok0 (by omega) HV1 hna (by first | omega | (simp only [List.length_cons, List.length_nil]; omega)) dj_D7_Fa (by simp)) ?_
    rintro _ w10 ⟨rfl, D12, HG9, F11, hg13⟩
    rw [hE14] at HG9 ⊢
    refine ⟨_, rfl, trivial, ?_⟩
    have dj_D12_Fa : ∀ y ∈ D12, y ∉ Fa := grow_dj hg13 dj_D7_Fa HV1.lt
    have dj_D12_Fb : ∀ y ∈ D12, y ∉ Fb := grow_dj hg13 dj_D7_Fb HV2.lt
    have dj_D12_Fc : ∀ y ∈ D12, y ∉ Fc := grow_dj hg13 dj_D7_Fc HV3.lt
    have ge_HA_D12 : ∀ y ∈ D12, (World.heap w).size ≤ y := grow_ge hg13 ge_HA_D7 HA.size
    have HV1 := HV1.keep F11 (dj_symm dj_D7_Fa)
    have HV2 := HV2.keep F11 (dj_symm dj_D7_Fb)
    have HV3 := HV3.keep F11 (dj_symm dj_D7_Fc)
    have HA := Fr.step HA F11 (inF ge_HA_D7)
    refine WO.done (by kernel_rfl) ?_
    refine WQ.keep [0, 1, 2, 3, 8, 9, 10, 11, 26, 37] (e' := [(0, .slice Aa na ca), (1, .slice Ab nb cb), (2, .slice Ac nc cc), (3, .int .i64 keep), (8, .bool false), (9, .bool true), (10, .pointer (some ⟨g6, 0, none⟩)), (11, .nilIface), (26, .bool false), (37, .bool false)]) (by kernel_rfl) ?_
    refine WQ.thenN ?_
    refine WE.seq ?_
    -- R8 law.go:128
    refine WE.region ?_
    refine WO.run 1 0 [(41, .pointer (some ⟨g6, 0, none⟩))] (by kernel_rfl) (by kernel_rfl) ?_
    have hE20 := lasts2 a
    have ok21 := sync_ok ok15 1; rw [hE20] at ok21
    refine WO.call (SQ.E 1 (by kernel_rfl)) 42 (by kernel_rfl) (gsync g6 D12 (⟨6000, [⟨1, a, 0⟩], false⟩ : Dk) 1 _ HG9 ok15 (by omega)) ?_
    rintro _ w16 ⟨rfl, D18, HG9, F17, hg19⟩
    rw [hE20] at HG9 ⊢
    refine ⟨_, rfl, trivial, ?_⟩
    have dj_D18_Fa : ∀ y ∈ D18, y ∉ Fa := grow_dj hg19 dj_D12_Fa HV1.lt
    have dj_D18_Fb : ∀ y ∈ D18, y ∉ Fb := grow_dj hg19 dj_D12_Fb HV2.lt
    have dj_D18_Fc : ∀ y ∈ D18, y ∉ Fc := grow_dj hg19 dj_D12_Fc HV3.lt
    have ge_HA_D18 : ∀ y ∈ D18, (World.heap w).size ≤ y := grow_ge hg19 ge_HA_D12 HA.size
    have HV1 := HV1.keep F17 (dj_symm dj_D12_Fa)
    have HV2 := HV2.keep F17 (dj_symm dj_D12_Fb)
    have HV3 := HV3.keep F17 (dj_symm dj_D12_Fc)
    have HA := Fr.step HA F17 (inF ge_HA_D12)
    refine WO.done (by kernel_rfl) ?_
    refine WQ.keep [0, 1, 2, 3, 8, 9, 10, 11, 26, 37] (e' := [(0, .slice Aa na ca), (1, .slice Ab nb cb), (2, .slice Ac nc cc), (3, .int .i64 keep), (8, .bool false), (9, .bool true), (10, .pointer (some ⟨g6, 0, none⟩)), (11, .nilIface), (26, .bool false), (37, .bool false)]) (by kernel_rfl) ?_
    refine WQ.thenN ?_
    refine WE.seq ?_
    -- R9 law.go:129
    refine WE.region ?_
    refine WO.run 2 0 [(44, .slice Ab nb cb), (43, .pointer (some ⟨g6, 0, none⟩))] (by kernel_rfl) (by kernel_rfl) ?_
    have hE26 := lasts3 a b (by omega)
    have ok27 := append_ok ok21 1 b (by omega); rw [hE26] at ok27
    refine WO.call (SQ.E 2 (by kernel_rfl)) 45 (by kernel_rfl) (gappend g6 D18 (⟨6000, [⟨1, a, a.length⟩], false⟩ : Dk) 1 Ab nb cb b Fb _ HG9 ok21 (by omega) HV2 hnb (by first | omega | (simp only [List.length_cons, List.length_nil]; omega)) dj_D18_Fb (by simp)) ?_
    rintro _ w22 ⟨rfl, D24, HG9, F23, hg25⟩
    rw [hE26] at HG9 ⊢
    refine ⟨_, rfl, trivial, ?_⟩
    have dj_D24_Fa : ∀ y ∈ D24, y ∉ Fa := grow_dj hg25 dj_D18_Fa HV1.lt
    have dj_D24_Fb : ∀ y ∈ D24, y ∉ Fb := grow_dj hg25 dj_D18_Fb HV2.lt
    have dj_D24_Fc : ∀ y ∈ D24, y ∉ Fc := grow_dj hg25 dj_D18_Fc HV3.lt
    have ge_HA_D24 : ∀ y ∈ D24, (World.heap w).size ≤ y := grow_ge hg25 ge_HA_D18 HA.size
    have HV1 := HV1.keep F23 (dj_symm dj_D18_Fa)
    have HV2 := HV2.keep F23 (dj_symm dj_D18_Fb)
    have HV3 := HV3.keep F23 (dj_symm dj_D18_Fc)
    have HA := Fr.step HA F23 (inF ge_HA_D18)
    refine WO.done (by kernel_rfl) ?_
    refine WQ.keep [0, 1, 2, 3, 8, 9, 10, 11, 26, 37] (e' := [(0, .slice Aa na ca), (1, .slice Ab nb cb), (2, .slice Ac nc cc), (3, .int .i64 keep), (8, .bool false), (9, .bool true), (10, .pointer (some ⟨g6, 0, none⟩)), (11, .nilIface), (26, .bool false), (37, .bool false)]) (by kernel_rfl) ?_
    refine WQ.thenN ?_
    refine WE.seq ?_
    -- R10 law.go:130
    refine WE.region ?_
    refine WO.run 2 0 [(47, .slice Ac nc cc), (46, .pointer (some ⟨g6, 0, none⟩))] (by kernel_rfl) (by kernel_rfl) ?_
    have hE32 := lasts4 a b l (by omega)
    have ok33 := append_ok ok27 2 l (by omega); rw [hE32] at ok33
    refine WO.call (SQ.E 2 (by kernel_rfl)) 48 (by kernel_rfl) (gappend g6 D24 (⟨6000, [⟨1, a ++ b, a.length⟩], false⟩ : Dk) 2 Ac nc cc l Fc _ HG9 ok27 (by omega) HV3 hnc (by first | omega | (simp only [List.length_cons, List.length_nil]; omega)) dj_D24_Fc (by simp)) ?_
    rintro _ w28 ⟨rfl, D30, HG9, F29, hg31⟩
    rw [hE32] at HG9 ⊢
    refine ⟨_, rfl, trivial, ?_⟩
    have dj_D30_Fa : ∀ y ∈ D30, y ∉ Fa := grow_dj hg31 dj_D24_Fa HV1.lt
    have dj_D30_Fb : ∀ y ∈ D30, y ∉ Fb := grow_dj hg31 dj_D24_Fb HV2.lt
    have dj_D30_Fc : ∀ y ∈ D30, y ∉ Fc := grow_dj hg31 dj_D24_Fc HV3.lt
    have ge_HA_D30 : ∀ y ∈ D30, (World.heap w).size ≤ y := grow_ge hg31 ge_HA_D24 HA.size
    have HV1 := HV1.keep F29 (dj_symm dj_D24_Fa)
    have HV2 := HV2.keep F29 (dj_symm dj_D24_Fb)
    have HV3 := HV3.keep F29 (dj_symm dj_D24_Fc)
    have HA := Fr.step HA F29 (inF ge_HA_D24)
    refine WO.done (by kernel_rfl) ?_
    refine WQ.keep [0, 1, 2, 3, 8, 9, 10, 11, 26, 37] (e' := [(0, .slice Aa na ca), (1, .slice Ab nb cb), (2, .slice Ac nc cc), (3, .int .i64 keep), (8, .bool false), (9, .bool true), (10, .pointer (some ⟨g6, 0, none⟩)), (11, .nilIface), (26, .bool false), (37, .bool false)]) (by kernel_rfl) ?_
    refine WQ.thenN ?_
    refine WE.seq ?_
    -- R11 law.go:131
    refine WE.region ?_
    refine WO.run 2 0 [(50, .int .i64 keep), (49, .pointer (some ⟨g6, 0, none⟩))] (by kernel_rfl) (by kernel_rfl) ?_
    have hE36 := lasts5 a b l keep hm1 hm2
    have ok37 := crash_ok ok33 keep; rw [hE36] at ok37
    refine WO.call (SQ.E 2 (by kernel_rfl)) 51 (by kernel_rfl) (gcrash g6 D30 (⟨6000, [⟨1, a ++ b, a.length⟩, ⟨2, l, 0⟩], false⟩ : Dk) keep _ HG9 ok33 (by simp) (by omega)) ?_
    rintro _ w34 ⟨rfl, HGn, F35⟩
    rw [hE36] at HGn
    refine ⟨_, rfl, trivial, ?_⟩
    have HV1 := HV1.keep F35 (dj_symm dj_D30_Fa)
    have HV2 := HV2.keep F35 (dj_symm dj_D30_Fb)
    have HV3 := HV3.keep F35 (dj_symm dj_D30_Fc)
    have HA := Fr.step HA F35 (inF ge_HA_D30)
    have HG9 := HGn
    refine WO.done (by kernel_rfl) ?_
    refine WQ.keep [0, 1, 2, 3, 8, 9, 10, 11, 26, 37] (e' := [(0, .slice Aa na ca), (1, .slice Ab nb cb), (2, .slice Ac nc cc), (3, .int .i64 keep), (8, .bool false), (9, .bool true), (10, .pointer (some ⟨g6, 0, none⟩)), (11, .nilIface), (26, .bool false), (37, .bool false)]) (by kernel_rfl) ?_
    refine WQ.thenN ?_
    refine WE.seq ?_
    -- R12 law.go:132
    refine WE.region ?_
    refine WO.run 1 0 [(52, .pointer (some ⟨g6, 0, none⟩))] (by kernel_rfl) (by kernel_rfl) ?_
    have ok40 : Dk.Ok (⟨6000, [⟨1, a ++ b.take m1, a.length + m1⟩, ⟨2, l.take m2, m2⟩], false⟩ : Dk) := up_ok ok37
    refine WO.call (SQ.E 1 (by kernel_rfl)) 53 (by kernel_rfl) (gup g6 D30 (⟨6000, [⟨1, a ++ b.take m1, a.length + m1⟩, ⟨2, l.take m2, m2⟩], true⟩ : Dk) _ HG9) ?_
    rintro _ w38 ⟨rfl, HGn, F39⟩
    change GDisk _ _ _ (⟨6000, [⟨1, a ++ b.take m1, a.length + m1⟩, ⟨2, l.take m2, m2⟩], false⟩ : Dk) at HGn
    refine ⟨_, rfl, trivial, ?_⟩
    have HV1 := HV1.keep F39 (dj_symm dj_D30_Fa)
    have HV2 := HV2.keep F39 (dj_symm dj_D30_Fb)
    have HV3 := HV3.keep F39 (dj_symm dj_D30_Fc)
    have HA := Fr.step HA F39 (inF ge_HA_D30)
    have HG9 := HGn
    refine WO.done (by kernel_rfl) ?_
    refine WQ.keep [0, 1, 2, 3, 8, 9, 10, 11, 26, 37] (e' := [(0, .slice Aa na ca), (1, .slice Ab nb cb), (2, .slice Ac nc cc), (3, .int .i64 keep), (8, .bool false), (9, .bool true), (10, .pointer (some ⟨g6, 0, none⟩)), (11, .nilIface), (26, .bool false), (37, .bool false)]) (by kernel_rfl) ?_
    refine WQ.thenN ?_
    refine WE.seq ?_
    -- R13 law.go:133
    refine WE.region ?_
    refine WO.run 1 0 [(55, .pointer (some ⟨g6, 0, none⟩))] (by kernel_rfl) (by kernel_rfl) ?_
    have hE50 := lasts6 a b l m1 m2
    refine WO.call (SQ.E 1 (by kernel_rfl)) 56 (by kernel_rfl) (gread g6 D30 (⟨6000, [⟨1, a ++ b.take m1, a.length + m1⟩, ⟨2, l.take m2, m2⟩], false⟩ : Dk) 1 _ HG9 ok40 (by omega)) ?_
    rintro _ w41 ⟨v43, G44, rfl, HO45, F42, ge46⟩
    rw [hE50] at HO45 ⊢
    refine ⟨_, rfl, trivial, ?_⟩
    obtain ⟨Ad47, cp48, rfl⟩ := HO45.sliceN (n := (na + m1)) ((List.length_map _).trans (by rw [List.length_append, List.length_take]; omega))
    have HVr49 := VX.of_own HO45
    have ge46r := fun y hy => Or.inr (a := y ∈ ([] : List Nat)) (ge46 y hy)
    have dj_G44_Fa : ∀ y ∈ G44, y ∉ Fa := grow_dj ge46r (by simp) HV1.lt
    have dj_G44_Fb : ∀ y ∈ G44, y ∉ Fb := grow_dj ge46r (by simp) HV2.lt
    have dj_G44_Fc : ∀ y ∈ G44, y ∉ Fc := grow_dj ge46r (by simp) HV3.lt
    have dj_G44_D30 : ∀ y ∈ G44, y ∉ D30 := grow_dj ge46r (by simp) (GDisk.lt HG9)
    have ge_HA_G44 : ∀ y ∈ G44, (World.heap w).size ≤ y := grow_ge ge46r (by simp) HA.size
    have HV1 := HV1.keep F42 (fun _ _ => nin0 _)
    have HV2 := HV2.keep F42 (fun _ _ => nin0 _)
    have HV3 := HV3.keep F42 (fun _ _ => nin0 _)
    have HG9 := GDisk.keep HG9 F42 (fun _ _ => nin0 _)
    have HA := Fr.step0 HA F42
    refine WO.run 5 2 [(13, .nilIface), (12, .slice Ad47 (na + m1) cp48), (58, .nilIface), (57, .slice Ad47 (na + m1) cp48), (54, .tuple #[.slice Ad47 (na + m1) cp48, .nilIface])] (by kernel_rfl) (by kernel_rfl) ?_
    refine WO.done (by kernel_rfl) ?_
    refine WQ.keep [0, 1, 2, 3, 8, 9, 10, 11, 12, 13, 26, 37] (e' := [(0, .slice Aa na ca), (1, .slice Ab nb cb), (2, .slice Ac nc cc), (3, .int .i64 keep), (8, .bool false), (9, .bool true), (10, .pointer (some ⟨g6, 0, none⟩)), (11, .nilIface), (12, .slice Ad47 (na + m1) cp48), (13, .nilIface), (26, .bool false), (37, .bool false)]) (by kernel_rfl) ?_
    refine WQ.thenN ?_
    refine WE.seq ?_
    -- R14 law.go:134
    refine WE.region ?_
    refine WO.run 1 0 [(60, .pointer (some ⟨g6, 0, none⟩))] (by kernel_rfl) (by kernel_rfl) ?_
    have hE60 := lasts7 a b l m1 m2
    refine WO.call (SQ.E 1 (by kernel_rfl)) 61 (by kernel_rfl) (gread g6 D30 (⟨6000, [⟨1, a ++ b.take m1, a.length + m1⟩, ⟨2, l.take m2, m2⟩], false⟩ : Dk) 2 _ HG9 ok40 (by omega)) ?_
    rintro _ w51 ⟨v53, G54, rfl, HO55, F52, ge56⟩
    rw [hE60] at HO55 ⊢
    refine ⟨_, rfl, trivial, ?_⟩
    obtain ⟨Ad57, cp58, rfl⟩ := HO55.sliceN (n := m2) ((List.length_map _).trans (by rw [List.length_take]; omega))
    have HVr59 := VX.of_own HO55
    have ge56r := fun y hy => Or.inr (a := y ∈ ([] : List Nat)) (ge56 y hy)
    have dj_G54_Fa : ∀ y ∈ G54, y ∉ Fa := grow_dj ge56r (by simp) HV1.lt
    have dj_G54_Fb : ∀ y ∈ G54, y ∉ Fb := grow_dj ge56r (by simp) HV2.lt
    have dj_G54_Fc : ∀ y ∈ G54, y ∉ Fc := grow_dj ge56r (by simp) HV3.lt
    have dj_G54_D30 : ∀ y ∈ G54, y ∉ D30 := grow_dj ge56r (by simp) (GDisk.lt HG9)
    have dj_G54_G44 : ∀ y ∈ G54, y ∉ G44 := grow_dj ge56r (by simp) HVr49.lt
    have ge_HA_G54 : ∀ y ∈ G54, (World.heap w).size ≤ y := grow_ge ge56r (by simp) HA.size
    have HV1 := HV1.keep F52 (fun _ _ => nin0 _)
    have HV2 := HV2.keep F52 (fun _ _ => nin0 _)
    have HV3 := HV3.keep F52 (fun _ _ => nin0 _)
    have HG9 := GDisk.keep HG9 F52 (fun _ _ => nin0 _)
    have HVr49 := HVr49.keep F52 (fun _ _ => nin0 _)
    have HA := Fr.step0 HA F52
    refine WO.run 5 2 [(15, .nilIface), (14, .slice Ad57 m2 cp58), (63, .nilIface), (62, .slice Ad57 m2 cp58), (59, .tuple #[.slice Ad57 m2 cp58, .nilIface])] (by kernel_rfl) (by kernel_rfl) ?_
    refine WO.done (by kernel_rfl) ?_
    refine WQ.keep [0, 1, 2, 3, 8, 9, 10, 11, 12, 13, 14, 15, 26, 37] (e' := [(0, .slice Aa na ca), (1, .slice Ab nb cb), (2, .slice Ac nc cc), (3, .int .i64 keep), (8, .bool false), (9, .bool true), (10, .pointer (some ⟨g6, 0, none⟩)), (11, .nilIface), (12, .slice Ad47 (na + m1) cp48), (13, .nilIface), (14, .slice Ad57 m2 cp58), (15, .nilIface), (26, .bool false), (37, .bool false)]) (by kernel_rfl) ?_
    refine WQ.thenN ?_
    refine WE.seq ?_
    refine WE.seq ?_
    -- R15 law.go:135
    refine WE.region ?_
    refine WO.run 11 0 [(74, .int .i64 (na : Int)), (73, .slice Aa na ca), (72, .int .i64 ((na + m1) : Int)), (71, .slice Ad47 (na + m1) cp48), (70, .bool false), (69, .bool false), (68, .bool false), (67, .nilIface), (66, .bool false), (65, .bool false), (64, .nilIface)] (by kernel_rfl) (by kernel_rfl) ?_
    refine WO.one (SQ.F 11 (by kernel_rfl)) 75 (.bool (decide ((((na + m1) : Int) : Int) < (na : Int)))) (by kernel_rfl) ?_
    refine WO.topPF ((((na + m1) : Int) : Int) < (na : Int)) (by omega) ?_
    refine WO.run 8 12 [(83, .int .i64 (nb : Int)), (82, .slice Ab nb cb), (81, .int .i64 (na : Int)), (80, .slice Aa na ca), (79, .int .i64 ((na + m1) : Int)), (78, .slice Ad47 (na + m1) cp48), (77, .bool false), (76, .bool false)] (by kernel_rfl) (by kernel_rfl) ?_
    refine WO.one (SQ.F 20 (by kernel_rfl)) 84 (.int .i64 (IntKind.i64.wrap ((na : Int) + (nb : Int)))) (by kernel_rfl) ?_
    refine WO.top (v' := .int .i64 ((na + nb : Nat) : Int)) (wrap_i64 (by omega) (by omega)) ?_
    refine WO.one (SQ.F 21 (by kernel_rfl)) 85 (.bool (decide ((((na + m1) : Int) : Int) > (na + nb : Int)))) (by kernel_rfl) ?_
    refine WO.topPF ((((na + m1) : Int) : Int) > (na + nb : Int)) (by omega) ?_
    refine WO.run 6 22 [(91, .int .i64 (nc : Int)), (90, .slice Ac nc cc), (89, .int .i64 (m2 : Int)), (88, .slice Ad57 m2 cp58), (87, .bool false), (86, .bool false)] (by kernel_rfl) (by kernel_rfl) ?_
    refine WO.one (SQ.F 28 (by kernel_rfl)) 92 (.bool (decide (((m2 : Int) : Int) > (nc : Int)))) (by kernel_rfl) ?_
    refine WO.topPF (((m2 : Int) : Int) > (nc : Int)) (by omega) ?_
    refine WO.run 1 29 [(93, .bool false)] (by kernel_rfl) (by kernel_rfl) ?_
    refine WO.done (by kernel_rfl) ?_
    refine WQ.keep [0, 1, 2, 3, 8, 9, 10, 11, 12, 13, 14, 15, 26, 37, 93] (e' := [(0, .slice Aa na ca), (1, .slice Ab nb cb), (2, .slice Ac nc cc), (3, .int .i64 keep), (8, .bool false), (9, .bool true), (10, .pointer (some ⟨g6, 0, none⟩)), (11, .nilIface), (12, .slice Ad47 (na + m1) cp48), (13, .nilIface), (14, .slice Ad57 m2 cp58), (15, .nilIface), (26, .bool false), (37, .bool false), (93, .bool false)]) (by kernel_rfl) ?_
    refine WQ.thenN ?_
    refine WE.condF (by kernel_rfl) ?_
    refine WE.skip ?_
    refine WQ.thenN ?_
    refine WE.seq ?_
    -- R17 law.go:138
    refine WE.region ?_
    refine WO.run 4 0 [(97, .int .i64 (na : Int)), (96, .slice Aa na ca), (95, .int .i64 ((na + m1) : Int)), (94, .slice Ad47 (na + m1) cp48)] (by kernel_rfl) (by kernel_rfl) ?_
    refine WO.one (SQ.F 4 (by kernel_rfl)) 98 (.int .i64 (IntKind.i64.wrap (((na + m1) : Int) - (na : Int)))) (by kernel_rfl) ?_
    refine WO.top (v' := .int .i64 (((na + m1) - na : Nat) : Int)) (wrap_i64 (by omega) (by omega)) ?_
    refine WO.run 2 5 [(100, .int .i64 (m2 : Int)), (99, .slice Ad57 m2 cp58)] (by kernel_rfl) (by kernel_rfl) ?_
    refine WO.one (SQ.F 7 (by kernel_rfl)) 101 (.int .i64 (IntKind.i64.wrap ((((na + m1) - na : Nat) : Int) + (m2 : Int)))) (by kernel_rfl) ?_
    refine WO.top (v' := .int .i64 ((((na + m1) - na) + m2 : Nat) : Int)) (wrap_i64 (by omega) (by omega)) ?_
    refine WO.run 1 8 [(16, .int .i64 ((((na + m1) - na) + m2 : Nat) : Int))] (by kernel_rfl) (by kernel_rfl) ?_
    refine WO.done (by kernel_rfl) ?_
    refine WQ.keep [0, 1, 2, 3, 8, 9, 10, 11, 12, 13, 14, 15, 16, 26, 37, 93] (e' := [(0, .slice Aa na ca), (1, .slice Ab nb cb), (2, .slice Ac nc cc), (3, .int .i64 keep), (8, .bool false), (9, .bool true), (10, .pointer (some ⟨g6, 0, none⟩)), (11, .nilIface), (12, .slice Ad47 (na + m1) cp48), (13, .nilIface), (14, .slice Ad57 m2 cp58), (15, .nilIface), (16, .int .i64 ((((na + m1) - na) + m2 : Nat) : Int)), (26, .bool false), (37, .bool false), (93, .bool false)]) (by kernel_rfl) ?_
    refine WQ.thenN ?_
    refine WE.seq ?_
    refine WE.seq ?_
    -- R18 law.go:139
    refine WE.region ?_
    refine WO.run 1 0 [(102, .int .i64 keep)] (by kernel_rfl) (by kernel_rfl) ?_
    refine WO.one (SQ.F 1 (by kernel_rfl)) 103 (.bool (decide ((keep : Int) < 0))) (by kernel_rfl) ?_
    refine WO.topP ((keep : Int) < 0) ?_ ?_
    · intro h61
      refine WO.done (by kernel_rfl) ?_
      refine WQ.keep [0, 1, 2, 3, 8, 9, 10, 11, 12, 13, 14, 15, 16, 26, 37, 93, 103] (e' := [(0, .slice Aa na ca), (1, .slice Ab nb cb), (2, .slice Ac nc cc), (3, .int .i64 keep), (8, .bool false), (9, .bool true), (10, .pointer (some ⟨g6, 0, none⟩)), (11, .nilIface), (12, .slice Ad47 (na + m1) cp48), (13, .nilIface), (14, .slice Ad57 m2 cp58), (15, .nilIface), (16, .int .i64 ((((na + m1) - na) + m2 : Nat) : Int)), (26, .bool false), (37, .bool false), (93, .bool false), (103, .bool true)]) (by kernel_rfl) ?_
      refine WQ.thenN ?_
      refine WE.condT (by kernel_rfl) ?_
      -- R19 law.go:140
      refine WE.region ?_
      refine WO.run 1 0 [(3, .int .i64 0)] (by kernel_rfl) (by kernel_rfl) ?_
      refine WO.done (by kernel_rfl) ?_
      refine WQ.keep [0, 1, 2, 3, 8, 9, 10, 11, 12, 13, 14, 15, 16, 26, 37, 93, 103] (e' := [(0, .slice Aa na ca), (1, .slice Ab nb cb), (2, .slice Ac nc cc), (3, .int .i64 0), (8, .bool false), (9, .bool true), (10, .pointer (some ⟨g6, 0, none⟩)), (11, .nilIface), (12, .slice Ad47 (na + m1) cp48), (13, .nilIface), (14, .slice Ad57 m2 cp58), (15, .nilIface), (16, .int .i64 ((((na + m1) - na) + m2 : Nat) : Int)), (26, .bool false), (37, .bool false), (93, .bool false), (103, .bool true)]) (by kernel_rfl) ?_
      refine WQ.thenN ?_
      refine WE.seq ?_
      refine WE.seq ?_
      -- R20* law.go:142
      refine WE.draw [.free, .still, .free, .still, .free, .free, .free, .free, .free, .free, .free, .still, .free, .free, .free, .free, .still, .free, .free, .free, .free, .still, .free, .free] Same sameR (by kernel_rfl) 24 (Array.replicate 24 false) (by kernel_rfl) rfl ?_
      intro w62 F63 _
      have HV1 := HV1.keep F63 (fun _ _ => nin0 _)
      have HV2 := HV2.keep F63 (fun _ _ => nin0 _)
      have HV3 := HV3.keep F63 (fun _ _ => nin0 _)
      have HG9 := GDisk.keep HG9 F63 (fun _ _ => nin0 _)
      have HVr49 := HVr49.keep F63 (fun _ _ => nin0 _)
      have HVr59 := HVr59.keep F63 (fun _ _ => nin0 _)
      have HA := Fr.step0 HA F63
      refine WO.one (SA.F sameR sameT _ 0 _ (by kernel_rfl)) 104 (.slice Ad47 (na + m1) cp48) (by kernel_rfl) ?_
      refine WO.b2s (v := .slice Ad47 (na + m1) cp48) (SA.S sameR sameT _ 1 _ (by kernel_rfl)) 105 byt (a ++ b.take m1) (n := (na + m1)) (by rw [List.length_append, List.length_take]; omega) (by kernel_rfl) (same (HVr49.srcN (by rw [List.length_append, List.length_take]; omega) (cB_len _) (cB_one _) cp48)) ?_
      refine WO.one (SA.F sameR sameT _ 2 _ (by kernel_rfl)) 106 (.slice Aa na ca) (by kernel_rfl) ?_
      refine WO.b2s (v := .slice Aa na ca) (SA.S sameR sameT _ 3 _ (by kernel_rfl)) 107 byt a (n := na) hna (by kernel_rfl) (same (HV1.srcN hna (cB_len _) (cB_one _) ca)) ?_
      refine WO.one (SA.F sameR sameT _ 4 _ (by kernel_rfl)) 108 (.slice Ab nb cb) (by kernel_rfl) ?_
      refine WO.one (SA.F sameR sameT _ 5 _ (by kernel_rfl)) 109 (.slice Ad47 (na + m1) cp48) (by kernel_rfl) ?_
      refine WO.one (SA.F sameR sameT _ 6 _ (by kernel_rfl)) 110 (.int .i64 ((na + m1) : Int)) (by kernel_rfl) ?_
      refine WO.one (SA.F sameR sameT _ 7 _ (by kernel_rfl)) 111 (.slice Aa na ca) (by kernel_rfl) ?_
      refine WO.one (SA.F sameR sameT _ 8 _ (by kernel_rfl)) 112 (.int .i64 (na : Int)) (by kernel_rfl) ?_
      refine WO.one (SA.F sameR sameT _ 9 _ (by kernel_rfl)) 113 (.int .i64 (IntKind.i64.wrap (((na + m1) : Int) - (na : Int)))) (by kernel_rfl) ?_
      refine WO.top (v' := .int .i64 (((na + m1) - na : Nat) : Int)) (wrap_i64 (by omega) (by omega)) ?_
      refine WO.sl (SA.F sameR sameT _ 10 _ (by kernel_rfl)) 114 0 ((na + m1) - na) Ab nb cb 1 none (some (((na + m1) - na : Nat) : Int)) (by kernel_rfl) (by rfl) (by simp only [Option.getD_some] <;> omega) (by omega) (by omega) ?_
      refine WO.top (sl0 _ _ _ _) ?_
      refine WO.b2s (v := .slice Ab ((na + m1) - na) cb) (SA.S sameR sameT _ 11 _ (by kernel_rfl)) 115 byt (b.take ((na + m1) - na)) (n := ((na + m1) - na)) (show (b.take ((na + m1) - na)).length = (na + m1) - na by rw [List.length_take]; have := hnb; omega) (by kernel_rfl) (same ((HV2.take ((na + m1) - na)).srcN (show (b.take ((na + m1) - na)).length = (na + m1) - na by rw [List.length_take]; have := hnb; omega) (cB_len _) (cB_one _) _)) ?_
      refine WO.cat (SA.F sameR sameT _ 12 _ (by kernel_rfl)) 116 (str a) (str (b.take ((na + m1) - na))) (by kernel_rfl) (by simp only [str_size, List.length_append, List.length_take] at *; omega) ?_
      refine WO.top (v' := .string (str (a ++ (b.take ((na + m1) - na))))) (congrArg Value.string (str_app _ _)) ?_
      refine WO.one (SA.F sameR sameT _ 13 _ (by kernel_rfl)) 117 (.bool (!((str (a ++ b.take m1)).toList == (str (a ++ (b.take ((na + m1) - na)))).toList))) (by kernel_rfl) ?_
      refine WO.top (v' := .bool (!decide ((str (a ++ b.take m1)) = (str (a ++ (b.take ((na + m1) - na))))))) (congrArg Value.bool (congrArg not (streq (str (a ++ b.take m1)) (str (a ++ (b.take ((na + m1) - na))))))) ?_
      refine WO.topNT ((str (a ++ b.take m1)) = (str (a ++ (b.take ((na + m1) - na))))) (by rw [show na + m1 - na = m1 by omega]) ?_
      refine WO.one (SA.F sameR sameT _ 14 _ (by kernel_rfl)) 118 (.bool false) (by kernel_rfl) ?_
      refine WO.one (SA.F sameR sameT _ 15 _ (by kernel_rfl)) 119 (.slice Ad57 m2 cp58) (by kernel_rfl) ?_
      refine WO.b2s (v := .slice Ad57 m2 cp58) (SA.S sameR sameT _ 16 _ (by kernel_rfl)) 120 byt (l.take m2) (n := m2) (by rw [List.length_take]; omega) (by kernel_rfl) (same (HVr59.srcN (by rw [List.length_take]; omega) (cB_len _) (cB_one _) cp58)) ?_
      refine WO.one (SA.F sameR sameT _ 17 _ (by kernel_rfl)) 121 (.slice Ac nc cc) (by kernel_rfl) ?_
      refine WO.one (SA.F sameR sameT _ 18 _ (by kernel_rfl)) 122 (.slice Ad57 m2 cp58) (by kernel_rfl) ?_
      refine WO.one (SA.F sameR sameT _ 19 _ (by kernel_rfl)) 123 (.int .i64 (m2 : Int)) (by kernel_rfl) ?_
      refine WO.sl (SA.F sameR sameT _ 20 _ (by kernel_rfl)) 124 0 m2 Ac nc cc 1 none (some (m2 : Int)) (by kernel_rfl) (by rfl) (by simp only [Option.getD_some] <;> omega) (by omega) (by omega) ?_
      refine WO.top (sl0 _ _ _ _) ?_
      refine WO.b2s (v := .slice Ac m2 cc) (SA.S sameR sameT _ 21 _ (by kernel_rfl)) 125 byt (l.take m2) (n := m2) (show (l.take m2).length = m2 by rw [List.length_take]; have := hnc; omega) (by kernel_rfl) (same ((HV3.take m2).srcN (show (l.take m2).length = m2 by rw [List.length_take]; have := hnc; omega) (cB_len _) (cB_one _) _)) ?_
      refine WO.one (SA.F sameR sameT _ 22 _ (by kernel_rfl)) 126 (.bool (!((str (l.take m2)).toList == (str (l.take m2)).toList))) (by kernel_rfl) ?_
      refine WO.top (v' := .bool (!decide ((str (l.take m2)) = (str (l.take m2))))) (congrArg Value.bool (congrArg not (streq (str (l.take m2)) (str (l.take m2))))) ?_
      refine WO.topNT ((str (l.take m2)) = (str (l.take m2))) (by rfl) ?_
      refine WO.one (SA.F sameR sameT _ 23 _ (by kernel_rfl)) 127 (.bool false) (by kernel_rfl) ?_
      refine WO.doneA (by kernel_rfl) ?_
      refine WQ.keep [0, 1, 2, 3, 8, 9, 10, 11, 12, 13, 14, 15, 16, 26, 37, 93, 103, 127] (e' := [(0, .slice Aa na ca), (1, .slice Ab nb cb), (2, .slice Ac nc cc), (3, .int .i64 0), (8, .bool false), (9, .bool true), (10, .pointer (some ⟨g6, 0, none⟩)), (11, .nilIface), (12, .slice Ad47 (na + m1) cp48), (13, .nilIface), (14, .slice Ad57 m2 cp58), (15, .nilIface), (16, .int .i64 ((((na + m1) - na) + m2 : Nat) : Int)), (26, .bool false), (37, .bool false), (93, .bool false), (103, .bool true), (127, .bool false)]) (by kernel_rfl) ?_
      refine WQ.thenN ?_
      refine WE.condF (by kernel_rfl) ?_
      refine WE.skip ?_
      refine WQ.thenN ?_
      refine WE.seq ?_
      -- R22 law.go:145
      refine WE.region ?_
      refine WO.run 4 0 [(131, .int .i64 0), (130, .int .i64 ((((na + m1) - na) + m2 : Nat) : Int)), (129, .bool true), (128, .bool true)] (by kernel_rfl) (by kernel_rfl) ?_
      refine WO.one (SQ.F 4 (by kernel_rfl)) 132 (.bool (decide ((((((na + m1) - na) + m2 : Nat) : Int) : Int) ≤ (0 : Int)))) (by kernel_rfl) ?_
      refine WO.topPT ((((((na + m1) - na) + m2 : Nat) : Int) : Int) ≤ (0 : Int)) (by omega) ?_
      refine WO.run 4 5 [(136, .int .i64 0), (135, .int .i64 ((((na + m1) - na) + m2 : Nat) : Int)), (134, .bool true), (133, .bool true)] (by kernel_rfl) (by kernel_rfl) ?_
      refine WO.one (SQ.F 9 (by kernel_rfl)) 137 (.bool (decide ((((((na + m1) - na) + m2 : Nat) : Int) : Int) = (0 : Int)))) (by kernel_rfl) ?_
      refine WO.topP ((((((na + m1) - na) + m2 : Nat) : Int) : Int) = (0 : Int)) ?_ ?_
      · intro h64
        refine WO.run 13 10 [(150, .int .i64 (m2 : Int)), (149, .slice Ad57 m2 cp58), (148, .bool true), (147, .bool true), (146, .bool true), (145, undef), (144, undef), (143, undef), (142, undef), (141, undef), (140, undef), (139, undef), (138, .bool true)] (by kernel_rfl) (by kernel_rfl) ?_
        refine WO.one (SQ.F 23 (by kernel_rfl)) 151 (.bool (decide (((m2 : Int) : Int) = (0 : Int)))) (by kernel_rfl) ?_
        refine WO.topP (((m2 : Int) : Int) = (0 : Int)) ?_ ?_
        · intro h65
          refine WO.run 12 24 [(8, .bool true), (162, .bool true), (161, .bool true), (160, undef), (159, undef), (158, undef), (157, undef), (156, undef), (155, undef), (154, undef), (153, undef), (152, .bool true)] (by kernel_rfl) (by kernel_rfl) ?_
          refine WO.done (by kernel_rfl) ?_
          refine WQ.keep [0, 1, 2, 3, 8, 9, 10, 11, 12, 13, 14, 15, 16, 26, 37, 93, 103, 127] (e' := [(0, .slice Aa na ca), (1, .slice Ab nb cb), (2, .slice Ac nc cc), (3, .int .i64 0), (8, .bool true), (9, .bool true), (10, .pointer (some ⟨g6, 0, none⟩)), (11, .nilIface), (12, .slice Ad47 (na + m1) cp48), (13, .nilIface), (14, .slice Ad57 m2 cp58), (15, .nilIface), (16, .int .i64 ((((na + m1) - na) + m2 : Nat) : Int)), (26, .bool false), (37, .bool false), (93, .bool false), (103, .bool true), (127, .bool false)]) (by kernel_rfl) ?_
          refine WQ.thenN ?_
          refine WE.ret ?_
          refine WQ.ret (v := .bool true) (by kernel_rfl) ?_
          exact ⟨rfl, HA⟩
        · intro h65
          refine WO.run 7 24 [(158, .int .i64 (nb : Int)), (157, .slice Ab nb cb), (156, .int .i64 (na : Int)), (155, .slice Aa na ca), (154, .int .i64 ((na + m1) : Int)), (153, .slice Ad47 (na + m1) cp48), (152, .bool false)] (by kernel_rfl) (by kernel_rfl) ?_
          refine WO.one (SQ.F 31 (by kernel_rfl)) 159 (.int .i64 (IntKind.i64.wrap ((na : Int) + (nb : Int)))) (by kernel_rfl) ?_
          refine WO.top (v' := .int .i64 ((na + nb : Nat) : Int)) (wrap_i64 (by omega) (by omega)) ?_
          refine WO.run 4 32 [(8, .bool (decide ((((na + m1) : Int) : Int) = (na + nb : Int)))), (162, .bool (decide ((((na + m1) : Int) : Int) = (na + nb : Int)))), (161, .bool (decide ((((na + m1) : Int) : Int) = (na + nb : Int)))), (160, .bool (decide ((((na + m1) : Int) : Int) = (na + nb : Int))))] (by kernel_rfl) (by kernel_rfl) ?_
          refine WO.done (by kernel_rfl) ?_
          refine WQ.keep [0, 1, 2, 3, 8, 9, 10, 11, 12, 13, 14, 15, 16, 26, 37, 93, 103, 127] (e' := [(0, .slice Aa na ca), (1, .slice Ab nb cb), (2, .slice Ac nc cc), (3, .int .i64 0), (8, .bool (decide ((((na + m1) : Int) : Int) = (na + nb : Int)))), (9, .bool true), (10, .pointer (some ⟨g6, 0, none⟩)), (11, .nilIface), (12, .slice Ad47 (na + m1) cp48), (13, .nilIface), (14, .slice Ad57 m2 cp58), (15, .nilIface), (16, .int .i64 ((((na + m1) - na) + m2 : Nat) : Int)), (26, .bool false), (37, .bool false), (93, .bool false), (103, .bool true), (127, .bool false)]) (by kernel_rfl) ?_
          refine WQ.thenN ?_
          refine WE.ret ?_
          refine WQ.ret (v := .bool (decide ((((na + m1) : Int) : Int) = (na + nb : Int)))) (by kernel_rfl) ?_
          exact ⟨congrArg (fun b => Ending.returned (Value.bool b)) (decide_eq_true (by omega)), HA⟩
      · intro h64
        refine WO.run 6 10 [(143, .int .i64 (nc : Int)), (142, .slice Ac nc cc), (141, .int .i64 (nb : Int)), (140, .slice Ab nb cb), (139, .int .i64 ((((na + m1) - na) + m2 : Nat) : Int)), (138, .bool false)] (by kernel_rfl) (by kernel_rfl) ?_
        refine WO.one (SQ.F 16 (by kernel_rfl)) 144 (.int .i64 (IntKind.i64.wrap ((nb : Int) + (nc : Int)))) (by kernel_rfl) ?_
        refine WO.top (v' := .int .i64 ((nb + nc : Nat) : Int)) (wrap_i64 (by omega) (by omega)) ?_
        refine WO.one (SQ.F 17 (by kernel_rfl)) 145 (.bool (decide ((((((na + m1) - na) + m2 : Nat) : Int) : Int) = (nb + nc : Int)))) (by kernel_rfl) ?_
        refine WO.topPT ((((((na + m1) - na) + m2 : Nat) : Int) : Int) = (nb + nc : Int)) (by omega) ?_
        refine WO.run 5 18 [(150, .int .i64 (m2 : Int)), (149, .slice Ad57 m2 cp58), (148, .bool true), (147, .bool true), (146, .bool true)] (by kernel_rfl) (by kernel_rfl) ?_
        refine WO.one (SQ.F 23 (by kernel_rfl)) 151 (.bool (decide (((m2 : Int) : Int) = (0 : Int)))) (by kernel_rfl) ?_
        refine WO.topP (((m2 : Int) : Int) = (0 : Int)) ?_ ?_
        · intro h66
          refine WO.run 12 24 [(8, .bool true), (162, .bool true), (161, .bool true), (160, undef), (159, undef), (158, undef), (157, undef), (156, undef), (155, undef), (154, undef), (153, undef), (152, .bool true)] (by kernel_rfl) (by kernel_rfl) ?_
          refine WO.done (by kernel_rfl) ?_
          refine WQ.keep [0, 1, 2, 3, 8, 9, 10, 11, 12, 13, 14, 15, 16, 26, 37, 93, 103, 127] (e' := [(0, .slice Aa na ca), (1, .slice Ab nb cb), (2, .slice Ac nc cc), (3, .int .i64 0), (8, .bool true), (9, .bool true), (10, .pointer (some ⟨g6, 0, none⟩)), (11, .nilIface), (12, .slice Ad47 (na + m1) cp48), (13, .nilIface), (14, .slice Ad57 m2 cp58), (15, .nilIface), (16, .int .i64 ((((na + m1) - na) + m2 : Nat) : Int)), (26, .bool false), (37, .bool false), (93, .bool false), (103, .bool true), (127, .bool false)]) (by kernel_rfl) ?_
          refine WQ.thenN ?_
          refine WE.ret ?_
          refine WQ.ret (v := .bool true) (by kernel_rfl) ?_
          exact ⟨rfl, HA⟩
        · intro h66
          refine WO.run 7 24 [(158, .int .i64 (nb : Int)), (157, .slice Ab nb cb), (156, .int .i64 (na : Int)), (155, .slice Aa na ca), (154, .int .i64 ((na + m1) : Int)), (153, .slice Ad47 (na + m1) cp48), (152, .bool false)] (by kernel_rfl) (by kernel_rfl) ?_
          refine WO.one (SQ.F 31 (by kernel_rfl)) 159 (.int .i64 (IntKind.i64.wrap ((na : Int) + (nb : Int)))) (by kernel_rfl) ?_
          refine WO.top (v' := .int .i64 ((na + nb : Nat) : Int)) (wrap_i64 (by omega) (by omega)) ?_
          refine WO.run 4 32 [(8, .bool (decide ((((na + m1) : Int) : Int) = (na + nb : Int)))), (162, .bool (decide ((((na + m1) : Int) : Int) = (na + nb : Int)))), (161, .bool (decide ((((na + m1) : Int) : Int) = (na + nb : Int)))), (160, .bool (decide ((((na + m1) : Int) : Int) = (na + nb : Int))))] (by kernel_rfl) (by kernel_rfl) ?_
          refine WO.done (by kernel_rfl) ?_
          refine WQ.keep [0, 1, 2, 3, 8, 9, 10, 11, 12, 13, 14, 15, 16, 26, 37, 93, 103, 127] (e' := [(0, .slice Aa na ca), (1, .slice Ab nb cb), (2, .slice Ac nc cc), (3, .int .i64 0), (8, .bool (decide ((((na + m1) : Int) : Int) = (na + nb : Int)))), (9, .bool true), (10, .pointer (some ⟨g6, 0, none⟩)), (11, .nilIface), (12, .slice Ad47 (na + m1) cp48), (13, .nilIface), (14, .slice Ad57 m2 cp58), (15, .nilIface), (16, .int .i64 ((((na + m1) - na) + m2 : Nat) : Int)), (26, .bool false), (37, .bool false), (93, .bool false), (103, .bool true), (127, .bool false)]) (by kernel_rfl) ?_
          refine WQ.thenN ?_
          refine WE.ret ?_
          refine WQ.ret (v := .bool (decide ((((na + m1) : Int) : Int) = (na + nb : Int)))) (by kernel_rfl) ?_
          exact ⟨congrArg (fun b => Ending.returned (Value.bool b)) (decide_eq_true (by omega)), HA⟩
    · intro h61
      refine WO.done (by kernel_rfl) ?_
      refine WQ.keep [0, 1, 2, 3, 8, 9, 10, 11, 12, 13, 14, 15, 16, 26, 37, 93, 103] (e' := [(0, .slice Aa na ca), (1, .slice Ab nb cb), (2, .slice Ac nc cc), (3, .int .i64 keep), (8, .bool false), (9, .bool true), (10, .pointer (some ⟨g6, 0, none⟩)), (11, .nilIface), (12, .slice Ad47 (na + m1) cp48), (13, .nilIface), (14, .slice Ad57 m2 cp58), (15, .nilIface), (16, .int .i64 ((((na + m1) - na) + m2 : Nat) : Int)), (26, .bool false), (37, .bool false), (93, .bool false), (103, .bool false)]) (by kernel_rfl) ?_
      refine WQ.thenN ?_
      refine WE.condF (by kernel_rfl) ?_
      refine WE.skip ?_
      refine WQ.thenN ?_
      refine WE.seq ?_
      refine WE.seq ?_
      -- R20* law.go:142
      refine WE.draw [.free, .still, .free, .still, .free, .free, .free, .free, .free, .free, .free, .still, .free, .free, .free, .free, .still, .free, .free, .free, .free, .still, .free, .free] Same sameR (by kernel_rfl) 24 (Array.replicate 24 false) (by kernel_rfl) rfl ?_
      intro w67 F68 _
      have HV1 := HV1.keep F68 (fun _ _ => nin0 _)
      have HV2 := HV2.keep F68 (fun _ _ => nin0 _)
      have HV3 := HV3.keep F68 (fun _ _ => nin0 _)
      have HG9 := GDisk.keep HG9 F68 (fun _ _ => nin0 _)
      have HVr49 := HVr49.keep F68 (fun _ _ => nin0 _)
      have HVr59 := HVr59.keep F68 (fun _ _ => nin0 _)
      have HA := Fr.step0 HA F68
      refine WO.one (SA.F sameR sameT _ 0 _ (by kernel_rfl)) 104 (.slice Ad47 (na + m1) cp48) (by kernel_rfl) ?_
      refine WO.b2s (v := .slice Ad47 (na + m1) cp48) (SA.S sameR sameT _ 1 _ (by kernel_rfl)) 105 byt (a ++ b.take m1) (n := (na + m1)) (by rw [List.length_append, List.length_take]; omega) (by kernel_rfl) (same (HVr49.srcN (by rw [List.length_append, List.length_take]; omega) (cB_len _) (cB_one _) cp48)) ?_
      refine WO.one (SA.F sameR sameT _ 2 _ (by kernel_rfl)) 106 (.slice Aa na ca) (by kernel_rfl) ?_
      refine WO.b2s (v := .slice Aa na ca) (SA.S sameR sameT _ 3 _ (by kernel_rfl)) 107 byt a (n := na) hna (by kernel_rfl) (same (HV1.srcN hna (cB_len _) (cB_one _) ca)) ?_
      refine WO.one (SA.F sameR sameT _ 4 _ (by kernel_rfl)) 108 (.slice Ab nb cb) (by kernel_rfl) ?_
      refine WO.one (SA.F sameR sameT _ 5 _ (by kernel_rfl)) 109 (.slice Ad47 (na + m1) cp48) (by kernel_rfl) ?_
      refine WO.one (SA.F sameR sameT _ 6 _ (by kernel_rfl)) 110 (.int .i64 ((na + m1) : Int)) (by kernel_rfl) ?_
      refine WO.one (SA.F sameR sameT _ 7 _ (by kernel_rfl)) 111 (.slice Aa na ca) (by kernel_rfl) ?_
      refine WO.one (SA.F sameR sameT _ 8 _ (by kernel_rfl)) 112 (.int .i64 (na : Int)) (by kernel_rfl) ?_
      refine WO.one (SA.F sameR sameT _ 9 _ (by kernel_rfl)) 113 (.int .i64 (IntKind.i64.wrap (((na + m1) : Int) - (na : Int)))) (by kernel_rfl) ?_
      refine WO.top (v' := .int .i64 (((na + m1) - na : Nat) : Int)) (wrap_i64 (by omega) (by omega)) ?_
      refine WO.sl (SA.F sameR sameT _ 10 _ (by kernel_rfl)) 114 0 ((na + m1) - na) Ab nb cb 1 none (some (((na + m1) - na : Nat) : Int)) (by kernel_rfl) (by rfl) (by simp only [Option.getD_some] <;> omega) (by omega) (by omega) ?_
      refine WO.top (sl0 _ _ _ _) ?_
      refine WO.b2s (v := .slice Ab ((na + m1) - na) cb) (SA.S sameR sameT _ 11 _ (by kernel_rfl)) 115 byt (b.take ((na + m1) - na)) (n := ((na + m1) - na)) (show (b.take ((na + m1) - na)).length = (na + m1) - na by rw [List.length_take]; have := hnb; omega) (by kernel_rfl) (same ((HV2.take ((na + m1) - na)).srcN (show (b.take ((na + m1) - na)).length = (na + m1) - na by rw [List.length_take]; have := hnb; omega) (cB_len _) (cB_one _) _)) ?_
      refine WO.cat (SA.F sameR sameT _ 12 _ (by kernel_rfl)) 116 (str a) (str (b.take ((na + m1) - na))) (by kernel_rfl) (by simp only [str_size, List.length_append, List.length_take] at *; omega) ?_
      refine WO.top (v' := .string (str (a ++ (b.take ((na + m1) - na))))) (congrArg Value.string (str_app _ _)) ?_
      refine WO.one (SA.F sameR sameT _ 13 _ (by kernel_rfl)) 117 (.bool (!((str (a ++ b.take m1)).toList == (str (a ++ (b.take ((na + m1) - na)))).toList))) (by kernel_rfl) ?_
      refine WO.top (v' := .bool (!decide ((str (a ++ b.take m1)) = (str (a ++ (b.take ((na + m1) - na))))))) (congrArg Value.bool (congrArg not (streq (str (a ++ b.take m1)) (str (a ++ (b.take ((na + m1) - na))))))) ?_
      refine WO.topNT ((str (a ++ b.take m1)) = (str (a ++ (b.take ((na + m1) - na))))) (by rw [show na + m1 - na = m1 by omega]) ?_
      refine WO.one (SA.F sameR sameT _ 14 _ (by kernel_rfl)) 118 (.bool false) (by kernel_rfl) ?_
      refine WO.one (SA.F sameR sameT _ 15 _ (by kernel_rfl)) 119 (.slice Ad57 m2 cp58) (by kernel_rfl) ?_
      refine WO.b2s (v := .slice Ad57 m2 cp58) (SA.S sameR sameT _ 16 _ (by kernel_rfl)) 120 byt (l.take m2) (n := m2) (by rw [List.length_take]; omega) (by kernel_rfl) (same (HVr59.srcN (by rw [List.length_take]; omega) (cB_len _) (cB_one _) cp58)) ?_
      refine WO.one (SA.F sameR sameT _ 17 _ (by kernel_rfl)) 121 (.slice Ac nc cc) (by kernel_rfl) ?_
      refine WO.one (SA.F sameR sameT _ 18 _ (by kernel_rfl)) 122 (.slice Ad57 m2 cp58) (by kernel_rfl) ?_
      refine WO.one (SA.F sameR sameT _ 19 _ (by kernel_rfl)) 123 (.int .i64 (m2 : Int)) (by kernel_rfl) ?_
      refine WO.sl (SA.F sameR sameT _ 20 _ (by kernel_rfl)) 124 0 m2 Ac nc cc 1 none (some (m2 : Int)) (by kernel_rfl) (by rfl) (by simp only [Option.getD_some] <;> omega) (by omega) (by omega) ?_
      refine WO.top (sl0 _ _ _ _) ?_
      refine WO.b2s (v := .slice Ac m2 cc) (SA.S sameR sameT _ 21 _ (by kernel_rfl)) 125 byt (l.take m2) (n := m2) (show (l.take m2).length = m2 by rw [List.length_take]; have := hnc; omega) (by kernel_rfl) (same ((HV3.take m2).srcN (show (l.take m2).length = m2 by rw [List.length_take]; have := hnc; omega) (cB_len _) (cB_one _) _)) ?_
      refine WO.one (SA.F sameR sameT _ 22 _ (by kernel_rfl)) 126 (.bool (!((str (l.take m2)).toList == (str (l.take m2)).toList))) (by kernel_rfl) ?_
      refine WO.top (v' := .bool (!decide ((str (l.take m2)) = (str (l.take m2))))) (congrArg Value.bool (congrArg not (streq (str (l.take m2)) (str (l.take m2))))) ?_
      refine WO.topNT ((str (l.take m2)) = (str (l.take m2))) (by rfl) ?_
      refine WO.one (SA.F sameR sameT _ 23 _ (by kernel_rfl)) 127 (.bool false) (by kernel_rfl) ?_
      refine WO.doneA (by kernel_rfl) ?_
      refine WQ.keep [0, 1, 2, 3, 8, 9, 10, 11, 12, 13, 14, 15, 16, 26, 37, 93, 103, 127] (e' := [(0, .slice Aa na ca), (1, .slice Ab nb cb), (2, .slice Ac nc cc), (3, .int .i64 keep), (8, .bool false), (9, .bool true), (10, .pointer (some ⟨g6, 0, none⟩)), (11, .nilIface), (12, .slice Ad47 (na + m1) cp48), (13, .nilIface), (14, .slice Ad57 m2 cp58), (15, .nilIface), (16, .int .i64 ((((na + m1) - na) + m2 : Nat) : Int)), (26, .bool false), (37, .bool false), (93, .bool false), (103, .bool false), (127, .bool false)]) (by kernel_rfl) ?_
      refine WQ.thenN ?_
      refine WE.condF (by kernel_rfl) ?_
      refine WE.skip ?_
      refine WQ.thenN ?_
      refine WE.seq ?_
      -- R22 law.go:145
      refine WE.region ?_
      refine WO.run 4 0 [(131, .int .i64 keep), (130, .int .i64 ((((na + m1) - na) + m2 : Nat) : Int)), (129, .bool true), (128, .bool true)] (by kernel_rfl) (by kernel_rfl) ?_
      refine WO.one (SQ.F 4 (by kernel_rfl)) 132 (.bool (decide ((((((na + m1) - na) + m2 : Nat) : Int) : Int) ≤ keep))) (by kernel_rfl) ?_
      refine WO.topPT ((((((na + m1) - na) + m2 : Nat) : Int) : Int) ≤ keep) (by omega) ?_
      refine WO.run 4 5 [(136, .int .i64 keep), (135, .int .i64 ((((na + m1) - na) + m2 : Nat) : Int)), (134, .bool true), (133, .bool true)] (by kernel_rfl) (by kernel_rfl) ?_
      refine WO.one (SQ.F 9 (by kernel_rfl)) 137 (.bool (decide ((((((na + m1) - na) + m2 : Nat) : Int) : Int) = keep))) (by kernel_rfl) ?_
      refine WO.topP ((((((na + m1) - na) + m2 : Nat) : Int) : Int) = keep) ?_ ?_
      · intro h69
        refine WO.run 13 10 [(150, .int .i64 (m2 : Int)), (149, .slice Ad57 m2 cp58), (148, .bool true), (147, .bool true), (146, .bool true), (145, undef), (144, undef), (143, undef), (142, undef), (141, undef), (140, undef), (139, undef), (138, .bool true)] (by kernel_rfl) (by kernel_rfl) ?_
        refine WO.one (SQ.F 23 (by kernel_rfl)) 151 (.bool (decide (((m2 : Int) : Int) = (0 : Int)))) (by kernel_rfl) ?_
        refine WO.topP (((m2 : Int) : Int) = (0 : Int)) ?_ ?_
        · intro h70
          refine WO.run 12 24 [(8, .bool true), (162, .bool true), (161, .bool true), (160, undef), (159, undef), (158, undef), (157, undef), (156, undef), (155, undef), (154, undef), (153, undef), (152, .bool true)] (by kernel_rfl) (by kernel_rfl) ?_
          refine WO.done (by kernel_rfl) ?_
          refine WQ.keep [0, 1, 2, 3, 8, 9, 10, 11, 12, 13, 14, 15, 16, 26, 37, 93, 103, 127] (e' := [(0, .slice Aa na ca), (1, .slice Ab nb cb), (2, .slice Ac nc cc), (3, .int .i64 keep), (8, .bool true), (9, .bool true), (10, .pointer (some ⟨g6, 0, none⟩)), (11, .nilIface), (12, .slice Ad47 (na + m1) cp48), (13, .nilIface), (14, .slice Ad57 m2 cp58), (15, .nilIface), (16, .int .i64 ((((na + m1) - na) + m2 : Nat) : Int)), (26, .bool false), (37, .bool false), (93, .bool false), (103, .bool false), (127, .bool false)]) (by kernel_rfl) ?_
          refine WQ.thenN ?_
          refine WE.ret ?_
          refine WQ.ret (v := .bool true) (by kernel_rfl) ?_
          exact ⟨rfl, HA⟩
        · intro h70
          refine WO.run 7 24 [(158, .int .i64 (nb : Int)), (157, .slice Ab nb cb), (156, .int .i64 (na : Int)), (155, .slice Aa na ca), (154, .int .i64 ((na + m1) : Int)), (153, .slice Ad47 (na + m1) cp48), (152, .bool false)] (by kernel_rfl) (by kernel_rfl) ?_
          refine WO.one (SQ.F 31 (by kernel_rfl)) 159 (.int .i64 (IntKind.i64.wrap ((na : Int) + (nb : Int)))) (by kernel_rfl) ?_
          refine WO.top (v' := .int .i64 ((na + nb : Nat) : Int)) (wrap_i64 (by omega) (by omega)) ?_
          refine WO.run 4 32 [(8, .bool (decide ((((na + m1) : Int) : Int) = (na + nb : Int)))), (162, .bool (decide ((((na + m1) : Int) : Int) = (na + nb : Int)))), (161, .bool (decide ((((na + m1) : Int) : Int) = (na + nb : Int)))), (160, .bool (decide ((((na + m1) : Int) : Int) = (na + nb : Int))))] (by kernel_rfl) (by kernel_rfl) ?_
          refine WO.done (by kernel_rfl) ?_
          refine WQ.keep [0, 1, 2, 3, 8, 9, 10, 11, 12, 13, 14, 15, 16, 26, 37, 93, 103, 127] (e' := [(0, .slice Aa na ca), (1, .slice Ab nb cb), (2, .slice Ac nc cc), (3, .int .i64 keep), (8, .bool (decide ((((na + m1) : Int) : Int) = (na + nb : Int)))), (9, .bool true), (10, .pointer (some ⟨g6, 0, none⟩)), (11, .nilIface), (12, .slice Ad47 (na + m1) cp48), (13, .nilIface), (14, .slice Ad57 m2 cp58), (15, .nilIface), (16, .int .i64 ((((na + m1) - na) + m2 : Nat) : Int)), (26, .bool false), (37, .bool false), (93, .bool false), (103, .bool false), (127, .bool false)]) (by kernel_rfl) ?_
          refine WQ.thenN ?_
          refine WE.ret ?_
          refine WQ.ret (v := .bool (decide ((((na + m1) : Int) : Int) = (na + nb : Int)))) (by kernel_rfl) ?_
          exact ⟨congrArg (fun b => Ending.returned (Value.bool b)) (decide_eq_true (by omega)), HA⟩
      · intro h69
        refine WO.run 6 10 [(143, .int .i64 (nc : Int)), (142, .slice Ac nc cc), (141, .int .i64 (nb : Int)), (140, .slice Ab nb cb), (139, .int .i64 ((((na + m1) - na) + m2 : Nat) : Int)), (138, .bool false)] (by kernel_rfl) (by kernel_rfl) ?_
        refine WO.one (SQ.F 16 (by kernel_rfl)) 144 (.int .i64 (IntKind.i64.wrap ((nb : Int) + (nc : Int)))) (by kernel_rfl) ?_
        refine WO.top (v' := .int .i64 ((nb + nc : Nat) : Int)) (wrap_i64 (by omega) (by omega)) ?_
        refine WO.one (SQ.F 17 (by kernel_rfl)) 145 (.bool (decide ((((((na + m1) - na) + m2 : Nat) : Int) : Int) = (nb + nc : Int)))) (by kernel_rfl) ?_
        refine WO.topPT ((((((na + m1) - na) + m2 : Nat) : Int) : Int) = (nb + nc : Int)) (by omega) ?_
        refine WO.run 5 18 [(150, .int .i64 (m2 : Int)), (149, .slice Ad57 m2 cp58), (148, .bool true), (147, .bool true), (146, .bool true)] (by kernel_rfl) (by kernel_rfl) ?_
        refine WO.one (SQ.F 23 (by kernel_rfl)) 151 (.bool (decide (((m2 : Int) : Int) = (0 : Int)))) (by kernel_rfl) ?_
        refine WO.topP (((m2 : Int) : Int) = (0 : Int)) ?_ ?_
        · intro h71
          refine WO.run 12 24 [(8, .bool true), (162, .bool true), (161, .bool true), (160, undef), (159, undef), (158, undef), (157, undef), (156, undef), (155, undef), (154, undef), (153, undef), (152, .bool true)] (by kernel_rfl) (by kernel_rfl) ?_
          refine WO.done (by kernel_rfl) ?_
          refine WQ.keep [0, 1, 2, 3, 8, 9, 10, 11, 12, 13, 14, 15, 16, 26, 37, 93, 103, 127] (e' := [(0, .slice Aa na ca), (1, .slice Ab nb cb), (2, .slice Ac nc cc), (3, .int .i64 keep), (8, .bool true), (9, .bool true), (10, .pointer (some ⟨g6, 0, none⟩)), (11, .nilIface), (12, .slice Ad47 (na + m1) cp48), (13, .nilIface), (14, .slice Ad57 m2 cp58), (15, .nilIface), (16, .int .i64 ((((na + m1) - na) + m2 : Nat) : Int)), (26, .bool false), (37, .bool false), (93, .bool false), (103, .bool false), (127, .bool false)]) (by kernel_rfl) ?_
          refine WQ.thenN ?_
          refine WE.ret ?_
          refine WQ.ret (v := .bool true) (by kernel_rfl) ?_
          exact ⟨rfl, HA⟩
        · intro h71
          refine WO.run 7 24 [(158, .int .i64 (nb : Int)), (157, .slice Ab nb cb), (156, .int .i64 (na : Int)), (155, .slice Aa na ca), (154, .int .i64 ((na + m1) : Int)), (153, .slice Ad47 (na + m1) cp48), (152, .bool false)] (by kernel_rfl) (by kernel_rfl) ?_
          refine WO.one (SQ.F 31 (by kernel_rfl)) 159 (.int .i64 (IntKind.i64.wrap ((na : Int) + (nb : Int)))) (by kernel_rfl) ?_
          refine WO.top (v' := .int .i64 ((na + nb : Nat) : Int)) (wrap_i64 (by omega) (by omega)) ?_
          refine WO.run 4 32 [(8, .bool (decide ((((na + m1) : Int) : Int) = (na + nb : Int)))), (162, .bool (decide ((((na + m1) : Int) : Int) = (na + nb : Int)))), (161, .bool (decide ((((na + m1) : Int) : Int) = (na + nb : Int)))), (160, .bool (decide ((((na + m1) : Int) : Int) = (na + nb : Int))))] (by kernel_rfl) (by kernel_rfl) ?_
          refine WO.done (by kernel_rfl) ?_
          refine WQ.keep [0, 1, 2, 3, 8, 9, 10, 11, 12, 13, 14, 15, 16, 26, 37, 93, 103, 127] (e' := [(0, .slice Aa na ca), (1, .slice Ab nb cb), (2, .slice Ac nc cc), (3, .int .i64 keep), (8, .bool (decide ((((na + m1) : Int) : Int) = (na + nb : Int)))), (9, .bool true), (10, .pointer (some ⟨g6, 0, none⟩)), (11, .nilIface), (12, .slice Ad47 (na + m1) cp48), (13, .nilIface), (14, .slice Ad57 m2 cp58), (15, .nilIface), (16, .int .i64 ((((na + m1) - na) + m2 : Nat) : Int)), (26, .bool false), (37, .bool false), (93, .bool false), (103, .bool false), (127, .bool false)]) (by kernel_rfl) ?_
          refine WQ.thenN ?_
          refine WE.ret ?_
          refine WQ.ret (v := .bool (decide ((((na + m1) : Int) : Int) = (na + nb : Int)))) (by kernel_rfl) ?_
          exact ⟨congrArg (fun b => Ending.returned (Value.bool b)) (decide_eq_true (by omega)), HA⟩
end Go.Proofs.Ytkhibpdkgjapgaa.Disk
