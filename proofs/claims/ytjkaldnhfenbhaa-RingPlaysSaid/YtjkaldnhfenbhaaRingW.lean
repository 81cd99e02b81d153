/- Walks of layer 10's rings. -/
import Derived.Test.YtjkaldnhfenbhaaRingPure
import Derived.Test.YtjkaldnhfenbhaaErr
import Derived.Lib.Hide
import Derived.BigRegion
import Derived.ChangeAlike
import Derived.Deep.QuietTactic
import Derived.BigQuiet
import Derived.StillTailTactics
set_option linter.unusedVariables false
set_option linter.unusedSimpArgs false
namespace Go.Proofs.Ytjkaldnhfenbhaa.Ring
open Go.RowKit Go.Proofs.YtjkaldnhfenbhaaW.PrintWords Go.Proofs.YtjkaldnhfenbhaaW.PrintLast

/-! ### rings of int -/
theorem make_int (n : Nat) (hn : n ≤ 1000) (w : World) : (Instr.makeSlice 43 (.int .i64 (n : Int)) (.int .i64 (n : Int))).run Try.prog w = .ok (.slice (some ⟨w.heap.size, 0, none⟩) n n) (w.alloc (.cells (Array.replicate n (.int .i64 0)) 3)) := by
  obtain ⟨i, h1, h2, h3, h4⟩ := info_parts (P := Try.prog) (e := 3) (z := (.int .i64 0)) (size := 1) (bytes := 8) (by kernel_rfl)
  have := run_makeSlice (P := Try.prog) w 43 3 i (.int .i64 0) (by kernel_rfl) h1 h2 .i64 .i64 (n : Int) (n : Int) (by omega) (by omega) (by rw [h3, Int.toNat_natCast]; omega) (by rw [h4]; omega) (by omega)
  rw [this, Int.toNat_natCast, h3, Nat.mul_one]
  rw [show Value.cells (.int .i64 0) = #[(.int .i64 0)] from rfl, made_one]

set_option maxRecDepth 100000 in
set_option maxHeartbeats 2000000 in
theorem new_int (n : Nat) (hn : 1 ≤ n ∧ n ≤ 1000) (w : World) :
    Calls Try.prog 24 #[.int .i64 n] w fun e w' => ∃ g b, e = .returned (.tuple #[.pointer (some ⟨g, 0, none⟩), .nilIface]) ∧ IsR w' g b n [] 121 3 ∧ Fr [] w w' ∧ w.heap.size ≤ g ∧ w.heap.size ≤ b := by
  refine Calls.mono (R := fun e w' => e = .returned (.tuple #[.pointer (some ⟨w.heap.size + 1, 0, none⟩), .nilIface]) ∧ w' = (w.alloc (.cells (Array.replicate n (.int .i64 0)) 3)).alloc (.cells #[.slice (some ⟨w.heap.size, 0, none⟩) n n, .int .i64 0, .int .i64 0] 121)) ?_ (fun e w' ⟨he, hw⟩ => by
    subst hw
    have h1 := size_alloc w (.cells (Array.replicate n (.int .i64 0)) 3)
    refine ⟨w.heap.size + 1, w.heap.size, he, ⟨hn.2, by omega, _, 0, ?_, (Blk.new w _ _).alloc _, Holds.new n (by omega) _⟩, ((Fr.refl [] w).alloc _).alloc _, by omega, by omega⟩
    rw [← h1]
    exact Blk.new _ _ _)
  have hmk := make_int n hn.2
  obtain ⟨n0, n1⟩ := hn
  go_enter Try.func24, Try.ntmps24
  go_wp2_with fail
  go_ret2
  exact ⟨by first | rfl | simp [World.alloc_eq], rfl⟩

set_option maxRecDepth 100000 in
set_option maxHeartbeats 2000000 in
theorem new_int_bad (k : Int) (h : ¬ (1 ≤ k ∧ k ≤ 1000)) (w : World) :
    Calls Try.prog 24 #[.int .i64 k] w fun e w' => e = .returned (.tuple #[.pointer none, .iface 29 (.int .i64 1)]) ∧ w' = w := by
  by_cases b0 : k < 1
  · clear h
    go_enter Try.func24, Try.ntmps24
    go_wp2_with fail
    go_ret2
    exact ⟨rfl, rfl⟩
  · have b1 : 1000 < k := by omega
    clear h
    go_enter Try.func24, Try.ntmps24
    go_wp2_with fail
    go_ret2
    exact ⟨rfl, rfl⟩

set_option maxRecDepth 100000 in
set_option maxHeartbeats 2000000 in
theorem push_int_full (g b n : Nat) (q : List Value) (x : Value) (w : World) (hI : IsR w g b n q 121 3) (hf : q.length = n) :
    Calls Try.prog 26 #[.pointer (some ⟨g, 0, none⟩), x] w fun e w' => e = .returned (.bool false) ∧ Fr [] w w' := by
  obtain ⟨h3, h4, cs, f, h5, h6, h7⟩ := hI
  rw [hf] at h5
  have c0 : w.cell? ⟨g, 0, none⟩ = some (.slice (some ⟨b, 0, none⟩) n n) := h5.cell 0
  have c2 : w.cell? ⟨g, 2, none⟩ = some (.int .i64 n) := h5.cell 2
  clear h5 h6 h7 hf h3 h4
  go_enter Try.func26, Try.ntmps26
  go_wp2_with fail
  go_quiet (fail)
  go_wp2_with fail
  go_ret
  exact ⟨rfl, (Fr.refl [] w).drewN _⟩

set_option maxRecDepth 100000 in
set_option maxHeartbeats 2000000 in
theorem push_int_yes (g b n : Nat) (q : List Value) (x : Int) (w : World) (hI : IsR w g b n q 121 3) (hf : q.length < n) :
    Calls Try.prog 26 #[.pointer (some ⟨g, 0, none⟩), Value.int .i64 x] w fun e w' => e = .returned (.bool true) ∧ IsR w' g b n (q ++ [Value.int .i64 x]) 121 3 ∧ Fr [g, b] w w' := by
  obtain ⟨h3, h4, cs, f, h5, h6, h7⟩ := hI
  obtain ⟨m, hm⟩ : ∃ m, m = q.length := ⟨_, rfl⟩
  obtain ⟨j, hj⟩ : ∃ j, j = (f + m) % n := ⟨_, rfl⟩
  have HD := Lib.hid (show Holds (cs.setIfInBounds j (Value.int .i64 x)) f n (q ++ [Value.int .i64 x]) by rw [hj, hm]; exact h7.push hf _)
  have HL := Lib.hid (show ((q ++ [Value.int .i64 x]).length : Int) = (m : Int) + 1 by rw [hm]; simp)
  rw [← hm] at h5 hf
  have hjn : j < n := by rw [hj]; exact mod_lt h7.2.1
  have hfn := h7.2.1
  have hJ : ((f : Int) + (m : Int)) % (n : Int) = (j : Int) := by rw [hj, Int.natCast_emod, Int.natCast_add]
  have hmb : ((m : Int) == (n : Int)) = false := by
    rw [beq_eq_false_iff_ne]
    omega
  have hcs : cs[j]? = some (cs.getD j undef) := by
    have : j < cs.size := by rw [h7.1]; exact hjn
    simp [Array.getD, this]
  have c0 : w.cell? ⟨g, 0, none⟩ = some (.slice (some ⟨b, 0, none⟩) n n) := h5.cell 0
  have c1 : w.cell? ⟨g, 1, none⟩ = some (.int .i64 f) := h5.cell 1
  have c2 : w.cell? ⟨g, 2, none⟩ = some (.int .i64 m) := h5.cell 2
  have d0 := (h6.cell j).trans hcs
  have f0 := h6.frozen j
  have f2 := h5.frozen 2
  have H5 := Lib.hid h5
  have H6 := Lib.hid h6
  have H4 := Lib.hid h4
  clear h5 h6 h7 hm hj hcs h4
  go_enter Try.func26, Try.ntmps26
  go_wp2_with fail
  go_quiet (fail)
  go_wp2_with fail
  obtain ⟨w1, hw1⟩ : ∃ w1, w1 = w.drewN nq := ⟨_, rfl⟩
  rw [← hw1]
  have c0' : w1.cell? ⟨g, 0, none⟩ = some (.slice (some ⟨b, 0, none⟩) n n) := by rw [hw1]; exact c0
  have c1' : w1.cell? ⟨g, 1, none⟩ = some (.int .i64 f) := by rw [hw1]; exact c1
  have c2' : w1.cell? ⟨g, 2, none⟩ = some (.int .i64 m) := by rw [hw1]; exact c2
  have d0' : w1.cell? ⟨b, j, none⟩ = some (cs.getD j undef) := by rw [hw1]; exact d0
  have f0' : w1.frozen? ⟨b, j, none⟩ = false := by rw [hw1]; exact f0
  have f2' : w1.frozen? ⟨g, 2, none⟩ = false := by rw [hw1]; exact f2
  have HW := Lib.hid hw1
  have hs : IntKind.i64.wrap ((f : Int) + (m : Int)) = (f : Int) + (m : Int) := IntWalk.i64_in _ (by omega)
  have ht : ((f : Int) + (m : Int)).tmod (n : Int) = (j : Int) := by rw [Int.tmod_eq_emod_of_nonneg (by omega)]; exact hJ
  have hj : IntKind.i64.wrap (j : Int) = (j : Int) := IntWalk.i64_in _ (by omega)
  have hnz : n ≠ 0 := by omega
  have hm1 : IntKind.i64.wrap ((m : Int) + 1) = (m : Int) + 1 := IntWalk.i64_in _ (by omega)
  have B1 := Lib.hid (show Blk (w1.setCell ⟨b, j, none⟩ (Value.int .i64 x)) g #[.slice (some ⟨b, 0, none⟩) n n, .int .i64 f, .int .i64 m] 121 by rw [hw1]; exact Blk.far (Blk.drewN H5.out nq) H4.out _ _)
  have B2 := Lib.hid (show Blk (w1.setCell ⟨b, j, none⟩ (Value.int .i64 x)) b (cs.setIfInBounds j (Value.int .i64 x)) 3 by rw [hw1]; exact Blk.put (Blk.drewN H6.out nq) _ _ rfl)
  have c2s : (w1.setCell ⟨b, j, none⟩ (Value.int .i64 x)).cell? ⟨g, 2, none⟩ = some (.int .i64 m) := B1.out.cell 2
  have f2s : (w1.setCell ⟨b, j, none⟩ (Value.int .i64 x)).frozen? ⟨g, 2, none⟩ = false := B1.out.frozen 2
  clear c0 c1 c2 d0 f0 f2
  clear hw1
  go_still_tail 21, (by kernel_rfl)
  go_wp2_with fail
  go_ret
  refine ⟨rfl, ⟨h3, H4.out, cs.setIfInBounds j (Value.int .i64 x), f, ?_, ?_, HD.out⟩, ?_⟩
  · exact Blk.put B1.out 2 _ (by rw [HL.out]; rfl)
  · exact Blk.far B2.out H4.out.symm _ _
  · have h := ((((Fr.refl [g, b] w).drewN nq).set (b := b) (.inl (by simp)) j (Value.int .i64 x)).set (b := g) (.inl (by simp)) 2 (.int .i64 ((m : Int) + 1))).drew
    rw [← HW.out] at h
    exact h

set_option maxRecDepth 100000 in
set_option maxHeartbeats 2000000 in
theorem len_int (g b n : Nat) (q : List Value) (w : World) (hI : IsR w g b n q 121 3) :
    Calls Try.prog 29 #[.pointer (some ⟨g, 0, none⟩)] w fun e w' => e = .returned (.int .i64 q.length) ∧ w = w' := by
  obtain ⟨h3, h4, cs, f, h5, h6, h7⟩ := hI
  have c2 : w.cell? ⟨g, 2, none⟩ = some (.int .i64 q.length) := h5.cell 2
  clear h3 h4 h5 h6 h7
  go_enter Try.func29, Try.ntmps29
  go_wp2_with fail
  go_ret
  exact ⟨rfl, rfl⟩

set_option maxRecDepth 100000 in
set_option maxHeartbeats 2000000 in
theorem front_int_none (g b n : Nat) (w : World) (hI : IsR w g b n [] 121 3) :
    Calls Try.prog 28 #[.pointer (some ⟨g, 0, none⟩)] w fun e w' => e = .returned (.tuple #[(.int .i64 0), .bool false]) ∧ w = w' := by
  obtain ⟨h3, h4, cs, f, h5, h6, h7⟩ := hI
  have c2 : w.cell? ⟨g, 2, none⟩ = some (.int .i64 0) := h5.cell 2
  clear h3 h4 h5 h6 h7
  go_enter Try.func28, Try.ntmps28
  go_wp2_with fail
  go_ret2
  exact ⟨rfl, rfl⟩

set_option maxRecDepth 100000 in
set_option maxHeartbeats 2000000 in
theorem front_int_some (g b n : Nat) (x : Int) (q : List Value) (w : World) (hI : IsR w g b n (Value.int .i64 x :: q) 121 3) :
    Calls Try.prog 28 #[.pointer (some ⟨g, 0, none⟩)] w fun e w' => e = .returned (.tuple #[Value.int .i64 x, .bool true]) ∧ Drawn0 w w' := by
  obtain ⟨h3, h4, cs, f, h5, h6, h7⟩ := hI
  obtain ⟨m, hm⟩ : ∃ m, m = (Value.int .i64 x :: q).length := ⟨_, rfl⟩
  have hm0 : 1 ≤ m := by rw [hm]; simp
  have hfn := h7.2.1
  have hmn := h7.2.2.1
  rw [← hm] at h5 hmn
  have c0 : w.cell? ⟨g, 0, none⟩ = some (.slice (some ⟨b, 0, none⟩) n n) := h5.cell 0
  have c1 : w.cell? ⟨g, 1, none⟩ = some (.int .i64 f) := h5.cell 1
  have c2 : w.cell? ⟨g, 2, none⟩ = some (.int .i64 m) := h5.cell 2
  have d0 : w.cell? ⟨b, f, none⟩ = some (Value.int .i64 x) := (h6.cell f).trans h7.front
  clear h4 h5 h6 h7 hm
  go_enter Try.func28, Try.ntmps28
  go_wp2_with fail
  go_quiet (fail)
  go_wp2_with fail
  go_ret2
  exact ⟨rfl, ⟨⟨_, rfl⟩⟩⟩

set_option maxRecDepth 100000 in
set_option maxHeartbeats 2000000 in
theorem pop_int_none (g b n : Nat) (w : World) (hI : IsR w g b n [] 121 3) :
    Calls Try.prog 27 #[.pointer (some ⟨g, 0, none⟩)] w fun e w' => e = .returned (.tuple #[(.int .i64 0), .bool false]) ∧ w = w' := by
  go_enter Try.func27, Try.ntmps27
  go_wp2_with fail
  refine (front_int_none g b n w hI).mono ?_
  rintro e w' ⟨rfl, rfl⟩
  go_wp2_with fail
  go_ret2
  exact ⟨rfl, rfl⟩

set_option maxRecDepth 100000 in
set_option maxHeartbeats 2000000 in
theorem pop_int_some (g b n : Nat) (x : Int) (q : List Value) (w : World) (hI : IsR w g b n (Value.int .i64 x :: q) 121 3) :
    Calls Try.prog 27 #[.pointer (some ⟨g, 0, none⟩)] w fun e w' => e = .returned (.tuple #[Value.int .i64 x, .bool true]) ∧ IsR w' g b n q 121 3 ∧ Fr [g, b] w w' := by
  have HI := Lib.hid hI
  obtain ⟨h3, h4, cs, f, h5, h6, h7⟩ := hI
  obtain ⟨m, hm⟩ : ∃ m, m = q.length := ⟨_, rfl⟩
  have hml : (Value.int .i64 x :: q).length = m + 1 := by rw [hm]; rfl
  obtain ⟨j, hj⟩ : ∃ j, j = (f + 1) % n := ⟨_, rfl⟩
  have HD := Lib.hid (show Holds (cs.setIfInBounds f (.int .i64 0)) j n q by rw [hj]; exact h7.pop _)
  have hfn := h7.2.1
  have hmn := h7.2.2.1
  rw [hml] at h5 hmn
  have hjn : j < n := by rw [hj]; exact mod_lt hfn
  have hJ : ((f : Int) + 1).tmod (n : Int) = (j : Int) := by rw [Int.tmod_eq_emod_of_nonneg (by omega), hj, Int.natCast_emod, Int.natCast_add, Int.natCast_one]
  have hs : IntKind.i64.wrap ((f : Int) + 1) = (f : Int) + 1 := IntWalk.i64_in _ (by omega)
  have hnz : n ≠ 0 := by omega
  have d0 : cs[f]? = some (Value.int .i64 x) := h7.front
  have HM := Lib.hid hm
  have H5 := Lib.hid h5
  have H6 := Lib.hid h6
  have H4 := Lib.hid h4
  have D0 := Lib.hid d0
  clear h5 h6 h7 hm hj h4 d0 hml
  go_enter Try.func27, Try.ntmps27
  go_wp2_with fail
  refine (front_int_some g b n x q w HI.out).mono ?_
  rintro e w1 ⟨rfl, hd⟩
  obtain ⟨K0, hw1⟩ := hd.out
  have B1 : Blk w1 g #[.slice (some ⟨b, 0, none⟩) n n, .int .i64 f, .int .i64 ((m + 1 : Nat) : Int)] 121 := by rw [hw1]; exact H5.out
  have B2 : Blk w1 b cs 3 := by rw [hw1]; exact H6.out
  have c0 : w1.cell? ⟨g, 0, none⟩ = some (.slice (some ⟨b, 0, none⟩) n n) := B1.cell 0
  have c1 : w1.cell? ⟨g, 1, none⟩ = some (.int .i64 f) := B1.cell 1
  have d0 : w1.cell? ⟨b, f, none⟩ = some (Value.int .i64 x) := (B2.cell f).trans D0.out
  have f0 : w1.frozen? ⟨b, f, none⟩ = false := B2.frozen f
  have E1 := Lib.hid (Blk.far B1 H4.out f (.int .i64 0))
  have E2 := Lib.hid (Blk.put B2 f (.int .i64 0) rfl)
  have HW := Lib.hid hw1
  clear hd hw1 B1 B2
  go_wp2_with fail
  go_still_tail 10, (by kernel_rfl)
  go_wp2_with fail
  obtain ⟨w2, hw2⟩ : ∃ w2, w2 = (w1.setCell ⟨b, f, none⟩ (.int .i64 0)).drew := ⟨_, rfl⟩
  rw [← hw2]
  have B1 : Blk w2 g #[.slice (some ⟨b, 0, none⟩) n n, .int .i64 f, .int .i64 ((m + 1 : Nat) : Int)] 121 := by rw [hw2]; exact E1.out
  have B2 : Blk w2 b (cs.setIfInBounds f (.int .i64 0)) 3 := by rw [hw2]; exact E2.out
  have F2 := Lib.hid (show Fr [g, b] w w2 by rw [hw2, HW.out]; exact (((Fr.refl [g, b] w).drewN K0).set (.inl (by simp)) _ _).drew)
  have c0' : w2.cell? ⟨g, 0, none⟩ = some (.slice (some ⟨b, 0, none⟩) n n) := B1.cell 0
  have c1' : w2.cell? ⟨g, 1, none⟩ = some (.int .i64 f) := B1.cell 1
  have f1' : w2.frozen? ⟨g, 1, none⟩ = false := B1.frozen 1
  have E1 := Lib.hid (Blk.put B1 1 (.int .i64 (j : Int)) rfl)
  have E2 := Lib.hid (Blk.far B2 H4.out.symm 1 (.int .i64 (j : Int)))
  have c2s : (w2.setCell ⟨g, 1, none⟩ (.int .i64 (j : Int))).cell? ⟨g, 2, none⟩ = some (.int .i64 ((m + 1 : Nat) : Int)) := E1.out.cell 2
  have f2s : (w2.setCell ⟨g, 1, none⟩ (.int .i64 (j : Int))).frozen? ⟨g, 2, none⟩ = false := E1.out.frozen 2
  clear hw2 B1 B2 c0 c1 d0 f0
  go_still_tail 14, (by kernel_rfl)
  go_wp2_with fail
  go_ret2
  refine ⟨rfl, ⟨h3, H4.out, cs.setIfInBounds f (.int .i64 0), j, ?_, ?_, HD.out⟩, ?_⟩
  · exact Blk.put E1.out 2 _ (by rw [← HM.out]; rfl)
  · exact Blk.far E2.out H4.out.symm _ _
  · exact ((F2.out.set (.inl (by simp)) _ _).set (.inl (by simp)) _ _).drew

/-! ### rings of string -/
theorem make_string (n : Nat) (hn : n ≤ 1000) (w : World) : (Instr.makeSlice 52 (.int .i64 (n : Int)) (.int .i64 (n : Int))).run Try.prog w = .ok (.slice (some ⟨w.heap.size, 0, none⟩) n n) (w.alloc (.cells (Array.replicate n (.string ⟨#[]⟩)) 9)) := by
  obtain ⟨i, h1, h2, h3, h4⟩ := info_parts (P := Try.prog) (e := 9) (z := (.string ⟨#[]⟩)) (size := 1) (bytes := 16) (by kernel_rfl)
  have := run_makeSlice (P := Try.prog) w 52 9 i (.string ⟨#[]⟩) (by kernel_rfl) h1 h2 .i64 .i64 (n : Int) (n : Int) (by omega) (by omega) (by rw [h3, Int.toNat_natCast]; omega) (by rw [h4]; omega) (by omega)
  rw [this, Int.toNat_natCast, h3, Nat.mul_one]
  rw [show Value.cells (.string ⟨#[]⟩) = #[(.string ⟨#[]⟩)] from rfl, made_one]

set_option maxRecDepth 100000 in
set_option maxHeartbeats 2000000 in
theorem new_string (n : Nat) (hn : 1 ≤ n ∧ n ≤ 1000) (w : World) :
    Calls Try.prog 30 #[.int .i64 n] w fun e w' => ∃ g b, e = .returned (.tuple #[.pointer (some ⟨g, 0, none⟩), .nilIface]) ∧ IsR w' g b n [] 123 9 ∧ Fr [] w w' ∧ w.heap.size ≤ g ∧ w.heap.size ≤ b := by
  refine Calls.mono (R := fun e w' => e = .returned (.tuple #[.pointer (some ⟨w.heap.size + 1, 0, none⟩), .nilIface]) ∧ w' = (w.alloc (.cells (Array.replicate n (.string ⟨#[]⟩)) 9)).alloc (.cells #[.slice (some ⟨w.heap.size, 0, none⟩) n n, .int .i64 0, .int .i64 0] 123)) ?_ (fun e w' ⟨he, hw⟩ => by
    subst hw
    have h1 := size_alloc w (.cells (Array.replicate n (.string ⟨#[]⟩)) 9)
    refine ⟨w.heap.size + 1, w.heap.size, he, ⟨hn.2, by omega, _, 0, ?_, (Blk.new w _ _).alloc _, Holds.new n (by omega) _⟩, ((Fr.refl [] w).alloc _).alloc _, by omega, by omega⟩
    rw [← h1]
    exact Blk.new _ _ _)
  have hmk := make_string n hn.2
  obtain ⟨n0, n1⟩ := hn
  go_enter Try.func30, Try.ntmps30
  go_wp2_with fail
  go_ret2
  exact ⟨by first | rfl | simp [World.alloc_eq], rfl⟩

set_option maxRecDepth 100000 in
set_option maxHeartbeats 2000000 in
theorem new_string_bad (k : Int) (h : ¬ (1 ≤ k ∧ k ≤ 1000)) (w : World) :
    Calls Try.prog 30 #[.int .i64 k] w fun e w' => e = .returned (.tuple #[.pointer none, .iface 29 (.int .i64 1)]) ∧ w' = w := by
  by_cases b0 : k < 1
  · clear h
    go_enter Try.func30, Try.ntmps30
    go_wp2_with fail
    go_ret2
    exact ⟨rfl, rfl⟩
  · have b1 : 1000 < k := by omega
    clear h
    go_enter Try.func30, Try.ntmps30
    go_wp2_with fail
    go_ret2
    exact ⟨rfl, rfl⟩

set_option maxRecDepth 100000 in
set_option maxHeartbeats 2000000 in
theorem push_string_full (g b n : Nat) (q : List Value) (x : Value) (w : World) (hI : IsR w g b n q 123 9) (hf : q.length = n) :
    Calls Try.prog 31 #[.pointer (some ⟨g, 0, none⟩), x] w fun e w' => e = .returned (.bool false) ∧ Fr [] w w' := by
  obtain ⟨h3, h4, cs, f, h5, h6, h7⟩ := hI
  rw [hf] at h5
  have c0 : w.cell? ⟨g, 0, none⟩ = some (.slice (some ⟨b, 0, none⟩) n n) := h5.cell 0
  have c2 : w.cell? ⟨g, 2, none⟩ = some (.int .i64 n) := h5.cell 2
  clear h5 h6 h7 hf h3 h4
  go_enter Try.func31, Try.ntmps31
  go_wp2_with fail
  go_quiet (fail)
  go_wp2_with fail
  go_ret
  exact ⟨rfl, (Fr.refl [] w).drewN _⟩

set_option maxRecDepth 100000 in
set_option maxHeartbeats 2000000 in
theorem push_string_yes (g b n : Nat) (q : List Value) (x : ByteArray) (w : World) (hI : IsR w g b n q 123 9) (hf : q.length < n) :
    Calls Try.prog 31 #[.pointer (some ⟨g, 0, none⟩), Value.string x] w fun e w' => e = .returned (.bool true) ∧ IsR w' g b n (q ++ [Value.string x]) 123 9 ∧ Fr [g, b] w w' := by
  obtain ⟨h3, h4, cs, f, h5, h6, h7⟩ := hI
  obtain ⟨m, hm⟩ : ∃ m, m = q.length := ⟨_, rfl⟩
  obtain ⟨j, hj⟩ : ∃ j, j = (f + m) % n := ⟨_, rfl⟩
  have HD := Lib.hid (show Holds (cs.setIfInBounds j (Value.string x)) f n (q ++ [Value.string x]) by rw [hj, hm]; exact h7.push hf _)
  have HL := Lib.hid (show ((q ++ [Value.string x]).length : Int) = (m : Int) + 1 by rw [hm]; simp)
  rw [← hm] at h5 hf
  have hjn : j < n := by rw [hj]; exact mod_lt h7.2.1
  have hfn := h7.2.1
  have hJ : ((f : Int) + (m : Int)) % (n : Int) = (j : Int) := by rw [hj, Int.natCast_emod, Int.natCast_add]
  have hmb : ((m : Int) == (n : Int)) = false := by
    rw [beq_eq_false_iff_ne]
    omega
  have hcs : cs[j]? = some (cs.getD j undef) := by
    have : j < cs.size := by rw [h7.1]; exact hjn
    simp [Array.getD, this]
  have c0 : w.cell? ⟨g, 0, none⟩ = some (.slice (some ⟨b, 0, none⟩) n n) := h5.cell 0
  have c1 : w.cell? ⟨g, 1, none⟩ = some (.int .i64 f) := h5.cell 1
  have c2 : w.cell? ⟨g, 2, none⟩ = some (.int .i64 m) := h5.cell 2
  have d0 := (h6.cell j).trans hcs
  have f0 := h6.frozen j
  have f2 := h5.frozen 2
  have H5 := Lib.hid h5
  have H6 := Lib.hid h6
  have H4 := Lib.hid h4
  clear h5 h6 h7 hm hj hcs h4
  go_enter Try.func31, Try.ntmps31
  go_wp2_with fail
  go_quiet (fail)
  go_wp2_with fail
  obtain ⟨w1, hw1⟩ : ∃ w1, w1 = w.drewN nq := ⟨_, rfl⟩
  rw [← hw1]
  have c0' : w1.cell? ⟨g, 0, none⟩ = some (.slice (some ⟨b, 0, none⟩) n n) := by rw [hw1]; exact c0
  have c1' : w1.cell? ⟨g, 1, none⟩ = some (.int .i64 f) := by rw [hw1]; exact c1
  have c2' : w1.cell? ⟨g, 2, none⟩ = some (.int .i64 m) := by rw [hw1]; exact c2
  have d0' : w1.cell? ⟨b, j, none⟩ = some (cs.getD j undef) := by rw [hw1]; exact d0
  have f0' : w1.frozen? ⟨b, j, none⟩ = false := by rw [hw1]; exact f0
  have f2' : w1.frozen? ⟨g, 2, none⟩ = false := by rw [hw1]; exact f2
  have HW := Lib.hid hw1
  have hs : IntKind.i64.wrap ((f : Int) + (m : Int)) = (f : Int) + (m : Int) := IntWalk.i64_in _ (by omega)
  have ht : ((f : Int) + (m : Int)).tmod (n : Int) = (j : Int) := by rw [Int.tmod_eq_emod_of_nonneg (by omega)]; exact hJ
  have hj : IntKind.i64.wrap (j : Int) = (j : Int) := IntWalk.i64_in _ (by omega)
  have hnz : n ≠ 0 := by omega
  have hm1 : IntKind.i64.wrap ((m : Int) + 1) = (m : Int) + 1 := IntWalk.i64_in _ (by omega)
  have B1 := Lib.hid (show Blk (w1.setCell ⟨b, j, none⟩ (Value.string x)) g #[.slice (some ⟨b, 0, none⟩) n n, .int .i64 f, .int .i64 m] 123 by rw [hw1]; exact Blk.far (Blk.drewN H5.out nq) H4.out _ _)
  have B2 := Lib.hid (show Blk (w1.setCell ⟨b, j, none⟩ (Value.string x)) b (cs.setIfInBounds j (Value.string x)) 9 by rw [hw1]; exact Blk.put (Blk.drewN H6.out nq) _ _ rfl)
  have c2s : (w1.setCell ⟨b, j, none⟩ (Value.string x)).cell? ⟨g, 2, none⟩ = some (.int .i64 m) := B1.out.cell 2
  have f2s : (w1.setCell ⟨b, j, none⟩ (Value.string x)).frozen? ⟨g, 2, none⟩ = false := B1.out.frozen 2
  clear c0 c1 c2 d0 f0 f2
  clear hw1
  go_still_tail 21, (by kernel_rfl)
  go_wp2_with fail
  go_ret
  refine ⟨rfl, ⟨h3, H4.out, cs.setIfInBounds j (Value.string x), f, ?_, ?_, HD.out⟩, ?_⟩
  · exact Blk.put B1.out 2 _ (by rw [HL.out]; rfl)
  · exact Blk.far B2.out H4.out.symm _ _
  · have h := ((((Fr.refl [g, b] w).drewN nq).set (b := b) (.inl (by simp)) j (Value.string x)).set (b := g) (.inl (by simp)) 2 (.int .i64 ((m : Int) + 1))).drew
    rw [← HW.out] at h
    exact h

set_option maxRecDepth 100000 in
set_option maxHeartbeats 2000000 in
theorem len_string (g b n : Nat) (q : List Value) (w : World) (hI : IsR w g b n q 123 9) :
    Calls Try.prog 33 #[.pointer (some ⟨g, 0, none⟩)] w fun e w' => e = .returned (.int .i64 q.length) ∧ w = w' := by
  obtain ⟨h3, h4, cs, f, h5, h6, h7⟩ := hI
  have c2 : w.cell? ⟨g, 2, none⟩ = some (.int .i64 q.length) := h5.cell 2
  clear h3 h4 h5 h6 h7
  go_enter Try.func33, Try.ntmps33
  go_wp2_with fail
  go_ret
  exact ⟨rfl, rfl⟩

set_option maxRecDepth 100000 in
set_option maxHeartbeats 2000000 in
theorem front_string_none (g b n : Nat) (w : World) (hI : IsR w g b n [] 123 9) :
    Calls Try.prog 74 #[.pointer (some ⟨g, 0, none⟩)] w fun e w' => e = .returned (.tuple #[(.string ⟨#[]⟩), .bool false]) ∧ w = w' := by
  obtain ⟨h3, h4, cs, f, h5, h6, h7⟩ := hI
  have c2 : w.cell? ⟨g, 2, none⟩ = some (.int .i64 0) := h5.cell 2
  clear h3 h4 h5 h6 h7
  go_enter Try.func74, Try.ntmps74
  go_wp2_with fail
  go_ret2
  exact ⟨rfl, rfl⟩

set_option maxRecDepth 100000 in
set_option maxHeartbeats 2000000 in
theorem front_string_some (g b n : Nat) (x : ByteArray) (q : List Value) (w : World) (hI : IsR w g b n (Value.string x :: q) 123 9) :
    Calls Try.prog 74 #[.pointer (some ⟨g, 0, none⟩)] w fun e w' => e = .returned (.tuple #[Value.string x, .bool true]) ∧ Drawn0 w w' := by
  obtain ⟨h3, h4, cs, f, h5, h6, h7⟩ := hI
  obtain ⟨m, hm⟩ : ∃ m, m = (Value.string x :: q).length := ⟨_, rfl⟩
  have hm0 : 1 ≤ m := by rw [hm]; simp
  have hfn := h7.2.1
  have hmn := h7.2.2.1
  rw [← hm] at h5 hmn
  have c0 : w.cell? ⟨g, 0, none⟩ = some (.slice (some ⟨b, 0, none⟩) n n) := h5.cell 0
  have c1 : w.cell? ⟨g, 1, none⟩ = some (.int .i64 f) := h5.cell 1
  have c2 : w.cell? ⟨g, 2, none⟩ = some (.int .i64 m) := h5.cell 2
  have d0 : w.cell? ⟨b, f, none⟩ = some (Value.string x) := (h6.cell f).trans h7.front
  clear h4 h5 h6 h7 hm
  go_enter Try.func74, Try.ntmps74
  go_wp2_with fail
  go_quiet (fail)
  go_wp2_with fail
  go_ret2
  exact ⟨rfl, ⟨⟨_, rfl⟩⟩⟩

set_option maxRecDepth 100000 in
set_option maxHeartbeats 2000000 in
theorem pop_string_none (g b n : Nat) (w : World) (hI : IsR w g b n [] 123 9) :
    Calls Try.prog 32 #[.pointer (some ⟨g, 0, none⟩)] w fun e w' => e = .returned (.tuple #[(.string ⟨#[]⟩), .bool false]) ∧ w = w' := by
  go_enter Try.func32, Try.ntmps32
  go_wp2_with fail
  refine (front_string_none g b n w hI).mono ?_
  rintro e w' ⟨rfl, rfl⟩
  go_wp2_with fail
  go_ret2
  exact ⟨rfl, rfl⟩

set_option maxRecDepth 100000 in
set_option maxHeartbeats 2000000 in
theorem pop_string_some (g b n : Nat) (x : ByteArray) (q : List Value) (w : World) (hI : IsR w g b n (Value.string x :: q) 123 9) :
    Calls Try.prog 32 #[.pointer (some ⟨g, 0, none⟩)] w fun e w' => e = .returned (.tuple #[Value.string x, .bool true]) ∧ IsR w' g b n q 123 9 ∧ Fr [g, b] w w' := by
  have HI := Lib.hid hI
  obtain ⟨h3, h4, cs, f, h5, h6, h7⟩ := hI
  obtain ⟨m, hm⟩ : ∃ m, m = q.length := ⟨_, rfl⟩
  have hml : (Value.string x :: q).length = m + 1 := by rw [hm]; rfl
  obtain ⟨j, hj⟩ : ∃ j, j = (f + 1) % n := ⟨_, rfl⟩
  have HD := Lib.hid (show Holds (cs.setIfInBounds f (.string ⟨#[]⟩)) j n q by rw [hj]; exact h7.pop _)
  have hfn := h7.2.1
  have hmn := h7.2.2.1
  rw [hml] at h5 hmn
  have hjn : j < n := by rw [hj]; exact mod_lt hfn
  have hJ : ((f : Int) + 1).tmod (n : Int) = (j : Int) := by rw [Int.tmod_eq_emod_of_nonneg (by omega), hj, Int.natCast_emod, Int.natCast_add, Int.natCast_one]
  have hs : IntKind.i64.wrap ((f : Int) + 1) = (f : Int) + 1 := IntWalk.i64_in _ (by omega)
  have hnz : n ≠ 0 := by omega
  have d0 : cs[f]? = some (Value.string x) := h7.front
  have HM := Lib.hid hm
  have H5 := Lib.hid h5
  have H6 := Lib.hid h6
  have H4 := Lib.hid h4
  have D0 := Lib.hid d0
  clear h5 h6 h7 hm hj h4 d0 hml
  go_enter Try.func32, Try.ntmps32
  go_wp2_with fail
  refine (front_string_some g b n x q w HI.out).mono ?_
  rintro e w1 ⟨rfl, hd⟩
  obtain ⟨K0, hw1⟩ := hd.out
  have B1 : Blk w1 g #[.slice (some ⟨b, 0, none⟩) n n, .int .i64 f, .int .i64 ((m + 1 : Nat) : Int)] 123 := by rw [hw1]; exact H5.out
  have B2 : Blk w1 b cs 9 := by rw [hw1]; exact H6.out
  have c0 : w1.cell? ⟨g, 0, none⟩ = some (.slice (some ⟨b, 0, none⟩) n n) := B1.cell 0
  have c1 : w1.cell? ⟨g, 1, none⟩ = some (.int .i64 f) := B1.cell 1
  have d0 : w1.cell? ⟨b, f, none⟩ = some (Value.string x) := (B2.cell f).trans D0.out
  have f0 : w1.frozen? ⟨b, f, none⟩ = false := B2.frozen f
  have E1 := Lib.hid (Blk.far B1 H4.out f (.string ⟨#[]⟩))
  have E2 := Lib.hid (Blk.put B2 f (.string ⟨#[]⟩) rfl)
  have HW := Lib.hid hw1
  clear hd hw1 B1 B2
  go_wp2_with fail
  go_still_tail 10, (by kernel_rfl)
  go_wp2_with fail
  obtain ⟨w2, hw2⟩ : ∃ w2, w2 = (w1.setCell ⟨b, f, none⟩ (.string ⟨#[]⟩)).drew := ⟨_, rfl⟩
  rw [← hw2]
  have B1 : Blk w2 g #[.slice (some ⟨b, 0, none⟩) n n, .int .i64 f, .int .i64 ((m + 1 : Nat) : Int)] 123 := by rw [hw2]; exact E1.out
  have B2 : Blk w2 b (cs.setIfInBounds f (.string ⟨#[]⟩)) 9 := by rw [hw2]; exact E2.out
  have F2 := Lib.hid (show Fr [g, b] w w2 by rw [hw2, HW.out]; exact (((Fr.refl [g, b] w).drewN K0).set (.inl (by simp)) _ _).drew)
  have c0' : w2.cell? ⟨g, 0, none⟩ = some (.slice (some ⟨b, 0, none⟩) n n) := B1.cell 0
  have c1' : w2.cell? ⟨g, 1, none⟩ = some (.int .i64 f) := B1.cell 1
  have f1' : w2.frozen? ⟨g, 1, none⟩ = false := B1.frozen 1
  have E1 := Lib.hid (Blk.put B1 1 (.int .i64 (j : Int)) rfl)
  have E2 := Lib.hid (Blk.far B2 H4.out.symm 1 (.int .i64 (j : Int)))
  have c2s : (w2.setCell ⟨g, 1, none⟩ (.int .i64 (j : Int))).cell? ⟨g, 2, none⟩ = some (.int .i64 ((m + 1 : Nat) : Int)) := E1.out.cell 2
  have f2s : (w2.setCell ⟨g, 1, none⟩ (.int .i64 (j : Int))).frozen? ⟨g, 2, none⟩ = false := E1.out.frozen 2
  clear hw2 B1 B2 c0 c1 d0 f0
  go_still_tail 14, (by kernel_rfl)
  go_wp2_with fail
  go_ret2
  refine ⟨rfl, ⟨h3, H4.out, cs.setIfInBounds f (.string ⟨#[]⟩), j, ?_, ?_, HD.out⟩, ?_⟩
  · exact Blk.put E1.out 2 _ (by rw [← HM.out]; rfl)
  · exact Blk.far E2.out H4.out.symm _ _
  · exact ((F2.out.set (.inl (by simp)) _ _).set (.inl (by simp)) _ _).drew
end Go.Proofs.Ytjkaldnhfenbhaa.Ring
