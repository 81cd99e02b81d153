/- Walks of layer 15: Keep, and the document's example. -/
import Derived.Test.YtjkaldnhfenbhaaSamplePure
import Derived.Test.YtjkaldnhfenbhaaFr
import Derived.Test.YtjkaldnhfenbhaaErr
import Derived.Lib.ConvBytes
import Derived.Lib.Hide
set_option linter.unusedVariables false
set_option linter.unusedSimpArgs false
namespace Go.Proofs.Ytjkaldnhfenbhaa.Sample
open Go.RowKit Go.Proofs.YtjkaldnhfenbhaaW.PrintWords Go.Proofs.YtjkaldnhfenbhaaW.PrintLast Go.Proofs.Ytjkaldnhfenbhaa.PSampleKeeps

def bytesL (s : ByteArray) : List Int := s.data.toList.map fun b => (b.toNat : Int)
theorem bytesL_len (s : ByteArray) : (bytesL s).length = s.size := by unfold bytesL; simp
theorem bytesL_wf (s : ByteArray) : ∀ x ∈ bytesL s, (Lit.int .u8 x).wf = true := by
  intro x hx
  obtain ⟨b, _, rfl⟩ := List.mem_map.1 hx
  have := b.toNat_lt
  simp only [Lit.wf, IntKind.min, IntKind.max, IntKind.bits, IntKind.signed]
  simp
  omega
theorem bytes_fr (w : World) (e : TypeId) (s : ByteArray) : Fr [] w (Lib.bytesWorld w e s) :=
  ⟨by simp [Lib.bytesWorld, World.freeze, World.alloc, World.drew, -World.alloc_eq, -World.drew_eq], by simp [Lib.bytesWorld, World.freeze, World.alloc, World.drew, -World.alloc_eq, -World.drew_eq], by simp [Lib.bytesWorld, World.freeze, World.alloc, World.drew, -World.alloc_eq, -World.drew_eq],
    by rw [Lib.bytesWorld_size]; omega, fun k hk _ => Lib.bytesWorld_at_old w e s k hk⟩
theorem bytes_reads (w : World) (e : TypeId) (s : ByteArray) (hs : s.size ≤ 9223372036854775807) : Kd.C (Kd.int .u8) (Lib.bytesWorld w e s) (some ⟨w.heap.size, 0, none⟩) (bytesL s).length (bytesL s) := by
  refine Kd.C_of_reads (d := (0 : Int)) (h1 := fun _ => rfl) ⟨rfl, by rw [bytesL_len]; exact hs, fun _ => ⟨_, rfl, fun j hj => ?_⟩⟩
  rw [bytesL_len] at hj
  rw [show (⟨w.heap.size, 0, none⟩ : Addr).add j = ⟨w.heap.size, j, none⟩ by unfold Addr.add; split <;> simp_all]
  rw [Lib.bytesWorld_cell w e s j hj]
  unfold bytesL
  have hj' : j < s.data.size := hj
  simp only [List.getD_eq_getElem?_getD, List.getElem?_map, Array.getElem?_toList]
  rw [Array.getElem?_eq_getElem hj']
  rfl
theorem cap_le (w : World) (n : Nat) (e : TypeId) : n ≤ grownCap w n 0 e := by
  unfold grownCap
  simp [Question.cut]

set_option maxRecDepth 100000 in
set_option maxHeartbeats 2000000 in
theorem keep_no (A0 : Option Addr) (c0 : Nat) (l : List (List Int)) (c v : Int) (s : ByteArray) (w : World) (hr : Kd.C (Kd.slice 3 (Kd.int .i64)) w A0 l.length l) (hc : l.length ≤ c0) (h : ¬ There l c v) :
    Calls Try.prog 47 #[.slice A0 l.length c0, .int .i64 c, .int .i64 v, .string s] w fun e w' => e = .returned (.tuple #[.bool false, .iface 29 (.int .i64 1)]) ∧ Fr [] w w' := by
  have HC := Lib.hid (sample_threshold.calls 40 A0 c0 l c v _ _ w hr hc (thr_no h))
  clear hr hc h
  go_enter Try.func47, Try.ntmps47
  go_wp2_with fail
  refine HC.out.mono ?_
  rintro e w1 ⟨rfl, hd⟩
  have HF := Lib.hid (Fr.of_drawn hd)
  clear hd
  unfold errW
  go_wp2_with fail
  go_ret2
  exact ⟨rfl, HF.out⟩

set_option maxRecDepth 100000 in
set_option maxHeartbeats 2000000 in
theorem keep_yes (A0 : Option Addr) (c0 : Nat) (l : List (List Int)) (c v : Int) (s : ByteArray) (hs : s.size ≤ 5000) (w : World) (hr : Kd.C (Kd.slice 3 (Kd.int .i64)) w A0 l.length l) (hc : l.length ≤ c0) (h : There l c v) (b : Bool) (hb : decide (MixS.mixH (bytesL s) % 65536 ≥ thr l c v) = b) :
    Calls Try.prog 47 #[.slice A0 l.length c0, .int .i64 c, .int .i64 v, .string s] w fun e w' => e = .returned (.tuple #[.bool b, .nilIface]) ∧ Fr [] w w' := by
  have HC := Lib.hid (sample_threshold.calls 40 A0 c0 l c v _ _ w hr hc (thr_yes h))
  have HK := Lib.hid (MixS.keep_eq (bytesL s) (by rw [bytesL_len]; omega) (thr l c v) 5001 (by rw [bytesL_len]; omega))
  rw [hb] at HK
  obtain ⟨t, ht⟩ : ∃ t, t = thr l c v := ⟨_, rfl⟩
  rw [← ht] at HC HK
  have hcv := fun w : World => Lib.run_convert_string_bytes (P := Try.prog) (u := .string) w 9 128 5 s (by kernel_rfl) (by kernel_rfl) (by kernel_rfl)
  have HR := Lib.hid (fun w : World => bytes_reads w 5 s (by omega))
  have HL := Lib.hid (bytesL_len s)
  clear hr hc h hb ht
  go_enter Try.func47, Try.ntmps47
  go_wp2_with fail
  refine HC.out.mono ?_
  rintro e w1 ⟨rfl, hd⟩
  have HF := Lib.hid (Fr.of_drawn hd)
  clear hd
  unfold errW
  go_wp2_with fail
  have HK2 := Lib.hid (mix_Keep.calls 5001 (some ⟨w1.heap.size, 0, none⟩) (grownCap w1 s.size 0 5) (bytesL s) t b (Lib.bytesWorld w1 5 s) (HR.out w1) (by rw [HL.out]; exact cap_le _ _ _) HK.out)
  rw [HL.out] at HK2
  refine HK2.out.mono ?_
  rintro e w2 ⟨rfl, hd⟩
  have HF2 := Lib.hid ((HF.out.trans (bytes_fr _ _ _)).trans (Fr.of_drawn hd))
  clear hd hcv HK2
  go_wp2_with fail
  go_ret2
  exact ⟨rfl, HF2.out⟩

set_option maxRecDepth 100000 in
set_option maxHeartbeats 2000000 in
theorem up_any (w : World) : Calls Try.prog 45 #[] w fun e w' => e = .returned (.bool true) ∧ Fr [] w w' := by
  have he := Err.eql_err
  have hu := Try.underlying26
  have HT := Lib.hid (show ∀ v : Int, 0 ≤ v → v < 2 → There [[0, 65536]] 0 v from fun v h0 h1 => ⟨⟨by decide, by decide, fun j hj => by
      obtain rfl : j = 0 := by simpa using hj
      exact ⟨by decide, by decide, by decide, by decide, fun i h1 h2 => by
        have h2' : i < 2 := h2
        obtain rfl : i = 1 := by omega
        decide, by decide⟩⟩, by decide, by decide, h0, h1⟩)
  have HN := Lib.hid (show ∀ v : Int, ¬ There [[0, 65536]] 1 v from fun v h => by have := h.2.2.1; simp at this)
  have HM1 := Lib.hid (show decide (MixS.mixH (bytesL ⟨#[97]⟩) % 65536 ≥ thr [[0, 65536]] 0 1) = false by decide +kernel)
  have HM0 := Lib.hid (show decide (MixS.mixH (bytesL ⟨#[97]⟩) % 65536 ≥ thr [[0, 65536]] 0 0) = true by decide +kernel)
  have HR := Lib.hid (show ∀ W : World, ∀ b0 b1 : Nat, Blk W b0 #[.int .i64 0, .int .i64 65536] 3 → Blk W b1 #[.slice (some ⟨b0, 0, none⟩) 2 2] 43 → Kd.C (Kd.slice 3 (Kd.int .i64)) W (some ⟨b1, 0, none⟩) ([[0, 65536]] : List (List Int)).length [[0, 65536]] by
    intro W b0 b1 h0 h1
    refine ⟨rfl, by decide, fun _ => ⟨_, rfl, fun j p hj => ?_⟩⟩
    have hj0 : j = 0 := by
      have := (List.getElem?_eq_some_iff.1 hj).1
      simpa using this
    subst hj0
    obtain rfl : p = [0, 65536] := by simpa using hj.symm
    refine ⟨[.slice (some ⟨b0, 0, none⟩) 2 2], rfl, ⟨some ⟨b0, 0, none⟩, 2, rfl, by decide, ?_⟩, fun i u hu => ?_⟩
    · refine Kd.C_of_reads (d := (0 : Int)) (h1 := fun _ => rfl) ⟨rfl, by decide, fun _ => ⟨_, rfl, fun j hj => ?_⟩⟩
      have h : j = 0 ∨ j = 1 := by
        have : j < 2 := hj
        omega
      rcases h with rfl | rfl
      · exact h0.cell 0
      · exact h0.cell 1
    · have hi0 : i = 0 := by
        have := (List.getElem?_eq_some_iff.1 hu).1
        simpa using this
      subst hi0
      obtain rfl : u = .slice (some ⟨b0, 0, none⟩) 2 2 := by simpa using hu.symm
      exact h1.cell 0)
  go_enter Try.func45, Try.ntmps45
  go_wp2_with fail
  obtain ⟨w1, hw1⟩ : ∃ w1, w1 = (w.alloc (.cells #[.int .i64 0, .int .i64 65536] 3)).alloc (.cells #[.slice (some ⟨w.heap.size, 0, none⟩) 2 2] 43) := ⟨_, rfl⟩
  have B0 := Lib.hid (show Blk w1 w.heap.size #[.int .i64 0, .int .i64 65536] 3 by rw [hw1]; exact (Blk.new w _ _).alloc _)
  have B1 := Lib.hid (show Blk w1 (w.heap.size + 1) #[.slice (some ⟨w.heap.size, 0, none⟩) 2 2] 43 by rw [hw1, ← size_alloc w (.cells #[.int .i64 0, .int .i64 65536] 3)]; exact Blk.new _ _ _)
  have HF := Lib.hid (show Fr [] w w1 by rw [hw1]; exact ((Fr.refl [] w).alloc _).alloc _)
  have HC := Lib.hid (HR.out w1 w.heap.size (w.heap.size + 1) B0.out B1.out)
  have HL := Lib.hid (show ([[0, 65536]] : List (List Int)).length ≤ 1 from Nat.le_refl _)
  clear B0 B1 HR
  rw [← hw1]
  have HW := Lib.hid hw1
  clear hw1
  refine (keep_yes (some ⟨w.heap.size + 1, 0, none⟩) 1 [[0, 65536]] 0 1 ⟨#[97]⟩ (by decide) w1 HC.out HL.out (HT.out 1 (by decide) (by decide)) _ HM1.out).mono ?_
  rintro e w2 ⟨rfl, hF⟩
  have HC2 := Lib.hid (Kd.C_below HC.out hF.below0)
  have HF2 := Lib.hid (HF.out.trans hF)
  clear hF HC HF
  go_wp2_with fail
  refine (keep_yes (some ⟨w.heap.size + 1, 0, none⟩) 1 [[0, 65536]] 0 0 ⟨#[97]⟩ (by decide) w2 HC2.out HL.out (HT.out 0 (by decide) (by decide)) _ HM0.out).mono ?_
  rintro e w3 ⟨rfl, hF⟩
  have HC3 := Lib.hid (Kd.C_below HC2.out hF.below0)
  have HF3 := Lib.hid (HF2.out.trans hF)
  clear hF HC2 HF2
  go_wp2_with fail
  refine (keep_no (some ⟨w.heap.size + 1, 0, none⟩) 1 [[0, 65536]] 1 0 ⟨#[97]⟩ w3 HC3.out HL.out (HN.out 0)).mono ?_
  rintro e w4 ⟨rfl, hF⟩
  have HF4 := Lib.hid (HF3.out.trans hF)
  clear hF HC3 HF3
  go_wp2_with fail
  go_ret
  exact ⟨rfl, HF4.out⟩
end Go.Proofs.Ytjkaldnhfenbhaa.Sample
