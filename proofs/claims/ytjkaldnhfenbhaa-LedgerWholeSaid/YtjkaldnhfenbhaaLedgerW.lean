/- The walks of layer 17's ledger. -/
import Derived.Test.YtjkaldnhfenbhaaLedgerPure
import Derived.Test.YtjkaldnhfenbhaaPLedgerPlaysx1
import Derived.Test.YtjkaldnhfenbhaaErr
import Derived.Test.YtjkaldnhfenbhaaFr
import Derived.Lib.Hide
import Derived.BigRegion
import Derived.ChangeAlike
import Derived.Deep.RegionHeld3
set_option linter.unusedVariables false
set_option linter.unusedSimpArgs false
namespace Go.Proofs.Ytjkaldnhfenbhaa.Ledger
open Go.RowKit Go.Proofs.YtjkaldnhfenbhaaW.PrintWords Go.Proofs.YtjkaldnhfenbhaaW.PrintLast Go.Proofs.Ytjkaldnhfenbhaa.PLedgerPlays

/-- a ledger at g, its pages' numbers at b -/
def IsL (w : World) (g b : Nat) (n : Nat) (l : List Int) (tp : TypeId) : Prop :=
  w.heap[g]? = some (.cells #[.slice (some ⟨b, 0, none⟩) n n] 136 (0, 0)) ∧ w.heap[b]? = some (.cells (l.map (Value.int .u64)).toArray tp (0, 0)) ∧ l.length = 9 * n ∧ g ≠ b

set_option maxRecDepth 100000 in
set_option maxHeartbeats 2000000 in
theorem there_yes (g b n : Nat) (l : List Int) (tp : TypeId) (c r : Int) (w : World) (hI : IsL w g b n l tp) (hn : n ≤ 5) (hc : 0 ≤ c ∧ c < n) (hr : 1 ≤ r ∧ r ≤ 7) :
    Calls Try.prog 80 #[.pointer (some ⟨g, 0, none⟩), .int .i64 c, .int .i64 r] w fun e w' => e = .returned (.bool true) ∧ Drawn0 w w' := by
  have c0 := (blk_cell hI.1 0).trans rfl
  clear hI
  obtain ⟨h1, h2⟩ := hc
  obtain ⟨h3, h4⟩ := hr
  go_enter Try.func80, Try.ntmps80
  go_wp2_with fail
  go_ret
  exact ⟨rfl, Drawn0.refl _⟩

theorem make_2 (w : World) : (Instr.makeSlice 134 (.int .i64 2) (.int .i64 2)).run Try.prog w = .ok (.slice (some ⟨w.heap.size, 0, none⟩) 2 2) (w.alloc (.cells (Array.replicate 18 (.int .u64 0)) 140)) := by kernel_rfl
theorem make_3 (w : World) : (Instr.makeSlice 134 (.int .i64 3) (.int .i64 3)).run Try.prog w = .ok (.slice (some ⟨w.heap.size, 0, none⟩) 3 3) (w.alloc (.cells (Array.replicate 27 (.int .u64 0)) 140)) := by kernel_rfl
theorem make_4 (w : World) : (Instr.makeSlice 134 (.int .i64 4) (.int .i64 4)).run Try.prog w = .ok (.slice (some ⟨w.heap.size, 0, none⟩) 4 4) (w.alloc (.cells (Array.replicate 36 (.int .u64 0)) 140)) := by kernel_rfl
theorem make_5 (w : World) : (Instr.makeSlice 134 (.int .i64 5) (.int .i64 5)).run Try.prog w = .ok (.slice (some ⟨w.heap.size, 0, none⟩) 5 5) (w.alloc (.cells (Array.replicate 45 (.int .u64 0)) 140)) := by kernel_rfl

set_option maxRecDepth 100000 in
set_option maxHeartbeats 2000000 in
theorem new_2 (w : World) :
    Calls Try.prog 59 #[.int .i64 1] w fun e w' => ∃ g b, e = .returned (.tuple #[.pointer (some ⟨g, 0, none⟩), .nilIface]) ∧ IsL w' g b 2 (List.replicate 18 0) 140 ∧ Fr [] w w' ∧ w.heap.size ≤ g ∧ w.heap.size ≤ b := by
  refine Calls.mono (R := fun e w' => e = .returned (.tuple #[.pointer (some ⟨w.heap.size + 1, 0, none⟩), .nilIface]) ∧ w' = (w.alloc (.cells (Array.replicate 18 (.int .u64 0)) 140)).alloc (.cells #[.slice (some ⟨w.heap.size, 0, none⟩) 2 2] 136)) ?_ (fun e w' ⟨he, hw⟩ => by
    subst hw
    have h1 : (w.alloc (.cells (Array.replicate 18 (.int .u64 0)) 140)).heap.size = w.heap.size + 1 := by unfold World.alloc; simp only [Array.size_push]
    refine ⟨w.heap.size + 1, w.heap.size, he, ⟨?_, ?_, by simp, by omega⟩, ((Fr.refl [] w).alloc _).alloc _, by omega, by omega⟩
    · rw [← h1]; exact blk_new _ _
    · exact blk_alloc (blk_new w _) _)
  have hmk := make_2
  go_enter Try.func59, Try.ntmps59
  go_wp2_with fail
  go_ret2
  exact ⟨by first | rfl | simp [World.alloc_eq], rfl⟩

set_option maxRecDepth 100000 in
set_option maxHeartbeats 2000000 in
theorem new_3 (w : World) :
    Calls Try.prog 59 #[.int .i64 2] w fun e w' => ∃ g b, e = .returned (.tuple #[.pointer (some ⟨g, 0, none⟩), .nilIface]) ∧ IsL w' g b 3 (List.replicate 27 0) 140 ∧ Fr [] w w' ∧ w.heap.size ≤ g ∧ w.heap.size ≤ b := by
  refine Calls.mono (R := fun e w' => e = .returned (.tuple #[.pointer (some ⟨w.heap.size + 1, 0, none⟩), .nilIface]) ∧ w' = (w.alloc (.cells (Array.replicate 27 (.int .u64 0)) 140)).alloc (.cells #[.slice (some ⟨w.heap.size, 0, none⟩) 3 3] 136)) ?_ (fun e w' ⟨he, hw⟩ => by
    subst hw
    have h1 : (w.alloc (.cells (Array.replicate 27 (.int .u64 0)) 140)).heap.size = w.heap.size + 1 := by unfold World.alloc; simp only [Array.size_push]
    refine ⟨w.heap.size + 1, w.heap.size, he, ⟨?_, ?_, by simp, by omega⟩, ((Fr.refl [] w).alloc _).alloc _, by omega, by omega⟩
    · rw [← h1]; exact blk_new _ _
    · exact blk_alloc (blk_new w _) _)
  have hmk := make_3
  go_enter Try.func59, Try.ntmps59
  go_wp2_with fail
  go_ret2
  exact ⟨by first | rfl | simp [World.alloc_eq], rfl⟩

set_option maxRecDepth 100000 in
set_option maxHeartbeats 2000000 in
theorem new_4 (w : World) :
    Calls Try.prog 59 #[.int .i64 3] w fun e w' => ∃ g b, e = .returned (.tuple #[.pointer (some ⟨g, 0, none⟩), .nilIface]) ∧ IsL w' g b 4 (List.replicate 36 0) 140 ∧ Fr [] w w' ∧ w.heap.size ≤ g ∧ w.heap.size ≤ b := by
  refine Calls.mono (R := fun e w' => e = .returned (.tuple #[.pointer (some ⟨w.heap.size + 1, 0, none⟩), .nilIface]) ∧ w' = (w.alloc (.cells (Array.replicate 36 (.int .u64 0)) 140)).alloc (.cells #[.slice (some ⟨w.heap.size, 0, none⟩) 4 4] 136)) ?_ (fun e w' ⟨he, hw⟩ => by
    subst hw
    have h1 : (w.alloc (.cells (Array.replicate 36 (.int .u64 0)) 140)).heap.size = w.heap.size + 1 := by unfold World.alloc; simp only [Array.size_push]
    refine ⟨w.heap.size + 1, w.heap.size, he, ⟨?_, ?_, by simp, by omega⟩, ((Fr.refl [] w).alloc _).alloc _, by omega, by omega⟩
    · rw [← h1]; exact blk_new _ _
    · exact blk_alloc (blk_new w _) _)
  have hmk := make_4
  go_enter Try.func59, Try.ntmps59
  go_wp2_with fail
  go_ret2
  exact ⟨by first | rfl | simp [World.alloc_eq], rfl⟩

set_option maxRecDepth 100000 in
set_option maxHeartbeats 2000000 in
theorem new_5 (w : World) :
    Calls Try.prog 59 #[.int .i64 4] w fun e w' => ∃ g b, e = .returned (.tuple #[.pointer (some ⟨g, 0, none⟩), .nilIface]) ∧ IsL w' g b 5 (List.replicate 45 0) 140 ∧ Fr [] w w' ∧ w.heap.size ≤ g ∧ w.heap.size ≤ b := by
  refine Calls.mono (R := fun e w' => e = .returned (.tuple #[.pointer (some ⟨w.heap.size + 1, 0, none⟩), .nilIface]) ∧ w' = (w.alloc (.cells (Array.replicate 45 (.int .u64 0)) 140)).alloc (.cells #[.slice (some ⟨w.heap.size, 0, none⟩) 5 5] 136)) ?_ (fun e w' ⟨he, hw⟩ => by
    subst hw
    have h1 : (w.alloc (.cells (Array.replicate 45 (.int .u64 0)) 140)).heap.size = w.heap.size + 1 := by unfold World.alloc; simp only [Array.size_push]
    refine ⟨w.heap.size + 1, w.heap.size, he, ⟨?_, ?_, by simp, by omega⟩, ((Fr.refl [] w).alloc _).alloc _, by omega, by omega⟩
    · rw [← h1]; exact blk_new _ _
    · exact blk_alloc (blk_new w _) _)
  have hmk := make_5
  go_enter Try.func59, Try.ntmps59
  go_wp2_with fail
  go_ret2
  exact ⟨by first | rfl | simp [World.alloc_eq], rfl⟩
end Go.Proofs.Ytjkaldnhfenbhaa.Ledger
