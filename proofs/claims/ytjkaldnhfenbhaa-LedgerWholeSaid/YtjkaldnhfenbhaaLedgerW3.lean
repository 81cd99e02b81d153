/- The walks of layer 17's ledger: the rest of what is read, and what is noted. -/
import Derived.Test.YtjkaldnhfenbhaaLedgerW2
set_option linter.unusedVariables false
set_option linter.unusedSimpArgs false
namespace Go.Proofs.Ytjkaldnhfenbhaa.Ledger
open Go.RowKit Go.Proofs.YtjkaldnhfenbhaaW.PrintWords Go.Proofs.YtjkaldnhfenbhaaW.PrintLast Go.Proofs.Ytjkaldnhfenbhaa.PLedgerPlays

theorem IsL.put {w : World} {g b n : Nat} {l : List Int} {tp : TypeId} (h : IsL w g b n l tp) (i : Nat) (v : Int) : IsL (w.setCell ⟨b, i, none⟩ (.int .u64 v)) g b n (l.set i v) tp := by
  obtain ⟨h1, h2, h3, h6⟩ := h
  refine ⟨(Below.heap_setCell w ⟨b, i, none⟩ _ g h6).trans h1, ?_, by rw [List.length_set]; exact h3, h6⟩
  rw [blk_set h2 i]
  simp [List.map_set]

set_option maxRecDepth 100000 in
set_option maxHeartbeats 2000000 in
theorem received_no (g b n : Nat) (l : List Int) (tp : TypeId) (c : Int) (w : World) (hI : IsL w g b n l tp) (hn : n ≤ 5) (hc : ¬ (0 ≤ c ∧ c < n)) :
    Calls Try.prog 63 #[.pointer (some ⟨g, 0, none⟩), .int .i64 c] w fun e w' => e = .returned (.int .u64 0) ∧ Drawn0 w w' := by
  have HI := Lib.hid hI
  clear hI
  go_enter Try.func63, Try.ntmps63
  go_wp2_with fail
  refine (there_no g b n l tp c 7 w HI.out hn (by omega)).mono ?_
  rintro e w1 ⟨rfl, hd⟩
  obtain ⟨N, rfl⟩ := hd.out
  clear hd
  go_wp2_with fail
  go_ret
  exact ⟨rfl, ⟨⟨N, rfl⟩⟩⟩

set_option maxRecDepth 100000 in
set_option maxHeartbeats 2000000 in
theorem ended_no (g b n : Nat) (l : List Int) (tp : TypeId) (c r : Int) (w : World) (hI : IsL w g b n l tp) (hn : n ≤ 5) (hc : ¬ (0 ≤ c ∧ c < n ∧ 1 ≤ r ∧ r ≤ 7)) :
    Calls Try.prog 64 #[.pointer (some ⟨g, 0, none⟩), .int .i64 c, .int .i64 r] w fun e w' => e = .returned (.int .u64 0) ∧ Drawn0 w w' := by
  have HI := Lib.hid hI
  clear hI
  go_enter Try.func64, Try.ntmps64
  go_wp2_with fail
  refine (there_no g b n l tp c r w HI.out hn hc).mono ?_
  rintro e w1 ⟨rfl, hd⟩
  obtain ⟨N, rfl⟩ := hd.out
  clear hd
  go_wp2_with fail
  go_ret
  exact ⟨rfl, ⟨⟨N, rfl⟩⟩⟩

set_option maxRecDepth 100000 in
set_option maxHeartbeats 2000000 in
theorem ended_yes (g b n : Nat) (l : List Int) (tp : TypeId) (c r : Nat) (w : World) (hI : IsL w g b n l tp) (hn : n ≤ 5) (hc : c < n) (hr : 1 ≤ r ∧ r ≤ 7) :
    Calls Try.prog 64 #[.pointer (some ⟨g, 0, none⟩), .int .i64 c, .int .i64 r] w fun e w' => e = .returned (.int .u64 (l.getD (9 * c + 1 + r) 0)) ∧ Drawn0 w w' := by
  have HI := Lib.hid hI
  clear hI
  obtain ⟨h1, h2⟩ := hr
  go_enter Try.func64, Try.ntmps64
  go_wp2_with fail
  refine (there_yes g b n l tp c r w HI.out hn (by omega) (by omega)).mono ?_
  rintro e w1 ⟨rfl, hd⟩
  obtain ⟨N, rfl⟩ := hd.out
  clear hd
  have c0 : (w.drewN N).cell? ⟨g, 0, none⟩ = some (.slice (some ⟨b, 0, none⟩) n n) := (blk_cell HI.out.1 0).trans rfl
  have c1 : (w.drewN N).cell? ⟨b, c * 9 + 1 + r, none⟩ = some (.int .u64 (l.getD (9 * c + 1 + r) 0)) := by rw [Nat.mul_comm]; exact HI.out.cell _ (by omega)
  go_wp2_with fail
  go_ret
  exact ⟨rfl, ⟨⟨N, rfl⟩⟩⟩
end Go.Proofs.Ytjkaldnhfenbhaa.Ledger
