/- The walks of layer 17's ledger: what is read. -/
import Derived.Test.YtjkaldnhfenbhaaLedgerW
set_option linter.unusedVariables false
set_option linter.unusedSimpArgs false
namespace Go.Proofs.Ytjkaldnhfenbhaa.Ledger
open Go.RowKit Go.Proofs.YtjkaldnhfenbhaaW.PrintWords Go.Proofs.YtjkaldnhfenbhaaW.PrintLast Go.Proofs.Ytjkaldnhfenbhaa.PLedgerPlays

theorem IsL.cell {w : World} {g b n : Nat} {l : List Int} {tp : TypeId} (h : IsL w g b n l tp) (i : Nat) (hi : i < 9 * n) : w.cell? ⟨b, i, none⟩ = some (.int .u64 (l.getD i 0)) := by
  obtain ⟨_, h2, h3, _⟩ := h
  rw [blk_cell h2 i]
  have : i < l.length := by omega
  simp [this, List.getD]
theorem IsL.cellAt {w : World} {g b n : Nat} {l : List Int} {tp : TypeId} (h : IsL w g b n l tp) (c : Nat) (hc : c < n) : w.cell? ⟨b, c * 9, none⟩ = some (.int .u64 (l.getD (9 * c) 0)) := by
  have := h.cell (c * 9) (by omega)
  rw [this, Nat.mul_comm]

set_option maxRecDepth 100000 in
set_option maxHeartbeats 2000000 in
theorem there_no (g b n : Nat) (l : List Int) (tp : TypeId) (c r : Int) (w : World) (hI : IsL w g b n l tp) (hn : n ≤ 5) (h : ¬ (0 ≤ c ∧ c < n ∧ 1 ≤ r ∧ r ≤ 7)) :
    Calls Try.prog 80 #[.pointer (some ⟨g, 0, none⟩), .int .i64 c, .int .i64 r] w fun e w' => e = .returned (.bool false) ∧ Drawn0 w w' := by
  have c0 := (blk_cell hI.1 0).trans rfl
  clear hI
  by_cases h1 : c < 0
  · clear h
    go_enter Try.func80, Try.ntmps80
    go_wp2_with fail
    go_ret
    exact ⟨rfl, Drawn0.refl _⟩
  · by_cases h2 : (n : Int) ≤ c
    · clear h
      go_enter Try.func80, Try.ntmps80
      go_wp2_with fail
      go_ret
      exact ⟨rfl, Drawn0.refl _⟩
    · by_cases h3 : r < 1
      · clear h
        go_enter Try.func80, Try.ntmps80
        go_wp2_with fail
        go_ret
        exact ⟨rfl, Drawn0.refl _⟩
      · have h4 : 7 < r := by omega
        clear h
        go_enter Try.func80, Try.ntmps80
        go_wp2_with fail
        go_ret
        exact ⟨by show Ending.returned (.bool (decide (r ≤ 7))) = _; rw [decide_eq_false (by omega)], Drawn0.refl _⟩

set_option maxRecDepth 100000 in
set_option maxHeartbeats 2000000 in
theorem received_yes (g b n : Nat) (l : List Int) (tp : TypeId) (c : Nat) (w : World) (hI : IsL w g b n l tp) (hn : n ≤ 5) (hc : c < n) :
    Calls Try.prog 63 #[.pointer (some ⟨g, 0, none⟩), .int .i64 c] w fun e w' => e = .returned (.int .u64 (l.getD (9 * c) 0)) ∧ Drawn0 w w' := by
  have HI := Lib.hid hI
  clear hI
  go_enter Try.func63, Try.ntmps63
  go_wp2_with fail
  refine (there_yes g b n l tp c 7 w HI.out hn (by omega) (by omega)).mono ?_
  rintro e w1 ⟨rfl, hd⟩
  obtain ⟨N, rfl⟩ := hd.out
  clear hd
  have c0 : (w.drewN N).cell? ⟨g, 0, none⟩ = some (.slice (some ⟨b, 0, none⟩) n n) := (blk_cell HI.out.1 0).trans rfl
  have c1 : (w.drewN N).cell? ⟨b, c * 9, none⟩ = some (.int .u64 (l.getD (9 * c) 0)) := HI.out.cellAt c hc
  go_wp2_with fail
  go_ret
  exact ⟨rfl, ⟨⟨N, rfl⟩⟩⟩
end Go.Proofs.Ytjkaldnhfenbhaa.Ledger
