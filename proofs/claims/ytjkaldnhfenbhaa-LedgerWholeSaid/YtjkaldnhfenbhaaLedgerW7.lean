/- The walks of layer 17's ledger: Open where there is no such class; a ledger that may not be. -/
import Derived.Test.YtjkaldnhfenbhaaLedgerW2
set_option linter.unusedVariables false
set_option linter.unusedSimpArgs false
namespace Go.Proofs.Ytjkaldnhfenbhaa.Ledger
open Go.RowKit Go.Proofs.YtjkaldnhfenbhaaW.PrintWords Go.Proofs.YtjkaldnhfenbhaaW.PrintLast Go.Proofs.Ytjkaldnhfenbhaa.PLedgerPlays

set_option maxRecDepth 100000 in
set_option maxHeartbeats 2000000 in
theorem open_no (g b n : Nat) (l : List Int) (tp : TypeId) (c : Int) (w : World) (hI : IsL w g b n l tp) (hn : n ≤ 5) (hc : ¬ (0 ≤ c ∧ c < n)) :
    Calls Try.prog 62 #[.pointer (some ⟨g, 0, none⟩), .int .i64 c] w fun e w' => e = .returned (.tuple #[.int .u64 0, .bool false]) ∧ Drawn0 w w' := by
  have HI := Lib.hid hI
  clear hI
  go_enter Try.func62, Try.ntmps62
  go_wp2_with fail
  refine (there_no g b n l tp c 7 w HI.out hn (by omega)).mono ?_
  rintro e w1 ⟨rfl, hd⟩
  obtain ⟨N, rfl⟩ := hd.out
  clear hd
  go_wp2_with fail
  go_ret2
  exact ⟨rfl, ⟨⟨N, rfl⟩⟩⟩

set_option maxRecDepth 100000 in
set_option maxHeartbeats 2000000 in
theorem new_bad (k : Int) (w : World) (h : ¬ (1 ≤ k ∧ k ≤ 4)) :
    Calls Try.prog 59 #[.int .i64 k] w fun e w' => e = .returned (.tuple #[.pointer none, .iface 29 (.int .i64 1)]) ∧ w' = w := by
  by_cases b0 : k < 1
  · clear h
    go_enter Try.func59, Try.ntmps59
    go_wp2_with fail
    go_ret2
    exact ⟨rfl, rfl⟩
  · have b1 : 4 < k := by omega
    clear h
    go_enter Try.func59, Try.ntmps59
    go_wp2_with fail
    go_ret2
    exact ⟨rfl, rfl⟩
end Go.Proofs.Ytjkaldnhfenbhaa.Ledger
