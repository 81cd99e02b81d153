/- The walks of layer 17's ledger: what is not there. -/
import Derived.Test.YtjkaldnhfenbhaaLedgerW2
set_option linter.unusedVariables false
set_option linter.unusedSimpArgs false
namespace Go.Proofs.Ytjkaldnhfenbhaa.Ledger
open Go.RowKit Go.Proofs.YtjkaldnhfenbhaaW.PrintWords Go.Proofs.YtjkaldnhfenbhaaW.PrintLast Go.Proofs.Ytjkaldnhfenbhaa.PLedgerPlays

set_option maxRecDepth 100000 in
set_option maxHeartbeats 2000000 in
theorem come_no (g b n : Nat) (l : List Int) (tp : TypeId) (c : Int) (w : World) (hI : IsL w g b n l tp) (hn : n ≤ 5) (hc : ¬ (0 ≤ c ∧ c < n)) :
    Calls Try.prog 61 #[.pointer (some ⟨g, 0, none⟩), .int .i64 c] w fun e w' => e = .returned (.iface 29 (.int .i64 1)) ∧ Drawn0 w w' := by
  have HI := Lib.hid hI
  clear hI
  go_enter Try.func61, Try.ntmps61
  go_wp2_with fail
  refine (there_no g b n l tp c 7 w HI.out hn (by omega)).mono ?_
  rintro e w1 ⟨rfl, hd⟩
  obtain ⟨N, rfl⟩ := hd.out
  clear hd
  go_wp2_with fail
  go_ret
  exact ⟨rfl, ⟨⟨N, rfl⟩⟩⟩

set_option maxRecDepth 100000 in
set_option maxHeartbeats 2000000 in
theorem end_no (g b n : Nat) (l : List Int) (tp : TypeId) (c r : Int) (w : World) (hI : IsL w g b n l tp) (hn : n ≤ 5) (hc : ¬ (0 ≤ c ∧ c < n ∧ 1 ≤ r ∧ r ≤ 7)) :
    Calls Try.prog 60 #[.pointer (some ⟨g, 0, none⟩), .int .i64 c, .int .i64 r] w fun e w' => e = .returned (.iface 29 (.int .i64 1)) ∧ Drawn0 w w' := by
  have HI := Lib.hid hI
  clear hI
  go_enter Try.func60, Try.ntmps60
  go_wp2_with fail
  refine (there_no g b n l tp c r w HI.out hn hc).mono ?_
  rintro e w1 ⟨rfl, hd⟩
  obtain ⟨N, rfl⟩ := hd.out
  clear hd
  go_wp2_with fail
  go_ret
  exact ⟨rfl, ⟨⟨N, rfl⟩⟩⟩
end Go.Proofs.Ytjkaldnhfenbhaa.Ledger
