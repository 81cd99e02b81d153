/- Walks of layer 22's program: New, and the example at the head of its statements. -/
import Derived.Test.YtkfcgmknoogliaaBackoffPure
import Derived.Test.YtkfcgmknoogliaaErr
import Derived.Lib.Hide
set_option linter.unusedVariables false
namespace Go.Proofs.Ytkfcgmknoogliaa.Backoff
open Go.RowKit Go.Proofs.YtkfcgmknoogliaaW.PrintWords Go.Proofs.YtkfcgmknoogliaaW.PrintLast Go.Proofs.Ytkfcgmknoogliaa.PBackoffWaits

set_option maxHeartbeats 1000000 in
theorem new_good (b l : Int) (w : World) (h1 : 1 ≤ b) (h2 : b ≤ l) (h3 : l ≤ 1000000) :
    Calls Try.prog 28 #[.int .i64 b, .int .i64 l] w fun e w' => e = .returned (.tuple #[.pointer (some ⟨w.heap.size, 0, none⟩), .nilIface]) ∧ w' = w.alloc (.cells #[.int .i64 b, .int .i64 l, .int .i64 0] 68) := by
  go_enter Try.func28, Try.ntmps28
  go_wp2_with fail
  go_ret2
  exact ⟨rfl, rfl⟩

set_option maxHeartbeats 1000000 in
theorem new_bad (b l : Int) (w : World) (h : b < 1 ∨ l < b ∨ 1000000 < l) :
    Calls Try.prog 28 #[.int .i64 b, .int .i64 l] w fun e w' => e = .returned (.tuple #[.pointer none, .iface 49 (.int .i64 1)]) ∧ w' = w := by
  by_cases h1 : b < 1
  · go_enter Try.func28, Try.ntmps28
    go_wp2_with fail
    go_ret2
    exact ⟨rfl, rfl⟩
  · by_cases h2 : l < b
    · go_enter Try.func28, Try.ntmps28
      go_wp2_with fail
      go_ret2
      exact ⟨rfl, rfl⟩
    · have h3 : 1000000 < l := by omega
      go_enter Try.func28, Try.ntmps28
      go_wp2_with fail
      go_ret2
      exact ⟨rfl, rfl⟩

theorem isS_new (w0 w : World) (hB : Below w0.heap.size w0 w) (b l : Int) : IsS68 w0 (w.alloc (.cells #[.int .i64 b, .int .i64 l, .int .i64 0] 68)) w.heap.size b l 0 := IsS68.new w0 w b l 0 hB

/-- one failure more -/
theorem fail_any (g : Nat) (b l j : Int) (n : Nat) (w0 w : World) (h1 : 1 ≤ b) (h2 : b ≤ l) (h3 : l ≤ 1000000) (hn : n ≤ 1000) (hI : IsS68 w0 w g b l n) (hB : Below w0.heap.size w0 w) :
    Calls Try.prog 31 #[.pointer (some ⟨g, 0, none⟩), .int .i64 j] w fun e w' => e = .returned (.int .i64 (waitOf (longOf b l n) j)) ∧ IsS68 w0 w' g b l ((n : Int) + 1) ∧ Below w0.heap.size w0 w' ∧ KeepBut w w' g none :=
  backoff_Wait_Fail.calls (n + 1) g b l n j _ _ _ _ w0 w hI hB (fail_eq b l j n h1 h2 h3 hn)

set_option maxRecDepth 100000 in
set_option maxHeartbeats 2000000 in
theorem up_any (w : World) : Calls Try.prog 27 #[] w fun e w' => e = .returned (.bool true) ∧ Below w.heap.size w w' := by
  have he := Err.eql_err
  have hu := Try.underlying46
  have f0 := Lib.hid (show waitOf (longOf 2 10 0) 0 = 2 by decide)
  have f1 := Lib.hid (show waitOf (longOf 2 10 1) 0 = 4 by decide)
  have f2 := Lib.hid (show waitOf (longOf 2 10 2) 0 = 8 by decide)
  have f3 := Lib.hid (show waitOf (longOf 2 10 3) 0 = 10 by decide)
  go_enter Try.func27, Try.ntmps27
  go_wp2_with fail
  refine (new_good 2 10 w (by decide) (by decide) (by decide)).mono ?_
  rintro e w1 ⟨rfl, rfl⟩
  have hB := Lib.hid ((Below.refl w.heap.size w).alloc (Nat.le_refl _) (.cells #[.int .i64 2, .int .i64 10, .int .i64 0] 68))
  have hI := Lib.hid (isS_new w w (Below.refl _ _) 2 10)
  go_wp2_with fail
  refine (new_bad 3 2 _ (by decide)).mono ?_
  rintro e w1 ⟨rfl, rfl⟩
  go_wp2_with fail
  refine (fail_any w.heap.size 2 10 0 0 w _ (by decide) (by decide) (by decide) (by decide) hI.out hB.out).mono ?_
  rintro e w1 ⟨rfl, hI, hB, -⟩
  rw [f0.out]
  go_wp2_with fail
  refine (fail_any w.heap.size 2 10 0 1 w _ (by decide) (by decide) (by decide) (by decide) hI hB).mono ?_
  rintro e w1 ⟨rfl, hI, hB, -⟩
  rw [f1.out]
  go_wp2_with fail
  refine (fail_any w.heap.size 2 10 0 2 w _ (by decide) (by decide) (by decide) (by decide) hI hB).mono ?_
  rintro e w1 ⟨rfl, hI, hB, -⟩
  rw [f2.out]
  go_wp2_with fail
  refine (fail_any w.heap.size 2 10 0 3 w _ (by decide) (by decide) (by decide) (by decide) hI hB).mono ?_
  rintro e w1 ⟨rfl, hI, hB, -⟩
  rw [f3.out]
  go_wp2_with fail
  refine (backoff_Wait_Fails.calls w.heap.size 2 10 4 _ _ _ _ w _ hI hB rfl).mono ?_
  rintro e w1 ⟨rfl, hI, hB, -⟩
  go_wp2_with fail
  go_ret
  exact ⟨rfl, hB⟩
end Go.Proofs.Ytkfcgmknoogliaa.Backoff
