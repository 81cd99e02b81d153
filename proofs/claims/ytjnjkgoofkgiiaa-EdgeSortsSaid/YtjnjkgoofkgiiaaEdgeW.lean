/- Layer 2's walks. -/
import Derived.Test.YtjnjkgoofkgiiaaEngR
import Derived.Test.YtjnjkgoofkgiiaaEdgeFacts
import Derived.Test.YtjnjkgoofkgiiaaProg
set_option linter.unusedVariables false
set_option linter.unusedSimpArgs false
namespace Go.Proofs.Ytjnjkgoofkgiiaa.Edge
open Go Go.RowKit Go.Proofs.Ytjnjkgoofkgiiaa Go.Proofs.Ytjnjkgoofkgiiaa.Eng Go.Proofs.YtjnjkgoofkgiiaaW.PrintWords
set_option maxRecDepth 100000 in
set_option maxHeartbeats 400000 in
theorem isnan_f (x : Nat) (w : World) :
    Calls Try.prog 30 #[.float .f64 x] w fun e w' => e = .returned (.bool (nanB x)) ∧ Fr [] w w' := by
  have HA := Fr.refl [] w
  refine enter (N := 6) Try.func30 (c := _) rfl (by kernel_rfl) (by kernel_rfl) (e := [(0, .float .f64 x)]) (by kernel_rfl) ?_
  refine WE.seq ?_
  -- R0 bits.go:34
  refine WE.region ?_
  refine WO.run 1 0 [(2, .bool false)] (by kernel_rfl) (by kernel_rfl) ?_
  refine WO.done (by kernel_rfl) ?_
  refine WQ.keep [0, 2] (e' := [(0, .float .f64 x), (2, .bool false)]) (by kernel_rfl) ?_
  refine WQ.thenN ?_
  refine WE.seq ?_
  -- R1 bits.go:39
  refine WE.region ?_
  refine WO.run 2 0 [(4, .float .f64 x), (3, .float .f64 x)] (by kernel_rfl) (by kernel_rfl) ?_
  refine WO.one (SQ.F 2 (by kernel_rfl)) 5 (.bool (ord x x != some Ordering.eq)) (by kernel_rfl) ?_
  refine WO.top (v' := .bool (nanB x)) (congrArg Value.bool (nan_ord x)) ?_
  refine WO.run 1 3 [(2, .bool (nanB x))] (by kernel_rfl) (by kernel_rfl) ?_
  refine WO.done (by kernel_rfl) ?_
  refine WQ.keep [0, 2] (e' := [(0, .float .f64 x), (2, .bool (nanB x))]) (by kernel_rfl) ?_
  refine WQ.thenN ?_
  refine WE.ret ?_
  refine WQ.ret (v := .bool (nanB x)) (by kernel_rfl) ?_
  exact ⟨rfl, HA⟩

set_option maxRecDepth 100000 in
set_option maxHeartbeats 400000 in
theorem none_f (x : Nat) (w : World) :
    Calls Try.prog 46 #[.float .f64 x] w fun e w' => e = .returned (.bool (nanB x)) ∧ Fr [] w w' := by
  have HA := Fr.refl [] w
  refine enter (N := 6) Try.func46 (c := _) rfl (by kernel_rfl) (by kernel_rfl) (e := [(0, .float .f64 x)]) (by kernel_rfl) ?_
  refine WE.seq ?_
  -- R0 ref.go:36
  refine WE.region ?_
  refine WO.run 1 0 [(2, .bool false)] (by kernel_rfl) (by kernel_rfl) ?_
  refine WO.done (by kernel_rfl) ?_
  refine WQ.keep [0, 2] (e' := [(0, .float .f64 x), (2, .bool false)]) (by kernel_rfl) ?_
  refine WQ.thenN ?_
  refine WE.seq ?_
  -- R1 ref.go:36
  refine WE.region ?_
  refine WO.run 2 0 [(4, .float .f64 x), (3, .float .f64 x)] (by kernel_rfl) (by kernel_rfl) ?_
  refine WO.one (SQ.F 2 (by kernel_rfl)) 5 (.bool (ord x x != some Ordering.eq)) (by kernel_rfl) ?_
  refine WO.top (v' := .bool (nanB x)) (congrArg Value.bool (nan_ord x)) ?_
  refine WO.run 1 3 [(2, .bool (nanB x))] (by kernel_rfl) (by kernel_rfl) ?_
  refine WO.done (by kernel_rfl) ?_
  refine WQ.keep [0, 2] (e' := [(0, .float .f64 x), (2, .bool (nanB x))]) (by kernel_rfl) ?_
  refine WQ.thenN ?_
  refine WE.ret ?_
  refine WQ.ret (v := .bool (nanB x)) (by kernel_rfl) ?_
  exact ⟨rfl, HA⟩

set_option maxRecDepth 100000 in
set_option maxHeartbeats 400000 in
theorem nan_f (w : World) :
    Calls Try.prog 31 #[] w fun e w' => e = .returned (.float .f64 9221120237041090561) ∧ Fr [] w w' := by
  have HA := Fr.refl [] w
  refine enter (N := 2) Try.func31 (c := _) rfl (by kernel_rfl) (by kernel_rfl) (e := []) (by kernel_rfl) ?_
  refine WE.seq ?_
  -- R0 bits.go:31
  refine WE.region ?_
  refine WO.run 1 0 [(0, .float .f64 0)] (by kernel_rfl) (by kernel_rfl) ?_
  refine WO.done (by kernel_rfl) ?_
  refine WQ.thenN ?_
  refine WE.seq ?_
  -- R1 bits.go:31
  refine WE.region ?_
  refine WO.run 2 0 [(0, .float .f64 9221120237041090561), (1, .float .f64 9221120237041090561)] (by kernel_rfl) (by kernel_rfl) ?_
  refine WO.done (by kernel_rfl) ?_
  refine WQ.keep [0] (e' := [(0, .float .f64 9221120237041090561)]) (by kernel_rfl) ?_
  refine WQ.thenN ?_
  refine WE.ret ?_
  refine WQ.ret (v := .float .f64 9221120237041090561) (by kernel_rfl) ?_
  exact ⟨rfl, HA⟩

set_option maxRecDepth 100000 in
set_option maxHeartbeats 400000 in
theorem rank_f (x : Nat) (w : World) (hx : x < 18446744073709551616) :
    Calls Try.prog 45 #[.float .f64 x] w fun e w' => e = .returned (.int .u64 (rank x : Int)) ∧ Fr [] w w' := by
  have HA := Fr.refl [] w
  refine enter (N := 15) Try.func45 (c := _) rfl (by kernel_rfl) (by kernel_rfl) (e := [(0, .float .f64 x)]) (by kernel_rfl) ?_
  refine WE.seq ?_
  -- R0 edge.go:10
  refine WE.region ?_
  refine WO.run 1 0 [(2, .int .u64 0)] (by kernel_rfl) (by kernel_rfl) ?_
  refine WO.done (by kernel_rfl) ?_
  refine WQ.keep [0, 2] (e' := [(0, .float .f64 x), (2, .int .u64 0)]) (by kernel_rfl) ?_
  refine WQ.thenN ?_
  refine WE.seq ?_
  refine WE.seq ?_
  -- R1 edge.go:11
  refine WE.region ?_
  refine WO.run 1 0 [(4, .float .f64 x)] (by kernel_rfl) (by kernel_rfl) ?_
  refine WO.call (SQ.E 1 (by kernel_rfl)) 5 (by kernel_rfl) (isnan_f x _) ?_
  rintro _ w1 ⟨rfl, F2⟩
  refine ⟨_, rfl, trivial, ?_⟩
  have HA := Fr.step0 HA F2
  refine WO.topB (nanB x) ?_ ?_
  · intro h3
    refine WO.done (by kernel_rfl) ?_
    refine WQ.keep [0, 2, 5] (e' := [(0, .float .f64 x), (2, .int .u64 0), (5, .bool true)]) (by kernel_rfl) ?_
    refine WQ.thenN ?_
    refine WE.condT (by kernel_rfl) ?_
    refine WE.seq ?_
    -- R2 edge.go:12
    refine WE.region ?_
    refine WO.run 1 0 [(2, .int .u64 18446744073709551615)] (by kernel_rfl) (by kernel_rfl) ?_
    refine WO.done (by kernel_rfl) ?_
    refine WQ.keep [0, 2, 5] (e' := [(0, .float .f64 x), (2, .int .u64 18446744073709551615), (5, .bool true)]) (by kernel_rfl) ?_
    refine WQ.thenN ?_
    refine WE.ret ?_
    refine WQ.thenR ?_
    refine WQ.ret (v := .int .u64 18446744073709551615) (by kernel_rfl) ?_
    exact ⟨by rw [rank, if_pos h3]; rfl, HA⟩
  · intro h3
    refine WO.done (by kernel_rfl) ?_
    refine WQ.keep [0, 2, 5] (e' := [(0, .float .f64 x), (2, .int .u64 0), (5, .bool false)]) (by kernel_rfl) ?_
    refine WQ.thenN ?_
    refine WE.condF (by kernel_rfl) ?_
    refine WE.skip ?_
    refine WQ.thenN ?_
    refine WE.seq ?_
    -- R3 edge.go:14
    refine WE.region ?_
    refine WO.run 3 0 [(3, .int .u64 (x : Int)), (7, .int .u64 (x : Int)), (6, .float .f64 x)] (by kernel_rfl) (by kernel_rfl) ?_
    refine WO.done (by kernel_rfl) ?_
    refine WQ.keep [0, 2, 3, 5] (e' := [(0, .float .f64 x), (2, .int .u64 0), (3, .int .u64 (x : Int)), (5, .bool false)]) (by kernel_rfl) ?_
    refine WQ.thenN ?_
    refine WE.seq ?_
    refine WE.seq ?_
    -- R4 edge.go:15
    refine WE.region ?_
    refine WO.run 1 0 [(8, .int .u64 (x : Int))] (by kernel_rfl) (by kernel_rfl) ?_
    refine WO.one (SQ.F 1 (by kernel_rfl)) 9 (.int .u64 ((x : Int).fdiv (2 ^ 63))) (by kernel_rfl) ?_
    refine WO.top (v' := .int .u64 ((x / 9223372036854775808 : Nat) : Int)) (congrArg (Value.int .u64) (shr63 x)) ?_
    refine WO.one (SQ.F 2 (by kernel_rfl)) 10 (.bool (decide (((x / 9223372036854775808 : Int) : Int) = (1 : Int)))) (by kernel_rfl) ?_
    refine WO.topP (((x / 9223372036854775808 : Int) : Int) = (1 : Int)) ?_ ?_
    · intro h4
      refine WO.done (by kernel_rfl) ?_
      refine WQ.keep [0, 2, 3, 5, 10] (e' := [(0, .float .f64 x), (2, .int .u64 0), (3, .int .u64 (x : Int)), (5, .bool false), (10, .bool true)]) (by kernel_rfl) ?_
      refine WQ.thenN ?_
      refine WE.condT (by kernel_rfl) ?_
      refine WE.seq ?_
      -- R5 edge.go:16
      refine WE.region ?_
      refine WO.run 1 0 [(11, .int .u64 (x : Int))] (by kernel_rfl) (by kernel_rfl) ?_
      refine WO.one (SQ.F 1 (by kernel_rfl)) 12 (.int .u64 (IntKind.u64.wrap ((BitVec.ofInt 64 18446744073709551615 ^^^ BitVec.ofInt 64 (x : Int)).toNat : Int))) (by kernel_rfl) ?_
      refine WO.top (v' := .int .u64 ((18446744073709551615 - x : Nat) : Int)) (congrArg (Value.int .u64) (not_hi hx)) ?_
      refine WO.run 1 2 [(2, .int .u64 ((18446744073709551615 - x : Nat) : Int))] (by kernel_rfl) (by kernel_rfl) ?_
      refine WO.done (by kernel_rfl) ?_
      refine WQ.keep [0, 2, 3, 5, 10] (e' := [(0, .float .f64 x), (2, .int .u64 ((18446744073709551615 - x : Nat) : Int)), (3, .int .u64 (x : Int)), (5, .bool false), (10, .bool true)]) (by kernel_rfl) ?_
      refine WQ.thenN ?_
      refine WE.ret ?_
      refine WQ.thenR ?_
      refine WQ.ret (v := .int .u64 ((18446744073709551615 - x : Nat) : Int)) (by kernel_rfl) ?_
      exact ⟨by rw [rank, if_neg (by rw [h3]; decide), if_pos (by omega)], HA⟩
    · intro h4
      refine WO.done (by kernel_rfl) ?_
      refine WQ.keep [0, 2, 3, 5, 10] (e' := [(0, .float .f64 x), (2, .int .u64 0), (3, .int .u64 (x : Int)), (5, .bool false), (10, .bool false)]) (by kernel_rfl) ?_
      refine WQ.thenN ?_
      refine WE.condF (by kernel_rfl) ?_
      refine WE.skip ?_
      refine WQ.thenN ?_
      refine WE.seq ?_
      -- R6 edge.go:18
      refine WE.region ?_
      refine WO.run 1 0 [(13, .int .u64 (x : Int))] (by kernel_rfl) (by kernel_rfl) ?_
      refine WO.one (SQ.F 1 (by kernel_rfl)) 14 (.int .u64 (IntKind.u64.wrap ((BitVec.ofInt 64 (x : Int) ||| BitVec.ofInt 64 9223372036854775808).toNat : Int))) (by kernel_rfl) ?_
      refine WO.top (v' := .int .u64 ((x + 9223372036854775808 : Nat) : Int)) (congrArg (Value.int .u64) (or_hi (by omega))) ?_
      refine WO.run 1 2 [(2, .int .u64 ((x + 9223372036854775808 : Nat) : Int))] (by kernel_rfl) (by kernel_rfl) ?_
      refine WO.done (by kernel_rfl) ?_
      refine WQ.keep [0, 2, 3, 5, 10] (e' := [(0, .float .f64 x), (2, .int .u64 ((x + 9223372036854775808 : Nat) : Int)), (3, .int .u64 (x : Int)), (5, .bool false), (10, .bool false)]) (by kernel_rfl) ?_
      refine WQ.thenN ?_
      refine WE.ret ?_
      refine WQ.ret (v := .int .u64 ((x + 9223372036854775808 : Nat) : Int)) (by kernel_rfl) ?_
      exact ⟨by rw [rank, if_neg (by rw [h3]; decide), if_neg (by omega)], HA⟩

set_option maxRecDepth 100000 in
set_option maxHeartbeats 400000 in
theorem less_f (x y : Nat) (w : World) (hx : x < 18446744073709551616) (hy : y < 18446744073709551616) :
    Calls Try.prog 24 #[.float .f64 x, .float .f64 y] w fun e w' => e = .returned (.bool (lessB x y)) ∧ Fr [] w w' := by
  have HA := Fr.refl [] w
  refine enter (N := 10) Try.func24 (c := _) rfl (by kernel_rfl) (by kernel_rfl) (e := [(0, .float .f64 x), (1, .float .f64 y)]) (by kernel_rfl) ?_
  refine WE.seq ?_
  -- R0 edge.go:22
  refine WE.region ?_
  refine WO.run 1 0 [(4, .bool false)] (by kernel_rfl) (by kernel_rfl) ?_
  refine WO.done (by kernel_rfl) ?_
  refine WQ.keep [0, 1, 4] (e' := [(0, .float .f64 x), (1, .float .f64 y), (4, .bool false)]) (by kernel_rfl) ?_
  refine WQ.thenN ?_
  refine WE.seq ?_
  -- R1 edge.go:22
  refine WE.region ?_
  refine WO.run 1 0 [(5, .float .f64 x)] (by kernel_rfl) (by kernel_rfl) ?_
  refine WO.call (SQ.E 1 (by kernel_rfl)) 6 (by kernel_rfl) (rank_f x _ hx) ?_
  rintro _ w1 ⟨rfl, F2⟩
  refine ⟨_, rfl, trivial, ?_⟩
  have HA := Fr.step0 HA F2
  refine WO.run 1 2 [(7, .float .f64 y)] (by kernel_rfl) (by kernel_rfl) ?_
  refine WO.call (SQ.E 3 (by kernel_rfl)) 8 (by kernel_rfl) (rank_f y _ hy) ?_
  rintro _ w3 ⟨rfl, F4⟩
  refine ⟨_, rfl, trivial, ?_⟩
  have HA := Fr.step0 HA F4
  refine WO.run 2 4 [(4, .bool (decide (((rank x : Int) : Int) < (rank y : Int)))), (9, .bool (decide (((rank x : Int) : Int) < (rank y : Int))))] (by kernel_rfl) (by kernel_rfl) ?_
  refine WO.done (by kernel_rfl) ?_
  refine WQ.keep [0, 1, 4] (e' := [(0, .float .f64 x), (1, .float .f64 y), (4, .bool (decide (((rank x : Int) : Int) < (rank y : Int))))]) (by kernel_rfl) ?_
  refine WQ.thenN ?_
  refine WE.ret ?_
  refine WQ.ret (v := .bool (decide (((rank x : Int) : Int) < (rank y : Int)))) (by kernel_rfl) ?_
  exact ⟨congrArg (fun b => Ending.returned (Value.bool b)) (by unfold lessB; rw [Bool.eq_iff_iff]; simp only [decide_eq_true_eq]; omega), HA⟩

set_option maxRecDepth 100000 in
set_option maxHeartbeats 400000 in
theorem alike_f (x y : Nat) (w : World) (hx : x < 18446744073709551616) (hy : y < 18446744073709551616) :
    Calls Try.prog 26 #[.float .f64 x, .float .f64 y] w fun e w' => e = .returned (.bool (alikeB x y)) ∧ Fr [] w w' := by
  have HA := Fr.refl [] w
  refine enter (N := 10) Try.func26 (c := _) rfl (by kernel_rfl) (by kernel_rfl) (e := [(0, .float .f64 x), (1, .float .f64 y)]) (by kernel_rfl) ?_
  refine WE.seq ?_
  -- R0 edge.go:25
  refine WE.region ?_
  refine WO.run 1 0 [(4, .bool false)] (by kernel_rfl) (by kernel_rfl) ?_
  refine WO.done (by kernel_rfl) ?_
  refine WQ.keep [0, 1, 4] (e' := [(0, .float .f64 x), (1, .float .f64 y), (4, .bool false)]) (by kernel_rfl) ?_
  refine WQ.thenN ?_
  refine WE.seq ?_
  -- R1 edge.go:25
  refine WE.region ?_
  refine WO.run 1 0 [(5, .float .f64 x)] (by kernel_rfl) (by kernel_rfl) ?_
  refine WO.call (SQ.E 1 (by kernel_rfl)) 6 (by kernel_rfl) (rank_f x _ hx) ?_
  rintro _ w1 ⟨rfl, F2⟩
  refine ⟨_, rfl, trivial, ?_⟩
  have HA := Fr.step0 HA F2
  refine WO.run 1 2 [(7, .float .f64 y)] (by kernel_rfl) (by kernel_rfl) ?_
  refine WO.call (SQ.E 3 (by kernel_rfl)) 8 (by kernel_rfl) (rank_f y _ hy) ?_
  rintro _ w3 ⟨rfl, F4⟩
  refine ⟨_, rfl, trivial, ?_⟩
  have HA := Fr.step0 HA F4
  refine WO.run 2 4 [(4, .bool (decide (((rank x : Int) : Int) = (rank y : Int)))), (9, .bool (decide (((rank x : Int) : Int) = (rank y : Int))))] (by kernel_rfl) (by kernel_rfl) ?_
  refine WO.done (by kernel_rfl) ?_
  refine WQ.keep [0, 1, 4] (e' := [(0, .float .f64 x), (1, .float .f64 y), (4, .bool (decide (((rank x : Int) : Int) = (rank y : Int))))]) (by kernel_rfl) ?_
  refine WQ.thenN ?_
  refine WE.ret ?_
  refine WQ.ret (v := .bool (decide (((rank x : Int) : Int) = (rank y : Int)))) (by kernel_rfl) ?_
  exact ⟨congrArg (fun b => Ending.returned (Value.bool b)) (by unfold alikeB; rw [Bool.eq_iff_iff]; simp only [decide_eq_true_eq]; omega), HA⟩

set_option maxRecDepth 100000 in
set_option maxHeartbeats 400000 in
theorem minus_false (w : World) :
    Calls Try.prog 47 #[.float .f64 0] w fun e w' => e = .returned (.bool (false)) ∧ Fr [] w w' := by
  have HA := Fr.refl [] w
  refine enter (N := 10) Try.func47 (c := _) rfl (by kernel_rfl) (by kernel_rfl) (e := [(0, .float .f64 0)]) (by kernel_rfl) ?_
  refine WE.seq ?_
  -- R0 ref.go:39
  refine WE.region ?_
  refine WO.run 1 0 [(2, .bool false)] (by kernel_rfl) (by kernel_rfl) ?_
  refine WO.done (by kernel_rfl) ?_
  refine WQ.keep [0, 2] (e' := [(0, .float .f64 0), (2, .bool false)]) (by kernel_rfl) ?_
  refine WQ.thenN ?_
  refine WE.seq ?_
  -- R1 ref.go:39
  refine WE.region ?_
  refine WO.run 8 0 [(2, .bool false), (9, .bool false), (8, .bool false), (7, .float .f64 9218868437227405312), (6, .float .f64 0), (5, .bool true), (4, .bool true), (3, .float .f64 0)] (by kernel_rfl) (by kernel_rfl) ?_
  refine WO.done (by kernel_rfl) ?_
  refine WQ.keep [0, 2] (e' := [(0, .float .f64 0), (2, .bool false)]) (by kernel_rfl) ?_
  refine WQ.thenN ?_
  refine WE.ret ?_
  refine WQ.ret (v := .bool false) (by kernel_rfl) ?_
  exact ⟨rfl, HA⟩

set_option maxRecDepth 100000 in
set_option maxHeartbeats 400000 in
theorem minus_true (w : World) :
    Calls Try.prog 47 #[.float .f64 9223372036854775808] w fun e w' => e = .returned (.bool (true)) ∧ Fr [] w w' := by
  have HA := Fr.refl [] w
  refine enter (N := 10) Try.func47 (c := _) rfl (by kernel_rfl) (by kernel_rfl) (e := [(0, .float .f64 9223372036854775808)]) (by kernel_rfl) ?_
  refine WE.seq ?_
  -- R0 ref.go:39
  refine WE.region ?_
  refine WO.run 1 0 [(2, .bool false)] (by kernel_rfl) (by kernel_rfl) ?_
  refine WO.done (by kernel_rfl) ?_
  refine WQ.keep [0, 2] (e' := [(0, .float .f64 9223372036854775808), (2, .bool false)]) (by kernel_rfl) ?_
  refine WQ.thenN ?_
  refine WE.seq ?_
  -- R1 ref.go:39
  refine WE.region ?_
  refine WO.run 8 0 [(2, .bool true), (9, .bool true), (8, .bool true), (7, .float .f64 18442240474082181120), (6, .float .f64 9223372036854775808), (5, .bool true), (4, .bool true), (3, .float .f64 9223372036854775808)] (by kernel_rfl) (by kernel_rfl) ?_
  refine WO.done (by kernel_rfl) ?_
  refine WQ.keep [0, 2] (e' := [(0, .float .f64 9223372036854775808), (2, .bool true)]) (by kernel_rfl) ?_
  refine WQ.thenN ?_
  refine WE.ret ?_
  refine WQ.ret (v := .bool true) (by kernel_rfl) ?_
  exact ⟨rfl, HA⟩

theorem minus_f (x : Nat) (w : World) (hx : x < 18446744073709551616) (h : rg x = 0) : Calls Try.prog 47 #[.float .f64 x] w fun e w' => e = .returned (.bool (sg x)) ∧ Fr [] w w' := by
  unfold rg at h
  rcases (show x = 0 ∨ x = 9223372036854775808 by omega) with rfl | rfl
  · exact minus_false w
  · exact minus_true w

set_option maxRecDepth 100000 in
set_option maxHeartbeats 400000 in
theorem refless_f (x y : Nat) (w : World) (hx : x < 18446744073709551616) (hy : y < 18446744073709551616) :
    Calls Try.prog 25 #[.float .f64 x, .float .f64 y] w fun e w' => e = .returned (.bool (lessB x y)) ∧ Fr [] w w' := by
  have HA := Fr.refl [] w
  refine enter (N := 25) Try.func25 (c := _) rfl (by kernel_rfl) (by kernel_rfl) (e := [(0, .float .f64 x), (1, .float .f64 y)]) (by kernel_rfl) ?_
  refine WE.seq ?_
  -- R0 ref.go:42
  refine WE.region ?_
  refine WO.run 1 0 [(4, .bool false)] (by kernel_rfl) (by kernel_rfl) ?_
  refine WO.done (by kernel_rfl) ?_
  refine WQ.keep [0, 1, 4] (e' := [(0, .float .f64 x), (1, .float .f64 y), (4, .bool false)]) (by kernel_rfl) ?_
  refine WQ.thenN ?_
  refine WE.seq ?_
  refine WE.seq ?_
  -- R1 ref.go:43
  refine WE.region ?_
  refine WO.run 1 0 [(5, .float .f64 x)] (by kernel_rfl) (by kernel_rfl) ?_
  refine WO.call (SQ.E 1 (by kernel_rfl)) 6 (by kernel_rfl) (none_f x _) ?_
  rintro _ w1 ⟨rfl, F2⟩
  refine ⟨_, rfl, trivial, ?_⟩
  have HA := Fr.step0 HA F2
  refine WO.topB (nanB x) ?_ ?_
  · intro h3
    refine WO.done (by kernel_rfl) ?_
    refine WQ.keep [0, 1, 4, 6] (e' := [(0, .float .f64 x), (1, .float .f64 y), (4, .bool false), (6, .bool true)]) (by kernel_rfl) ?_
    refine WQ.thenN ?_
    refine WE.condT (by kernel_rfl) ?_
    refine WE.seq ?_
    -- R2 ref.go:44
    refine WE.region ?_
    refine WO.run 1 0 [(4, .bool false)] (by kernel_rfl) (by kernel_rfl) ?_
    refine WO.done (by kernel_rfl) ?_
    refine WQ.keep [0, 1, 4, 6] (e' := [(0, .float .f64 x), (1, .float .f64 y), (4, .bool false), (6, .bool true)]) (by kernel_rfl) ?_
    refine WQ.thenN ?_
    refine WE.ret ?_
    refine WQ.thenR ?_
    refine WQ.ret (v := .bool false) (by kernel_rfl) ?_
    exact ⟨congrArg (fun b => Ending.returned (Value.bool b)) (by rw [← less_eq hx hy]; simp [refLess, ltB, h3]), HA⟩
  · intro h3
    refine WO.done (by kernel_rfl) ?_
    refine WQ.keep [0, 1, 4, 6] (e' := [(0, .float .f64 x), (1, .float .f64 y), (4, .bool false), (6, .bool false)]) (by kernel_rfl) ?_
    refine WQ.thenN ?_
    refine WE.condF (by kernel_rfl) ?_
    refine WE.skip ?_
    refine WQ.thenN ?_
    refine WE.seq ?_
    refine WE.seq ?_
    -- R3 ref.go:46
    refine WE.region ?_
    refine WO.run 1 0 [(7, .float .f64 y)] (by kernel_rfl) (by kernel_rfl) ?_
    refine WO.call (SQ.E 1 (by kernel_rfl)) 8 (by kernel_rfl) (none_f y _) ?_
    rintro _ w4 ⟨rfl, F5⟩
    refine ⟨_, rfl, trivial, ?_⟩
    have HA := Fr.step0 HA F5
    refine WO.topB (nanB y) ?_ ?_
    · intro h6
      refine WO.done (by kernel_rfl) ?_
      refine WQ.keep [0, 1, 4, 6, 8] (e' := [(0, .float .f64 x), (1, .float .f64 y), (4, .bool false), (6, .bool false), (8, .bool true)]) (by kernel_rfl) ?_
      refine WQ.thenN ?_
      refine WE.condT (by kernel_rfl) ?_
      refine WE.seq ?_
      -- R4 ref.go:47
      refine WE.region ?_
      refine WO.run 1 0 [(4, .bool true)] (by kernel_rfl) (by kernel_rfl) ?_
      refine WO.done (by kernel_rfl) ?_
      refine WQ.keep [0, 1, 4, 6, 8] (e' := [(0, .float .f64 x), (1, .float .f64 y), (4, .bool true), (6, .bool false), (8, .bool true)]) (by kernel_rfl) ?_
      refine WQ.thenN ?_
      refine WE.ret ?_
      refine WQ.thenR ?_
      refine WQ.ret (v := .bool true) (by kernel_rfl) ?_
      exact ⟨congrArg (fun b => Ending.returned (Value.bool b)) (by rw [← less_eq hx hy]; simp [refLess, ltB, h3, h6]), HA⟩
    · intro h6
      refine WO.done (by kernel_rfl) ?_
      refine WQ.keep [0, 1, 4, 6, 8] (e' := [(0, .float .f64 x), (1, .float .f64 y), (4, .bool false), (6, .bool false), (8, .bool false)]) (by kernel_rfl) ?_
      refine WQ.thenN ?_
      refine WE.condF (by kernel_rfl) ?_
      refine WE.skip ?_
      refine WQ.thenN ?_
      refine WE.seq ?_
      refine WE.seq ?_
      -- R5 ref.go:49
      refine WE.region ?_
      refine WO.run 1 0 [(9, .float .f64 x)] (by kernel_rfl) (by kernel_rfl) ?_
      refine WO.one (SQ.F 1 (by kernel_rfl)) 10 (.bool (ord x 0 == some Ordering.eq)) (by kernel_rfl) ?_
      refine WO.top (v' := .bool (decide (rg x = 0))) (congrArg Value.bool (zero_ord x)) ?_
      refine WO.topP (rg x = 0) ?_ ?_
      · intro h7
        refine WO.run 2 2 [(12, .float .f64 y), (11, .bool true)] (by kernel_rfl) (by kernel_rfl) ?_
        refine WO.one (SQ.F 4 (by kernel_rfl)) 13 (.bool (ord y 0 == some Ordering.eq)) (by kernel_rfl) ?_
        refine WO.top (v' := .bool (decide (rg y = 0))) (congrArg Value.bool (zero_ord y)) ?_
        refine WO.topP (rg y = 0) ?_ ?_
        · intro h8
          refine WO.run 1 5 [(14, .bool true)] (by kernel_rfl) (by kernel_rfl) ?_
          refine WO.done (by kernel_rfl) ?_
          refine WQ.keep [0, 1, 4, 6, 8, 14] (e' := [(0, .float .f64 x), (1, .float .f64 y), (4, .bool false), (6, .bool false), (8, .bool false), (14, .bool true)]) (by kernel_rfl) ?_
          refine WQ.thenN ?_
          refine WE.condT (by kernel_rfl) ?_
          refine WE.seq ?_
          -- R6 ref.go:50
          refine WE.region ?_
          refine WO.run 1 0 [(15, .float .f64 x)] (by kernel_rfl) (by kernel_rfl) ?_
          refine WO.call (SQ.E 1 (by kernel_rfl)) 16 (by kernel_rfl) (minus_f x _ hx h7) ?_
          rintro _ w9 ⟨rfl, F10⟩
          refine ⟨_, rfl, trivial, ?_⟩
          have HA := Fr.step0 HA F10
          refine WO.topB (sg x) ?_ ?_
          · intro h11
            refine WO.run 2 2 [(18, .float .f64 y), (17, .bool true)] (by kernel_rfl) (by kernel_rfl) ?_
            refine WO.call (SQ.E 4 (by kernel_rfl)) 19 (by kernel_rfl) (minus_f y _ hy h8) ?_
            rintro _ w12 ⟨rfl, F13⟩
            refine ⟨_, rfl, trivial, ?_⟩
            have HA := Fr.step0 HA F13
            refine WO.run 3 5 [(4, .bool (!(sg y))), (21, .bool (!(sg y))), (20, .bool (!(sg y)))] (by kernel_rfl) (by kernel_rfl) ?_
            refine WO.done (by kernel_rfl) ?_
            refine WQ.keep [0, 1, 4, 6, 8, 14] (e' := [(0, .float .f64 x), (1, .float .f64 y), (4, .bool (!(sg y))), (6, .bool false), (8, .bool false), (14, .bool true)]) (by kernel_rfl) ?_
            refine WQ.thenN ?_
            refine WE.ret ?_
            refine WQ.thenR ?_
            refine WQ.ret (v := .bool (!(sg y))) (by kernel_rfl) ?_
            exact ⟨congrArg (fun b => Ending.returned (Value.bool b)) (by rw [← less_eq hx hy]; simp [refLess, ltB, h3, h6, h7, h8, h11]), HA⟩
          · intro h11
            refine WO.run 6 2 [(4, .bool false), (21, .bool false), (20, undef), (19, undef), (18, undef), (17, .bool false)] (by kernel_rfl) (by kernel_rfl) ?_
            refine WO.done (by kernel_rfl) ?_
            refine WQ.keep [0, 1, 4, 6, 8, 14] (e' := [(0, .float .f64 x), (1, .float .f64 y), (4, .bool false), (6, .bool false), (8, .bool false), (14, .bool true)]) (by kernel_rfl) ?_
            refine WQ.thenN ?_
            refine WE.ret ?_
            refine WQ.thenR ?_
            refine WQ.ret (v := .bool false) (by kernel_rfl) ?_
            exact ⟨congrArg (fun b => Ending.returned (Value.bool b)) (by rw [← less_eq hx hy]; simp [refLess, ltB, h3, h6, h7, h8, h11]), HA⟩
        · intro h8
          refine WO.run 1 5 [(14, .bool false)] (by kernel_rfl) (by kernel_rfl) ?_
          refine WO.done (by kernel_rfl) ?_
          refine WQ.keep [0, 1, 4, 6, 8, 14] (e' := [(0, .float .f64 x), (1, .float .f64 y), (4, .bool false), (6, .bool false), (8, .bool false), (14, .bool false)]) (by kernel_rfl) ?_
          refine WQ.thenN ?_
          refine WE.condF (by kernel_rfl) ?_
          refine WE.skip ?_
          refine WQ.thenN ?_
          refine WE.seq ?_
          -- R7 ref.go:52
          refine WE.region ?_
          refine WO.run 2 0 [(23, .float .f64 y), (22, .float .f64 x)] (by kernel_rfl) (by kernel_rfl) ?_
          refine WO.one (SQ.F 2 (by kernel_rfl)) 24 (.bool (ord x y == some Ordering.lt)) (by kernel_rfl) ?_
          refine WO.top (v' := .bool (ltB x y)) (congrArg Value.bool (lt_ord x y)) ?_
          refine WO.run 1 3 [(4, .bool (ltB x y))] (by kernel_rfl) (by kernel_rfl) ?_
          refine WO.done (by kernel_rfl) ?_
          refine WQ.keep [0, 1, 4, 6, 8, 14] (e' := [(0, .float .f64 x), (1, .float .f64 y), (4, .bool (ltB x y)), (6, .bool false), (8, .bool false), (14, .bool false)]) (by kernel_rfl) ?_
          refine WQ.thenN ?_
          refine WE.ret ?_
          refine WQ.ret (v := .bool (ltB x y)) (by kernel_rfl) ?_
          exact ⟨congrArg (fun b => Ending.returned (Value.bool b)) (by rw [← less_eq hx hy]; simp [refLess, ltB, h3, h6, h7, h8]), HA⟩
      · intro h7
        refine WO.run 4 2 [(14, .bool false), (13, undef), (12, undef), (11, .bool false)] (by kernel_rfl) (by kernel_rfl) ?_
        refine WO.done (by kernel_rfl) ?_
        refine WQ.keep [0, 1, 4, 6, 8, 14] (e' := [(0, .float .f64 x), (1, .float .f64 y), (4, .bool false), (6, .bool false), (8, .bool false), (14, .bool false)]) (by kernel_rfl) ?_
        refine WQ.thenN ?_
        refine WE.condF (by kernel_rfl) ?_
        refine WE.skip ?_
        refine WQ.thenN ?_
        refine WE.seq ?_
        -- R7 ref.go:52
        refine WE.region ?_
        refine WO.run 2 0 [(23, .float .f64 y), (22, .float .f64 x)] (by kernel_rfl) (by kernel_rfl) ?_
        refine WO.one (SQ.F 2 (by kernel_rfl)) 24 (.bool (ord x y == some Ordering.lt)) (by kernel_rfl) ?_
        refine WO.top (v' := .bool (ltB x y)) (congrArg Value.bool (lt_ord x y)) ?_
        refine WO.run 1 3 [(4, .bool (ltB x y))] (by kernel_rfl) (by kernel_rfl) ?_
        refine WO.done (by kernel_rfl) ?_
        refine WQ.keep [0, 1, 4, 6, 8, 14] (e' := [(0, .float .f64 x), (1, .float .f64 y), (4, .bool (ltB x y)), (6, .bool false), (8, .bool false), (14, .bool false)]) (by kernel_rfl) ?_
        refine WQ.thenN ?_
        refine WE.ret ?_
        refine WQ.ret (v := .bool (ltB x y)) (by kernel_rfl) ?_
        exact ⟨congrArg (fun b => Ending.returned (Value.bool b)) (by rw [← less_eq hx hy]; simp [refLess, ltB, h3, h6, h7]), HA⟩

set_option maxRecDepth 100000 in
set_option maxHeartbeats 400000 in
theorem refalike_f (x y : Nat) (w : World) (hx : x < 18446744073709551616) (hy : y < 18446744073709551616) :
    Calls Try.prog 27 #[.float .f64 x, .float .f64 y] w fun e w' => e = .returned (.bool (alikeB x y)) ∧ Fr [] w w' := by
  have HA := Fr.refl [] w
  refine enter (N := 19) Try.func27 (c := _) rfl (by kernel_rfl) (by kernel_rfl) (e := [(0, .float .f64 x), (1, .float .f64 y)]) (by kernel_rfl) ?_
  refine WE.seq ?_
  -- R0 ref.go:56
  refine WE.region ?_
  refine WO.run 1 0 [(4, .bool false)] (by kernel_rfl) (by kernel_rfl) ?_
  refine WO.done (by kernel_rfl) ?_
  refine WQ.keep [0, 1, 4] (e' := [(0, .float .f64 x), (1, .float .f64 y), (4, .bool false)]) (by kernel_rfl) ?_
  refine WQ.thenN ?_
  refine WE.seq ?_
  -- R1 ref.go:57
  refine WE.region ?_
  refine WO.run 2 0 [(8, .float .f64 y), (7, .float .f64 x)] (by kernel_rfl) (by kernel_rfl) ?_
  refine WO.call (SQ.E 2 (by kernel_rfl)) 9 (by kernel_rfl) ((fun w_ => refless_f x y w_ hx hy) _) ?_
  rintro _ w1 ⟨rfl, F2⟩
  refine ⟨_, rfl, trivial, ?_⟩
  have HA := Fr.step0 HA F2
  refine WO.topB (lessB x y) ?_ ?_
  · intro h3
    refine WO.run 1 3 [(5, .bool true)] (by kernel_rfl) (by kernel_rfl) ?_
    refine WO.done (by kernel_rfl) ?_
    refine WQ.keep [0, 1, 4, 5] (e' := [(0, .float .f64 x), (1, .float .f64 y), (4, .bool false), (5, .bool true)]) (by kernel_rfl) ?_
    refine WQ.thenN ?_
    refine WE.seq ?_
    -- R2 ref.go:58
    refine WE.region ?_
    refine WO.run 2 0 [(11, .float .f64 x), (10, .float .f64 y)] (by kernel_rfl) (by kernel_rfl) ?_
    refine WO.call (SQ.E 2 (by kernel_rfl)) 12 (by kernel_rfl) ((fun w_ => refless_f y x w_ hy hx) _) ?_
    rintro _ w4 ⟨rfl, F5⟩
    refine ⟨_, rfl, trivial, ?_⟩
    have HA := Fr.step0 HA F5
    refine WO.run 1 3 [(6, .bool (lessB y x))] (by kernel_rfl) (by kernel_rfl) ?_
    refine WO.done (by kernel_rfl) ?_
    refine WQ.keep [0, 1, 4, 5, 6] (e' := [(0, .float .f64 x), (1, .float .f64 y), (4, .bool false), (5, .bool true), (6, .bool (lessB y x))]) (by kernel_rfl) ?_
    refine WQ.thenN ?_
    refine WE.seq ?_
    -- R3 ref.go:59
    refine WE.region ?_
    refine WO.run 7 0 [(4, .bool false), (18, .bool false), (17, undef), (16, undef), (15, .bool false), (14, .bool false), (13, .bool true)] (by kernel_rfl) (by kernel_rfl) ?_
    refine WO.done (by kernel_rfl) ?_
    refine WQ.keep [0, 1, 4, 5, 6] (e' := [(0, .float .f64 x), (1, .float .f64 y), (4, .bool false), (5, .bool true), (6, .bool (lessB y x))]) (by kernel_rfl) ?_
    refine WQ.thenN ?_
    refine WE.ret ?_
    refine WQ.ret (v := .bool false) (by kernel_rfl) ?_
    exact ⟨congrArg (fun b => Ending.returned (Value.bool b)) (by rw [← alike_eq]; simp [h3]), HA⟩
  · intro h3
    refine WO.run 1 3 [(5, .bool false)] (by kernel_rfl) (by kernel_rfl) ?_
    refine WO.done (by kernel_rfl) ?_
    refine WQ.keep [0, 1, 4, 5] (e' := [(0, .float .f64 x), (1, .float .f64 y), (4, .bool false), (5, .bool false)]) (by kernel_rfl) ?_
    refine WQ.thenN ?_
    refine WE.seq ?_
    -- R2 ref.go:58
    refine WE.region ?_
    refine WO.run 2 0 [(11, .float .f64 x), (10, .float .f64 y)] (by kernel_rfl) (by kernel_rfl) ?_
    refine WO.call (SQ.E 2 (by kernel_rfl)) 12 (by kernel_rfl) ((fun w_ => refless_f y x w_ hy hx) _) ?_
    rintro _ w6 ⟨rfl, F7⟩
    refine ⟨_, rfl, trivial, ?_⟩
    have HA := Fr.step0 HA F7
    refine WO.run 1 3 [(6, .bool (lessB y x))] (by kernel_rfl) (by kernel_rfl) ?_
    refine WO.done (by kernel_rfl) ?_
    refine WQ.keep [0, 1, 4, 5, 6] (e' := [(0, .float .f64 x), (1, .float .f64 y), (4, .bool false), (5, .bool false), (6, .bool (lessB y x))]) (by kernel_rfl) ?_
    refine WQ.thenN ?_
    refine WE.seq ?_
    -- R3 ref.go:59
    refine WE.region ?_
    refine WO.run 7 0 [(4, .bool (!(lessB y x))), (18, .bool (!(lessB y x))), (17, .bool (!(lessB y x))), (16, .bool (lessB y x)), (15, .bool true), (14, .bool true), (13, .bool false)] (by kernel_rfl) (by kernel_rfl) ?_
    refine WO.done (by kernel_rfl) ?_
    refine WQ.keep [0, 1, 4, 5, 6] (e' := [(0, .float .f64 x), (1, .float .f64 y), (4, .bool (!(lessB y x))), (5, .bool false), (6, .bool (lessB y x))]) (by kernel_rfl) ?_
    refine WQ.thenN ?_
    refine WE.ret ?_
    refine WQ.ret (v := .bool (!(lessB y x))) (by kernel_rfl) ?_
    exact ⟨congrArg (fun b => Ending.returned (Value.bool b)) (by rw [← alike_eq]; simp [h3]), HA⟩

set_option maxRecDepth 100000 in
set_option maxHeartbeats 400000 in
theorem same_f (x y : Nat) (w : World) (hx : x < 18446744073709551616) (hy : y < 18446744073709551616) :
    Calls Try.prog 29 #[.float .f64 x, .float .f64 y] w fun e w' => e = .returned (.bool (alikeB x y)) ∧ Fr [] w w' := by
  have HA := Fr.refl [] w
  refine enter (N := 18) Try.func29 (c := _) rfl (by kernel_rfl) (by kernel_rfl) (e := [(0, .float .f64 x), (1, .float .f64 y)]) (by kernel_rfl) ?_
  refine WE.seq ?_
  -- R0 law.go:27
  refine WE.region ?_
  refine WO.run 1 0 [(4, .bool false)] (by kernel_rfl) (by kernel_rfl) ?_
  refine WO.done (by kernel_rfl) ?_
  refine WQ.keep [0, 1, 4] (e' := [(0, .float .f64 x), (1, .float .f64 y), (4, .bool false)]) (by kernel_rfl) ?_
  refine WQ.thenN ?_
  refine WE.seq ?_
  -- R1 law.go:28
  refine WE.region ?_
  refine WO.run 1 0 [(5, .float .f64 x)] (by kernel_rfl) (by kernel_rfl) ?_
  refine WO.call (SQ.E 1 (by kernel_rfl)) 6 (by kernel_rfl) (isnan_f x _) ?_
  rintro _ w1 ⟨rfl, F2⟩
  refine ⟨_, rfl, trivial, ?_⟩
  have HA := Fr.step0 HA F2
  refine WO.topB (nanB x) ?_ ?_
  · intro h3
    refine WO.run 2 2 [(8, .float .f64 y), (7, .bool true)] (by kernel_rfl) (by kernel_rfl) ?_
    refine WO.call (SQ.E 4 (by kernel_rfl)) 9 (by kernel_rfl) (isnan_f y _) ?_
    rintro _ w4 ⟨rfl, F5⟩
    refine ⟨_, rfl, trivial, ?_⟩
    have HA := Fr.step0 HA F5
    refine WO.topB (nanB y) ?_ ?_
    · intro h6
      refine WO.run 9 5 [(4, .bool true), (17, .bool true), (16, undef), (15, undef), (14, undef), (13, undef), (12, undef), (11, .bool true), (10, .bool true)] (by kernel_rfl) (by kernel_rfl) ?_
      refine WO.done (by kernel_rfl) ?_
      refine WQ.keep [0, 1, 4] (e' := [(0, .float .f64 x), (1, .float .f64 y), (4, .bool true)]) (by kernel_rfl) ?_
      refine WQ.thenN ?_
      refine WE.ret ?_
      refine WQ.ret (v := .bool true) (by kernel_rfl) ?_
      exact ⟨congrArg (fun b => Ending.returned (Value.bool b)) (by rw [← same_eq hx hy, sameB]; simp [h3, h6] <;> omega), HA⟩
    · intro h6
      refine WO.run 9 5 [(4, .bool (decide (((x : Int) : Int) = (y : Int)))), (17, .bool (decide (((x : Int) : Int) = (y : Int)))), (16, .bool (decide (((x : Int) : Int) = (y : Int)))), (15, .int .u64 (y : Int)), (14, .float .f64 y), (13, .int .u64 (x : Int)), (12, .float .f64 x), (11, .bool false), (10, .bool false)] (by kernel_rfl) (by kernel_rfl) ?_
      refine WO.done (by kernel_rfl) ?_
      refine WQ.keep [0, 1, 4] (e' := [(0, .float .f64 x), (1, .float .f64 y), (4, .bool (decide (((x : Int) : Int) = (y : Int))))]) (by kernel_rfl) ?_
      refine WQ.thenN ?_
      refine WE.ret ?_
      refine WQ.ret (v := .bool (decide (((x : Int) : Int) = (y : Int)))) (by kernel_rfl) ?_
      exact ⟨congrArg (fun b => Ending.returned (Value.bool b)) (by rw [← same_eq hx hy, sameB]; simp [h3, h6] <;> omega), HA⟩
  · intro h3
    refine WO.run 12 2 [(4, .bool (decide (((x : Int) : Int) = (y : Int)))), (17, .bool (decide (((x : Int) : Int) = (y : Int)))), (16, .bool (decide (((x : Int) : Int) = (y : Int)))), (15, .int .u64 (y : Int)), (14, .float .f64 y), (13, .int .u64 (x : Int)), (12, .float .f64 x), (11, .bool false), (10, .bool false), (9, undef), (8, undef), (7, .bool false)] (by kernel_rfl) (by kernel_rfl) ?_
    refine WO.done (by kernel_rfl) ?_
    refine WQ.keep [0, 1, 4] (e' := [(0, .float .f64 x), (1, .float .f64 y), (4, .bool (decide (((x : Int) : Int) = (y : Int))))]) (by kernel_rfl) ?_
    refine WQ.thenN ?_
    refine WE.ret ?_
    refine WQ.ret (v := .bool (decide (((x : Int) : Int) = (y : Int)))) (by kernel_rfl) ?_
    exact ⟨congrArg (fun b => Ending.returned (Value.bool b)) (by rw [← same_eq hx hy, sameB]; simp [h3] <;> omega), HA⟩
end Go.Proofs.Ytjnjkgoofkgiiaa.Edge
