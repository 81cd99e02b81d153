/- Layer 13's laws: the walks. -/
import Derived.Test.YtjnjkgoofkgiiaaTimerQ
import Derived.Test.YtjnjkgoofkgiiaaTimerL
set_option linter.unusedVariables false
set_option linter.unusedSimpArgs false
namespace Go.Proofs.Ytjnjkgoofkgiiaa.Timer
open Go Go.RowKit Go.Proofs.Ytjnjkgoofkgiiaa Go.Proofs.Ytjnjkgoofkgiiaa.Eng Go.Proofs.YtjnjkgoofkgiiaaW.PrintWords
theorem ownX_of {B : Nat} {w : World} {v : Value} {ds : List Due} (h : OwnD B w v ds) : ∃ F, OwnX 33 2 w F v (ds.map cD) ∧ ∀ y ∈ F, B ≤ y := by
  rcases h with ⟨rfl, rfl⟩ | ⟨b, cap, rfl, h2, h3⟩
  · exact ⟨[], .inl ⟨rfl, rfl, rfl⟩, by simp⟩
  · refine ⟨[b], .inr ⟨b, cap, rfl, by rw [List.length_map], h3⟩, fun y hy => ?_⟩
    obtain rfl : y = b := by simpa using hy
    exact h2
theorem eqA33 (d : Nat) (w : World) (x0 y0 : Int) (x1 y1 : Int) :
    (Op.equalIn (d + 2) 33 (.agg #[.int .i64 x0, .int .i64 x1]) (.agg #[.int .i64 y0, .int .i64 y1])).run Try.prog w = .ok (x0 == y0 && (x1 == y1)) w := by
  refine eqA_of Try.underlying33 (by kernel_rfl) ?_
  refine eqf_cons (by rfl) (by go_simp; rfl) (by go_simp; rfl) (by go_simp) ?_
  exact eqf_last (by rfl) (by go_simp; rfl) (by go_simp; rfl) (by go_simp)
set_option maxRecDepth 100000 in
set_option maxHeartbeats 400000 in
theorem pick_4 (c : Int) (w : World) (h : -9223372036854775808 ≤ c ∧ c ≤ 9223372036854775807) :
    Calls Try.prog 13 #[.int .i64 c, .int .i64 4] w fun e w' => e = .returned (.int .i64 ((pk c 4 : Nat) : Int)) ∧ Fr [] w w' := by
  have HA := Fr.refl [] w
  refine enter (N := 13) Try.func13 (c := _) rfl (by kernel_rfl) (by kernel_rfl) (e := [(0, .int .i64 c), (1, .int .i64 4)]) (by kernel_rfl) ?_
  refine WE.seq ?_
  -- R0 law.go:30
  refine WE.region ?_
  refine WO.run 1 0 [(4, .int .i64 0)] (by kernel_rfl) (by kernel_rfl) ?_
  refine WO.done (by kernel_rfl) ?_
  refine WQ.keep [0, 1, 4] (e' := [(0, .int .i64 c), (1, .int .i64 4), (4, .int .i64 0)]) (by kernel_rfl) ?_
  refine WQ.thenN ?_
  refine WE.seq ?_
  refine WE.seq ?_
  -- R1 law.go:31
  refine WE.region ?_
  refine WO.run 1 0 [(5, .int .i64 c)] (by kernel_rfl) (by kernel_rfl) ?_
  refine WO.one (SQ.F 1 (by kernel_rfl)) 6 (.bool (decide ((c : Int) < 0))) (by kernel_rfl) ?_
  refine WO.topP ((c : Int) < 0) ?_ ?_
  · intro h1
    refine WO.done (by kernel_rfl) ?_
    refine WQ.keep [0, 1, 4, 6] (e' := [(0, .int .i64 c), (1, .int .i64 4), (4, .int .i64 0), (6, .bool true)]) (by kernel_rfl) ?_
    refine WQ.thenN ?_
    refine WE.condT (by kernel_rfl) ?_
    -- R2 law.go:32
    refine WE.region ?_
    refine WO.run 1 0 [(7, .int .i64 c)] (by kernel_rfl) (by kernel_rfl) ?_
    refine WO.one (SQ.F 1 (by kernel_rfl)) 8 (.int .i64 (IntKind.i64.wrap (c + 1))) (by kernel_rfl) ?_
    refine WO.top (v' := .int .i64 (c + 1)) (wrap_i64 (by omega) (by omega)) ?_
    refine WO.one (SQ.F 2 (by kernel_rfl)) 9 (.int .i64 (IntKind.i64.wrap (0 - (c + 1)))) (by kernel_rfl) ?_
    refine WO.top (v' := .int .i64 (0 - (c + 1))) (wrap_i64 (by omega) (by omega)) ?_
    refine WO.run 1 3 [(0, .int .i64 (0 - (c + 1)))] (by kernel_rfl) (by kernel_rfl) ?_
    refine WO.done (by kernel_rfl) ?_
    refine WQ.keep [0, 1, 4, 6] (e' := [(0, .int .i64 (0 - (c + 1))), (1, .int .i64 4), (4, .int .i64 0), (6, .bool true)]) (by kernel_rfl) ?_
    refine WQ.thenN ?_
    refine WE.seq ?_
    -- R3 law.go:34
    refine WE.region ?_
    refine WO.run 2 0 [(11, .int .i64 4), (10, .int .i64 (0 - (c + 1)))] (by kernel_rfl) (by kernel_rfl) ?_
    refine WO.one (SQ.F 2 (by kernel_rfl)) 12 (.int .i64 (Int.tmod (0 - (c + 1)) 4)) (by kernel_rfl) ?_
    refine WO.top (v' := .int .i64 ((pk c 4 : Nat) : Int)) (by rw [pk_cast c 4 (by omega)]; congr 1; congr 1; split <;> omega) ?_
    refine WO.run 1 3 [(4, .int .i64 ((pk c 4 : Nat) : Int))] (by kernel_rfl) (by kernel_rfl) ?_
    refine WO.done (by kernel_rfl) ?_
    refine WQ.keep [0, 1, 4, 6] (e' := [(0, .int .i64 (0 - (c + 1))), (1, .int .i64 4), (4, .int .i64 ((pk c 4 : Nat) : Int)), (6, .bool true)]) (by kernel_rfl) ?_
    refine WQ.thenN ?_
    refine WE.ret ?_
    refine WQ.ret (v := .int .i64 ((pk c 4 : Nat) : Int)) (by kernel_rfl) ?_
    exact ⟨rfl, HA⟩
  · intro h1
    refine WO.done (by kernel_rfl) ?_
    refine WQ.keep [0, 1, 4, 6] (e' := [(0, .int .i64 c), (1, .int .i64 4), (4, .int .i64 0), (6, .bool false)]) (by kernel_rfl) ?_
    refine WQ.thenN ?_
    refine WE.condF (by kernel_rfl) ?_
    refine WE.skip ?_
    refine WQ.thenN ?_
    refine WE.seq ?_
    -- R3 law.go:34
    refine WE.region ?_
    refine WO.run 2 0 [(11, .int .i64 4), (10, .int .i64 c)] (by kernel_rfl) (by kernel_rfl) ?_
    refine WO.one (SQ.F 2 (by kernel_rfl)) 12 (.int .i64 (Int.tmod c 4)) (by kernel_rfl) ?_
    refine WO.top (v' := .int .i64 ((pk c 4 : Nat) : Int)) (by rw [pk_cast c 4 (by omega)]; congr 1; congr 1; split <;> omega) ?_
    refine WO.run 1 3 [(4, .int .i64 ((pk c 4 : Nat) : Int))] (by kernel_rfl) (by kernel_rfl) ?_
    refine WO.done (by kernel_rfl) ?_
    refine WQ.keep [0, 1, 4, 6] (e' := [(0, .int .i64 c), (1, .int .i64 4), (4, .int .i64 ((pk c 4 : Nat) : Int)), (6, .bool false)]) (by kernel_rfl) ?_
    refine WQ.thenN ?_
    refine WE.ret ?_
    refine WQ.ret (v := .int .i64 ((pk c 4 : Nat) : Int)) (by kernel_rfl) ?_
    exact ⟨rfl, HA⟩

set_option maxRecDepth 100000 in
set_option maxHeartbeats 400000 in
theorem pick_100 (c : Int) (w : World) (h : -9223372036854775808 ≤ c ∧ c ≤ 9223372036854775807) :
    Calls Try.prog 13 #[.int .i64 c, .int .i64 100] w fun e w' => e = .returned (.int .i64 ((pk c 100 : Nat) : Int)) ∧ Fr [] w w' := by
  have HA := Fr.refl [] w
  refine enter (N := 13) Try.func13 (c := _) rfl (by kernel_rfl) (by kernel_rfl) (e := [(0, .int .i64 c), (1, .int .i64 100)]) (by kernel_rfl) ?_
  refine WE.seq ?_
  -- R0 law.go:30
  refine WE.region ?_
  refine WO.run 1 0 [(4, .int .i64 0)] (by kernel_rfl) (by kernel_rfl) ?_
  refine WO.done (by kernel_rfl) ?_
  refine WQ.keep [0, 1, 4] (e' := [(0, .int .i64 c), (1, .int .i64 100), (4, .int .i64 0)]) (by kernel_rfl) ?_
  refine WQ.thenN ?_
  refine WE.seq ?_
  refine WE.seq ?_
  -- R1 law.go:31
  refine WE.region ?_
  refine WO.run 1 0 [(5, .int .i64 c)] (by kernel_rfl) (by kernel_rfl) ?_
  refine WO.one (SQ.F 1 (by kernel_rfl)) 6 (.bool (decide ((c : Int) < 0))) (by kernel_rfl) ?_
  refine WO.topP ((c : Int) < 0) ?_ ?_
  · intro h1
    refine WO.done (by kernel_rfl) ?_
    refine WQ.keep [0, 1, 4, 6] (e' := [(0, .int .i64 c), (1, .int .i64 100), (4, .int .i64 0), (6, .bool true)]) (by kernel_rfl) ?_
    refine WQ.thenN ?_
    refine WE.condT (by kernel_rfl) ?_
    -- R2 law.go:32
    refine WE.region ?_
    refine WO.run 1 0 [(7, .int .i64 c)] (by kernel_rfl) (by kernel_rfl) ?_
    refine WO.one (SQ.F 1 (by kernel_rfl)) 8 (.int .i64 (IntKind.i64.wrap (c + 1))) (by kernel_rfl) ?_
    refine WO.top (v' := .int .i64 (c + 1)) (wrap_i64 (by omega) (by omega)) ?_
    refine WO.one (SQ.F 2 (by kernel_rfl)) 9 (.int .i64 (IntKind.i64.wrap (0 - (c + 1)))) (by kernel_rfl) ?_
    refine WO.top (v' := .int .i64 (0 - (c + 1))) (wrap_i64 (by omega) (by omega)) ?_
    refine WO.run 1 3 [(0, .int .i64 (0 - (c + 1)))] (by kernel_rfl) (by kernel_rfl) ?_
    refine WO.done (by kernel_rfl) ?_
    refine WQ.keep [0, 1, 4, 6] (e' := [(0, .int .i64 (0 - (c + 1))), (1, .int .i64 100), (4, .int .i64 0), (6, .bool true)]) (by kernel_rfl) ?_
    refine WQ.thenN ?_
    refine WE.seq ?_
    -- R3 law.go:34
    refine WE.region ?_
    refine WO.run 2 0 [(11, .int .i64 100), (10, .int .i64 (0 - (c + 1)))] (by kernel_rfl) (by kernel_rfl) ?_
    refine WO.one (SQ.F 2 (by kernel_rfl)) 12 (.int .i64 (Int.tmod (0 - (c + 1)) 100)) (by kernel_rfl) ?_
    refine WO.top (v' := .int .i64 ((pk c 100 : Nat) : Int)) (by rw [pk_cast c 100 (by omega)]; congr 1; congr 1; split <;> omega) ?_
    refine WO.run 1 3 [(4, .int .i64 ((pk c 100 : Nat) : Int))] (by kernel_rfl) (by kernel_rfl) ?_
    refine WO.done (by kernel_rfl) ?_
    refine WQ.keep [0, 1, 4, 6] (e' := [(0, .int .i64 (0 - (c + 1))), (1, .int .i64 100), (4, .int .i64 ((pk c 100 : Nat) : Int)), (6, .bool true)]) (by kernel_rfl) ?_
    refine WQ.thenN ?_
    refine WE.ret ?_
    refine WQ.ret (v := .int .i64 ((pk c 100 : Nat) : Int)) (by kernel_rfl) ?_
    exact ⟨rfl, HA⟩
  · intro h1
    refine WO.done (by kernel_rfl) ?_
    refine WQ.keep [0, 1, 4, 6] (e' := [(0, .int .i64 c), (1, .int .i64 100), (4, .int .i64 0), (6, .bool false)]) (by kernel_rfl) ?_
    refine WQ.thenN ?_
    refine WE.condF (by kernel_rfl) ?_
    refine WE.skip ?_
    refine WQ.thenN ?_
    refine WE.seq ?_
    -- R3 law.go:34
    refine WE.region ?_
    refine WO.run 2 0 [(11, .int .i64 100), (10, .int .i64 c)] (by kernel_rfl) (by kernel_rfl) ?_
    refine WO.one (SQ.F 2 (by kernel_rfl)) 12 (.int .i64 (Int.tmod c 100)) (by kernel_rfl) ?_
    refine WO.top (v' := .int .i64 ((pk c 100 : Nat) : Int)) (by rw [pk_cast c 100 (by omega)]; congr 1; congr 1; split <;> omega) ?_
    refine WO.run 1 3 [(4, .int .i64 ((pk c 100 : Nat) : Int))] (by kernel_rfl) (by kernel_rfl) ?_
    refine WO.done (by kernel_rfl) ?_
    refine WQ.keep [0, 1, 4, 6] (e' := [(0, .int .i64 c), (1, .int .i64 100), (4, .int .i64 ((pk c 100 : Nat) : Int)), (6, .bool false)]) (by kernel_rfl) ?_
    refine WQ.thenN ?_
    refine WE.ret ?_
    refine WQ.ret (v := .int .i64 ((pk c 100 : Nat) : Int)) (by kernel_rfl) ?_
    exact ⟨rfl, HA⟩

set_option maxRecDepth 100000 in
set_option maxHeartbeats 400000 in
theorem pick_1000 (c : Int) (w : World) (h : -9223372036854775808 ≤ c ∧ c ≤ 9223372036854775807) :
    Calls Try.prog 13 #[.int .i64 c, .int .i64 1000] w fun e w' => e = .returned (.int .i64 ((pk c 1000 : Nat) : Int)) ∧ Fr [] w w' := by
  have HA := Fr.refl [] w
  refine enter (N := 13) Try.func13 (c := _) rfl (by kernel_rfl) (by kernel_rfl) (e := [(0, .int .i64 c), (1, .int .i64 1000)]) (by kernel_rfl) ?_
  refine WE.seq ?_
  -- R0 law.go:30
  refine WE.region ?_
  refine WO.run 1 0 [(4, .int .i64 0)] (by kernel_rfl) (by kernel_rfl) ?_
  refine WO.done (by kernel_rfl) ?_
  refine WQ.keep [0, 1, 4] (e' := [(0, .int .i64 c), (1, .int .i64 1000), (4, .int .i64 0)]) (by kernel_rfl) ?_
  refine WQ.thenN ?_
  refine WE.seq ?_
  refine WE.seq ?_
  -- R1 law.go:31
  refine WE.region ?_
  refine WO.run 1 0 [(5, .int .i64 c)] (by kernel_rfl) (by kernel_rfl) ?_
  refine WO.one (SQ.F 1 (by kernel_rfl)) 6 (.bool (decide ((c : Int) < 0))) (by kernel_rfl) ?_
  refine WO.topP ((c : Int) < 0) ?_ ?_
  · intro h1
    refine WO.done (by kernel_rfl) ?_
    refine WQ.keep [0, 1, 4, 6] (e' := [(0, .int .i64 c), (1, .int .i64 1000), (4, .int .i64 0), (6, .bool true)]) (by kernel_rfl) ?_
    refine WQ.thenN ?_
    refine WE.condT (by kernel_rfl) ?_
    -- R2 law.go:32
    refine WE.region ?_
    refine WO.run 1 0 [(7, .int .i64 c)] (by kernel_rfl) (by kernel_rfl) ?_
    refine WO.one (SQ.F 1 (by kernel_rfl)) 8 (.int .i64 (IntKind.i64.wrap (c + 1))) (by kernel_rfl) ?_
    refine WO.top (v' := .int .i64 (c + 1)) (wrap_i64 (by omega) (by omega)) ?_
    refine WO.one (SQ.F 2 (by kernel_rfl)) 9 (.int .i64 (IntKind.i64.wrap (0 - (c + 1)))) (by kernel_rfl) ?_
    refine WO.top (v' := .int .i64 (0 - (c + 1))) (wrap_i64 (by omega) (by omega)) ?_
    refine WO.run 1 3 [(0, .int .i64 (0 - (c + 1)))] (by kernel_rfl) (by kernel_rfl) ?_
    refine WO.done (by kernel_rfl) ?_
    refine WQ.keep [0, 1, 4, 6] (e' := [(0, .int .i64 (0 - (c + 1))), (1, .int .i64 1000), (4, .int .i64 0), (6, .bool true)]) (by kernel_rfl) ?_
    refine WQ.thenN ?_
    refine WE.seq ?_
    -- R3 law.go:34
    refine WE.region ?_
    refine WO.run 2 0 [(11, .int .i64 1000), (10, .int .i64 (0 - (c + 1)))] (by kernel_rfl) (by kernel_rfl) ?_
    refine WO.one (SQ.F 2 (by kernel_rfl)) 12 (.int .i64 (Int.tmod (0 - (c + 1)) 1000)) (by kernel_rfl) ?_
    refine WO.top (v' := .int .i64 ((pk c 1000 : Nat) : Int)) (by rw [pk_cast c 1000 (by omega)]; congr 1; congr 1; split <;> omega) ?_
    refine WO.run 1 3 [(4, .int .i64 ((pk c 1000 : Nat) : Int))] (by kernel_rfl) (by kernel_rfl) ?_
    refine WO.done (by kernel_rfl) ?_
    refine WQ.keep [0, 1, 4, 6] (e' := [(0, .int .i64 (0 - (c + 1))), (1, .int .i64 1000), (4, .int .i64 ((pk c 1000 : Nat) : Int)), (6, .bool true)]) (by kernel_rfl) ?_
    refine WQ.thenN ?_
    refine WE.ret ?_
    refine WQ.ret (v := .int .i64 ((pk c 1000 : Nat) : Int)) (by kernel_rfl) ?_
    exact ⟨rfl, HA⟩
  · intro h1
    refine WO.done (by kernel_rfl) ?_
    refine WQ.keep [0, 1, 4, 6] (e' := [(0, .int .i64 c), (1, .int .i64 1000), (4, .int .i64 0), (6, .bool false)]) (by kernel_rfl) ?_
    refine WQ.thenN ?_
    refine WE.condF (by kernel_rfl) ?_
    refine WE.skip ?_
    refine WQ.thenN ?_
    refine WE.seq ?_
    -- R3 law.go:34
    refine WE.region ?_
    refine WO.run 2 0 [(11, .int .i64 1000), (10, .int .i64 c)] (by kernel_rfl) (by kernel_rfl) ?_
    refine WO.one (SQ.F 2 (by kernel_rfl)) 12 (.int .i64 (Int.tmod c 1000)) (by kernel_rfl) ?_
    refine WO.top (v' := .int .i64 ((pk c 1000 : Nat) : Int)) (by rw [pk_cast c 1000 (by omega)]; congr 1; congr 1; split <;> omega) ?_
    refine WO.run 1 3 [(4, .int .i64 ((pk c 1000 : Nat) : Int))] (by kernel_rfl) (by kernel_rfl) ?_
    refine WO.done (by kernel_rfl) ?_
    refine WQ.keep [0, 1, 4, 6] (e' := [(0, .int .i64 c), (1, .int .i64 1000), (4, .int .i64 ((pk c 1000 : Nat) : Int)), (6, .bool false)]) (by kernel_rfl) ?_
    refine WQ.thenN ?_
    refine WE.ret ?_
    refine WQ.ret (v := .int .i64 ((pk c 1000 : Nat) : Int)) (by kernel_rfl) ?_
    exact ⟨rfl, HA⟩

set_option maxRecDepth 100000 in
set_option maxHeartbeats 400000 in
theorem first_nil (w : World) :
    Calls Try.prog 17 #[.slice none 0 0] w fun e w' => e = .returned (.int .i64 (-1)) ∧ Fr [] w w' := by
  have HA := Fr.refl [] w
  refine enter (N := 27) Try.func17 (c := _) rfl (by kernel_rfl) (by kernel_rfl) (e := [(0, .slice none 0 0)]) (by kernel_rfl) ?_
  refine WE.seq ?_
  -- R0 law.go:38
  refine WE.region ?_
  refine WO.run 1 0 [(2, .int .i64 0)] (by kernel_rfl) (by kernel_rfl) ?_
  refine WO.done (by kernel_rfl) ?_
  refine WQ.keep [0, 2] (e' := [(0, .slice none 0 0), (2, .int .i64 0)]) (by kernel_rfl) ?_
  refine WQ.thenN ?_
  refine WE.seq ?_
  -- R1 law.go:39
  refine WE.region ?_
  refine WO.run 1 0 [(3, .int .i64 (-1))] (by kernel_rfl) (by kernel_rfl) ?_
  refine WO.done (by kernel_rfl) ?_
  refine WQ.keep [0, 2, 3] (e' := [(0, .slice none 0 0), (2, .int .i64 0), (3, .int .i64 (-1))]) (by kernel_rfl) ?_
  refine WQ.thenN ?_
  refine WE.seq ?_
  refine WE.seq ?_
  -- R2 law.go:40
  refine WE.region ?_
  refine WO.run 1 0 [(4, .int .i64 0)] (by kernel_rfl) (by kernel_rfl) ?_
  refine WO.done (by kernel_rfl) ?_
  refine WQ.keep [0, 2, 3, 4] (e' := [(0, .slice none 0 0), (2, .int .i64 0), (3, .int .i64 (-1)), (4, .int .i64 0)]) (by kernel_rfl) ?_
  refine WQ.thenN ?_
  refine WE.block ?_
  refine WE.loop (α := Unit) (E := fun _ => [(0, .slice none 0 0), (2, .int .i64 0), (3, .int .i64 (-1)), (4, .int .i64 0)]) (I := fun _ wr => (True) ∧ w = wr) (m := fun _ => 0) () [0, 2, 3, 4] (by kernel_rfl) ?_ ?_
  · exact ⟨trivial, rfl⟩
  intro _ wr hI
  obtain ⟨_, hw⟩ := hI
  subst hw
  refine WE.seq ?_
  refine WE.seq ?_
  -- R3 law.go:40
  refine WE.region ?_
  refine WO.run 4 0 [(8, .bool false), (7, .int .i64 0), (6, .slice none 0 0), (5, .int .i64 0)] (by kernel_rfl) (by kernel_rfl) ?_
  refine WO.done (by kernel_rfl) ?_
  refine WQ.keep [0, 2, 3, 4, 8] (e' := [(0, .slice none 0 0), (2, .int .i64 0), (3, .int .i64 (-1)), (4, .int .i64 0), (8, .bool false)]) (by kernel_rfl) ?_
  refine WQ.thenN ?_
  refine WE.condF (by kernel_rfl) ?_
  refine WE.exit ?_
  refine WQ.thenE ?_
  refine WQ.thenE ?_
  refine WQ.blkE ?_
  refine WQ.thenN ?_
  refine WE.seq ?_
  -- R9 law.go:48
  refine WE.region ?_
  refine WO.run 2 0 [(2, .int .i64 (-1)), (26, .int .i64 (-1))] (by kernel_rfl) (by kernel_rfl) ?_
  refine WO.done (by kernel_rfl) ?_
  refine WQ.keep [0, 2, 3, 4, 8] (e' := [(0, .slice none 0 0), (2, .int .i64 (-1)), (3, .int .i64 (-1)), (4, .int .i64 0), (8, .bool false)]) (by kernel_rfl) ?_
  refine WQ.thenN ?_
  refine WE.ret ?_
  refine WQ.ret (v := .int .i64 (-1)) (by kernel_rfl) ?_
  exact ⟨rfl, HA⟩

set_option maxRecDepth 100000 in
set_option maxHeartbeats 400000 in
theorem first_row (b cap : Nat) (ds : List Due) (w : World) (HR : RowB w b 33 2 cap (ds.map cD)) (hl : ds.length ≤ 1000) :
    Calls Try.prog 17 #[.slice (some ⟨b, 0, none⟩) ds.length cap] w fun e w' => e = .returned (.int .i64 (bst (fun k => (atD ds k).u) ds.length)) ∧ Fr [] w w' := by
  have HA := Fr.refl [] w
  refine enter (N := 27) Try.func17 (c := _) rfl (by kernel_rfl) (by kernel_rfl) (e := [(0, .slice (some ⟨b, 0, none⟩) ds.length cap)]) (by kernel_rfl) ?_
  refine WE.seq ?_
  -- R0 law.go:38
  refine WE.region ?_
  refine WO.run 1 0 [(2, .int .i64 0)] (by kernel_rfl) (by kernel_rfl) ?_
  refine WO.done (by kernel_rfl) ?_
  refine WQ.keep [0, 2] (e' := [(0, .slice (some ⟨b, 0, none⟩) ds.length cap), (2, .int .i64 0)]) (by kernel_rfl) ?_
  refine WQ.thenN ?_
  refine WE.seq ?_
  -- R1 law.go:39
  refine WE.region ?_
  refine WO.run 1 0 [(3, .int .i64 (-1))] (by kernel_rfl) (by kernel_rfl) ?_
  refine WO.done (by kernel_rfl) ?_
  refine WQ.keep [0, 2, 3] (e' := [(0, .slice (some ⟨b, 0, none⟩) ds.length cap), (2, .int .i64 0), (3, .int .i64 (-1))]) (by kernel_rfl) ?_
  refine WQ.thenN ?_
  refine WE.seq ?_
  refine WE.seq ?_
  -- R2 law.go:40
  refine WE.region ?_
  refine WO.run 1 0 [(4, .int .i64 0)] (by kernel_rfl) (by kernel_rfl) ?_
  refine WO.done (by kernel_rfl) ?_
  refine WQ.keep [0, 2, 3, 4] (e' := [(0, .slice (some ⟨b, 0, none⟩) ds.length cap), (2, .int .i64 0), (3, .int .i64 (-1)), (4, .int .i64 0)]) (by kernel_rfl) ?_
  refine WQ.thenN ?_
  refine WE.block ?_
  have hb0 : bst (fun k => (atD ds k).u) 0 = -1 := rfl
  refine WE.env (e' := [(0, .slice (some ⟨b, 0, none⟩) ds.length cap), (2, .int .i64 0), (3, .int .i64 (bst (fun k => (atD ds k).u) 0)), (4, .int .i64 0)]) (by rw [hb0]) ?_
  refine WE.loop (α := Nat) (E := fun k => [(0, .slice (some ⟨b, 0, none⟩) ds.length cap), (2, .int .i64 0), (3, .int .i64 (bst (fun k => (atD ds k).u) k)), (4, .int .i64 (k : Int))]) (I := fun k wr => k ≤ ds.length ∧ Fr [] w wr ∧ RowB wr b 33 2 cap (ds.map cD)) (m := fun k => ds.length - k) 0 [0, 2, 3, 4] (by kernel_rfl) ?_ ?_
  · exact ⟨Nat.zero_le _, HA, HR⟩
  rintro k wr ⟨hk, HA, HR⟩
  refine WE.seq ?_
  refine WE.seq ?_
  -- R3 law.go:40
  refine WE.region ?_
  refine WO.run 3 0 [(7, .int .i64 (ds.length : Int)), (6, .slice (some ⟨b, 0, none⟩) ds.length cap), (5, .int .i64 (k : Int))] (by kernel_rfl) (by kernel_rfl) ?_
  refine WO.one (SQ.F 3 (by kernel_rfl)) 8 (.bool (decide (((k : Int) : Int) < (ds.length : Int)))) (by kernel_rfl) ?_
  refine WO.topP (((k : Int) : Int) < (ds.length : Int)) ?_ ?_
  · intro h1
    refine WO.done (by kernel_rfl) ?_
    refine WQ.keep [0, 2, 3, 4, 8] (e' := [(0, .slice (some ⟨b, 0, none⟩) ds.length cap), (2, .int .i64 0), (3, .int .i64 (bst (fun k => (atD ds k).u) k)), (4, .int .i64 (k : Int)), (8, .bool true)]) (by kernel_rfl) ?_
    refine WQ.thenN ?_
    refine WE.condT (by kernel_rfl) ?_
    refine WE.skip ?_
    refine WQ.thenN ?_
    refine WE.seq ?_
    refine WE.block ?_
    refine WE.seq ?_
    refine WE.seq ?_
    by_cases hk0 : k = 0
    · skip
      have hb2 : bst (fun k => (atD ds k).u) k = -1 := by unfold bst; rw [if_pos hk0]
      refine WE.env (e' := [(0, .slice (some ⟨b, 0, none⟩) ds.length cap), (2, .int .i64 0), (3, .int .i64 (-1)), (4, .int .i64 (k : Int)), (8, .bool true)]) (by rw [hb2]) ?_
      -- R5 law.go:41
      refine WE.region ?_
      refine WO.run 2 0 [(12, .bool true), (11, .int .i64 (-1))] (by kernel_rfl) (by kernel_rfl) ?_
      refine WO.done (by kernel_rfl) ?_
      refine WQ.keep [0, 2, 3, 4, 8, 12] (e' := [(0, .slice (some ⟨b, 0, none⟩) ds.length cap), (2, .int .i64 0), (3, .int .i64 (-1)), (4, .int .i64 (k : Int)), (8, .bool true), (12, .bool true)]) (by kernel_rfl) ?_
      refine WQ.thenN ?_
      refine WE.condT (by kernel_rfl) ?_
      -- R6 law.go:42
      refine WE.region ?_
      refine WO.run 2 0 [(3, .int .i64 (k : Int)), (13, .int .i64 (k : Int))] (by kernel_rfl) (by kernel_rfl) ?_
      refine WO.done (by kernel_rfl) ?_
      refine WQ.keep [0, 2, 3, 4, 8, 12] (e' := [(0, .slice (some ⟨b, 0, none⟩) ds.length cap), (2, .int .i64 0), (3, .int .i64 (k : Int)), (4, .int .i64 (k : Int)), (8, .bool true), (12, .bool true)]) (by kernel_rfl) ?_
      refine WQ.thenN ?_
      refine WE.seq ?_
      -- R7* law.go:44
      refine WE.draw [.free, .free, .free, .free, .still, .free, .free, .free, .free, .still, .free] Same sameR (by kernel_rfl) 11 (Array.replicate 11 false) (by kernel_rfl) rfl ?_
      intro w2 F3 _
      have HR := RowB.keep HR F3 (nin0 _)
      have HA := Fr.step0 HA F3
      refine WO.one (SA.F sameR sameT _ 0 _ (by kernel_rfl)) 14 (.slice (some ⟨b, 0, none⟩) ds.length cap) (by kernel_rfl) ?_
      refine WO.one (SA.F sameR sameT _ 1 _ (by kernel_rfl)) 15 (.int .i64 (k : Int)) (by kernel_rfl) ?_
      refine WO.ixB (SA.F sameR sameT _ 2 _ (by kernel_rfl)) 16 (k * 2) b 0 ds.length 2 (k : Int) (by kernel_rfl) (by omega) (by omega) (by omega) ?_
      refine WO.one (SA.F sameR sameT _ 3 _ (by kernel_rfl)) 17 (.pointer (some ⟨b, k * 2, none⟩)) (by kernel_rfl) ?_
      refine WO.ld (SA.S sameR sameT _ 4 _ (by kernel_rfl)) 18 (.int .i64 ((atD ds k).u)) (by kernel_rfl) (same (HR.at k 0 (k * 2) _ (by rw [List.length_map]; have := (rfl : ds.length = ds.length); omega) (by omega) (by rw [(map_atD ds k (by have := (rfl : ds.length = ds.length); omega))]; rfl) (by omega))) ?_
      refine WO.one (SA.F sameR sameT _ 5 _ (by kernel_rfl)) 19 (.slice (some ⟨b, 0, none⟩) ds.length cap) (by kernel_rfl) ?_
      refine WO.one (SA.F sameR sameT _ 6 _ (by kernel_rfl)) 20 (.int .i64 (k : Int)) (by kernel_rfl) ?_
      refine WO.ixB (SA.F sameR sameT _ 7 _ (by kernel_rfl)) 21 (k * 2) b 0 ds.length 2 (k : Int) (by kernel_rfl) (by omega) (by omega) (by omega) ?_
      refine WO.one (SA.F sameR sameT _ 8 _ (by kernel_rfl)) 22 (.pointer (some ⟨b, k * 2, none⟩)) (by kernel_rfl) ?_
      refine WO.ld (SA.S sameR sameT _ 9 _ (by kernel_rfl)) 23 (.int .i64 ((atD ds k).u)) (by kernel_rfl) (same (HR.at k 0 (k * 2) _ (by rw [List.length_map]; have := (rfl : ds.length = ds.length); omega) (by omega) (by rw [(map_atD ds k (by have := (rfl : ds.length = ds.length); omega))]; rfl) (by omega))) ?_
      refine WO.one (SA.F sameR sameT _ 10 _ (by kernel_rfl)) 24 (.bool (decide (((atD ds k).u : Int) < ((atD ds k).u)))) (by kernel_rfl) ?_
      refine WO.topP (((atD ds k).u : Int) < ((atD ds k).u)) ?_ ?_
      · intro h4
        refine WO.doneA (by kernel_rfl) ?_
        refine WQ.keep [0, 2, 3, 4, 8, 12, 24] (e' := [(0, .slice (some ⟨b, 0, none⟩) ds.length cap), (2, .int .i64 0), (3, .int .i64 (k : Int)), (4, .int .i64 (k : Int)), (8, .bool true), (12, .bool true), (24, .bool true)]) (by kernel_rfl) ?_
        refine WQ.thenN ?_
        refine WE.condT (by kernel_rfl) ?_
        -- R8 law.go:45
        refine WE.region ?_
        refine WO.run 2 0 [(3, .int .i64 (k : Int)), (25, .int .i64 (k : Int))] (by kernel_rfl) (by kernel_rfl) ?_
        refine WO.done (by kernel_rfl) ?_
        refine WQ.keep [0, 2, 3, 4, 8, 12, 24] (e' := [(0, .slice (some ⟨b, 0, none⟩) ds.length cap), (2, .int .i64 0), (3, .int .i64 (k : Int)), (4, .int .i64 (k : Int)), (8, .bool true), (12, .bool true), (24, .bool true)]) (by kernel_rfl) ?_
        refine WQ.blkN ?_
        refine WQ.thenN ?_
        -- R4 law.go:40
        refine WE.region ?_
        refine WO.run 1 0 [(9, .int .i64 (k : Int))] (by kernel_rfl) (by kernel_rfl) ?_
        refine WO.one (SQ.F 1 (by kernel_rfl)) 10 (.int .i64 (IntKind.i64.wrap ((k : Int) + 1))) (by kernel_rfl) ?_
        refine WO.top (v' := .int .i64 ((k + 1 : Nat) : Int)) (wrap_i64 (by omega) (by omega)) ?_
        refine WO.run 1 2 [(4, .int .i64 ((k + 1 : Nat) : Int))] (by kernel_rfl) (by kernel_rfl) ?_
        refine WO.done (by kernel_rfl) ?_
        refine WQ.keep [0, 2, 3, 4, 8, 12, 24] (e' := [(0, .slice (some ⟨b, 0, none⟩) ds.length cap), (2, .int .i64 0), (3, .int .i64 (k : Int)), (4, .int .i64 ((k + 1 : Nat) : Int)), (8, .bool true), (12, .bool true), (24, .bool true)]) (by kernel_rfl) ?_
        have hb1 : bst (fun k => (atD ds k).u) (k + 1) = (k : Int) := by
          unfold bst; rw [if_neg (by omega), fstK_succ]
          first | (rw [if_pos (by assumption)]; omega) | (rw [if_neg (by assumption), if_pos (by omega)]) | (rw [if_neg (by assumption), if_neg (by omega)])
        refine WQ.env (e' := [(0, .slice (some ⟨b, 0, none⟩) ds.length cap), (2, .int .i64 0), (3, .int .i64 (bst (fun k => (atD ds k).u) (k + 1))), (4, .int .i64 ((k + 1 : Nat) : Int)), (8, .bool true), (12, .bool true), (24, .bool true)]) (by rw [hb1]) ?_
        refine WQ.round ?_
        intro a_ ha_
        refine ⟨k + 1, ?_, ha_.keep [0, 2, 3, 4] (by kernel_rfl), ?_⟩
        · show ds.length - (k + 1) < ds.length - k; omega
        · exact ⟨by omega, HA, HR⟩
      · intro h4
        refine WO.doneA (by kernel_rfl) ?_
        refine WQ.keep [0, 2, 3, 4, 8, 12, 24] (e' := [(0, .slice (some ⟨b, 0, none⟩) ds.length cap), (2, .int .i64 0), (3, .int .i64 (k : Int)), (4, .int .i64 (k : Int)), (8, .bool true), (12, .bool true), (24, .bool false)]) (by kernel_rfl) ?_
        refine WQ.thenN ?_
        refine WE.condF (by kernel_rfl) ?_
        refine WE.skip ?_
        refine WQ.blkN ?_
        refine WQ.thenN ?_
        -- R4 law.go:40
        refine WE.region ?_
        refine WO.run 1 0 [(9, .int .i64 (k : Int))] (by kernel_rfl) (by kernel_rfl) ?_
        refine WO.one (SQ.F 1 (by kernel_rfl)) 10 (.int .i64 (IntKind.i64.wrap ((k : Int) + 1))) (by kernel_rfl) ?_
        refine WO.top (v' := .int .i64 ((k + 1 : Nat) : Int)) (wrap_i64 (by omega) (by omega)) ?_
        refine WO.run 1 2 [(4, .int .i64 ((k + 1 : Nat) : Int))] (by kernel_rfl) (by kernel_rfl) ?_
        refine WO.done (by kernel_rfl) ?_
        refine WQ.keep [0, 2, 3, 4, 8, 12, 24] (e' := [(0, .slice (some ⟨b, 0, none⟩) ds.length cap), (2, .int .i64 0), (3, .int .i64 (k : Int)), (4, .int .i64 ((k + 1 : Nat) : Int)), (8, .bool true), (12, .bool true), (24, .bool false)]) (by kernel_rfl) ?_
        have hb1 : bst (fun k => (atD ds k).u) (k + 1) = (k : Int) := by
          unfold bst; rw [if_neg (by omega), fstK_succ]
          first | (rw [if_pos (by assumption)]; omega) | (rw [if_neg (by assumption), if_pos (by omega)]) | (rw [if_neg (by assumption), if_neg (by omega)])
        refine WQ.env (e' := [(0, .slice (some ⟨b, 0, none⟩) ds.length cap), (2, .int .i64 0), (3, .int .i64 (bst (fun k => (atD ds k).u) (k + 1))), (4, .int .i64 ((k + 1 : Nat) : Int)), (8, .bool true), (12, .bool true), (24, .bool false)]) (by rw [hb1]) ?_
        refine WQ.round ?_
        intro a_ ha_
        refine ⟨k + 1, ?_, ha_.keep [0, 2, 3, 4] (by kernel_rfl), ?_⟩
        · show ds.length - (k + 1) < ds.length - k; omega
        · exact ⟨by omega, HA, HR⟩
    · skip
      have hb2 : bst (fun k => (atD ds k).u) k = ((fstK (fun k => (atD ds k).u) k : Nat) : Int) := by unfold bst; rw [if_neg hk0]
      have hfl := fstK_lt (fun k => (atD ds k).u) k (by omega)
      refine WE.env (e' := [(0, .slice (some ⟨b, 0, none⟩) ds.length cap), (2, .int .i64 0), (3, .int .i64 ((fstK (fun k => (atD ds k).u) k : Nat) : Int)), (4, .int .i64 (k : Int)), (8, .bool true)]) (by rw [hb2]) ?_
      -- R5 law.go:41
      refine WE.region ?_
      refine WO.run 1 0 [(11, .int .i64 ((fstK (fun k => (atD ds k).u) k : Nat) : Int))] (by kernel_rfl) (by kernel_rfl) ?_
      refine WO.one (SQ.F 1 (by kernel_rfl)) 12 (.bool (decide ((((fstK (fun k => (atD ds k).u) k) : Int) : Int) < (0 : Int)))) (by kernel_rfl) ?_
      refine WO.topPF ((((fstK (fun k => (atD ds k).u) k) : Int) : Int) < (0 : Int)) (by omega) ?_
      refine WO.done (by kernel_rfl) ?_
      refine WQ.keep [0, 2, 3, 4, 8, 12] (e' := [(0, .slice (some ⟨b, 0, none⟩) ds.length cap), (2, .int .i64 0), (3, .int .i64 ((fstK (fun k => (atD ds k).u) k : Nat) : Int)), (4, .int .i64 (k : Int)), (8, .bool true), (12, .bool false)]) (by kernel_rfl) ?_
      refine WQ.thenN ?_
      refine WE.condF (by kernel_rfl) ?_
      refine WE.skip ?_
      refine WQ.thenN ?_
      refine WE.seq ?_
      -- R7* law.go:44
      refine WE.draw [.free, .free, .free, .free, .still, .free, .free, .free, .free, .still, .free] Same sameR (by kernel_rfl) 11 (Array.replicate 11 false) (by kernel_rfl) rfl ?_
      intro w5 F6 _
      have HR := RowB.keep HR F6 (nin0 _)
      have HA := Fr.step0 HA F6
      refine WO.one (SA.F sameR sameT _ 0 _ (by kernel_rfl)) 14 (.slice (some ⟨b, 0, none⟩) ds.length cap) (by kernel_rfl) ?_
      refine WO.one (SA.F sameR sameT _ 1 _ (by kernel_rfl)) 15 (.int .i64 (k : Int)) (by kernel_rfl) ?_
      refine WO.ixB (SA.F sameR sameT _ 2 _ (by kernel_rfl)) 16 (k * 2) b 0 ds.length 2 (k : Int) (by kernel_rfl) (by omega) (by omega) (by omega) ?_
      refine WO.one (SA.F sameR sameT _ 3 _ (by kernel_rfl)) 17 (.pointer (some ⟨b, k * 2, none⟩)) (by kernel_rfl) ?_
      refine WO.ld (SA.S sameR sameT _ 4 _ (by kernel_rfl)) 18 (.int .i64 ((atD ds k).u)) (by kernel_rfl) (same (HR.at k 0 (k * 2) _ (by rw [List.length_map]; have := (rfl : ds.length = ds.length); omega) (by omega) (by rw [(map_atD ds k (by have := (rfl : ds.length = ds.length); omega))]; rfl) (by omega))) ?_
      refine WO.one (SA.F sameR sameT _ 5 _ (by kernel_rfl)) 19 (.slice (some ⟨b, 0, none⟩) ds.length cap) (by kernel_rfl) ?_
      refine WO.one (SA.F sameR sameT _ 6 _ (by kernel_rfl)) 20 (.int .i64 ((fstK (fun k => (atD ds k).u) k : Nat) : Int)) (by kernel_rfl) ?_
      refine WO.ixB (SA.F sameR sameT _ 7 _ (by kernel_rfl)) 21 ((fstK (fun k => (atD ds k).u) k) * 2) b 0 ds.length 2 ((fstK (fun k => (atD ds k).u) k : Nat) : Int) (by kernel_rfl) (by omega) (by omega) (by omega) ?_
      refine WO.one (SA.F sameR sameT _ 8 _ (by kernel_rfl)) 22 (.pointer (some ⟨b, (fstK (fun k => (atD ds k).u) k) * 2, none⟩)) (by kernel_rfl) ?_
      refine WO.ld (SA.S sameR sameT _ 9 _ (by kernel_rfl)) 23 (.int .i64 ((atD ds (fstK (fun k => (atD ds k).u) k)).u)) (by kernel_rfl) (same (HR.at (fstK (fun k => (atD ds k).u) k) 0 ((fstK (fun k => (atD ds k).u) k) * 2) _ (by rw [List.length_map]; have := (rfl : ds.length = ds.length); omega) (by omega) (by rw [(map_atD ds (fstK (fun k => (atD ds k).u) k) (by have := (rfl : ds.length = ds.length); omega))]; rfl) (by omega))) ?_
      refine WO.one (SA.F sameR sameT _ 10 _ (by kernel_rfl)) 24 (.bool (decide (((atD ds k).u : Int) < ((atD ds (fstK (fun k => (atD ds k).u) k)).u)))) (by kernel_rfl) ?_
      refine WO.topP (((atD ds k).u : Int) < ((atD ds (fstK (fun k => (atD ds k).u) k)).u)) ?_ ?_
      · intro h7
        refine WO.doneA (by kernel_rfl) ?_
        refine WQ.keep [0, 2, 3, 4, 8, 12, 24] (e' := [(0, .slice (some ⟨b, 0, none⟩) ds.length cap), (2, .int .i64 0), (3, .int .i64 ((fstK (fun k => (atD ds k).u) k : Nat) : Int)), (4, .int .i64 (k : Int)), (8, .bool true), (12, .bool false), (24, .bool true)]) (by kernel_rfl) ?_
        refine WQ.thenN ?_
        refine WE.condT (by kernel_rfl) ?_
        -- R8 law.go:45
        refine WE.region ?_
        refine WO.run 2 0 [(3, .int .i64 (k : Int)), (25, .int .i64 (k : Int))] (by kernel_rfl) (by kernel_rfl) ?_
        refine WO.done (by kernel_rfl) ?_
        refine WQ.keep [0, 2, 3, 4, 8, 12, 24] (e' := [(0, .slice (some ⟨b, 0, none⟩) ds.length cap), (2, .int .i64 0), (3, .int .i64 (k : Int)), (4, .int .i64 (k : Int)), (8, .bool true), (12, .bool false), (24, .bool true)]) (by kernel_rfl) ?_
        refine WQ.blkN ?_
        refine WQ.thenN ?_
        -- R4 law.go:40
        refine WE.region ?_
        refine WO.run 1 0 [(9, .int .i64 (k : Int))] (by kernel_rfl) (by kernel_rfl) ?_
        refine WO.one (SQ.F 1 (by kernel_rfl)) 10 (.int .i64 (IntKind.i64.wrap ((k : Int) + 1))) (by kernel_rfl) ?_
        refine WO.top (v' := .int .i64 ((k + 1 : Nat) : Int)) (wrap_i64 (by omega) (by omega)) ?_
        refine WO.run 1 2 [(4, .int .i64 ((k + 1 : Nat) : Int))] (by kernel_rfl) (by kernel_rfl) ?_
        refine WO.done (by kernel_rfl) ?_
        refine WQ.keep [0, 2, 3, 4, 8, 12, 24] (e' := [(0, .slice (some ⟨b, 0, none⟩) ds.length cap), (2, .int .i64 0), (3, .int .i64 (k : Int)), (4, .int .i64 ((k + 1 : Nat) : Int)), (8, .bool true), (12, .bool false), (24, .bool true)]) (by kernel_rfl) ?_
        have hb1 : bst (fun k => (atD ds k).u) (k + 1) = (k : Int) := by
          unfold bst; rw [if_neg (by omega), fstK_succ]
          first | (rw [if_pos (by assumption)]; omega) | (rw [if_neg (by assumption), if_pos (by omega)]) | (rw [if_neg (by assumption), if_neg (by omega)])
        refine WQ.env (e' := [(0, .slice (some ⟨b, 0, none⟩) ds.length cap), (2, .int .i64 0), (3, .int .i64 (bst (fun k => (atD ds k).u) (k + 1))), (4, .int .i64 ((k + 1 : Nat) : Int)), (8, .bool true), (12, .bool false), (24, .bool true)]) (by rw [hb1]) ?_
        refine WQ.round ?_
        intro a_ ha_
        refine ⟨k + 1, ?_, ha_.keep [0, 2, 3, 4] (by kernel_rfl), ?_⟩
        · show ds.length - (k + 1) < ds.length - k; omega
        · exact ⟨by omega, HA, HR⟩
      · intro h7
        refine WO.doneA (by kernel_rfl) ?_
        refine WQ.keep [0, 2, 3, 4, 8, 12, 24] (e' := [(0, .slice (some ⟨b, 0, none⟩) ds.length cap), (2, .int .i64 0), (3, .int .i64 ((fstK (fun k => (atD ds k).u) k : Nat) : Int)), (4, .int .i64 (k : Int)), (8, .bool true), (12, .bool false), (24, .bool false)]) (by kernel_rfl) ?_
        refine WQ.thenN ?_
        refine WE.condF (by kernel_rfl) ?_
        refine WE.skip ?_
        refine WQ.blkN ?_
        refine WQ.thenN ?_
        -- R4 law.go:40
        refine WE.region ?_
        refine WO.run 1 0 [(9, .int .i64 (k : Int))] (by kernel_rfl) (by kernel_rfl) ?_
        refine WO.one (SQ.F 1 (by kernel_rfl)) 10 (.int .i64 (IntKind.i64.wrap ((k : Int) + 1))) (by kernel_rfl) ?_
        refine WO.top (v' := .int .i64 ((k + 1 : Nat) : Int)) (wrap_i64 (by omega) (by omega)) ?_
        refine WO.run 1 2 [(4, .int .i64 ((k + 1 : Nat) : Int))] (by kernel_rfl) (by kernel_rfl) ?_
        refine WO.done (by kernel_rfl) ?_
        refine WQ.keep [0, 2, 3, 4, 8, 12, 24] (e' := [(0, .slice (some ⟨b, 0, none⟩) ds.length cap), (2, .int .i64 0), (3, .int .i64 ((fstK (fun k => (atD ds k).u) k : Nat) : Int)), (4, .int .i64 ((k + 1 : Nat) : Int)), (8, .bool true), (12, .bool false), (24, .bool false)]) (by kernel_rfl) ?_
        have hb1 : bst (fun k => (atD ds k).u) (k + 1) = ((fstK (fun k => (atD ds k).u) k : Nat) : Int) := by
          unfold bst; rw [if_neg (by omega), fstK_succ]
          first | (rw [if_pos (by assumption)]; omega) | (rw [if_neg (by assumption), if_pos (by omega)]) | (rw [if_neg (by assumption), if_neg (by omega)])
        refine WQ.env (e' := [(0, .slice (some ⟨b, 0, none⟩) ds.length cap), (2, .int .i64 0), (3, .int .i64 (bst (fun k => (atD ds k).u) (k + 1))), (4, .int .i64 ((k + 1 : Nat) : Int)), (8, .bool true), (12, .bool false), (24, .bool false)]) (by rw [hb1]) ?_
        refine WQ.round ?_
        intro a_ ha_
        refine ⟨k + 1, ?_, ha_.keep [0, 2, 3, 4] (by kernel_rfl), ?_⟩
        · show ds.length - (k + 1) < ds.length - k; omega
        · exact ⟨by omega, HA, HR⟩
  · intro h1
    refine WO.done (by kernel_rfl) ?_
    refine WQ.keep [0, 2, 3, 4, 8] (e' := [(0, .slice (some ⟨b, 0, none⟩) ds.length cap), (2, .int .i64 0), (3, .int .i64 (bst (fun k => (atD ds k).u) k)), (4, .int .i64 (k : Int)), (8, .bool false)]) (by kernel_rfl) ?_
    refine WQ.thenN ?_
    refine WE.condF (by kernel_rfl) ?_
    refine WE.exit ?_
    refine WQ.thenE ?_
    refine WQ.thenE ?_
    refine WQ.blkE ?_
    refine WQ.thenN ?_
    refine WE.seq ?_
    -- R9 law.go:48
    refine WE.region ?_
    refine WO.run 2 0 [(2, .int .i64 (bst (fun k => (atD ds k).u) k)), (26, .int .i64 (bst (fun k => (atD ds k).u) k))] (by kernel_rfl) (by kernel_rfl) ?_
    refine WO.done (by kernel_rfl) ?_
    refine WQ.keep [0, 2, 3, 4, 8] (e' := [(0, .slice (some ⟨b, 0, none⟩) ds.length cap), (2, .int .i64 (bst (fun k => (atD ds k).u) k)), (3, .int .i64 (bst (fun k => (atD ds k).u) k)), (4, .int .i64 (k : Int)), (8, .bool false)]) (by kernel_rfl) ?_
    refine WQ.thenN ?_
    refine WE.ret ?_
    refine WQ.ret (v := .int .i64 (bst (fun k => (atD ds k).u) k)) (by kernel_rfl) ?_
    obtain rfl : k = ds.length := by omega
    exact ⟨rfl, HA⟩

theorem first_x (F : List Nat) (A : Option Addr) (cap : Nat) (ds : List Due) (w : World) (h : OwnX 33 2 w F (.slice A ds.length cap) (ds.map cD)) (hl : ds.length ≤ 1000) :
    Calls Try.prog 17 #[.slice A ds.length cap] w fun e w' => e = .returned (.int .i64 (bst (fun k => (atD ds k).u) ds.length)) ∧ Fr [] w w' := by
  rcases h with ⟨_, h2, h3⟩ | ⟨b, cap', rfl, h2, h3⟩
  · have : ds = [] := by simpa using h3
    subst this
    simp only [List.length_nil, Value.slice.injEq] at h2
    obtain ⟨rfl, _, rfl⟩ := h2
    exact first_nil w
  · rw [List.length_map] at h2
    simp only [Value.slice.injEq, true_and] at h2
    obtain ⟨rfl, rfl⟩ := h2
    exact first_row b cap ds w h3 hl

set_option maxRecDepth 100000 in
set_option maxHeartbeats 2000000 in
theorem up_any (w : World) :
    Calls Try.prog 11 #[] w fun e w' => e = .returned (.bool true) ∧ Fr [] w w' := by
  have HA := Fr.refl [] w
  refine enter (N := 52) Try.func11 (c := _) rfl (by kernel_rfl) (by kernel_rfl) (e := []) (by kernel_rfl) ?_
  refine WE.seq ?_
  -- R0 law.go:17
  refine WE.region ?_
  refine WO.run 1 0 [(0, .bool false)] (by kernel_rfl) (by kernel_rfl) ?_
  refine WO.done (by kernel_rfl) ?_
  refine WQ.thenN ?_
  refine WE.seq ?_
  -- R1 law.go:18
  refine WE.region ?_
  refine WO.call (SQ.E 0 (by kernel_rfl)) 6 (by kernel_rfl) (new_q _) ?_
  rintro _ w4 ⟨g1, rfl, HQ5, F3, le6⟩
  refine ⟨_, rfl, trivial, ?_⟩
  obtain ⟨Q2, hQ2⟩ : ∃ F, F = [g1] := ⟨_, rfl⟩
  rw [← hQ2] at HQ5
  have hg7 : ∀ y ∈ Q2, y ∈ [] ∨ (World.heap w).size ≤ y := by rw [hQ2]; intro y hy; obtain rfl : y = g1 := (by simpa using hy); exact Or.inr le6
  have ge_HA_Q2 : ∀ y ∈ Q2, (World.heap w).size ≤ y := grow_ge hg7 (by simp) HA.size
  have HA := Fr.step0 HA F3
  refine WO.run 1 1 [(1, .pointer (some ⟨g1, 0, none⟩))] (by kernel_rfl) (by kernel_rfl) ?_
  refine WO.done (by kernel_rfl) ?_
  refine WQ.keep [0, 1] (e' := [(0, .bool false), (1, .pointer (some ⟨g1, 0, none⟩))]) (by kernel_rfl) ?_
  refine WQ.thenN ?_
  refine WE.seq ?_
  refine WE.seq ?_
  -- R2 law.go:19
  refine WE.region ?_
  refine WO.run 2 0 [(8, .bool false), (7, .pointer (some ⟨g1, 0, none⟩))] (by kernel_rfl) (by kernel_rfl) ?_
  refine WO.done (by kernel_rfl) ?_
  refine WQ.keep [0, 1, 8] (e' := [(0, .bool false), (1, .pointer (some ⟨g1, 0, none⟩)), (8, .bool false)]) (by kernel_rfl) ?_
  refine WQ.thenN ?_
  refine WE.condF (by kernel_rfl) ?_
  refine WE.skip ?_
  refine WQ.thenN ?_
  refine WE.seq ?_
  -- R4 law.go:22
  refine WE.region ?_
  refine WO.run 1 0 [(9, .pointer (some ⟨g1, 0, none⟩))] (by kernel_rfl) (by kernel_rfl) ?_
  refine WO.call (SQ.E 1 (by kernel_rfl)) 10 (by kernel_rfl) (set_q Q2 g1 ([]) 0 5 1 _ HQ5 (by omega) (by decide) (by omega) (by omega)) ?_
  rintro _ w8 ⟨rfl, Q10, HQ11, F9, hg12⟩
  refine ⟨_, rfl, trivial, ?_⟩
  have ge_HA_Q10 : ∀ y ∈ Q10, (World.heap w).size ≤ y := grow_ge hg12 ge_HA_Q2 HA.size
  have HA := Fr.step HA F9 (inF ge_HA_Q2)
  refine WO.run 1 2 [(2, .nilIface)] (by kernel_rfl) (by kernel_rfl) ?_
  refine WO.done (by kernel_rfl) ?_
  refine WQ.keep [0, 1, 2, 8] (e' := [(0, .bool false), (1, .pointer (some ⟨g1, 0, none⟩)), (2, .nilIface), (8, .bool false)]) (by kernel_rfl) ?_
  refine WQ.thenN ?_
  refine WE.seq ?_
  -- R5 law.go:23
  refine WE.region ?_
  refine WO.run 1 0 [(11, .pointer (some ⟨g1, 0, none⟩))] (by kernel_rfl) (by kernel_rfl) ?_
  refine WO.call (SQ.E 1 (by kernel_rfl)) 12 (by kernel_rfl) (set_q Q10 g1 (setQ ([]) ⟨5, 1, 0 + 1⟩) 1 3 2 _ HQ11 (by omega) (by decide) (by omega) (by omega)) ?_
  rintro _ w13 ⟨rfl, Q15, HQ16, F14, hg17⟩
  refine ⟨_, rfl, trivial, ?_⟩
  have ge_HA_Q15 : ∀ y ∈ Q15, (World.heap w).size ≤ y := grow_ge hg17 ge_HA_Q10 HA.size
  have HA := Fr.step HA F14 (inF ge_HA_Q10)
  refine WO.run 1 2 [(3, .nilIface)] (by kernel_rfl) (by kernel_rfl) ?_
  refine WO.done (by kernel_rfl) ?_
  refine WQ.keep [0, 1, 2, 3, 8] (e' := [(0, .bool false), (1, .pointer (some ⟨g1, 0, none⟩)), (2, .nilIface), (3, .nilIface), (8, .bool false)]) (by kernel_rfl) ?_
  refine WQ.thenN ?_
  refine WE.seq ?_
  -- R6 law.go:24
  refine WE.region ?_
  refine WO.run 1 0 [(13, .pointer (some ⟨g1, 0, none⟩))] (by kernel_rfl) (by kernel_rfl) ?_
  refine WO.call (SQ.E 1 (by kernel_rfl)) 14 (by kernel_rfl) (set_neg (some ⟨g1, 0, none⟩) (-1) 0 _ (by omega)) ?_
  rintro _ w18 ⟨rfl, F19⟩
  refine ⟨_, rfl, trivial, ?_⟩
  have HQ16 := HQ16.keep F19 (fun _ _ => nin0 _)
  have HA := Fr.step0 HA F19
  refine WO.run 1 2 [(4, .iface 39 (.int .i64 1))] (by kernel_rfl) (by kernel_rfl) ?_
  refine WO.done (by kernel_rfl) ?_
  refine WQ.keep [0, 1, 2, 3, 4, 8] (e' := [(0, .bool false), (1, .pointer (some ⟨g1, 0, none⟩)), (2, .nilIface), (3, .nilIface), (4, .iface 39 (.int .i64 1)), (8, .bool false)]) (by kernel_rfl) ?_
  refine WQ.thenN ?_
  refine WE.seq ?_
  -- R7 law.go:25
  refine WE.region ?_
  refine WO.run 1 0 [(15, .pointer (some ⟨g1, 0, none⟩))] (by kernel_rfl) (by kernel_rfl) ?_
  refine WO.call (SQ.E 1 (by kernel_rfl)) 16 (by kernel_rfl) (take_q Q15 g1 (setQ (setQ ([]) ⟨5, 1, 0 + 1⟩) ⟨3, 2, 1 + 1⟩) 2 9 _ HQ16 (by decide)) ?_
  rintro _ w20 ⟨v22, rfl, hO23, HQ24, F21⟩
  refine ⟨_, rfl, trivial, ?_⟩
  obtain ⟨D25, HD26, hg27⟩ := ownX_of hO23
  have hg27 : ∀ y ∈ D25, y ∈ [] ∨ (World.heap w18).size ≤ y := fun y hy => Or.inr (hg27 y hy)
  have htl28 := takeQ_len 9 (setQ (setQ ([]) ⟨5, 1, 0 + 1⟩) ⟨3, 2, 1 + 1⟩).length (setQ (setQ ([]) ⟨5, 1, 0 + 1⟩) ⟨3, 2, 1 + 1⟩)
  have htm29 : (List.map due (takeQ 9 (setQ (setQ ([]) ⟨5, 1, 0 + 1⟩) ⟨3, 2, 1 + 1⟩).length (setQ (setQ ([]) ⟨5, 1, 0 + 1⟩) ⟨3, 2, 1 + 1⟩)).1).length = (takeQ 9 (setQ (setQ ([]) ⟨5, 1, 0 + 1⟩) ⟨3, 2, 1 + 1⟩).length (setQ (setQ ([]) ⟨5, 1, 0 + 1⟩) ⟨3, 2, 1 + 1⟩)).1.length := List.length_map _
  have dj_D25_Q15 : ∀ y ∈ D25, y ∉ Q15 := grow_dj hg27 (by simp) HQ16.lt
  have ge_HA_D25 : ∀ y ∈ D25, (World.heap w).size ≤ y := grow_ge hg27 (by simp) HA.size
  have HA := Fr.step HA F21 (inF ge_HA_Q15)
  obtain ⟨Av22, capv22, rfl⟩ := HD26.sliceN (List.length_map _)
  refine WO.run 1 2 [(5, .slice Av22 ((List.map due (takeQ 9 (setQ (setQ ([]) ⟨5, 1, 0 + 1⟩) ⟨3, 2, 1 + 1⟩).length (setQ (setQ ([]) ⟨5, 1, 0 + 1⟩) ⟨3, 2, 1 + 1⟩)).1).length) capv22)] (by kernel_rfl) (by kernel_rfl) ?_
  refine WO.done (by kernel_rfl) ?_
  refine WQ.keep [0, 1, 2, 3, 4, 5, 8] (e' := [(0, .bool false), (1, .pointer (some ⟨g1, 0, none⟩)), (2, .nilIface), (3, .nilIface), (4, .iface 39 (.int .i64 1)), (5, .slice Av22 ((List.map due (takeQ 9 (setQ (setQ ([]) ⟨5, 1, 0 + 1⟩) ⟨3, 2, 1 + 1⟩).length (setQ (setQ ([]) ⟨5, 1, 0 + 1⟩) ⟨3, 2, 1 + 1⟩)).1).length) capv22), (8, .bool false)]) (by kernel_rfl) ?_
  refine WQ.thenN ?_
  refine WE.seq ?_
  have hds : (List.map due (takeQ 9 (setQ (setQ ([]) ⟨5, 1, 0 + 1⟩) ⟨3, 2, 1 + 1⟩).length (setQ (setQ ([]) ⟨5, 1, 0 + 1⟩) ⟨3, 2, 1 + 1⟩)).1) = [⟨3, 2⟩, ⟨5, 1⟩] := by decide
  have hq2 : (takeQ 9 (setQ (setQ ([]) ⟨5, 1, 0 + 1⟩) ⟨3, 2, 1 + 1⟩).length (setQ (setQ ([]) ⟨5, 1, 0 + 1⟩) ⟨3, 2, 1 + 1⟩)).2 = [] := by decide
  rw [hds] at HD26
  obtain ⟨bD, hFD, hAD, HRD⟩ := HD26.pos (by simp)
  subst hAD
  refine WE.env (e' := [(0, .bool false), (1, .pointer (some ⟨g1, 0, none⟩)), (2, .nilIface), (3, .nilIface), (4, .iface 39 (.int .i64 1)), (5, .slice (some ⟨bD, 0, none⟩) 2 capv22), (8, .bool false)]) (by rw [hds]; rfl) ?_
  have hq2l : (takeQ 9 (setQ (setQ ([]) ⟨5, 1, 0 + 1⟩) ⟨3, 2, 1 + 1⟩).length (setQ (setQ ([]) ⟨5, 1, 0 + 1⟩) ⟨3, 2, 1 + 1⟩)).2.length = 0 := by rw [hq2]; rfl
  have nin_bD_Q15 : bD ∉ Q15 := fun h => dj_D25_Q15 bD (by rw [hFD]; simp) h
  -- R8 law.go:26
  refine WE.region ?_
  refine WO.run 18 0 [(34, .slice (some ⟨bD, 0, none⟩) 2 capv22), (33, .bool true), (32, .bool true), (31, .bool true), (30, .int .i64 2), (29, .slice (some ⟨bD, 0, none⟩) 2 capv22), (28, .bool true), (27, .bool true), (26, .bool true), (25, .iface 39 (.int .i64 1)), (24, .iface 39 (.int .i64 1)), (23, .bool true), (22, .bool true), (21, .bool true), (20, .nilIface), (19, .bool true), (18, .bool true), (17, .nilIface)] (by kernel_rfl) (by kernel_rfl) ?_
  refine WO.ixB (SQ.F 18 (by kernel_rfl)) 35 0 bD 0 2 2 0 (by kernel_rfl) (by omega) (by omega) (by omega) ?_
  refine WO.run 1 19 [(36, .pointer (some ⟨bD, 0, none⟩))] (by kernel_rfl) (by kernel_rfl) ?_
  refine WO.ld (SQ.S 20 (by kernel_rfl)) 37 (.int .i64 ((atD ([⟨3, 2⟩, ⟨5, 1⟩]) 0).u)) (by kernel_rfl) (same (HRD.at 0 0 0 _ (by decide) (by omega) (by rw [(map_atD ([⟨3, 2⟩, ⟨5, 1⟩]) 0 (by decide))]; rfl) (by omega))) ?_
  refine WO.one (SQ.F 21 (by kernel_rfl)) 38 (.bool (decide (((atD ([⟨3, 2⟩, ⟨5, 1⟩]) 0).u : Int) = 3))) (by kernel_rfl) ?_
  refine WO.topPT (((atD ([⟨3, 2⟩, ⟨5, 1⟩]) 0).u : Int) = 3) (by rfl) ?_
  refine WO.run 3 22 [(41, .slice (some ⟨bD, 0, none⟩) 2 capv22), (40, .bool true), (39, .bool true)] (by kernel_rfl) (by kernel_rfl) ?_
  refine WO.ixB (SQ.F 25 (by kernel_rfl)) 42 2 bD 0 2 2 1 (by kernel_rfl) (by omega) (by omega) (by omega) ?_
  refine WO.run 1 26 [(43, .pointer (some ⟨bD, 3, none⟩))] (by kernel_rfl) (by kernel_rfl) ?_
  refine WO.ld (SQ.S 27 (by kernel_rfl)) 44 (.int .i64 ((atD ([⟨3, 2⟩, ⟨5, 1⟩]) 1).v)) (by kernel_rfl) (same (HRD.at 1 1 3 _ (by decide) (by omega) (by rw [(map_atD ([⟨3, 2⟩, ⟨5, 1⟩]) 1 (by decide))]; rfl) (by omega))) ?_
  refine WO.one (SQ.F 28 (by kernel_rfl)) 45 (.bool (decide (((atD ([⟨3, 2⟩, ⟨5, 1⟩]) 1).v : Int) = 1))) (by kernel_rfl) ?_
  refine WO.topPT (((atD ([⟨3, 2⟩, ⟨5, 1⟩]) 1).v : Int) = 1) (by rfl) ?_
  refine WO.run 3 29 [(48, .pointer (some ⟨g1, 0, none⟩)), (47, .bool true), (46, .bool true)] (by kernel_rfl) (by kernel_rfl) ?_
  refine WO.call (SQ.E 32 (by kernel_rfl)) 49 (by kernel_rfl) (len_q Q15 g1 ((takeQ 9 (setQ (setQ ([]) ⟨5, 1, 0 + 1⟩) ⟨3, 2, 1 + 1⟩).length (setQ (setQ ([]) ⟨5, 1, 0 + 1⟩) ⟨3, 2, 1 + 1⟩)).2) 2 _ HQ24) ?_
  rintro _ w30 ⟨rfl, F31⟩
  refine ⟨_, rfl, trivial, ?_⟩
  have HRD := RowB.keep HRD F31 (nin0 _)
  have HQ24 := HQ24.keep F31 (fun _ _ => nin0 _)
  have HA := Fr.step0 HA F31
  refine WO.run 3 33 [(0, .bool (decide (((((takeQ 9 (setQ (setQ ([]) ⟨5, 1, 0 + 1⟩) ⟨3, 2, 1 + 1⟩).length (setQ (setQ ([]) ⟨5, 1, 0 + 1⟩) ⟨3, 2, 1 + 1⟩)).2).length : Int) : Int) = (0 : Int)))), (51, .bool (decide (((((takeQ 9 (setQ (setQ ([]) ⟨5, 1, 0 + 1⟩) ⟨3, 2, 1 + 1⟩).length (setQ (setQ ([]) ⟨5, 1, 0 + 1⟩) ⟨3, 2, 1 + 1⟩)).2).length : Int) : Int) = (0 : Int)))), (50, .bool (decide (((((takeQ 9 (setQ (setQ ([]) ⟨5, 1, 0 + 1⟩) ⟨3, 2, 1 + 1⟩).length (setQ (setQ ([]) ⟨5, 1, 0 + 1⟩) ⟨3, 2, 1 + 1⟩)).2).length : Int) : Int) = (0 : Int))))] (by kernel_rfl) (by kernel_rfl) ?_
  refine WO.done (by kernel_rfl) ?_
  refine WQ.keep [0, 1, 2, 3, 4, 5, 8] (e' := [(0, .bool (decide (((((takeQ 9 (setQ (setQ ([]) ⟨5, 1, 0 + 1⟩) ⟨3, 2, 1 + 1⟩).length (setQ (setQ ([]) ⟨5, 1, 0 + 1⟩) ⟨3, 2, 1 + 1⟩)).2).length : Int) : Int) = (0 : Int)))), (1, .pointer (some ⟨g1, 0, none⟩)), (2, .nilIface), (3, .nilIface), (4, .iface 39 (.int .i64 1)), (5, .slice (some ⟨bD, 0, none⟩) 2 capv22), (8, .bool false)]) (by kernel_rfl) ?_
  refine WQ.thenN ?_
  refine WE.ret ?_
  refine WQ.ret (v := .bool (decide (((((takeQ 9 (setQ (setQ ([]) ⟨5, 1, 0 + 1⟩) ⟨3, 2, 1 + 1⟩).length (setQ (setQ ([]) ⟨5, 1, 0 + 1⟩) ⟨3, 2, 1 + 1⟩)).2).length : Int) : Int) = (0 : Int)))) (by kernel_rfl) ?_
  exact ⟨by rw [decide_eq_true (show ((((takeQ 9 (setQ (setQ ([]) ⟨5, 1, 0 + 1⟩) ⟨3, 2, 1 + 1⟩).length (setQ (setQ ([]) ⟨5, 1, 0 + 1⟩) ⟨3, 2, 1 + 1⟩)).2).length : Int) : Int) = (0 : Int) by omega)], HA⟩
end Go.Proofs.Ytjnjkgoofkgiiaa.Timer
