/- Layer 4's walks: the document's run. -/
import Derived.Test.YtdhonbahpcmmnaaDoorLineR
set_option linter.unusedVariables false
set_option linter.unusedSimpArgs false
namespace Go.Proofs.YtdhonbahpcmmnaaDoor.Line
open Go Go.RowKit Go.Proofs.YtdhonbahpcmmnaaDoor Go.Proofs.YtdhonbahpcmmnaaDoor.Eng Go.Proofs.YtdhonbahpcmmnaaDoorW.PrintWords
theorem isD_t {c : UInt8} (h : 48 ≤ c.toNat ∧ c.toNat ≤ 57) : isD c = true := by
 unfold isD
 simp only [Bool.and_eq_true, decide_eq_true_eq]
 exact h
set_option maxRecDepth 100000 in
set_option maxHeartbeats 400000 in
theorem rrun_w (s : L) (p : Nat) (w : World) (hp : p ≤ s.length) (hs : s.length ≤ 1000000) :
  Calls Tryd.prog 40 #[.string (str s), .int .i64 (p : Int), .bool false] w fun e w' => e = .returned (.int .i64 ((runE inW s p : Nat) : Int)) ∧ Fr [] w w' := by
 have HA := Fr.refl [] w
 refine enter (N := 33) Tryd.func40 (c := _) rfl (by kernel_rfl) (by kernel_rfl) (e := [(0, .string (str s)), (1, .int .i64 (p : Int)), (2, .bool false)]) (by kernel_rfl) ?_
 refine WE.seq ?_
 refine WE.region ?_
 refine WO.run 1 0 [(6, .int .i64 0)] (by kernel_rfl) (by kernel_rfl) ?_
 refine WO.done (by kernel_rfl) ?_
 refine WQ.keep [0, 1, 2, 6] (e' := [(0, .string (str s)), (1, .int .i64 (p : Int)), (2, .bool false), (6, .int .i64 0)]) (by kernel_rfl) ?_
 refine WQ.thenN ?_
 refine WE.seq ?_
 refine WE.block ?_
 refine WE.loop (α := Nat) (E := fun k => [(0, .string (str s)), (1, .int .i64 (k : Int)), (2, .bool false), (6, .int .i64 0)]) (I := fun k wr => p ≤ k ∧ k ≤ s.length ∧ (∀ j, p ≤ j → j < k → inW (gb s j) = true) ∧ Fr [] w wr) (m := fun k => s.length - k) p [0, 1, 2, 6] (by kernel_rfl) ?_ ?_
 ·
  exact ⟨Nat.le_refl _, hp, fun j h1_ h2_ => absurd h2_ (Nat.not_lt.2 h1_), HA⟩
 rintro k wr ⟨hk1, hk2, hbe, HA⟩
 refine WE.seq ?_
 refine WE.seq ?_
 refine WE.region ?_
 refine WO.run 3 0 [(10, .int .i64 (s.length : Int)), (9, .string (str s)), (8, .int .i64 (k : Int))] (by kernel_rfl) (by kernel_rfl) ?_
 refine WO.one (SQ.F 3 (by kernel_rfl)) 11 (.bool (decide (((k : Int) : Int) < (s.length : Int)))) (by kernel_rfl) ?_
 refine WO.topP (((k : Int) : Int) < (s.length : Int)) ?_ ?_
 ·
  intro h1
  refine WO.done (by kernel_rfl) ?_
  refine WQ.keep [0, 1, 2, 6, 11] (e' := [(0, .string (str s)), (1, .int .i64 (k : Int)), (2, .bool false), (6, .int .i64 0), (11, .bool true)]) (by kernel_rfl) ?_
  refine WQ.thenN ?_
  refine WE.condT (by kernel_rfl) ?_
  refine WE.skip ?_
  refine WQ.thenN ?_
  refine WE.block ?_
  refine WE.seq ?_
  refine WE.region ?_
  refine WO.run 2 0 [(13, .int .i64 (k : Int)), (12, .string (str s))] (by kernel_rfl) (by kernel_rfl) ?_
  refine WO.ixS (i := (k : Int)) (SQ.F 2 (by kernel_rfl)) 14 k s (by kernel_rfl) (by rfl) (by omega) ?_
  refine WO.call (SQ.E 3 (by kernel_rfl)) 15 (by kernel_rfl) (within_r (gB s k) _) ?_
  rintro _ w2 ⟨rfl, F3⟩
  refine ⟨_, rfl, trivial, ?_⟩
  have HA := Fr.step0 HA F3
  rcases Bool.eq_false_or_eq_true (inW (gB s k)) with h4 | h4
  ·
   rw [h4]
   refine WO.run 1 4 [(7, .bool true)] (by kernel_rfl) (by kernel_rfl) ?_
   refine WO.done (by kernel_rfl) ?_
   refine WQ.keep [0, 1, 2, 6, 7, 11] (e' := [(0, .string (str s)), (1, .int .i64 (k : Int)), (2, .bool false), (6, .int .i64 0), (7, .bool true), (11, .bool true)]) (by kernel_rfl) ?_
   refine WQ.thenN ?_
   refine WE.seq ?_
   refine WE.seq ?_
   refine WE.region ?_
   refine WO.run 1 0 [(16, .bool false)] (by kernel_rfl) (by kernel_rfl) ?_
   refine WO.done (by kernel_rfl) ?_
   refine WQ.keep [0, 1, 2, 6, 7, 11, 16] (e' := [(0, .string (str s)), (1, .int .i64 (k : Int)), (2, .bool false), (6, .int .i64 0), (7, .bool true), (11, .bool true), (16, .bool false)]) (by kernel_rfl) ?_
   refine WQ.thenN ?_
   refine WE.condF (by kernel_rfl) ?_
   refine WE.skip ?_
   refine WQ.thenN ?_
   refine WE.seq ?_
   refine WE.seq ?_
   refine WE.region ?_
   refine WO.run 2 0 [(28, .bool false), (27, .bool true)] (by kernel_rfl) (by kernel_rfl) ?_
   refine WO.done (by kernel_rfl) ?_
   refine WQ.keep [0, 1, 2, 6, 7, 11, 16, 28] (e' := [(0, .string (str s)), (1, .int .i64 (k : Int)), (2, .bool false), (6, .int .i64 0), (7, .bool true), (11, .bool true), (16, .bool false), (28, .bool false)]) (by kernel_rfl) ?_
   refine WQ.thenN ?_
   refine WE.condF (by kernel_rfl) ?_
   refine WE.skip ?_
   refine WQ.thenN ?_
   refine WE.region ?_
   refine WO.run 1 0 [(30, .int .i64 (k : Int))] (by kernel_rfl) (by kernel_rfl) ?_
   refine WO.one (SQ.F 1 (by kernel_rfl)) 31 (.int .i64 (IntKind.i64.wrap ((k : Int) + 1))) (by kernel_rfl) ?_
   refine WO.top (v' := .int .i64 ((k + 1 : Nat) : Int)) (wrap_i64 (by omega) (by omega)) ?_
   refine WO.run 1 2 [(1, .int .i64 ((k + 1 : Nat) : Int))] (by kernel_rfl) (by kernel_rfl) ?_
   refine WO.done (by kernel_rfl) ?_
   refine WQ.keep [0, 1, 2, 6, 7, 11, 16, 28] (e' := [(0, .string (str s)), (1, .int .i64 ((k + 1 : Nat) : Int)), (2, .bool false), (6, .int .i64 0), (7, .bool true), (11, .bool true), (16, .bool false), (28, .bool false)]) (by kernel_rfl) ?_
   refine WQ.blkN ?_
   refine WQ.round ?_
   intro a_ ha_
   refine ⟨k + 1, ?_, ha_.keep [0, 1, 2, 6] (by kernel_rfl), ?_⟩
   ·
    omega
   ·
    exact ⟨by omega, by omega, fun j h1_ h2_ => (Nat.lt_succ_iff_lt_or_eq.1 h2_).elim (hbe j h1_) (fun h_ => by rw [h_]; first | assumption | exact isD_t (c := gB s k) (by omega)), HA⟩
  ·
   rw [h4]
   refine WO.run 1 4 [(7, .bool false)] (by kernel_rfl) (by kernel_rfl) ?_
   refine WO.done (by kernel_rfl) ?_
   refine WQ.keep [0, 1, 2, 6, 7, 11] (e' := [(0, .string (str s)), (1, .int .i64 (k : Int)), (2, .bool false), (6, .int .i64 0), (7, .bool false), (11, .bool true)]) (by kernel_rfl) ?_
   refine WQ.thenN ?_
   refine WE.seq ?_
   refine WE.seq ?_
   refine WE.region ?_
   refine WO.run 1 0 [(16, .bool false)] (by kernel_rfl) (by kernel_rfl) ?_
   refine WO.done (by kernel_rfl) ?_
   refine WQ.keep [0, 1, 2, 6, 7, 11, 16] (e' := [(0, .string (str s)), (1, .int .i64 (k : Int)), (2, .bool false), (6, .int .i64 0), (7, .bool false), (11, .bool true), (16, .bool false)]) (by kernel_rfl) ?_
   refine WQ.thenN ?_
   refine WE.condF (by kernel_rfl) ?_
   refine WE.skip ?_
   refine WQ.thenN ?_
   refine WE.seq ?_
   refine WE.seq ?_
   refine WE.region ?_
   refine WO.run 2 0 [(28, .bool true), (27, .bool false)] (by kernel_rfl) (by kernel_rfl) ?_
   refine WO.done (by kernel_rfl) ?_
   refine WQ.keep [0, 1, 2, 6, 7, 11, 16, 28] (e' := [(0, .string (str s)), (1, .int .i64 (k : Int)), (2, .bool false), (6, .int .i64 0), (7, .bool false), (11, .bool true), (16, .bool false), (28, .bool true)]) (by kernel_rfl) ?_
   refine WQ.thenN ?_
   refine WE.condT (by kernel_rfl) ?_
   refine WE.seq ?_
   refine WE.region ?_
   refine WO.run 2 0 [(6, .int .i64 (k : Int)), (29, .int .i64 (k : Int))] (by kernel_rfl) (by kernel_rfl) ?_
   refine WO.done (by kernel_rfl) ?_
   refine WQ.keep [0, 1, 2, 6, 7, 11, 16, 28] (e' := [(0, .string (str s)), (1, .int .i64 (k : Int)), (2, .bool false), (6, .int .i64 (k : Int)), (7, .bool false), (11, .bool true), (16, .bool false), (28, .bool true)]) (by kernel_rfl) ?_
   refine WQ.thenN ?_
   refine WE.ret ?_
   refine WQ.thenR ?_
   refine WQ.blkR ?_
   refine WQ.thenR ?_
   refine WQ.blkR ?_
   refine WQ.thenR ?_
   refine WQ.ret (v := .int .i64 (k : Int)) (by kernel_rfl) ?_
   first | (rw [runE_eq (pr := inW) hk1 hk2 hbe (.inr ⟨by omega, by first | assumption | exact isD_f (c := gB s k) (by omega)⟩)]; exact ⟨rfl, HA⟩) | (rw [runE_eq (pr := inW) hk1 hk2 hbe (.inl (by omega))]; exact ⟨rfl, HA⟩)
 intro h1
 refine WO.done (by kernel_rfl) ?_
 refine WQ.keep [0, 1, 2, 6, 11] (e' := [(0, .string (str s)), (1, .int .i64 (k : Int)), (2, .bool false), (6, .int .i64 0), (11, .bool false)]) (by kernel_rfl) ?_
 refine WQ.thenN ?_
 refine WE.condF (by kernel_rfl) ?_
 refine WE.exit ?_
 refine WQ.thenE ?_
 refine WQ.thenE ?_
 refine WQ.blkE ?_
 refine WQ.thenN ?_
 refine WE.seq ?_
 refine WE.region ?_
 refine WO.run 2 0 [(6, .int .i64 (k : Int)), (32, .int .i64 (k : Int))] (by kernel_rfl) (by kernel_rfl) ?_
 refine WO.done (by kernel_rfl) ?_
 refine WQ.keep [0, 1, 2, 6, 11] (e' := [(0, .string (str s)), (1, .int .i64 (k : Int)), (2, .bool false), (6, .int .i64 (k : Int)), (11, .bool false)]) (by kernel_rfl) ?_
 refine WQ.thenN ?_
 refine WE.ret ?_
 refine WQ.ret (v := .int .i64 (k : Int)) (by kernel_rfl) ?_
 first | (rw [runE_eq (pr := inW) hk1 hk2 hbe (.inr ⟨by omega, by first | assumption | exact isD_f (c := gB s k) (by omega)⟩)]; exact ⟨rfl, HA⟩) | (rw [runE_eq (pr := inW) hk1 hk2 hbe (.inl (by omega))]; exact ⟨rfl, HA⟩)
set_option maxRecDepth 100000 in
set_option maxHeartbeats 400000 in
theorem rrun_d (s : L) (p : Nat) (w : World) (hp : p ≤ s.length) (hs : s.length ≤ 1000000) :
  Calls Tryd.prog 40 #[.string (str s), .int .i64 (p : Int), .bool true] w fun e w' => e = .returned (.int .i64 ((runE isD s p : Nat) : Int)) ∧ Fr [] w w' := by
 have HA := Fr.refl [] w
 refine enter (N := 33) Tryd.func40 (c := _) rfl (by kernel_rfl) (by kernel_rfl) (e := [(0, .string (str s)), (1, .int .i64 (p : Int)), (2, .bool true)]) (by kernel_rfl) ?_
 refine WE.seq ?_
 refine WE.region ?_
 refine WO.run 1 0 [(6, .int .i64 0)] (by kernel_rfl) (by kernel_rfl) ?_
 refine WO.done (by kernel_rfl) ?_
 refine WQ.keep [0, 1, 2, 6] (e' := [(0, .string (str s)), (1, .int .i64 (p : Int)), (2, .bool true), (6, .int .i64 0)]) (by kernel_rfl) ?_
 refine WQ.thenN ?_
 refine WE.seq ?_
 refine WE.block ?_
 refine WE.loop (α := Nat) (E := fun k => [(0, .string (str s)), (1, .int .i64 (k : Int)), (2, .bool true), (6, .int .i64 0)]) (I := fun k wr => p ≤ k ∧ k ≤ s.length ∧ (∀ j, p ≤ j → j < k → isD (gb s j) = true) ∧ Fr [] w wr) (m := fun k => s.length - k) p [0, 1, 2, 6] (by kernel_rfl) ?_ ?_
 ·
  exact ⟨Nat.le_refl _, hp, fun j h1_ h2_ => absurd h2_ (Nat.not_lt.2 h1_), HA⟩
 rintro k wr ⟨hk1, hk2, hbe, HA⟩
 refine WE.seq ?_
 refine WE.seq ?_
 refine WE.region ?_
 refine WO.run 3 0 [(10, .int .i64 (s.length : Int)), (9, .string (str s)), (8, .int .i64 (k : Int))] (by kernel_rfl) (by kernel_rfl) ?_
 refine WO.one (SQ.F 3 (by kernel_rfl)) 11 (.bool (decide (((k : Int) : Int) < (s.length : Int)))) (by kernel_rfl) ?_
 refine WO.topP (((k : Int) : Int) < (s.length : Int)) ?_ ?_
 ·
  intro h1
  refine WO.done (by kernel_rfl) ?_
  refine WQ.keep [0, 1, 2, 6, 11] (e' := [(0, .string (str s)), (1, .int .i64 (k : Int)), (2, .bool true), (6, .int .i64 0), (11, .bool true)]) (by kernel_rfl) ?_
  refine WQ.thenN ?_
  refine WE.condT (by kernel_rfl) ?_
  refine WE.skip ?_
  refine WQ.thenN ?_
  refine WE.block ?_
  refine WE.seq ?_
  refine WE.region ?_
  refine WO.run 2 0 [(13, .int .i64 (k : Int)), (12, .string (str s))] (by kernel_rfl) (by kernel_rfl) ?_
  refine WO.ixS (i := (k : Int)) (SQ.F 2 (by kernel_rfl)) 14 k s (by kernel_rfl) (by rfl) (by omega) ?_
  refine WO.call (SQ.E 3 (by kernel_rfl)) 15 (by kernel_rfl) (within_r (gB s k) _) ?_
  rintro _ w2 ⟨rfl, F3⟩
  refine ⟨_, rfl, trivial, ?_⟩
  have HA := Fr.step0 HA F3
  generalize inW (gB s k) = bw_
  refine WO.one (SQ.F 4 (by kernel_rfl)) 7 (.bool bw_) (by kernel_rfl) ?_
  refine WO.topB (bw_) ?_ ?_
  ·
   intro h4
   refine WO.done (by kernel_rfl) ?_
   refine WQ.keep [0, 1, 2, 6, 7, 11] (e' := [(0, .string (str s)), (1, .int .i64 (k : Int)), (2, .bool true), (6, .int .i64 0), (7, .bool true), (11, .bool true)]) (by kernel_rfl) ?_
   refine WQ.thenN ?_
   refine WE.seq ?_
   refine WE.seq ?_
   refine WE.region ?_
   refine WO.run 1 0 [(16, .bool true)] (by kernel_rfl) (by kernel_rfl) ?_
   refine WO.done (by kernel_rfl) ?_
   refine WQ.keep [0, 1, 2, 6, 7, 11, 16] (e' := [(0, .string (str s)), (1, .int .i64 (k : Int)), (2, .bool true), (6, .int .i64 0), (7, .bool true), (11, .bool true), (16, .bool true)]) (by kernel_rfl) ?_
   refine WQ.thenN ?_
   refine WE.condT (by kernel_rfl) ?_
   refine WE.region ?_
   refine WO.run 2 0 [(18, .int .i64 (k : Int)), (17, .string (str s))] (by kernel_rfl) (by kernel_rfl) ?_
   refine WO.ixS (i := (k : Int)) (SQ.F 2 (by kernel_rfl)) 19 k s (by kernel_rfl) (by rfl) (by omega) ?_
   refine WO.one (SQ.F 3 (by kernel_rfl)) 20 (.bool (decide ((((gB s k).toNat : Int) : Int) ≥ (48 : Int)))) (by kernel_rfl) ?_
   refine WO.topP ((((gB s k).toNat : Int) : Int) ≥ (48 : Int)) ?_ ?_
   ·
    intro h5
    refine WO.run 3 4 [(23, .int .i64 (k : Int)), (22, .string (str s)), (21, .bool true)] (by kernel_rfl) (by kernel_rfl) ?_
    refine WO.ixS (i := (k : Int)) (SQ.F 7 (by kernel_rfl)) 24 k s (by kernel_rfl) (by rfl) (by omega) ?_
    refine WO.one (SQ.F 8 (by kernel_rfl)) 25 (.bool (decide ((((gB s k).toNat : Int) : Int) ≤ (57 : Int)))) (by kernel_rfl) ?_
    refine WO.topP ((((gB s k).toNat : Int) : Int) ≤ (57 : Int)) ?_ ?_
    ·
     intro h6
     refine WO.run 2 9 [(7, .bool true), (26, .bool true)] (by kernel_rfl) (by kernel_rfl) ?_
     refine WO.done (by kernel_rfl) ?_
     refine WQ.keep [0, 1, 2, 6, 7, 11, 16] (e' := [(0, .string (str s)), (1, .int .i64 (k : Int)), (2, .bool true), (6, .int .i64 0), (7, .bool true), (11, .bool true), (16, .bool true)]) (by kernel_rfl) ?_
     refine WQ.thenN ?_
     refine WE.seq ?_
     refine WE.seq ?_
     refine WE.region ?_
     refine WO.run 2 0 [(28, .bool false), (27, .bool true)] (by kernel_rfl) (by kernel_rfl) ?_
     refine WO.done (by kernel_rfl) ?_
     refine WQ.keep [0, 1, 2, 6, 7, 11, 16, 28] (e' := [(0, .string (str s)), (1, .int .i64 (k : Int)), (2, .bool true), (6, .int .i64 0), (7, .bool true), (11, .bool true), (16, .bool true), (28, .bool false)]) (by kernel_rfl) ?_
     refine WQ.thenN ?_
     refine WE.condF (by kernel_rfl) ?_
     refine WE.skip ?_
     refine WQ.thenN ?_
     refine WE.region ?_
     refine WO.run 1 0 [(30, .int .i64 (k : Int))] (by kernel_rfl) (by kernel_rfl) ?_
     refine WO.one (SQ.F 1 (by kernel_rfl)) 31 (.int .i64 (IntKind.i64.wrap ((k : Int) + 1))) (by kernel_rfl) ?_
     refine WO.top (v' := .int .i64 ((k + 1 : Nat) : Int)) (wrap_i64 (by omega) (by omega)) ?_
     refine WO.run 1 2 [(1, .int .i64 ((k + 1 : Nat) : Int))] (by kernel_rfl) (by kernel_rfl) ?_
     refine WO.done (by kernel_rfl) ?_
     refine WQ.keep [0, 1, 2, 6, 7, 11, 16, 28] (e' := [(0, .string (str s)), (1, .int .i64 ((k + 1 : Nat) : Int)), (2, .bool true), (6, .int .i64 0), (7, .bool true), (11, .bool true), (16, .bool true), (28, .bool false)]) (by kernel_rfl) ?_
     refine WQ.blkN ?_
     refine WQ.round ?_
     intro a_ ha_
     refine ⟨k + 1, ?_, ha_.keep [0, 1, 2, 6] (by kernel_rfl), ?_⟩
     ·
      omega
     ·
      exact ⟨by omega, by omega, fun j h1_ h2_ => (Nat.lt_succ_iff_lt_or_eq.1 h2_).elim (hbe j h1_) (fun h_ => by rw [h_]; first | assumption | exact isD_t (c := gB s k) (by omega)), HA⟩
    intro h6
    refine WO.run 2 9 [(7, .bool false), (26, .bool false)] (by kernel_rfl) (by kernel_rfl) ?_
    refine WO.done (by kernel_rfl) ?_
    refine WQ.keep [0, 1, 2, 6, 7, 11, 16] (e' := [(0, .string (str s)), (1, .int .i64 (k : Int)), (2, .bool true), (6, .int .i64 0), (7, .bool false), (11, .bool true), (16, .bool true)]) (by kernel_rfl) ?_
    refine WQ.thenN ?_
    refine WE.seq ?_
    refine WE.seq ?_
    refine WE.region ?_
    refine WO.run 2 0 [(28, .bool true), (27, .bool false)] (by kernel_rfl) (by kernel_rfl) ?_
    refine WO.done (by kernel_rfl) ?_
    refine WQ.keep [0, 1, 2, 6, 7, 11, 16, 28] (e' := [(0, .string (str s)), (1, .int .i64 (k : Int)), (2, .bool true), (6, .int .i64 0), (7, .bool false), (11, .bool true), (16, .bool true), (28, .bool true)]) (by kernel_rfl) ?_
    refine WQ.thenN ?_
    refine WE.condT (by kernel_rfl) ?_
    refine WE.seq ?_
    refine WE.region ?_
    refine WO.run 2 0 [(6, .int .i64 (k : Int)), (29, .int .i64 (k : Int))] (by kernel_rfl) (by kernel_rfl) ?_
    refine WO.done (by kernel_rfl) ?_
    refine WQ.keep [0, 1, 2, 6, 7, 11, 16, 28] (e' := [(0, .string (str s)), (1, .int .i64 (k : Int)), (2, .bool true), (6, .int .i64 (k : Int)), (7, .bool false), (11, .bool true), (16, .bool true), (28, .bool true)]) (by kernel_rfl) ?_
    refine WQ.thenN ?_
    refine WE.ret ?_
    refine WQ.thenR ?_
    refine WQ.blkR ?_
    refine WQ.thenR ?_
    refine WQ.blkR ?_
    refine WQ.thenR ?_
    refine WQ.ret (v := .int .i64 (k : Int)) (by kernel_rfl) ?_
    first | (rw [runE_eq (pr := isD) hk1 hk2 hbe (.inr ⟨by omega, by first | assumption | exact isD_f (c := gB s k) (by omega)⟩)]; exact ⟨rfl, HA⟩) | (rw [runE_eq (pr := isD) hk1 hk2 hbe (.inl (by omega))]; exact ⟨rfl, HA⟩)
   intro h5
   refine WO.run 7 4 [(7, .bool false), (26, .bool false), (25, undef), (24, undef), (23, undef), (22, undef), (21, .bool false)] (by kernel_rfl) (by kernel_rfl) ?_
   refine WO.done (by kernel_rfl) ?_
   refine WQ.keep [0, 1, 2, 6, 7, 11, 16] (e' := [(0, .string (str s)), (1, .int .i64 (k : Int)), (2, .bool true), (6, .int .i64 0), (7, .bool false), (11, .bool true), (16, .bool true)]) (by kernel_rfl) ?_
   refine WQ.thenN ?_
   refine WE.seq ?_
   refine WE.seq ?_
   refine WE.region ?_
   refine WO.run 2 0 [(28, .bool true), (27, .bool false)] (by kernel_rfl) (by kernel_rfl) ?_
   refine WO.done (by kernel_rfl) ?_
   refine WQ.keep [0, 1, 2, 6, 7, 11, 16, 28] (e' := [(0, .string (str s)), (1, .int .i64 (k : Int)), (2, .bool true), (6, .int .i64 0), (7, .bool false), (11, .bool true), (16, .bool true), (28, .bool true)]) (by kernel_rfl) ?_
   refine WQ.thenN ?_
   refine WE.condT (by kernel_rfl) ?_
   refine WE.seq ?_
   refine WE.region ?_
   refine WO.run 2 0 [(6, .int .i64 (k : Int)), (29, .int .i64 (k : Int))] (by kernel_rfl) (by kernel_rfl) ?_
   refine WO.done (by kernel_rfl) ?_
   refine WQ.keep [0, 1, 2, 6, 7, 11, 16, 28] (e' := [(0, .string (str s)), (1, .int .i64 (k : Int)), (2, .bool true), (6, .int .i64 (k : Int)), (7, .bool false), (11, .bool true), (16, .bool true), (28, .bool true)]) (by kernel_rfl) ?_
   refine WQ.thenN ?_
   refine WE.ret ?_
   refine WQ.thenR ?_
   refine WQ.blkR ?_
   refine WQ.thenR ?_
   refine WQ.blkR ?_
   refine WQ.thenR ?_
   refine WQ.ret (v := .int .i64 (k : Int)) (by kernel_rfl) ?_
   first | (rw [runE_eq (pr := isD) hk1 hk2 hbe (.inr ⟨by omega, by first | assumption | exact isD_f (c := gB s k) (by omega)⟩)]; exact ⟨rfl, HA⟩) | (rw [runE_eq (pr := isD) hk1 hk2 hbe (.inl (by omega))]; exact ⟨rfl, HA⟩)
  intro h4
  refine WO.done (by kernel_rfl) ?_
  refine WQ.keep [0, 1, 2, 6, 7, 11] (e' := [(0, .string (str s)), (1, .int .i64 (k : Int)), (2, .bool true), (6, .int .i64 0), (7, .bool false), (11, .bool true)]) (by kernel_rfl) ?_
  refine WQ.thenN ?_
  refine WE.seq ?_
  refine WE.seq ?_
  refine WE.region ?_
  refine WO.run 1 0 [(16, .bool true)] (by kernel_rfl) (by kernel_rfl) ?_
  refine WO.done (by kernel_rfl) ?_
  refine WQ.keep [0, 1, 2, 6, 7, 11, 16] (e' := [(0, .string (str s)), (1, .int .i64 (k : Int)), (2, .bool true), (6, .int .i64 0), (7, .bool false), (11, .bool true), (16, .bool true)]) (by kernel_rfl) ?_
  refine WQ.thenN ?_
  refine WE.condT (by kernel_rfl) ?_
  refine WE.region ?_
  refine WO.run 2 0 [(18, .int .i64 (k : Int)), (17, .string (str s))] (by kernel_rfl) (by kernel_rfl) ?_
  refine WO.ixS (i := (k : Int)) (SQ.F 2 (by kernel_rfl)) 19 k s (by kernel_rfl) (by rfl) (by omega) ?_
  refine WO.one (SQ.F 3 (by kernel_rfl)) 20 (.bool (decide ((((gB s k).toNat : Int) : Int) ≥ (48 : Int)))) (by kernel_rfl) ?_
  refine WO.topP ((((gB s k).toNat : Int) : Int) ≥ (48 : Int)) ?_ ?_
  ·
   intro h7
   refine WO.run 3 4 [(23, .int .i64 (k : Int)), (22, .string (str s)), (21, .bool true)] (by kernel_rfl) (by kernel_rfl) ?_
   refine WO.ixS (i := (k : Int)) (SQ.F 7 (by kernel_rfl)) 24 k s (by kernel_rfl) (by rfl) (by omega) ?_
   refine WO.one (SQ.F 8 (by kernel_rfl)) 25 (.bool (decide ((((gB s k).toNat : Int) : Int) ≤ (57 : Int)))) (by kernel_rfl) ?_
   refine WO.topP ((((gB s k).toNat : Int) : Int) ≤ (57 : Int)) ?_ ?_
   ·
    intro h8
    refine WO.run 2 9 [(7, .bool true), (26, .bool true)] (by kernel_rfl) (by kernel_rfl) ?_
    refine WO.done (by kernel_rfl) ?_
    refine WQ.keep [0, 1, 2, 6, 7, 11, 16] (e' := [(0, .string (str s)), (1, .int .i64 (k : Int)), (2, .bool true), (6, .int .i64 0), (7, .bool true), (11, .bool true), (16, .bool true)]) (by kernel_rfl) ?_
    refine WQ.thenN ?_
    refine WE.seq ?_
    refine WE.seq ?_
    refine WE.region ?_
    refine WO.run 2 0 [(28, .bool false), (27, .bool true)] (by kernel_rfl) (by kernel_rfl) ?_
    refine WO.done (by kernel_rfl) ?_
    refine WQ.keep [0, 1, 2, 6, 7, 11, 16, 28] (e' := [(0, .string (str s)), (1, .int .i64 (k : Int)), (2, .bool true), (6, .int .i64 0), (7, .bool true), (11, .bool true), (16, .bool true), (28, .bool false)]) (by kernel_rfl) ?_
    refine WQ.thenN ?_
    refine WE.condF (by kernel_rfl) ?_
    refine WE.skip ?_
    refine WQ.thenN ?_
    refine WE.region ?_
    refine WO.run 1 0 [(30, .int .i64 (k : Int))] (by kernel_rfl) (by kernel_rfl) ?_
    refine WO.one (SQ.F 1 (by kernel_rfl)) 31 (.int .i64 (IntKind.i64.wrap ((k : Int) + 1))) (by kernel_rfl) ?_
    refine WO.top (v' := .int .i64 ((k + 1 : Nat) : Int)) (wrap_i64 (by omega) (by omega)) ?_
    refine WO.run 1 2 [(1, .int .i64 ((k + 1 : Nat) : Int))] (by kernel_rfl) (by kernel_rfl) ?_
    refine WO.done (by kernel_rfl) ?_
    refine WQ.keep [0, 1, 2, 6, 7, 11, 16, 28] (e' := [(0, .string (str s)), (1, .int .i64 ((k + 1 : Nat) : Int)), (2, .bool true), (6, .int .i64 0), (7, .bool true), (11, .bool true), (16, .bool true), (28, .bool false)]) (by kernel_rfl) ?_
    refine WQ.blkN ?_
    refine WQ.round ?_
    intro a_ ha_
    refine ⟨k + 1, ?_, ha_.keep [0, 1, 2, 6] (by kernel_rfl), ?_⟩
    ·
     omega
    ·
     exact ⟨by omega, by omega, fun j h1_ h2_ => (Nat.lt_succ_iff_lt_or_eq.1 h2_).elim (hbe j h1_) (fun h_ => by rw [h_]; first | assumption | exact isD_t (c := gB s k) (by omega)), HA⟩
   intro h8
   refine WO.run 2 9 [(7, .bool false), (26, .bool false)] (by kernel_rfl) (by kernel_rfl) ?_
   refine WO.done (by kernel_rfl) ?_
   refine WQ.keep [0, 1, 2, 6, 7, 11, 16] (e' := [(0, .string (str s)), (1, .int .i64 (k : Int)), (2, .bool true), (6, .int .i64 0), (7, .bool false), (11, .bool true), (16, .bool true)]) (by kernel_rfl) ?_
   refine WQ.thenN ?_
   refine WE.seq ?_
   refine WE.seq ?_
   refine WE.region ?_
   refine WO.run 2 0 [(28, .bool true), (27, .bool false)] (by kernel_rfl) (by kernel_rfl) ?_
   refine WO.done (by kernel_rfl) ?_
   refine WQ.keep [0, 1, 2, 6, 7, 11, 16, 28] (e' := [(0, .string (str s)), (1, .int .i64 (k : Int)), (2, .bool true), (6, .int .i64 0), (7, .bool false), (11, .bool true), (16, .bool true), (28, .bool true)]) (by kernel_rfl) ?_
   refine WQ.thenN ?_
   refine WE.condT (by kernel_rfl) ?_
   refine WE.seq ?_
   refine WE.region ?_
   refine WO.run 2 0 [(6, .int .i64 (k : Int)), (29, .int .i64 (k : Int))] (by kernel_rfl) (by kernel_rfl) ?_
   refine WO.done (by kernel_rfl) ?_
   refine WQ.keep [0, 1, 2, 6, 7, 11, 16, 28] (e' := [(0, .string (str s)), (1, .int .i64 (k : Int)), (2, .bool true), (6, .int .i64 (k : Int)), (7, .bool false), (11, .bool true), (16, .bool true), (28, .bool true)]) (by kernel_rfl) ?_
   refine WQ.thenN ?_
   refine WE.ret ?_
   refine WQ.thenR ?_
   refine WQ.blkR ?_
   refine WQ.thenR ?_
   refine WQ.blkR ?_
   refine WQ.thenR ?_
   refine WQ.ret (v := .int .i64 (k : Int)) (by kernel_rfl) ?_
   first | (rw [runE_eq (pr := isD) hk1 hk2 hbe (.inr ⟨by omega, by first | assumption | exact isD_f (c := gB s k) (by omega)⟩)]; exact ⟨rfl, HA⟩) | (rw [runE_eq (pr := isD) hk1 hk2 hbe (.inl (by omega))]; exact ⟨rfl, HA⟩)
  intro h7
  refine WO.run 7 4 [(7, .bool false), (26, .bool false), (25, undef), (24, undef), (23, undef), (22, undef), (21, .bool false)] (by kernel_rfl) (by kernel_rfl) ?_
  refine WO.done (by kernel_rfl) ?_
  refine WQ.keep [0, 1, 2, 6, 7, 11, 16] (e' := [(0, .string (str s)), (1, .int .i64 (k : Int)), (2, .bool true), (6, .int .i64 0), (7, .bool false), (11, .bool true), (16, .bool true)]) (by kernel_rfl) ?_
  refine WQ.thenN ?_
  refine WE.seq ?_
  refine WE.seq ?_
  refine WE.region ?_
  refine WO.run 2 0 [(28, .bool true), (27, .bool false)] (by kernel_rfl) (by kernel_rfl) ?_
  refine WO.done (by kernel_rfl) ?_
  refine WQ.keep [0, 1, 2, 6, 7, 11, 16, 28] (e' := [(0, .string (str s)), (1, .int .i64 (k : Int)), (2, .bool true), (6, .int .i64 0), (7, .bool false), (11, .bool true), (16, .bool true), (28, .bool true)]) (by kernel_rfl) ?_
  refine WQ.thenN ?_
  refine WE.condT (by kernel_rfl) ?_
  refine WE.seq ?_
  refine WE.region ?_
  refine WO.run 2 0 [(6, .int .i64 (k : Int)), (29, .int .i64 (k : Int))] (by kernel_rfl) (by kernel_rfl) ?_
  refine WO.done (by kernel_rfl) ?_
  refine WQ.keep [0, 1, 2, 6, 7, 11, 16, 28] (e' := [(0, .string (str s)), (1, .int .i64 (k : Int)), (2, .bool true), (6, .int .i64 (k : Int)), (7, .bool false), (11, .bool true), (16, .bool true), (28, .bool true)]) (by kernel_rfl) ?_
  refine WQ.thenN ?_
  refine WE.ret ?_
  refine WQ.thenR ?_
  refine WQ.blkR ?_
  refine WQ.thenR ?_
  refine WQ.blkR ?_
  refine WQ.thenR ?_
  refine WQ.ret (v := .int .i64 (k : Int)) (by kernel_rfl) ?_
  first | (rw [runE_eq (pr := isD) hk1 hk2 hbe (.inr ⟨by omega, by first | assumption | exact isD_f (c := gB s k) (by omega)⟩)]; exact ⟨rfl, HA⟩) | (rw [runE_eq (pr := isD) hk1 hk2 hbe (.inl (by omega))]; exact ⟨rfl, HA⟩)
 intro h1
 refine WO.done (by kernel_rfl) ?_
 refine WQ.keep [0, 1, 2, 6, 11] (e' := [(0, .string (str s)), (1, .int .i64 (k : Int)), (2, .bool true), (6, .int .i64 0), (11, .bool false)]) (by kernel_rfl) ?_
 refine WQ.thenN ?_
 refine WE.condF (by kernel_rfl) ?_
 refine WE.exit ?_
 refine WQ.thenE ?_
 refine WQ.thenE ?_
 refine WQ.blkE ?_
 refine WQ.thenN ?_
 refine WE.seq ?_
 refine WE.region ?_
 refine WO.run 2 0 [(6, .int .i64 (k : Int)), (32, .int .i64 (k : Int))] (by kernel_rfl) (by kernel_rfl) ?_
 refine WO.done (by kernel_rfl) ?_
 refine WQ.keep [0, 1, 2, 6, 11] (e' := [(0, .string (str s)), (1, .int .i64 (k : Int)), (2, .bool true), (6, .int .i64 (k : Int)), (11, .bool false)]) (by kernel_rfl) ?_
 refine WQ.thenN ?_
 refine WE.ret ?_
 refine WQ.ret (v := .int .i64 (k : Int)) (by kernel_rfl) ?_
 first | (rw [runE_eq (pr := isD) hk1 hk2 hbe (.inr ⟨by omega, by first | assumption | exact isD_f (c := gB s k) (by omega)⟩)]; exact ⟨rfl, HA⟩) | (rw [runE_eq (pr := isD) hk1 hk2 hbe (.inl (by omega))]; exact ⟨rfl, HA⟩)
end Go.Proofs.YtdhonbahpcmmnaaDoor.Line
