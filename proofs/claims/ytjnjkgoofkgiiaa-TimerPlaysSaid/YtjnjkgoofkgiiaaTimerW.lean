/- Layer 13's walks. -/
import Derived.Test.YtjnjkgoofkgiiaaEngR
import Derived.Test.YtjnjkgoofkgiiaaTimerPure
import Derived.Test.YtjnjkgoofkgiiaaProg
set_option linter.unusedVariables false
set_option linter.unusedSimpArgs false
namespace Go.Proofs.Ytjnjkgoofkgiiaa.Timer
open Go Go.RowKit Go.Proofs.Ytjnjkgoofkgiiaa Go.Proofs.Ytjnjkgoofkgiiaa.Eng
def cE (e : Ent) : List Value := [.int .i64 e.a, .int .i64 e.b, .int .i64 e.t]
theorem cE_len (q : List Ent) : ∀ x ∈ q.map cE, x.length = 3 := by
  intro x hx
  obtain ⟨e, _, rfl⟩ := List.mem_map.1 hx
  rfl
theorem cE_one (q : List Ent) : ∀ x ∈ q.map cE, x.all oneB = true := by
  intro x hx
  obtain ⟨e, _, rfl⟩ := List.mem_map.1 hx
  rfl
theorem map_at (q : List Ent) (k : Nat) (h : k < q.length) : (q.map cE).getD k [] = cE (at0 q k) := by
  simp [at0, h]
structure Due where
  u : Int
  v : Int
  deriving DecidableEq
def cD (e : Due) : List Value := [.int .i64 e.u, .int .i64 e.v]
def atD (q : List Due) (i : Nat) : Due := q.getD i ⟨0, 0⟩
theorem cD_len (q : List Due) : ∀ x ∈ q.map cD, x.length = 2 := by
  intro x hx
  obtain ⟨e, _, rfl⟩ := List.mem_map.1 hx
  rfl
theorem cD_one (q : List Due) : ∀ x ∈ q.map cD, x.all oneB = true := by
  intro x hx
  obtain ⟨e, _, rfl⟩ := List.mem_map.1 hx
  rfl
theorem map_atD (q : List Due) (k : Nat) (h : k < q.length) : (q.map cD).getD k [] = cD (atD q k) := by
  simp [atD, h]
def due (e : Ent) : Due := ⟨e.a, e.b⟩
/-- a list of what is due, as a slice of the call's own -/
def OwnD (B : Nat) (w : World) (v : Value) (ds : List Due) : Prop := (v = .slice none 0 0 ∧ ds = []) ∨ ∃ b cap, v = .slice (some ⟨b, 0, none⟩) ds.length cap ∧ B ≤ b ∧ RowB w b 33 2 cap (ds.map cD)
theorem OwnD.keep {B : Nat} {w w1 : World} {S : List Nat} {v : Value} {ds : List Due} (h : OwnD B w v ds) (k : Fr S w w1) (hS : ∀ x ∈ S, x < B) : OwnD B w1 v ds := by
  rcases h with h | ⟨b, cap, h1, h2, h3⟩
  · exact .inl h
  · exact .inr ⟨b, cap, h1, h2, h3.keep k (fun hb => by have := hS b hb; omega)⟩
theorem et_e : ET Try.prog 64 68 3 24 := by
  obtain ⟨i, h1, h2, h3, h4⟩ := info_parts (P := Try.prog) (e := 68) (z := .agg #[.int .i64 0, .int .i64 0, .int .i64 0]) (size := 3) (bytes := 24) (by kernel_rfl)
  exact ⟨by kernel_rfl, ⟨i, _, h1, h2, h3, h4, rfl⟩, by decide⟩
theorem et_d : ET Try.prog 30 33 2 16 := by
  obtain ⟨i, h1, h2, h3, h4⟩ := info_parts (P := Try.prog) (e := 33) (z := .agg #[.int .i64 0, .int .i64 0]) (size := 2) (bytes := 16) (by kernel_rfl)
  exact ⟨by kernel_rfl, ⟨i, _, h1, h2, h3, h4, rfl⟩, by decide⟩
theorem half_i64 (i : Nat) (h : 0 < i) (h2 : i ≤ 1000000) : Value.int .i64 (IntKind.i64.wrap (((i : Int) - 1).tdiv 2)) = .int .i64 (((i - 1) / 2 : Nat) : Int) := by
  have : ((i : Int) - 1) = ((i - 1 : Nat) : Int) := by omega
  rw [this]
  refine wrap_i64 ?_ ⟨by omega, by omega⟩
  exact IntWalk.up_tdiv (y := 2) rfl rfl
theorem up_step (q : List Ent) (i : Nat) (h : 0 < i) (hlt : lt (at0 q i) (at0 q ((i - 1) / 2))) : up i q i = up ((i - 1) / 2) (swap q i ((i - 1) / 2)) ((i - 1) / 2) := by
  obtain ⟨j, rfl⟩ : ∃ j, i = j + 1 := ⟨i - 1, by omega⟩
  rw [up, if_neg (by omega), if_pos hlt]
  exact up_fuel _ _ _ (by omega)
theorem up_stop (q : List Ent) (i : Nat) (hlt : ¬ lt (at0 q i) (at0 q ((i - 1) / 2))) : up i q i = q := by
  cases i with
  | zero => rfl
  | succ j => rw [up, if_neg (by omega), if_neg hlt]
set_option maxRecDepth 100000 in
set_option maxHeartbeats 400000 in
theorem ahead_any (a1 b1 t1 a2 b2 t2 : Int) (w : World) :
    Calls Try.prog 35 #[.agg #[.int .i64 a1, .int .i64 b1, .int .i64 t1], .agg #[.int .i64 a2, .int .i64 b2, .int .i64 t2]] w fun e w' => e = .returned (.bool (aheadB a1 t1 a2 t2)) ∧ Fr [] w w' := by
  have HA := Fr.refl [] w
  refine enter (N := 28) Try.func35 (c := _) rfl (by kernel_rfl) (by kernel_rfl) (e := [(0, .agg #[.int .i64 a1, .int .i64 b1, .int .i64 t1]), (1, .agg #[.int .i64 a2, .int .i64 b2, .int .i64 t2])]) (by kernel_rfl) ?_
  refine WE.seq ?_
  -- R0 timer.go:16
  refine WE.region ?_
  refine WO.bx (SQ.E 0 (by kernel_rfl)) 2 #[.int .i64 a1, .int .i64 b1, .int .i64 t1] 68 (fun g => .pointer (some ⟨g, 0, none⟩)) (by kernel_rfl) (fun _ _ => trivial) ?_
  intro g1 w2 HB4 F3 le5 _
  have ge_HA_g1 := Nat.le_trans HA.size le5
  have HA := Fr.step0 HA F3
  refine WO.bx (SQ.E 1 (by kernel_rfl)) 3 #[.int .i64 a2, .int .i64 b2, .int .i64 t2] 68 (fun g => .pointer (some ⟨g, 0, none⟩)) (by kernel_rfl) (fun _ _ => trivial) ?_
  intro g6 w7 HB9 F8 le10 _
  have ne_g1_g6 : g1 ≠ g6 := Nat.ne_of_lt (Nat.lt_of_lt_of_le HB4.lt le10)
  have ge_HA_g6 := Nat.le_trans HA.size le10
  have HB4 := Blk.keep HB4 F8 (nin0 _)
  have HA := Fr.step0 HA F8
  refine WO.run 1 2 [(4, .bool false)] (by kernel_rfl) (by kernel_rfl) ?_
  refine WO.done (by kernel_rfl) ?_
  refine WQ.keep [0, 1, 2, 3, 4] (e' := [(0, .agg #[.int .i64 a1, .int .i64 b1, .int .i64 t1]), (1, .agg #[.int .i64 a2, .int .i64 b2, .int .i64 t2]), (2, .pointer (some ⟨g1, 0, none⟩)), (3, .pointer (some ⟨g6, 0, none⟩)), (4, .bool false)]) (by kernel_rfl) ?_
  refine WQ.thenN ?_
  refine WE.seq ?_
  -- R1 timer.go:16
  refine WE.region ?_
  refine WO.run 2 0 [(6, .pointer (some ⟨g1, 0, none⟩)), (5, .pointer (some ⟨g1, 0, none⟩))] (by kernel_rfl) (by kernel_rfl) ?_
  refine WO.ld (SQ.S 2 (by kernel_rfl)) 7 (.int .i64 a1) (by kernel_rfl) (same (HB4.at 0 (by kernel_rfl))) ?_
  refine WO.run 2 3 [(9, .pointer (some ⟨g6, 0, none⟩)), (8, .pointer (some ⟨g6, 0, none⟩))] (by kernel_rfl) (by kernel_rfl) ?_
  refine WO.ld (SQ.S 5 (by kernel_rfl)) 10 (.int .i64 a2) (by kernel_rfl) (same (HB9.at 0 (by kernel_rfl))) ?_
  refine WO.one (SQ.F 6 (by kernel_rfl)) 11 (.bool (decide ((a1 : Int) < a2))) (by kernel_rfl) ?_
  refine WO.topP ((a1 : Int) < a2) ?_ ?_
  · intro h11
    refine WO.run 17 7 [(4, .bool true), (27, .bool true), (26, undef), (25, undef), (24, undef), (23, undef), (22, undef), (21, undef), (20, undef), (19, undef), (18, undef), (17, undef), (16, undef), (15, undef), (14, undef), (13, undef), (12, .bool true)] (by kernel_rfl) (by kernel_rfl) ?_
    refine WO.done (by kernel_rfl) ?_
    refine WQ.keep [0, 1, 2, 3, 4] (e' := [(0, .agg #[.int .i64 a1, .int .i64 b1, .int .i64 t1]), (1, .agg #[.int .i64 a2, .int .i64 b2, .int .i64 t2]), (2, .pointer (some ⟨g1, 0, none⟩)), (3, .pointer (some ⟨g6, 0, none⟩)), (4, .bool true)]) (by kernel_rfl) ?_
    refine WQ.thenN ?_
    refine WE.ret ?_
    refine WQ.ret (v := .bool true) (by kernel_rfl) ?_
    exact ⟨by simp [aheadB, h11], HA⟩
  · intro h11
    refine WO.run 3 7 [(14, .pointer (some ⟨g1, 0, none⟩)), (13, .pointer (some ⟨g1, 0, none⟩)), (12, .bool false)] (by kernel_rfl) (by kernel_rfl) ?_
    refine WO.ld (SQ.S 10 (by kernel_rfl)) 15 (.int .i64 a1) (by kernel_rfl) (same (HB4.at 0 (by kernel_rfl))) ?_
    refine WO.run 2 11 [(17, .pointer (some ⟨g6, 0, none⟩)), (16, .pointer (some ⟨g6, 0, none⟩))] (by kernel_rfl) (by kernel_rfl) ?_
    refine WO.ld (SQ.S 13 (by kernel_rfl)) 18 (.int .i64 a2) (by kernel_rfl) (same (HB9.at 0 (by kernel_rfl))) ?_
    refine WO.one (SQ.F 14 (by kernel_rfl)) 19 (.bool (decide ((a1 : Int) = a2))) (by kernel_rfl) ?_
    refine WO.topP ((a1 : Int) = a2) ?_ ?_
    · intro h12
      refine WO.run 2 15 [(21, .pointer (some ⟨g1, 2, none⟩)), (20, .bool true)] (by kernel_rfl) (by kernel_rfl) ?_
      refine WO.ld (SQ.S 17 (by kernel_rfl)) 22 (.int .i64 t1) (by kernel_rfl) (same (HB4.at 2 (by kernel_rfl))) ?_
      refine WO.run 1 18 [(23, .pointer (some ⟨g6, 2, none⟩))] (by kernel_rfl) (by kernel_rfl) ?_
      refine WO.ld (SQ.S 19 (by kernel_rfl)) 24 (.int .i64 t2) (by kernel_rfl) (same (HB9.at 2 (by kernel_rfl))) ?_
      refine WO.run 4 20 [(4, .bool (decide ((t1 : Int) < t2))), (27, .bool (decide ((t1 : Int) < t2))), (26, .bool (decide ((t1 : Int) < t2))), (25, .bool (decide ((t1 : Int) < t2)))] (by kernel_rfl) (by kernel_rfl) ?_
      refine WO.done (by kernel_rfl) ?_
      refine WQ.keep [0, 1, 2, 3, 4] (e' := [(0, .agg #[.int .i64 a1, .int .i64 b1, .int .i64 t1]), (1, .agg #[.int .i64 a2, .int .i64 b2, .int .i64 t2]), (2, .pointer (some ⟨g1, 0, none⟩)), (3, .pointer (some ⟨g6, 0, none⟩)), (4, .bool (decide ((t1 : Int) < t2)))]) (by kernel_rfl) ?_
      refine WQ.thenN ?_
      refine WE.ret ?_
      refine WQ.ret (v := .bool (decide ((t1 : Int) < t2))) (by kernel_rfl) ?_
      exact ⟨by simp [aheadB, h11, h12], HA⟩
    · intro h12
      refine WO.run 9 15 [(4, .bool false), (27, .bool false), (26, .bool false), (25, undef), (24, undef), (23, undef), (22, undef), (21, undef), (20, .bool false)] (by kernel_rfl) (by kernel_rfl) ?_
      refine WO.done (by kernel_rfl) ?_
      refine WQ.keep [0, 1, 2, 3, 4] (e' := [(0, .agg #[.int .i64 a1, .int .i64 b1, .int .i64 t1]), (1, .agg #[.int .i64 a2, .int .i64 b2, .int .i64 t2]), (2, .pointer (some ⟨g1, 0, none⟩)), (3, .pointer (some ⟨g6, 0, none⟩)), (4, .bool false)]) (by kernel_rfl) ?_
      refine WQ.thenN ?_
      refine WE.ret ?_
      refine WQ.ret (v := .bool false) (by kernel_rfl) ?_
      exact ⟨by simp [aheadB, h11, h12], HA⟩

set_option maxRecDepth 100000 in
set_option maxHeartbeats 400000 in
theorem new_any (w : World) :
    Calls Try.prog 12 #[] w fun e w' => ∃ g, e = .returned (.pointer (some ⟨g, 0, none⟩)) ∧ Blk w' g #[.slice none 0 0, .int .i64 0] 66 ∧ Fr [] w w' ∧ w.heap.size ≤ g := by
  have HA := Fr.refl [] w
  refine enter (N := 3) Try.func12 (c := _) rfl (by kernel_rfl) (by kernel_rfl) (e := []) (by kernel_rfl) ?_
  refine WE.seq ?_
  -- R0 timer.go:25
  refine WE.region ?_
  refine WO.run 1 0 [(0, .pointer none)] (by kernel_rfl) (by kernel_rfl) ?_
  refine WO.done (by kernel_rfl) ?_
  refine WQ.thenN ?_
  refine WE.seq ?_
  -- R1 timer.go:25
  refine WE.region ?_
  refine WO.run 1 0 [(1, .agg #[.slice none 0 0, .int .i64 0])] (by kernel_rfl) (by kernel_rfl) ?_
  refine WO.bx (SQ.E 1 (by kernel_rfl)) 2 #[.slice none 0 0, .int .i64 0] 66 (fun g => .pointer (some ⟨g, 0, none⟩)) (by kernel_rfl) (fun _ _ => trivial) ?_
  intro g1 w2 HB4 F3 le5 _
  have ge_HA_g1 := Nat.le_trans HA.size le5
  have HA := Fr.step0 HA F3
  refine WO.run 1 2 [(0, .pointer (some ⟨g1, 0, none⟩))] (by kernel_rfl) (by kernel_rfl) ?_
  refine WO.done (by kernel_rfl) ?_
  refine WQ.keep [0] (e' := [(0, .pointer (some ⟨g1, 0, none⟩))]) (by kernel_rfl) ?_
  refine WQ.thenN ?_
  refine WE.ret ?_
  refine WQ.ret (v := .pointer (some ⟨g1, 0, none⟩)) (by kernel_rfl) ?_
  exact ⟨_, rfl, HB4, HA, ge_HA_g1⟩

set_option maxRecDepth 100000 in
set_option maxHeartbeats 400000 in
theorem set_neg (p : Option Addr) (a x : Int) (w : World) (h : a < 0) :
    Calls Try.prog 14 #[.pointer p, .int .i64 a, .int .i64 x] w fun e w' => e = .returned (.iface 39 (.int .i64 1)) ∧ Fr [] w w' := by
  have HA := Fr.refl [] w
  refine enter (N := 99) Try.func14 (c := _) rfl (by kernel_rfl) (by kernel_rfl) (e := [(0, .pointer p), (1, .int .i64 a), (2, .int .i64 x)]) (by kernel_rfl) ?_
  refine WE.seq ?_
  -- R0 timer.go:28
  refine WE.region ?_
  refine WO.run 1 0 [(6, .nilIface)] (by kernel_rfl) (by kernel_rfl) ?_
  refine WO.done (by kernel_rfl) ?_
  refine WQ.keep [0, 1, 2, 6] (e' := [(0, .pointer p), (1, .int .i64 a), (2, .int .i64 x), (6, .nilIface)]) (by kernel_rfl) ?_
  refine WQ.thenN ?_
  refine WE.seq ?_
  refine WE.block ?_
  refine WE.seq ?_
  -- R1 timer.go:30
  refine WE.region ?_
  refine WO.run 1 0 [(10, .int .i64 a)] (by kernel_rfl) (by kernel_rfl) ?_
  refine WO.one (SQ.F 1 (by kernel_rfl)) 11 (.bool (decide ((a : Int) < 0))) (by kernel_rfl) ?_
  refine WO.topPT ((a : Int) < 0) (by omega) ?_
  refine WO.run 1 2 [(9, .bool true)] (by kernel_rfl) (by kernel_rfl) ?_
  refine WO.done (by kernel_rfl) ?_
  refine WQ.keep [0, 1, 2, 6, 9] (e' := [(0, .pointer p), (1, .int .i64 a), (2, .int .i64 x), (6, .nilIface), (9, .bool true)]) (by kernel_rfl) ?_
  refine WQ.thenN ?_
  refine WE.condT (by kernel_rfl) ?_
  refine WE.seq ?_
  -- R2 timer.go:31
  refine WE.region ?_
  refine WO.run 2 0 [(6, .iface 39 (.int .i64 1)), (12, .iface 39 (.int .i64 1))] (by kernel_rfl) (by kernel_rfl) ?_
  refine WO.done (by kernel_rfl) ?_
  refine WQ.keep [0, 1, 2, 6, 9] (e' := [(0, .pointer p), (1, .int .i64 a), (2, .int .i64 x), (6, .iface 39 (.int .i64 1)), (9, .bool true)]) (by kernel_rfl) ?_
  refine WQ.thenN ?_
  refine WE.ret ?_
  refine WQ.blkR ?_
  refine WQ.thenR ?_
  refine WQ.ret (v := .iface 39 (.int .i64 1)) (by kernel_rfl) ?_
  exact ⟨rfl, HA⟩

set_option maxRecDepth 100000 in
set_option maxHeartbeats 400000 in
theorem set_full (g b cap n : Nat) (q : List Ent) (t a x : Int) (w : World) (hB : Blk w g #[.slice (some ⟨b, 0, none⟩) n cap, .int .i64 t] 66) (hR : RowB w b 68 3 cap (q.map cE)) (hbg : b ≠ g) (hn : q.length = n) (ha : 0 ≤ a) (h50 : 50 ≤ n) (hmax : n ≤ 1000) :
    Calls Try.prog 14 #[.pointer (some ⟨g, 0, none⟩), .int .i64 a, .int .i64 x] w fun e w' => e = .returned (.iface 39 (.int .i64 6)) ∧ Fr [] w w' := by
  have HB := hB
  have HR := hR
  have HA := Fr.refl [] w
  refine enter (N := 99) Try.func14 (c := _) rfl (by kernel_rfl) (by kernel_rfl) (e := [(0, .pointer (some ⟨g, 0, none⟩)), (1, .int .i64 a), (2, .int .i64 x)]) (by kernel_rfl) ?_
  refine WE.seq ?_
  -- R0 timer.go:28
  refine WE.region ?_
  refine WO.run 1 0 [(6, .nilIface)] (by kernel_rfl) (by kernel_rfl) ?_
  refine WO.done (by kernel_rfl) ?_
  refine WQ.keep [0, 1, 2, 6] (e' := [(0, .pointer (some ⟨g, 0, none⟩)), (1, .int .i64 a), (2, .int .i64 x), (6, .nilIface)]) (by kernel_rfl) ?_
  refine WQ.thenN ?_
  refine WE.seq ?_
  refine WE.block ?_
  refine WE.seq ?_
  -- R1 timer.go:30
  refine WE.region ?_
  refine WO.run 1 0 [(10, .int .i64 a)] (by kernel_rfl) (by kernel_rfl) ?_
  refine WO.one (SQ.F 1 (by kernel_rfl)) 11 (.bool (decide ((a : Int) < 0))) (by kernel_rfl) ?_
  refine WO.topPF ((a : Int) < 0) (by omega) ?_
  refine WO.run 1 2 [(9, .bool false)] (by kernel_rfl) (by kernel_rfl) ?_
  refine WO.done (by kernel_rfl) ?_
  refine WQ.keep [0, 1, 2, 6, 9] (e' := [(0, .pointer (some ⟨g, 0, none⟩)), (1, .int .i64 a), (2, .int .i64 x), (6, .nilIface), (9, .bool false)]) (by kernel_rfl) ?_
  refine WQ.thenN ?_
  refine WE.condF (by kernel_rfl) ?_
  refine WE.seq ?_
  -- R3 timer.go:32
  refine WE.region ?_
  refine WO.run 3 0 [(16, .pointer (some ⟨g, 0, none⟩)), (15, .pointer (some ⟨g, 0, none⟩)), (14, .pointer (some ⟨g, 0, none⟩))] (by kernel_rfl) (by kernel_rfl) ?_
  refine WO.ld (SQ.S 3 (by kernel_rfl)) 17 (.slice (some ⟨b, 0, none⟩) n cap) (by kernel_rfl) (same (HB.at 0 (by kernel_rfl))) ?_
  refine WO.run 1 4 [(18, .int .i64 (n : Int))] (by kernel_rfl) (by kernel_rfl) ?_
  refine WO.one (SQ.F 5 (by kernel_rfl)) 19 (.bool (decide (((n : Int) : Int) ≥ (50 : Int)))) (by kernel_rfl) ?_
  refine WO.topPT (((n : Int) : Int) ≥ (50 : Int)) (by omega) ?_
  refine WO.run 1 6 [(13, .bool true)] (by kernel_rfl) (by kernel_rfl) ?_
  refine WO.done (by kernel_rfl) ?_
  refine WQ.keep [0, 1, 2, 6, 9, 13] (e' := [(0, .pointer (some ⟨g, 0, none⟩)), (1, .int .i64 a), (2, .int .i64 x), (6, .nilIface), (9, .bool false), (13, .bool true)]) (by kernel_rfl) ?_
  refine WQ.thenN ?_
  refine WE.condT (by kernel_rfl) ?_
  refine WE.seq ?_
  -- R4 timer.go:33
  refine WE.region ?_
  refine WO.run 2 0 [(6, .iface 39 (.int .i64 6)), (20, .iface 39 (.int .i64 6))] (by kernel_rfl) (by kernel_rfl) ?_
  refine WO.done (by kernel_rfl) ?_
  refine WQ.keep [0, 1, 2, 6, 9, 13] (e' := [(0, .pointer (some ⟨g, 0, none⟩)), (1, .int .i64 a), (2, .int .i64 x), (6, .iface 39 (.int .i64 6)), (9, .bool false), (13, .bool true)]) (by kernel_rfl) ?_
  refine WQ.thenN ?_
  refine WE.ret ?_
  refine WQ.blkR ?_
  refine WQ.thenR ?_
  refine WQ.ret (v := .iface 39 (.int .i64 6)) (by kernel_rfl) ?_
  exact ⟨rfl, HA⟩

set_option maxRecDepth 100000 in
set_option maxHeartbeats 1000000 in
theorem set_nil (g : Nat) (t a x : Int) (w : World) (hB : Blk w g #[.slice none 0 0, .int .i64 t] 66) (ha : 0 ≤ a) (ht : 0 ≤ t) (ht2 : t ≤ 1000000) :
    Calls Try.prog 14 #[.pointer (some ⟨g, 0, none⟩), .int .i64 a, .int .i64 x] w fun e w' => e = .returned .nilIface ∧ ∃ b' cap', Blk w' g #[.slice (some ⟨b', 0, none⟩) 1 cap', .int .i64 (t + 1)] 66 ∧ RowB w' b' 68 3 cap' ((setQ [] ⟨a, x, t + 1⟩).map cE) ∧ Fr [g] w w' ∧ b' ≠ g ∧ (b' ∈ [g] ∨ w.heap.size ≤ b') := by
  have HB := hB
  have HA := Fr.refl [g] w
  refine enter (N := 99) Try.func14 (c := _) rfl (by kernel_rfl) (by kernel_rfl) (e := [(0, .pointer (some ⟨g, 0, none⟩)), (1, .int .i64 a), (2, .int .i64 x)]) (by kernel_rfl) ?_
  refine WE.seq ?_
  -- R0 timer.go:28
  refine WE.region ?_
  refine WO.run 1 0 [(6, .nilIface)] (by kernel_rfl) (by kernel_rfl) ?_
  refine WO.done (by kernel_rfl) ?_
  refine WQ.keep [0, 1, 2, 6] (e' := [(0, .pointer (some ⟨g, 0, none⟩)), (1, .int .i64 a), (2, .int .i64 x), (6, .nilIface)]) (by kernel_rfl) ?_
  refine WQ.thenN ?_
  refine WE.seq ?_
  refine WE.block ?_
  refine WE.seq ?_
  -- R1 timer.go:30
  refine WE.region ?_
  refine WO.run 1 0 [(10, .int .i64 a)] (by kernel_rfl) (by kernel_rfl) ?_
  refine WO.one (SQ.F 1 (by kernel_rfl)) 11 (.bool (decide ((a : Int) < 0))) (by kernel_rfl) ?_
  refine WO.topPF ((a : Int) < 0) (by omega) ?_
  refine WO.run 1 2 [(9, .bool false)] (by kernel_rfl) (by kernel_rfl) ?_
  refine WO.done (by kernel_rfl) ?_
  refine WQ.keep [0, 1, 2, 6, 9] (e' := [(0, .pointer (some ⟨g, 0, none⟩)), (1, .int .i64 a), (2, .int .i64 x), (6, .nilIface), (9, .bool false)]) (by kernel_rfl) ?_
  refine WQ.thenN ?_
  refine WE.condF (by kernel_rfl) ?_
  refine WE.seq ?_
  -- R3 timer.go:32
  refine WE.region ?_
  refine WO.run 3 0 [(16, .pointer (some ⟨g, 0, none⟩)), (15, .pointer (some ⟨g, 0, none⟩)), (14, .pointer (some ⟨g, 0, none⟩))] (by kernel_rfl) (by kernel_rfl) ?_
  refine WO.ld (SQ.S 3 (by kernel_rfl)) 17 (.slice none 0 0) (by kernel_rfl) (same (HB.at 0 (by kernel_rfl))) ?_
  refine WO.run 3 4 [(13, .bool false), (19, .bool false), (18, .int .i64 0)] (by kernel_rfl) (by kernel_rfl) ?_
  refine WO.done (by kernel_rfl) ?_
  refine WQ.keep [0, 1, 2, 6, 9, 13] (e' := [(0, .pointer (some ⟨g, 0, none⟩)), (1, .int .i64 a), (2, .int .i64 x), (6, .nilIface), (9, .bool false), (13, .bool false)]) (by kernel_rfl) ?_
  refine WQ.thenN ?_
  refine WE.condF (by kernel_rfl) ?_
  refine WE.skip ?_
  refine WQ.blkN ?_
  refine WQ.thenN ?_
  refine WE.seq ?_
  -- R5 timer.go:35
  refine WE.region ?_
  refine WO.run 3 0 [(23, .pointer (some ⟨g, 1, none⟩)), (22, .pointer (some ⟨g, 0, none⟩)), (21, .pointer (some ⟨g, 0, none⟩))] (by kernel_rfl) (by kernel_rfl) ?_
  refine WO.ld (SQ.S 3 (by kernel_rfl)) 24 (.int .i64 t) (by kernel_rfl) (same (HB.at 1 (by kernel_rfl))) ?_
  refine WO.one (SQ.F 4 (by kernel_rfl)) 25 (.int .i64 (IntKind.i64.wrap (t + 1))) (by kernel_rfl) ?_
  refine WO.top (v' := .int .i64 (t + 1)) (wrap_i64 (by omega) (by omega)) ?_
  refine WO.run 2 5 [(27, .pointer (some ⟨g, 1, none⟩)), (26, .pointer (some ⟨g, 0, none⟩))] (by kernel_rfl) (by kernel_rfl) ?_
  refine WO.st (SQ.E 7 (by kernel_rfl)) g 1 [.int .i64 (t + 1)] #[.slice none 0 0, .int .i64 (t + 1)] (by kernel_rfl) HB (by kernel_rfl) (by kernel_rfl) (fun _ _ => trivial) ?_
  intro w1 HB3 F2 _
  have HA := Fr.step HA F2 (inSL (by simp) inS0)
  refine WO.done (by kernel_rfl) ?_
  refine WQ.keep [0, 1, 2, 6, 9, 13] (e' := [(0, .pointer (some ⟨g, 0, none⟩)), (1, .int .i64 a), (2, .int .i64 x), (6, .nilIface), (9, .bool false), (13, .bool false)]) (by kernel_rfl) ?_
  refine WQ.thenN ?_
  refine WE.seq ?_
  have hz4 : (World.heap w1).size ≤ (World.heap w1).size := Nat.le_refl _
  have ltz_g := HB3.lt
  -- R6* timer.go:36
  refine WE.draw [.free, .free, .free, .free, .still, .free, .free, .free, .free, .free, .free, .still, .free, .effR, .eff, .free, .free, .eff] (FrB (World.heap w1).size) (frBR _) (by kernel_rfl) 18 (Array.replicate 18 false) (by kernel_rfl) rfl ?_
  intro w5 F6 _
  have HB3 := Blk.keep HB3 F6 (nin0 _)
  have hz4 := Nat.le_trans hz4 F6.size
  have HA := Fr.step0 HA F6
  refine WO.one (SA.F (frBR _) (frBT _) _ 0 _ (by kernel_rfl)) 28 (.pointer (some ⟨g, 0, none⟩)) (by kernel_rfl) ?_
  refine WO.one (SA.F (frBR _) (frBT _) _ 1 _ (by kernel_rfl)) 29 (.pointer (some ⟨g, 0, none⟩)) (by kernel_rfl) ?_
  refine WO.one (SA.F (frBR _) (frBT _) _ 2 _ (by kernel_rfl)) 30 (.pointer (some ⟨g, 0, none⟩)) (by kernel_rfl) ?_
  refine WO.one (SA.F (frBR _) (frBT _) _ 3 _ (by kernel_rfl)) 31 (.pointer (some ⟨g, 0, none⟩)) (by kernel_rfl) ?_
  refine WO.ld (SA.S (frBR _) (frBT _) _ 4 _ (by kernel_rfl)) 32 (.slice none 0 0) (by kernel_rfl) (fun _ k => (HB3.keepB k ltz_g).at 0 (by kernel_rfl)) ?_
  refine WO.one (SA.F (frBR _) (frBT _) _ 5 _ (by kernel_rfl)) 33 (.int .i64 a) (by kernel_rfl) ?_
  refine WO.one (SA.F (frBR _) (frBT _) _ 6 _ (by kernel_rfl)) 34 (.int .i64 x) (by kernel_rfl) ?_
  refine WO.one (SA.F (frBR _) (frBT _) _ 7 _ (by kernel_rfl)) 35 (.agg #[.int .i64 a, .int .i64 x]) (by kernel_rfl) ?_
  refine WO.one (SA.F (frBR _) (frBT _) _ 8 _ (by kernel_rfl)) 36 (.pointer (some ⟨g, 0, none⟩)) (by kernel_rfl) ?_
  refine WO.one (SA.F (frBR _) (frBT _) _ 9 _ (by kernel_rfl)) 37 (.pointer (some ⟨g, 0, none⟩)) (by kernel_rfl) ?_
  refine WO.one (SA.F (frBR _) (frBT _) _ 10 _ (by kernel_rfl)) 38 (.pointer (some ⟨g, 1, none⟩)) (by kernel_rfl) ?_
  refine WO.ld (SA.S (frBR _) (frBT _) _ 11 _ (by kernel_rfl)) 39 (.int .i64 (t + 1)) (by kernel_rfl) (fun _ k => (HB3.keepB k ltz_g).at 1 (by kernel_rfl)) ?_
  refine WO.one (SA.F (frBR _) (frBT _) _ 12 _ (by kernel_rfl)) 40 (.agg #[.int .i64 a, .int .i64 x, .int .i64 (t + 1)]) (by kernel_rfl) ?_
  refine WO.bx (SA.ER _ 13 _ (by kernel_rfl) rfl) 41 #[.int .i64 a, .int .i64 x, .int .i64 (t + 1)] 68 (fun g => .slice (some ⟨g, 0, none⟩) 1 1) (by kernel_rfl) (frB_of hz4 (by simp)) ?_
  intro g7 w8 HB10 F9 le11 _
  have ne_g_g7 : g ≠ g7 := Nat.ne_of_lt (Nat.lt_of_lt_of_le HB3.lt le11)
  have ge_HA_g7 := Nat.le_trans HA.size le11
  have gz_hz4_g7 := Nat.le_trans hz4 le11
  have HB3 := Blk.keep HB3 F9 (nin0 _)
  have hz4 := Nat.le_trans hz4 F9.size
  have HA := Fr.step0 HA F9
  refine WO.appNil (SA.E _ 14 _ (by kernel_rfl) rfl) 42 (m := 1) (ys := List.map cE ([(⟨a, x, t + 1⟩ : Ent)])) et_e (by rw [List.length_map] <;> first | rfl | omega) (by omega) (RowB.src (RowB.of_blk (n := 1) HB10 (List.map cE [(⟨a, x, t + 1⟩ : Ent)]) rfl rfl (cE_len _) (cE_one _) (by omega))) (cE_len _) (cE_one _) (by kernel_rfl) (by omega) (by omega) (fun _ _ => trivial) ?_
  intro b12 cap13 w14 HR15 F16 le17 _
  have ne_g_b12 : g ≠ b12 := Nat.ne_of_lt (Nat.lt_of_lt_of_le HB3.lt le17)
  have ne_g7_b12 : g7 ≠ b12 := Nat.ne_of_lt (Nat.lt_of_lt_of_le HB10.lt le17)
  have ge_HA_b12 := Nat.le_trans HA.size le17
  have gz_hz4_b12 := Nat.le_trans hz4 le17
  have HB3 := Blk.keep HB3 F16 (nin0 _)
  have HB10 := Blk.keep HB10 F16 (nin0 _)
  have hz4 := Nat.le_trans hz4 F16.size
  have HA := Fr.step0 HA F16
  refine WO.one (SA.F (frBR _) (frBT _) _ 15 _ (by kernel_rfl)) 43 (.pointer (some ⟨g, 0, none⟩)) (by kernel_rfl) ?_
  refine WO.one (SA.F (frBR _) (frBT _) _ 16 _ (by kernel_rfl)) 44 (.pointer (some ⟨g, 0, none⟩)) (by kernel_rfl) ?_
  refine WO.st (SA.E _ 17 _ (by kernel_rfl) rfl) g 0 [.slice (some ⟨b12, 0, none⟩) 1 cap13] #[.slice (some ⟨b12, 0, none⟩) 1 cap13, .int .i64 (t + 1)] (by kernel_rfl) HB3 (by kernel_rfl) (by kernel_rfl) (fun _ _ => trivial) ?_
  intro w18 HB20 F19 _
  have HB10 := Blk.keep HB10 F19 (ninC (Ne.symm ne_g_g7) (nin0 _))
  have HR15 := RowB.keep HR15 F19 (ninC (Ne.symm ne_g_b12) (nin0 _))
  have hz4 := Nat.le_trans hz4 F19.size
  have HA := Fr.step HA F19 (inSL (by simp) inS0)
  refine WO.doneA (by kernel_rfl) ?_
  refine WQ.keep [0, 1, 2, 6, 9, 13] (e' := [(0, .pointer (some ⟨g, 0, none⟩)), (1, .int .i64 a), (2, .int .i64 x), (6, .nilIface), (9, .bool false), (13, .bool false)]) (by kernel_rfl) ?_
  refine WQ.thenN ?_
  refine WE.seq ?_
  refine WE.seq ?_
  -- R7 timer.go:37
  refine WE.region ?_
  refine WO.run 3 0 [(47, .pointer (some ⟨g, 0, none⟩)), (46, .pointer (some ⟨g, 0, none⟩)), (45, .pointer (some ⟨g, 0, none⟩))] (by kernel_rfl) (by kernel_rfl) ?_
  refine WO.ld (SQ.S 3 (by kernel_rfl)) 48 (.slice (some ⟨b12, 0, none⟩) 1 cap13) (by kernel_rfl) (same (HB20.at 0 (by kernel_rfl))) ?_
  refine WO.run 3 4 [(7, .int .i64 0), (50, .int .i64 0), (49, .int .i64 1)] (by kernel_rfl) (by kernel_rfl) ?_
  refine WO.done (by kernel_rfl) ?_
  refine WQ.keep [0, 1, 2, 6, 7, 9, 13] (e' := [(0, .pointer (some ⟨g, 0, none⟩)), (1, .int .i64 a), (2, .int .i64 x), (6, .nilIface), (7, .int .i64 0), (9, .bool false), (13, .bool false)]) (by kernel_rfl) ?_
  refine WQ.thenN ?_
  refine WE.block ?_
  have hq0 := (show List.length ([(⟨a, x, t + 1⟩ : Ent)]) = 1 by first | rfl | simp | omega)
  skip
  refine WE.loop (α := Nat × List Ent) (E := fun ⟨i, qc⟩ => [(0, .pointer (some ⟨g, 0, none⟩)), (1, .int .i64 a), (2, .int .i64 x), (6, .nilIface), (7, .int .i64 (i : Int)), (9, .bool false), (13, .bool false)]) (I := fun ⟨i, qc⟩ wr => qc.length = 0 + 1 ∧ i ≤ 0 ∧ up i qc i = up 0 ([(⟨a, x, t + 1⟩ : Ent)]) 0 ∧ Blk wr g #[.slice (some ⟨b12, 0, none⟩) 1 cap13, .int .i64 (t + 1)] 66 ∧ RowB wr b12 68 3 cap13 (qc.map cE) ∧ Fr [g] w wr) (m := fun ⟨i, qc⟩ => i) (0, [(⟨a, x, t + 1⟩ : Ent)]) [0, 1, 2, 6, 7, 9, 13] (by kernel_rfl) ?_ ?_
  · exact ⟨by first | exact hq0 | (have := hq0; omega) | rfl, Nat.le_refl _, rfl, HB20, HR15, HA⟩
  rintro ⟨i, qc⟩ wr ⟨hql, hin, hup, HB, HR, HA⟩
  dsimp only at hql hin hup HR ⊢
  refine WE.seq ?_
  refine WE.seq ?_
  -- R8 timer.go:37
  refine WE.region ?_
  refine WO.run 1 0 [(51, .int .i64 (i : Int))] (by kernel_rfl) (by kernel_rfl) ?_
  refine WO.one (SQ.F 1 (by kernel_rfl)) 52 (.bool (decide (((i : Int) : Int) > (0 : Int)))) (by kernel_rfl) ?_
  refine WO.topP (((i : Int) : Int) > (0 : Int)) ?_ ?_
  · intro h21
    refine WO.done (by kernel_rfl) ?_
    refine WQ.keep [0, 1, 2, 6, 7, 9, 13, 52] (e' := [(0, .pointer (some ⟨g, 0, none⟩)), (1, .int .i64 a), (2, .int .i64 x), (6, .nilIface), (7, .int .i64 (i : Int)), (9, .bool false), (13, .bool false), (52, .bool true)]) (by kernel_rfl) ?_
    refine WQ.thenN ?_
    refine WE.condT (by kernel_rfl) ?_
    refine WE.skip ?_
    refine WQ.thenN ?_
    refine WE.block ?_
    refine WE.seq ?_
    -- R9 timer.go:38
    refine WE.region ?_
    refine WO.run 1 0 [(53, .int .i64 (i : Int))] (by kernel_rfl) (by kernel_rfl) ?_
    refine WO.one (SQ.F 1 (by kernel_rfl)) 54 (.int .i64 (IntKind.i64.wrap ((i : Int) - 1))) (by kernel_rfl) ?_
    refine WO.top (v' := .int .i64 ((i : Int) - 1)) (wrap_i64 (by omega) (by omega)) ?_
    refine WO.one (SQ.F 2 (by kernel_rfl)) 55 (.int .i64 (IntKind.i64.wrap (((i : Int) - 1).tdiv 2))) (by kernel_rfl) ?_
    refine WO.top (v' := .int .i64 (((i - 1) / 2 : Nat) : Int)) (half_i64 i (by omega) (by omega)) ?_
    refine WO.run 1 3 [(8, .int .i64 (((i - 1) / 2 : Nat) : Int))] (by kernel_rfl) (by kernel_rfl) ?_
    refine WO.done (by kernel_rfl) ?_
    refine WQ.keep [0, 1, 2, 6, 7, 8, 9, 13, 52] (e' := [(0, .pointer (some ⟨g, 0, none⟩)), (1, .int .i64 a), (2, .int .i64 x), (6, .nilIface), (7, .int .i64 (i : Int)), (8, .int .i64 (((i - 1) / 2 : Nat) : Int)), (9, .bool false), (13, .bool false), (52, .bool true)]) (by kernel_rfl) ?_
    refine WQ.thenN ?_
    refine WE.seq ?_
    refine WE.seq ?_
    -- R10* timer.go:39
    refine WE.draw [.free, .free, .free, .still, .free, .free, .still, .free, .free, .free, .still, .free, .free, .still, .eff, .free] Same sameR (by kernel_rfl) 16 (Array.replicate 16 false) (by kernel_rfl) rfl ?_
    intro w22 F23 _
    have HB := Blk.keep HB F23 (nin0 _)
    have HR := RowB.keep HR F23 (nin0 _)
    have HA := Fr.step0 HA F23
    refine WO.one (SA.F sameR sameT _ 0 _ (by kernel_rfl)) 56 (.pointer (some ⟨g, 0, none⟩)) (by kernel_rfl) ?_
    refine WO.one (SA.F sameR sameT _ 1 _ (by kernel_rfl)) 57 (.pointer (some ⟨g, 0, none⟩)) (by kernel_rfl) ?_
    refine WO.one (SA.F sameR sameT _ 2 _ (by kernel_rfl)) 58 (.pointer (some ⟨g, 0, none⟩)) (by kernel_rfl) ?_
    refine WO.ld (SA.S sameR sameT _ 3 _ (by kernel_rfl)) 59 (.slice (some ⟨b12, 0, none⟩) 1 cap13) (by kernel_rfl) (same (HB.at 0 (by kernel_rfl))) ?_
    refine WO.one (SA.F sameR sameT _ 4 _ (by kernel_rfl)) 60 (.int .i64 (i : Int)) (by kernel_rfl) ?_
    refine WO.ixB (SA.F sameR sameT _ 5 _ (by kernel_rfl)) 61 (i * 3) b12 0 1 3 (i : Int) (by kernel_rfl) (by omega) (by omega) (by omega) ?_
    refine WO.ldR (SA.S sameR sameT _ 6 _ (by kernel_rfl)) 62 [.int .i64 ((at0 qc i).a), .int .i64 ((at0 qc i).b), .int .i64 ((at0 qc i).t)] b12 i 3 (i * 3) (same HR) (by rw [List.length_map]; have := hql; omega) (map_at qc i (by have := hql; omega)) rfl (by omega) (by kernel_rfl) (by kernel_rfl) ?_
    refine WO.one (SA.F sameR sameT _ 7 _ (by kernel_rfl)) 63 (.pointer (some ⟨g, 0, none⟩)) (by kernel_rfl) ?_
    refine WO.one (SA.F sameR sameT _ 8 _ (by kernel_rfl)) 64 (.pointer (some ⟨g, 0, none⟩)) (by kernel_rfl) ?_
    refine WO.one (SA.F sameR sameT _ 9 _ (by kernel_rfl)) 65 (.pointer (some ⟨g, 0, none⟩)) (by kernel_rfl) ?_
    refine WO.ld (SA.S sameR sameT _ 10 _ (by kernel_rfl)) 66 (.slice (some ⟨b12, 0, none⟩) 1 cap13) (by kernel_rfl) (same (HB.at 0 (by kernel_rfl))) ?_
    refine WO.one (SA.F sameR sameT _ 11 _ (by kernel_rfl)) 67 (.int .i64 (((i - 1) / 2 : Nat) : Int)) (by kernel_rfl) ?_
    refine WO.ixB (SA.F sameR sameT _ 12 _ (by kernel_rfl)) 68 (((i - 1) / 2) * 3) b12 0 1 3 (((i - 1) / 2 : Nat) : Int) (by kernel_rfl) (by omega) (by omega) (by omega) ?_
    refine WO.ldR (SA.S sameR sameT _ 13 _ (by kernel_rfl)) 69 [.int .i64 ((at0 qc ((i - 1) / 2)).a), .int .i64 ((at0 qc ((i - 1) / 2)).b), .int .i64 ((at0 qc ((i - 1) / 2)).t)] b12 ((i - 1) / 2) 3 (((i - 1) / 2) * 3) (same HR) (by rw [List.length_map]; have := hql; omega) (map_at qc ((i - 1) / 2) (by have := hql; omega)) rfl (by omega) (by kernel_rfl) (by kernel_rfl) ?_
    refine WO.call (SA.E _ 14 _ (by kernel_rfl) rfl) 70 (by kernel_rfl) (ahead_any ((at0 qc i).a) ((at0 qc i).b) ((at0 qc i).t) ((at0 qc ((i - 1) / 2)).a) ((at0 qc ((i - 1) / 2)).b) ((at0 qc ((i - 1) / 2)).t) _) ?_
    rintro _ w24 ⟨rfl, F25⟩
    refine ⟨_, rfl, trivial, ?_⟩
    have HB := Blk.keep HB F25 (nin0 _)
    have HR := RowB.keep HR F25 (nin0 _)
    have HA := Fr.step0 HA F25
    refine WO.topB (aheadB ((at0 qc i).a) ((at0 qc i).t) ((at0 qc ((i - 1) / 2)).a) ((at0 qc ((i - 1) / 2)).t)) ?_ ?_
    · intro h26
      refine WO.one (SA.F sameR sameT _ 15 _ (by kernel_rfl)) 71 (.bool false) (by kernel_rfl) ?_
      refine WO.doneA (by kernel_rfl) ?_
      refine WQ.keep [0, 1, 2, 6, 7, 8, 9, 13, 52, 71] (e' := [(0, .pointer (some ⟨g, 0, none⟩)), (1, .int .i64 a), (2, .int .i64 x), (6, .nilIface), (7, .int .i64 (i : Int)), (8, .int .i64 (((i - 1) / 2 : Nat) : Int)), (9, .bool false), (13, .bool false), (52, .bool true), (71, .bool false)]) (by kernel_rfl) ?_
      refine WQ.thenN ?_
      refine WE.condF (by kernel_rfl) ?_
      refine WE.skip ?_
      refine WQ.thenN ?_
      refine WE.seq ?_
      -- R11* timer.go:42
      refine WE.draw [.free, .free, .free, .still, .free, .free, .free, .free, .still, .free, .free, .free, .free, .still, .free, .free, .still, .free, .free, .free, .still, .free, .free, .still, .free, .eff, .free, .eff] Same sameR (by kernel_rfl) 28 (Array.replicate 28 false) (by kernel_rfl) rfl ?_
      intro w27 F28 _
      have HB := Blk.keep HB F28 (nin0 _)
      have HR := RowB.keep HR F28 (nin0 _)
      have HA := Fr.step0 HA F28
      refine WO.one (SA.F sameR sameT _ 0 _ (by kernel_rfl)) 72 (.pointer (some ⟨g, 0, none⟩)) (by kernel_rfl) ?_
      refine WO.one (SA.F sameR sameT _ 1 _ (by kernel_rfl)) 73 (.pointer (some ⟨g, 0, none⟩)) (by kernel_rfl) ?_
      refine WO.one (SA.F sameR sameT _ 2 _ (by kernel_rfl)) 74 (.pointer (some ⟨g, 0, none⟩)) (by kernel_rfl) ?_
      refine WO.ld (SA.S sameR sameT _ 3 _ (by kernel_rfl)) 75 (.slice (some ⟨b12, 0, none⟩) 1 cap13) (by kernel_rfl) (same (HB.at 0 (by kernel_rfl))) ?_
      refine WO.one (SA.F sameR sameT _ 4 _ (by kernel_rfl)) 76 (.int .i64 (i : Int)) (by kernel_rfl) ?_
      refine WO.one (SA.F sameR sameT _ 5 _ (by kernel_rfl)) 77 (.pointer (some ⟨g, 0, none⟩)) (by kernel_rfl) ?_
      refine WO.one (SA.F sameR sameT _ 6 _ (by kernel_rfl)) 78 (.pointer (some ⟨g, 0, none⟩)) (by kernel_rfl) ?_
      refine WO.one (SA.F sameR sameT _ 7 _ (by kernel_rfl)) 79 (.pointer (some ⟨g, 0, none⟩)) (by kernel_rfl) ?_
      refine WO.ld (SA.S sameR sameT _ 8 _ (by kernel_rfl)) 80 (.slice (some ⟨b12, 0, none⟩) 1 cap13) (by kernel_rfl) (same (HB.at 0 (by kernel_rfl))) ?_
      refine WO.one (SA.F sameR sameT _ 9 _ (by kernel_rfl)) 81 (.int .i64 (((i - 1) / 2 : Nat) : Int)) (by kernel_rfl) ?_
      refine WO.one (SA.F sameR sameT _ 10 _ (by kernel_rfl)) 82 (.pointer (some ⟨g, 0, none⟩)) (by kernel_rfl) ?_
      refine WO.one (SA.F sameR sameT _ 11 _ (by kernel_rfl)) 83 (.pointer (some ⟨g, 0, none⟩)) (by kernel_rfl) ?_
      refine WO.one (SA.F sameR sameT _ 12 _ (by kernel_rfl)) 84 (.pointer (some ⟨g, 0, none⟩)) (by kernel_rfl) ?_
      refine WO.ld (SA.S sameR sameT _ 13 _ (by kernel_rfl)) 85 (.slice (some ⟨b12, 0, none⟩) 1 cap13) (by kernel_rfl) (same (HB.at 0 (by kernel_rfl))) ?_
      refine WO.one (SA.F sameR sameT _ 14 _ (by kernel_rfl)) 86 (.int .i64 (((i - 1) / 2 : Nat) : Int)) (by kernel_rfl) ?_
      refine WO.ixB (SA.F sameR sameT _ 15 _ (by kernel_rfl)) 87 (((i - 1) / 2) * 3) b12 0 1 3 (((i - 1) / 2 : Nat) : Int) (by kernel_rfl) (by omega) (by omega) (by omega) ?_
      refine WO.ldR (SA.S sameR sameT _ 16 _ (by kernel_rfl)) 88 [.int .i64 ((at0 qc ((i - 1) / 2)).a), .int .i64 ((at0 qc ((i - 1) / 2)).b), .int .i64 ((at0 qc ((i - 1) / 2)).t)] b12 ((i - 1) / 2) 3 (((i - 1) / 2) * 3) (same HR) (by rw [List.length_map]; have := hql; omega) (map_at qc ((i - 1) / 2) (by have := hql; omega)) rfl (by omega) (by kernel_rfl) (by kernel_rfl) ?_
      refine WO.one (SA.F sameR sameT _ 17 _ (by kernel_rfl)) 89 (.pointer (some ⟨g, 0, none⟩)) (by kernel_rfl) ?_
      refine WO.one (SA.F sameR sameT _ 18 _ (by kernel_rfl)) 90 (.pointer (some ⟨g, 0, none⟩)) (by kernel_rfl) ?_
      refine WO.one (SA.F sameR sameT _ 19 _ (by kernel_rfl)) 91 (.pointer (some ⟨g, 0, none⟩)) (by kernel_rfl) ?_
      refine WO.ld (SA.S sameR sameT _ 20 _ (by kernel_rfl)) 92 (.slice (some ⟨b12, 0, none⟩) 1 cap13) (by kernel_rfl) (same (HB.at 0 (by kernel_rfl))) ?_
      refine WO.one (SA.F sameR sameT _ 21 _ (by kernel_rfl)) 93 (.int .i64 (i : Int)) (by kernel_rfl) ?_
      refine WO.ixB (SA.F sameR sameT _ 22 _ (by kernel_rfl)) 94 (i * 3) b12 0 1 3 (i : Int) (by kernel_rfl) (by omega) (by omega) (by omega) ?_
      refine WO.ldR (SA.S sameR sameT _ 23 _ (by kernel_rfl)) 95 [.int .i64 ((at0 qc i).a), .int .i64 ((at0 qc i).b), .int .i64 ((at0 qc i).t)] b12 i 3 (i * 3) (same HR) (by rw [List.length_map]; have := hql; omega) (map_at qc i (by have := hql; omega)) rfl (by omega) (by kernel_rfl) (by kernel_rfl) ?_
      refine WO.ixB (SA.F sameR sameT _ 24 _ (by kernel_rfl)) 96 (i * 3) b12 0 1 3 (i : Int) (by kernel_rfl) (by omega) (by omega) (by omega) ?_
      refine WO.stR (SA.E _ 25 _ (by kernel_rfl) rfl) b12 i (i * 3) [.int .i64 ((at0 qc ((i - 1) / 2)).a), .int .i64 ((at0 qc ((i - 1) / 2)).b), .int .i64 ((at0 qc ((i - 1) / 2)).t)] HR (by rw [List.length_map]; have := hql; omega) rfl (by omega) rfl (by kernel_rfl) (fun _ _ => trivial) ?_
      intro w29 HR31 F30 _
      have HB := Blk.keep HB F30 (ninC ne_g_b12 (nin0 _))
      have HA := Fr.step HA F30 (inSR ge_HA_b12 inS0)
      have HR31 : RowB w29 b12 68 3 cap13 ((qc.set i (at0 qc ((i - 1) / 2))).map cE) := by rw [List.map_set]; exact HR31
      refine WO.ixB (SA.F sameR sameT _ 26 _ (by kernel_rfl)) 97 (((i - 1) / 2) * 3) b12 0 1 3 (((i - 1) / 2 : Nat) : Int) (by kernel_rfl) (by omega) (by omega) (by omega) ?_
      refine WO.stR (SA.E _ 27 _ (by kernel_rfl) rfl) b12 ((i - 1) / 2) (((i - 1) / 2) * 3) [.int .i64 ((at0 qc i).a), .int .i64 ((at0 qc i).b), .int .i64 ((at0 qc i).t)] HR31 (by rw [List.length_map]; have := (show (qc.set i (at0 qc ((i - 1) / 2))).length = qc.length from List.length_set).trans (hql); omega) rfl (by omega) rfl (by kernel_rfl) (fun _ _ => trivial) ?_
      intro w32 HR34 F33 _
      have HB := Blk.keep HB F33 (ninC ne_g_b12 (nin0 _))
      have HA := Fr.step HA F33 (inSR ge_HA_b12 inS0)
      have HR34 : RowB w32 b12 68 3 cap13 (((qc.set i (at0 qc ((i - 1) / 2))).set ((i - 1) / 2) (at0 qc i)).map cE) := by rw [List.map_set]; exact HR34
      refine WO.doneA (by kernel_rfl) ?_
      refine WQ.keep [0, 1, 2, 6, 7, 8, 9, 13, 52, 71] (e' := [(0, .pointer (some ⟨g, 0, none⟩)), (1, .int .i64 a), (2, .int .i64 x), (6, .nilIface), (7, .int .i64 (i : Int)), (8, .int .i64 (((i - 1) / 2 : Nat) : Int)), (9, .bool false), (13, .bool false), (52, .bool true), (71, .bool false)]) (by kernel_rfl) ?_
      refine WQ.thenN ?_
      -- R12 timer.go:43
      refine WE.region ?_
      refine WO.run 2 0 [(7, .int .i64 (((i - 1) / 2 : Nat) : Int)), (98, .int .i64 (((i - 1) / 2 : Nat) : Int))] (by kernel_rfl) (by kernel_rfl) ?_
      refine WO.done (by kernel_rfl) ?_
      refine WQ.keep [0, 1, 2, 6, 7, 8, 9, 13, 52, 71] (e' := [(0, .pointer (some ⟨g, 0, none⟩)), (1, .int .i64 a), (2, .int .i64 x), (6, .nilIface), (7, .int .i64 (((i - 1) / 2 : Nat) : Int)), (8, .int .i64 (((i - 1) / 2 : Nat) : Int)), (9, .bool false), (13, .bool false), (52, .bool true), (71, .bool false)]) (by kernel_rfl) ?_
      refine WQ.blkN ?_
      have hlt : lt (at0 qc i) (at0 qc ((i - 1) / 2)) := by rw [aheadB_lt] at h26; exact of_decide_eq_true h26
      refine WQ.round ?_
      intro a_ ha_
      refine ⟨((i - 1) / 2, swap qc i ((i - 1) / 2)), ?_, ha_.keep [0, 1, 2, 6, 7, 9, 13] (by kernel_rfl), ?_⟩
      · show (i - 1) / 2 < i; omega
      · exact ⟨by show (swap qc i ((i - 1) / 2)).length = _; rw [swap_len]; exact hql, by show (i - 1) / 2 ≤ _; omega, by rw [← hup]; exact (up_step qc i (by omega) hlt).symm, HB, HR34, HA⟩
    · intro h26
      refine WO.one (SA.F sameR sameT _ 15 _ (by kernel_rfl)) 71 (.bool true) (by kernel_rfl) ?_
      refine WO.doneA (by kernel_rfl) ?_
      refine WQ.keep [0, 1, 2, 6, 7, 8, 9, 13, 52, 71] (e' := [(0, .pointer (some ⟨g, 0, none⟩)), (1, .int .i64 a), (2, .int .i64 x), (6, .nilIface), (7, .int .i64 (i : Int)), (8, .int .i64 (((i - 1) / 2 : Nat) : Int)), (9, .bool false), (13, .bool false), (52, .bool true), (71, .bool true)]) (by kernel_rfl) ?_
      refine WQ.thenN ?_
      refine WE.condT (by kernel_rfl) ?_
      refine WE.exit ?_
      refine WQ.thenE ?_
      refine WQ.blkX (by kernel_rfl) ?_
      refine WQ.thenE ?_
      refine WQ.blkE ?_
      refine WQ.thenN ?_
      refine WE.seq ?_
      -- R13 timer.go:45
      refine WE.region ?_
      refine WO.run 1 0 [(6, .nilIface)] (by kernel_rfl) (by kernel_rfl) ?_
      refine WO.done (by kernel_rfl) ?_
      refine WQ.keep [0, 1, 2, 6, 7, 8, 9, 13, 52, 71] (e' := [(0, .pointer (some ⟨g, 0, none⟩)), (1, .int .i64 a), (2, .int .i64 x), (6, .nilIface), (7, .int .i64 (i : Int)), (8, .int .i64 (((i - 1) / 2 : Nat) : Int)), (9, .bool false), (13, .bool false), (52, .bool true), (71, .bool true)]) (by kernel_rfl) ?_
      refine WQ.thenN ?_
      refine WE.ret ?_
      refine WQ.ret (v := .nilIface) (by kernel_rfl) ?_
      have hfin : qc = up 0 ([(⟨a, x, t + 1⟩ : Ent)]) 0 := by rw [← hup]; exact (up_stop qc i (by rw [aheadB_lt] at h26; exact of_decide_eq_false h26)).symm
      rw [show setQ [] ⟨a, x, t + 1⟩ = up 0 ([(⟨a, x, t + 1⟩ : Ent)]) 0 from by unfold setQ; rfl, ← hfin]
      exact ⟨rfl, _, _, HB, HR, HA, (Ne.symm ne_g_b12), Or.inr ge_HA_b12⟩
  · intro h21
    refine WO.done (by kernel_rfl) ?_
    refine WQ.keep [0, 1, 2, 6, 7, 9, 13, 52] (e' := [(0, .pointer (some ⟨g, 0, none⟩)), (1, .int .i64 a), (2, .int .i64 x), (6, .nilIface), (7, .int .i64 (i : Int)), (9, .bool false), (13, .bool false), (52, .bool false)]) (by kernel_rfl) ?_
    refine WQ.thenN ?_
    refine WE.condF (by kernel_rfl) ?_
    refine WE.exit ?_
    refine WQ.thenE ?_
    refine WQ.thenE ?_
    refine WQ.blkE ?_
    refine WQ.thenN ?_
    refine WE.seq ?_
    -- R13 timer.go:45
    refine WE.region ?_
    refine WO.run 1 0 [(6, .nilIface)] (by kernel_rfl) (by kernel_rfl) ?_
    refine WO.done (by kernel_rfl) ?_
    refine WQ.keep [0, 1, 2, 6, 7, 9, 13, 52] (e' := [(0, .pointer (some ⟨g, 0, none⟩)), (1, .int .i64 a), (2, .int .i64 x), (6, .nilIface), (7, .int .i64 (i : Int)), (9, .bool false), (13, .bool false), (52, .bool false)]) (by kernel_rfl) ?_
    refine WQ.thenN ?_
    refine WE.ret ?_
    refine WQ.ret (v := .nilIface) (by kernel_rfl) ?_
    have hfin : qc = up 0 ([(⟨a, x, t + 1⟩ : Ent)]) 0 := by obtain rfl : i = 0 := (by omega); exact hup
    rw [show setQ [] ⟨a, x, t + 1⟩ = up 0 ([(⟨a, x, t + 1⟩ : Ent)]) 0 from by unfold setQ; rfl, ← hfin]
    exact ⟨rfl, _, _, HB, HR, HA, (Ne.symm ne_g_b12), Or.inr ge_HA_b12⟩

set_option maxRecDepth 100000 in
set_option maxHeartbeats 1000000 in
theorem set_row (g b cap n : Nat) (q : List Ent) (t a x : Int) (w : World) (hB : Blk w g #[.slice (some ⟨b, 0, none⟩) n cap, .int .i64 t] 66) (hR : RowB w b 68 3 cap (q.map cE)) (hbg : b ≠ g) (hn : q.length = n) (h50 : n < 50) (ha : 0 ≤ a) (ht : 0 ≤ t) (ht2 : t ≤ 1000000) :
    Calls Try.prog 14 #[.pointer (some ⟨g, 0, none⟩), .int .i64 a, .int .i64 x] w fun e w' => e = .returned .nilIface ∧ ∃ b' cap', Blk w' g #[.slice (some ⟨b', 0, none⟩) (n + 1) cap', .int .i64 (t + 1)] 66 ∧ RowB w' b' 68 3 cap' ((setQ q ⟨a, x, t + 1⟩).map cE) ∧ Fr [g, b] w w' ∧ b' ≠ g ∧ (b' ∈ [g, b] ∨ w.heap.size ≤ b') := by
  have HB := hB
  have HR := hR
  have HA := Fr.refl [g, b] w
  refine enter (N := 99) Try.func14 (c := _) rfl (by kernel_rfl) (by kernel_rfl) (e := [(0, .pointer (some ⟨g, 0, none⟩)), (1, .int .i64 a), (2, .int .i64 x)]) (by kernel_rfl) ?_
  refine WE.seq ?_
  -- R0 timer.go:28
  refine WE.region ?_
  refine WO.run 1 0 [(6, .nilIface)] (by kernel_rfl) (by kernel_rfl) ?_
  refine WO.done (by kernel_rfl) ?_
  refine WQ.keep [0, 1, 2, 6] (e' := [(0, .pointer (some ⟨g, 0, none⟩)), (1, .int .i64 a), (2, .int .i64 x), (6, .nilIface)]) (by kernel_rfl) ?_
  refine WQ.thenN ?_
  refine WE.seq ?_
  refine WE.block ?_
  refine WE.seq ?_
  -- R1 timer.go:30
  refine WE.region ?_
  refine WO.run 1 0 [(10, .int .i64 a)] (by kernel_rfl) (by kernel_rfl) ?_
  refine WO.one (SQ.F 1 (by kernel_rfl)) 11 (.bool (decide ((a : Int) < 0))) (by kernel_rfl) ?_
  refine WO.topPF ((a : Int) < 0) (by omega) ?_
  refine WO.run 1 2 [(9, .bool false)] (by kernel_rfl) (by kernel_rfl) ?_
  refine WO.done (by kernel_rfl) ?_
  refine WQ.keep [0, 1, 2, 6, 9] (e' := [(0, .pointer (some ⟨g, 0, none⟩)), (1, .int .i64 a), (2, .int .i64 x), (6, .nilIface), (9, .bool false)]) (by kernel_rfl) ?_
  refine WQ.thenN ?_
  refine WE.condF (by kernel_rfl) ?_
  refine WE.seq ?_
  -- R3 timer.go:32
  refine WE.region ?_
  refine WO.run 3 0 [(16, .pointer (some ⟨g, 0, none⟩)), (15, .pointer (some ⟨g, 0, none⟩)), (14, .pointer (some ⟨g, 0, none⟩))] (by kernel_rfl) (by kernel_rfl) ?_
  refine WO.ld (SQ.S 3 (by kernel_rfl)) 17 (.slice (some ⟨b, 0, none⟩) n cap) (by kernel_rfl) (same (HB.at 0 (by kernel_rfl))) ?_
  refine WO.run 1 4 [(18, .int .i64 (n : Int))] (by kernel_rfl) (by kernel_rfl) ?_
  refine WO.one (SQ.F 5 (by kernel_rfl)) 19 (.bool (decide (((n : Int) : Int) ≥ (50 : Int)))) (by kernel_rfl) ?_
  refine WO.topPF (((n : Int) : Int) ≥ (50 : Int)) (by omega) ?_
  refine WO.run 1 6 [(13, .bool false)] (by kernel_rfl) (by kernel_rfl) ?_
  refine WO.done (by kernel_rfl) ?_
  refine WQ.keep [0, 1, 2, 6, 9, 13] (e' := [(0, .pointer (some ⟨g, 0, none⟩)), (1, .int .i64 a), (2, .int .i64 x), (6, .nilIface), (9, .bool false), (13, .bool false)]) (by kernel_rfl) ?_
  refine WQ.thenN ?_
  refine WE.condF (by kernel_rfl) ?_
  refine WE.skip ?_
  refine WQ.blkN ?_
  refine WQ.thenN ?_
  refine WE.seq ?_
  -- R5 timer.go:35
  refine WE.region ?_
  refine WO.run 3 0 [(23, .pointer (some ⟨g, 1, none⟩)), (22, .pointer (some ⟨g, 0, none⟩)), (21, .pointer (some ⟨g, 0, none⟩))] (by kernel_rfl) (by kernel_rfl) ?_
  refine WO.ld (SQ.S 3 (by kernel_rfl)) 24 (.int .i64 t) (by kernel_rfl) (same (HB.at 1 (by kernel_rfl))) ?_
  refine WO.one (SQ.F 4 (by kernel_rfl)) 25 (.int .i64 (IntKind.i64.wrap (t + 1))) (by kernel_rfl) ?_
  refine WO.top (v' := .int .i64 (t + 1)) (wrap_i64 (by omega) (by omega)) ?_
  refine WO.run 2 5 [(27, .pointer (some ⟨g, 1, none⟩)), (26, .pointer (some ⟨g, 0, none⟩))] (by kernel_rfl) (by kernel_rfl) ?_
  refine WO.st (SQ.E 7 (by kernel_rfl)) g 1 [.int .i64 (t + 1)] #[.slice (some ⟨b, 0, none⟩) n cap, .int .i64 (t + 1)] (by kernel_rfl) HB (by kernel_rfl) (by kernel_rfl) (fun _ _ => trivial) ?_
  intro w1 HB3 F2 _
  have HR := RowB.keep HR F2 (ninC hbg (nin0 _))
  have HA := Fr.step HA F2 (inSL (by simp) inS0)
  refine WO.done (by kernel_rfl) ?_
  refine WQ.keep [0, 1, 2, 6, 9, 13] (e' := [(0, .pointer (some ⟨g, 0, none⟩)), (1, .int .i64 a), (2, .int .i64 x), (6, .nilIface), (9, .bool false), (13, .bool false)]) (by kernel_rfl) ?_
  refine WQ.thenN ?_
  refine WE.seq ?_
  have hz4 : (World.heap w1).size ≤ (World.heap w1).size := Nat.le_refl _
  have ltz_g := HB3.lt
  have ltz_b := HR.lt
  -- R6* timer.go:36
  refine WE.draw [.free, .free, .free, .free, .still, .free, .free, .free, .free, .free, .free, .still, .free, .effR, .eff, .free, .free, .eff] (FrB (World.heap w1).size) (frBR _) (by kernel_rfl) 18 (Array.replicate 18 false) (by kernel_rfl) rfl ?_
  intro w5 F6 _
  have HB3 := Blk.keep HB3 F6 (nin0 _)
  have HR := RowB.keep HR F6 (nin0 _)
  have hz4 := Nat.le_trans hz4 F6.size
  have HA := Fr.step0 HA F6
  refine WO.one (SA.F (frBR _) (frBT _) _ 0 _ (by kernel_rfl)) 28 (.pointer (some ⟨g, 0, none⟩)) (by kernel_rfl) ?_
  refine WO.one (SA.F (frBR _) (frBT _) _ 1 _ (by kernel_rfl)) 29 (.pointer (some ⟨g, 0, none⟩)) (by kernel_rfl) ?_
  refine WO.one (SA.F (frBR _) (frBT _) _ 2 _ (by kernel_rfl)) 30 (.pointer (some ⟨g, 0, none⟩)) (by kernel_rfl) ?_
  refine WO.one (SA.F (frBR _) (frBT _) _ 3 _ (by kernel_rfl)) 31 (.pointer (some ⟨g, 0, none⟩)) (by kernel_rfl) ?_
  refine WO.ld (SA.S (frBR _) (frBT _) _ 4 _ (by kernel_rfl)) 32 (.slice (some ⟨b, 0, none⟩) n cap) (by kernel_rfl) (fun _ k => (HB3.keepB k ltz_g).at 0 (by kernel_rfl)) ?_
  refine WO.one (SA.F (frBR _) (frBT _) _ 5 _ (by kernel_rfl)) 33 (.int .i64 a) (by kernel_rfl) ?_
  refine WO.one (SA.F (frBR _) (frBT _) _ 6 _ (by kernel_rfl)) 34 (.int .i64 x) (by kernel_rfl) ?_
  refine WO.one (SA.F (frBR _) (frBT _) _ 7 _ (by kernel_rfl)) 35 (.agg #[.int .i64 a, .int .i64 x]) (by kernel_rfl) ?_
  refine WO.one (SA.F (frBR _) (frBT _) _ 8 _ (by kernel_rfl)) 36 (.pointer (some ⟨g, 0, none⟩)) (by kernel_rfl) ?_
  refine WO.one (SA.F (frBR _) (frBT _) _ 9 _ (by kernel_rfl)) 37 (.pointer (some ⟨g, 0, none⟩)) (by kernel_rfl) ?_
  refine WO.one (SA.F (frBR _) (frBT _) _ 10 _ (by kernel_rfl)) 38 (.pointer (some ⟨g, 1, none⟩)) (by kernel_rfl) ?_
  refine WO.ld (SA.S (frBR _) (frBT _) _ 11 _ (by kernel_rfl)) 39 (.int .i64 (t + 1)) (by kernel_rfl) (fun _ k => (HB3.keepB k ltz_g).at 1 (by kernel_rfl)) ?_
  refine WO.one (SA.F (frBR _) (frBT _) _ 12 _ (by kernel_rfl)) 40 (.agg #[.int .i64 a, .int .i64 x, .int .i64 (t + 1)]) (by kernel_rfl) ?_
  refine WO.bx (SA.ER _ 13 _ (by kernel_rfl) rfl) 41 #[.int .i64 a, .int .i64 x, .int .i64 (t + 1)] 68 (fun g => .slice (some ⟨g, 0, none⟩) 1 1) (by kernel_rfl) (frB_of hz4 (by simp)) ?_
  intro g7 w8 HB10 F9 le11 _
  have ne_g_g7 : g ≠ g7 := Nat.ne_of_lt (Nat.lt_of_lt_of_le HB3.lt le11)
  have ne_b_g7 : b ≠ g7 := Nat.ne_of_lt (Nat.lt_of_lt_of_le HR.lt le11)
  have ge_HA_g7 := Nat.le_trans HA.size le11
  have gz_hz4_g7 := Nat.le_trans hz4 le11
  have HB3 := Blk.keep HB3 F9 (nin0 _)
  have HR := RowB.keep HR F9 (nin0 _)
  have hz4 := Nat.le_trans hz4 F9.size
  have HA := Fr.step0 HA F9
  refine WO.appRow (SA.E _ 14 _ (by kernel_rfl) rfl) 42 (m := 1) (ys := List.map cE ([(⟨a, x, t + 1⟩ : Ent)])) et_e HR (by rw [List.length_map, hn]) (by rw [List.length_map] <;> first | rfl | omega) (RowB.src (RowB.of_blk (n := 1) HB10 (List.map cE [(⟨a, x, t + 1⟩ : Ent)]) rfl rfl (cE_len _) (cE_one _) (by omega))) (cE_len _) (cE_one _) (by kernel_rfl) (by omega) (by omega) (fun _ _ => trivial) ?_
  intro b12 cap13 w14 HR15 F16 hb17
  have ne_g_b12 : g ≠ b12 := hb17.elim (fun h => h ▸ (Ne.symm hbg)) (fun h => Nat.ne_of_lt (Nat.lt_of_lt_of_le HB3.lt h))
  have ne_g7_b12 : g7 ≠ b12 := hb17.elim (fun h => h ▸ (Ne.symm ne_b_g7)) (fun h => Nat.ne_of_lt (Nat.lt_of_lt_of_le HB10.lt h))
  have in_HA_b12 : b12 ∈ [g, b] ∨ (World.heap w).size ≤ b12 := hb17.elim (fun h => Or.inl (by rw [h]; simp)) (fun h => Or.inr (Nat.le_trans HA.size h))
  have HB3 := Blk.keep HB3 F16 (ninC (Ne.symm hbg) (nin0 _))
  have HB10 := Blk.keep HB10 F16 (ninC (Ne.symm ne_b_g7) (nin0 _))
  have hz4 := Nat.le_trans hz4 F16.size
  have HA := Fr.step HA F16 (inSL (by simp) inS0)
  have HR15 : RowB w14 b12 68 3 cap13 ((q ++ [(⟨a, x, t + 1⟩ : Ent)]).map cE) := by rw [List.map_append]; exact HR15
  refine WO.one (SA.F (frBR _) (frBT _) _ 15 _ (by kernel_rfl)) 43 (.pointer (some ⟨g, 0, none⟩)) (by kernel_rfl) ?_
  refine WO.one (SA.F (frBR _) (frBT _) _ 16 _ (by kernel_rfl)) 44 (.pointer (some ⟨g, 0, none⟩)) (by kernel_rfl) ?_
  refine WO.st (SA.E _ 17 _ (by kernel_rfl) rfl) g 0 [.slice (some ⟨b12, 0, none⟩) (n + 1) cap13] #[.slice (some ⟨b12, 0, none⟩) (n + 1) cap13, .int .i64 (t + 1)] (by kernel_rfl) HB3 (by kernel_rfl) (by kernel_rfl) (fun _ _ => trivial) ?_
  intro w18 HB20 F19 _
  have HB10 := Blk.keep HB10 F19 (ninC (Ne.symm ne_g_g7) (nin0 _))
  have HR15 := RowB.keep HR15 F19 (ninC (Ne.symm ne_g_b12) (nin0 _))
  have hz4 := Nat.le_trans hz4 F19.size
  have HA := Fr.step HA F19 (inSL (by simp) inS0)
  refine WO.doneA (by kernel_rfl) ?_
  refine WQ.keep [0, 1, 2, 6, 9, 13] (e' := [(0, .pointer (some ⟨g, 0, none⟩)), (1, .int .i64 a), (2, .int .i64 x), (6, .nilIface), (9, .bool false), (13, .bool false)]) (by kernel_rfl) ?_
  refine WQ.thenN ?_
  refine WE.seq ?_
  refine WE.seq ?_
  -- R7 timer.go:37
  refine WE.region ?_
  refine WO.run 3 0 [(47, .pointer (some ⟨g, 0, none⟩)), (46, .pointer (some ⟨g, 0, none⟩)), (45, .pointer (some ⟨g, 0, none⟩))] (by kernel_rfl) (by kernel_rfl) ?_
  refine WO.ld (SQ.S 3 (by kernel_rfl)) 48 (.slice (some ⟨b12, 0, none⟩) (n + 1) cap13) (by kernel_rfl) (same (HB20.at 0 (by kernel_rfl))) ?_
  refine WO.run 1 4 [(49, .int .i64 (n + 1 : Int))] (by kernel_rfl) (by kernel_rfl) ?_
  refine WO.one (SQ.F 5 (by kernel_rfl)) 50 (.int .i64 (IntKind.i64.wrap ((n + 1 : Int) - 1))) (by kernel_rfl) ?_
  refine WO.top (v' := .int .i64 ((n : Nat) : Int)) (wrap_i64 (by omega) (by omega)) ?_
  refine WO.run 1 6 [(7, .int .i64 ((n : Nat) : Int))] (by kernel_rfl) (by kernel_rfl) ?_
  refine WO.done (by kernel_rfl) ?_
  refine WQ.keep [0, 1, 2, 6, 7, 9, 13] (e' := [(0, .pointer (some ⟨g, 0, none⟩)), (1, .int .i64 a), (2, .int .i64 x), (6, .nilIface), (7, .int .i64 ((n : Nat) : Int)), (9, .bool false), (13, .bool false)]) (by kernel_rfl) ?_
  refine WQ.thenN ?_
  refine WE.block ?_
  have hq0 := (show (q ++ [(⟨a, x, t + 1⟩ : Ent)]).length = n + 1 by rw [List.length_append, hn]; first | rfl | (have := hn; simp; omega))
  skip
  refine WE.loop (α := Nat × List Ent) (E := fun ⟨i, qc⟩ => [(0, .pointer (some ⟨g, 0, none⟩)), (1, .int .i64 a), (2, .int .i64 x), (6, .nilIface), (7, .int .i64 (i : Int)), (9, .bool false), (13, .bool false)]) (I := fun ⟨i, qc⟩ wr => qc.length = n + 1 ∧ i ≤ n ∧ up i qc i = up n (q ++ [(⟨a, x, t + 1⟩ : Ent)]) n ∧ Blk wr g #[.slice (some ⟨b12, 0, none⟩) (n + 1) cap13, .int .i64 (t + 1)] 66 ∧ RowB wr b12 68 3 cap13 (qc.map cE) ∧ Fr [g, b] w wr) (m := fun ⟨i, qc⟩ => i) (n, (q ++ [(⟨a, x, t + 1⟩ : Ent)])) [0, 1, 2, 6, 7, 9, 13] (by kernel_rfl) ?_ ?_
  · exact ⟨by first | exact hq0 | (have := hq0; omega) | rfl, Nat.le_refl _, rfl, HB20, HR15, HA⟩
  rintro ⟨i, qc⟩ wr ⟨hql, hin, hup, HB, HR, HA⟩
  dsimp only at hql hin hup HR ⊢
  refine WE.seq ?_
  refine WE.seq ?_
  -- R8 timer.go:37
  refine WE.region ?_
  refine WO.run 1 0 [(51, .int .i64 (i : Int))] (by kernel_rfl) (by kernel_rfl) ?_
  refine WO.one (SQ.F 1 (by kernel_rfl)) 52 (.bool (decide (((i : Int) : Int) > (0 : Int)))) (by kernel_rfl) ?_
  refine WO.topP (((i : Int) : Int) > (0 : Int)) ?_ ?_
  · intro h21
    refine WO.done (by kernel_rfl) ?_
    refine WQ.keep [0, 1, 2, 6, 7, 9, 13, 52] (e' := [(0, .pointer (some ⟨g, 0, none⟩)), (1, .int .i64 a), (2, .int .i64 x), (6, .nilIface), (7, .int .i64 (i : Int)), (9, .bool false), (13, .bool false), (52, .bool true)]) (by kernel_rfl) ?_
    refine WQ.thenN ?_
    refine WE.condT (by kernel_rfl) ?_
    refine WE.skip ?_
    refine WQ.thenN ?_
    refine WE.block ?_
    refine WE.seq ?_
    -- R9 timer.go:38
    refine WE.region ?_
    refine WO.run 1 0 [(53, .int .i64 (i : Int))] (by kernel_rfl) (by kernel_rfl) ?_
    refine WO.one (SQ.F 1 (by kernel_rfl)) 54 (.int .i64 (IntKind.i64.wrap ((i : Int) - 1))) (by kernel_rfl) ?_
    refine WO.top (v' := .int .i64 ((i : Int) - 1)) (wrap_i64 (by omega) (by omega)) ?_
    refine WO.one (SQ.F 2 (by kernel_rfl)) 55 (.int .i64 (IntKind.i64.wrap (((i : Int) - 1).tdiv 2))) (by kernel_rfl) ?_
    refine WO.top (v' := .int .i64 (((i - 1) / 2 : Nat) : Int)) (half_i64 i (by omega) (by omega)) ?_
    refine WO.run 1 3 [(8, .int .i64 (((i - 1) / 2 : Nat) : Int))] (by kernel_rfl) (by kernel_rfl) ?_
    refine WO.done (by kernel_rfl) ?_
    refine WQ.keep [0, 1, 2, 6, 7, 8, 9, 13, 52] (e' := [(0, .pointer (some ⟨g, 0, none⟩)), (1, .int .i64 a), (2, .int .i64 x), (6, .nilIface), (7, .int .i64 (i : Int)), (8, .int .i64 (((i - 1) / 2 : Nat) : Int)), (9, .bool false), (13, .bool false), (52, .bool true)]) (by kernel_rfl) ?_
    refine WQ.thenN ?_
    refine WE.seq ?_
    refine WE.seq ?_
    -- R10* timer.go:39
    refine WE.draw [.free, .free, .free, .still, .free, .free, .still, .free, .free, .free, .still, .free, .free, .still, .eff, .free] Same sameR (by kernel_rfl) 16 (Array.replicate 16 false) (by kernel_rfl) rfl ?_
    intro w22 F23 _
    have HB := Blk.keep HB F23 (nin0 _)
    have HR := RowB.keep HR F23 (nin0 _)
    have HA := Fr.step0 HA F23
    refine WO.one (SA.F sameR sameT _ 0 _ (by kernel_rfl)) 56 (.pointer (some ⟨g, 0, none⟩)) (by kernel_rfl) ?_
    refine WO.one (SA.F sameR sameT _ 1 _ (by kernel_rfl)) 57 (.pointer (some ⟨g, 0, none⟩)) (by kernel_rfl) ?_
    refine WO.one (SA.F sameR sameT _ 2 _ (by kernel_rfl)) 58 (.pointer (some ⟨g, 0, none⟩)) (by kernel_rfl) ?_
    refine WO.ld (SA.S sameR sameT _ 3 _ (by kernel_rfl)) 59 (.slice (some ⟨b12, 0, none⟩) (n + 1) cap13) (by kernel_rfl) (same (HB.at 0 (by kernel_rfl))) ?_
    refine WO.one (SA.F sameR sameT _ 4 _ (by kernel_rfl)) 60 (.int .i64 (i : Int)) (by kernel_rfl) ?_
    refine WO.ixB (SA.F sameR sameT _ 5 _ (by kernel_rfl)) 61 (i * 3) b12 0 (n + 1) 3 (i : Int) (by kernel_rfl) (by omega) (by omega) (by omega) ?_
    refine WO.ldR (SA.S sameR sameT _ 6 _ (by kernel_rfl)) 62 [.int .i64 ((at0 qc i).a), .int .i64 ((at0 qc i).b), .int .i64 ((at0 qc i).t)] b12 i 3 (i * 3) (same HR) (by rw [List.length_map]; have := hql; omega) (map_at qc i (by have := hql; omega)) rfl (by omega) (by kernel_rfl) (by kernel_rfl) ?_
    refine WO.one (SA.F sameR sameT _ 7 _ (by kernel_rfl)) 63 (.pointer (some ⟨g, 0, none⟩)) (by kernel_rfl) ?_
    refine WO.one (SA.F sameR sameT _ 8 _ (by kernel_rfl)) 64 (.pointer (some ⟨g, 0, none⟩)) (by kernel_rfl) ?_
    refine WO.one (SA.F sameR sameT _ 9 _ (by kernel_rfl)) 65 (.pointer (some ⟨g, 0, none⟩)) (by kernel_rfl) ?_
    refine WO.ld (SA.S sameR sameT _ 10 _ (by kernel_rfl)) 66 (.slice (some ⟨b12, 0, none⟩) (n + 1) cap13) (by kernel_rfl) (same (HB.at 0 (by kernel_rfl))) ?_
    refine WO.one (SA.F sameR sameT _ 11 _ (by kernel_rfl)) 67 (.int .i64 (((i - 1) / 2 : Nat) : Int)) (by kernel_rfl) ?_
    refine WO.ixB (SA.F sameR sameT _ 12 _ (by kernel_rfl)) 68 (((i - 1) / 2) * 3) b12 0 (n + 1) 3 (((i - 1) / 2 : Nat) : Int) (by kernel_rfl) (by omega) (by omega) (by omega) ?_
    refine WO.ldR (SA.S sameR sameT _ 13 _ (by kernel_rfl)) 69 [.int .i64 ((at0 qc ((i - 1) / 2)).a), .int .i64 ((at0 qc ((i - 1) / 2)).b), .int .i64 ((at0 qc ((i - 1) / 2)).t)] b12 ((i - 1) / 2) 3 (((i - 1) / 2) * 3) (same HR) (by rw [List.length_map]; have := hql; omega) (map_at qc ((i - 1) / 2) (by have := hql; omega)) rfl (by omega) (by kernel_rfl) (by kernel_rfl) ?_
    refine WO.call (SA.E _ 14 _ (by kernel_rfl) rfl) 70 (by kernel_rfl) (ahead_any ((at0 qc i).a) ((at0 qc i).b) ((at0 qc i).t) ((at0 qc ((i - 1) / 2)).a) ((at0 qc ((i - 1) / 2)).b) ((at0 qc ((i - 1) / 2)).t) _) ?_
    rintro _ w24 ⟨rfl, F25⟩
    refine ⟨_, rfl, trivial, ?_⟩
    have HB := Blk.keep HB F25 (nin0 _)
    have HR := RowB.keep HR F25 (nin0 _)
    have HA := Fr.step0 HA F25
    refine WO.topB (aheadB ((at0 qc i).a) ((at0 qc i).t) ((at0 qc ((i - 1) / 2)).a) ((at0 qc ((i - 1) / 2)).t)) ?_ ?_
    · intro h26
      refine WO.one (SA.F sameR sameT _ 15 _ (by kernel_rfl)) 71 (.bool false) (by kernel_rfl) ?_
      refine WO.doneA (by kernel_rfl) ?_
      refine WQ.keep [0, 1, 2, 6, 7, 8, 9, 13, 52, 71] (e' := [(0, .pointer (some ⟨g, 0, none⟩)), (1, .int .i64 a), (2, .int .i64 x), (6, .nilIface), (7, .int .i64 (i : Int)), (8, .int .i64 (((i - 1) / 2 : Nat) : Int)), (9, .bool false), (13, .bool false), (52, .bool true), (71, .bool false)]) (by kernel_rfl) ?_
      refine WQ.thenN ?_
      refine WE.condF (by kernel_rfl) ?_
      refine WE.skip ?_
      refine WQ.thenN ?_
      refine WE.seq ?_
      -- R11* timer.go:42
      refine WE.draw [.free, .free, .free, .still, .free, .free, .free, .free, .still, .free, .free, .free, .free, .still, .free, .free, .still, .free, .free, .free, .still, .free, .free, .still, .free, .eff, .free, .eff] Same sameR (by kernel_rfl) 28 (Array.replicate 28 false) (by kernel_rfl) rfl ?_
      intro w27 F28 _
      have HB := Blk.keep HB F28 (nin0 _)
      have HR := RowB.keep HR F28 (nin0 _)
      have HA := Fr.step0 HA F28
      refine WO.one (SA.F sameR sameT _ 0 _ (by kernel_rfl)) 72 (.pointer (some ⟨g, 0, none⟩)) (by kernel_rfl) ?_
      refine WO.one (SA.F sameR sameT _ 1 _ (by kernel_rfl)) 73 (.pointer (some ⟨g, 0, none⟩)) (by kernel_rfl) ?_
      refine WO.one (SA.F sameR sameT _ 2 _ (by kernel_rfl)) 74 (.pointer (some ⟨g, 0, none⟩)) (by kernel_rfl) ?_
      refine WO.ld (SA.S sameR sameT _ 3 _ (by kernel_rfl)) 75 (.slice (some ⟨b12, 0, none⟩) (n + 1) cap13) (by kernel_rfl) (same (HB.at 0 (by kernel_rfl))) ?_
      refine WO.one (SA.F sameR sameT _ 4 _ (by kernel_rfl)) 76 (.int .i64 (i : Int)) (by kernel_rfl) ?_
      refine WO.one (SA.F sameR sameT _ 5 _ (by kernel_rfl)) 77 (.pointer (some ⟨g, 0, none⟩)) (by kernel_rfl) ?_
      refine WO.one (SA.F sameR sameT _ 6 _ (by kernel_rfl)) 78 (.pointer (some ⟨g, 0, none⟩)) (by kernel_rfl) ?_
      refine WO.one (SA.F sameR sameT _ 7 _ (by kernel_rfl)) 79 (.pointer (some ⟨g, 0, none⟩)) (by kernel_rfl) ?_
      refine WO.ld (SA.S sameR sameT _ 8 _ (by kernel_rfl)) 80 (.slice (some ⟨b12, 0, none⟩) (n + 1) cap13) (by kernel_rfl) (same (HB.at 0 (by kernel_rfl))) ?_
      refine WO.one (SA.F sameR sameT _ 9 _ (by kernel_rfl)) 81 (.int .i64 (((i - 1) / 2 : Nat) : Int)) (by kernel_rfl) ?_
      refine WO.one (SA.F sameR sameT _ 10 _ (by kernel_rfl)) 82 (.pointer (some ⟨g, 0, none⟩)) (by kernel_rfl) ?_
      refine WO.one (SA.F sameR sameT _ 11 _ (by kernel_rfl)) 83 (.pointer (some ⟨g, 0, none⟩)) (by kernel_rfl) ?_
      refine WO.one (SA.F sameR sameT _ 12 _ (by kernel_rfl)) 84 (.pointer (some ⟨g, 0, none⟩)) (by kernel_rfl) ?_
      refine WO.ld (SA.S sameR sameT _ 13 _ (by kernel_rfl)) 85 (.slice (some ⟨b12, 0, none⟩) (n + 1) cap13) (by kernel_rfl) (same (HB.at 0 (by kernel_rfl))) ?_
      refine WO.one (SA.F sameR sameT _ 14 _ (by kernel_rfl)) 86 (.int .i64 (((i - 1) / 2 : Nat) : Int)) (by kernel_rfl) ?_
      refine WO.ixB (SA.F sameR sameT _ 15 _ (by kernel_rfl)) 87 (((i - 1) / 2) * 3) b12 0 (n + 1) 3 (((i - 1) / 2 : Nat) : Int) (by kernel_rfl) (by omega) (by omega) (by omega) ?_
      refine WO.ldR (SA.S sameR sameT _ 16 _ (by kernel_rfl)) 88 [.int .i64 ((at0 qc ((i - 1) / 2)).a), .int .i64 ((at0 qc ((i - 1) / 2)).b), .int .i64 ((at0 qc ((i - 1) / 2)).t)] b12 ((i - 1) / 2) 3 (((i - 1) / 2) * 3) (same HR) (by rw [List.length_map]; have := hql; omega) (map_at qc ((i - 1) / 2) (by have := hql; omega)) rfl (by omega) (by kernel_rfl) (by kernel_rfl) ?_
      refine WO.one (SA.F sameR sameT _ 17 _ (by kernel_rfl)) 89 (.pointer (some ⟨g, 0, none⟩)) (by kernel_rfl) ?_
      refine WO.one (SA.F sameR sameT _ 18 _ (by kernel_rfl)) 90 (.pointer (some ⟨g, 0, none⟩)) (by kernel_rfl) ?_
      refine WO.one (SA.F sameR sameT _ 19 _ (by kernel_rfl)) 91 (.pointer (some ⟨g, 0, none⟩)) (by kernel_rfl) ?_
      refine WO.ld (SA.S sameR sameT _ 20 _ (by kernel_rfl)) 92 (.slice (some ⟨b12, 0, none⟩) (n + 1) cap13) (by kernel_rfl) (same (HB.at 0 (by kernel_rfl))) ?_
      refine WO.one (SA.F sameR sameT _ 21 _ (by kernel_rfl)) 93 (.int .i64 (i : Int)) (by kernel_rfl) ?_
      refine WO.ixB (SA.F sameR sameT _ 22 _ (by kernel_rfl)) 94 (i * 3) b12 0 (n + 1) 3 (i : Int) (by kernel_rfl) (by omega) (by omega) (by omega) ?_
      refine WO.ldR (SA.S sameR sameT _ 23 _ (by kernel_rfl)) 95 [.int .i64 ((at0 qc i).a), .int .i64 ((at0 qc i).b), .int .i64 ((at0 qc i).t)] b12 i 3 (i * 3) (same HR) (by rw [List.length_map]; have := hql; omega) (map_at qc i (by have := hql; omega)) rfl (by omega) (by kernel_rfl) (by kernel_rfl) ?_
      refine WO.ixB (SA.F sameR sameT _ 24 _ (by kernel_rfl)) 96 (i * 3) b12 0 (n + 1) 3 (i : Int) (by kernel_rfl) (by omega) (by omega) (by omega) ?_
      refine WO.stR (SA.E _ 25 _ (by kernel_rfl) rfl) b12 i (i * 3) [.int .i64 ((at0 qc ((i - 1) / 2)).a), .int .i64 ((at0 qc ((i - 1) / 2)).b), .int .i64 ((at0 qc ((i - 1) / 2)).t)] HR (by rw [List.length_map]; have := hql; omega) rfl (by omega) rfl (by kernel_rfl) (fun _ _ => trivial) ?_
      intro w29 HR31 F30 _
      have HB := Blk.keep HB F30 (ninC ne_g_b12 (nin0 _))
      have HA := Fr.step HA F30 (inSD in_HA_b12 inS0)
      have HR31 : RowB w29 b12 68 3 cap13 ((qc.set i (at0 qc ((i - 1) / 2))).map cE) := by rw [List.map_set]; exact HR31
      refine WO.ixB (SA.F sameR sameT _ 26 _ (by kernel_rfl)) 97 (((i - 1) / 2) * 3) b12 0 (n + 1) 3 (((i - 1) / 2 : Nat) : Int) (by kernel_rfl) (by omega) (by omega) (by omega) ?_
      refine WO.stR (SA.E _ 27 _ (by kernel_rfl) rfl) b12 ((i - 1) / 2) (((i - 1) / 2) * 3) [.int .i64 ((at0 qc i).a), .int .i64 ((at0 qc i).b), .int .i64 ((at0 qc i).t)] HR31 (by rw [List.length_map]; have := (show (qc.set i (at0 qc ((i - 1) / 2))).length = qc.length from List.length_set).trans (hql); omega) rfl (by omega) rfl (by kernel_rfl) (fun _ _ => trivial) ?_
      intro w32 HR34 F33 _
      have HB := Blk.keep HB F33 (ninC ne_g_b12 (nin0 _))
      have HA := Fr.step HA F33 (inSD in_HA_b12 inS0)
      have HR34 : RowB w32 b12 68 3 cap13 (((qc.set i (at0 qc ((i - 1) / 2))).set ((i - 1) / 2) (at0 qc i)).map cE) := by rw [List.map_set]; exact HR34
      refine WO.doneA (by kernel_rfl) ?_
      refine WQ.keep [0, 1, 2, 6, 7, 8, 9, 13, 52, 71] (e' := [(0, .pointer (some ⟨g, 0, none⟩)), (1, .int .i64 a), (2, .int .i64 x), (6, .nilIface), (7, .int .i64 (i : Int)), (8, .int .i64 (((i - 1) / 2 : Nat) : Int)), (9, .bool false), (13, .bool false), (52, .bool true), (71, .bool false)]) (by kernel_rfl) ?_
      refine WQ.thenN ?_
      -- R12 timer.go:43
      refine WE.region ?_
      refine WO.run 2 0 [(7, .int .i64 (((i - 1) / 2 : Nat) : Int)), (98, .int .i64 (((i - 1) / 2 : Nat) : Int))] (by kernel_rfl) (by kernel_rfl) ?_
      refine WO.done (by kernel_rfl) ?_
      refine WQ.keep [0, 1, 2, 6, 7, 8, 9, 13, 52, 71] (e' := [(0, .pointer (some ⟨g, 0, none⟩)), (1, .int .i64 a), (2, .int .i64 x), (6, .nilIface), (7, .int .i64 (((i - 1) / 2 : Nat) : Int)), (8, .int .i64 (((i - 1) / 2 : Nat) : Int)), (9, .bool false), (13, .bool false), (52, .bool true), (71, .bool false)]) (by kernel_rfl) ?_
      refine WQ.blkN ?_
      have hlt : lt (at0 qc i) (at0 qc ((i - 1) / 2)) := by rw [aheadB_lt] at h26; exact of_decide_eq_true h26
      refine WQ.round ?_
      intro a_ ha_
      refine ⟨((i - 1) / 2, swap qc i ((i - 1) / 2)), ?_, ha_.keep [0, 1, 2, 6, 7, 9, 13] (by kernel_rfl), ?_⟩
      · show (i - 1) / 2 < i; omega
      · exact ⟨by show (swap qc i ((i - 1) / 2)).length = _; rw [swap_len]; exact hql, by show (i - 1) / 2 ≤ _; omega, by rw [← hup]; exact (up_step qc i (by omega) hlt).symm, HB, HR34, HA⟩
    · intro h26
      refine WO.one (SA.F sameR sameT _ 15 _ (by kernel_rfl)) 71 (.bool true) (by kernel_rfl) ?_
      refine WO.doneA (by kernel_rfl) ?_
      refine WQ.keep [0, 1, 2, 6, 7, 8, 9, 13, 52, 71] (e' := [(0, .pointer (some ⟨g, 0, none⟩)), (1, .int .i64 a), (2, .int .i64 x), (6, .nilIface), (7, .int .i64 (i : Int)), (8, .int .i64 (((i - 1) / 2 : Nat) : Int)), (9, .bool false), (13, .bool false), (52, .bool true), (71, .bool true)]) (by kernel_rfl) ?_
      refine WQ.thenN ?_
      refine WE.condT (by kernel_rfl) ?_
      refine WE.exit ?_
      refine WQ.thenE ?_
      refine WQ.blkX (by kernel_rfl) ?_
      refine WQ.thenE ?_
      refine WQ.blkE ?_
      refine WQ.thenN ?_
      refine WE.seq ?_
      -- R13 timer.go:45
      refine WE.region ?_
      refine WO.run 1 0 [(6, .nilIface)] (by kernel_rfl) (by kernel_rfl) ?_
      refine WO.done (by kernel_rfl) ?_
      refine WQ.keep [0, 1, 2, 6, 7, 8, 9, 13, 52, 71] (e' := [(0, .pointer (some ⟨g, 0, none⟩)), (1, .int .i64 a), (2, .int .i64 x), (6, .nilIface), (7, .int .i64 (i : Int)), (8, .int .i64 (((i - 1) / 2 : Nat) : Int)), (9, .bool false), (13, .bool false), (52, .bool true), (71, .bool true)]) (by kernel_rfl) ?_
      refine WQ.thenN ?_
      refine WE.ret ?_
      refine WQ.ret (v := .nilIface) (by kernel_rfl) ?_
      have hfin : qc = up n (q ++ [(⟨a, x, t + 1⟩ : Ent)]) n := by rw [← hup]; exact (up_stop qc i (by rw [aheadB_lt] at h26; exact of_decide_eq_false h26)).symm
      rw [show setQ q ⟨a, x, t + 1⟩ = up n (q ++ [(⟨a, x, t + 1⟩ : Ent)]) n from by unfold setQ; rw [hn], ← hfin]
      exact ⟨rfl, _, _, HB, HR, HA, (Ne.symm ne_g_b12), in_HA_b12⟩
  · intro h21
    refine WO.done (by kernel_rfl) ?_
    refine WQ.keep [0, 1, 2, 6, 7, 9, 13, 52] (e' := [(0, .pointer (some ⟨g, 0, none⟩)), (1, .int .i64 a), (2, .int .i64 x), (6, .nilIface), (7, .int .i64 (i : Int)), (9, .bool false), (13, .bool false), (52, .bool false)]) (by kernel_rfl) ?_
    refine WQ.thenN ?_
    refine WE.condF (by kernel_rfl) ?_
    refine WE.exit ?_
    refine WQ.thenE ?_
    refine WQ.thenE ?_
    refine WQ.blkE ?_
    refine WQ.thenN ?_
    refine WE.seq ?_
    -- R13 timer.go:45
    refine WE.region ?_
    refine WO.run 1 0 [(6, .nilIface)] (by kernel_rfl) (by kernel_rfl) ?_
    refine WO.done (by kernel_rfl) ?_
    refine WQ.keep [0, 1, 2, 6, 7, 9, 13, 52] (e' := [(0, .pointer (some ⟨g, 0, none⟩)), (1, .int .i64 a), (2, .int .i64 x), (6, .nilIface), (7, .int .i64 (i : Int)), (9, .bool false), (13, .bool false), (52, .bool false)]) (by kernel_rfl) ?_
    refine WQ.thenN ?_
    refine WE.ret ?_
    refine WQ.ret (v := .nilIface) (by kernel_rfl) ?_
    have hfin : qc = up n (q ++ [(⟨a, x, t + 1⟩ : Ent)]) n := by obtain rfl : i = 0 := (by omega); exact hup
    rw [show setQ q ⟨a, x, t + 1⟩ = up n (q ++ [(⟨a, x, t + 1⟩ : Ent)]) n from by unfold setQ; rw [hn], ← hfin]
    exact ⟨rfl, _, _, HB, HR, HA, (Ne.symm ne_g_b12), in_HA_b12⟩

set_option maxRecDepth 100000 in
set_option maxHeartbeats 1000000 in
theorem pop_row (g b cap n : Nat) (q : List Ent) (t : Int) (w : World) (hB : Blk w g #[.slice (some ⟨b, 0, none⟩) (n + 1) cap, .int .i64 t] 66) (hR : RowB w b 68 3 cap (q.map cE)) (hbg : b ≠ g) (hn : q.length = n + 1) (h50 : n < 1000) :
    Calls Try.prog 36 #[.pointer (some ⟨g, 0, none⟩)] w fun e w' => e = .returned (.tuple #[]) ∧ Blk w' g #[.slice (some ⟨b, 0, none⟩) n cap, .int .i64 t] 66 ∧ RowB w' b 68 3 cap ((popQ q).map cE) ∧ Fr [g, b] w w' := by
  have HB := hB
  have HR := hR
  have hcap : n + 1 ≤ cap := by have := hR.le; rw [List.length_map, hn] at this; exact this
  have HA := Fr.refl [g, b] w
  refine enter (N := 93) Try.func36 (c := _) rfl (by kernel_rfl) (by kernel_rfl) (e := [(0, .pointer (some ⟨g, 0, none⟩))]) (by kernel_rfl) ?_
  refine WE.scope ?_
  refine WE.seq ?_
  -- R0 timer.go:58
  refine WE.region ?_
  refine WO.run 3 0 [(8, .pointer (some ⟨g, 0, none⟩)), (7, .pointer (some ⟨g, 0, none⟩)), (6, .pointer (some ⟨g, 0, none⟩))] (by kernel_rfl) (by kernel_rfl) ?_
  refine WO.ld (SQ.S 3 (by kernel_rfl)) 9 (.slice (some ⟨b, 0, none⟩) (n + 1) cap) (by kernel_rfl) (same (HB.at 0 (by kernel_rfl))) ?_
  refine WO.run 1 4 [(10, .int .i64 (n + 1 : Int))] (by kernel_rfl) (by kernel_rfl) ?_
  refine WO.one (SQ.F 5 (by kernel_rfl)) 11 (.int .i64 (IntKind.i64.wrap ((n + 1 : Int) - 1))) (by kernel_rfl) ?_
  refine WO.top (v' := .int .i64 ((n : Nat) : Int)) (wrap_i64 (by omega) (by omega)) ?_
  refine WO.run 1 6 [(2, .int .i64 ((n : Nat) : Int))] (by kernel_rfl) (by kernel_rfl) ?_
  refine WO.done (by kernel_rfl) ?_
  refine WQ.keep [0, 2] (e' := [(0, .pointer (some ⟨g, 0, none⟩)), (2, .int .i64 ((n : Nat) : Int))]) (by kernel_rfl) ?_
  refine WQ.thenN ?_
  refine WE.seq ?_
  -- R1* timer.go:59
  refine WE.draw [.free, .free, .free, .still, .free, .free, .free, .still, .free, .free, .still, .free, .eff] Same sameR (by kernel_rfl) 13 (Array.replicate 13 false) (by kernel_rfl) rfl ?_
  intro w1 F2 _
  have HB := Blk.keep HB F2 (nin0 _)
  have HR := RowB.keep HR F2 (nin0 _)
  have HA := Fr.step0 HA F2
  refine WO.one (SA.F sameR sameT _ 0 _ (by kernel_rfl)) 12 (.pointer (some ⟨g, 0, none⟩)) (by kernel_rfl) ?_
  refine WO.one (SA.F sameR sameT _ 1 _ (by kernel_rfl)) 13 (.pointer (some ⟨g, 0, none⟩)) (by kernel_rfl) ?_
  refine WO.one (SA.F sameR sameT _ 2 _ (by kernel_rfl)) 14 (.pointer (some ⟨g, 0, none⟩)) (by kernel_rfl) ?_
  refine WO.ld (SA.S sameR sameT _ 3 _ (by kernel_rfl)) 15 (.slice (some ⟨b, 0, none⟩) (n + 1) cap) (by kernel_rfl) (same (HB.at 0 (by kernel_rfl))) ?_
  refine WO.one (SA.F sameR sameT _ 4 _ (by kernel_rfl)) 16 (.pointer (some ⟨g, 0, none⟩)) (by kernel_rfl) ?_
  refine WO.one (SA.F sameR sameT _ 5 _ (by kernel_rfl)) 17 (.pointer (some ⟨g, 0, none⟩)) (by kernel_rfl) ?_
  refine WO.one (SA.F sameR sameT _ 6 _ (by kernel_rfl)) 18 (.pointer (some ⟨g, 0, none⟩)) (by kernel_rfl) ?_
  refine WO.ld (SA.S sameR sameT _ 7 _ (by kernel_rfl)) 19 (.slice (some ⟨b, 0, none⟩) (n + 1) cap) (by kernel_rfl) (same (HB.at 0 (by kernel_rfl))) ?_
  refine WO.one (SA.F sameR sameT _ 8 _ (by kernel_rfl)) 20 (.int .i64 ((n : Nat) : Int)) (by kernel_rfl) ?_
  refine WO.ixB (SA.F sameR sameT _ 9 _ (by kernel_rfl)) 21 (n * 3) b 0 (n + 1) 3 ((n : Nat) : Int) (by kernel_rfl) (by omega) (by omega) (by omega) ?_
  refine WO.ldR (SA.S sameR sameT _ 10 _ (by kernel_rfl)) 22 [.int .i64 ((at0 q n).a), .int .i64 ((at0 q n).b), .int .i64 ((at0 q n).t)] b n 3 (n * 3) (same HR) (by rw [List.length_map]; have := hn; omega) (map_at q n (by have := hn; omega)) rfl (by omega) (by kernel_rfl) (by kernel_rfl) ?_
  refine WO.ixB (SA.F sameR sameT _ 11 _ (by kernel_rfl)) 23 0 b 0 (n + 1) 3 0 (by kernel_rfl) (by omega) (by omega) (by omega) ?_
  refine WO.stR (SA.E _ 12 _ (by kernel_rfl) rfl) b 0 0 [.int .i64 ((at0 q n).a), .int .i64 ((at0 q n).b), .int .i64 ((at0 q n).t)] HR (by rw [List.length_map]; have := hn; omega) rfl (by omega) rfl (by kernel_rfl) (fun _ _ => trivial) ?_
  intro w3 HR5 F4 _
  have HB := Blk.keep HB F4 (ninC (Ne.symm hbg) (nin0 _))
  have HA := Fr.step HA F4 (inSL (by simp) inS0)
  have HR5 : RowB w3 b 68 3 cap ((q.set 0 (at0 q n)).map cE) := by rw [List.map_set]; exact HR5
  refine WO.doneA (by kernel_rfl) ?_
  refine WQ.keep [0, 2] (e' := [(0, .pointer (some ⟨g, 0, none⟩)), (2, .int .i64 ((n : Nat) : Int))]) (by kernel_rfl) ?_
  refine WQ.thenN ?_
  refine WE.seq ?_
  -- R2 timer.go:60
  refine WE.region ?_
  refine WO.run 4 0 [(27, .pointer (some ⟨g, 0, none⟩)), (26, .pointer (some ⟨g, 0, none⟩)), (25, .pointer (some ⟨g, 0, none⟩)), (24, .pointer (some ⟨g, 0, none⟩))] (by kernel_rfl) (by kernel_rfl) ?_
  refine WO.ld (SQ.S 4 (by kernel_rfl)) 28 (.slice (some ⟨b, 0, none⟩) (n + 1) cap) (by kernel_rfl) (same (HB.at 0 (by kernel_rfl))) ?_
  refine WO.run 1 5 [(29, .int .i64 ((n : Nat) : Int))] (by kernel_rfl) (by kernel_rfl) ?_
  refine WO.sl (SQ.F 6 (by kernel_rfl)) 30 0 n (some ⟨b, 0, none⟩) (n + 1) cap 3 none (some ((n : Nat) : Int)) (by kernel_rfl) (by rfl) (by simp only [Option.getD_some] <;> omega) (by omega) (by omega) ?_
  refine WO.top (sl0 _ _ _ _) ?_
  refine WO.run 2 7 [(32, .pointer (some ⟨g, 0, none⟩)), (31, .pointer (some ⟨g, 0, none⟩))] (by kernel_rfl) (by kernel_rfl) ?_
  refine WO.st (SQ.E 9 (by kernel_rfl)) g 0 [.slice (some ⟨b, 0, none⟩) n cap] #[.slice (some ⟨b, 0, none⟩) n cap, .int .i64 t] (by kernel_rfl) HB (by kernel_rfl) (by kernel_rfl) (fun _ _ => trivial) ?_
  intro w6 HB8 F7 _
  have HR5 := RowB.keep HR5 F7 (ninC hbg (nin0 _))
  have HA := Fr.step HA F7 (inSL (by simp) inS0)
  refine WO.done (by kernel_rfl) ?_
  refine WQ.keep [0, 2] (e' := [(0, .pointer (some ⟨g, 0, none⟩)), (2, .int .i64 ((n : Nat) : Int))]) (by kernel_rfl) ?_
  refine WQ.thenN ?_
  refine WE.seq ?_
  refine WE.label ?_
  refine WQ.thenN ?_
  refine WE.seq ?_
  have HR5 : RowB w6 b 68 3 cap (((q.set 0 (at0 q n)).take n).map cE) := by have := RowB.take HR5 n; rw [← List.map_take] at this; exact this
  -- R3 timer.go:62
  refine WE.region ?_
  refine WO.run 1 0 [(3, .int .i64 0)] (by kernel_rfl) (by kernel_rfl) ?_
  refine WO.done (by kernel_rfl) ?_
  refine WQ.keep [0, 2, 3] (e' := [(0, .pointer (some ⟨g, 0, none⟩)), (2, .int .i64 ((n : Nat) : Int)), (3, .int .i64 0)]) (by kernel_rfl) ?_
  refine WQ.thenN ?_
  refine WE.block ?_
  have hq0 := (show ((q.set 0 (at0 q n)).take n).length = n by rw [List.length_take, List.length_set, hn]; omega)
  refine WE.loop (α := Nat × List Ent) (E := fun ⟨i, qc⟩ => [(0, .pointer (some ⟨g, 0, none⟩)), (2, .int .i64 ((n : Nat) : Int)), (3, .int .i64 (i : Int))]) (I := fun ⟨i, qc⟩ wr => qc.length = n ∧ (i < n ∨ i = 0) ∧ sink (n + 1 - i) qc i = sink (n + 1) ((q.set 0 (at0 q n)).take n) 0 ∧ Blk wr g #[.slice (some ⟨b, 0, none⟩) n cap, .int .i64 t] 66 ∧ RowB wr b 68 3 cap (qc.map cE) ∧ Fr [g, b] w wr) (m := fun ⟨i, qc⟩ => n - i) (0, ((q.set 0 (at0 q n)).take n)) [0, 2, 3] (by kernel_rfl) ?_ ?_
  · exact ⟨hq0, Or.inr rfl, rfl, HB8, HR5, HA⟩
  rintro ⟨i, qc⟩ wr ⟨hql, hi, hs, HB, HR, HA⟩
  dsimp only at hql hi hs HR ⊢
  refine WE.block ?_
  refine WE.seq ?_
  -- R4 timer.go:63
  refine WE.region ?_
  refine WO.run 2 0 [(4, .int .i64 (i : Int)), (33, .int .i64 (i : Int))] (by kernel_rfl) (by kernel_rfl) ?_
  refine WO.done (by kernel_rfl) ?_
  refine WQ.keep [0, 2, 3, 4] (e' := [(0, .pointer (some ⟨g, 0, none⟩)), (2, .int .i64 ((n : Nat) : Int)), (3, .int .i64 (i : Int)), (4, .int .i64 (i : Int))]) (by kernel_rfl) ?_
  refine WQ.thenN ?_
  refine WE.seq ?_
  refine WE.seq ?_
  -- R5 timer.go:64
  refine WE.region ?_
  refine WO.run 1 0 [(34, .int .i64 (i : Int))] (by kernel_rfl) (by kernel_rfl) ?_
  refine WO.one (SQ.F 1 (by kernel_rfl)) 35 (.int .i64 (IntKind.i64.wrap (2 * (i : Int)))) (by kernel_rfl) ?_
  refine WO.top (v' := .int .i64 ((2 * i : Nat) : Int)) (wrap_i64 (by omega) (by omega)) ?_
  refine WO.one (SQ.F 2 (by kernel_rfl)) 36 (.int .i64 (IntKind.i64.wrap (((2 * i : Nat) : Int) + 1))) (by kernel_rfl) ?_
  refine WO.top (v' := .int .i64 (((2 * i) + 1 : Nat) : Int)) (wrap_i64 (by omega) (by omega)) ?_
  refine WO.run 1 3 [(5, .int .i64 (((2 * i) + 1 : Nat) : Int))] (by kernel_rfl) (by kernel_rfl) ?_
  refine WO.done (by kernel_rfl) ?_
  refine WQ.keep [0, 2, 3, 4, 5] (e' := [(0, .pointer (some ⟨g, 0, none⟩)), (2, .int .i64 ((n : Nat) : Int)), (3, .int .i64 (i : Int)), (4, .int .i64 (i : Int)), (5, .int .i64 (((2 * i) + 1 : Nat) : Int))]) (by kernel_rfl) ?_
  refine WQ.thenN ?_
  refine WE.block ?_
  have hk0 : bestK qc i (2 * i + 1) = i := by unfold bestK; rw [if_pos (by omega)]
  refine WE.env (e' := [(0, .pointer (some ⟨g, 0, none⟩)), (2, .int .i64 ((n : Nat) : Int)), (3, .int .i64 (i : Int)), (4, .int .i64 ((bestK qc i (2 * i + 1) : Nat) : Int)), (5, .int .i64 (((2 * i) + 1 : Nat) : Int))]) (by rw [hk0]) ?_
  refine WE.loop (α := Nat) (E := fun k => [(0, .pointer (some ⟨g, 0, none⟩)), (2, .int .i64 ((n : Nat) : Int)), (3, .int .i64 (i : Int)), (4, .int .i64 ((bestK qc i k : Nat) : Int)), (5, .int .i64 (k : Int))]) (I := fun k wk => 2 * i + 1 ≤ k ∧ k ≤ 2 * i + 3 ∧ Blk wk g #[.slice (some ⟨b, 0, none⟩) n cap, .int .i64 t] 66 ∧ RowB wk b 68 3 cap (qc.map cE) ∧ Fr [g, b] w wk) (m := fun k => 2 * i + 4 - k) (2 * i + 1) [0, 2, 3, 4, 5] (by kernel_rfl) ?_ ?_
  · exact ⟨Nat.le_refl _, by omega, HB, HR, HA⟩
  rintro k wk ⟨hk1, hk2, HB, HR, HA⟩
  refine WE.seq ?_
  refine WE.seq ?_
  -- R6 timer.go:64
  refine WE.region ?_
  refine WO.run 2 0 [(38, .int .i64 (i : Int)), (37, .int .i64 (k : Int))] (by kernel_rfl) (by kernel_rfl) ?_
  refine WO.one (SQ.F 2 (by kernel_rfl)) 39 (.int .i64 (IntKind.i64.wrap (2 * (i : Int)))) (by kernel_rfl) ?_
  refine WO.top (v' := .int .i64 ((2 * i : Nat) : Int)) (wrap_i64 (by omega) (by omega)) ?_
  refine WO.one (SQ.F 3 (by kernel_rfl)) 40 (.int .i64 (IntKind.i64.wrap (((2 * i : Nat) : Int) + 2))) (by kernel_rfl) ?_
  refine WO.top (v' := .int .i64 (((2 * i) + 2 : Nat) : Int)) (wrap_i64 (by omega) (by omega)) ?_
  refine WO.one (SQ.F 4 (by kernel_rfl)) 41 (.bool (decide (((k : Int) : Int) ≤ ((2 * i) + 2 : Int)))) (by kernel_rfl) ?_
  refine WO.topP (((k : Int) : Int) ≤ ((2 * i) + 2 : Int)) ?_ ?_
  · intro h9
    refine WO.done (by kernel_rfl) ?_
    refine WQ.keep [0, 2, 3, 4, 5, 41] (e' := [(0, .pointer (some ⟨g, 0, none⟩)), (2, .int .i64 ((n : Nat) : Int)), (3, .int .i64 (i : Int)), (4, .int .i64 ((bestK qc i k : Nat) : Int)), (5, .int .i64 (k : Int)), (41, .bool true)]) (by kernel_rfl) ?_
    refine WQ.thenN ?_
    refine WE.condT (by kernel_rfl) ?_
    refine WE.skip ?_
    refine WQ.thenN ?_
    refine WE.seq ?_
    refine WE.block ?_
    refine WE.seq ?_
    refine WE.seq ?_
    -- R8 timer.go:65
    refine WE.region ?_
    refine WO.run 2 0 [(45, .int .i64 ((n : Nat) : Int)), (44, .int .i64 (k : Int))] (by kernel_rfl) (by kernel_rfl) ?_
    refine WO.one (SQ.F 2 (by kernel_rfl)) 46 (.bool (decide (((k : Int) : Int) ≥ (n : Int)))) (by kernel_rfl) ?_
    refine WO.topP (((k : Int) : Int) ≥ (n : Int)) ?_ ?_
    · intro h10
      refine WO.done (by kernel_rfl) ?_
      refine WQ.keep [0, 2, 3, 4, 5, 41, 46] (e' := [(0, .pointer (some ⟨g, 0, none⟩)), (2, .int .i64 ((n : Nat) : Int)), (3, .int .i64 (i : Int)), (4, .int .i64 ((bestK qc i k : Nat) : Int)), (5, .int .i64 (k : Int)), (41, .bool true), (46, .bool true)]) (by kernel_rfl) ?_
      refine WQ.thenN ?_
      refine WE.condT (by kernel_rfl) ?_
      refine WE.exit ?_
      refine WQ.thenE ?_
      refine WQ.blkX (by kernel_rfl) ?_
      refine WQ.thenE ?_
      refine WQ.thenE ?_
      refine WQ.blkE ?_
      refine WQ.thenN ?_
      refine WE.seq ?_
      refine WE.seq ?_
      have hbest : bestK qc i k = best qc i := bestK_end qc i k (by omega)
      refine WE.env (e' := [(0, .pointer (some ⟨g, 0, none⟩)), (2, .int .i64 ((n : Nat) : Int)), (3, .int .i64 (i : Int)), (4, .int .i64 ((best qc i : Nat) : Int)), (5, .int .i64 (k : Int)), (41, .bool true), (46, .bool true)]) (by rw [hbest]) ?_
      -- R11 timer.go:72
      refine WE.region ?_
      refine WO.run 2 0 [(64, .int .i64 (i : Int)), (63, .int .i64 ((best qc i : Nat) : Int))] (by kernel_rfl) (by kernel_rfl) ?_
      refine WO.one (SQ.F 2 (by kernel_rfl)) 65 (.bool (decide ((((best qc i) : Int) : Int) = (i : Int)))) (by kernel_rfl) ?_
      refine WO.topP ((((best qc i) : Int) : Int) = (i : Int)) ?_ ?_
      · intro h11
        refine WO.done (by kernel_rfl) ?_
        refine WQ.keep [0, 2, 3, 4, 5, 41, 46, 65] (e' := [(0, .pointer (some ⟨g, 0, none⟩)), (2, .int .i64 ((n : Nat) : Int)), (3, .int .i64 (i : Int)), (4, .int .i64 ((best qc i : Nat) : Int)), (5, .int .i64 (k : Int)), (41, .bool true), (46, .bool true), (65, .bool true)]) (by kernel_rfl) ?_
        refine WQ.thenN ?_
        refine WE.condT (by kernel_rfl) ?_
        refine WE.exit ?_
        refine WQ.thenE ?_
        refine WQ.blkX (by kernel_rfl) ?_
        refine WQ.thenE ?_
        refine WQ.blkE ?_
        refine WQ.scN ?_
        refine WQ.fall (v := .tuple #[]) (by kernel_rfl) ?_
        rw [popQ_eq q n hn, ← hs, sink_stop _ qc i (by omega)]
        exact ⟨rfl, HB, HR, HA⟩
      · intro h11
        refine WO.done (by kernel_rfl) ?_
        refine WQ.keep [0, 2, 3, 4, 5, 41, 46, 65] (e' := [(0, .pointer (some ⟨g, 0, none⟩)), (2, .int .i64 ((n : Nat) : Int)), (3, .int .i64 (i : Int)), (4, .int .i64 ((best qc i : Nat) : Int)), (5, .int .i64 (k : Int)), (41, .bool true), (46, .bool true), (65, .bool false)]) (by kernel_rfl) ?_
        refine WQ.thenN ?_
        refine WE.condF (by kernel_rfl) ?_
        refine WE.skip ?_
        refine WQ.thenN ?_
        refine WE.seq ?_
        have hbc := (best_cases qc i).1
        have hbl : best qc i < n := by omega
        have hin : i < n := by omega
        have hgt : i < best qc i := by omega
        -- R12* timer.go:75
        refine WE.draw [.free, .free, .free, .still, .free, .free, .free, .free, .still, .free, .free, .free, .free, .still, .free, .free, .still, .free, .free, .free, .still, .free, .free, .still, .free, .eff, .free, .eff] Same sameR (by kernel_rfl) 28 (Array.replicate 28 false) (by kernel_rfl) rfl ?_
        intro w12 F13 _
        have HB := Blk.keep HB F13 (nin0 _)
        have HR := RowB.keep HR F13 (nin0 _)
        have HA := Fr.step0 HA F13
        refine WO.one (SA.F sameR sameT _ 0 _ (by kernel_rfl)) 66 (.pointer (some ⟨g, 0, none⟩)) (by kernel_rfl) ?_
        refine WO.one (SA.F sameR sameT _ 1 _ (by kernel_rfl)) 67 (.pointer (some ⟨g, 0, none⟩)) (by kernel_rfl) ?_
        refine WO.one (SA.F sameR sameT _ 2 _ (by kernel_rfl)) 68 (.pointer (some ⟨g, 0, none⟩)) (by kernel_rfl) ?_
        refine WO.ld (SA.S sameR sameT _ 3 _ (by kernel_rfl)) 69 (.slice (some ⟨b, 0, none⟩) n cap) (by kernel_rfl) (same (HB.at 0 (by kernel_rfl))) ?_
        refine WO.one (SA.F sameR sameT _ 4 _ (by kernel_rfl)) 70 (.int .i64 (i : Int)) (by kernel_rfl) ?_
        refine WO.one (SA.F sameR sameT _ 5 _ (by kernel_rfl)) 71 (.pointer (some ⟨g, 0, none⟩)) (by kernel_rfl) ?_
        refine WO.one (SA.F sameR sameT _ 6 _ (by kernel_rfl)) 72 (.pointer (some ⟨g, 0, none⟩)) (by kernel_rfl) ?_
        refine WO.one (SA.F sameR sameT _ 7 _ (by kernel_rfl)) 73 (.pointer (some ⟨g, 0, none⟩)) (by kernel_rfl) ?_
        refine WO.ld (SA.S sameR sameT _ 8 _ (by kernel_rfl)) 74 (.slice (some ⟨b, 0, none⟩) n cap) (by kernel_rfl) (same (HB.at 0 (by kernel_rfl))) ?_
        refine WO.one (SA.F sameR sameT _ 9 _ (by kernel_rfl)) 75 (.int .i64 ((best qc i : Nat) : Int)) (by kernel_rfl) ?_
        refine WO.one (SA.F sameR sameT _ 10 _ (by kernel_rfl)) 76 (.pointer (some ⟨g, 0, none⟩)) (by kernel_rfl) ?_
        refine WO.one (SA.F sameR sameT _ 11 _ (by kernel_rfl)) 77 (.pointer (some ⟨g, 0, none⟩)) (by kernel_rfl) ?_
        refine WO.one (SA.F sameR sameT _ 12 _ (by kernel_rfl)) 78 (.pointer (some ⟨g, 0, none⟩)) (by kernel_rfl) ?_
        refine WO.ld (SA.S sameR sameT _ 13 _ (by kernel_rfl)) 79 (.slice (some ⟨b, 0, none⟩) n cap) (by kernel_rfl) (same (HB.at 0 (by kernel_rfl))) ?_
        refine WO.one (SA.F sameR sameT _ 14 _ (by kernel_rfl)) 80 (.int .i64 ((best qc i : Nat) : Int)) (by kernel_rfl) ?_
        refine WO.ixB (SA.F sameR sameT _ 15 _ (by kernel_rfl)) 81 ((best qc i) * 3) b 0 n 3 ((best qc i : Nat) : Int) (by kernel_rfl) (by omega) (by omega) (by omega) ?_
        refine WO.ldR (SA.S sameR sameT _ 16 _ (by kernel_rfl)) 82 [.int .i64 ((at0 qc (best qc i)).a), .int .i64 ((at0 qc (best qc i)).b), .int .i64 ((at0 qc (best qc i)).t)] b (best qc i) 3 ((best qc i) * 3) (same HR) (by rw [List.length_map]; have := hql; omega) (map_at qc (best qc i) (by have := hql; omega)) rfl (by omega) (by kernel_rfl) (by kernel_rfl) ?_
        refine WO.one (SA.F sameR sameT _ 17 _ (by kernel_rfl)) 83 (.pointer (some ⟨g, 0, none⟩)) (by kernel_rfl) ?_
        refine WO.one (SA.F sameR sameT _ 18 _ (by kernel_rfl)) 84 (.pointer (some ⟨g, 0, none⟩)) (by kernel_rfl) ?_
        refine WO.one (SA.F sameR sameT _ 19 _ (by kernel_rfl)) 85 (.pointer (some ⟨g, 0, none⟩)) (by kernel_rfl) ?_
        refine WO.ld (SA.S sameR sameT _ 20 _ (by kernel_rfl)) 86 (.slice (some ⟨b, 0, none⟩) n cap) (by kernel_rfl) (same (HB.at 0 (by kernel_rfl))) ?_
        refine WO.one (SA.F sameR sameT _ 21 _ (by kernel_rfl)) 87 (.int .i64 (i : Int)) (by kernel_rfl) ?_
        refine WO.ixB (SA.F sameR sameT _ 22 _ (by kernel_rfl)) 88 (i * 3) b 0 n 3 (i : Int) (by kernel_rfl) (by omega) (by omega) (by omega) ?_
        refine WO.ldR (SA.S sameR sameT _ 23 _ (by kernel_rfl)) 89 [.int .i64 ((at0 qc i).a), .int .i64 ((at0 qc i).b), .int .i64 ((at0 qc i).t)] b i 3 (i * 3) (same HR) (by rw [List.length_map]; have := hql; omega) (map_at qc i (by have := hql; omega)) rfl (by omega) (by kernel_rfl) (by kernel_rfl) ?_
        refine WO.ixB (SA.F sameR sameT _ 24 _ (by kernel_rfl)) 90 (i * 3) b 0 n 3 (i : Int) (by kernel_rfl) (by omega) (by omega) (by omega) ?_
        refine WO.stR (SA.E _ 25 _ (by kernel_rfl) rfl) b i (i * 3) [.int .i64 ((at0 qc (best qc i)).a), .int .i64 ((at0 qc (best qc i)).b), .int .i64 ((at0 qc (best qc i)).t)] HR (by rw [List.length_map]; have := hql; omega) rfl (by omega) rfl (by kernel_rfl) (fun _ _ => trivial) ?_
        intro w14 HR16 F15 _
        have HB := Blk.keep HB F15 (ninC (Ne.symm hbg) (nin0 _))
        have HA := Fr.step HA F15 (inSL (by simp) inS0)
        have HR16 : RowB w14 b 68 3 cap ((qc.set i (at0 qc (best qc i))).map cE) := by rw [List.map_set]; exact HR16
        refine WO.ixB (SA.F sameR sameT _ 26 _ (by kernel_rfl)) 91 ((best qc i) * 3) b 0 n 3 ((best qc i : Nat) : Int) (by kernel_rfl) (by omega) (by omega) (by omega) ?_
        refine WO.stR (SA.E _ 27 _ (by kernel_rfl) rfl) b (best qc i) ((best qc i) * 3) [.int .i64 ((at0 qc i).a), .int .i64 ((at0 qc i).b), .int .i64 ((at0 qc i).t)] HR16 (by rw [List.length_map]; have := (show (qc.set i (at0 qc (best qc i))).length = qc.length from List.length_set).trans (hql); omega) rfl (by omega) rfl (by kernel_rfl) (fun _ _ => trivial) ?_
        intro w17 HR19 F18 _
        have HB := Blk.keep HB F18 (ninC (Ne.symm hbg) (nin0 _))
        have HA := Fr.step HA F18 (inSL (by simp) inS0)
        have HR19 : RowB w17 b 68 3 cap (((qc.set i (at0 qc (best qc i))).set (best qc i) (at0 qc i)).map cE) := by rw [List.map_set]; exact HR19
        refine WO.doneA (by kernel_rfl) ?_
        refine WQ.keep [0, 2, 3, 4, 5, 41, 46, 65] (e' := [(0, .pointer (some ⟨g, 0, none⟩)), (2, .int .i64 ((n : Nat) : Int)), (3, .int .i64 (i : Int)), (4, .int .i64 ((best qc i : Nat) : Int)), (5, .int .i64 (k : Int)), (41, .bool true), (46, .bool true), (65, .bool false)]) (by kernel_rfl) ?_
        refine WQ.thenN ?_
        -- R13 timer.go:76
        refine WE.region ?_
        refine WO.run 2 0 [(3, .int .i64 ((best qc i : Nat) : Int)), (92, .int .i64 ((best qc i : Nat) : Int))] (by kernel_rfl) (by kernel_rfl) ?_
        refine WO.done (by kernel_rfl) ?_
        refine WQ.keep [0, 2, 3, 4, 5, 41, 46, 65] (e' := [(0, .pointer (some ⟨g, 0, none⟩)), (2, .int .i64 ((n : Nat) : Int)), (3, .int .i64 ((best qc i : Nat) : Int)), (4, .int .i64 ((best qc i : Nat) : Int)), (5, .int .i64 (k : Int)), (41, .bool true), (46, .bool true), (65, .bool false)]) (by kernel_rfl) ?_
        refine WQ.blkN ?_
        refine WQ.round ?_
        intro a_ ha_
        refine ⟨(best qc i, swap qc i (best qc i)), ?_, ha_.keep [0, 2, 3] (by kernel_rfl), ?_⟩
        · show n - best qc i < n - i; omega
        · exact ⟨by show (swap qc i (best qc i)).length = _; rw [swap_len]; exact hql, Or.inl hbl, by rw [← hs]; exact (sink_step n qc i hql (by omega) (by omega)).symm, HB, HR19, HA⟩
    · intro h10
      refine WO.done (by kernel_rfl) ?_
      refine WQ.keep [0, 2, 3, 4, 5, 41, 46] (e' := [(0, .pointer (some ⟨g, 0, none⟩)), (2, .int .i64 ((n : Nat) : Int)), (3, .int .i64 (i : Int)), (4, .int .i64 ((bestK qc i k : Nat) : Int)), (5, .int .i64 (k : Int)), (41, .bool true), (46, .bool false)]) (by kernel_rfl) ?_
      refine WQ.thenN ?_
      refine WE.condF (by kernel_rfl) ?_
      refine WE.skip ?_
      refine WQ.thenN ?_
      refine WE.seq ?_
      have hin : i < n := by omega
      have hbk : bestK qc i k < n := by have := bestK_lt qc i k (by omega); omega
      -- R9* timer.go:68
      refine WE.draw [.free, .free, .free, .still, .free, .free, .still, .free, .free, .free, .still, .free, .free, .still, .eff] Same sameR (by kernel_rfl) 15 (Array.replicate 15 false) (by kernel_rfl) rfl ?_
      intro w20 F21 _
      have HB := Blk.keep HB F21 (nin0 _)
      have HR := RowB.keep HR F21 (nin0 _)
      have HA := Fr.step0 HA F21
      refine WO.one (SA.F sameR sameT _ 0 _ (by kernel_rfl)) 47 (.pointer (some ⟨g, 0, none⟩)) (by kernel_rfl) ?_
      refine WO.one (SA.F sameR sameT _ 1 _ (by kernel_rfl)) 48 (.pointer (some ⟨g, 0, none⟩)) (by kernel_rfl) ?_
      refine WO.one (SA.F sameR sameT _ 2 _ (by kernel_rfl)) 49 (.pointer (some ⟨g, 0, none⟩)) (by kernel_rfl) ?_
      refine WO.ld (SA.S sameR sameT _ 3 _ (by kernel_rfl)) 50 (.slice (some ⟨b, 0, none⟩) n cap) (by kernel_rfl) (same (HB.at 0 (by kernel_rfl))) ?_
      refine WO.one (SA.F sameR sameT _ 4 _ (by kernel_rfl)) 51 (.int .i64 (k : Int)) (by kernel_rfl) ?_
      refine WO.ixB (SA.F sameR sameT _ 5 _ (by kernel_rfl)) 52 (k * 3) b 0 n 3 (k : Int) (by kernel_rfl) (by omega) (by omega) (by omega) ?_
      refine WO.ldR (SA.S sameR sameT _ 6 _ (by kernel_rfl)) 53 [.int .i64 ((at0 qc k).a), .int .i64 ((at0 qc k).b), .int .i64 ((at0 qc k).t)] b k 3 (k * 3) (same HR) (by rw [List.length_map]; have := hql; omega) (map_at qc k (by have := hql; omega)) rfl (by omega) (by kernel_rfl) (by kernel_rfl) ?_
      refine WO.one (SA.F sameR sameT _ 7 _ (by kernel_rfl)) 54 (.pointer (some ⟨g, 0, none⟩)) (by kernel_rfl) ?_
      refine WO.one (SA.F sameR sameT _ 8 _ (by kernel_rfl)) 55 (.pointer (some ⟨g, 0, none⟩)) (by kernel_rfl) ?_
      refine WO.one (SA.F sameR sameT _ 9 _ (by kernel_rfl)) 56 (.pointer (some ⟨g, 0, none⟩)) (by kernel_rfl) ?_
      refine WO.ld (SA.S sameR sameT _ 10 _ (by kernel_rfl)) 57 (.slice (some ⟨b, 0, none⟩) n cap) (by kernel_rfl) (same (HB.at 0 (by kernel_rfl))) ?_
      refine WO.one (SA.F sameR sameT _ 11 _ (by kernel_rfl)) 58 (.int .i64 ((bestK qc i k : Nat) : Int)) (by kernel_rfl) ?_
      refine WO.ixB (SA.F sameR sameT _ 12 _ (by kernel_rfl)) 59 ((bestK qc i k) * 3) b 0 n 3 ((bestK qc i k : Nat) : Int) (by kernel_rfl) (by omega) (by omega) (by omega) ?_
      refine WO.ldR (SA.S sameR sameT _ 13 _ (by kernel_rfl)) 60 [.int .i64 ((at0 qc (bestK qc i k)).a), .int .i64 ((at0 qc (bestK qc i k)).b), .int .i64 ((at0 qc (bestK qc i k)).t)] b (bestK qc i k) 3 ((bestK qc i k) * 3) (same HR) (by rw [List.length_map]; have := hql; omega) (map_at qc (bestK qc i k) (by have := hql; omega)) rfl (by omega) (by kernel_rfl) (by kernel_rfl) ?_
      refine WO.call (SA.E _ 14 _ (by kernel_rfl) rfl) 61 (by kernel_rfl) (ahead_any ((at0 qc k).a) ((at0 qc k).b) ((at0 qc k).t) ((at0 qc (bestK qc i k)).a) ((at0 qc (bestK qc i k)).b) ((at0 qc (bestK qc i k)).t) _) ?_
      rintro _ w22 ⟨rfl, F23⟩
      refine ⟨_, rfl, trivial, ?_⟩
      have HB := Blk.keep HB F23 (nin0 _)
      have HR := RowB.keep HR F23 (nin0 _)
      have HA := Fr.step0 HA F23
      refine WO.topB (aheadB ((at0 qc k).a) ((at0 qc k).t) ((at0 qc (bestK qc i k)).a) ((at0 qc (bestK qc i k)).t)) ?_ ?_
      · intro h24
        refine WO.doneA (by kernel_rfl) ?_
        refine WQ.keep [0, 2, 3, 4, 5, 41, 46, 61] (e' := [(0, .pointer (some ⟨g, 0, none⟩)), (2, .int .i64 ((n : Nat) : Int)), (3, .int .i64 (i : Int)), (4, .int .i64 ((bestK qc i k : Nat) : Int)), (5, .int .i64 (k : Int)), (41, .bool true), (46, .bool false), (61, .bool true)]) (by kernel_rfl) ?_
        refine WQ.thenN ?_
        refine WE.condT (by kernel_rfl) ?_
        -- R10 timer.go:69
        refine WE.region ?_
        refine WO.run 2 0 [(4, .int .i64 (k : Int)), (62, .int .i64 (k : Int))] (by kernel_rfl) (by kernel_rfl) ?_
        refine WO.done (by kernel_rfl) ?_
        refine WQ.keep [0, 2, 3, 4, 5, 41, 46, 61] (e' := [(0, .pointer (some ⟨g, 0, none⟩)), (2, .int .i64 ((n : Nat) : Int)), (3, .int .i64 (i : Int)), (4, .int .i64 (k : Int)), (5, .int .i64 (k : Int)), (41, .bool true), (46, .bool false), (61, .bool true)]) (by kernel_rfl) ?_
        refine WQ.blkN ?_
        refine WQ.thenN ?_
        -- R7 timer.go:64
        refine WE.region ?_
        refine WO.run 1 0 [(42, .int .i64 (k : Int))] (by kernel_rfl) (by kernel_rfl) ?_
        refine WO.one (SQ.F 1 (by kernel_rfl)) 43 (.int .i64 (IntKind.i64.wrap ((k : Int) + 1))) (by kernel_rfl) ?_
        refine WO.top (v' := .int .i64 ((k + 1 : Nat) : Int)) (wrap_i64 (by omega) (by omega)) ?_
        refine WO.run 1 2 [(5, .int .i64 ((k + 1 : Nat) : Int))] (by kernel_rfl) (by kernel_rfl) ?_
        refine WO.done (by kernel_rfl) ?_
        refine WQ.keep [0, 2, 3, 4, 5, 41, 46, 61] (e' := [(0, .pointer (some ⟨g, 0, none⟩)), (2, .int .i64 ((n : Nat) : Int)), (3, .int .i64 (i : Int)), (4, .int .i64 (k : Int)), (5, .int .i64 ((k + 1 : Nat) : Int)), (41, .bool true), (46, .bool false), (61, .bool true)]) (by kernel_rfl) ?_
        have hk' : bestK qc i (k + 1) = k := bestK_yes qc i k (by omega) (by omega) (by rw [aheadB_lt] at h24; exact of_decide_eq_true h24)
        refine WQ.env (e' := [(0, .pointer (some ⟨g, 0, none⟩)), (2, .int .i64 ((n : Nat) : Int)), (3, .int .i64 (i : Int)), (4, .int .i64 ((bestK qc i (k + 1) : Nat) : Int)), (5, .int .i64 ((k + 1 : Nat) : Int)), (41, .bool true), (46, .bool false), (61, .bool true)]) (by rw [hk']) ?_
        refine WQ.round ?_
        intro a_ ha_
        refine ⟨k + 1, ?_, ha_.keep [0, 2, 3, 4, 5] (by kernel_rfl), ?_⟩
        · show 2 * i + 4 - (k + 1) < 2 * i + 4 - k; omega
        · exact ⟨by omega, by omega, HB, HR, HA⟩
      · intro h24
        refine WO.doneA (by kernel_rfl) ?_
        refine WQ.keep [0, 2, 3, 4, 5, 41, 46, 61] (e' := [(0, .pointer (some ⟨g, 0, none⟩)), (2, .int .i64 ((n : Nat) : Int)), (3, .int .i64 (i : Int)), (4, .int .i64 ((bestK qc i k : Nat) : Int)), (5, .int .i64 (k : Int)), (41, .bool true), (46, .bool false), (61, .bool false)]) (by kernel_rfl) ?_
        refine WQ.thenN ?_
        refine WE.condF (by kernel_rfl) ?_
        refine WE.skip ?_
        refine WQ.blkN ?_
        refine WQ.thenN ?_
        -- R7 timer.go:64
        refine WE.region ?_
        refine WO.run 1 0 [(42, .int .i64 (k : Int))] (by kernel_rfl) (by kernel_rfl) ?_
        refine WO.one (SQ.F 1 (by kernel_rfl)) 43 (.int .i64 (IntKind.i64.wrap ((k : Int) + 1))) (by kernel_rfl) ?_
        refine WO.top (v' := .int .i64 ((k + 1 : Nat) : Int)) (wrap_i64 (by omega) (by omega)) ?_
        refine WO.run 1 2 [(5, .int .i64 ((k + 1 : Nat) : Int))] (by kernel_rfl) (by kernel_rfl) ?_
        refine WO.done (by kernel_rfl) ?_
        refine WQ.keep [0, 2, 3, 4, 5, 41, 46, 61] (e' := [(0, .pointer (some ⟨g, 0, none⟩)), (2, .int .i64 ((n : Nat) : Int)), (3, .int .i64 (i : Int)), (4, .int .i64 ((bestK qc i k : Nat) : Int)), (5, .int .i64 ((k + 1 : Nat) : Int)), (41, .bool true), (46, .bool false), (61, .bool false)]) (by kernel_rfl) ?_
        have hk' : bestK qc i (k + 1) = bestK qc i k := bestK_no qc i k (by omega) (by rw [aheadB_lt] at h24; exact of_decide_eq_false h24)
        refine WQ.env (e' := [(0, .pointer (some ⟨g, 0, none⟩)), (2, .int .i64 ((n : Nat) : Int)), (3, .int .i64 (i : Int)), (4, .int .i64 ((bestK qc i (k + 1) : Nat) : Int)), (5, .int .i64 ((k + 1 : Nat) : Int)), (41, .bool true), (46, .bool false), (61, .bool false)]) (by rw [hk']) ?_
        refine WQ.round ?_
        intro a_ ha_
        refine ⟨k + 1, ?_, ha_.keep [0, 2, 3, 4, 5] (by kernel_rfl), ?_⟩
        · show 2 * i + 4 - (k + 1) < 2 * i + 4 - k; omega
        · exact ⟨by omega, by omega, HB, HR, HA⟩
  · intro h9
    refine WO.done (by kernel_rfl) ?_
    refine WQ.keep [0, 2, 3, 4, 5, 41] (e' := [(0, .pointer (some ⟨g, 0, none⟩)), (2, .int .i64 ((n : Nat) : Int)), (3, .int .i64 (i : Int)), (4, .int .i64 ((bestK qc i k : Nat) : Int)), (5, .int .i64 (k : Int)), (41, .bool false)]) (by kernel_rfl) ?_
    refine WQ.thenN ?_
    refine WE.condF (by kernel_rfl) ?_
    refine WE.exit ?_
    refine WQ.thenE ?_
    refine WQ.thenE ?_
    refine WQ.blkE ?_
    refine WQ.thenN ?_
    refine WE.seq ?_
    refine WE.seq ?_
    have hbest : bestK qc i k = best qc i := bestK_end qc i k (by omega)
    refine WE.env (e' := [(0, .pointer (some ⟨g, 0, none⟩)), (2, .int .i64 ((n : Nat) : Int)), (3, .int .i64 (i : Int)), (4, .int .i64 ((best qc i : Nat) : Int)), (5, .int .i64 (k : Int)), (41, .bool false)]) (by rw [hbest]) ?_
    -- R11 timer.go:72
    refine WE.region ?_
    refine WO.run 2 0 [(64, .int .i64 (i : Int)), (63, .int .i64 ((best qc i : Nat) : Int))] (by kernel_rfl) (by kernel_rfl) ?_
    refine WO.one (SQ.F 2 (by kernel_rfl)) 65 (.bool (decide ((((best qc i) : Int) : Int) = (i : Int)))) (by kernel_rfl) ?_
    refine WO.topP ((((best qc i) : Int) : Int) = (i : Int)) ?_ ?_
    · intro h25
      refine WO.done (by kernel_rfl) ?_
      refine WQ.keep [0, 2, 3, 4, 5, 41, 65] (e' := [(0, .pointer (some ⟨g, 0, none⟩)), (2, .int .i64 ((n : Nat) : Int)), (3, .int .i64 (i : Int)), (4, .int .i64 ((best qc i : Nat) : Int)), (5, .int .i64 (k : Int)), (41, .bool false), (65, .bool true)]) (by kernel_rfl) ?_
      refine WQ.thenN ?_
      refine WE.condT (by kernel_rfl) ?_
      refine WE.exit ?_
      refine WQ.thenE ?_
      refine WQ.blkX (by kernel_rfl) ?_
      refine WQ.thenE ?_
      refine WQ.blkE ?_
      refine WQ.scN ?_
      refine WQ.fall (v := .tuple #[]) (by kernel_rfl) ?_
      rw [popQ_eq q n hn, ← hs, sink_stop _ qc i (by omega)]
      exact ⟨rfl, HB, HR, HA⟩
    · intro h25
      refine WO.done (by kernel_rfl) ?_
      refine WQ.keep [0, 2, 3, 4, 5, 41, 65] (e' := [(0, .pointer (some ⟨g, 0, none⟩)), (2, .int .i64 ((n : Nat) : Int)), (3, .int .i64 (i : Int)), (4, .int .i64 ((best qc i : Nat) : Int)), (5, .int .i64 (k : Int)), (41, .bool false), (65, .bool false)]) (by kernel_rfl) ?_
      refine WQ.thenN ?_
      refine WE.condF (by kernel_rfl) ?_
      refine WE.skip ?_
      refine WQ.thenN ?_
      refine WE.seq ?_
      have hbc := (best_cases qc i).1
      have hbl : best qc i < n := by omega
      have hin : i < n := by omega
      have hgt : i < best qc i := by omega
      -- R12* timer.go:75
      refine WE.draw [.free, .free, .free, .still, .free, .free, .free, .free, .still, .free, .free, .free, .free, .still, .free, .free, .still, .free, .free, .free, .still, .free, .free, .still, .free, .eff, .free, .eff] Same sameR (by kernel_rfl) 28 (Array.replicate 28 false) (by kernel_rfl) rfl ?_
      intro w26 F27 _
      have HB := Blk.keep HB F27 (nin0 _)
      have HR := RowB.keep HR F27 (nin0 _)
      have HA := Fr.step0 HA F27
      refine WO.one (SA.F sameR sameT _ 0 _ (by kernel_rfl)) 66 (.pointer (some ⟨g, 0, none⟩)) (by kernel_rfl) ?_
      refine WO.one (SA.F sameR sameT _ 1 _ (by kernel_rfl)) 67 (.pointer (some ⟨g, 0, none⟩)) (by kernel_rfl) ?_
      refine WO.one (SA.F sameR sameT _ 2 _ (by kernel_rfl)) 68 (.pointer (some ⟨g, 0, none⟩)) (by kernel_rfl) ?_
      refine WO.ld (SA.S sameR sameT _ 3 _ (by kernel_rfl)) 69 (.slice (some ⟨b, 0, none⟩) n cap) (by kernel_rfl) (same (HB.at 0 (by kernel_rfl))) ?_
      refine WO.one (SA.F sameR sameT _ 4 _ (by kernel_rfl)) 70 (.int .i64 (i : Int)) (by kernel_rfl) ?_
      refine WO.one (SA.F sameR sameT _ 5 _ (by kernel_rfl)) 71 (.pointer (some ⟨g, 0, none⟩)) (by kernel_rfl) ?_
      refine WO.one (SA.F sameR sameT _ 6 _ (by kernel_rfl)) 72 (.pointer (some ⟨g, 0, none⟩)) (by kernel_rfl) ?_
      refine WO.one (SA.F sameR sameT _ 7 _ (by kernel_rfl)) 73 (.pointer (some ⟨g, 0, none⟩)) (by kernel_rfl) ?_
      refine WO.ld (SA.S sameR sameT _ 8 _ (by kernel_rfl)) 74 (.slice (some ⟨b, 0, none⟩) n cap) (by kernel_rfl) (same (HB.at 0 (by kernel_rfl))) ?_
      refine WO.one (SA.F sameR sameT _ 9 _ (by kernel_rfl)) 75 (.int .i64 ((best qc i : Nat) : Int)) (by kernel_rfl) ?_
      refine WO.one (SA.F sameR sameT _ 10 _ (by kernel_rfl)) 76 (.pointer (some ⟨g, 0, none⟩)) (by kernel_rfl) ?_
      refine WO.one (SA.F sameR sameT _ 11 _ (by kernel_rfl)) 77 (.pointer (some ⟨g, 0, none⟩)) (by kernel_rfl) ?_
      refine WO.one (SA.F sameR sameT _ 12 _ (by kernel_rfl)) 78 (.pointer (some ⟨g, 0, none⟩)) (by kernel_rfl) ?_
      refine WO.ld (SA.S sameR sameT _ 13 _ (by kernel_rfl)) 79 (.slice (some ⟨b, 0, none⟩) n cap) (by kernel_rfl) (same (HB.at 0 (by kernel_rfl))) ?_
      refine WO.one (SA.F sameR sameT _ 14 _ (by kernel_rfl)) 80 (.int .i64 ((best qc i : Nat) : Int)) (by kernel_rfl) ?_
      refine WO.ixB (SA.F sameR sameT _ 15 _ (by kernel_rfl)) 81 ((best qc i) * 3) b 0 n 3 ((best qc i : Nat) : Int) (by kernel_rfl) (by omega) (by omega) (by omega) ?_
      refine WO.ldR (SA.S sameR sameT _ 16 _ (by kernel_rfl)) 82 [.int .i64 ((at0 qc (best qc i)).a), .int .i64 ((at0 qc (best qc i)).b), .int .i64 ((at0 qc (best qc i)).t)] b (best qc i) 3 ((best qc i) * 3) (same HR) (by rw [List.length_map]; have := hql; omega) (map_at qc (best qc i) (by have := hql; omega)) rfl (by omega) (by kernel_rfl) (by kernel_rfl) ?_
      refine WO.one (SA.F sameR sameT _ 17 _ (by kernel_rfl)) 83 (.pointer (some ⟨g, 0, none⟩)) (by kernel_rfl) ?_
      refine WO.one (SA.F sameR sameT _ 18 _ (by kernel_rfl)) 84 (.pointer (some ⟨g, 0, none⟩)) (by kernel_rfl) ?_
      refine WO.one (SA.F sameR sameT _ 19 _ (by kernel_rfl)) 85 (.pointer (some ⟨g, 0, none⟩)) (by kernel_rfl) ?_
      refine WO.ld (SA.S sameR sameT _ 20 _ (by kernel_rfl)) 86 (.slice (some ⟨b, 0, none⟩) n cap) (by kernel_rfl) (same (HB.at 0 (by kernel_rfl))) ?_
      refine WO.one (SA.F sameR sameT _ 21 _ (by kernel_rfl)) 87 (.int .i64 (i : Int)) (by kernel_rfl) ?_
      refine WO.ixB (SA.F sameR sameT _ 22 _ (by kernel_rfl)) 88 (i * 3) b 0 n 3 (i : Int) (by kernel_rfl) (by omega) (by omega) (by omega) ?_
      refine WO.ldR (SA.S sameR sameT _ 23 _ (by kernel_rfl)) 89 [.int .i64 ((at0 qc i).a), .int .i64 ((at0 qc i).b), .int .i64 ((at0 qc i).t)] b i 3 (i * 3) (same HR) (by rw [List.length_map]; have := hql; omega) (map_at qc i (by have := hql; omega)) rfl (by omega) (by kernel_rfl) (by kernel_rfl) ?_
      refine WO.ixB (SA.F sameR sameT _ 24 _ (by kernel_rfl)) 90 (i * 3) b 0 n 3 (i : Int) (by kernel_rfl) (by omega) (by omega) (by omega) ?_
      refine WO.stR (SA.E _ 25 _ (by kernel_rfl) rfl) b i (i * 3) [.int .i64 ((at0 qc (best qc i)).a), .int .i64 ((at0 qc (best qc i)).b), .int .i64 ((at0 qc (best qc i)).t)] HR (by rw [List.length_map]; have := hql; omega) rfl (by omega) rfl (by kernel_rfl) (fun _ _ => trivial) ?_
      intro w28 HR30 F29 _
      have HB := Blk.keep HB F29 (ninC (Ne.symm hbg) (nin0 _))
      have HA := Fr.step HA F29 (inSL (by simp) inS0)
      have HR30 : RowB w28 b 68 3 cap ((qc.set i (at0 qc (best qc i))).map cE) := by rw [List.map_set]; exact HR30
      refine WO.ixB (SA.F sameR sameT _ 26 _ (by kernel_rfl)) 91 ((best qc i) * 3) b 0 n 3 ((best qc i : Nat) : Int) (by kernel_rfl) (by omega) (by omega) (by omega) ?_
      refine WO.stR (SA.E _ 27 _ (by kernel_rfl) rfl) b (best qc i) ((best qc i) * 3) [.int .i64 ((at0 qc i).a), .int .i64 ((at0 qc i).b), .int .i64 ((at0 qc i).t)] HR30 (by rw [List.length_map]; have := (show (qc.set i (at0 qc (best qc i))).length = qc.length from List.length_set).trans (hql); omega) rfl (by omega) rfl (by kernel_rfl) (fun _ _ => trivial) ?_
      intro w31 HR33 F32 _
      have HB := Blk.keep HB F32 (ninC (Ne.symm hbg) (nin0 _))
      have HA := Fr.step HA F32 (inSL (by simp) inS0)
      have HR33 : RowB w31 b 68 3 cap (((qc.set i (at0 qc (best qc i))).set (best qc i) (at0 qc i)).map cE) := by rw [List.map_set]; exact HR33
      refine WO.doneA (by kernel_rfl) ?_
      refine WQ.keep [0, 2, 3, 4, 5, 41, 65] (e' := [(0, .pointer (some ⟨g, 0, none⟩)), (2, .int .i64 ((n : Nat) : Int)), (3, .int .i64 (i : Int)), (4, .int .i64 ((best qc i : Nat) : Int)), (5, .int .i64 (k : Int)), (41, .bool false), (65, .bool false)]) (by kernel_rfl) ?_
      refine WQ.thenN ?_
      -- R13 timer.go:76
      refine WE.region ?_
      refine WO.run 2 0 [(3, .int .i64 ((best qc i : Nat) : Int)), (92, .int .i64 ((best qc i : Nat) : Int))] (by kernel_rfl) (by kernel_rfl) ?_
      refine WO.done (by kernel_rfl) ?_
      refine WQ.keep [0, 2, 3, 4, 5, 41, 65] (e' := [(0, .pointer (some ⟨g, 0, none⟩)), (2, .int .i64 ((n : Nat) : Int)), (3, .int .i64 ((best qc i : Nat) : Int)), (4, .int .i64 ((best qc i : Nat) : Int)), (5, .int .i64 (k : Int)), (41, .bool false), (65, .bool false)]) (by kernel_rfl) ?_
      refine WQ.blkN ?_
      refine WQ.round ?_
      intro a_ ha_
      refine ⟨(best qc i, swap qc i (best qc i)), ?_, ha_.keep [0, 2, 3] (by kernel_rfl), ?_⟩
      · show n - best qc i < n - i; omega
      · exact ⟨by show (swap qc i (best qc i)).length = _; rw [swap_len]; exact hql, Or.inl hbl, by rw [← hs]; exact (sink_step n qc i hql (by omega) (by omega)).symm, HB, HR33, HA⟩

set_option maxRecDepth 100000 in
set_option maxHeartbeats 400000 in
theorem len_nil (g : Nat) (t : Int) (w : World) (HB : Blk w g #[.slice none 0 0, .int .i64 t] 66) :
    Calls Try.prog 16 #[.pointer (some ⟨g, 0, none⟩)] w fun e w' => e = .returned (.int .i64 (0 : Int)) ∧ Fr [] w w' := by
  have HA := Fr.refl [] w
  refine enter (N := 8) Try.func16 (c := _) rfl (by kernel_rfl) (by kernel_rfl) (e := [(0, .pointer (some ⟨g, 0, none⟩))]) (by kernel_rfl) ?_
  refine WE.seq ?_
  -- R0 timer.go:91
  refine WE.region ?_
  refine WO.run 1 0 [(2, .int .i64 0)] (by kernel_rfl) (by kernel_rfl) ?_
  refine WO.done (by kernel_rfl) ?_
  refine WQ.keep [0, 2] (e' := [(0, .pointer (some ⟨g, 0, none⟩)), (2, .int .i64 0)]) (by kernel_rfl) ?_
  refine WQ.thenN ?_
  refine WE.seq ?_
  -- R1 timer.go:91
  refine WE.region ?_
  refine WO.run 3 0 [(5, .pointer (some ⟨g, 0, none⟩)), (4, .pointer (some ⟨g, 0, none⟩)), (3, .pointer (some ⟨g, 0, none⟩))] (by kernel_rfl) (by kernel_rfl) ?_
  refine WO.ld (SQ.S 3 (by kernel_rfl)) 6 (.slice none 0 0) (by kernel_rfl) (same (HB.at 0 (by kernel_rfl))) ?_
  refine WO.run 2 4 [(2, .int .i64 0), (7, .int .i64 0)] (by kernel_rfl) (by kernel_rfl) ?_
  refine WO.done (by kernel_rfl) ?_
  refine WQ.keep [0, 2] (e' := [(0, .pointer (some ⟨g, 0, none⟩)), (2, .int .i64 0)]) (by kernel_rfl) ?_
  refine WQ.thenN ?_
  refine WE.ret ?_
  refine WQ.ret (v := .int .i64 0) (by kernel_rfl) ?_
  exact ⟨rfl, HA⟩

set_option maxRecDepth 100000 in
set_option maxHeartbeats 400000 in
theorem len_row (g b cap n : Nat) (t : Int) (w : World) (HB : Blk w g #[.slice (some ⟨b, 0, none⟩) n cap, .int .i64 t] 66) :
    Calls Try.prog 16 #[.pointer (some ⟨g, 0, none⟩)] w fun e w' => e = .returned (.int .i64 (n : Int)) ∧ Fr [] w w' := by
  have HA := Fr.refl [] w
  refine enter (N := 8) Try.func16 (c := _) rfl (by kernel_rfl) (by kernel_rfl) (e := [(0, .pointer (some ⟨g, 0, none⟩))]) (by kernel_rfl) ?_
  refine WE.seq ?_
  -- R0 timer.go:91
  refine WE.region ?_
  refine WO.run 1 0 [(2, .int .i64 0)] (by kernel_rfl) (by kernel_rfl) ?_
  refine WO.done (by kernel_rfl) ?_
  refine WQ.keep [0, 2] (e' := [(0, .pointer (some ⟨g, 0, none⟩)), (2, .int .i64 0)]) (by kernel_rfl) ?_
  refine WQ.thenN ?_
  refine WE.seq ?_
  -- R1 timer.go:91
  refine WE.region ?_
  refine WO.run 3 0 [(5, .pointer (some ⟨g, 0, none⟩)), (4, .pointer (some ⟨g, 0, none⟩)), (3, .pointer (some ⟨g, 0, none⟩))] (by kernel_rfl) (by kernel_rfl) ?_
  refine WO.ld (SQ.S 3 (by kernel_rfl)) 6 (.slice (some ⟨b, 0, none⟩) n cap) (by kernel_rfl) (same (HB.at 0 (by kernel_rfl))) ?_
  refine WO.run 2 4 [(2, .int .i64 (n : Int)), (7, .int .i64 (n : Int))] (by kernel_rfl) (by kernel_rfl) ?_
  refine WO.done (by kernel_rfl) ?_
  refine WQ.keep [0, 2] (e' := [(0, .pointer (some ⟨g, 0, none⟩)), (2, .int .i64 (n : Int))]) (by kernel_rfl) ?_
  refine WQ.thenN ?_
  refine WE.ret ?_
  refine WQ.ret (v := .int .i64 (n : Int)) (by kernel_rfl) ?_
  exact ⟨rfl, HA⟩

set_option maxRecDepth 100000 in
set_option maxHeartbeats 400000 in
theorem next_nil (g : Nat) (t : Int) (w : World) (HB : Blk w g #[.slice none 0 0, .int .i64 t] 66) :
    Calls Try.prog 18 #[.pointer (some ⟨g, 0, none⟩)] w fun e w' => e = .returned (.tuple #[.agg #[.int .i64 0, .int .i64 0], .bool false]) ∧ Fr [] w w' := by
  have HA := Fr.refl [] w
  refine enter (N := 18) Try.func18 (c := _) rfl (by kernel_rfl) (by kernel_rfl) (e := [(0, .pointer (some ⟨g, 0, none⟩))]) (by kernel_rfl) ?_
  refine WE.seq ?_
  -- R0 timer.go:49
  refine WE.region ?_
  refine WO.bx (SQ.E 0 (by kernel_rfl)) 2 #[.int .i64 0, .int .i64 0] 33 (fun g => .pointer (some ⟨g, 0, none⟩)) (by kernel_rfl) (fun _ _ => trivial) ?_
  intro g1 w2 HB4 F3 le5 _
  have ne_g_g1 : g ≠ g1 := Nat.ne_of_lt (Nat.lt_of_lt_of_le HB.lt le5)
  have ge_HA_g1 := Nat.le_trans HA.size le5
  have HB := Blk.keep HB F3 (nin0 _)
  have HA := Fr.step0 HA F3
  refine WO.run 1 1 [(3, .bool false)] (by kernel_rfl) (by kernel_rfl) ?_
  refine WO.done (by kernel_rfl) ?_
  refine WQ.keep [0, 2, 3] (e' := [(0, .pointer (some ⟨g, 0, none⟩)), (2, .pointer (some ⟨g1, 0, none⟩)), (3, .bool false)]) (by kernel_rfl) ?_
  refine WQ.thenN ?_
  refine WE.seq ?_
  refine WE.seq ?_
  -- R1 timer.go:50
  refine WE.region ?_
  refine WO.run 3 0 [(6, .pointer (some ⟨g, 0, none⟩)), (5, .pointer (some ⟨g, 0, none⟩)), (4, .pointer (some ⟨g, 0, none⟩))] (by kernel_rfl) (by kernel_rfl) ?_
  refine WO.ld (SQ.S 3 (by kernel_rfl)) 7 (.slice none 0 0) (by kernel_rfl) (same (HB.at 0 (by kernel_rfl))) ?_
  refine WO.run 2 4 [(9, .bool true), (8, .int .i64 0)] (by kernel_rfl) (by kernel_rfl) ?_
  refine WO.done (by kernel_rfl) ?_
  refine WQ.keep [0, 2, 3, 9] (e' := [(0, .pointer (some ⟨g, 0, none⟩)), (2, .pointer (some ⟨g1, 0, none⟩)), (3, .bool false), (9, .bool true)]) (by kernel_rfl) ?_
  refine WQ.thenN ?_
  refine WE.condT (by kernel_rfl) ?_
  refine WE.seq ?_
  -- R2 timer.go:51
  refine WE.region ?_
  refine WO.run 1 0 [(10, .agg #[.int .i64 0, .int .i64 0])] (by kernel_rfl) (by kernel_rfl) ?_
  refine WO.st (SQ.E 1 (by kernel_rfl)) g1 0 [.int .i64 0, .int .i64 0] #[.int .i64 0, .int .i64 0] (by kernel_rfl) HB4 (by kernel_rfl) (by kernel_rfl) (fun _ _ => trivial) ?_
  intro w6 HB8 F7 _
  have HB := Blk.keep HB F7 (ninC ne_g_g1 (nin0 _))
  have HA := Fr.step HA F7 (inSR ge_HA_g1 inS0)
  refine WO.run 1 2 [(3, .bool false)] (by kernel_rfl) (by kernel_rfl) ?_
  refine WO.done (by kernel_rfl) ?_
  refine WQ.keep [0, 2, 3, 9] (e' := [(0, .pointer (some ⟨g, 0, none⟩)), (2, .pointer (some ⟨g1, 0, none⟩)), (3, .bool false), (9, .bool true)]) (by kernel_rfl) ?_
  refine WQ.thenN ?_
  refine WE.ret ?_
  refine WQ.thenR ?_
  refine WQ.ret2 (fn := Try.f18) (show Try.f18.results = #[.cell 2 33, .tmp 3] by kernel_rfl) (show resOk _ _ _ _ (.agg #[.int .i64 0, .int .i64 0]) from ⟨by kernel_rfl, ⟨g1, 0, none⟩, by kernel_rfl, ldVarB [.int .i64 0, .int .i64 0] (by kernel_rfl) (by kernel_rfl) (by kernel_rfl) HB8 (by kernel_rfl)⟩) (show resOk _ _ _ _ (.bool false) from ⟨by kernel_rfl, by kernel_rfl⟩) ?_
  exact ⟨rfl, HA⟩

set_option maxRecDepth 100000 in
set_option maxHeartbeats 400000 in
theorem next_none (g b cap : Nat) (t : Int) (w : World) (HB : Blk w g #[.slice (some ⟨b, 0, none⟩) 0 cap, .int .i64 t] 66) :
    Calls Try.prog 18 #[.pointer (some ⟨g, 0, none⟩)] w fun e w' => e = .returned (.tuple #[.agg #[.int .i64 0, .int .i64 0], .bool false]) ∧ Fr [] w w' := by
  have HA := Fr.refl [] w
  refine enter (N := 18) Try.func18 (c := _) rfl (by kernel_rfl) (by kernel_rfl) (e := [(0, .pointer (some ⟨g, 0, none⟩))]) (by kernel_rfl) ?_
  refine WE.seq ?_
  -- R0 timer.go:49
  refine WE.region ?_
  refine WO.bx (SQ.E 0 (by kernel_rfl)) 2 #[.int .i64 0, .int .i64 0] 33 (fun g => .pointer (some ⟨g, 0, none⟩)) (by kernel_rfl) (fun _ _ => trivial) ?_
  intro g1 w2 HB4 F3 le5 _
  have ne_g_g1 : g ≠ g1 := Nat.ne_of_lt (Nat.lt_of_lt_of_le HB.lt le5)
  have ge_HA_g1 := Nat.le_trans HA.size le5
  have HB := Blk.keep HB F3 (nin0 _)
  have HA := Fr.step0 HA F3
  refine WO.run 1 1 [(3, .bool false)] (by kernel_rfl) (by kernel_rfl) ?_
  refine WO.done (by kernel_rfl) ?_
  refine WQ.keep [0, 2, 3] (e' := [(0, .pointer (some ⟨g, 0, none⟩)), (2, .pointer (some ⟨g1, 0, none⟩)), (3, .bool false)]) (by kernel_rfl) ?_
  refine WQ.thenN ?_
  refine WE.seq ?_
  refine WE.seq ?_
  -- R1 timer.go:50
  refine WE.region ?_
  refine WO.run 3 0 [(6, .pointer (some ⟨g, 0, none⟩)), (5, .pointer (some ⟨g, 0, none⟩)), (4, .pointer (some ⟨g, 0, none⟩))] (by kernel_rfl) (by kernel_rfl) ?_
  refine WO.ld (SQ.S 3 (by kernel_rfl)) 7 (.slice (some ⟨b, 0, none⟩) 0 cap) (by kernel_rfl) (same (HB.at 0 (by kernel_rfl))) ?_
  refine WO.run 2 4 [(9, .bool true), (8, .int .i64 0)] (by kernel_rfl) (by kernel_rfl) ?_
  refine WO.done (by kernel_rfl) ?_
  refine WQ.keep [0, 2, 3, 9] (e' := [(0, .pointer (some ⟨g, 0, none⟩)), (2, .pointer (some ⟨g1, 0, none⟩)), (3, .bool false), (9, .bool true)]) (by kernel_rfl) ?_
  refine WQ.thenN ?_
  refine WE.condT (by kernel_rfl) ?_
  refine WE.seq ?_
  -- R2 timer.go:51
  refine WE.region ?_
  refine WO.run 1 0 [(10, .agg #[.int .i64 0, .int .i64 0])] (by kernel_rfl) (by kernel_rfl) ?_
  refine WO.st (SQ.E 1 (by kernel_rfl)) g1 0 [.int .i64 0, .int .i64 0] #[.int .i64 0, .int .i64 0] (by kernel_rfl) HB4 (by kernel_rfl) (by kernel_rfl) (fun _ _ => trivial) ?_
  intro w6 HB8 F7 _
  have HB := Blk.keep HB F7 (ninC ne_g_g1 (nin0 _))
  have HA := Fr.step HA F7 (inSR ge_HA_g1 inS0)
  refine WO.run 1 2 [(3, .bool false)] (by kernel_rfl) (by kernel_rfl) ?_
  refine WO.done (by kernel_rfl) ?_
  refine WQ.keep [0, 2, 3, 9] (e' := [(0, .pointer (some ⟨g, 0, none⟩)), (2, .pointer (some ⟨g1, 0, none⟩)), (3, .bool false), (9, .bool true)]) (by kernel_rfl) ?_
  refine WQ.thenN ?_
  refine WE.ret ?_
  refine WQ.thenR ?_
  refine WQ.ret2 (fn := Try.f18) (show Try.f18.results = #[.cell 2 33, .tmp 3] by kernel_rfl) (show resOk _ _ _ _ (.agg #[.int .i64 0, .int .i64 0]) from ⟨by kernel_rfl, ⟨g1, 0, none⟩, by kernel_rfl, ldVarB [.int .i64 0, .int .i64 0] (by kernel_rfl) (by kernel_rfl) (by kernel_rfl) HB8 (by kernel_rfl)⟩) (show resOk _ _ _ _ (.bool false) from ⟨by kernel_rfl, by kernel_rfl⟩) ?_
  exact ⟨rfl, HA⟩

set_option maxRecDepth 100000 in
set_option maxHeartbeats 400000 in
theorem next_row (g b cap n : Nat) (q : List Ent) (t : Int) (w : World) (hB : Blk w g #[.slice (some ⟨b, 0, none⟩) n cap, .int .i64 t] 66) (hR : RowB w b 68 3 cap (q.map cE)) (hbg : b ≠ g) (hn : q.length = n) (h0 : 0 < n) :
    Calls Try.prog 18 #[.pointer (some ⟨g, 0, none⟩)] w fun e w' => e = .returned (.tuple #[.agg #[.int .i64 (at0 q 0).a, .int .i64 (at0 q 0).b], .bool true]) ∧ Fr [] w w' := by
  have HB := hB
  have HR := hR
  have HA := Fr.refl [] w
  refine enter (N := 18) Try.func18 (c := _) rfl (by kernel_rfl) (by kernel_rfl) (e := [(0, .pointer (some ⟨g, 0, none⟩))]) (by kernel_rfl) ?_
  refine WE.seq ?_
  -- R0 timer.go:49
  refine WE.region ?_
  refine WO.bx (SQ.E 0 (by kernel_rfl)) 2 #[.int .i64 0, .int .i64 0] 33 (fun g => .pointer (some ⟨g, 0, none⟩)) (by kernel_rfl) (fun _ _ => trivial) ?_
  intro g1 w2 HB4 F3 le5 _
  have ne_g_g1 : g ≠ g1 := Nat.ne_of_lt (Nat.lt_of_lt_of_le HB.lt le5)
  have ne_b_g1 : b ≠ g1 := Nat.ne_of_lt (Nat.lt_of_lt_of_le HR.lt le5)
  have ge_HA_g1 := Nat.le_trans HA.size le5
  have HB := Blk.keep HB F3 (nin0 _)
  have HR := RowB.keep HR F3 (nin0 _)
  have HA := Fr.step0 HA F3
  refine WO.run 1 1 [(3, .bool false)] (by kernel_rfl) (by kernel_rfl) ?_
  refine WO.done (by kernel_rfl) ?_
  refine WQ.keep [0, 2, 3] (e' := [(0, .pointer (some ⟨g, 0, none⟩)), (2, .pointer (some ⟨g1, 0, none⟩)), (3, .bool false)]) (by kernel_rfl) ?_
  refine WQ.thenN ?_
  refine WE.seq ?_
  refine WE.seq ?_
  -- R1 timer.go:50
  refine WE.region ?_
  refine WO.run 3 0 [(6, .pointer (some ⟨g, 0, none⟩)), (5, .pointer (some ⟨g, 0, none⟩)), (4, .pointer (some ⟨g, 0, none⟩))] (by kernel_rfl) (by kernel_rfl) ?_
  refine WO.ld (SQ.S 3 (by kernel_rfl)) 7 (.slice (some ⟨b, 0, none⟩) n cap) (by kernel_rfl) (same (HB.at 0 (by kernel_rfl))) ?_
  refine WO.run 1 4 [(8, .int .i64 (n : Int))] (by kernel_rfl) (by kernel_rfl) ?_
  refine WO.one (SQ.F 5 (by kernel_rfl)) 9 (.bool (decide (((n : Int) : Int) = (0 : Int)))) (by kernel_rfl) ?_
  refine WO.topPF (((n : Int) : Int) = (0 : Int)) (by omega) ?_
  refine WO.done (by kernel_rfl) ?_
  refine WQ.keep [0, 2, 3, 9] (e' := [(0, .pointer (some ⟨g, 0, none⟩)), (2, .pointer (some ⟨g1, 0, none⟩)), (3, .bool false), (9, .bool false)]) (by kernel_rfl) ?_
  refine WQ.thenN ?_
  refine WE.condF (by kernel_rfl) ?_
  refine WE.skip ?_
  refine WQ.thenN ?_
  refine WE.seq ?_
  -- R3 timer.go:53
  refine WE.region ?_
  refine WO.run 3 0 [(13, .pointer (some ⟨g, 0, none⟩)), (12, .pointer (some ⟨g, 0, none⟩)), (11, .pointer (some ⟨g, 0, none⟩))] (by kernel_rfl) (by kernel_rfl) ?_
  refine WO.ld (SQ.S 3 (by kernel_rfl)) 14 (.slice (some ⟨b, 0, none⟩) n cap) (by kernel_rfl) (same (HB.at 0 (by kernel_rfl))) ?_
  refine WO.ixB (SQ.F 4 (by kernel_rfl)) 15 0 b 0 n 3 0 (by kernel_rfl) (by omega) (by omega) (by omega) ?_
  refine WO.run 1 5 [(16, .pointer (some ⟨b, 0, none⟩))] (by kernel_rfl) (by kernel_rfl) ?_
  refine WO.ldA (ad := ⟨b, 0, none⟩) (SQ.S 6 (by kernel_rfl)) 17 [.int .i64 ((at0 q 0).a), .int .i64 ((at0 q 0).b)] (by kernel_rfl) (by kernel_rfl) (fun _ hw_ jj_ hj_ => by subst hw_; exact HR.part 0 0 0 [.int .i64 ((at0 q 0).a), .int .i64 ((at0 q 0).b)] (by rw [List.length_map]; have := hn; omega) (map_at q 0 (by have := hn; omega)) (show 0 + 2 ≤ 3 by decide) rfl (by omega) jj_ hj_) ?_
  refine WO.st (SQ.E 7 (by kernel_rfl)) g1 0 [.int .i64 ((at0 q 0).a), .int .i64 ((at0 q 0).b)] #[.int .i64 ((at0 q 0).a), .int .i64 ((at0 q 0).b)] (by kernel_rfl) HB4 (by kernel_rfl) (by kernel_rfl) (fun _ _ => trivial) ?_
  intro w6 HB8 F7 _
  have HB := Blk.keep HB F7 (ninC ne_g_g1 (nin0 _))
  have HR := RowB.keep HR F7 (ninC ne_b_g1 (nin0 _))
  have HA := Fr.step HA F7 (inSR ge_HA_g1 inS0)
  refine WO.run 1 8 [(3, .bool true)] (by kernel_rfl) (by kernel_rfl) ?_
  refine WO.done (by kernel_rfl) ?_
  refine WQ.keep [0, 2, 3, 9] (e' := [(0, .pointer (some ⟨g, 0, none⟩)), (2, .pointer (some ⟨g1, 0, none⟩)), (3, .bool true), (9, .bool false)]) (by kernel_rfl) ?_
  refine WQ.thenN ?_
  refine WE.ret ?_
  refine WQ.ret2 (fn := Try.f18) (show Try.f18.results = #[.cell 2 33, .tmp 3] by kernel_rfl) (show resOk _ _ _ _ (.agg #[.int .i64 ((at0 q 0).a), .int .i64 ((at0 q 0).b)]) from ⟨by kernel_rfl, ⟨g1, 0, none⟩, by kernel_rfl, ldVarB [.int .i64 ((at0 q 0).a), .int .i64 ((at0 q 0).b)] (by kernel_rfl) (by kernel_rfl) (by kernel_rfl) HB8 (by kernel_rfl)⟩) (show resOk _ _ _ _ (.bool true) from ⟨by kernel_rfl, by kernel_rfl⟩) ?_
  exact ⟨rfl, HA⟩

set_option maxRecDepth 100000 in
set_option maxHeartbeats 400000 in
theorem take_nil (g : Nat) (t now : Int) (w : World) (HB : Blk w g #[.slice none 0 0, .int .i64 t] 66) :
    Calls Try.prog 15 #[.pointer (some ⟨g, 0, none⟩), .int .i64 now] w fun e w' => e = .returned (.slice none 0 0) ∧ Fr [] w w' := by
  have HA := Fr.refl [] w
  refine enter (N := 37) Try.func15 (c := _) rfl (by kernel_rfl) (by kernel_rfl) (e := [(0, .pointer (some ⟨g, 0, none⟩)), (1, .int .i64 now)]) (by kernel_rfl) ?_
  refine WE.seq ?_
  -- R0 timer.go:81
  refine WE.region ?_
  refine WO.run 1 0 [(4, .slice none 0 0)] (by kernel_rfl) (by kernel_rfl) ?_
  refine WO.done (by kernel_rfl) ?_
  refine WQ.keep [0, 1, 4] (e' := [(0, .pointer (some ⟨g, 0, none⟩)), (1, .int .i64 now), (4, .slice none 0 0)]) (by kernel_rfl) ?_
  refine WQ.thenN ?_
  refine WE.seq ?_
  -- R1 timer.go:82
  refine WE.region ?_
  refine WO.run 1 0 [(5, .slice none 0 0)] (by kernel_rfl) (by kernel_rfl) ?_
  refine WO.done (by kernel_rfl) ?_
  refine WQ.keep [0, 1, 4, 5] (e' := [(0, .pointer (some ⟨g, 0, none⟩)), (1, .int .i64 now), (4, .slice none 0 0), (5, .slice none 0 0)]) (by kernel_rfl) ?_
  refine WQ.thenN ?_
  refine WE.seq ?_
  refine WE.block ?_
  refine WE.loop (α := Unit) (E := fun _ => [(0, .pointer (some ⟨g, 0, none⟩)), (1, .int .i64 now), (4, .slice none 0 0), (5, .slice none 0 0)]) (I := fun _ wr => (True) ∧ w = wr) (m := fun _ => 0) () [0, 1, 4, 5] (by kernel_rfl) ?_ ?_
  · exact ⟨trivial, rfl⟩
  intro _ wr hI
  obtain ⟨_, hw⟩ := hI
  subst hw
  refine WE.seq ?_
  refine WE.seq ?_
  -- R2 timer.go:83
  refine WE.region ?_
  refine WO.run 3 0 [(8, .pointer (some ⟨g, 0, none⟩)), (7, .pointer (some ⟨g, 0, none⟩)), (6, .pointer (some ⟨g, 0, none⟩))] (by kernel_rfl) (by kernel_rfl) ?_
  refine WO.ld (SQ.S 3 (by kernel_rfl)) 9 (.slice none 0 0) (by kernel_rfl) (same (HB.at 0 (by kernel_rfl))) ?_
  refine WO.run 14 4 [(23, .bool false), (22, undef), (21, undef), (20, undef), (19, undef), (18, undef), (17, undef), (16, undef), (15, undef), (14, undef), (13, undef), (12, .bool false), (11, .bool false), (10, .int .i64 0)] (by kernel_rfl) (by kernel_rfl) ?_
  refine WO.done (by kernel_rfl) ?_
  refine WQ.keep [0, 1, 4, 5, 23] (e' := [(0, .pointer (some ⟨g, 0, none⟩)), (1, .int .i64 now), (4, .slice none 0 0), (5, .slice none 0 0), (23, .bool false)]) (by kernel_rfl) ?_
  refine WQ.thenN ?_
  refine WE.condF (by kernel_rfl) ?_
  refine WE.exit ?_
  refine WQ.thenE ?_
  refine WQ.thenE ?_
  refine WQ.blkE ?_
  refine WQ.thenN ?_
  refine WE.seq ?_
  -- R5 timer.go:87
  refine WE.region ?_
  refine WO.run 2 0 [(4, .slice none 0 0), (36, .slice none 0 0)] (by kernel_rfl) (by kernel_rfl) ?_
  refine WO.done (by kernel_rfl) ?_
  refine WQ.keep [0, 1, 4, 5, 23] (e' := [(0, .pointer (some ⟨g, 0, none⟩)), (1, .int .i64 now), (4, .slice none 0 0), (5, .slice none 0 0), (23, .bool false)]) (by kernel_rfl) ?_
  refine WQ.thenN ?_
  refine WE.ret ?_
  refine WQ.ret (v := .slice none 0 0) (by kernel_rfl) ?_
  exact ⟨rfl, HA⟩

set_option maxRecDepth 100000 in
set_option maxHeartbeats 1000000 in
theorem take_row (g b cap : Nat) (q : List Ent) (t now : Int) (w : World) (hB : Blk w g #[.slice (some ⟨b, 0, none⟩) q.length cap, .int .i64 t] 66) (hR : RowB w b 68 3 cap (q.map cE)) (hbg : b ≠ g) (h50 : q.length ≤ 1000) :
    Calls Try.prog 15 #[.pointer (some ⟨g, 0, none⟩), .int .i64 now] w fun e w' => ∃ v, e = .returned v ∧ OwnD w.heap.size w' v ((takeQ now q.length q).1.map due) ∧ Blk w' g #[.slice (some ⟨b, 0, none⟩) (takeQ now q.length q).2.length cap, .int .i64 t] 66 ∧ RowB w' b 68 3 cap ((takeQ now q.length q).2.map cE) ∧ Fr [g, b] w w' := by
  have HB := hB
  have HR := hR
  have HA := Fr.refl [g, b] w
  refine enter (N := 37) Try.func15 (c := _) rfl (by kernel_rfl) (by kernel_rfl) (e := [(0, .pointer (some ⟨g, 0, none⟩)), (1, .int .i64 now)]) (by kernel_rfl) ?_
  refine WE.seq ?_
  -- R0 timer.go:81
  refine WE.region ?_
  refine WO.run 1 0 [(4, .slice none 0 0)] (by kernel_rfl) (by kernel_rfl) ?_
  refine WO.done (by kernel_rfl) ?_
  refine WQ.keep [0, 1, 4] (e' := [(0, .pointer (some ⟨g, 0, none⟩)), (1, .int .i64 now), (4, .slice none 0 0)]) (by kernel_rfl) ?_
  refine WQ.thenN ?_
  refine WE.seq ?_
  -- R1 timer.go:82
  refine WE.region ?_
  refine WO.run 1 0 [(5, .slice none 0 0)] (by kernel_rfl) (by kernel_rfl) ?_
  refine WO.done (by kernel_rfl) ?_
  refine WQ.keep [0, 1, 4, 5] (e' := [(0, .pointer (some ⟨g, 0, none⟩)), (1, .int .i64 now), (4, .slice none 0 0), (5, .slice none 0 0)]) (by kernel_rfl) ?_
  refine WQ.thenN ?_
  refine WE.seq ?_
  refine WE.block ?_
  refine WE.loop (α := List Ent × List Ent × Value) (E := fun ⟨qc, es, v⟩ => [(0, .pointer (some ⟨g, 0, none⟩)), (1, .int .i64 now), (4, .slice none 0 0), (5, v)]) (I := fun ⟨qc, es, v⟩ wr => takeQ now q.length q = (es ++ (takeQ now qc.length qc).1, (takeQ now qc.length qc).2) ∧ qc.length ≤ q.length ∧ Blk wr g #[.slice (some ⟨b, 0, none⟩) qc.length cap, .int .i64 t] 66 ∧ RowB wr b 68 3 cap (qc.map cE) ∧ OwnD w.heap.size wr v (es.map due) ∧ Fr [g, b] w wr ∧ es.length + qc.length ≤ 1000) (m := fun ⟨qc, es, v⟩ => qc.length) (q, [], .slice none 0 0) [0, 1, 4, 5] (by kernel_rfl) ?_ ?_
  · exact ⟨rfl, Nat.le_refl _, HB, HR, Or.inl ⟨rfl, rfl⟩, HA, by simp; omega⟩
  rintro ⟨qc, es, v⟩ wr ⟨hT, hle, HB, HR, hO, HA, hes⟩
  dsimp only at hT hle HB HR hO hes ⊢
  refine WE.seq ?_
  refine WE.seq ?_
  -- R2 timer.go:83
  refine WE.region ?_
  refine WO.run 3 0 [(8, .pointer (some ⟨g, 0, none⟩)), (7, .pointer (some ⟨g, 0, none⟩)), (6, .pointer (some ⟨g, 0, none⟩))] (by kernel_rfl) (by kernel_rfl) ?_
  refine WO.ld (SQ.S 3 (by kernel_rfl)) 9 (.slice (some ⟨b, 0, none⟩) qc.length cap) (by kernel_rfl) (same (HB.at 0 (by kernel_rfl))) ?_
  refine WO.run 1 4 [(10, .int .i64 (qc.length : Int))] (by kernel_rfl) (by kernel_rfl) ?_
  refine WO.one (SQ.F 5 (by kernel_rfl)) 11 (.bool (decide (((qc.length : Int) : Int) > (0 : Int)))) (by kernel_rfl) ?_
  refine WO.topP (((qc.length : Int) : Int) > (0 : Int)) ?_ ?_
  · intro h1
    refine WO.run 4 6 [(15, .pointer (some ⟨g, 0, none⟩)), (14, .pointer (some ⟨g, 0, none⟩)), (13, .pointer (some ⟨g, 0, none⟩)), (12, .bool true)] (by kernel_rfl) (by kernel_rfl) ?_
    refine WO.ld (SQ.S 10 (by kernel_rfl)) 16 (.slice (some ⟨b, 0, none⟩) qc.length cap) (by kernel_rfl) (same (HB.at 0 (by kernel_rfl))) ?_
    refine WO.ixB (SQ.F 11 (by kernel_rfl)) 17 0 b 0 qc.length 3 0 (by kernel_rfl) (by omega) (by omega) (by omega) ?_
    refine WO.run 2 12 [(19, .pointer (some ⟨b, 0, none⟩)), (18, .pointer (some ⟨b, 0, none⟩))] (by kernel_rfl) (by kernel_rfl) ?_
    refine WO.ld (SQ.S 14 (by kernel_rfl)) 20 (.int .i64 ((at0 qc 0).a)) (by kernel_rfl) (same (HR.at 0 0 0 _ (by rw [List.length_map]; have := (rfl : qc.length = qc.length); omega) (by omega) (by rw [(map_at qc 0 (by have := (rfl : qc.length = qc.length); omega))]; rfl) (by omega))) ?_
    refine WO.run 1 15 [(21, .int .i64 now)] (by kernel_rfl) (by kernel_rfl) ?_
    refine WO.one (SQ.F 16 (by kernel_rfl)) 22 (.bool (decide (((at0 qc 0).a : Int) ≤ now))) (by kernel_rfl) ?_
    refine WO.topP (((at0 qc 0).a : Int) ≤ now) ?_ ?_
    · intro h2
      refine WO.run 1 17 [(23, .bool true)] (by kernel_rfl) (by kernel_rfl) ?_
      refine WO.done (by kernel_rfl) ?_
      refine WQ.keep [0, 1, 4, 5, 23] (e' := [(0, .pointer (some ⟨g, 0, none⟩)), (1, .int .i64 now), (4, .slice none 0 0), (5, v), (23, .bool true)]) (by kernel_rfl) ?_
      refine WQ.thenN ?_
      refine WE.condT (by kernel_rfl) ?_
      refine WE.skip ?_
      refine WQ.thenN ?_
      refine WE.block ?_
      refine WE.seq ?_
      have hnow : (at0 qc 0).a ≤ now := by omega
      obtain ⟨m, hm⟩ : ∃ m, qc.length = m + 1 := ⟨qc.length - 1, by omega⟩
      rcases hO with ⟨hv, he⟩ | ⟨b1, cap1, hv, hb1, hO⟩
      · subst hv
        have he0 : es = [] := by simpa using he
        -- R3 timer.go:84
        refine WE.region ?_
        refine WO.run 4 0 [(27, .pointer (some ⟨g, 0, none⟩)), (26, .pointer (some ⟨g, 0, none⟩)), (25, .pointer (some ⟨g, 0, none⟩)), (24, .slice none 0 0)] (by kernel_rfl) (by kernel_rfl) ?_
        refine WO.ld (SQ.S 4 (by kernel_rfl)) 28 (.slice (some ⟨b, 0, none⟩) qc.length cap) (by kernel_rfl) (same (HB.at 0 (by kernel_rfl))) ?_
        refine WO.ixB (SQ.F 5 (by kernel_rfl)) 29 0 b 0 qc.length 3 0 (by kernel_rfl) (by omega) (by omega) (by omega) ?_
        refine WO.run 1 6 [(30, .pointer (some ⟨b, 0, none⟩))] (by kernel_rfl) (by kernel_rfl) ?_
        refine WO.ldA (ad := ⟨b, 0, none⟩) (SQ.S 7 (by kernel_rfl)) 31 [.int .i64 ((at0 qc 0).a), .int .i64 ((at0 qc 0).b)] (by kernel_rfl) (by kernel_rfl) (fun _ hw_ jj_ hj_ => by subst hw_; exact HR.part 0 0 0 [.int .i64 ((at0 qc 0).a), .int .i64 ((at0 qc 0).b)] (by rw [List.length_map]; have := (rfl : qc.length = qc.length); omega) (map_at qc 0 (by have := (rfl : qc.length = qc.length); omega)) (show 0 + 2 ≤ 3 by decide) rfl (by omega) jj_ hj_) ?_
        refine WO.bx (SQ.E 8 (by kernel_rfl)) 32 #[.int .i64 ((at0 qc 0).a), .int .i64 ((at0 qc 0).b)] 33 (fun g => .slice (some ⟨g, 0, none⟩) 1 1) (by kernel_rfl) (fun _ _ => trivial) ?_
        intro g3 w4 HB6 F5 le7 _
        have ne_g_g3 : g ≠ g3 := Nat.ne_of_lt (Nat.lt_of_lt_of_le HB.lt le7)
        have ne_b_g3 : b ≠ g3 := Nat.ne_of_lt (Nat.lt_of_lt_of_le HR.lt le7)
        have ge_HA_g3 := Nat.le_trans HA.size le7
        have HB := Blk.keep HB F5 (nin0 _)
        have HR := RowB.keep HR F5 (nin0 _)
        have HA := Fr.step0 HA F5
        refine WO.appNil (SQ.E 9 (by kernel_rfl)) 33 (m := 1) (ys := List.map cD ([(⟨(at0 qc 0).a, (at0 qc 0).b⟩ : Due)])) et_d (by rw [List.length_map] <;> first | rfl | omega) (by omega) (RowB.src (RowB.of_blk (n := 1) HB6 (List.map cD [(⟨(at0 qc 0).a, (at0 qc 0).b⟩ : Due)]) rfl rfl (cD_len _) (cD_one _) (by omega))) (cD_len _) (cD_one _) (by kernel_rfl) (by omega) (by omega) (fun _ _ => trivial) ?_
        intro b8 cap9 w10 HR11 F12 le13 _
        have ne_g_b8 : g ≠ b8 := Nat.ne_of_lt (Nat.lt_of_lt_of_le HB.lt le13)
        have ne_g3_b8 : g3 ≠ b8 := Nat.ne_of_lt (Nat.lt_of_lt_of_le HB6.lt le13)
        have ne_b_b8 : b ≠ b8 := Nat.ne_of_lt (Nat.lt_of_lt_of_le HR.lt le13)
        have ge_HA_b8 := Nat.le_trans HA.size le13
        have HB := Blk.keep HB F12 (nin0 _)
        have HB6 := Blk.keep HB6 F12 (nin0 _)
        have HR := RowB.keep HR F12 (nin0 _)
        have HA := Fr.step0 HA F12
        refine WO.run 1 10 [(5, .slice (some ⟨b8, 0, none⟩) 1 cap9)] (by kernel_rfl) (by kernel_rfl) ?_
        refine WO.done (by kernel_rfl) ?_
        refine WQ.keep [0, 1, 4, 5, 23] (e' := [(0, .pointer (some ⟨g, 0, none⟩)), (1, .int .i64 now), (4, .slice none 0 0), (5, .slice (some ⟨b8, 0, none⟩) 1 cap9), (23, .bool true)]) (by kernel_rfl) ?_
        refine WQ.thenN ?_
        -- R4 timer.go:85
        refine WE.region ?_
        refine WO.run 1 0 [(34, .pointer (some ⟨g, 0, none⟩))] (by kernel_rfl) (by kernel_rfl) ?_
        have hpop := fun w1 h1 h2 => pop_row g b cap m qc t w1 h1 h2 hbg hm (by omega)
        rw [← hm] at hpop
        refine WO.call (SQ.E 1 (by kernel_rfl)) 35 (by kernel_rfl) (hpop w10 HB HR) ?_
        rintro _ w14 ⟨rfl, HB, HR, F15⟩
        refine ⟨_, rfl, trivial, ?_⟩
        have hb1' : w.heap.size ≤ b8 := ge_HA_b8
        have HB6 := Blk.keep HB6 F15 (ninC (Ne.symm ne_g_g3) (ninC (Ne.symm ne_b_g3) (nin0 _)))
        have HR11 := RowB.keep HR11 F15 (ninC (Ne.symm ne_g_b8) (ninC (Ne.symm ne_b_b8) (nin0 _)))
        have HA := Fr.step HA F15 (inSL (by simp) (inSL (by simp) inS0))
        refine WO.done (by kernel_rfl) ?_
        refine WQ.keep [0, 1, 4, 5, 23] (e' := [(0, .pointer (some ⟨g, 0, none⟩)), (1, .int .i64 now), (4, .slice none 0 0), (5, .slice (some ⟨b8, 0, none⟩) 1 cap9), (23, .bool true)]) (by kernel_rfl) ?_
        refine WQ.blkN ?_
        refine WQ.round ?_
        intro a_ ha_
        refine ⟨(popQ qc, es ++ [at0 qc 0], .slice (some ⟨b8, 0, none⟩) 1 cap9), ?_, ha_.keep [0, 1, 4, 5] (by kernel_rfl), ?_⟩
        · show (popQ qc).length < qc.length; rw [popQ_len]; omega
        · exact ⟨by rw [hT, takeQ_step now qc m hm hnow]; simp, by show (popQ qc).length ≤ _; rw [popQ_len]; omega, by show Blk _ g #[.slice _ (popQ qc).length cap, _] _; rw [popQ_len, hm]; exact HB, HR, Or.inr ⟨b8, cap9, by rw [he0]; rfl, hb1', by rw [he0]; exact HR11⟩, HA, by show (es ++ [at0 qc 0]).length + (popQ qc).length ≤ _; rw [popQ_len]; simp; omega⟩
      · subst hv
        have hel : (es.map due).length = es.length := List.length_map _
        have ne_g_b1 : g ≠ b1 := Nat.ne_of_lt (Nat.lt_of_lt_of_le hB.lt hb1)
        have ne_b_b1 : b ≠ b1 := Nat.ne_of_lt (Nat.lt_of_lt_of_le hR.lt hb1)
        -- R3 timer.go:84
        refine WE.region ?_
        refine WO.run 4 0 [(27, .pointer (some ⟨g, 0, none⟩)), (26, .pointer (some ⟨g, 0, none⟩)), (25, .pointer (some ⟨g, 0, none⟩)), (24, .slice (some ⟨b1, 0, none⟩) ((es.map due).length) cap1)] (by kernel_rfl) (by kernel_rfl) ?_
        refine WO.ld (SQ.S 4 (by kernel_rfl)) 28 (.slice (some ⟨b, 0, none⟩) qc.length cap) (by kernel_rfl) (same (HB.at 0 (by kernel_rfl))) ?_
        refine WO.ixB (SQ.F 5 (by kernel_rfl)) 29 0 b 0 qc.length 3 0 (by kernel_rfl) (by omega) (by omega) (by omega) ?_
        refine WO.run 1 6 [(30, .pointer (some ⟨b, 0, none⟩))] (by kernel_rfl) (by kernel_rfl) ?_
        refine WO.ldA (ad := ⟨b, 0, none⟩) (SQ.S 7 (by kernel_rfl)) 31 [.int .i64 ((at0 qc 0).a), .int .i64 ((at0 qc 0).b)] (by kernel_rfl) (by kernel_rfl) (fun _ hw_ jj_ hj_ => by subst hw_; exact HR.part 0 0 0 [.int .i64 ((at0 qc 0).a), .int .i64 ((at0 qc 0).b)] (by rw [List.length_map]; have := (rfl : qc.length = qc.length); omega) (map_at qc 0 (by have := (rfl : qc.length = qc.length); omega)) (show 0 + 2 ≤ 3 by decide) rfl (by omega) jj_ hj_) ?_
        refine WO.bx (SQ.E 8 (by kernel_rfl)) 32 #[.int .i64 ((at0 qc 0).a), .int .i64 ((at0 qc 0).b)] 33 (fun g => .slice (some ⟨g, 0, none⟩) 1 1) (by kernel_rfl) (fun _ _ => trivial) ?_
        intro g16 w17 HB19 F18 le20 _
        have ne_g_g16 : g ≠ g16 := Nat.ne_of_lt (Nat.lt_of_lt_of_le HB.lt le20)
        have ne_b_g16 : b ≠ g16 := Nat.ne_of_lt (Nat.lt_of_lt_of_le HR.lt le20)
        have ne_b1_g16 : b1 ≠ g16 := Nat.ne_of_lt (Nat.lt_of_lt_of_le hO.lt le20)
        have ge_HA_g16 := Nat.le_trans HA.size le20
        have HB := Blk.keep HB F18 (nin0 _)
        have HR := RowB.keep HR F18 (nin0 _)
        have hO := RowB.keep hO F18 (nin0 _)
        have HA := Fr.step0 HA F18
        refine WO.appRow (SQ.E 9 (by kernel_rfl)) 33 (m := 1) (ys := List.map cD ([(⟨(at0 qc 0).a, (at0 qc 0).b⟩ : Due)])) et_d hO (by rw [List.length_map, (rfl : (es.map due).length = (es.map due).length)]) (by rw [List.length_map] <;> first | rfl | omega) (RowB.src (RowB.of_blk (n := 1) HB19 (List.map cD [(⟨(at0 qc 0).a, (at0 qc 0).b⟩ : Due)]) rfl rfl (cD_len _) (cD_one _) (by omega))) (cD_len _) (cD_one _) (by kernel_rfl) (by omega) (by omega) (fun _ _ => trivial) ?_
        intro b21 cap22 w23 HR24 F25 hb26
        have ne_g_b21 : g ≠ b21 := hb26.elim (fun h => h ▸ ne_g_b1) (fun h => Nat.ne_of_lt (Nat.lt_of_lt_of_le HB.lt h))
        have ne_g16_b21 : g16 ≠ b21 := hb26.elim (fun h => h ▸ (Ne.symm ne_b1_g16)) (fun h => Nat.ne_of_lt (Nat.lt_of_lt_of_le HB19.lt h))
        have ne_b_b21 : b ≠ b21 := hb26.elim (fun h => h ▸ ne_b_b1) (fun h => Nat.ne_of_lt (Nat.lt_of_lt_of_le HR.lt h))
        have in_HA_b21 : b21 ∈ [g, b] ∨ (World.heap w).size ≤ b21 := hb26.elim (fun h => (h ▸ (Or.inr hb1))) (fun h => Or.inr (Nat.le_trans HA.size h))
        have HB := Blk.keep HB F25 (ninC ne_g_b1 (nin0 _))
        have HB19 := Blk.keep HB19 F25 (ninC (Ne.symm ne_b1_g16) (nin0 _))
        have HR := RowB.keep HR F25 (ninC ne_b_b1 (nin0 _))
        have HA := Fr.step HA F25 (inSD (Or.inr hb1) inS0)
        have HR24 : RowB w23 b21 33 2 cap22 (((es.map due) ++ [(⟨(at0 qc 0).a, (at0 qc 0).b⟩ : Due)]).map cD) := by rw [List.map_append]; exact HR24
        refine WO.run 1 10 [(5, .slice (some ⟨b21, 0, none⟩) ((es.map due).length + 1) cap22)] (by kernel_rfl) (by kernel_rfl) ?_
        refine WO.done (by kernel_rfl) ?_
        refine WQ.keep [0, 1, 4, 5, 23] (e' := [(0, .pointer (some ⟨g, 0, none⟩)), (1, .int .i64 now), (4, .slice none 0 0), (5, .slice (some ⟨b21, 0, none⟩) ((es.map due).length + 1) cap22), (23, .bool true)]) (by kernel_rfl) ?_
        refine WQ.thenN ?_
        -- R4 timer.go:85
        refine WE.region ?_
        refine WO.run 1 0 [(34, .pointer (some ⟨g, 0, none⟩))] (by kernel_rfl) (by kernel_rfl) ?_
        have hpop := fun w1 h1 h2 => pop_row g b cap m qc t w1 h1 h2 hbg hm (by omega)
        rw [← hm] at hpop
        refine WO.call (SQ.E 1 (by kernel_rfl)) 35 (by kernel_rfl) (hpop w23 HB HR) ?_
        rintro _ w27 ⟨rfl, HB, HR, F28⟩
        refine ⟨_, rfl, trivial, ?_⟩
        have hb1' : w.heap.size ≤ b21 := (in_HA_b21).resolve_left (by simp [Ne.symm ne_g_b21, Ne.symm ne_b_b21])
        have HB19 := Blk.keep HB19 F28 (ninC (Ne.symm ne_g_g16) (ninC (Ne.symm ne_b_g16) (nin0 _)))
        have HR24 := RowB.keep HR24 F28 (ninC (Ne.symm ne_g_b21) (ninC (Ne.symm ne_b_b21) (nin0 _)))
        have HA := Fr.step HA F28 (inSL (by simp) (inSL (by simp) inS0))
        refine WO.done (by kernel_rfl) ?_
        refine WQ.keep [0, 1, 4, 5, 23] (e' := [(0, .pointer (some ⟨g, 0, none⟩)), (1, .int .i64 now), (4, .slice none 0 0), (5, .slice (some ⟨b21, 0, none⟩) ((es.map due).length + 1) cap22), (23, .bool true)]) (by kernel_rfl) ?_
        refine WQ.blkN ?_
        refine WQ.round ?_
        intro a_ ha_
        refine ⟨(popQ qc, es ++ [at0 qc 0], .slice (some ⟨b21, 0, none⟩) ((es.map due).length + 1) cap22), ?_, ha_.keep [0, 1, 4, 5] (by kernel_rfl), ?_⟩
        · show (popQ qc).length < qc.length; rw [popQ_len]; omega
        · exact ⟨by rw [hT, takeQ_step now qc m hm hnow]; simp, by show (popQ qc).length ≤ _; rw [popQ_len]; omega, by show Blk _ g #[.slice _ (popQ qc).length cap, _] _; rw [popQ_len, hm]; exact HB, HR, Or.inr ⟨b21, cap22, by simp, hb1', by rw [List.map_append]; exact HR24⟩, HA, by show (es ++ [at0 qc 0]).length + (popQ qc).length ≤ _; rw [popQ_len]; simp; omega⟩
    · intro h2
      refine WO.run 1 17 [(23, .bool false)] (by kernel_rfl) (by kernel_rfl) ?_
      refine WO.done (by kernel_rfl) ?_
      refine WQ.keep [0, 1, 4, 5, 23] (e' := [(0, .pointer (some ⟨g, 0, none⟩)), (1, .int .i64 now), (4, .slice none 0 0), (5, v), (23, .bool false)]) (by kernel_rfl) ?_
      refine WQ.thenN ?_
      refine WE.condF (by kernel_rfl) ?_
      refine WE.exit ?_
      refine WQ.thenE ?_
      refine WQ.thenE ?_
      refine WQ.blkE ?_
      refine WQ.thenN ?_
      refine WE.seq ?_
      -- R5 timer.go:87
      refine WE.region ?_
      refine WO.run 2 0 [(4, v), (36, v)] (by kernel_rfl) (by kernel_rfl) ?_
      refine WO.done (by kernel_rfl) ?_
      refine WQ.keep [0, 1, 4, 5, 23] (e' := [(0, .pointer (some ⟨g, 0, none⟩)), (1, .int .i64 now), (4, v), (5, v), (23, .bool false)]) (by kernel_rfl) ?_
      refine WQ.thenN ?_
      refine WE.ret ?_
      refine WQ.ret (v := v) (by kernel_rfl) ?_
      have hs := takeQ_stop now qc (by omega)
      rw [hs, List.append_nil] at hT
      rw [hT]
      exact ⟨v, rfl, hO, HB, HR, HA⟩
  · intro h1
    refine WO.run 12 6 [(23, .bool false), (22, undef), (21, undef), (20, undef), (19, undef), (18, undef), (17, undef), (16, undef), (15, undef), (14, undef), (13, undef), (12, .bool false)] (by kernel_rfl) (by kernel_rfl) ?_
    refine WO.done (by kernel_rfl) ?_
    refine WQ.keep [0, 1, 4, 5, 23] (e' := [(0, .pointer (some ⟨g, 0, none⟩)), (1, .int .i64 now), (4, .slice none 0 0), (5, v), (23, .bool false)]) (by kernel_rfl) ?_
    refine WQ.thenN ?_
    refine WE.condF (by kernel_rfl) ?_
    refine WE.exit ?_
    refine WQ.thenE ?_
    refine WQ.thenE ?_
    refine WQ.blkE ?_
    refine WQ.thenN ?_
    refine WE.seq ?_
    -- R5 timer.go:87
    refine WE.region ?_
    refine WO.run 2 0 [(4, v), (36, v)] (by kernel_rfl) (by kernel_rfl) ?_
    refine WO.done (by kernel_rfl) ?_
    refine WQ.keep [0, 1, 4, 5, 23] (e' := [(0, .pointer (some ⟨g, 0, none⟩)), (1, .int .i64 now), (4, v), (5, v), (23, .bool false)]) (by kernel_rfl) ?_
    refine WQ.thenN ?_
    refine WE.ret ?_
    refine WQ.ret (v := v) (by kernel_rfl) ?_
    have hs := takeQ_stop now qc (by omega)
    rw [hs, List.append_nil] at hT
    rw [hT]
    exact ⟨v, rfl, hO, HB, HR, HA⟩
end Go.Proofs.Ytjnjkgoofkgiiaa.Timer
