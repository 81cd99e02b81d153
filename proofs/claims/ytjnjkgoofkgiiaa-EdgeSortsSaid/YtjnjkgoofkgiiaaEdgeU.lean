/- Layer 2's walks: up, and the laws of the order. -/
import Derived.Test.YtjnjkgoofkgiiaaEdgeS
set_option linter.unusedVariables false
set_option linter.unusedSimpArgs false
namespace Go.Proofs.Ytjnjkgoofkgiiaa.Edge
open Go Go.RowKit Go.Proofs.Ytjnjkgoofkgiiaa Go.Proofs.Ytjnjkgoofkgiiaa.Eng Go.Proofs.YtjnjkgoofkgiiaaW.PrintWords
instance (q : List Nat) : Decidable (All q) := inferInstanceAs (Decidable (∀ k, k < q.length → g0 q k < 18446744073709551616))
theorem outer_len (a b : Nat) : ∀ (f i : Nat) (q : List Nat), (outer a b f i q).length = q.length
  | 0, _, q => rfl
  | f + 1, i, q => by rw [outer, outer_len a b f, inner_len]
theorem less_nan {x : Nat} (hx : x < 18446744073709551616) (h : nanB x = false) : lessB x 9221120237041090561 = true := by
  have e : rank 9221120237041090561 = 18446744073709551615 := by decide +kernel
  have hi : inf = 9218868437227405312 := rfl
  unfold lessB
  rw [e]
  rcases rank_of hx with ⟨n1, r1⟩ | ⟨n1, b1, ⟨_, _, r1⟩ | ⟨_, _, r1⟩⟩
  · rw [h] at n1; cases n1
  · exact decide_eq_true (by omega)
  · exact decide_eq_true (by omega)
set_option maxRecDepth 100000 in
set_option maxHeartbeats 400000 in
theorem stable_f (b n cap : Nat) (q : List Nat) (w : World) (HR : RowB w b 53 1 cap (q.map cF)) (hn : q.length = n) (hall : All q) (h20 : n < 20) :
    Calls Try.prog 64 #[.slice (some ⟨b, 0, none⟩) n cap, .int .i64 (n : Int), .func (.func 50) #[] #[]] w fun e w' => e = .returned (.tuple #[]) ∧ RowB w' b 53 1 cap ((outer 0 n (n - 1) 1 q).map cF) ∧ Fr [b] w w' := by
  have HA := Fr.refl [b] w
  refine enter (N := 63) Try.func64 (c := _) rfl (by kernel_rfl) (by kernel_rfl) (e := [(0, .slice (some ⟨b, 0, none⟩) n cap), (1, .int .i64 (n : Int)), (2, .func (.func 50) #[] #[])]) (by kernel_rfl) ?_
  refine WE.seq ?_
  -- R0 zsortanyfunc.go:336
  refine WE.region ?_
  refine WO.run 1 0 [(6, .int .i64 20)] (by kernel_rfl) (by kernel_rfl) ?_
  refine WO.done (by kernel_rfl) ?_
  refine WQ.keep [0, 1, 2, 6] (e' := [(0, .slice (some ⟨b, 0, none⟩) n cap), (1, .int .i64 (n : Int)), (2, .func (.func 50) #[] #[]), (6, .int .i64 20)]) (by kernel_rfl) ?_
  refine WQ.thenN ?_
  refine WE.seq ?_
  -- R1 zsortanyfunc.go:337
  refine WE.region ?_
  refine WO.run 3 0 [(8, .int .i64 20), (7, .int .i64 0), (10, .int .i64 20)] (by kernel_rfl) (by kernel_rfl) ?_
  refine WO.done (by kernel_rfl) ?_
  refine WQ.keep [0, 1, 2, 6, 7, 8] (e' := [(0, .slice (some ⟨b, 0, none⟩) n cap), (1, .int .i64 (n : Int)), (2, .func (.func 50) #[] #[]), (6, .int .i64 20), (7, .int .i64 0), (8, .int .i64 20)]) (by kernel_rfl) ?_
  refine WQ.thenN ?_
  refine WE.seq ?_
  refine WE.block ?_
  refine WE.loop (α := Unit) (E := fun _ => [(0, .slice (some ⟨b, 0, none⟩) n cap), (1, .int .i64 (n : Int)), (2, .func (.func 50) #[] #[]), (6, .int .i64 20), (7, .int .i64 0), (8, .int .i64 20)]) (I := fun _ wr => wr = w) (m := fun _ => 0) () [0, 1, 2, 6, 7, 8] (by kernel_rfl) ?_ ?_
  · rfl
  rintro ⟨⟩ wr hw
  subst hw
  refine WE.seq ?_
  refine WE.seq ?_
  -- R2 zsortanyfunc.go:338
  refine WE.region ?_
  refine WO.run 2 0 [(12, .int .i64 (n : Int)), (11, .int .i64 20)] (by kernel_rfl) (by kernel_rfl) ?_
  refine WO.one (SQ.F 2 (by kernel_rfl)) 13 (.bool (decide (((20 : Int) : Int) ≤ (n : Int)))) (by kernel_rfl) ?_
  refine WO.topPF (((20 : Int) : Int) ≤ (n : Int)) (by omega) ?_
  refine WO.done (by kernel_rfl) ?_
  refine WQ.keep [0, 1, 2, 6, 7, 8, 13] (e' := [(0, .slice (some ⟨b, 0, none⟩) n cap), (1, .int .i64 (n : Int)), (2, .func (.func 50) #[] #[]), (6, .int .i64 20), (7, .int .i64 0), (8, .int .i64 20), (13, .bool false)]) (by kernel_rfl) ?_
  refine WQ.thenN ?_
  refine WE.condF (by kernel_rfl) ?_
  refine WE.exit ?_
  refine WQ.thenE ?_
  refine WQ.thenE ?_
  refine WQ.blkE ?_
  refine WQ.thenN ?_
  refine WE.seq ?_
  -- R6 zsortanyfunc.go:343
  refine WE.region ?_
  refine WO.run 4 0 [(26, .func (.func 50) #[] #[]), (25, .int .i64 (n : Int)), (24, .int .i64 0), (23, .slice (some ⟨b, 0, none⟩) n cap)] (by kernel_rfl) (by kernel_rfl) ?_
  refine WO.call (SQ.E 4 (by kernel_rfl)) 27 (by kernel_rfl) (isort_f b n cap 0 n q _ HR hn hall (Nat.le_refl _) (by omega) (by omega)) ?_
  rintro _ w1 ⟨rfl, HR3, F2⟩
  refine ⟨_, rfl, trivial, ?_⟩
  have HA := Fr.step HA F2 (inSL (by simp) inS0)
  refine WO.done (by kernel_rfl) ?_
  refine WQ.keep [0, 1, 2, 6, 7, 8, 13] (e' := [(0, .slice (some ⟨b, 0, none⟩) n cap), (1, .int .i64 (n : Int)), (2, .func (.func 50) #[] #[]), (6, .int .i64 20), (7, .int .i64 0), (8, .int .i64 20), (13, .bool false)]) (by kernel_rfl) ?_
  refine WQ.thenN ?_
  refine WE.block ?_
  refine WE.loop (α := Unit) (E := fun _ => [(0, .slice (some ⟨b, 0, none⟩) n cap), (1, .int .i64 (n : Int)), (2, .func (.func 50) #[] #[]), (6, .int .i64 20), (7, .int .i64 0), (8, .int .i64 20), (13, .bool false)]) (I := fun _ wr => wr = w1) (m := fun _ => 0) () [0, 1, 2, 6, 7, 8, 13] (by kernel_rfl) ?_ ?_
  · rfl
  rintro ⟨⟩ wr hw
  subst hw
  refine WE.seq ?_
  refine WE.seq ?_
  -- R7 zsortanyfunc.go:345
  refine WE.region ?_
  refine WO.run 2 0 [(29, .int .i64 (n : Int)), (28, .int .i64 20)] (by kernel_rfl) (by kernel_rfl) ?_
  refine WO.one (SQ.F 2 (by kernel_rfl)) 30 (.bool (decide (((20 : Int) : Int) < (n : Int)))) (by kernel_rfl) ?_
  refine WO.topPF (((20 : Int) : Int) < (n : Int)) (by omega) ?_
  refine WO.done (by kernel_rfl) ?_
  refine WQ.keep [0, 1, 2, 6, 7, 8, 13, 30] (e' := [(0, .slice (some ⟨b, 0, none⟩) n cap), (1, .int .i64 (n : Int)), (2, .func (.func 50) #[] #[]), (6, .int .i64 20), (7, .int .i64 0), (8, .int .i64 20), (13, .bool false), (30, .bool false)]) (by kernel_rfl) ?_
  refine WQ.thenN ?_
  refine WE.condF (by kernel_rfl) ?_
  refine WE.exit ?_
  refine WQ.thenE ?_
  refine WQ.thenE ?_
  refine WQ.blkE ?_
  refine WQ.fall (v := .tuple #[]) (by kernel_rfl) ?_
  exact ⟨rfl, HR3, HA⟩

set_option maxRecDepth 100000 in
set_option maxHeartbeats 400000 in
theorem ssort_f (b n cap : Nat) (q : List Nat) (w : World) (HR : RowB w b 53 1 cap (q.map cF)) (hn : q.length = n) (hall : All q) (h20 : n < 20) :
    Calls Try.prog 49 #[.slice (some ⟨b, 0, none⟩) n cap, .func (.func 50) #[] #[]] w fun e w' => e = .returned (.tuple #[]) ∧ RowB w' b 53 1 cap ((outer 0 n (n - 1) 1 q).map cF) ∧ Fr [b] w w' := by
  have HA := Fr.refl [b] w
  refine enter (N := 9) Try.func49 (c := _) rfl (by kernel_rfl) (by kernel_rfl) (e := [(0, .slice (some ⟨b, 0, none⟩) n cap), (1, .func (.func 50) #[] #[])]) (by kernel_rfl) ?_
  -- R0 sort.go:38
  refine WE.region ?_
  refine WO.run 4 0 [(7, .func (.func 50) #[] #[]), (6, .int .i64 (n : Int)), (5, .slice (some ⟨b, 0, none⟩) n cap), (4, .slice (some ⟨b, 0, none⟩) n cap)] (by kernel_rfl) (by kernel_rfl) ?_
  refine WO.call (SQ.E 4 (by kernel_rfl)) 8 (by kernel_rfl) (stable_f b n cap q _ HR hn hall h20) ?_
  rintro _ w1 ⟨rfl, HR3, F2⟩
  refine ⟨_, rfl, trivial, ?_⟩
  have HA := Fr.step HA F2 (inSL (by simp) inS0)
  refine WO.done (by kernel_rfl) ?_
  refine WQ.keep [0, 1] (e' := [(0, .slice (some ⟨b, 0, none⟩) n cap), (1, .func (.func 50) #[] #[])]) (by kernel_rfl) ?_
  refine WQ.fall (v := .tuple #[]) (by kernel_rfl) ?_
  exact ⟨rfl, HR3, HA⟩

set_option maxRecDepth 100000 in
set_option maxHeartbeats 400000 in
theorem clone_f (ad : Addr) (n cap : Nat) (q : List Nat) (w : World) (hn : q.length = n) (hm : n ≤ 1000000) (hsrc : Src w (.slice (some ad) n cap) n (q.map cF).flatten 1) :
    Calls Try.prog 48 #[.slice (some ad) n cap] w fun e w' => ∃ b cap', e = .returned (.slice (some ⟨b, 0, none⟩) n cap') ∧ RowB w' b 53 1 cap' (q.map cF) ∧ Fr [] w w' ∧ w.heap.size ≤ b := by
  have HA := Fr.refl [] w
  refine enter (N := 8) Try.func48 (c := _) rfl (by kernel_rfl) (by kernel_rfl) (e := [(0, .slice (some ad) n cap)]) (by kernel_rfl) ?_
  refine WE.seq ?_
  -- R0 slices.go:355
  refine WE.region ?_
  refine WO.run 1 0 [(2, .slice none 0 0)] (by kernel_rfl) (by kernel_rfl) ?_
  refine WO.done (by kernel_rfl) ?_
  refine WQ.keep [0, 2] (e' := [(0, .slice (some ad) n cap), (2, .slice none 0 0)]) (by kernel_rfl) ?_
  refine WQ.thenN ?_
  refine WE.seq ?_
  refine WE.seq ?_
  -- R1 slices.go:357
  refine WE.region ?_
  refine WO.run 2 0 [(4, .bool false), (3, .slice (some ad) n cap)] (by kernel_rfl) (by kernel_rfl) ?_
  refine WO.done (by kernel_rfl) ?_
  refine WQ.keep [0, 2, 4] (e' := [(0, .slice (some ad) n cap), (2, .slice none 0 0), (4, .bool false)]) (by kernel_rfl) ?_
  refine WQ.thenN ?_
  refine WE.condF (by kernel_rfl) ?_
  refine WE.skip ?_
  refine WQ.thenN ?_
  refine WE.seq ?_
  -- R3 slices.go:362
  refine WE.region ?_
  refine WO.bx (SQ.E 0 (by kernel_rfl)) 5 #[] 53 (fun g => .slice (some ⟨g, 0, none⟩) 0 0) (by kernel_rfl) (fun _ _ => trivial) ?_
  intro g1 w2 HB4 F3 le5 _
  have ge_HA_g1 := Nat.le_trans HA.size le5
  have HA := Fr.step0 HA F3
  refine WO.run 1 1 [(6, .slice (some ad) n cap)] (by kernel_rfl) (by kernel_rfl) ?_
  have HR11 := RowB.of_blk (n := 0) HB4 (List.map cF []) rfl rfl (cF_len _) (cF_one _) (by omega)
  refine WO.appRow (SQ.E 2 (by kernel_rfl)) 7 (n := 0) (m := n) (ys := List.map cF q) et_f HR11 ((List.length_map _).trans ((rfl : List.length ([] : List Nat) = 0))) (by rw [List.length_map] <;> first | rfl | omega | (simp <;> omega)) (hsrc.mono HA) (cF_len _) (cF_one _) (by kernel_rfl) (by omega) (by omega) (fun _ _ => trivial) ?_
  intro b6 cap7 w8 HR9 F10 hb12
  have in_HA_b6 : b6 ∈ [] ∨ (World.heap w).size ≤ b6 := hb12.elim (fun h => Or.inr (h ▸ ge_HA_g1)) (fun h => Or.inr (Nat.le_trans HA.size h))
  have HA := Fr.step HA F10 (inSR ge_HA_g1 inS0)
  have HR9 : RowB w8 b6 53 1 cap7 ((([] : List Nat) ++ q).map cF) := by rw [List.map_append]; exact HR9
  refine WO.run 1 3 [(2, .slice (some ⟨b6, 0, none⟩) (0 + n) cap7)] (by kernel_rfl) (by kernel_rfl) ?_
  refine WO.done (by kernel_rfl) ?_
  refine WQ.keep [0, 2, 4] (e' := [(0, .slice (some ad) n cap), (2, .slice (some ⟨b6, 0, none⟩) (0 + n) cap7), (4, .bool false)]) (by kernel_rfl) ?_
  refine WQ.thenN ?_
  refine WE.ret ?_
  refine WQ.ret (v := .slice (some ⟨b6, 0, none⟩) (0 + n) cap7) (by kernel_rfl) ?_
  rw [List.nil_append] at HR9
  exact ⟨_, _, by rw [Nat.zero_add], HR9, HA, (in_HA_b6).resolve_left (by simp)⟩

set_option maxRecDepth 100000 in
set_option maxHeartbeats 400000 in
theorem sort_f (ad : Addr) (n cap : Nat) (q : List Nat) (w : World) (hn : q.length = n) (hm : n ≤ 1000000) (hsrc : Src w (.slice (some ad) n cap) n (q.map cF).flatten 1) (hall : All q) (h20 : n < 20) :
    Calls Try.prog 28 #[.slice (some ad) n cap] w fun e w' => ∃ b cap', e = .returned (.slice (some ⟨b, 0, none⟩) n cap') ∧ RowB w' b 53 1 cap' ((outer 0 n (n - 1) 1 q).map cF) ∧ Fr [] w w' ∧ w.heap.size ≤ b := by
  have HA := Fr.refl [] w
  refine enter (N := 9) Try.func28 (c := _) rfl (by kernel_rfl) (by kernel_rfl) (e := [(0, .slice (some ad) n cap)]) (by kernel_rfl) ?_
  refine WE.seq ?_
  -- R0 edge.go:48
  refine WE.region ?_
  refine WO.run 1 0 [(2, .slice none 0 0)] (by kernel_rfl) (by kernel_rfl) ?_
  refine WO.done (by kernel_rfl) ?_
  refine WQ.keep [0, 2] (e' := [(0, .slice (some ad) n cap), (2, .slice none 0 0)]) (by kernel_rfl) ?_
  refine WQ.thenN ?_
  refine WE.seq ?_
  -- R1 edge.go:49
  refine WE.region ?_
  refine WO.run 1 0 [(4, .slice (some ad) n cap)] (by kernel_rfl) (by kernel_rfl) ?_
  refine WO.call (SQ.E 1 (by kernel_rfl)) 5 (by kernel_rfl) (clone_f ad n cap q _ hn (by omega) (hsrc.mono HA)) ?_
  rintro _ w1 ⟨b, cap2, rfl, HR3, F2, le4⟩
  refine ⟨_, rfl, trivial, ?_⟩
  have ge_HA_b := Nat.le_trans HA.size le4
  have HA := Fr.step0 HA F2
  refine WO.run 1 2 [(3, .slice (some ⟨b, 0, none⟩) n cap2)] (by kernel_rfl) (by kernel_rfl) ?_
  refine WO.done (by kernel_rfl) ?_
  refine WQ.keep [0, 2, 3] (e' := [(0, .slice (some ad) n cap), (2, .slice none 0 0), (3, .slice (some ⟨b, 0, none⟩) n cap2)]) (by kernel_rfl) ?_
  refine WQ.thenN ?_
  refine WE.seq ?_
  -- R2 edge.go:50
  refine WE.region ?_
  refine WO.run 1 0 [(6, .slice (some ⟨b, 0, none⟩) n cap2)] (by kernel_rfl) (by kernel_rfl) ?_
  refine WO.call (SQ.E 1 (by kernel_rfl)) 7 (by kernel_rfl) (ssort_f b n cap2 q _ HR3 hn hall h20) ?_
  rintro _ w5 ⟨rfl, HR7, F6⟩
  refine ⟨_, rfl, trivial, ?_⟩
  have HA := Fr.step HA F6 (inSR ge_HA_b inS0)
  refine WO.done (by kernel_rfl) ?_
  refine WQ.keep [0, 2, 3] (e' := [(0, .slice (some ad) n cap), (2, .slice none 0 0), (3, .slice (some ⟨b, 0, none⟩) n cap2)]) (by kernel_rfl) ?_
  refine WQ.thenN ?_
  refine WE.seq ?_
  -- R3 edge.go:59
  refine WE.region ?_
  refine WO.run 2 0 [(2, .slice (some ⟨b, 0, none⟩) n cap2), (8, .slice (some ⟨b, 0, none⟩) n cap2)] (by kernel_rfl) (by kernel_rfl) ?_
  refine WO.done (by kernel_rfl) ?_
  refine WQ.keep [0, 2, 3] (e' := [(0, .slice (some ad) n cap), (2, .slice (some ⟨b, 0, none⟩) n cap2), (3, .slice (some ⟨b, 0, none⟩) n cap2)]) (by kernel_rfl) ?_
  refine WQ.thenN ?_
  refine WE.ret ?_
  refine WQ.ret (v := .slice (some ⟨b, 0, none⟩) n cap2) (by kernel_rfl) ?_
  exact ⟨_, _, rfl, HR7, HA, ge_HA_b⟩

set_option maxRecDepth 100000 in
set_option maxHeartbeats 400000 in
theorem lit_0 (w : World) :
    Calls Try.prog 41 #[.int .i64 (-1)] w fun e w' => e = .returned (.float .f64 18442240474082181120) ∧ Fr [] w w' := by
  have HA := Fr.refl [] w
  refine enter (N := 8) Try.func41 (c := _) rfl (by kernel_rfl) (by kernel_rfl) (e := [(0, .int .i64 (-1))]) (by kernel_rfl) ?_
  refine WE.seq ?_
  -- R0 bits.go:20
  refine WE.region ?_
  refine WO.run 1 0 [(2, .float .f64 0)] (by kernel_rfl) (by kernel_rfl) ?_
  refine WO.done (by kernel_rfl) ?_
  refine WQ.keep [0, 2] (e' := [(0, .int .i64 (-1)), (2, .float .f64 0)]) (by kernel_rfl) ?_
  refine WQ.thenN ?_
  refine WE.seq ?_
  -- R1 bits.go:21
  refine WE.region ?_
  refine WO.run 1 0 [(3, .int .u64 0)] (by kernel_rfl) (by kernel_rfl) ?_
  refine WO.done (by kernel_rfl) ?_
  refine WQ.keep [0, 2, 3] (e' := [(0, .int .i64 (-1)), (2, .float .f64 0), (3, .int .u64 0)]) (by kernel_rfl) ?_
  refine WQ.thenN ?_
  refine WE.seq ?_
  refine WE.seq ?_
  -- R2 bits.go:22
  refine WE.region ?_
  refine WO.run 2 0 [(5, .bool false), (4, .int .i64 (-1))] (by kernel_rfl) (by kernel_rfl) ?_
  refine WO.done (by kernel_rfl) ?_
  refine WQ.keep [0, 2, 3, 5] (e' := [(0, .int .i64 (-1)), (2, .float .f64 0), (3, .int .u64 0), (5, .bool false)]) (by kernel_rfl) ?_
  refine WQ.thenN ?_
  refine WE.condF (by kernel_rfl) ?_
  -- R4 bits.go:25
  refine WE.region ?_
  refine WO.run 1 0 [(3, .int .u64 18442240474082181120)] (by kernel_rfl) (by kernel_rfl) ?_
  refine WO.done (by kernel_rfl) ?_
  refine WQ.keep [0, 2, 3, 5] (e' := [(0, .int .i64 (-1)), (2, .float .f64 0), (3, .int .u64 18442240474082181120), (5, .bool false)]) (by kernel_rfl) ?_
  refine WQ.thenN ?_
  refine WE.seq ?_
  -- R5 bits.go:27
  refine WE.region ?_
  refine WO.run 3 0 [(2, .float .f64 18442240474082181120), (7, .float .f64 18442240474082181120), (6, .int .u64 18442240474082181120)] (by kernel_rfl) (by kernel_rfl) ?_
  refine WO.done (by kernel_rfl) ?_
  refine WQ.keep [0, 2, 3, 5] (e' := [(0, .int .i64 (-1)), (2, .float .f64 18442240474082181120), (3, .int .u64 18442240474082181120), (5, .bool false)]) (by kernel_rfl) ?_
  refine WQ.thenN ?_
  refine WE.ret ?_
  refine WQ.ret (v := .float .f64 18442240474082181120) (by kernel_rfl) ?_
  exact ⟨rfl, HA⟩

set_option maxRecDepth 100000 in
set_option maxHeartbeats 400000 in
theorem lit_1 (w : World) :
    Calls Try.prog 42 #[.float .f64 0, .float .f64 13830554455654793216] w fun e w' => e = .returned (.float .f64 9223372036854775808) ∧ Fr [] w w' := by
  have HA := Fr.refl [] w
  refine enter (N := 13) Try.func42 (c := _) rfl (by kernel_rfl) (by kernel_rfl) (e := [(0, .float .f64 0), (1, .float .f64 13830554455654793216)]) (by kernel_rfl) ?_
  refine WE.seq ?_
  -- R0 copysign.go:9
  refine WE.region ?_
  refine WO.run 1 0 [(4, .float .f64 0)] (by kernel_rfl) (by kernel_rfl) ?_
  refine WO.done (by kernel_rfl) ?_
  refine WQ.keep [0, 1, 4] (e' := [(0, .float .f64 0), (1, .float .f64 13830554455654793216), (4, .float .f64 0)]) (by kernel_rfl) ?_
  refine WQ.thenN ?_
  refine WE.seq ?_
  -- R1 copysign.go:10
  refine WE.region ?_
  refine WO.run 9 0 [(4, .float .f64 9223372036854775808), (12, .float .f64 9223372036854775808), (11, .int .u64 9223372036854775808), (10, .int .u64 9223372036854775808), (9, .int .u64 13830554455654793216), (8, .float .f64 13830554455654793216), (7, .int .u64 0), (6, .int .u64 0), (5, .float .f64 0)] (by kernel_rfl) (by kernel_rfl) ?_
  refine WO.done (by kernel_rfl) ?_
  refine WQ.keep [0, 1, 4] (e' := [(0, .float .f64 0), (1, .float .f64 13830554455654793216), (4, .float .f64 9223372036854775808)]) (by kernel_rfl) ?_
  refine WQ.thenN ?_
  refine WE.ret ?_
  refine WQ.ret (v := .float .f64 9223372036854775808) (by kernel_rfl) ?_
  exact ⟨rfl, HA⟩

set_option maxRecDepth 100000 in
set_option maxHeartbeats 400000 in
theorem lit_2 (w : World) :
    Calls Try.prog 43 #[.float .f64 18442240474082181120, .int .i64 (-1)] w fun e w' => e = .returned (.bool true) ∧ Fr [] w w' := by
  have HA := Fr.refl [] w
  refine enter (N := 15) Try.func43 (c := _) rfl (by kernel_rfl) (by kernel_rfl) (e := [(0, .float .f64 18442240474082181120), (1, .int .i64 (-1))]) (by kernel_rfl) ?_
  refine WE.seq ?_
  -- R0 bits.go:46
  refine WE.region ?_
  refine WO.run 1 0 [(4, .bool false)] (by kernel_rfl) (by kernel_rfl) ?_
  refine WO.done (by kernel_rfl) ?_
  refine WQ.keep [0, 1, 4] (e' := [(0, .float .f64 18442240474082181120), (1, .int .i64 (-1)), (4, .bool false)]) (by kernel_rfl) ?_
  refine WQ.thenN ?_
  refine WE.seq ?_
  refine WE.seq ?_
  -- R1 bits.go:51
  refine WE.region ?_
  refine WO.run 2 0 [(6, .bool false), (5, .int .i64 (-1))] (by kernel_rfl) (by kernel_rfl) ?_
  refine WO.done (by kernel_rfl) ?_
  refine WQ.keep [0, 1, 4, 6] (e' := [(0, .float .f64 18442240474082181120), (1, .int .i64 (-1)), (4, .bool false), (6, .bool false)]) (by kernel_rfl) ?_
  refine WQ.thenN ?_
  refine WE.condF (by kernel_rfl) ?_
  refine WE.seq ?_
  -- R3 bits.go:53
  refine WE.region ?_
  refine WO.run 2 0 [(10, .bool true), (9, .int .i64 (-1))] (by kernel_rfl) (by kernel_rfl) ?_
  refine WO.done (by kernel_rfl) ?_
  refine WQ.keep [0, 1, 4, 6, 10] (e' := [(0, .float .f64 18442240474082181120), (1, .int .i64 (-1)), (4, .bool false), (6, .bool false), (10, .bool true)]) (by kernel_rfl) ?_
  refine WQ.thenN ?_
  refine WE.condT (by kernel_rfl) ?_
  -- R4 bits.go:54
  refine WE.region ?_
  refine WO.run 3 0 [(0, .float .f64 9218868437227405312), (12, .float .f64 9218868437227405312), (11, .float .f64 18442240474082181120)] (by kernel_rfl) (by kernel_rfl) ?_
  refine WO.done (by kernel_rfl) ?_
  refine WQ.keep [0, 1, 4, 6, 10] (e' := [(0, .float .f64 9218868437227405312), (1, .int .i64 (-1)), (4, .bool false), (6, .bool false), (10, .bool true)]) (by kernel_rfl) ?_
  refine WQ.thenN ?_
  refine WE.seq ?_
  -- R5 bits.go:56
  refine WE.region ?_
  refine WO.run 3 0 [(4, .bool true), (14, .bool true), (13, .float .f64 9218868437227405312)] (by kernel_rfl) (by kernel_rfl) ?_
  refine WO.done (by kernel_rfl) ?_
  refine WQ.keep [0, 1, 4, 6, 10] (e' := [(0, .float .f64 9218868437227405312), (1, .int .i64 (-1)), (4, .bool true), (6, .bool false), (10, .bool true)]) (by kernel_rfl) ?_
  refine WQ.thenN ?_
  refine WE.ret ?_
  refine WQ.ret (v := .bool true) (by kernel_rfl) ?_
  exact ⟨rfl, HA⟩

set_option maxRecDepth 100000 in
set_option maxHeartbeats 400000 in
theorem lit_3 (w : World) :
    Calls Try.prog 44 #[.float .f64 9223372036854775808] w fun e w' => e = .returned (.bool true) ∧ Fr [] w w' := by
  have HA := Fr.refl [] w
  refine enter (N := 7) Try.func44 (c := _) rfl (by kernel_rfl) (by kernel_rfl) (e := [(0, .float .f64 9223372036854775808)]) (by kernel_rfl) ?_
  refine WE.seq ?_
  -- R0 signbit.go:8
  refine WE.region ?_
  refine WO.run 1 0 [(2, .bool false)] (by kernel_rfl) (by kernel_rfl) ?_
  refine WO.done (by kernel_rfl) ?_
  refine WQ.keep [0, 2] (e' := [(0, .float .f64 9223372036854775808), (2, .bool false)]) (by kernel_rfl) ?_
  refine WQ.thenN ?_
  refine WE.seq ?_
  -- R1 signbit.go:9
  refine WE.region ?_
  refine WO.run 2 0 [(4, .int .u64 9223372036854775808), (3, .float .f64 9223372036854775808)] (by kernel_rfl) (by kernel_rfl) ?_
  refine WO.one (SQ.F 2 (by kernel_rfl)) 5 (.int .i64 (-9223372036854775808)) (by kernel_rfl) ?_
  refine WO.run 2 3 [(2, .bool true), (6, .bool true)] (by kernel_rfl) (by kernel_rfl) ?_
  refine WO.done (by kernel_rfl) ?_
  refine WQ.keep [0, 2] (e' := [(0, .float .f64 9223372036854775808), (2, .bool true)]) (by kernel_rfl) ?_
  refine WQ.thenN ?_
  refine WE.ret ?_
  refine WQ.ret (v := .bool true) (by kernel_rfl) ?_
  exact ⟨rfl, HA⟩

set_option maxRecDepth 100000 in
set_option maxHeartbeats 400000 in
theorem lit_4 (w : World) :
    Calls Try.prog 44 #[.float .f64 0] w fun e w' => e = .returned (.bool false) ∧ Fr [] w w' := by
  have HA := Fr.refl [] w
  refine enter (N := 7) Try.func44 (c := _) rfl (by kernel_rfl) (by kernel_rfl) (e := [(0, .float .f64 0)]) (by kernel_rfl) ?_
  refine WE.seq ?_
  -- R0 signbit.go:8
  refine WE.region ?_
  refine WO.run 1 0 [(2, .bool false)] (by kernel_rfl) (by kernel_rfl) ?_
  refine WO.done (by kernel_rfl) ?_
  refine WQ.keep [0, 2] (e' := [(0, .float .f64 0), (2, .bool false)]) (by kernel_rfl) ?_
  refine WQ.thenN ?_
  refine WE.seq ?_
  -- R1 signbit.go:9
  refine WE.region ?_
  refine WO.run 2 0 [(4, .int .u64 0), (3, .float .f64 0)] (by kernel_rfl) (by kernel_rfl) ?_
  refine WO.one (SQ.F 2 (by kernel_rfl)) 5 (.int .i64 0) (by kernel_rfl) ?_
  refine WO.run 2 3 [(2, .bool false), (6, .bool false)] (by kernel_rfl) (by kernel_rfl) ?_
  refine WO.done (by kernel_rfl) ?_
  refine WQ.keep [0, 2] (e' := [(0, .float .f64 0), (2, .bool false)]) (by kernel_rfl) ?_
  refine WQ.thenN ?_
  refine WE.ret ?_
  refine WQ.ret (v := .bool false) (by kernel_rfl) ?_
  exact ⟨rfl, HA⟩

set_option maxRecDepth 100000 in
set_option maxHeartbeats 400000 in
theorem lit_5 (w : World) :
    Calls Try.prog 30 #[.float .f64 9221120237041090561] w fun e w' => e = .returned (.bool true) ∧ Fr [] w w' := by
  have HA := Fr.refl [] w
  refine enter (N := 6) Try.func30 (c := _) rfl (by kernel_rfl) (by kernel_rfl) (e := [(0, .float .f64 9221120237041090561)]) (by kernel_rfl) ?_
  refine WE.seq ?_
  -- R0 bits.go:34
  refine WE.region ?_
  refine WO.run 1 0 [(2, .bool false)] (by kernel_rfl) (by kernel_rfl) ?_
  refine WO.done (by kernel_rfl) ?_
  refine WQ.keep [0, 2] (e' := [(0, .float .f64 9221120237041090561), (2, .bool false)]) (by kernel_rfl) ?_
  refine WQ.thenN ?_
  refine WE.seq ?_
  -- R1 bits.go:39
  refine WE.region ?_
  refine WO.run 4 0 [(2, .bool true), (5, .bool true), (4, .float .f64 9221120237041090561), (3, .float .f64 9221120237041090561)] (by kernel_rfl) (by kernel_rfl) ?_
  refine WO.done (by kernel_rfl) ?_
  refine WQ.keep [0, 2] (e' := [(0, .float .f64 9221120237041090561), (2, .bool true)]) (by kernel_rfl) ?_
  refine WQ.thenN ?_
  refine WE.ret ?_
  refine WQ.ret (v := .bool true) (by kernel_rfl) ?_
  exact ⟨rfl, HA⟩

set_option maxRecDepth 100000 in
set_option maxHeartbeats 1000000 in
theorem up_f (w : World) :
    Calls Try.prog 23 #[] w fun e w' => e = .returned (.bool (true)) ∧ Fr [] w w' := by
  have HA := Fr.refl [] w
  refine enter (N := 45) Try.func23 (c := _) rfl (by kernel_rfl) (by kernel_rfl) (e := []) (by kernel_rfl) ?_
  refine WE.seq ?_
  -- R0 law.go:12
  refine WE.region ?_
  refine WO.run 1 0 [(0, .bool false)] (by kernel_rfl) (by kernel_rfl) ?_
  refine WO.done (by kernel_rfl) ?_
  refine WQ.thenN ?_
  refine WE.seq ?_
  -- R1 law.go:13
  refine WE.region ?_
  refine WO.call (SQ.E 0 (by kernel_rfl)) 2 (by kernel_rfl) (nan_f _) ?_
  rintro _ w1 ⟨rfl, F2⟩
  refine ⟨_, rfl, trivial, ?_⟩
  have HA := Fr.step0 HA F2
  refine WO.call (SQ.E 1 (by kernel_rfl)) 3 (by kernel_rfl) (lit_0 _) ?_
  rintro _ w3 ⟨rfl, F4⟩
  refine ⟨_, rfl, trivial, ?_⟩
  have HA := Fr.step0 HA F4
  refine WO.call (SQ.E 2 (by kernel_rfl)) 4 (by kernel_rfl) (lit_1 _) ?_
  rintro _ w5 ⟨rfl, F6⟩
  refine ⟨_, rfl, trivial, ?_⟩
  have HA := Fr.step0 HA F6
  refine WO.bx (SQ.E 3 (by kernel_rfl)) 5 #[.float .f64 0, .float .f64 9221120237041090561, .float .f64 18442240474082181120, .float .f64 9223372036854775808] 53 (fun g => .slice (some ⟨g, 0, none⟩) 4 4) (by kernel_rfl) (fun _ _ => trivial) ?_
  intro g7 w8 HB10 F9 le11 _
  have ge_HA_g7 := Nat.le_trans HA.size le11
  have HA := Fr.step0 HA F9
  refine WO.call (SQ.E 4 (by kernel_rfl)) 6 (by kernel_rfl) (sort_f ⟨g7, 0, none⟩ 4 4 [0, 9221120237041090561, 18442240474082181120, 9223372036854775808] _ rfl (by decide) (RowB.src (RowB.of_blk (n := 4) HB10 (List.map cF [0, 9221120237041090561, 18442240474082181120, 9223372036854775808]) rfl rfl (cF_len _) (cF_one _) (by omega))) (by decide +kernel) (by decide)) ?_
  rintro _ w12 ⟨bs, caps, rfl, HR14, F13, le15⟩
  refine ⟨_, rfl, trivial, ?_⟩
  rw [show outer 0 4 (4 - 1) 1 [0, 9221120237041090561, 18442240474082181120, 9223372036854775808] = [18442240474082181120, 9223372036854775808, 0, 9221120237041090561] by decide +kernel] at HR14
  have ne_g7_bs : g7 ≠ bs := Nat.ne_of_lt (Nat.lt_of_lt_of_le HB10.lt le15)
  have ge_HA_bs := Nat.le_trans HA.size le15
  have HB10 := Blk.keep HB10 F13 (nin0 _)
  have HA := Fr.step0 HA F13
  refine WO.run 1 5 [(1, .slice (some ⟨bs, 0, none⟩) 4 caps)] (by kernel_rfl) (by kernel_rfl) ?_
  refine WO.done (by kernel_rfl) ?_
  refine WQ.keep [0, 1] (e' := [(0, .bool false), (1, .slice (some ⟨bs, 0, none⟩) 4 caps)]) (by kernel_rfl) ?_
  refine WQ.thenN ?_
  refine WE.seq ?_
  refine WE.seq ?_
  -- R2 law.go:14
  refine WE.region ?_
  refine WO.run 3 0 [(9, .bool false), (8, .int .i64 4), (7, .slice (some ⟨bs, 0, none⟩) 4 caps)] (by kernel_rfl) (by kernel_rfl) ?_
  refine WO.done (by kernel_rfl) ?_
  refine WQ.keep [0, 1, 9] (e' := [(0, .bool false), (1, .slice (some ⟨bs, 0, none⟩) 4 caps), (9, .bool false)]) (by kernel_rfl) ?_
  refine WQ.thenN ?_
  refine WE.condF (by kernel_rfl) ?_
  refine WE.skip ?_
  refine WQ.thenN ?_
  refine WE.seq ?_
  -- R4 law.go:17
  refine WE.region ?_
  refine WO.run 1 0 [(10, .slice (some ⟨bs, 0, none⟩) 4 caps)] (by kernel_rfl) (by kernel_rfl) ?_
  refine WO.ixB (SQ.F 1 (by kernel_rfl)) 11 0 bs 0 4 1 0 (by kernel_rfl) (by omega) (by omega) (by omega) ?_
  refine WO.ld (SQ.S 2 (by kernel_rfl)) 12 (.float .f64 18442240474082181120) (by kernel_rfl) (same (HR14.at 0 0 0 _ (by decide) (by omega) (by rw [(map_atF ([18442240474082181120, 9223372036854775808, 0, 9221120237041090561]) 0 (by decide))]; rfl) (by omega))) ?_
  refine WO.call (SQ.E 3 (by kernel_rfl)) 13 (by kernel_rfl) (lit_2 _) ?_
  rintro _ w16 ⟨rfl, F17⟩
  refine ⟨_, rfl, trivial, ?_⟩
  have HB10 := Blk.keep HB10 F17 (nin0 _)
  have HR14 := RowB.keep HR14 F17 (nin0 _)
  have HA := Fr.step0 HA F17
  refine WO.run 2 4 [(15, .slice (some ⟨bs, 0, none⟩) 4 caps), (14, .bool true)] (by kernel_rfl) (by kernel_rfl) ?_
  refine WO.ixB (SQ.F 6 (by kernel_rfl)) 16 1 bs 0 4 1 1 (by kernel_rfl) (by omega) (by omega) (by omega) ?_
  refine WO.ld (SQ.S 7 (by kernel_rfl)) 17 (.float .f64 9223372036854775808) (by kernel_rfl) (same (HR14.at 1 0 1 _ (by decide) (by omega) (by rw [(map_atF ([18442240474082181120, 9223372036854775808, 0, 9221120237041090561]) 1 (by decide))]; rfl) (by omega))) ?_
  refine WO.call (SQ.E 8 (by kernel_rfl)) 18 (by kernel_rfl) (lit_3 _) ?_
  rintro _ w18 ⟨rfl, F19⟩
  refine ⟨_, rfl, trivial, ?_⟩
  have HB10 := Blk.keep HB10 F19 (nin0 _)
  have HR14 := RowB.keep HR14 F19 (nin0 _)
  have HA := Fr.step0 HA F19
  refine WO.run 3 9 [(21, .slice (some ⟨bs, 0, none⟩) 4 caps), (20, .bool true), (19, .bool true)] (by kernel_rfl) (by kernel_rfl) ?_
  refine WO.ixB (SQ.F 12 (by kernel_rfl)) 22 1 bs 0 4 1 1 (by kernel_rfl) (by omega) (by omega) (by omega) ?_
  refine WO.ld (SQ.S 13 (by kernel_rfl)) 23 (.float .f64 9223372036854775808) (by kernel_rfl) (same (HR14.at 1 0 1 _ (by decide) (by omega) (by rw [(map_atF ([18442240474082181120, 9223372036854775808, 0, 9221120237041090561]) 1 (by decide))]; rfl) (by omega))) ?_
  refine WO.run 4 14 [(27, .slice (some ⟨bs, 0, none⟩) 4 caps), (26, .bool true), (25, .bool true), (24, .bool true)] (by kernel_rfl) (by kernel_rfl) ?_
  refine WO.ixB (SQ.F 18 (by kernel_rfl)) 28 2 bs 0 4 1 2 (by kernel_rfl) (by omega) (by omega) (by omega) ?_
  refine WO.ld (SQ.S 19 (by kernel_rfl)) 29 (.float .f64 0) (by kernel_rfl) (same (HR14.at 2 0 2 _ (by decide) (by omega) (by rw [(map_atF ([18442240474082181120, 9223372036854775808, 0, 9221120237041090561]) 2 (by decide))]; rfl) (by omega))) ?_
  refine WO.call (SQ.E 20 (by kernel_rfl)) 30 (by kernel_rfl) (lit_4 _) ?_
  rintro _ w20 ⟨rfl, F21⟩
  refine ⟨_, rfl, trivial, ?_⟩
  have HB10 := Blk.keep HB10 F21 (nin0 _)
  have HR14 := RowB.keep HR14 F21 (nin0 _)
  have HA := Fr.step0 HA F21
  refine WO.run 4 21 [(34, .slice (some ⟨bs, 0, none⟩) 4 caps), (33, .bool true), (32, .bool true), (31, .bool true)] (by kernel_rfl) (by kernel_rfl) ?_
  refine WO.ixB (SQ.F 25 (by kernel_rfl)) 35 3 bs 0 4 1 3 (by kernel_rfl) (by omega) (by omega) (by omega) ?_
  refine WO.ld (SQ.S 26 (by kernel_rfl)) 36 (.float .f64 9221120237041090561) (by kernel_rfl) (same (HR14.at 3 0 3 _ (by decide) (by omega) (by rw [(map_atF ([18442240474082181120, 9223372036854775808, 0, 9221120237041090561]) 3 (by decide))]; rfl) (by omega))) ?_
  refine WO.call (SQ.E 27 (by kernel_rfl)) 37 (by kernel_rfl) (lit_5 _) ?_
  rintro _ w22 ⟨rfl, F23⟩
  refine ⟨_, rfl, trivial, ?_⟩
  have HB10 := Blk.keep HB10 F23 (nin0 _)
  have HR14 := RowB.keep HR14 F23 (nin0 _)
  have HA := Fr.step0 HA F23
  refine WO.run 2 28 [(39, .bool true), (38, .bool true)] (by kernel_rfl) (by kernel_rfl) ?_
  have hl_lessB : lessB 4607182418800017408 4611686018427387904 = true := by decide +kernel
  refine WO.call (SQ.E 30 (by kernel_rfl)) 40 (by kernel_rfl) (less_f 4607182418800017408 4611686018427387904 _ (by decide) (by decide)) ?_
  rintro _ w24 ⟨rfl, F25⟩
  refine ⟨_, rfl, trivial, ?_⟩
  have HB10 := Blk.keep HB10 F25 (nin0 _)
  have HR14 := RowB.keep HR14 F25 (nin0 _)
  have HA := Fr.step0 HA F25
  refine WO.top (v' := .bool true) (congrArg Value.bool (by exact hl_lessB)) ?_
  refine WO.run 2 31 [(42, .bool true), (41, .bool true)] (by kernel_rfl) (by kernel_rfl) ?_
  have hl_alikeB : alikeB 4607182418800017408 4607182418800017408 = true := by decide +kernel
  refine WO.call (SQ.E 33 (by kernel_rfl)) 43 (by kernel_rfl) (alike_f 4607182418800017408 4607182418800017408 _ (by decide) (by decide)) ?_
  rintro _ w26 ⟨rfl, F27⟩
  refine ⟨_, rfl, trivial, ?_⟩
  have HB10 := Blk.keep HB10 F27 (nin0 _)
  have HR14 := RowB.keep HR14 F27 (nin0 _)
  have HA := Fr.step0 HA F27
  refine WO.top (v' := .bool true) (congrArg Value.bool (by exact hl_alikeB)) ?_
  refine WO.run 2 34 [(0, .bool true), (44, .bool true)] (by kernel_rfl) (by kernel_rfl) ?_
  refine WO.done (by kernel_rfl) ?_
  refine WQ.keep [0, 1, 9] (e' := [(0, .bool true), (1, .slice (some ⟨bs, 0, none⟩) 4 caps), (9, .bool false)]) (by kernel_rfl) ?_
  refine WQ.thenN ?_
  refine WE.ret ?_
  refine WQ.ret (v := .bool true) (by kernel_rfl) ?_
  exact ⟨rfl, HA⟩

set_option maxRecDepth 100000 in
set_option maxHeartbeats 400000 in
theorem orders_f (x y : Nat) (w : World) (hx : x < 18446744073709551616) (hy : y < 18446744073709551616) :
    Calls Try.prog 7 #[.float .f64 x, .float .f64 y] w fun e w' => e = .returned (.bool (true)) ∧ Fr [] w w' := by
  have HA := Fr.refl [] w
  refine enter (N := 26) Try.func7 (c := _) rfl (by kernel_rfl) (by kernel_rfl) (e := [(0, .float .f64 x), (1, .float .f64 y)]) (by kernel_rfl) ?_
  refine WE.seq ?_
  -- R0 law.go:21
  refine WE.region ?_
  refine WO.run 1 0 [(4, .bool false)] (by kernel_rfl) (by kernel_rfl) ?_
  refine WO.done (by kernel_rfl) ?_
  refine WQ.keep [0, 1, 4] (e' := [(0, .float .f64 x), (1, .float .f64 y), (4, .bool false)]) (by kernel_rfl) ?_
  refine WQ.thenN ?_
  refine WE.seq ?_
  -- R1 law.go:22
  refine WE.region ?_
  refine WO.call (SQ.E 0 (by kernel_rfl)) 6 (by kernel_rfl) (up_f _) ?_
  rintro _ w1 ⟨rfl, F2⟩
  refine ⟨_, rfl, trivial, ?_⟩
  have HA := Fr.step0 HA F2
  refine WO.run 1 1 [(5, .bool true)] (by kernel_rfl) (by kernel_rfl) ?_
  refine WO.done (by kernel_rfl) ?_
  refine WQ.keep [0, 1, 4, 5] (e' := [(0, .float .f64 x), (1, .float .f64 y), (4, .bool false), (5, .bool true)]) (by kernel_rfl) ?_
  refine WQ.thenN ?_
  refine WE.seq ?_
  -- R2 law.go:23
  refine WE.region ?_
  refine WO.run 4 0 [(10, .float .f64 y), (9, .float .f64 x), (8, .bool true), (7, .bool true)] (by kernel_rfl) (by kernel_rfl) ?_
  refine WO.call (SQ.E 4 (by kernel_rfl)) 11 (by kernel_rfl) ((fun w_ => less_f x y w_ hx hy) _) ?_
  rintro _ w3 ⟨rfl, F4⟩
  refine ⟨_, rfl, trivial, ?_⟩
  have HA := Fr.step0 HA F4
  refine WO.topB (lessB x y) ?_ ?_
  · intro h5
    refine WO.run 2 5 [(13, .float .f64 y), (12, .float .f64 x)] (by kernel_rfl) (by kernel_rfl) ?_
    refine WO.call (SQ.E 7 (by kernel_rfl)) 14 (by kernel_rfl) ((fun w_ => refless_f x y w_ hx hy) _) ?_
    rintro _ w6 ⟨rfl, F7⟩
    refine ⟨_, rfl, trivial, ?_⟩
    have HA := Fr.step0 HA F7
    refine WO.top (v' := .bool true) (congrArg Value.bool (by exact h5)) ?_
    refine WO.run 5 8 [(19, .float .f64 y), (18, .float .f64 x), (17, .bool true), (16, .bool true), (15, .bool true)] (by kernel_rfl) (by kernel_rfl) ?_
    refine WO.call (SQ.E 13 (by kernel_rfl)) 20 (by kernel_rfl) ((fun w_ => alike_f x y w_ hx hy) _) ?_
    rintro _ w8 ⟨rfl, F9⟩
    refine ⟨_, rfl, trivial, ?_⟩
    have HA := Fr.step0 HA F9
    refine WO.topB (alikeB x y) ?_ ?_
    · intro h10
      refine WO.run 2 14 [(22, .float .f64 y), (21, .float .f64 x)] (by kernel_rfl) (by kernel_rfl) ?_
      refine WO.call (SQ.E 16 (by kernel_rfl)) 23 (by kernel_rfl) ((fun w_ => refalike_f x y w_ hx hy) _) ?_
      rintro _ w11 ⟨rfl, F12⟩
      refine ⟨_, rfl, trivial, ?_⟩
      have HA := Fr.step0 HA F12
      refine WO.top (v' := .bool true) (congrArg Value.bool (by exact h10)) ?_
      refine WO.run 3 17 [(4, .bool true), (25, .bool true), (24, .bool true)] (by kernel_rfl) (by kernel_rfl) ?_
      refine WO.done (by kernel_rfl) ?_
      refine WQ.keep [0, 1, 4, 5] (e' := [(0, .float .f64 x), (1, .float .f64 y), (4, .bool true), (5, .bool true)]) (by kernel_rfl) ?_
      refine WQ.thenN ?_
      refine WE.ret ?_
      refine WQ.ret (v := .bool true) (by kernel_rfl) ?_
      exact ⟨rfl, HA⟩
    · intro h10
      refine WO.run 2 14 [(22, .float .f64 y), (21, .float .f64 x)] (by kernel_rfl) (by kernel_rfl) ?_
      refine WO.call (SQ.E 16 (by kernel_rfl)) 23 (by kernel_rfl) ((fun w_ => refalike_f x y w_ hx hy) _) ?_
      rintro _ w13 ⟨rfl, F14⟩
      refine ⟨_, rfl, trivial, ?_⟩
      have HA := Fr.step0 HA F14
      refine WO.top (v' := .bool false) (congrArg Value.bool (by exact h10)) ?_
      refine WO.run 3 17 [(4, .bool true), (25, .bool true), (24, .bool true)] (by kernel_rfl) (by kernel_rfl) ?_
      refine WO.done (by kernel_rfl) ?_
      refine WQ.keep [0, 1, 4, 5] (e' := [(0, .float .f64 x), (1, .float .f64 y), (4, .bool true), (5, .bool true)]) (by kernel_rfl) ?_
      refine WQ.thenN ?_
      refine WE.ret ?_
      refine WQ.ret (v := .bool true) (by kernel_rfl) ?_
      exact ⟨rfl, HA⟩
  · intro h5
    refine WO.run 2 5 [(13, .float .f64 y), (12, .float .f64 x)] (by kernel_rfl) (by kernel_rfl) ?_
    refine WO.call (SQ.E 7 (by kernel_rfl)) 14 (by kernel_rfl) ((fun w_ => refless_f x y w_ hx hy) _) ?_
    rintro _ w15 ⟨rfl, F16⟩
    refine ⟨_, rfl, trivial, ?_⟩
    have HA := Fr.step0 HA F16
    refine WO.top (v' := .bool false) (congrArg Value.bool (by exact h5)) ?_
    refine WO.run 5 8 [(19, .float .f64 y), (18, .float .f64 x), (17, .bool true), (16, .bool true), (15, .bool true)] (by kernel_rfl) (by kernel_rfl) ?_
    refine WO.call (SQ.E 13 (by kernel_rfl)) 20 (by kernel_rfl) ((fun w_ => alike_f x y w_ hx hy) _) ?_
    rintro _ w17 ⟨rfl, F18⟩
    refine ⟨_, rfl, trivial, ?_⟩
    have HA := Fr.step0 HA F18
    refine WO.topB (alikeB x y) ?_ ?_
    · intro h19
      refine WO.run 2 14 [(22, .float .f64 y), (21, .float .f64 x)] (by kernel_rfl) (by kernel_rfl) ?_
      refine WO.call (SQ.E 16 (by kernel_rfl)) 23 (by kernel_rfl) ((fun w_ => refalike_f x y w_ hx hy) _) ?_
      rintro _ w20 ⟨rfl, F21⟩
      refine ⟨_, rfl, trivial, ?_⟩
      have HA := Fr.step0 HA F21
      refine WO.top (v' := .bool true) (congrArg Value.bool (by exact h19)) ?_
      refine WO.run 3 17 [(4, .bool true), (25, .bool true), (24, .bool true)] (by kernel_rfl) (by kernel_rfl) ?_
      refine WO.done (by kernel_rfl) ?_
      refine WQ.keep [0, 1, 4, 5] (e' := [(0, .float .f64 x), (1, .float .f64 y), (4, .bool true), (5, .bool true)]) (by kernel_rfl) ?_
      refine WQ.thenN ?_
      refine WE.ret ?_
      refine WQ.ret (v := .bool true) (by kernel_rfl) ?_
      exact ⟨rfl, HA⟩
    · intro h19
      refine WO.run 2 14 [(22, .float .f64 y), (21, .float .f64 x)] (by kernel_rfl) (by kernel_rfl) ?_
      refine WO.call (SQ.E 16 (by kernel_rfl)) 23 (by kernel_rfl) ((fun w_ => refalike_f x y w_ hx hy) _) ?_
      rintro _ w22 ⟨rfl, F23⟩
      refine ⟨_, rfl, trivial, ?_⟩
      have HA := Fr.step0 HA F23
      refine WO.top (v' := .bool false) (congrArg Value.bool (by exact h19)) ?_
      refine WO.run 3 17 [(4, .bool true), (25, .bool true), (24, .bool true)] (by kernel_rfl) (by kernel_rfl) ?_
      refine WO.done (by kernel_rfl) ?_
      refine WQ.keep [0, 1, 4, 5] (e' := [(0, .float .f64 x), (1, .float .f64 y), (4, .bool true), (5, .bool true)]) (by kernel_rfl) ?_
      refine WQ.thenN ?_
      refine WE.ret ?_
      refine WQ.ret (v := .bool true) (by kernel_rfl) ?_
      exact ⟨rfl, HA⟩

set_option maxRecDepth 100000 in
set_option maxHeartbeats 1000000 in
theorem order_f (x y z : Nat) (w : World) (hx : x < 18446744073709551616) (hy : y < 18446744073709551616) (hz : z < 18446744073709551616) :
    Calls Try.prog 9 #[.float .f64 x, .float .f64 y, .float .f64 z] w fun e w' => e = .returned (.bool (true)) ∧ Fr [] w w' := by
  have HA := Fr.refl [] w
  refine enter (N := 72) Try.func9 (c := _) rfl (by kernel_rfl) (by kernel_rfl) (e := [(0, .float .f64 x), (1, .float .f64 y), (2, .float .f64 z)]) (by kernel_rfl) ?_
  refine WE.seq ?_
  -- R0 law.go:76
  refine WE.region ?_
  refine WO.run 1 0 [(6, .bool false)] (by kernel_rfl) (by kernel_rfl) ?_
  refine WO.done (by kernel_rfl) ?_
  refine WQ.keep [0, 1, 2, 6] (e' := [(0, .float .f64 x), (1, .float .f64 y), (2, .float .f64 z), (6, .bool false)]) (by kernel_rfl) ?_
  refine WQ.thenN ?_
  refine WE.seq ?_
  -- R1 law.go:77
  refine WE.region ?_
  refine WO.call (SQ.E 0 (by kernel_rfl)) 8 (by kernel_rfl) (up_f _) ?_
  rintro _ w1 ⟨rfl, F2⟩
  refine ⟨_, rfl, trivial, ?_⟩
  have HA := Fr.step0 HA F2
  refine WO.run 1 1 [(7, .bool true)] (by kernel_rfl) (by kernel_rfl) ?_
  refine WO.done (by kernel_rfl) ?_
  refine WQ.keep [0, 1, 2, 6, 7] (e' := [(0, .float .f64 x), (1, .float .f64 y), (2, .float .f64 z), (6, .bool false), (7, .bool true)]) (by kernel_rfl) ?_
  refine WQ.thenN ?_
  refine WE.seq ?_
  refine WE.seq ?_
  -- R2 law.go:78
  refine WE.region ?_
  refine WO.run 2 0 [(10, .float .f64 y), (9, .float .f64 x)] (by kernel_rfl) (by kernel_rfl) ?_
  refine WO.call (SQ.E 2 (by kernel_rfl)) 11 (by kernel_rfl) ((fun w_ => alike_f x y w_ hx hy) _) ?_
  rintro _ w3 ⟨rfl, F4⟩
  refine ⟨_, rfl, trivial, ?_⟩
  have HA := Fr.step0 HA F4
  refine WO.topB (alikeB x y) ?_ ?_
  · intro h5
    refine WO.run 2 3 [(13, .float .f64 y), (12, .float .f64 x)] (by kernel_rfl) (by kernel_rfl) ?_
    refine WO.call (SQ.E 5 (by kernel_rfl)) 14 (by kernel_rfl) ((fun w_ => same_f x y w_ hx hy) _) ?_
    rintro _ w6 ⟨rfl, F7⟩
    refine ⟨_, rfl, trivial, ?_⟩
    have HA := Fr.step0 HA F7
    refine WO.top (v' := .bool true) (congrArg Value.bool (by exact h5)) ?_
    refine WO.run 4 6 [(18, .float .f64 x), (17, .float .f64 x), (16, .bool false), (15, .bool false)] (by kernel_rfl) (by kernel_rfl) ?_
    refine WO.call (SQ.E 10 (by kernel_rfl)) 19 (by kernel_rfl) ((fun w_ => less_f x x w_ hx hx) _) ?_
    rintro _ w8 ⟨rfl, F9⟩
    refine ⟨_, rfl, trivial, ?_⟩
    have HA := Fr.step0 HA F9
    refine WO.top (v' := .bool false) (congrArg Value.bool (by unfold lessB; exact decide_eq_false (Nat.lt_irrefl _))) ?_
    refine WO.run 4 11 [(23, .float .f64 y), (22, .float .f64 x), (21, .bool false), (20, .bool false)] (by kernel_rfl) (by kernel_rfl) ?_
    refine WO.call (SQ.E 15 (by kernel_rfl)) 24 (by kernel_rfl) ((fun w_ => less_f x y w_ hx hy) _) ?_
    rintro _ w10 ⟨rfl, F11⟩
    refine ⟨_, rfl, trivial, ?_⟩
    have HA := Fr.step0 HA F11
    refine WO.topB (lessB x y) ?_ ?_
    · intro h12
      refine WO.run 3 16 [(27, .float .f64 x), (26, .float .f64 y), (25, .bool true)] (by kernel_rfl) (by kernel_rfl) ?_
      refine WO.call (SQ.E 19 (by kernel_rfl)) 28 (by kernel_rfl) ((fun w_ => less_f y x w_ hy hx) _) ?_
      rintro _ w13 ⟨rfl, F14⟩
      refine ⟨_, rfl, trivial, ?_⟩
      have HA := Fr.step0 HA F14
      refine WO.topB (lessB y x) ?_ ?_
      · intro h15
        refine WO.run 18 20 [(46, .bool true), (45, undef), (44, undef), (43, undef), (42, undef), (41, undef), (40, undef), (39, undef), (38, undef), (37, undef), (36, undef), (35, undef), (34, undef), (33, undef), (32, undef), (31, .bool true), (30, .bool true), (29, .bool true)] (by kernel_rfl) (by kernel_rfl) ?_
        refine WO.done (by kernel_rfl) ?_
        refine WQ.keep [0, 1, 2, 6, 7, 46] (e' := [(0, .float .f64 x), (1, .float .f64 y), (2, .float .f64 z), (6, .bool false), (7, .bool true), (46, .bool true)]) (by kernel_rfl) ?_
        refine WQ.thenN ?_
        refine WE.condT (by kernel_rfl) ?_
        refine WE.seq ?_
        -- R3 law.go:79
        refine WE.region ?_
        refine WO.run 1 0 [(6, .bool false)] (by kernel_rfl) (by kernel_rfl) ?_
        refine WO.done (by kernel_rfl) ?_
        refine WQ.keep [0, 1, 2, 6, 7, 46] (e' := [(0, .float .f64 x), (1, .float .f64 y), (2, .float .f64 z), (6, .bool false), (7, .bool true), (46, .bool true)]) (by kernel_rfl) ?_
        refine WQ.thenN ?_
        refine WE.ret ?_
        refine WQ.thenR ?_
        refine WQ.ret (v := .bool false) (by kernel_rfl) ?_
        exfalso
        simp only [lessB, alikeB, decide_eq_true_eq, decide_eq_false_iff_not] at h5 h12 h15
        omega
      · intro h15
        refine WO.run 5 20 [(33, .float .f64 y), (32, .float .f64 x), (31, .bool false), (30, .bool false), (29, .bool false)] (by kernel_rfl) (by kernel_rfl) ?_
        refine WO.call (SQ.E 25 (by kernel_rfl)) 34 (by kernel_rfl) ((fun w_ => less_f x y w_ hx hy) _) ?_
        rintro _ w16 ⟨rfl, F17⟩
        refine ⟨_, rfl, trivial, ?_⟩
        have HA := Fr.step0 HA F17
        refine WO.top (v' := .bool true) (congrArg Value.bool (by exact h12)) ?_
        refine WO.run 3 26 [(37, .float .f64 z), (36, .float .f64 y), (35, .bool true)] (by kernel_rfl) (by kernel_rfl) ?_
        refine WO.call (SQ.E 29 (by kernel_rfl)) 38 (by kernel_rfl) ((fun w_ => less_f y z w_ hy hz) _) ?_
        rintro _ w18 ⟨rfl, F19⟩
        refine ⟨_, rfl, trivial, ?_⟩
        have HA := Fr.step0 HA F19
        refine WO.topB (lessB y z) ?_ ?_
        · intro h20
          refine WO.run 4 30 [(42, .float .f64 z), (41, .float .f64 x), (40, .bool true), (39, .bool true)] (by kernel_rfl) (by kernel_rfl) ?_
          refine WO.call (SQ.E 34 (by kernel_rfl)) 43 (by kernel_rfl) ((fun w_ => less_f x z w_ hx hz) _) ?_
          rintro _ w21 ⟨rfl, F22⟩
          refine ⟨_, rfl, trivial, ?_⟩
          have HA := Fr.step0 HA F22
          refine WO.topB (lessB x z) ?_ ?_
          · intro h23
            refine WO.run 3 35 [(46, .bool false), (45, .bool false), (44, .bool false)] (by kernel_rfl) (by kernel_rfl) ?_
            refine WO.done (by kernel_rfl) ?_
            refine WQ.keep [0, 1, 2, 6, 7, 46] (e' := [(0, .float .f64 x), (1, .float .f64 y), (2, .float .f64 z), (6, .bool false), (7, .bool true), (46, .bool false)]) (by kernel_rfl) ?_
            refine WQ.thenN ?_
            refine WE.condF (by kernel_rfl) ?_
            refine WE.skip ?_
            refine WQ.thenN ?_
            refine WE.seq ?_
            -- R4 law.go:81
            refine WE.region ?_
            refine WO.run 4 0 [(50, .float .f64 y), (49, .float .f64 x), (48, .bool true), (47, .bool true)] (by kernel_rfl) (by kernel_rfl) ?_
            refine WO.call (SQ.E 4 (by kernel_rfl)) 51 (by kernel_rfl) ((fun w_ => less_f x y w_ hx hy) _) ?_
            rintro _ w24 ⟨rfl, F25⟩
            refine ⟨_, rfl, trivial, ?_⟩
            have HA := Fr.step0 HA F25
            refine WO.top (v' := .bool true) (congrArg Value.bool (by exact h12)) ?_
            refine WO.run 13 5 [(64, .float .f64 x), (63, .bool true), (62, .bool true), (61, .bool true), (60, undef), (59, undef), (58, undef), (57, .bool true), (56, .bool true), (55, undef), (54, undef), (53, undef), (52, .bool true)] (by kernel_rfl) (by kernel_rfl) ?_
            refine WO.call (SQ.E 18 (by kernel_rfl)) 65 (by kernel_rfl) (isnan_f x _) ?_
            rintro _ w26 ⟨rfl, F27⟩
            refine ⟨_, rfl, trivial, ?_⟩
            have HA := Fr.step0 HA F27
            refine WO.topB (nanB x) ?_ ?_
            · intro h28
              refine WO.run 7 19 [(6, .bool true), (71, .bool true), (70, .bool true), (69, undef), (68, undef), (67, undef), (66, .bool true)] (by kernel_rfl) (by kernel_rfl) ?_
              refine WO.done (by kernel_rfl) ?_
              refine WQ.keep [0, 1, 2, 6, 7, 46] (e' := [(0, .float .f64 x), (1, .float .f64 y), (2, .float .f64 z), (6, .bool true), (7, .bool true), (46, .bool false)]) (by kernel_rfl) ?_
              refine WQ.thenN ?_
              refine WE.ret ?_
              refine WQ.ret (v := .bool true) (by kernel_rfl) ?_
              exact ⟨rfl, HA⟩
            · intro h28
              refine WO.run 2 19 [(67, .float .f64 x), (66, .bool false)] (by kernel_rfl) (by kernel_rfl) ?_
              refine WO.call (SQ.E 21 (by kernel_rfl)) 68 (by kernel_rfl) (nan_f _) ?_
              rintro _ w29 ⟨rfl, F30⟩
              refine ⟨_, rfl, trivial, ?_⟩
              have HA := Fr.step0 HA F30
              refine WO.call (SQ.E 22 (by kernel_rfl)) 69 (by kernel_rfl) ((fun w_ => less_f x 9221120237041090561 w_ hx (by decide)) _) ?_
              rintro _ w31 ⟨rfl, F32⟩
              refine ⟨_, rfl, trivial, ?_⟩
              have HA := Fr.step0 HA F32
              refine WO.top (v' := .bool true) (congrArg Value.bool (by exact less_nan hx h28)) ?_
              refine WO.run 3 23 [(6, .bool true), (71, .bool true), (70, .bool true)] (by kernel_rfl) (by kernel_rfl) ?_
              refine WO.done (by kernel_rfl) ?_
              refine WQ.keep [0, 1, 2, 6, 7, 46] (e' := [(0, .float .f64 x), (1, .float .f64 y), (2, .float .f64 z), (6, .bool true), (7, .bool true), (46, .bool false)]) (by kernel_rfl) ?_
              refine WQ.thenN ?_
              refine WE.ret ?_
              refine WQ.ret (v := .bool true) (by kernel_rfl) ?_
              exact ⟨rfl, HA⟩
          · intro h23
            refine WO.run 3 35 [(46, .bool true), (45, .bool true), (44, .bool true)] (by kernel_rfl) (by kernel_rfl) ?_
            refine WO.done (by kernel_rfl) ?_
            refine WQ.keep [0, 1, 2, 6, 7, 46] (e' := [(0, .float .f64 x), (1, .float .f64 y), (2, .float .f64 z), (6, .bool false), (7, .bool true), (46, .bool true)]) (by kernel_rfl) ?_
            refine WQ.thenN ?_
            refine WE.condT (by kernel_rfl) ?_
            refine WE.seq ?_
            -- R3 law.go:79
            refine WE.region ?_
            refine WO.run 1 0 [(6, .bool false)] (by kernel_rfl) (by kernel_rfl) ?_
            refine WO.done (by kernel_rfl) ?_
            refine WQ.keep [0, 1, 2, 6, 7, 46] (e' := [(0, .float .f64 x), (1, .float .f64 y), (2, .float .f64 z), (6, .bool false), (7, .bool true), (46, .bool true)]) (by kernel_rfl) ?_
            refine WQ.thenN ?_
            refine WE.ret ?_
            refine WQ.thenR ?_
            refine WQ.ret (v := .bool false) (by kernel_rfl) ?_
            exfalso
            simp only [lessB, alikeB, decide_eq_true_eq, decide_eq_false_iff_not] at h5 h12 h15 h20 h23
            omega
        · intro h20
          refine WO.run 8 30 [(46, .bool false), (45, .bool false), (44, undef), (43, undef), (42, undef), (41, undef), (40, .bool false), (39, .bool false)] (by kernel_rfl) (by kernel_rfl) ?_
          refine WO.done (by kernel_rfl) ?_
          refine WQ.keep [0, 1, 2, 6, 7, 46] (e' := [(0, .float .f64 x), (1, .float .f64 y), (2, .float .f64 z), (6, .bool false), (7, .bool true), (46, .bool false)]) (by kernel_rfl) ?_
          refine WQ.thenN ?_
          refine WE.condF (by kernel_rfl) ?_
          refine WE.skip ?_
          refine WQ.thenN ?_
          refine WE.seq ?_
          -- R4 law.go:81
          refine WE.region ?_
          refine WO.run 4 0 [(50, .float .f64 y), (49, .float .f64 x), (48, .bool true), (47, .bool true)] (by kernel_rfl) (by kernel_rfl) ?_
          refine WO.call (SQ.E 4 (by kernel_rfl)) 51 (by kernel_rfl) ((fun w_ => less_f x y w_ hx hy) _) ?_
          rintro _ w33 ⟨rfl, F34⟩
          refine ⟨_, rfl, trivial, ?_⟩
          have HA := Fr.step0 HA F34
          refine WO.top (v' := .bool true) (congrArg Value.bool (by exact h12)) ?_
          refine WO.run 13 5 [(64, .float .f64 x), (63, .bool true), (62, .bool true), (61, .bool true), (60, undef), (59, undef), (58, undef), (57, .bool true), (56, .bool true), (55, undef), (54, undef), (53, undef), (52, .bool true)] (by kernel_rfl) (by kernel_rfl) ?_
          refine WO.call (SQ.E 18 (by kernel_rfl)) 65 (by kernel_rfl) (isnan_f x _) ?_
          rintro _ w35 ⟨rfl, F36⟩
          refine ⟨_, rfl, trivial, ?_⟩
          have HA := Fr.step0 HA F36
          refine WO.topB (nanB x) ?_ ?_
          · intro h37
            refine WO.run 7 19 [(6, .bool true), (71, .bool true), (70, .bool true), (69, undef), (68, undef), (67, undef), (66, .bool true)] (by kernel_rfl) (by kernel_rfl) ?_
            refine WO.done (by kernel_rfl) ?_
            refine WQ.keep [0, 1, 2, 6, 7, 46] (e' := [(0, .float .f64 x), (1, .float .f64 y), (2, .float .f64 z), (6, .bool true), (7, .bool true), (46, .bool false)]) (by kernel_rfl) ?_
            refine WQ.thenN ?_
            refine WE.ret ?_
            refine WQ.ret (v := .bool true) (by kernel_rfl) ?_
            exact ⟨rfl, HA⟩
          · intro h37
            refine WO.run 2 19 [(67, .float .f64 x), (66, .bool false)] (by kernel_rfl) (by kernel_rfl) ?_
            refine WO.call (SQ.E 21 (by kernel_rfl)) 68 (by kernel_rfl) (nan_f _) ?_
            rintro _ w38 ⟨rfl, F39⟩
            refine ⟨_, rfl, trivial, ?_⟩
            have HA := Fr.step0 HA F39
            refine WO.call (SQ.E 22 (by kernel_rfl)) 69 (by kernel_rfl) ((fun w_ => less_f x 9221120237041090561 w_ hx (by decide)) _) ?_
            rintro _ w40 ⟨rfl, F41⟩
            refine ⟨_, rfl, trivial, ?_⟩
            have HA := Fr.step0 HA F41
            refine WO.top (v' := .bool true) (congrArg Value.bool (by exact less_nan hx h37)) ?_
            refine WO.run 3 23 [(6, .bool true), (71, .bool true), (70, .bool true)] (by kernel_rfl) (by kernel_rfl) ?_
            refine WO.done (by kernel_rfl) ?_
            refine WQ.keep [0, 1, 2, 6, 7, 46] (e' := [(0, .float .f64 x), (1, .float .f64 y), (2, .float .f64 z), (6, .bool true), (7, .bool true), (46, .bool false)]) (by kernel_rfl) ?_
            refine WQ.thenN ?_
            refine WE.ret ?_
            refine WQ.ret (v := .bool true) (by kernel_rfl) ?_
            exact ⟨rfl, HA⟩
    · intro h12
      refine WO.run 9 16 [(33, .float .f64 y), (32, .float .f64 x), (31, .bool false), (30, .bool false), (29, .bool false), (28, undef), (27, undef), (26, undef), (25, .bool false)] (by kernel_rfl) (by kernel_rfl) ?_
      refine WO.call (SQ.E 25 (by kernel_rfl)) 34 (by kernel_rfl) ((fun w_ => less_f x y w_ hx hy) _) ?_
      rintro _ w42 ⟨rfl, F43⟩
      refine ⟨_, rfl, trivial, ?_⟩
      have HA := Fr.step0 HA F43
      refine WO.top (v' := .bool false) (congrArg Value.bool (by exact h12)) ?_
      refine WO.run 12 26 [(46, .bool false), (45, .bool false), (44, undef), (43, undef), (42, undef), (41, undef), (40, .bool false), (39, .bool false), (38, undef), (37, undef), (36, undef), (35, .bool false)] (by kernel_rfl) (by kernel_rfl) ?_
      refine WO.done (by kernel_rfl) ?_
      refine WQ.keep [0, 1, 2, 6, 7, 46] (e' := [(0, .float .f64 x), (1, .float .f64 y), (2, .float .f64 z), (6, .bool false), (7, .bool true), (46, .bool false)]) (by kernel_rfl) ?_
      refine WQ.thenN ?_
      refine WE.condF (by kernel_rfl) ?_
      refine WE.skip ?_
      refine WQ.thenN ?_
      refine WE.seq ?_
      -- R4 law.go:81
      refine WE.region ?_
      refine WO.run 4 0 [(50, .float .f64 y), (49, .float .f64 x), (48, .bool true), (47, .bool true)] (by kernel_rfl) (by kernel_rfl) ?_
      refine WO.call (SQ.E 4 (by kernel_rfl)) 51 (by kernel_rfl) ((fun w_ => less_f x y w_ hx hy) _) ?_
      rintro _ w44 ⟨rfl, F45⟩
      refine ⟨_, rfl, trivial, ?_⟩
      have HA := Fr.step0 HA F45
      refine WO.top (v' := .bool false) (congrArg Value.bool (by exact h12)) ?_
      refine WO.run 3 5 [(54, .float .f64 x), (53, .float .f64 y), (52, .bool false)] (by kernel_rfl) (by kernel_rfl) ?_
      refine WO.call (SQ.E 8 (by kernel_rfl)) 55 (by kernel_rfl) ((fun w_ => less_f y x w_ hy hx) _) ?_
      rintro _ w46 ⟨rfl, F47⟩
      refine ⟨_, rfl, trivial, ?_⟩
      have HA := Fr.step0 HA F47
      refine WO.topB (lessB y x) ?_ ?_
      · intro h48
        refine WO.run 9 9 [(64, .float .f64 x), (63, .bool true), (62, .bool true), (61, .bool true), (60, undef), (59, undef), (58, undef), (57, .bool true), (56, .bool true)] (by kernel_rfl) (by kernel_rfl) ?_
        refine WO.call (SQ.E 18 (by kernel_rfl)) 65 (by kernel_rfl) (isnan_f x _) ?_
        rintro _ w49 ⟨rfl, F50⟩
        refine ⟨_, rfl, trivial, ?_⟩
        have HA := Fr.step0 HA F50
        refine WO.topB (nanB x) ?_ ?_
        · intro h51
          refine WO.run 7 19 [(6, .bool true), (71, .bool true), (70, .bool true), (69, undef), (68, undef), (67, undef), (66, .bool true)] (by kernel_rfl) (by kernel_rfl) ?_
          refine WO.done (by kernel_rfl) ?_
          refine WQ.keep [0, 1, 2, 6, 7, 46] (e' := [(0, .float .f64 x), (1, .float .f64 y), (2, .float .f64 z), (6, .bool true), (7, .bool true), (46, .bool false)]) (by kernel_rfl) ?_
          refine WQ.thenN ?_
          refine WE.ret ?_
          refine WQ.ret (v := .bool true) (by kernel_rfl) ?_
          exact ⟨rfl, HA⟩
        · intro h51
          refine WO.run 2 19 [(67, .float .f64 x), (66, .bool false)] (by kernel_rfl) (by kernel_rfl) ?_
          refine WO.call (SQ.E 21 (by kernel_rfl)) 68 (by kernel_rfl) (nan_f _) ?_
          rintro _ w52 ⟨rfl, F53⟩
          refine ⟨_, rfl, trivial, ?_⟩
          have HA := Fr.step0 HA F53
          refine WO.call (SQ.E 22 (by kernel_rfl)) 69 (by kernel_rfl) ((fun w_ => less_f x 9221120237041090561 w_ hx (by decide)) _) ?_
          rintro _ w54 ⟨rfl, F55⟩
          refine ⟨_, rfl, trivial, ?_⟩
          have HA := Fr.step0 HA F55
          refine WO.top (v' := .bool true) (congrArg Value.bool (by exact less_nan hx h51)) ?_
          refine WO.run 3 23 [(6, .bool true), (71, .bool true), (70, .bool true)] (by kernel_rfl) (by kernel_rfl) ?_
          refine WO.done (by kernel_rfl) ?_
          refine WQ.keep [0, 1, 2, 6, 7, 46] (e' := [(0, .float .f64 x), (1, .float .f64 y), (2, .float .f64 z), (6, .bool true), (7, .bool true), (46, .bool false)]) (by kernel_rfl) ?_
          refine WQ.thenN ?_
          refine WE.ret ?_
          refine WQ.ret (v := .bool true) (by kernel_rfl) ?_
          exact ⟨rfl, HA⟩
      · intro h48
        refine WO.run 4 9 [(59, .float .f64 y), (58, .float .f64 x), (57, .bool false), (56, .bool false)] (by kernel_rfl) (by kernel_rfl) ?_
        refine WO.call (SQ.E 13 (by kernel_rfl)) 60 (by kernel_rfl) ((fun w_ => alike_f x y w_ hx hy) _) ?_
        rintro _ w56 ⟨rfl, F57⟩
        refine ⟨_, rfl, trivial, ?_⟩
        have HA := Fr.step0 HA F57
        refine WO.top (v' := .bool true) (congrArg Value.bool (by exact h5)) ?_
        refine WO.run 4 14 [(64, .float .f64 x), (63, .bool true), (62, .bool true), (61, .bool true)] (by kernel_rfl) (by kernel_rfl) ?_
        refine WO.call (SQ.E 18 (by kernel_rfl)) 65 (by kernel_rfl) (isnan_f x _) ?_
        rintro _ w58 ⟨rfl, F59⟩
        refine ⟨_, rfl, trivial, ?_⟩
        have HA := Fr.step0 HA F59
        refine WO.topB (nanB x) ?_ ?_
        · intro h60
          refine WO.run 7 19 [(6, .bool true), (71, .bool true), (70, .bool true), (69, undef), (68, undef), (67, undef), (66, .bool true)] (by kernel_rfl) (by kernel_rfl) ?_
          refine WO.done (by kernel_rfl) ?_
          refine WQ.keep [0, 1, 2, 6, 7, 46] (e' := [(0, .float .f64 x), (1, .float .f64 y), (2, .float .f64 z), (6, .bool true), (7, .bool true), (46, .bool false)]) (by kernel_rfl) ?_
          refine WQ.thenN ?_
          refine WE.ret ?_
          refine WQ.ret (v := .bool true) (by kernel_rfl) ?_
          exact ⟨rfl, HA⟩
        · intro h60
          refine WO.run 2 19 [(67, .float .f64 x), (66, .bool false)] (by kernel_rfl) (by kernel_rfl) ?_
          refine WO.call (SQ.E 21 (by kernel_rfl)) 68 (by kernel_rfl) (nan_f _) ?_
          rintro _ w61 ⟨rfl, F62⟩
          refine ⟨_, rfl, trivial, ?_⟩
          have HA := Fr.step0 HA F62
          refine WO.call (SQ.E 22 (by kernel_rfl)) 69 (by kernel_rfl) ((fun w_ => less_f x 9221120237041090561 w_ hx (by decide)) _) ?_
          rintro _ w63 ⟨rfl, F64⟩
          refine ⟨_, rfl, trivial, ?_⟩
          have HA := Fr.step0 HA F64
          refine WO.top (v' := .bool true) (congrArg Value.bool (by exact less_nan hx h60)) ?_
          refine WO.run 3 23 [(6, .bool true), (71, .bool true), (70, .bool true)] (by kernel_rfl) (by kernel_rfl) ?_
          refine WO.done (by kernel_rfl) ?_
          refine WQ.keep [0, 1, 2, 6, 7, 46] (e' := [(0, .float .f64 x), (1, .float .f64 y), (2, .float .f64 z), (6, .bool true), (7, .bool true), (46, .bool false)]) (by kernel_rfl) ?_
          refine WQ.thenN ?_
          refine WE.ret ?_
          refine WQ.ret (v := .bool true) (by kernel_rfl) ?_
          exact ⟨rfl, HA⟩
  · intro h5
    refine WO.run 2 3 [(13, .float .f64 y), (12, .float .f64 x)] (by kernel_rfl) (by kernel_rfl) ?_
    refine WO.call (SQ.E 5 (by kernel_rfl)) 14 (by kernel_rfl) ((fun w_ => same_f x y w_ hx hy) _) ?_
    rintro _ w65 ⟨rfl, F66⟩
    refine ⟨_, rfl, trivial, ?_⟩
    have HA := Fr.step0 HA F66
    refine WO.top (v' := .bool false) (congrArg Value.bool (by exact h5)) ?_
    refine WO.run 4 6 [(18, .float .f64 x), (17, .float .f64 x), (16, .bool false), (15, .bool false)] (by kernel_rfl) (by kernel_rfl) ?_
    refine WO.call (SQ.E 10 (by kernel_rfl)) 19 (by kernel_rfl) ((fun w_ => less_f x x w_ hx hx) _) ?_
    rintro _ w67 ⟨rfl, F68⟩
    refine ⟨_, rfl, trivial, ?_⟩
    have HA := Fr.step0 HA F68
    refine WO.top (v' := .bool false) (congrArg Value.bool (by unfold lessB; exact decide_eq_false (Nat.lt_irrefl _))) ?_
    refine WO.run 4 11 [(23, .float .f64 y), (22, .float .f64 x), (21, .bool false), (20, .bool false)] (by kernel_rfl) (by kernel_rfl) ?_
    refine WO.call (SQ.E 15 (by kernel_rfl)) 24 (by kernel_rfl) ((fun w_ => less_f x y w_ hx hy) _) ?_
    rintro _ w69 ⟨rfl, F70⟩
    refine ⟨_, rfl, trivial, ?_⟩
    have HA := Fr.step0 HA F70
    refine WO.topB (lessB x y) ?_ ?_
    · intro h71
      refine WO.run 3 16 [(27, .float .f64 x), (26, .float .f64 y), (25, .bool true)] (by kernel_rfl) (by kernel_rfl) ?_
      refine WO.call (SQ.E 19 (by kernel_rfl)) 28 (by kernel_rfl) ((fun w_ => less_f y x w_ hy hx) _) ?_
      rintro _ w72 ⟨rfl, F73⟩
      refine ⟨_, rfl, trivial, ?_⟩
      have HA := Fr.step0 HA F73
      refine WO.topB (lessB y x) ?_ ?_
      · intro h74
        refine WO.run 18 20 [(46, .bool true), (45, undef), (44, undef), (43, undef), (42, undef), (41, undef), (40, undef), (39, undef), (38, undef), (37, undef), (36, undef), (35, undef), (34, undef), (33, undef), (32, undef), (31, .bool true), (30, .bool true), (29, .bool true)] (by kernel_rfl) (by kernel_rfl) ?_
        refine WO.done (by kernel_rfl) ?_
        refine WQ.keep [0, 1, 2, 6, 7, 46] (e' := [(0, .float .f64 x), (1, .float .f64 y), (2, .float .f64 z), (6, .bool false), (7, .bool true), (46, .bool true)]) (by kernel_rfl) ?_
        refine WQ.thenN ?_
        refine WE.condT (by kernel_rfl) ?_
        refine WE.seq ?_
        -- R3 law.go:79
        refine WE.region ?_
        refine WO.run 1 0 [(6, .bool false)] (by kernel_rfl) (by kernel_rfl) ?_
        refine WO.done (by kernel_rfl) ?_
        refine WQ.keep [0, 1, 2, 6, 7, 46] (e' := [(0, .float .f64 x), (1, .float .f64 y), (2, .float .f64 z), (6, .bool false), (7, .bool true), (46, .bool true)]) (by kernel_rfl) ?_
        refine WQ.thenN ?_
        refine WE.ret ?_
        refine WQ.thenR ?_
        refine WQ.ret (v := .bool false) (by kernel_rfl) ?_
        exfalso
        simp only [lessB, alikeB, decide_eq_true_eq, decide_eq_false_iff_not] at h5 h71 h74
        omega
      · intro h74
        refine WO.run 5 20 [(33, .float .f64 y), (32, .float .f64 x), (31, .bool false), (30, .bool false), (29, .bool false)] (by kernel_rfl) (by kernel_rfl) ?_
        refine WO.call (SQ.E 25 (by kernel_rfl)) 34 (by kernel_rfl) ((fun w_ => less_f x y w_ hx hy) _) ?_
        rintro _ w75 ⟨rfl, F76⟩
        refine ⟨_, rfl, trivial, ?_⟩
        have HA := Fr.step0 HA F76
        refine WO.top (v' := .bool true) (congrArg Value.bool (by exact h71)) ?_
        refine WO.run 3 26 [(37, .float .f64 z), (36, .float .f64 y), (35, .bool true)] (by kernel_rfl) (by kernel_rfl) ?_
        refine WO.call (SQ.E 29 (by kernel_rfl)) 38 (by kernel_rfl) ((fun w_ => less_f y z w_ hy hz) _) ?_
        rintro _ w77 ⟨rfl, F78⟩
        refine ⟨_, rfl, trivial, ?_⟩
        have HA := Fr.step0 HA F78
        refine WO.topB (lessB y z) ?_ ?_
        · intro h79
          refine WO.run 4 30 [(42, .float .f64 z), (41, .float .f64 x), (40, .bool true), (39, .bool true)] (by kernel_rfl) (by kernel_rfl) ?_
          refine WO.call (SQ.E 34 (by kernel_rfl)) 43 (by kernel_rfl) ((fun w_ => less_f x z w_ hx hz) _) ?_
          rintro _ w80 ⟨rfl, F81⟩
          refine ⟨_, rfl, trivial, ?_⟩
          have HA := Fr.step0 HA F81
          refine WO.topB (lessB x z) ?_ ?_
          · intro h82
            refine WO.run 3 35 [(46, .bool false), (45, .bool false), (44, .bool false)] (by kernel_rfl) (by kernel_rfl) ?_
            refine WO.done (by kernel_rfl) ?_
            refine WQ.keep [0, 1, 2, 6, 7, 46] (e' := [(0, .float .f64 x), (1, .float .f64 y), (2, .float .f64 z), (6, .bool false), (7, .bool true), (46, .bool false)]) (by kernel_rfl) ?_
            refine WQ.thenN ?_
            refine WE.condF (by kernel_rfl) ?_
            refine WE.skip ?_
            refine WQ.thenN ?_
            refine WE.seq ?_
            -- R4 law.go:81
            refine WE.region ?_
            refine WO.run 4 0 [(50, .float .f64 y), (49, .float .f64 x), (48, .bool true), (47, .bool true)] (by kernel_rfl) (by kernel_rfl) ?_
            refine WO.call (SQ.E 4 (by kernel_rfl)) 51 (by kernel_rfl) ((fun w_ => less_f x y w_ hx hy) _) ?_
            rintro _ w83 ⟨rfl, F84⟩
            refine ⟨_, rfl, trivial, ?_⟩
            have HA := Fr.step0 HA F84
            refine WO.top (v' := .bool true) (congrArg Value.bool (by exact h71)) ?_
            refine WO.run 13 5 [(64, .float .f64 x), (63, .bool true), (62, .bool true), (61, .bool true), (60, undef), (59, undef), (58, undef), (57, .bool true), (56, .bool true), (55, undef), (54, undef), (53, undef), (52, .bool true)] (by kernel_rfl) (by kernel_rfl) ?_
            refine WO.call (SQ.E 18 (by kernel_rfl)) 65 (by kernel_rfl) (isnan_f x _) ?_
            rintro _ w85 ⟨rfl, F86⟩
            refine ⟨_, rfl, trivial, ?_⟩
            have HA := Fr.step0 HA F86
            refine WO.topB (nanB x) ?_ ?_
            · intro h87
              refine WO.run 7 19 [(6, .bool true), (71, .bool true), (70, .bool true), (69, undef), (68, undef), (67, undef), (66, .bool true)] (by kernel_rfl) (by kernel_rfl) ?_
              refine WO.done (by kernel_rfl) ?_
              refine WQ.keep [0, 1, 2, 6, 7, 46] (e' := [(0, .float .f64 x), (1, .float .f64 y), (2, .float .f64 z), (6, .bool true), (7, .bool true), (46, .bool false)]) (by kernel_rfl) ?_
              refine WQ.thenN ?_
              refine WE.ret ?_
              refine WQ.ret (v := .bool true) (by kernel_rfl) ?_
              exact ⟨rfl, HA⟩
            · intro h87
              refine WO.run 2 19 [(67, .float .f64 x), (66, .bool false)] (by kernel_rfl) (by kernel_rfl) ?_
              refine WO.call (SQ.E 21 (by kernel_rfl)) 68 (by kernel_rfl) (nan_f _) ?_
              rintro _ w88 ⟨rfl, F89⟩
              refine ⟨_, rfl, trivial, ?_⟩
              have HA := Fr.step0 HA F89
              refine WO.call (SQ.E 22 (by kernel_rfl)) 69 (by kernel_rfl) ((fun w_ => less_f x 9221120237041090561 w_ hx (by decide)) _) ?_
              rintro _ w90 ⟨rfl, F91⟩
              refine ⟨_, rfl, trivial, ?_⟩
              have HA := Fr.step0 HA F91
              refine WO.top (v' := .bool true) (congrArg Value.bool (by exact less_nan hx h87)) ?_
              refine WO.run 3 23 [(6, .bool true), (71, .bool true), (70, .bool true)] (by kernel_rfl) (by kernel_rfl) ?_
              refine WO.done (by kernel_rfl) ?_
              refine WQ.keep [0, 1, 2, 6, 7, 46] (e' := [(0, .float .f64 x), (1, .float .f64 y), (2, .float .f64 z), (6, .bool true), (7, .bool true), (46, .bool false)]) (by kernel_rfl) ?_
              refine WQ.thenN ?_
              refine WE.ret ?_
              refine WQ.ret (v := .bool true) (by kernel_rfl) ?_
              exact ⟨rfl, HA⟩
          · intro h82
            refine WO.run 3 35 [(46, .bool true), (45, .bool true), (44, .bool true)] (by kernel_rfl) (by kernel_rfl) ?_
            refine WO.done (by kernel_rfl) ?_
            refine WQ.keep [0, 1, 2, 6, 7, 46] (e' := [(0, .float .f64 x), (1, .float .f64 y), (2, .float .f64 z), (6, .bool false), (7, .bool true), (46, .bool true)]) (by kernel_rfl) ?_
            refine WQ.thenN ?_
            refine WE.condT (by kernel_rfl) ?_
            refine WE.seq ?_
            -- R3 law.go:79
            refine WE.region ?_
            refine WO.run 1 0 [(6, .bool false)] (by kernel_rfl) (by kernel_rfl) ?_
            refine WO.done (by kernel_rfl) ?_
            refine WQ.keep [0, 1, 2, 6, 7, 46] (e' := [(0, .float .f64 x), (1, .float .f64 y), (2, .float .f64 z), (6, .bool false), (7, .bool true), (46, .bool true)]) (by kernel_rfl) ?_
            refine WQ.thenN ?_
            refine WE.ret ?_
            refine WQ.thenR ?_
            refine WQ.ret (v := .bool false) (by kernel_rfl) ?_
            exfalso
            simp only [lessB, alikeB, decide_eq_true_eq, decide_eq_false_iff_not] at h5 h71 h74 h79 h82
            omega
        · intro h79
          refine WO.run 8 30 [(46, .bool false), (45, .bool false), (44, undef), (43, undef), (42, undef), (41, undef), (40, .bool false), (39, .bool false)] (by kernel_rfl) (by kernel_rfl) ?_
          refine WO.done (by kernel_rfl) ?_
          refine WQ.keep [0, 1, 2, 6, 7, 46] (e' := [(0, .float .f64 x), (1, .float .f64 y), (2, .float .f64 z), (6, .bool false), (7, .bool true), (46, .bool false)]) (by kernel_rfl) ?_
          refine WQ.thenN ?_
          refine WE.condF (by kernel_rfl) ?_
          refine WE.skip ?_
          refine WQ.thenN ?_
          refine WE.seq ?_
          -- R4 law.go:81
          refine WE.region ?_
          refine WO.run 4 0 [(50, .float .f64 y), (49, .float .f64 x), (48, .bool true), (47, .bool true)] (by kernel_rfl) (by kernel_rfl) ?_
          refine WO.call (SQ.E 4 (by kernel_rfl)) 51 (by kernel_rfl) ((fun w_ => less_f x y w_ hx hy) _) ?_
          rintro _ w92 ⟨rfl, F93⟩
          refine ⟨_, rfl, trivial, ?_⟩
          have HA := Fr.step0 HA F93
          refine WO.top (v' := .bool true) (congrArg Value.bool (by exact h71)) ?_
          refine WO.run 13 5 [(64, .float .f64 x), (63, .bool true), (62, .bool true), (61, .bool true), (60, undef), (59, undef), (58, undef), (57, .bool true), (56, .bool true), (55, undef), (54, undef), (53, undef), (52, .bool true)] (by kernel_rfl) (by kernel_rfl) ?_
          refine WO.call (SQ.E 18 (by kernel_rfl)) 65 (by kernel_rfl) (isnan_f x _) ?_
          rintro _ w94 ⟨rfl, F95⟩
          refine ⟨_, rfl, trivial, ?_⟩
          have HA := Fr.step0 HA F95
          refine WO.topB (nanB x) ?_ ?_
          · intro h96
            refine WO.run 7 19 [(6, .bool true), (71, .bool true), (70, .bool true), (69, undef), (68, undef), (67, undef), (66, .bool true)] (by kernel_rfl) (by kernel_rfl) ?_
            refine WO.done (by kernel_rfl) ?_
            refine WQ.keep [0, 1, 2, 6, 7, 46] (e' := [(0, .float .f64 x), (1, .float .f64 y), (2, .float .f64 z), (6, .bool true), (7, .bool true), (46, .bool false)]) (by kernel_rfl) ?_
            refine WQ.thenN ?_
            refine WE.ret ?_
            refine WQ.ret (v := .bool true) (by kernel_rfl) ?_
            exact ⟨rfl, HA⟩
          · intro h96
            refine WO.run 2 19 [(67, .float .f64 x), (66, .bool false)] (by kernel_rfl) (by kernel_rfl) ?_
            refine WO.call (SQ.E 21 (by kernel_rfl)) 68 (by kernel_rfl) (nan_f _) ?_
            rintro _ w97 ⟨rfl, F98⟩
            refine ⟨_, rfl, trivial, ?_⟩
            have HA := Fr.step0 HA F98
            refine WO.call (SQ.E 22 (by kernel_rfl)) 69 (by kernel_rfl) ((fun w_ => less_f x 9221120237041090561 w_ hx (by decide)) _) ?_
            rintro _ w99 ⟨rfl, F100⟩
            refine ⟨_, rfl, trivial, ?_⟩
            have HA := Fr.step0 HA F100
            refine WO.top (v' := .bool true) (congrArg Value.bool (by exact less_nan hx h96)) ?_
            refine WO.run 3 23 [(6, .bool true), (71, .bool true), (70, .bool true)] (by kernel_rfl) (by kernel_rfl) ?_
            refine WO.done (by kernel_rfl) ?_
            refine WQ.keep [0, 1, 2, 6, 7, 46] (e' := [(0, .float .f64 x), (1, .float .f64 y), (2, .float .f64 z), (6, .bool true), (7, .bool true), (46, .bool false)]) (by kernel_rfl) ?_
            refine WQ.thenN ?_
            refine WE.ret ?_
            refine WQ.ret (v := .bool true) (by kernel_rfl) ?_
            exact ⟨rfl, HA⟩
    · intro h71
      refine WO.run 9 16 [(33, .float .f64 y), (32, .float .f64 x), (31, .bool false), (30, .bool false), (29, .bool false), (28, undef), (27, undef), (26, undef), (25, .bool false)] (by kernel_rfl) (by kernel_rfl) ?_
      refine WO.call (SQ.E 25 (by kernel_rfl)) 34 (by kernel_rfl) ((fun w_ => less_f x y w_ hx hy) _) ?_
      rintro _ w101 ⟨rfl, F102⟩
      refine ⟨_, rfl, trivial, ?_⟩
      have HA := Fr.step0 HA F102
      refine WO.top (v' := .bool false) (congrArg Value.bool (by exact h71)) ?_
      refine WO.run 12 26 [(46, .bool false), (45, .bool false), (44, undef), (43, undef), (42, undef), (41, undef), (40, .bool false), (39, .bool false), (38, undef), (37, undef), (36, undef), (35, .bool false)] (by kernel_rfl) (by kernel_rfl) ?_
      refine WO.done (by kernel_rfl) ?_
      refine WQ.keep [0, 1, 2, 6, 7, 46] (e' := [(0, .float .f64 x), (1, .float .f64 y), (2, .float .f64 z), (6, .bool false), (7, .bool true), (46, .bool false)]) (by kernel_rfl) ?_
      refine WQ.thenN ?_
      refine WE.condF (by kernel_rfl) ?_
      refine WE.skip ?_
      refine WQ.thenN ?_
      refine WE.seq ?_
      -- R4 law.go:81
      refine WE.region ?_
      refine WO.run 4 0 [(50, .float .f64 y), (49, .float .f64 x), (48, .bool true), (47, .bool true)] (by kernel_rfl) (by kernel_rfl) ?_
      refine WO.call (SQ.E 4 (by kernel_rfl)) 51 (by kernel_rfl) ((fun w_ => less_f x y w_ hx hy) _) ?_
      rintro _ w103 ⟨rfl, F104⟩
      refine ⟨_, rfl, trivial, ?_⟩
      have HA := Fr.step0 HA F104
      refine WO.top (v' := .bool false) (congrArg Value.bool (by exact h71)) ?_
      refine WO.run 3 5 [(54, .float .f64 x), (53, .float .f64 y), (52, .bool false)] (by kernel_rfl) (by kernel_rfl) ?_
      refine WO.call (SQ.E 8 (by kernel_rfl)) 55 (by kernel_rfl) ((fun w_ => less_f y x w_ hy hx) _) ?_
      rintro _ w105 ⟨rfl, F106⟩
      refine ⟨_, rfl, trivial, ?_⟩
      have HA := Fr.step0 HA F106
      refine WO.topB (lessB y x) ?_ ?_
      · intro h107
        refine WO.run 9 9 [(64, .float .f64 x), (63, .bool true), (62, .bool true), (61, .bool true), (60, undef), (59, undef), (58, undef), (57, .bool true), (56, .bool true)] (by kernel_rfl) (by kernel_rfl) ?_
        refine WO.call (SQ.E 18 (by kernel_rfl)) 65 (by kernel_rfl) (isnan_f x _) ?_
        rintro _ w108 ⟨rfl, F109⟩
        refine ⟨_, rfl, trivial, ?_⟩
        have HA := Fr.step0 HA F109
        refine WO.topB (nanB x) ?_ ?_
        · intro h110
          refine WO.run 7 19 [(6, .bool true), (71, .bool true), (70, .bool true), (69, undef), (68, undef), (67, undef), (66, .bool true)] (by kernel_rfl) (by kernel_rfl) ?_
          refine WO.done (by kernel_rfl) ?_
          refine WQ.keep [0, 1, 2, 6, 7, 46] (e' := [(0, .float .f64 x), (1, .float .f64 y), (2, .float .f64 z), (6, .bool true), (7, .bool true), (46, .bool false)]) (by kernel_rfl) ?_
          refine WQ.thenN ?_
          refine WE.ret ?_
          refine WQ.ret (v := .bool true) (by kernel_rfl) ?_
          exact ⟨rfl, HA⟩
        · intro h110
          refine WO.run 2 19 [(67, .float .f64 x), (66, .bool false)] (by kernel_rfl) (by kernel_rfl) ?_
          refine WO.call (SQ.E 21 (by kernel_rfl)) 68 (by kernel_rfl) (nan_f _) ?_
          rintro _ w111 ⟨rfl, F112⟩
          refine ⟨_, rfl, trivial, ?_⟩
          have HA := Fr.step0 HA F112
          refine WO.call (SQ.E 22 (by kernel_rfl)) 69 (by kernel_rfl) ((fun w_ => less_f x 9221120237041090561 w_ hx (by decide)) _) ?_
          rintro _ w113 ⟨rfl, F114⟩
          refine ⟨_, rfl, trivial, ?_⟩
          have HA := Fr.step0 HA F114
          refine WO.top (v' := .bool true) (congrArg Value.bool (by exact less_nan hx h110)) ?_
          refine WO.run 3 23 [(6, .bool true), (71, .bool true), (70, .bool true)] (by kernel_rfl) (by kernel_rfl) ?_
          refine WO.done (by kernel_rfl) ?_
          refine WQ.keep [0, 1, 2, 6, 7, 46] (e' := [(0, .float .f64 x), (1, .float .f64 y), (2, .float .f64 z), (6, .bool true), (7, .bool true), (46, .bool false)]) (by kernel_rfl) ?_
          refine WQ.thenN ?_
          refine WE.ret ?_
          refine WQ.ret (v := .bool true) (by kernel_rfl) ?_
          exact ⟨rfl, HA⟩
      · intro h107
        refine WO.run 4 9 [(59, .float .f64 y), (58, .float .f64 x), (57, .bool false), (56, .bool false)] (by kernel_rfl) (by kernel_rfl) ?_
        refine WO.call (SQ.E 13 (by kernel_rfl)) 60 (by kernel_rfl) ((fun w_ => alike_f x y w_ hx hy) _) ?_
        rintro _ w115 ⟨rfl, F116⟩
        refine ⟨_, rfl, trivial, ?_⟩
        have HA := Fr.step0 HA F116
        refine WO.top (v' := .bool false) (congrArg Value.bool (by exact h5)) ?_
        refine WO.run 12 14 [(6, .bool false), (71, .bool false), (70, undef), (69, undef), (68, undef), (67, undef), (66, undef), (65, undef), (64, undef), (63, .bool false), (62, .bool false), (61, .bool false)] (by kernel_rfl) (by kernel_rfl) ?_
        refine WO.done (by kernel_rfl) ?_
        refine WQ.keep [0, 1, 2, 6, 7, 46] (e' := [(0, .float .f64 x), (1, .float .f64 y), (2, .float .f64 z), (6, .bool false), (7, .bool true), (46, .bool false)]) (by kernel_rfl) ?_
        refine WQ.thenN ?_
        refine WE.ret ?_
        refine WQ.ret (v := .bool false) (by kernel_rfl) ?_
        exfalso
        simp only [lessB, alikeB, decide_eq_true_eq, decide_eq_false_iff_not] at h5 h71 h107
        omega
end Go.Proofs.Ytjnjkgoofkgiiaa.Edge
