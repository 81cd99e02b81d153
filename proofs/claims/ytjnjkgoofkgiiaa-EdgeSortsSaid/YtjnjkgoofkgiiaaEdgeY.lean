/- Layer 2's walks: the stable sort's parts. -/
import Derived.Test.YtjnjkgoofkgiiaaEdgeSym
set_option linter.unusedVariables false
set_option linter.unusedSimpArgs false
namespace Go.Proofs.Ytjnjkgoofkgiiaa.Edge
open Go Go.RowKit Go.Proofs.Ytjnjkgoofkgiiaa Go.Proofs.Ytjnjkgoofkgiiaa.Eng Go.Proofs.YtjnjkgoofkgiiaaW.PrintWords
theorem sw_zero (f : Nat → Nat) (x y i : Nat) : swF f x y 0 i = f i := by
  unfold swF
  rw [if_neg (by omega), if_neg (by omega)]
theorem sw_step {q p : List Nat} {x y k j : Nat} (hxy : x + k ≤ y) (hf : ∀ i, g0 p i = swF (g0 q) x y j i) (hj : j < k) (h1 : x + j < p.length) (h2 : y + j < p.length) :
    ∀ i, g0 ((p.set (x + j) (g0 p (y + j))).set (y + j) (g0 p (x + j))) i = swF (g0 q) x y (j + 1) i := by
  intro i
  rw [g0_set _ _ _ _ (by simp; omega), g0_set _ _ _ _ h1]
  simp only [hf]
  unfold swF
  by_cases e1 : i = y + j
  · subst e1
    rw [if_pos rfl, if_neg (by omega), if_neg (by omega), if_neg (by omega), if_pos (by omega)]
    congr 1; omega
  · rw [if_neg e1]
    by_cases e2 : i = x + j
    · subst e2
      rw [if_pos rfl, if_neg (by omega), if_neg (by omega), if_pos (by omega)]
      congr 1; omega
    · rw [if_neg e2]
      by_cases e3 : x ≤ i ∧ i < x + j
      · rw [if_pos e3, if_pos (by omega)]
      · rw [if_neg e3]
        by_cases e4 : y ≤ i ∧ i < y + j
        · rw [if_pos e4, if_neg (by omega), if_pos (by omega)]
        · rw [if_neg e4, if_neg (by omega), if_neg (by omega)]
set_option maxRecDepth 100000 in
set_option maxHeartbeats 1000000 in
theorem swap_f (b n cap x y k : Nat) (q : List Nat) (w : World) (HR : RowB w b 53 1 cap (q.map cF)) (hn : q.length = n) (hm : n ≤ 1000000) (hxy : x + k ≤ y) (hy : y + k ≤ n) :
    Calls Try.prog 68 #[.slice (some ⟨b, 0, none⟩) n cap, .int .i64 (x : Int), .int .i64 (y : Int), .int .i64 (k : Int), .func (.func 50) #[] #[]] w fun e w' => ∃ p, e = .returned (.tuple #[]) ∧ p.length = n ∧ (∀ i, g0 p i = swF (g0 q) x y k i) ∧ p.Perm q ∧ RowB w' b 53 1 cap (p.map cF) ∧ Fr [b] w w' := by
  have HA := Fr.refl [b] w
  refine enter (N := 38) Try.func68 (c := _) rfl (by kernel_rfl) (by kernel_rfl) (e := [(0, .slice (some ⟨b, 0, none⟩) n cap), (1, .int .i64 (x : Int)), (2, .int .i64 (y : Int)), (3, .int .i64 (k : Int)), (4, .func (.func 50) #[] #[])]) (by kernel_rfl) ?_
  refine WE.seq ?_
  -- R0 zsortanyfunc.go:330
  refine WE.region ?_
  refine WO.run 1 0 [(10, .int .i64 0)] (by kernel_rfl) (by kernel_rfl) ?_
  refine WO.done (by kernel_rfl) ?_
  refine WQ.keep [0, 1, 2, 3, 10] (e' := [(0, .slice (some ⟨b, 0, none⟩) n cap), (1, .int .i64 (x : Int)), (2, .int .i64 (y : Int)), (3, .int .i64 (k : Int)), (10, .int .i64 0)]) (by kernel_rfl) ?_
  refine WQ.thenN ?_
  refine WE.block ?_
  refine WE.loop (α := Nat × List Nat) (E := fun z => [(0, .slice (some ⟨b, 0, none⟩) n cap), (1, .int .i64 (x : Int)), (2, .int .i64 (y : Int)), (3, .int .i64 (k : Int)), (10, .int .i64 (z.1 : Int))]) (I := fun z wr => z.1 ≤ k ∧ z.2.length = n ∧ (∀ i, g0 z.2 i = swF (g0 q) x y z.1 i) ∧ z.2.Perm q ∧ RowB wr b 53 1 cap (z.2.map cF) ∧ Fr [b] w wr) (m := fun z => k - z.1) (0, q) [0, 1, 2, 3, 10] (by kernel_rfl) ?_ ?_
  · exact ⟨Nat.zero_le _, hn, fun i => (sw_zero _ _ _ _).symm, .refl _, HR, HA⟩
  rintro ⟨j, p⟩ wr ⟨hj, hn, hf, hp, HR, HA⟩
  dsimp only at hj hn hf hp HR
  refine WE.seq ?_
  refine WE.seq ?_
  -- R1 zsortanyfunc.go:330
  refine WE.region ?_
  refine WO.run 2 0 [(12, .int .i64 (k : Int)), (11, .int .i64 (j : Int))] (by kernel_rfl) (by kernel_rfl) ?_
  refine WO.one (SQ.F 2 (by kernel_rfl)) 13 (.bool (decide (((j : Int) : Int) < (k : Int)))) (by kernel_rfl) ?_
  refine WO.topP (((j : Int) : Int) < (k : Int)) ?_ ?_
  · intro h1
    refine WO.done (by kernel_rfl) ?_
    refine WQ.keep [0, 1, 2, 3, 10, 13] (e' := [(0, .slice (some ⟨b, 0, none⟩) n cap), (1, .int .i64 (x : Int)), (2, .int .i64 (y : Int)), (3, .int .i64 (k : Int)), (10, .int .i64 (j : Int)), (13, .bool true)]) (by kernel_rfl) ?_
    refine WQ.thenN ?_
    refine WE.condT (by kernel_rfl) ?_
    refine WE.skip ?_
    refine WQ.thenN ?_
    refine WE.seq ?_
    refine WE.block ?_
    -- R3* zsortanyfunc.go:331
    refine WE.draw [.free, .free, .free, .free, .free, .free, .free, .free, .free, .free, .free, .free, .free, .still, .free, .free, .free, .free, .free, .still, .free, .eff, .free, .eff] Same sameR (by kernel_rfl) 24 (Array.replicate 24 false) (by kernel_rfl) rfl ?_
    intro w2 F3 _
    have HR := RowB.keep HR F3 (nin0 _)
    have HA := Fr.step0 HA F3
    refine WO.one (SA.F sameR sameT _ 0 _ (by kernel_rfl)) 16 (.slice (some ⟨b, 0, none⟩) n cap) (by kernel_rfl) ?_
    refine WO.one (SA.F sameR sameT _ 1 _ (by kernel_rfl)) 17 (.int .i64 (x : Int)) (by kernel_rfl) ?_
    refine WO.one (SA.F sameR sameT _ 2 _ (by kernel_rfl)) 18 (.int .i64 (j : Int)) (by kernel_rfl) ?_
    refine WO.one (SA.F sameR sameT _ 3 _ (by kernel_rfl)) 19 (.int .i64 (IntKind.i64.wrap ((x : Int) + (j : Int)))) (by kernel_rfl) ?_
    refine WO.top (v' := .int .i64 ((x + j : Nat) : Int)) (wrap_i64 (by omega) (by omega)) ?_
    refine WO.one (SA.F sameR sameT _ 4 _ (by kernel_rfl)) 20 (.slice (some ⟨b, 0, none⟩) n cap) (by kernel_rfl) ?_
    refine WO.one (SA.F sameR sameT _ 5 _ (by kernel_rfl)) 21 (.int .i64 (y : Int)) (by kernel_rfl) ?_
    refine WO.one (SA.F sameR sameT _ 6 _ (by kernel_rfl)) 22 (.int .i64 (j : Int)) (by kernel_rfl) ?_
    refine WO.one (SA.F sameR sameT _ 7 _ (by kernel_rfl)) 23 (.int .i64 (IntKind.i64.wrap ((y : Int) + (j : Int)))) (by kernel_rfl) ?_
    refine WO.top (v' := .int .i64 ((y + j : Nat) : Int)) (wrap_i64 (by omega) (by omega)) ?_
    refine WO.one (SA.F sameR sameT _ 8 _ (by kernel_rfl)) 24 (.slice (some ⟨b, 0, none⟩) n cap) (by kernel_rfl) ?_
    refine WO.one (SA.F sameR sameT _ 9 _ (by kernel_rfl)) 25 (.int .i64 (y : Int)) (by kernel_rfl) ?_
    refine WO.one (SA.F sameR sameT _ 10 _ (by kernel_rfl)) 26 (.int .i64 (j : Int)) (by kernel_rfl) ?_
    refine WO.one (SA.F sameR sameT _ 11 _ (by kernel_rfl)) 27 (.int .i64 (IntKind.i64.wrap ((y : Int) + (j : Int)))) (by kernel_rfl) ?_
    refine WO.top (v' := .int .i64 ((y + j : Nat) : Int)) (wrap_i64 (by omega) (by omega)) ?_
    refine WO.ixB (SA.F sameR sameT _ 12 _ (by kernel_rfl)) 28 (y + j) b 0 n 1 ((y + j : Nat) : Int) (by kernel_rfl) (by omega) (by omega) (by omega) ?_
    refine WO.ld (SA.S sameR sameT _ 13 _ (by kernel_rfl)) 29 (.float .f64 (g0 p (y + j))) (by kernel_rfl) (same (HR.at (y + j) 0 (y + j) _ (by rw [List.length_map]; have := hn; omega) (by omega) (by rw [(map_atF p (y + j) (by have := hn; omega))]; rfl) (by omega))) ?_
    refine WO.one (SA.F sameR sameT _ 14 _ (by kernel_rfl)) 30 (.slice (some ⟨b, 0, none⟩) n cap) (by kernel_rfl) ?_
    refine WO.one (SA.F sameR sameT _ 15 _ (by kernel_rfl)) 31 (.int .i64 (x : Int)) (by kernel_rfl) ?_
    refine WO.one (SA.F sameR sameT _ 16 _ (by kernel_rfl)) 32 (.int .i64 (j : Int)) (by kernel_rfl) ?_
    refine WO.one (SA.F sameR sameT _ 17 _ (by kernel_rfl)) 33 (.int .i64 (IntKind.i64.wrap ((x : Int) + (j : Int)))) (by kernel_rfl) ?_
    refine WO.top (v' := .int .i64 ((x + j : Nat) : Int)) (wrap_i64 (by omega) (by omega)) ?_
    refine WO.ixB (SA.F sameR sameT _ 18 _ (by kernel_rfl)) 34 (x + j) b 0 n 1 ((x + j : Nat) : Int) (by kernel_rfl) (by omega) (by omega) (by omega) ?_
    refine WO.ld (SA.S sameR sameT _ 19 _ (by kernel_rfl)) 35 (.float .f64 (g0 p (x + j))) (by kernel_rfl) (same (HR.at (x + j) 0 (x + j) _ (by rw [List.length_map]; have := hn; omega) (by omega) (by rw [(map_atF p (x + j) (by have := hn; omega))]; rfl) (by omega))) ?_
    refine WO.ixB (SA.F sameR sameT _ 20 _ (by kernel_rfl)) 36 (x + j) b 0 n 1 ((x + j : Nat) : Int) (by kernel_rfl) (by omega) (by omega) (by omega) ?_
    refine WO.stR (SA.E _ 21 _ (by kernel_rfl) rfl) b (x + j) (x + j) [.float .f64 (g0 p (y + j))] HR (by rw [List.length_map]; have := hn; omega) rfl (by omega) rfl (by kernel_rfl) (fun _ _ => trivial) ?_
    intro w4 HR6 F5 _
    have HA := Fr.step HA F5 (inSL (by simp) inS0)
    have HR6 : RowB w4 b 53 1 cap ((p.set (x + j) (g0 p (y + j))).map cF) := by rw [List.map_set]; exact HR6
    refine WO.ixB (SA.F sameR sameT _ 22 _ (by kernel_rfl)) 37 (y + j) b 0 n 1 ((y + j : Nat) : Int) (by kernel_rfl) (by omega) (by omega) (by omega) ?_
    refine WO.stR (SA.E _ 23 _ (by kernel_rfl) rfl) b (y + j) (y + j) [.float .f64 (g0 p (x + j))] HR6 (by rw [List.length_map]; have := (show (p.set (x + j) (g0 p (y + j))).length = p.length from List.length_set).trans (hn); omega) rfl (by omega) rfl (by kernel_rfl) (fun _ _ => trivial) ?_
    intro w7 HR9 F8 _
    have HA := Fr.step HA F8 (inSL (by simp) inS0)
    have HR9 : RowB w7 b 53 1 cap (((p.set (x + j) (g0 p (y + j))).set (y + j) (g0 p (x + j))).map cF) := by rw [List.map_set]; exact HR9
    refine WO.doneA (by kernel_rfl) ?_
    refine WQ.keep [0, 1, 2, 3, 10, 13] (e' := [(0, .slice (some ⟨b, 0, none⟩) n cap), (1, .int .i64 (x : Int)), (2, .int .i64 (y : Int)), (3, .int .i64 (k : Int)), (10, .int .i64 (j : Int)), (13, .bool true)]) (by kernel_rfl) ?_
    refine WQ.blkN ?_
    refine WQ.thenN ?_
    -- R2 zsortanyfunc.go:330
    refine WE.region ?_
    refine WO.run 1 0 [(14, .int .i64 (j : Int))] (by kernel_rfl) (by kernel_rfl) ?_
    refine WO.one (SQ.F 1 (by kernel_rfl)) 15 (.int .i64 (IntKind.i64.wrap ((j : Int) + 1))) (by kernel_rfl) ?_
    refine WO.top (v' := .int .i64 ((j + 1 : Nat) : Int)) (wrap_i64 (by omega) (by omega)) ?_
    refine WO.run 1 2 [(10, .int .i64 ((j + 1 : Nat) : Int))] (by kernel_rfl) (by kernel_rfl) ?_
    refine WO.done (by kernel_rfl) ?_
    refine WQ.keep [0, 1, 2, 3, 10, 13] (e' := [(0, .slice (some ⟨b, 0, none⟩) n cap), (1, .int .i64 (x : Int)), (2, .int .i64 (y : Int)), (3, .int .i64 (k : Int)), (10, .int .i64 ((j + 1 : Nat) : Int)), (13, .bool true)]) (by kernel_rfl) ?_
    refine WQ.round ?_
    intro a_ ha_
    refine ⟨(j + 1, (p.set (x + j) (g0 p (y + j))).set (y + j) (g0 p (x + j))), ?_, ha_.keep [0, 1, 2, 3, 10] (by kernel_rfl), ?_⟩
    · show k - (j + 1) < k - j; omega
    · exact ⟨by show j + 1 ≤ k; omega, by simp [hn], sw_step hxy hf (by omega) (by omega) (by omega), (PIn.swap (a := 0) (b := n) p (i := x + j) (j := y + j) (Nat.zero_le _) (by omega) (Nat.zero_le _) (by omega) (by omega)).perm.trans hp, HR9, HA⟩
  · intro h1
    refine WO.done (by kernel_rfl) ?_
    refine WQ.keep [0, 1, 2, 3, 10, 13] (e' := [(0, .slice (some ⟨b, 0, none⟩) n cap), (1, .int .i64 (x : Int)), (2, .int .i64 (y : Int)), (3, .int .i64 (k : Int)), (10, .int .i64 (j : Int)), (13, .bool false)]) (by kernel_rfl) ?_
    refine WQ.thenN ?_
    refine WE.condF (by kernel_rfl) ?_
    refine WE.exit ?_
    refine WQ.thenE ?_
    refine WQ.thenE ?_
    refine WQ.blkE ?_
    refine WQ.fall (v := .tuple #[]) (by kernel_rfl) ?_
    obtain rfl : j = k := by omega
    exact ⟨p, rfl, hn, hf, hp, HR, HA⟩

set_option maxRecDepth 100000 in
set_option maxHeartbeats 1000000 in
theorem rotate_f (b n cap a m bb : Nat) (q : List Nat) (w : World) (HR : RowB w b 53 1 cap (q.map cF)) (hn : q.length = n) (hm : n ≤ 1000000) (ha : a < m) (hb : m < bb) (hbn : bb ≤ n) :
    Calls Try.prog 67 #[.slice (some ⟨b, 0, none⟩) n cap, .int .i64 (a : Int), .int .i64 (m : Int), .int .i64 (bb : Int), .func (.func 50) #[] #[]] w fun e w' => ∃ p, e = .returned (.tuple #[]) ∧ p.length = n ∧ (∀ i, g0 p i = rotF (g0 q) a m bb i) ∧ p.Perm q ∧ RowB w' b 53 1 cap (p.map cF) ∧ Fr [b] w w' := by
  have HA := Fr.refl [b] w
  refine enter (N := 58) Try.func67 (c := _) rfl (by kernel_rfl) (by kernel_rfl) (e := [(0, .slice (some ⟨b, 0, none⟩) n cap), (1, .int .i64 (a : Int)), (2, .int .i64 (m : Int)), (3, .int .i64 (bb : Int)), (4, .func (.func 50) #[] #[])]) (by kernel_rfl) ?_
  refine WE.seq ?_
  -- R0 zsortanyfunc.go:465
  refine WE.region ?_
  refine WO.run 2 0 [(13, .int .i64 (a : Int)), (12, .int .i64 (m : Int))] (by kernel_rfl) (by kernel_rfl) ?_
  refine WO.one (SQ.F 2 (by kernel_rfl)) 14 (.int .i64 (IntKind.i64.wrap ((m : Int) - (a : Int)))) (by kernel_rfl) ?_
  refine WO.top (v' := .int .i64 ((m - a : Nat) : Int)) (wrap_i64 (by omega) (by omega)) ?_
  refine WO.run 1 3 [(10, .int .i64 ((m - a : Nat) : Int))] (by kernel_rfl) (by kernel_rfl) ?_
  refine WO.done (by kernel_rfl) ?_
  refine WQ.keep [0, 1, 2, 3, 4, 10] (e' := [(0, .slice (some ⟨b, 0, none⟩) n cap), (1, .int .i64 (a : Int)), (2, .int .i64 (m : Int)), (3, .int .i64 (bb : Int)), (4, .func (.func 50) #[] #[]), (10, .int .i64 ((m - a : Nat) : Int))]) (by kernel_rfl) ?_
  refine WQ.thenN ?_
  refine WE.seq ?_
  -- R1 zsortanyfunc.go:466
  refine WE.region ?_
  refine WO.run 2 0 [(16, .int .i64 (m : Int)), (15, .int .i64 (bb : Int))] (by kernel_rfl) (by kernel_rfl) ?_
  refine WO.one (SQ.F 2 (by kernel_rfl)) 17 (.int .i64 (IntKind.i64.wrap ((bb : Int) - (m : Int)))) (by kernel_rfl) ?_
  refine WO.top (v' := .int .i64 ((bb - m : Nat) : Int)) (wrap_i64 (by omega) (by omega)) ?_
  refine WO.run 1 3 [(11, .int .i64 ((bb - m : Nat) : Int))] (by kernel_rfl) (by kernel_rfl) ?_
  refine WO.done (by kernel_rfl) ?_
  refine WQ.keep [0, 1, 2, 3, 4, 10, 11] (e' := [(0, .slice (some ⟨b, 0, none⟩) n cap), (1, .int .i64 (a : Int)), (2, .int .i64 (m : Int)), (3, .int .i64 (bb : Int)), (4, .func (.func 50) #[] #[]), (10, .int .i64 ((m - a : Nat) : Int)), (11, .int .i64 ((bb - m : Nat) : Int))]) (by kernel_rfl) ?_
  refine WQ.thenN ?_
  refine WE.seq ?_
  refine WE.block ?_
  refine WE.loop (α := Nat × Nat × List Nat) (E := fun z => [(0, .slice (some ⟨b, 0, none⟩) n cap), (1, .int .i64 (a : Int)), (2, .int .i64 (m : Int)), (3, .int .i64 (bb : Int)), (4, .func (.func 50) #[] #[]), (10, .int .i64 (z.1 : Int)), (11, .int .i64 (z.2.1 : Int))]) (I := fun z wr => 0 < z.1 ∧ 0 < z.2.1 ∧ z.1 ≤ m - a ∧ z.2.1 ≤ bb - m ∧ z.2.2.length = n ∧ rotF (g0 z.2.2) (m - z.1) m (m + z.2.1) = rotF (g0 q) a m bb ∧ z.2.2.Perm q ∧ RowB wr b 53 1 cap (z.2.2.map cF) ∧ Fr [b] w wr) (m := fun z => z.1 + z.2.1) (m - a, bb - m, q) [0, 1, 2, 3, 4, 10, 11] (by kernel_rfl) ?_ ?_
  · exact ⟨by show 0 < m - a; omega, by show 0 < bb - m; omega, Nat.le_refl _, Nat.le_refl _, hn, by rw [show m - (m - a) = a by omega, show m + (bb - m) = bb by omega], .refl _, HR, HA⟩
  rintro ⟨i, j, p⟩ wr ⟨hi, hj, hi2, hj2, hn, hf, hp, HR, HA⟩
  dsimp only at hi hj hi2 hj2 hn hf hp HR
  refine WE.seq ?_
  refine WE.seq ?_
  -- R2 zsortanyfunc.go:468
  refine WE.region ?_
  refine WO.run 2 0 [(19, .int .i64 (j : Int)), (18, .int .i64 (i : Int))] (by kernel_rfl) (by kernel_rfl) ?_
  refine WO.one (SQ.F 2 (by kernel_rfl)) 20 (.bool (!decide (((i : Int) : Int) = (j : Int)))) (by kernel_rfl) ?_
  refine WO.topN (((i : Int) : Int) = (j : Int)) ?_ ?_
  · intro h1
    refine WO.done (by kernel_rfl) ?_
    refine WQ.keep [0, 1, 2, 3, 4, 10, 11, 20] (e' := [(0, .slice (some ⟨b, 0, none⟩) n cap), (1, .int .i64 (a : Int)), (2, .int .i64 (m : Int)), (3, .int .i64 (bb : Int)), (4, .func (.func 50) #[] #[]), (10, .int .i64 (i : Int)), (11, .int .i64 (j : Int)), (20, .bool false)]) (by kernel_rfl) ?_
    refine WQ.thenN ?_
    refine WE.condF (by kernel_rfl) ?_
    refine WE.exit ?_
    refine WQ.thenE ?_
    refine WQ.thenE ?_
    refine WQ.blkE ?_
    refine WQ.thenN ?_
    -- R8 zsortanyfunc.go:478
    refine WE.region ?_
    refine WO.run 3 0 [(52, .int .i64 (i : Int)), (51, .int .i64 (m : Int)), (50, .slice (some ⟨b, 0, none⟩) n cap)] (by kernel_rfl) (by kernel_rfl) ?_
    refine WO.one (SQ.F 3 (by kernel_rfl)) 53 (.int .i64 (IntKind.i64.wrap ((m : Int) - (i : Int)))) (by kernel_rfl) ?_
    refine WO.top (v' := .int .i64 ((m - i : Nat) : Int)) (wrap_i64 (by omega) (by omega)) ?_
    refine WO.run 3 4 [(56, .func (.func 50) #[] #[]), (55, .int .i64 (i : Int)), (54, .int .i64 (m : Int))] (by kernel_rfl) (by kernel_rfl) ?_
    refine WO.call (SQ.E 7 (by kernel_rfl)) 57 (by kernel_rfl) (swap_f b n cap (m - i) m i p _ HR hn hm (by omega) (by omega)) ?_
    rintro _ w2 ⟨p4, rfl, hl5, hf6, hp7, HR8, F3⟩
    refine ⟨_, rfl, trivial, ?_⟩
    have HA := Fr.step HA F3 (inSL (by simp) inS0)
    refine WO.done (by kernel_rfl) ?_
    refine WQ.keep [0, 1, 2, 3, 4, 10, 11, 20] (e' := [(0, .slice (some ⟨b, 0, none⟩) n cap), (1, .int .i64 (a : Int)), (2, .int .i64 (m : Int)), (3, .int .i64 (bb : Int)), (4, .func (.func 50) #[] #[]), (10, .int .i64 (i : Int)), (11, .int .i64 (j : Int)), (20, .bool false)]) (by kernel_rfl) ?_
    refine WQ.fall (v := .tuple #[]) (by kernel_rfl) ?_
    obtain rfl : i = j := by omega
    exact ⟨p4, rfl, hl5, fun k => by rw [hf6, ← hf, rot_eq _ (by omega)], hp7.trans hp, HR8, HA⟩
  · intro h1
    refine WO.done (by kernel_rfl) ?_
    refine WQ.keep [0, 1, 2, 3, 4, 10, 11, 20] (e' := [(0, .slice (some ⟨b, 0, none⟩) n cap), (1, .int .i64 (a : Int)), (2, .int .i64 (m : Int)), (3, .int .i64 (bb : Int)), (4, .func (.func 50) #[] #[]), (10, .int .i64 (i : Int)), (11, .int .i64 (j : Int)), (20, .bool true)]) (by kernel_rfl) ?_
    refine WQ.thenN ?_
    refine WE.condT (by kernel_rfl) ?_
    refine WE.skip ?_
    refine WQ.thenN ?_
    refine WE.block ?_
    refine WE.seq ?_
    -- R3 zsortanyfunc.go:469
    refine WE.region ?_
    refine WO.run 2 0 [(22, .int .i64 (j : Int)), (21, .int .i64 (i : Int))] (by kernel_rfl) (by kernel_rfl) ?_
    refine WO.one (SQ.F 2 (by kernel_rfl)) 23 (.bool (decide (((i : Int) : Int) > (j : Int)))) (by kernel_rfl) ?_
    refine WO.topP (((i : Int) : Int) > (j : Int)) ?_ ?_
    · intro h9
      refine WO.done (by kernel_rfl) ?_
      refine WQ.keep [0, 1, 2, 3, 4, 10, 11, 20, 23] (e' := [(0, .slice (some ⟨b, 0, none⟩) n cap), (1, .int .i64 (a : Int)), (2, .int .i64 (m : Int)), (3, .int .i64 (bb : Int)), (4, .func (.func 50) #[] #[]), (10, .int .i64 (i : Int)), (11, .int .i64 (j : Int)), (20, .bool true), (23, .bool true)]) (by kernel_rfl) ?_
      refine WQ.thenN ?_
      refine WE.condT (by kernel_rfl) ?_
      refine WE.seq ?_
      -- R4 zsortanyfunc.go:470
      refine WE.region ?_
      refine WO.run 3 0 [(26, .int .i64 (i : Int)), (25, .int .i64 (m : Int)), (24, .slice (some ⟨b, 0, none⟩) n cap)] (by kernel_rfl) (by kernel_rfl) ?_
      refine WO.one (SQ.F 3 (by kernel_rfl)) 27 (.int .i64 (IntKind.i64.wrap ((m : Int) - (i : Int)))) (by kernel_rfl) ?_
      refine WO.top (v' := .int .i64 ((m - i : Nat) : Int)) (wrap_i64 (by omega) (by omega)) ?_
      refine WO.run 3 4 [(30, .func (.func 50) #[] #[]), (29, .int .i64 (j : Int)), (28, .int .i64 (m : Int))] (by kernel_rfl) (by kernel_rfl) ?_
      refine WO.call (SQ.E 7 (by kernel_rfl)) 31 (by kernel_rfl) (swap_f b n cap (m - i) m j p _ HR hn hm (by omega) (by omega)) ?_
      rintro _ w10 ⟨p12, rfl, hl13, hf14, hp15, HR16, F11⟩
      refine ⟨_, rfl, trivial, ?_⟩
      have HA := Fr.step HA F11 (inSL (by simp) inS0)
      refine WO.done (by kernel_rfl) ?_
      refine WQ.keep [0, 1, 2, 3, 4, 10, 11, 20, 23] (e' := [(0, .slice (some ⟨b, 0, none⟩) n cap), (1, .int .i64 (a : Int)), (2, .int .i64 (m : Int)), (3, .int .i64 (bb : Int)), (4, .func (.func 50) #[] #[]), (10, .int .i64 (i : Int)), (11, .int .i64 (j : Int)), (20, .bool true), (23, .bool true)]) (by kernel_rfl) ?_
      refine WQ.thenN ?_
      -- R5 zsortanyfunc.go:471
      refine WE.region ?_
      refine WO.run 2 0 [(33, .int .i64 (j : Int)), (32, .int .i64 (i : Int))] (by kernel_rfl) (by kernel_rfl) ?_
      refine WO.one (SQ.F 2 (by kernel_rfl)) 34 (.int .i64 (IntKind.i64.wrap ((i : Int) - (j : Int)))) (by kernel_rfl) ?_
      refine WO.top (v' := .int .i64 ((i - j : Nat) : Int)) (wrap_i64 (by omega) (by omega)) ?_
      refine WO.run 1 3 [(10, .int .i64 ((i - j : Nat) : Int))] (by kernel_rfl) (by kernel_rfl) ?_
      refine WO.done (by kernel_rfl) ?_
      refine WQ.keep [0, 1, 2, 3, 4, 10, 11, 20, 23] (e' := [(0, .slice (some ⟨b, 0, none⟩) n cap), (1, .int .i64 (a : Int)), (2, .int .i64 (m : Int)), (3, .int .i64 (bb : Int)), (4, .func (.func 50) #[] #[]), (10, .int .i64 ((i - j : Nat) : Int)), (11, .int .i64 (j : Int)), (20, .bool true), (23, .bool true)]) (by kernel_rfl) ?_
      refine WQ.blkN ?_
      refine WQ.round ?_
      intro a_ ha_
      refine ⟨(i - j, j, p12), ?_, ha_.keep [0, 1, 2, 3, 4, 10, 11] (by kernel_rfl), ?_⟩
      · show i - j + j < i + j; omega
      · exact ⟨by show 0 < i - j; omega, hj, by show i - j ≤ m - a; omega, hj2, hl13, by show rotF (g0 p12) (m - (i - j)) m (m + j) = _; rw [show m - (i - j) = m - i + j by omega, funext hf14, ← rot_gt (g0 p) (by omega) (by omega)]; exact hf, hp15.trans hp, HR16, HA⟩
    · intro h9
      refine WO.done (by kernel_rfl) ?_
      refine WQ.keep [0, 1, 2, 3, 4, 10, 11, 20, 23] (e' := [(0, .slice (some ⟨b, 0, none⟩) n cap), (1, .int .i64 (a : Int)), (2, .int .i64 (m : Int)), (3, .int .i64 (bb : Int)), (4, .func (.func 50) #[] #[]), (10, .int .i64 (i : Int)), (11, .int .i64 (j : Int)), (20, .bool true), (23, .bool false)]) (by kernel_rfl) ?_
      refine WQ.thenN ?_
      refine WE.condF (by kernel_rfl) ?_
      refine WE.seq ?_
      -- R6 zsortanyfunc.go:473
      refine WE.region ?_
      refine WO.run 3 0 [(37, .int .i64 (i : Int)), (36, .int .i64 (m : Int)), (35, .slice (some ⟨b, 0, none⟩) n cap)] (by kernel_rfl) (by kernel_rfl) ?_
      refine WO.one (SQ.F 3 (by kernel_rfl)) 38 (.int .i64 (IntKind.i64.wrap ((m : Int) - (i : Int)))) (by kernel_rfl) ?_
      refine WO.top (v' := .int .i64 ((m - i : Nat) : Int)) (wrap_i64 (by omega) (by omega)) ?_
      refine WO.run 2 4 [(40, .int .i64 (j : Int)), (39, .int .i64 (m : Int))] (by kernel_rfl) (by kernel_rfl) ?_
      refine WO.one (SQ.F 6 (by kernel_rfl)) 41 (.int .i64 (IntKind.i64.wrap ((m : Int) + (j : Int)))) (by kernel_rfl) ?_
      refine WO.top (v' := .int .i64 ((m + j : Nat) : Int)) (wrap_i64 (by omega) (by omega)) ?_
      refine WO.run 1 7 [(42, .int .i64 (i : Int))] (by kernel_rfl) (by kernel_rfl) ?_
      refine WO.one (SQ.F 8 (by kernel_rfl)) 43 (.int .i64 (IntKind.i64.wrap (((m + j : Nat) : Int) - (i : Int)))) (by kernel_rfl) ?_
      refine WO.top (v' := .int .i64 (((m + j) - i : Nat) : Int)) (wrap_i64 (by omega) (by omega)) ?_
      refine WO.run 2 9 [(45, .func (.func 50) #[] #[]), (44, .int .i64 (i : Int))] (by kernel_rfl) (by kernel_rfl) ?_
      refine WO.call (SQ.E 11 (by kernel_rfl)) 46 (by kernel_rfl) (swap_f b n cap (m - i) ((m + j) - i) i p _ HR hn hm (by omega) (by omega)) ?_
      rintro _ w17 ⟨p19, rfl, hl20, hf21, hp22, HR23, F18⟩
      refine ⟨_, rfl, trivial, ?_⟩
      have HA := Fr.step HA F18 (inSL (by simp) inS0)
      refine WO.done (by kernel_rfl) ?_
      refine WQ.keep [0, 1, 2, 3, 4, 10, 11, 20, 23] (e' := [(0, .slice (some ⟨b, 0, none⟩) n cap), (1, .int .i64 (a : Int)), (2, .int .i64 (m : Int)), (3, .int .i64 (bb : Int)), (4, .func (.func 50) #[] #[]), (10, .int .i64 (i : Int)), (11, .int .i64 (j : Int)), (20, .bool true), (23, .bool false)]) (by kernel_rfl) ?_
      refine WQ.thenN ?_
      -- R7 zsortanyfunc.go:474
      refine WE.region ?_
      refine WO.run 2 0 [(48, .int .i64 (i : Int)), (47, .int .i64 (j : Int))] (by kernel_rfl) (by kernel_rfl) ?_
      refine WO.one (SQ.F 2 (by kernel_rfl)) 49 (.int .i64 (IntKind.i64.wrap ((j : Int) - (i : Int)))) (by kernel_rfl) ?_
      refine WO.top (v' := .int .i64 ((j - i : Nat) : Int)) (wrap_i64 (by omega) (by omega)) ?_
      refine WO.run 1 3 [(11, .int .i64 ((j - i : Nat) : Int))] (by kernel_rfl) (by kernel_rfl) ?_
      refine WO.done (by kernel_rfl) ?_
      refine WQ.keep [0, 1, 2, 3, 4, 10, 11, 20, 23] (e' := [(0, .slice (some ⟨b, 0, none⟩) n cap), (1, .int .i64 (a : Int)), (2, .int .i64 (m : Int)), (3, .int .i64 (bb : Int)), (4, .func (.func 50) #[] #[]), (10, .int .i64 (i : Int)), (11, .int .i64 ((j - i : Nat) : Int)), (20, .bool true), (23, .bool false)]) (by kernel_rfl) ?_
      refine WQ.blkN ?_
      refine WQ.round ?_
      intro a_ ha_
      refine ⟨(i, j - i, p19), ?_, ha_.keep [0, 1, 2, 3, 4, 10, 11] (by kernel_rfl), ?_⟩
      · show i + (j - i) < i + j; omega
      · exact ⟨hi, by show 0 < j - i; omega, hi2, by show j - i ≤ bb - m; omega, hl20, by show rotF (g0 p19) (m - i) m (m + (j - i)) = _; rw [show m + (j - i) = m + j - i by omega, funext hf21, ← rot_lt (g0 p) (by omega) (by omega)]; exact hf, hp22.trans hp, HR23, HA⟩
end Go.Proofs.Ytjnjkgoofkgiiaa.Edge
