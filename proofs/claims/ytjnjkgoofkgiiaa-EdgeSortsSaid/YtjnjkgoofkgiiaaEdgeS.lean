/- Layer 2's walks: the sort. -/
import Derived.Test.YtjnjkgoofkgiiaaEdgeW
set_option linter.unusedVariables false
set_option linter.unusedSimpArgs false
namespace Go.Proofs.Ytjnjkgoofkgiiaa.Edge
open Go Go.RowKit Go.Proofs.Ytjnjkgoofkgiiaa Go.Proofs.Ytjnjkgoofkgiiaa.Eng Go.Proofs.YtjnjkgoofkgiiaaW.PrintWords
def g0 (l : List Nat) (i : Nat) : Nat := l.getD i 0
def cF (x : Nat) : List Value := [.float .f64 x]
theorem cF_len (q : List Nat) : ∀ x ∈ q.map cF, x.length = 1 := by
  intro x hx
  obtain ⟨e, _, rfl⟩ := List.mem_map.1 hx
  rfl
theorem cF_one (q : List Nat) : ∀ x ∈ q.map cF, x.all oneB = true := by
  intro x hx
  obtain ⟨e, _, rfl⟩ := List.mem_map.1 hx
  rfl
theorem map_atF (q : List Nat) (k : Nat) (h : k < q.length) : (q.map cF).getD k [] = cF (g0 q k) := by
  simp [g0, h]
theorem et_f : ET Try.prog 55 53 1 8 := by
  obtain ⟨i, h1, h2, h3, h4⟩ := info_parts (P := Try.prog) (e := 53) (z := .float .f64 0) (size := 1) (bytes := 8) (by kernel_rfl)
  exact ⟨by kernel_rfl, ⟨i, _, h1, h2, h3, h4, rfl⟩, by decide⟩
def cmpZ (x y : Nat) : Int := if lessB x y then -1 else if lessB y x then 1 else 0
theorem cmpZ_lt {x y : Nat} : cmpZ x y < 0 ↔ lessB x y = true := by
  unfold cmpZ
  cases lessB x y <;> cases lessB y x <;> simp
/-- all are bits of a float -/
def All (q : List Nat) : Prop := ∀ k, k < q.length → g0 q k < 18446744073709551616
def swp (q : List Nat) (j : Nat) : List Nat := (q.set j (g0 q (j - 1))).set (j - 1) (g0 q j)
def inner (a : Nat) : Nat → List Nat → List Nat
  | 0, q => q
  | j + 1, q => if a < j + 1 ∧ lessB (g0 q (j + 1)) (g0 q j) = true then inner a j (swp q (j + 1)) else q
def outer (a b : Nat) : Nat → Nat → List Nat → List Nat
  | 0, _, q => q
  | f + 1, i, q => outer a b f (i + 1) (inner a i q)
theorem swp_len (q : List Nat) (j : Nat) : (swp q j).length = q.length := by simp [swp]
theorem inner_len (a : Nat) : ∀ (j : Nat) (q : List Nat), (inner a j q).length = q.length
  | 0, q => rfl
  | j + 1, q => by
    rw [inner]
    split
    · rw [inner_len a j, swp_len]
    · rfl
theorem g0_set (l : List Nat) (i j : Nat) (x : Nat) (h : i < l.length) : g0 (l.set i x) j = if j = i then x else g0 l j := by
  unfold g0
  simp only [List.getD_eq_getElem?_getD, List.getElem?_set]
  by_cases h1 : i = j
  · rw [if_pos h1, if_pos (by omega), if_pos h1.symm]; rfl
  · rw [if_neg h1, if_neg (Ne.symm h1)]
theorem all_swp {q : List Nat} {j : Nat} (h : All q) (hj : j < q.length) : All (swp q j) := by
  intro k hk
  rw [swp_len] at hk
  unfold swp
  rw [g0_set _ _ _ _ (by simp; omega), g0_set _ _ _ _ hj]
  split
  · exact h j hj
  · split
    · exact h _ (by omega)
    · exact h k hk
theorem all_inner {a : Nat} : ∀ {j : Nat} {q : List Nat}, All q → j < q.length → All (inner a j q)
  | 0, q, h, _ => h
  | j + 1, q, h, hj => by
    rw [inner]
    split
    · exact all_inner (all_swp h hj) (by rw [swp_len]; omega)
    · exact h
theorem inner_step {a j : Nat} {q : List Nat} (h : a < j) (hl : lessB (g0 q j) (g0 q (j - 1)) = true) : inner a j q = inner a (j - 1) (swp q j) := by
  cases j with
  | zero => omega
  | succ j => rw [inner, if_pos ⟨h, hl⟩]; rfl
theorem inner_stop {a j : Nat} {q : List Nat} (h : ¬ a < j ∨ ¬ lessB (g0 q j) (g0 q (j - 1)) = true) : inner a j q = q := by
  cases j with
  | zero => rfl
  | succ j => rw [inner, if_neg (fun hh => h.elim (fun h => h hh.1) (fun h => h hh.2))]
theorem outer_step {a b i : Nat} {q : List Nat} (h : i < b) : outer a b (b - i) i q = outer a b (b - (i + 1)) (i + 1) (inner a i q) := by
  rw [show b - i = (b - (i + 1)) + 1 by omega, outer]
theorem outer_stop {a b i : Nat} {q : List Nat} (h : ¬ i < b) : outer a b (b - i) i q = q := by
  rw [show b - i = 0 by omega, outer]
set_option maxRecDepth 100000 in
set_option maxHeartbeats 400000 in
theorem cmp_f (x y : Nat) (w : World) (hx : x < 18446744073709551616) (hy : y < 18446744073709551616) :
    Calls Try.prog 50 #[.float .f64 x, .float .f64 y] w fun e w' => e = .returned (.int .i64 (cmpZ x y)) ∧ Fr [] w w' := by
  have HA := Fr.refl [] w
  refine enter (N := 13) Try.func50 (c := _) rfl (by kernel_rfl) (by kernel_rfl) (e := [(0, .float .f64 x), (1, .float .f64 y)]) (by kernel_rfl) ?_
  refine WE.seq ?_
  -- R0 edge.go:50
  refine WE.region ?_
  refine WO.run 1 0 [(4, .int .i64 0)] (by kernel_rfl) (by kernel_rfl) ?_
  refine WO.done (by kernel_rfl) ?_
  refine WQ.keep [0, 1, 4] (e' := [(0, .float .f64 x), (1, .float .f64 y), (4, .int .i64 0)]) (by kernel_rfl) ?_
  refine WQ.thenN ?_
  refine WE.seq ?_
  refine WE.block ?_
  refine WE.seq ?_
  -- R1 edge.go:52
  refine WE.region ?_
  refine WO.run 2 0 [(7, .float .f64 y), (6, .float .f64 x)] (by kernel_rfl) (by kernel_rfl) ?_
  refine WO.call (SQ.E 2 (by kernel_rfl)) 8 (by kernel_rfl) ((fun w_ => less_f x y w_ hx hy) _) ?_
  rintro _ w1 ⟨rfl, F2⟩
  refine ⟨_, rfl, trivial, ?_⟩
  have HA := Fr.step0 HA F2
  refine WO.topB (lessB x y) ?_ ?_
  · intro h3
    refine WO.run 1 3 [(5, .bool true)] (by kernel_rfl) (by kernel_rfl) ?_
    refine WO.done (by kernel_rfl) ?_
    refine WQ.keep [0, 1, 4, 5] (e' := [(0, .float .f64 x), (1, .float .f64 y), (4, .int .i64 0), (5, .bool true)]) (by kernel_rfl) ?_
    refine WQ.thenN ?_
    refine WE.condT (by kernel_rfl) ?_
    refine WE.seq ?_
    -- R2 edge.go:53
    refine WE.region ?_
    refine WO.run 1 0 [(4, .int .i64 (-1))] (by kernel_rfl) (by kernel_rfl) ?_
    refine WO.done (by kernel_rfl) ?_
    refine WQ.keep [0, 1, 4, 5] (e' := [(0, .float .f64 x), (1, .float .f64 y), (4, .int .i64 (-1)), (5, .bool true)]) (by kernel_rfl) ?_
    refine WQ.thenN ?_
    refine WE.ret ?_
    refine WQ.blkR ?_
    refine WQ.thenR ?_
    refine WQ.ret (v := .int .i64 (-1)) (by kernel_rfl) ?_
    exact ⟨congrArg (fun n => Ending.returned (Value.int .i64 n)) (by simp [cmpZ, h3]), HA⟩
  · intro h3
    refine WO.run 1 3 [(5, .bool false)] (by kernel_rfl) (by kernel_rfl) ?_
    refine WO.done (by kernel_rfl) ?_
    refine WQ.keep [0, 1, 4, 5] (e' := [(0, .float .f64 x), (1, .float .f64 y), (4, .int .i64 0), (5, .bool false)]) (by kernel_rfl) ?_
    refine WQ.thenN ?_
    refine WE.condF (by kernel_rfl) ?_
    refine WE.seq ?_
    -- R3 edge.go:54
    refine WE.region ?_
    refine WO.run 2 0 [(11, .float .f64 x), (10, .float .f64 y)] (by kernel_rfl) (by kernel_rfl) ?_
    refine WO.call (SQ.E 2 (by kernel_rfl)) 12 (by kernel_rfl) ((fun w_ => less_f y x w_ hy hx) _) ?_
    rintro _ w4 ⟨rfl, F5⟩
    refine ⟨_, rfl, trivial, ?_⟩
    have HA := Fr.step0 HA F5
    refine WO.topB (lessB y x) ?_ ?_
    · intro h6
      refine WO.run 1 3 [(9, .bool true)] (by kernel_rfl) (by kernel_rfl) ?_
      refine WO.done (by kernel_rfl) ?_
      refine WQ.keep [0, 1, 4, 5, 9] (e' := [(0, .float .f64 x), (1, .float .f64 y), (4, .int .i64 0), (5, .bool false), (9, .bool true)]) (by kernel_rfl) ?_
      refine WQ.thenN ?_
      refine WE.condT (by kernel_rfl) ?_
      refine WE.seq ?_
      -- R4 edge.go:55
      refine WE.region ?_
      refine WO.run 1 0 [(4, .int .i64 1)] (by kernel_rfl) (by kernel_rfl) ?_
      refine WO.done (by kernel_rfl) ?_
      refine WQ.keep [0, 1, 4, 5, 9] (e' := [(0, .float .f64 x), (1, .float .f64 y), (4, .int .i64 1), (5, .bool false), (9, .bool true)]) (by kernel_rfl) ?_
      refine WQ.thenN ?_
      refine WE.ret ?_
      refine WQ.blkR ?_
      refine WQ.thenR ?_
      refine WQ.ret (v := .int .i64 1) (by kernel_rfl) ?_
      exact ⟨congrArg (fun n => Ending.returned (Value.int .i64 n)) (by simp [cmpZ, h3, h6]), HA⟩
    · intro h6
      refine WO.run 1 3 [(9, .bool false)] (by kernel_rfl) (by kernel_rfl) ?_
      refine WO.done (by kernel_rfl) ?_
      refine WQ.keep [0, 1, 4, 5, 9] (e' := [(0, .float .f64 x), (1, .float .f64 y), (4, .int .i64 0), (5, .bool false), (9, .bool false)]) (by kernel_rfl) ?_
      refine WQ.thenN ?_
      refine WE.condF (by kernel_rfl) ?_
      refine WE.skip ?_
      refine WQ.blkN ?_
      refine WQ.thenN ?_
      refine WE.seq ?_
      -- R5 edge.go:57
      refine WE.region ?_
      refine WO.run 1 0 [(4, .int .i64 0)] (by kernel_rfl) (by kernel_rfl) ?_
      refine WO.done (by kernel_rfl) ?_
      refine WQ.keep [0, 1, 4, 5, 9] (e' := [(0, .float .f64 x), (1, .float .f64 y), (4, .int .i64 0), (5, .bool false), (9, .bool false)]) (by kernel_rfl) ?_
      refine WQ.thenN ?_
      refine WE.ret ?_
      refine WQ.ret (v := .int .i64 0) (by kernel_rfl) ?_
      exact ⟨congrArg (fun n => Ending.returned (Value.int .i64 n)) (by simp [cmpZ, h3, h6]), HA⟩

set_option maxRecDepth 100000 in
set_option maxHeartbeats 1000000 in
theorem isort_f (b n cap a bb : Nat) (q : List Nat) (w : World) (HR : RowB w b 53 1 cap (q.map cF)) (hn : q.length = n) (hall : All q) (hb : bb ≤ n) (hm : n ≤ 1000000) (ha : a ≤ n) :
    Calls Try.prog 65 #[.slice (some ⟨b, 0, none⟩) n cap, .int .i64 (a : Int), .int .i64 (bb : Int), .func (.func 50) #[] #[]] w fun e w' => e = .returned (.tuple #[]) ∧ RowB w' b 53 1 cap ((outer a bb (bb - (a + 1)) (a + 1) q).map cF) ∧ Fr [b] w w' := by
  have HA := Fr.refl [b] w
  refine enter (N := 53) Try.func65 (c := _) rfl (by kernel_rfl) (by kernel_rfl) (e := [(0, .slice (some ⟨b, 0, none⟩) n cap), (1, .int .i64 (a : Int)), (2, .int .i64 (bb : Int)), (3, .func (.func 50) #[] #[])]) (by kernel_rfl) ?_
  refine WE.seq ?_
  -- R0 zsortanyfunc.go:11
  refine WE.region ?_
  refine WO.run 1 0 [(10, .int .i64 (a : Int))] (by kernel_rfl) (by kernel_rfl) ?_
  refine WO.one (SQ.F 1 (by kernel_rfl)) 11 (.int .i64 (IntKind.i64.wrap ((a : Int) + 1))) (by kernel_rfl) ?_
  refine WO.top (v' := .int .i64 ((a + 1 : Nat) : Int)) (wrap_i64 (by omega) (by omega)) ?_
  refine WO.run 1 2 [(8, .int .i64 ((a + 1 : Nat) : Int))] (by kernel_rfl) (by kernel_rfl) ?_
  refine WO.done (by kernel_rfl) ?_
  refine WQ.keep [0, 1, 2, 3, 8] (e' := [(0, .slice (some ⟨b, 0, none⟩) n cap), (1, .int .i64 (a : Int)), (2, .int .i64 (bb : Int)), (3, .func (.func 50) #[] #[]), (8, .int .i64 ((a + 1 : Nat) : Int))]) (by kernel_rfl) ?_
  refine WQ.thenN ?_
  refine WE.block ?_
  refine WE.loop (α := Nat × List Nat) (E := fun z => [(0, .slice (some ⟨b, 0, none⟩) n cap), (1, .int .i64 (a : Int)), (2, .int .i64 (bb : Int)), (3, .func (.func 50) #[] #[]), (8, .int .i64 (z.1 : Int))]) (I := fun z wr => outer a bb (bb - z.1) z.1 z.2 = outer a bb (bb - (a + 1)) (a + 1) q ∧ z.2.length = n ∧ All z.2 ∧ a < z.1 ∧ RowB wr b 53 1 cap (z.2.map cF) ∧ Fr [b] w wr) (m := fun z => bb - z.1) (a + 1, q) [0, 1, 2, 3, 8] (by kernel_rfl) ?_ ?_
  · exact ⟨rfl, hn, hall, Nat.lt_succ_self _, HR, HA⟩
  rintro ⟨i, q'⟩ wr ⟨hout, hn, hall, hai, HR, HA⟩
  dsimp only at hout hn hall hai HR
  refine WE.seq ?_
  refine WE.seq ?_
  -- R1 zsortanyfunc.go:11
  refine WE.region ?_
  refine WO.run 2 0 [(13, .int .i64 (bb : Int)), (12, .int .i64 (i : Int))] (by kernel_rfl) (by kernel_rfl) ?_
  refine WO.one (SQ.F 2 (by kernel_rfl)) 14 (.bool (decide (((i : Int) : Int) < (bb : Int)))) (by kernel_rfl) ?_
  refine WO.topP (((i : Int) : Int) < (bb : Int)) ?_ ?_
  · intro h1
    refine WO.done (by kernel_rfl) ?_
    refine WQ.keep [0, 1, 2, 3, 8, 14] (e' := [(0, .slice (some ⟨b, 0, none⟩) n cap), (1, .int .i64 (a : Int)), (2, .int .i64 (bb : Int)), (3, .func (.func 50) #[] #[]), (8, .int .i64 (i : Int)), (14, .bool true)]) (by kernel_rfl) ?_
    refine WQ.thenN ?_
    refine WE.condT (by kernel_rfl) ?_
    refine WE.skip ?_
    refine WQ.thenN ?_
    refine WE.seq ?_
    refine WE.block ?_
    refine WE.seq ?_
    -- R3 zsortanyfunc.go:12
    refine WE.region ?_
    refine WO.run 2 0 [(9, .int .i64 (i : Int)), (17, .int .i64 (i : Int))] (by kernel_rfl) (by kernel_rfl) ?_
    refine WO.done (by kernel_rfl) ?_
    refine WQ.keep [0, 1, 2, 3, 8, 9, 14] (e' := [(0, .slice (some ⟨b, 0, none⟩) n cap), (1, .int .i64 (a : Int)), (2, .int .i64 (bb : Int)), (3, .func (.func 50) #[] #[]), (8, .int .i64 (i : Int)), (9, .int .i64 (i : Int)), (14, .bool true)]) (by kernel_rfl) ?_
    refine WQ.thenN ?_
    refine WE.block ?_
    have hn0 := hn
    have hall0 := hall
    refine WE.loop (α := Nat × List Nat) (E := fun z => [(0, .slice (some ⟨b, 0, none⟩) n cap), (1, .int .i64 (a : Int)), (2, .int .i64 (bb : Int)), (3, .func (.func 50) #[] #[]), (8, .int .i64 (i : Int)), (9, .int .i64 (z.1 : Int))]) (I := fun z wj => inner a z.1 z.2 = inner a i q' ∧ z.2.length = n ∧ All z.2 ∧ z.1 ≤ i ∧ RowB wj b 53 1 cap (z.2.map cF) ∧ Fr [b] w wj) (m := fun z => z.1) (i, q') [0, 1, 2, 3, 8, 9] (by kernel_rfl) ?_ ?_
    · exact ⟨rfl, hn, hall, Nat.le_refl _, HR, HA⟩
    rintro ⟨j, p⟩ wj ⟨hin, hn, hall, hji, HR, HA⟩
    dsimp only at hin hn hall hji HR
    refine WE.seq ?_
    refine WE.seq ?_
    -- R4* zsortanyfunc.go:12
    refine WE.draw [.free, .free, .free, .free, .free, .free, .free, .free, .still, .free, .free, .free, .free, .still, .eff, .free, .free] Same sameR (by kernel_rfl) 17 (Array.replicate 17 false) (by kernel_rfl) rfl ?_
    intro w2 F3 _
    have HR := RowB.keep HR F3 (nin0 _)
    have HA := Fr.step0 HA F3
    refine WO.one (SA.F sameR sameT _ 0 _ (by kernel_rfl)) 18 (.int .i64 (j : Int)) (by kernel_rfl) ?_
    refine WO.one (SA.F sameR sameT _ 1 _ (by kernel_rfl)) 19 (.int .i64 (a : Int)) (by kernel_rfl) ?_
    refine WO.one (SA.F sameR sameT _ 2 _ (by kernel_rfl)) 20 (.bool (decide (((j : Int) : Int) > (a : Int)))) (by kernel_rfl) ?_
    refine WO.topP (((j : Int) : Int) > (a : Int)) ?_ ?_
    · intro h4
      refine WO.one (SA.F sameR sameT _ 3 _ (by kernel_rfl)) 21 (.bool true) (by kernel_rfl) ?_
      refine WO.one (SA.F sameR sameT _ 4 _ (by kernel_rfl)) 22 (.func (.func 50) #[] #[]) (by kernel_rfl) ?_
      refine WO.one (SA.F sameR sameT _ 5 _ (by kernel_rfl)) 23 (.slice (some ⟨b, 0, none⟩) n cap) (by kernel_rfl) ?_
      refine WO.one (SA.F sameR sameT _ 6 _ (by kernel_rfl)) 24 (.int .i64 (j : Int)) (by kernel_rfl) ?_
      refine WO.ixB (SA.F sameR sameT _ 7 _ (by kernel_rfl)) 25 j b 0 n 1 (j : Int) (by kernel_rfl) (by omega) (by omega) (by omega) ?_
      refine WO.ld (SA.S sameR sameT _ 8 _ (by kernel_rfl)) 26 (.float .f64 (g0 p j)) (by kernel_rfl) (same (HR.at j 0 j _ (by rw [List.length_map]; have := hn; omega) (by omega) (by rw [(map_atF p j (by have := hn; omega))]; rfl) (by omega))) ?_
      refine WO.one (SA.F sameR sameT _ 9 _ (by kernel_rfl)) 27 (.slice (some ⟨b, 0, none⟩) n cap) (by kernel_rfl) ?_
      refine WO.one (SA.F sameR sameT _ 10 _ (by kernel_rfl)) 28 (.int .i64 (j : Int)) (by kernel_rfl) ?_
      refine WO.one (SA.F sameR sameT _ 11 _ (by kernel_rfl)) 29 (.int .i64 (IntKind.i64.wrap ((j : Int) - 1))) (by kernel_rfl) ?_
      refine WO.top (v' := .int .i64 ((j - 1 : Nat) : Int)) (wrap_i64 (by omega) (by omega)) ?_
      refine WO.ixB (SA.F sameR sameT _ 12 _ (by kernel_rfl)) 30 (j - 1) b 0 n 1 ((j - 1 : Nat) : Int) (by kernel_rfl) (by omega) (by omega) (by omega) ?_
      refine WO.ld (SA.S sameR sameT _ 13 _ (by kernel_rfl)) 31 (.float .f64 (g0 p (j - 1))) (by kernel_rfl) (same (HR.at (j - 1) 0 (j - 1) _ (by rw [List.length_map]; have := hn; omega) (by omega) (by rw [(map_atF p (j - 1) (by have := hn; omega))]; rfl) (by omega))) ?_
      refine WO.call (SA.E _ 14 _ (by kernel_rfl) rfl) 32 (by kernel_rfl) (cmp_f (g0 p j) (g0 p (j - 1)) _ (hall _ (by omega)) (hall _ (by omega))) ?_
      rintro _ w5 ⟨rfl, F6⟩
      refine ⟨_, rfl, trivial, ?_⟩
      have HR := RowB.keep HR F6 (nin0 _)
      have HA := Fr.step0 HA F6
      refine WO.one (SA.F sameR sameT _ 15 _ (by kernel_rfl)) 33 (.bool (decide ((cmpZ (g0 p j) (g0 p (j - 1)) : Int) < 0))) (by kernel_rfl) ?_
      refine WO.topP ((cmpZ (g0 p j) (g0 p (j - 1)) : Int) < 0) ?_ ?_
      · intro h7
        refine WO.one (SA.F sameR sameT _ 16 _ (by kernel_rfl)) 34 (.bool true) (by kernel_rfl) ?_
        refine WO.doneA (by kernel_rfl) ?_
        refine WQ.keep [0, 1, 2, 3, 8, 9, 34] (e' := [(0, .slice (some ⟨b, 0, none⟩) n cap), (1, .int .i64 (a : Int)), (2, .int .i64 (bb : Int)), (3, .func (.func 50) #[] #[]), (8, .int .i64 (i : Int)), (9, .int .i64 (j : Int)), (34, .bool true)]) (by kernel_rfl) ?_
        refine WQ.thenN ?_
        refine WE.condT (by kernel_rfl) ?_
        refine WE.skip ?_
        refine WQ.thenN ?_
        refine WE.seq ?_
        refine WE.block ?_
        -- R6* zsortanyfunc.go:13
        refine WE.draw [.free, .free, .free, .free, .free, .free, .free, .free, .free, .still, .free, .free, .free, .still, .free, .eff, .free, .eff] Same sameR (by kernel_rfl) 18 (Array.replicate 18 false) (by kernel_rfl) rfl ?_
        intro w8 F9 _
        have HR := RowB.keep HR F9 (nin0 _)
        have HA := Fr.step0 HA F9
        refine WO.one (SA.F sameR sameT _ 0 _ (by kernel_rfl)) 37 (.slice (some ⟨b, 0, none⟩) n cap) (by kernel_rfl) ?_
        refine WO.one (SA.F sameR sameT _ 1 _ (by kernel_rfl)) 38 (.int .i64 (j : Int)) (by kernel_rfl) ?_
        refine WO.one (SA.F sameR sameT _ 2 _ (by kernel_rfl)) 39 (.slice (some ⟨b, 0, none⟩) n cap) (by kernel_rfl) ?_
        refine WO.one (SA.F sameR sameT _ 3 _ (by kernel_rfl)) 40 (.int .i64 (j : Int)) (by kernel_rfl) ?_
        refine WO.one (SA.F sameR sameT _ 4 _ (by kernel_rfl)) 41 (.int .i64 (IntKind.i64.wrap ((j : Int) - 1))) (by kernel_rfl) ?_
        refine WO.top (v' := .int .i64 ((j - 1 : Nat) : Int)) (wrap_i64 (by omega) (by omega)) ?_
        refine WO.one (SA.F sameR sameT _ 5 _ (by kernel_rfl)) 42 (.slice (some ⟨b, 0, none⟩) n cap) (by kernel_rfl) ?_
        refine WO.one (SA.F sameR sameT _ 6 _ (by kernel_rfl)) 43 (.int .i64 (j : Int)) (by kernel_rfl) ?_
        refine WO.one (SA.F sameR sameT _ 7 _ (by kernel_rfl)) 44 (.int .i64 (IntKind.i64.wrap ((j : Int) - 1))) (by kernel_rfl) ?_
        refine WO.top (v' := .int .i64 ((j - 1 : Nat) : Int)) (wrap_i64 (by omega) (by omega)) ?_
        refine WO.ixB (SA.F sameR sameT _ 8 _ (by kernel_rfl)) 45 (j - 1) b 0 n 1 ((j - 1 : Nat) : Int) (by kernel_rfl) (by omega) (by omega) (by omega) ?_
        refine WO.ld (SA.S sameR sameT _ 9 _ (by kernel_rfl)) 46 (.float .f64 (g0 p (j - 1))) (by kernel_rfl) (same (HR.at (j - 1) 0 (j - 1) _ (by rw [List.length_map]; have := hn; omega) (by omega) (by rw [(map_atF p (j - 1) (by have := hn; omega))]; rfl) (by omega))) ?_
        refine WO.one (SA.F sameR sameT _ 10 _ (by kernel_rfl)) 47 (.slice (some ⟨b, 0, none⟩) n cap) (by kernel_rfl) ?_
        refine WO.one (SA.F sameR sameT _ 11 _ (by kernel_rfl)) 48 (.int .i64 (j : Int)) (by kernel_rfl) ?_
        refine WO.ixB (SA.F sameR sameT _ 12 _ (by kernel_rfl)) 49 j b 0 n 1 (j : Int) (by kernel_rfl) (by omega) (by omega) (by omega) ?_
        refine WO.ld (SA.S sameR sameT _ 13 _ (by kernel_rfl)) 50 (.float .f64 (g0 p j)) (by kernel_rfl) (same (HR.at j 0 j _ (by rw [List.length_map]; have := hn; omega) (by omega) (by rw [(map_atF p j (by have := hn; omega))]; rfl) (by omega))) ?_
        refine WO.ixB (SA.F sameR sameT _ 14 _ (by kernel_rfl)) 51 j b 0 n 1 (j : Int) (by kernel_rfl) (by omega) (by omega) (by omega) ?_
        refine WO.stR (SA.E _ 15 _ (by kernel_rfl) rfl) b j j [.float .f64 (g0 p (j - 1))] HR (by rw [List.length_map]; have := hn; omega) rfl (by omega) rfl (by kernel_rfl) (fun _ _ => trivial) ?_
        intro w10 HR12 F11 _
        have HA := Fr.step HA F11 (inSL (by simp) inS0)
        have HR12 : RowB w10 b 53 1 cap ((p.set j (g0 p (j - 1))).map cF) := by rw [List.map_set]; exact HR12
        refine WO.ixB (SA.F sameR sameT _ 16 _ (by kernel_rfl)) 52 (j - 1) b 0 n 1 ((j - 1 : Nat) : Int) (by kernel_rfl) (by omega) (by omega) (by omega) ?_
        refine WO.stR (SA.E _ 17 _ (by kernel_rfl) rfl) b (j - 1) (j - 1) [.float .f64 (g0 p j)] HR12 (by rw [List.length_map]; have := (show (p.set j (g0 p (j - 1))).length = p.length from List.length_set).trans (hn); omega) rfl (by omega) rfl (by kernel_rfl) (fun _ _ => trivial) ?_
        intro w13 HR15 F14 _
        have HA := Fr.step HA F14 (inSL (by simp) inS0)
        have HR15 : RowB w13 b 53 1 cap (((p.set j (g0 p (j - 1))).set (j - 1) (g0 p j)).map cF) := by rw [List.map_set]; exact HR15
        refine WO.doneA (by kernel_rfl) ?_
        refine WQ.keep [0, 1, 2, 3, 8, 9, 34] (e' := [(0, .slice (some ⟨b, 0, none⟩) n cap), (1, .int .i64 (a : Int)), (2, .int .i64 (bb : Int)), (3, .func (.func 50) #[] #[]), (8, .int .i64 (i : Int)), (9, .int .i64 (j : Int)), (34, .bool true)]) (by kernel_rfl) ?_
        refine WQ.blkN ?_
        refine WQ.thenN ?_
        -- R5 zsortanyfunc.go:12
        refine WE.region ?_
        refine WO.run 1 0 [(35, .int .i64 (j : Int))] (by kernel_rfl) (by kernel_rfl) ?_
        refine WO.one (SQ.F 1 (by kernel_rfl)) 36 (.int .i64 (IntKind.i64.wrap ((j : Int) - 1))) (by kernel_rfl) ?_
        refine WO.top (v' := .int .i64 ((j - 1 : Nat) : Int)) (wrap_i64 (by omega) (by omega)) ?_
        refine WO.run 1 2 [(9, .int .i64 ((j - 1 : Nat) : Int))] (by kernel_rfl) (by kernel_rfl) ?_
        refine WO.done (by kernel_rfl) ?_
        refine WQ.keep [0, 1, 2, 3, 8, 9, 34] (e' := [(0, .slice (some ⟨b, 0, none⟩) n cap), (1, .int .i64 (a : Int)), (2, .int .i64 (bb : Int)), (3, .func (.func 50) #[] #[]), (8, .int .i64 (i : Int)), (9, .int .i64 ((j - 1 : Nat) : Int)), (34, .bool true)]) (by kernel_rfl) ?_
        refine WQ.round ?_
        intro a_ ha_
        refine ⟨(j - 1, swp p j), ?_, ha_.keep [0, 1, 2, 3, 8, 9] (by kernel_rfl), ?_⟩
        · show j - 1 < j; omega
        · exact ⟨by rw [← inner_step (by omega) (cmpZ_lt.1 h7)]; exact hin, (swp_len _ _).trans hn, all_swp hall (by omega), by show j - 1 ≤ i; omega, HR15, HA⟩
      · intro h7
        refine WO.one (SA.F sameR sameT _ 16 _ (by kernel_rfl)) 34 (.bool false) (by kernel_rfl) ?_
        refine WO.doneA (by kernel_rfl) ?_
        refine WQ.keep [0, 1, 2, 3, 8, 9, 34] (e' := [(0, .slice (some ⟨b, 0, none⟩) n cap), (1, .int .i64 (a : Int)), (2, .int .i64 (bb : Int)), (3, .func (.func 50) #[] #[]), (8, .int .i64 (i : Int)), (9, .int .i64 (j : Int)), (34, .bool false)]) (by kernel_rfl) ?_
        refine WQ.thenN ?_
        refine WE.condF (by kernel_rfl) ?_
        refine WE.exit ?_
        refine WQ.thenE ?_
        refine WQ.thenE ?_
        refine WQ.blkE ?_
        refine WQ.blkN ?_
        refine WQ.thenN ?_
        rw [inner_stop (.inr (by intro h_; exact h7 (cmpZ_lt.2 h_)))] at hin
        -- R2 zsortanyfunc.go:11
        refine WE.region ?_
        refine WO.run 1 0 [(15, .int .i64 (i : Int))] (by kernel_rfl) (by kernel_rfl) ?_
        refine WO.one (SQ.F 1 (by kernel_rfl)) 16 (.int .i64 (IntKind.i64.wrap ((i : Int) + 1))) (by kernel_rfl) ?_
        refine WO.top (v' := .int .i64 ((i + 1 : Nat) : Int)) (wrap_i64 (by omega) (by omega)) ?_
        refine WO.run 1 2 [(8, .int .i64 ((i + 1 : Nat) : Int))] (by kernel_rfl) (by kernel_rfl) ?_
        refine WO.done (by kernel_rfl) ?_
        refine WQ.keep [0, 1, 2, 3, 8, 9, 34] (e' := [(0, .slice (some ⟨b, 0, none⟩) n cap), (1, .int .i64 (a : Int)), (2, .int .i64 (bb : Int)), (3, .func (.func 50) #[] #[]), (8, .int .i64 ((i + 1 : Nat) : Int)), (9, .int .i64 (j : Int)), (34, .bool false)]) (by kernel_rfl) ?_
        refine WQ.round ?_
        intro a_ ha_
        refine ⟨(i + 1, inner a i q'), ?_, ha_.keep [0, 1, 2, 3, 8] (by kernel_rfl), ?_⟩
        · show bb - (i + 1) < bb - i; omega
        · exact ⟨by rw [outer_step (by omega)] at hout; exact hout, (inner_len _ _ _).trans hn0, all_inner hall0 (by omega), by show a < i + 1; omega, by rw [← hin]; exact HR, HA⟩
    · intro h4
      refine WO.one (SA.F sameR sameT _ 3 _ (by kernel_rfl)) 21 (.bool false) (by kernel_rfl) ?_
      refine WO.off (SA.O sameR sameT _ 4 _ (by kernel_rfl)) 22 (by kernel_rfl) ?_
      refine WO.off (SA.O sameR sameT _ 5 _ (by kernel_rfl)) 23 (by kernel_rfl) ?_
      refine WO.off (SA.O sameR sameT _ 6 _ (by kernel_rfl)) 24 (by kernel_rfl) ?_
      refine WO.off (SA.O sameR sameT _ 7 _ (by kernel_rfl)) 25 (by kernel_rfl) ?_
      refine WO.off (SA.O sameR sameT _ 8 _ (by kernel_rfl)) 26 (by kernel_rfl) ?_
      refine WO.off (SA.O sameR sameT _ 9 _ (by kernel_rfl)) 27 (by kernel_rfl) ?_
      refine WO.off (SA.O sameR sameT _ 10 _ (by kernel_rfl)) 28 (by kernel_rfl) ?_
      refine WO.off (SA.O sameR sameT _ 11 _ (by kernel_rfl)) 29 (by kernel_rfl) ?_
      refine WO.off (SA.O sameR sameT _ 12 _ (by kernel_rfl)) 30 (by kernel_rfl) ?_
      refine WO.off (SA.O sameR sameT _ 13 _ (by kernel_rfl)) 31 (by kernel_rfl) ?_
      refine WO.off (SA.O sameR sameT _ 14 _ (by kernel_rfl)) 32 (by kernel_rfl) ?_
      refine WO.off (SA.O sameR sameT _ 15 _ (by kernel_rfl)) 33 (by kernel_rfl) ?_
      refine WO.one (SA.F sameR sameT _ 16 _ (by kernel_rfl)) 34 (.bool false) (by kernel_rfl) ?_
      refine WO.doneA (by kernel_rfl) ?_
      refine WQ.keep [0, 1, 2, 3, 8, 9, 34] (e' := [(0, .slice (some ⟨b, 0, none⟩) n cap), (1, .int .i64 (a : Int)), (2, .int .i64 (bb : Int)), (3, .func (.func 50) #[] #[]), (8, .int .i64 (i : Int)), (9, .int .i64 (j : Int)), (34, .bool false)]) (by kernel_rfl) ?_
      refine WQ.thenN ?_
      refine WE.condF (by kernel_rfl) ?_
      refine WE.exit ?_
      refine WQ.thenE ?_
      refine WQ.thenE ?_
      refine WQ.blkE ?_
      refine WQ.blkN ?_
      refine WQ.thenN ?_
      rw [inner_stop (.inl (by omega))] at hin
      -- R2 zsortanyfunc.go:11
      refine WE.region ?_
      refine WO.run 1 0 [(15, .int .i64 (i : Int))] (by kernel_rfl) (by kernel_rfl) ?_
      refine WO.one (SQ.F 1 (by kernel_rfl)) 16 (.int .i64 (IntKind.i64.wrap ((i : Int) + 1))) (by kernel_rfl) ?_
      refine WO.top (v' := .int .i64 ((i + 1 : Nat) : Int)) (wrap_i64 (by omega) (by omega)) ?_
      refine WO.run 1 2 [(8, .int .i64 ((i + 1 : Nat) : Int))] (by kernel_rfl) (by kernel_rfl) ?_
      refine WO.done (by kernel_rfl) ?_
      refine WQ.keep [0, 1, 2, 3, 8, 9, 34] (e' := [(0, .slice (some ⟨b, 0, none⟩) n cap), (1, .int .i64 (a : Int)), (2, .int .i64 (bb : Int)), (3, .func (.func 50) #[] #[]), (8, .int .i64 ((i + 1 : Nat) : Int)), (9, .int .i64 (j : Int)), (34, .bool false)]) (by kernel_rfl) ?_
      refine WQ.round ?_
      intro a_ ha_
      refine ⟨(i + 1, inner a i q'), ?_, ha_.keep [0, 1, 2, 3, 8] (by kernel_rfl), ?_⟩
      · show bb - (i + 1) < bb - i; omega
      · exact ⟨by rw [outer_step (by omega)] at hout; exact hout, (inner_len _ _ _).trans hn0, all_inner hall0 (by omega), by show a < i + 1; omega, by rw [← hin]; exact HR, HA⟩
  · intro h1
    refine WO.done (by kernel_rfl) ?_
    refine WQ.keep [0, 1, 2, 3, 8, 14] (e' := [(0, .slice (some ⟨b, 0, none⟩) n cap), (1, .int .i64 (a : Int)), (2, .int .i64 (bb : Int)), (3, .func (.func 50) #[] #[]), (8, .int .i64 (i : Int)), (14, .bool false)]) (by kernel_rfl) ?_
    refine WQ.thenN ?_
    refine WE.condF (by kernel_rfl) ?_
    refine WE.exit ?_
    refine WQ.thenE ?_
    refine WQ.thenE ?_
    refine WQ.blkE ?_
    refine WQ.fall (v := .tuple #[]) (by kernel_rfl) ?_
    exact ⟨rfl, by rw [outer_stop (by omega)] at hout; rw [← hout]; exact HR, HA⟩
end Go.Proofs.Ytjnjkgoofkgiiaa.Edge
