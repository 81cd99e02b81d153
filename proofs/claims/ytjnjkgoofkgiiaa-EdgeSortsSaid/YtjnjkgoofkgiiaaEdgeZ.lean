/- Layer 2's walks: the symmetric merge. -/
import Derived.Test.YtjnjkgoofkgiiaaEdgeY
set_option linter.unusedVariables false
set_option linter.unusedSimpArgs false
namespace Go.Proofs.Ytjnjkgoofkgiiaa.Edge
open Go Go.RowKit Go.Proofs.Ytjnjkgoofkgiiaa Go.Proofs.Ytjnjkgoofkgiiaa.Eng Go.Proofs.YtjnjkgoofkgiiaaW.PrintWords
def SymOk (N : Nat) : Prop := ∀ (b n cap a m bb : Nat) (q : List Nat) (w : World), bb - a = N → RowB w b 53 1 cap (q.map cF) → q.length = n → All q → n ≤ 1000000 → a < m → m < bb → bb ≤ n → Srt (rk q) a m → Srt (rk q) m bb →
  Calls Try.prog 66 #[.slice (some ⟨b, 0, none⟩) n cap, .int .i64 (a : Int), .int .i64 (m : Int), .int .i64 (bb : Int), .func (.func 50) #[] #[]] w (fun e w' => ∃ p, e = .returned (.tuple #[]) ∧ PIn a bb q p ∧ Srt (rk p) a bb ∧ RowB w' b 53 1 cap (p.map cF) ∧ Fr [b] w w')
theorem half_nat (x : Nat) : Int.fdiv (x : Int) (2 ^ 1) = ((x / 2 : Nat) : Int) := by
  rw [Int.fdiv_eq_ediv_of_nonneg _ (by decide)]
  rfl
theorem cmpZ_rk (q : List Nat) (i j : Nat) : cmpZ (g0 q i) (g0 q j) < 0 ↔ rk q i < rk q j := cmpZ_lt.trans (less_rk q i j)
/-- what stands at a is carried up to k -/
def upF (f : Nat → Nat) (a k : Nat) : Nat → Nat := fun x => if a ≤ x ∧ x < k then f (x + 1) else if x = k then f a else f x
def dnF (f : Nat → Nat) (m k : Nat) : Nat → Nat := fun x => if k < x ∧ x ≤ m then f (x - 1) else if x = k then f m else f x
theorem upF_zero (f : Nat → Nat) (a x : Nat) : upF f a a x = f x := by
  unfold upF
  rw [if_neg (by omega)]
  split
  · rename_i h; rw [h]
  · rfl
theorem dnF_zero (f : Nat → Nat) (m x : Nat) : dnF f m m x = f x := by
  unfold dnF
  rw [if_neg (by omega)]
  split
  · rename_i h; rw [h]
  · rfl
theorem upF_step {q p : List Nat} {a k : Nat} (hf : ∀ x, g0 p x = upF (g0 q) a k x) (ha : a ≤ k) (hl : k + 1 < p.length) : ∀ x, g0 ((p.set k (g0 p (k + 1))).set (k + 1) (g0 p k)) x = upF (g0 q) a (k + 1) x := by
  intro x
  rw [g0_set _ _ _ _ (by simp; omega), g0_set _ _ _ _ (by omega)]
  simp only [hf]
  unfold upF
  by_cases e1 : x = k + 1
  · subst e1
    rw [if_pos rfl, if_neg (by omega), if_pos rfl, if_neg (by omega), if_pos rfl]
  · rw [if_neg e1]
    by_cases e2 : x = k
    · subst e2
      rw [if_pos rfl, if_neg (by omega), if_neg (by omega), if_pos (by omega)]
    · rw [if_neg e2]
      by_cases e3 : a ≤ x ∧ x < k
      · rw [if_pos e3, if_pos (by omega)]
      · rw [if_neg e3, if_neg e2, if_neg (by omega), if_neg e1]
theorem dnF_step {q p : List Nat} {m k : Nat} (hf : ∀ x, g0 p x = dnF (g0 q) m k x) (hm : k ≤ m) (hk : 0 < k) (hl : k < p.length) : ∀ x, g0 ((p.set k (g0 p (k - 1))).set (k - 1) (g0 p k)) x = dnF (g0 q) m (k - 1) x := by
  intro x
  rw [g0_set _ _ _ _ (by simp; omega), g0_set _ _ _ _ hl]
  simp only [hf]
  unfold dnF
  by_cases e1 : x = k - 1
  · subst e1
    rw [if_pos rfl, if_neg (by omega), if_pos rfl, if_neg (by omega), if_pos rfl]
  · rw [if_neg e1]
    by_cases e2 : x = k
    · subst e2
      rw [if_pos rfl, if_neg (by omega), if_neg (by omega), if_pos (by omega)]
    · rw [if_neg e2]
      by_cases e3 : k < x ∧ x ≤ m
      · rw [if_pos e3, if_pos (by omega)]
      · rw [if_neg e3, if_neg e2, if_neg (by omega), if_neg e1]
theorem one_left {q p : List Nat} {a m bb i k : Nat} (hmb : m < bb) (hb : bb ≤ q.length) (hc : m = a + 1) (h2 : Srt (rk q) m bb) (hmi : m ≤ i) (hib : i ≤ bb) (hA : m < i → rk q (i - 1) < rk q a) (hB : i < bb → rk q a ≤ rk q i) (hk : k = i - 1)
    (hl : p.length = q.length) (hf : ∀ x, g0 p x = upF (g0 q) a k x) (hp : p.Perm q) : PIn a bb q p ∧ Srt (rk p) a bb := by
  refine ⟨⟨hl, fun x hx => by rw [hf]; unfold upF; rw [if_neg (by omega), if_neg (by omega)], hp⟩, ?_⟩
  have le2 : ∀ x y, m ≤ x → x ≤ y → y < bb → rk q x ≤ rk q y := fun x y h3 h4 h5 => by
    by_cases h : x = y
    · rw [h]; exact Nat.le_refl _
    · exact h2 x y h3 (by omega) h5
  have v : ∀ x, rk p x = if a ≤ x ∧ x < k then rk q (x + 1) else if x = k then rk q a else rk q x := fun x => by
    unfold rk
    rw [hf]
    unfold upF
    split
    · rfl
    · split <;> rfl
  have below : ∀ x, m ≤ x → x < i → rk q x ≤ rk q a := fun x h3 h4 => Nat.le_trans (le2 x (i - 1) h3 (by omega) (by omega)) (Nat.le_of_lt (hA (by omega)))
  have above : ∀ x, i ≤ x → x < bb → rk q a ≤ rk q x := fun x h3 h4 => Nat.le_trans (hB (by omega)) (le2 i x hmi h3 h4)
  intro x y hx hxy hy
  rw [v x, v y]
  by_cases e1 : a ≤ x ∧ x < k
  · rw [if_pos e1]
    by_cases e2 : a ≤ y ∧ y < k
    · rw [if_pos e2]; exact le2 _ _ (by omega) (by omega) (by omega)
    · rw [if_neg e2]
      by_cases e3 : y = k
      · rw [if_pos e3]; exact below _ (by omega) (by omega)
      · rw [if_neg e3]; exact le2 _ _ (by omega) (by omega) (by omega)
  · rw [if_neg e1]
    by_cases e2 : x = k
    · rw [if_pos e2, if_neg (by omega), if_neg (by omega)]
      exact above _ (by omega) hy
    · rw [if_neg e2, if_neg (by omega), if_neg (by omega)]
      exact le2 _ _ (by omega) (by omega) hy
theorem one_right {q p : List Nat} {a m bb i k : Nat} (ham : a < m) (hb : bb ≤ q.length) (hc : bb = m + 1) (h1 : Srt (rk q) a m) (hai : a ≤ i) (him : i ≤ m) (hA : a < i → rk q (i - 1) ≤ rk q m) (hB : i < m → rk q m < rk q i) (hk : k = i)
    (hl : p.length = q.length) (hf : ∀ x, g0 p x = dnF (g0 q) m k x) (hp : p.Perm q) : PIn a bb q p ∧ Srt (rk p) a bb := by
  refine ⟨⟨hl, fun x hx => by rw [hf]; unfold dnF; rw [if_neg (by omega), if_neg (by omega)], hp⟩, ?_⟩
  have le1 : ∀ x y, a ≤ x → x ≤ y → y < m → rk q x ≤ rk q y := fun x y h3 h4 h5 => by
    by_cases h : x = y
    · rw [h]; exact Nat.le_refl _
    · exact h1 x y h3 (by omega) h5
  have v : ∀ x, rk p x = if k < x ∧ x ≤ m then rk q (x - 1) else if x = k then rk q m else rk q x := fun x => by
    unfold rk
    rw [hf]
    unfold dnF
    split
    · rfl
    · split <;> rfl
  have below : ∀ x, a ≤ x → x < i → rk q x ≤ rk q m := fun x h3 h4 => Nat.le_trans (le1 x (i - 1) h3 (by omega) (by omega)) (hA (by omega))
  have above : ∀ x, i ≤ x → x < m → rk q m ≤ rk q x := fun x h3 h4 => Nat.le_trans (Nat.le_of_lt (hB (by omega))) (le1 i x hai h3 h4)
  intro x y hx hxy hy
  rw [v x, v y]
  by_cases e1 : k < y ∧ y ≤ m
  · rw [if_pos e1]
    by_cases e2 : k < x ∧ x ≤ m
    · rw [if_pos e2]; exact le1 _ _ (by omega) (by omega) (by omega)
    · rw [if_neg e2]
      by_cases e3 : x = k
      · rw [if_pos e3]; exact above _ (by omega) (by omega)
      · rw [if_neg e3]; exact le1 _ _ (by omega) (by omega) (by omega)
  · rw [if_neg e1]
    by_cases e2 : y = k
    · rw [if_pos e2, if_neg (by omega), if_neg (by omega)]
      exact below _ hx (by omega)
    · rw [if_neg e2, if_neg (by omega), if_neg (by omega)]
      exact le1 _ _ (by omega) (by omega) (by omega)
set_option maxRecDepth 100000 in
set_option maxHeartbeats 1000000 in
theorem sym_l (N : Nat) (ih : ∀ M, M < N → SymOk M) (b n cap a m bb : Nat) (q : List Nat) (w : World) (hN : bb - a = N) (HR : RowB w b 53 1 cap (q.map cF)) (hn : q.length = n) (hall : All q) (hm : n ≤ 1000000) (ham : a < m) (hmb : m < bb) (hbn : bb ≤ n) (hs1 : Srt (rk q) a m) (hs2 : Srt (rk q) m bb) (hc : m = a + 1) :
    Calls Try.prog 66 #[.slice (some ⟨b, 0, none⟩) n cap, .int .i64 (a : Int), .int .i64 (m : Int), .int .i64 (bb : Int), .func (.func 50) #[] #[]] w fun e w' => ∃ p, e = .returned (.tuple #[]) ∧ PIn a bb q p ∧ Srt (rk p) a bb ∧ RowB w' b 53 1 cap (p.map cF) ∧ Fr [b] w w' := by
  have HA := Fr.refl [b] w
  refine enter (N := 220) Try.func66 (c := _) rfl (by kernel_rfl) (by kernel_rfl) (e := [(0, .slice (some ⟨b, 0, none⟩) n cap), (1, .int .i64 (a : Int)), (2, .int .i64 (m : Int)), (3, .int .i64 (bb : Int)), (4, .func (.func 50) #[] #[])]) (by kernel_rfl) ?_
  refine WE.seq ?_
  refine WE.seq ?_
  -- R0 zsortanyfunc.go:382
  refine WE.region ?_
  refine WO.run 2 0 [(26, .int .i64 (a : Int)), (25, .int .i64 (m : Int))] (by kernel_rfl) (by kernel_rfl) ?_
  refine WO.one (SQ.F 2 (by kernel_rfl)) 27 (.int .i64 (IntKind.i64.wrap ((m : Int) - (a : Int)))) (by kernel_rfl) ?_
  refine WO.top (v' := .int .i64 ((m - a : Nat) : Int)) (wrap_i64 (by omega) (by omega)) ?_
  refine WO.one (SQ.F 3 (by kernel_rfl)) 28 (.bool (decide ((((m - a : Nat) : Int) : Int) = (1 : Int)))) (by kernel_rfl) ?_
  refine WO.topPT ((((m - a : Nat) : Int) : Int) = (1 : Int)) (by omega) ?_
  refine WO.done (by kernel_rfl) ?_
  refine WQ.keep [0, 1, 2, 3, 4, 28] (e' := [(0, .slice (some ⟨b, 0, none⟩) n cap), (1, .int .i64 (a : Int)), (2, .int .i64 (m : Int)), (3, .int .i64 (bb : Int)), (4, .func (.func 50) #[] #[]), (28, .bool true)]) (by kernel_rfl) ?_
  refine WQ.thenN ?_
  refine WE.condT (by kernel_rfl) ?_
  refine WE.seq ?_
  -- R1 zsortanyfunc.go:386
  refine WE.region ?_
  refine WO.run 2 0 [(10, .int .i64 (m : Int)), (29, .int .i64 (m : Int))] (by kernel_rfl) (by kernel_rfl) ?_
  refine WO.done (by kernel_rfl) ?_
  refine WQ.keep [0, 1, 2, 3, 4, 10, 28] (e' := [(0, .slice (some ⟨b, 0, none⟩) n cap), (1, .int .i64 (a : Int)), (2, .int .i64 (m : Int)), (3, .int .i64 (bb : Int)), (4, .func (.func 50) #[] #[]), (10, .int .i64 (m : Int)), (28, .bool true)]) (by kernel_rfl) ?_
  refine WQ.thenN ?_
  refine WE.seq ?_
  -- R2 zsortanyfunc.go:387
  refine WE.region ?_
  refine WO.run 2 0 [(11, .int .i64 (bb : Int)), (30, .int .i64 (bb : Int))] (by kernel_rfl) (by kernel_rfl) ?_
  refine WO.done (by kernel_rfl) ?_
  refine WQ.keep [0, 1, 2, 3, 4, 10, 11, 28] (e' := [(0, .slice (some ⟨b, 0, none⟩) n cap), (1, .int .i64 (a : Int)), (2, .int .i64 (m : Int)), (3, .int .i64 (bb : Int)), (4, .func (.func 50) #[] #[]), (10, .int .i64 (m : Int)), (11, .int .i64 (bb : Int)), (28, .bool true)]) (by kernel_rfl) ?_
  refine WQ.thenN ?_
  refine WE.seq ?_
  refine WE.block ?_
  refine WE.loop (α := Nat × Nat) (E := fun z => [(0, .slice (some ⟨b, 0, none⟩) n cap), (1, .int .i64 (a : Int)), (2, .int .i64 (m : Int)), (3, .int .i64 (bb : Int)), (4, .func (.func 50) #[] #[]), (10, .int .i64 (z.1 : Int)), (11, .int .i64 (z.2 : Int))]) (I := fun z wr => m ≤ z.1 ∧ z.1 ≤ z.2 ∧ z.2 ≤ bb ∧ (m < z.1 → rk q (z.1 - 1) < rk q a) ∧ (z.2 < bb → rk q a ≤ rk q z.2) ∧ RowB wr b 53 1 cap (q.map cF) ∧ Fr [b] w wr) (m := fun z => z.2 - z.1) (m, bb) [0, 1, 2, 3, 4, 10, 11] (by kernel_rfl) ?_ ?_
  · exact ⟨Nat.le_refl _, by show m ≤ bb; omega, Nat.le_refl _, fun h => absurd h (Nat.lt_irrefl _), fun h => absurd h (Nat.lt_irrefl _), HR, HA⟩
  rintro ⟨i, j⟩ wr ⟨hlo, hij, hhi, hA, hB, HR, HA⟩
  dsimp only at hlo hij hhi hA hB
  refine WE.seq ?_
  refine WE.seq ?_
  -- R3 zsortanyfunc.go:388
  refine WE.region ?_
  refine WO.run 2 0 [(32, .int .i64 (j : Int)), (31, .int .i64 (i : Int))] (by kernel_rfl) (by kernel_rfl) ?_
  refine WO.one (SQ.F 2 (by kernel_rfl)) 33 (.bool (decide (((i : Int) : Int) < (j : Int)))) (by kernel_rfl) ?_
  refine WO.topP (((i : Int) : Int) < (j : Int)) ?_ ?_
  · intro h1
    refine WO.done (by kernel_rfl) ?_
    refine WQ.keep [0, 1, 2, 3, 4, 10, 11, 33] (e' := [(0, .slice (some ⟨b, 0, none⟩) n cap), (1, .int .i64 (a : Int)), (2, .int .i64 (m : Int)), (3, .int .i64 (bb : Int)), (4, .func (.func 50) #[] #[]), (10, .int .i64 (i : Int)), (11, .int .i64 (j : Int)), (33, .bool true)]) (by kernel_rfl) ?_
    refine WQ.thenN ?_
    refine WE.condT (by kernel_rfl) ?_
    refine WE.skip ?_
    refine WQ.thenN ?_
    refine WE.block ?_
    refine WE.seq ?_
    -- R4 zsortanyfunc.go:389
    refine WE.region ?_
    refine WO.run 2 0 [(35, .int .i64 (j : Int)), (34, .int .i64 (i : Int))] (by kernel_rfl) (by kernel_rfl) ?_
    refine WO.one (SQ.F 2 (by kernel_rfl)) 36 (.int .i64 (IntKind.i64.wrap ((i : Int) + (j : Int)))) (by kernel_rfl) ?_
    refine WO.top (v' := .int .i64 ((i + j : Nat) : Int)) (wrap_i64 (by omega) (by omega)) ?_
    refine WO.one (SQ.F 3 (by kernel_rfl)) 37 (.int .u64 (IntKind.u64.wrap ((i + j : Nat) : Int))) (by kernel_rfl) ?_
    refine WO.top (v' := .int .u64 ((i + j : Nat) : Int)) (wrap_u64 rfl (by omega)) ?_
    refine WO.one (SQ.F 4 (by kernel_rfl)) 38 (.int .u64 (Int.fdiv ((i + j : Nat) : Int) (2 ^ 1))) (by kernel_rfl) ?_
    refine WO.top (v' := .int .u64 (((i + j) / 2 : Nat) : Int)) (congrArg (Value.int .u64) (half_nat _)) ?_
    refine WO.one (SQ.F 5 (by kernel_rfl)) 39 (.int .i64 (IntKind.i64.wrap (((i + j) / 2 : Nat) : Int))) (by kernel_rfl) ?_
    refine WO.top (v' := .int .i64 (((i + j) / 2 : Nat) : Int)) (wrap_i64 rfl (by omega)) ?_
    refine WO.run 1 6 [(12, .int .i64 (((i + j) / 2 : Nat) : Int))] (by kernel_rfl) (by kernel_rfl) ?_
    refine WO.done (by kernel_rfl) ?_
    refine WQ.keep [0, 1, 2, 3, 4, 10, 11, 12, 33] (e' := [(0, .slice (some ⟨b, 0, none⟩) n cap), (1, .int .i64 (a : Int)), (2, .int .i64 (m : Int)), (3, .int .i64 (bb : Int)), (4, .func (.func 50) #[] #[]), (10, .int .i64 (i : Int)), (11, .int .i64 (j : Int)), (12, .int .i64 (((i + j) / 2 : Nat) : Int)), (33, .bool true)]) (by kernel_rfl) ?_
    refine WQ.thenN ?_
    refine WE.seq ?_
    -- R5* zsortanyfunc.go:390
    refine WE.draw [.free, .free, .free, .free, .still, .free, .free, .free, .still, .eff, .free] Same sameR (by kernel_rfl) 11 (Array.replicate 11 false) (by kernel_rfl) rfl ?_
    intro w2 F3 _
    have HR := RowB.keep HR F3 (nin0 _)
    have HA := Fr.step0 HA F3
    refine WO.one (SA.F sameR sameT _ 0 _ (by kernel_rfl)) 40 (.func (.func 50) #[] #[]) (by kernel_rfl) ?_
    refine WO.one (SA.F sameR sameT _ 1 _ (by kernel_rfl)) 41 (.slice (some ⟨b, 0, none⟩) n cap) (by kernel_rfl) ?_
    refine WO.one (SA.F sameR sameT _ 2 _ (by kernel_rfl)) 42 (.int .i64 (((i + j) / 2 : Nat) : Int)) (by kernel_rfl) ?_
    refine WO.ixB (SA.F sameR sameT _ 3 _ (by kernel_rfl)) 43 ((i + j) / 2) b 0 n 1 (((i + j) / 2 : Nat) : Int) (by kernel_rfl) (by omega) (by omega) (by omega) ?_
    refine WO.ld (SA.S sameR sameT _ 4 _ (by kernel_rfl)) 44 (.float .f64 (g0 q ((i + j) / 2))) (by kernel_rfl) (same (HR.at ((i + j) / 2) 0 ((i + j) / 2) _ (by rw [List.length_map]; have := hn; omega) (by omega) (by rw [(map_atF q ((i + j) / 2) (by have := hn; omega))]; rfl) (by omega))) ?_
    refine WO.one (SA.F sameR sameT _ 5 _ (by kernel_rfl)) 45 (.slice (some ⟨b, 0, none⟩) n cap) (by kernel_rfl) ?_
    refine WO.one (SA.F sameR sameT _ 6 _ (by kernel_rfl)) 46 (.int .i64 (a : Int)) (by kernel_rfl) ?_
    refine WO.ixB (SA.F sameR sameT _ 7 _ (by kernel_rfl)) 47 a b 0 n 1 (a : Int) (by kernel_rfl) (by omega) (by omega) (by omega) ?_
    refine WO.ld (SA.S sameR sameT _ 8 _ (by kernel_rfl)) 48 (.float .f64 (g0 q a)) (by kernel_rfl) (same (HR.at a 0 a _ (by rw [List.length_map]; have := hn; omega) (by omega) (by rw [(map_atF q a (by have := hn; omega))]; rfl) (by omega))) ?_
    refine WO.call (SA.E _ 9 _ (by kernel_rfl) rfl) 49 (by kernel_rfl) (cmp_f (g0 q ((i + j) / 2)) (g0 q a) _ (hall _ (by omega)) (hall _ (by omega))) ?_
    rintro _ w4 ⟨rfl, F5⟩
    refine ⟨_, rfl, trivial, ?_⟩
    have HR := RowB.keep HR F5 (nin0 _)
    have HA := Fr.step0 HA F5
    refine WO.one (SA.F sameR sameT _ 10 _ (by kernel_rfl)) 50 (.bool (decide ((cmpZ (g0 q ((i + j) / 2)) (g0 q a) : Int) < 0))) (by kernel_rfl) ?_
    refine WO.topP ((cmpZ (g0 q ((i + j) / 2)) (g0 q a) : Int) < 0) ?_ ?_
    · intro h6
      refine WO.doneA (by kernel_rfl) ?_
      refine WQ.keep [0, 1, 2, 3, 4, 10, 11, 12, 33, 50] (e' := [(0, .slice (some ⟨b, 0, none⟩) n cap), (1, .int .i64 (a : Int)), (2, .int .i64 (m : Int)), (3, .int .i64 (bb : Int)), (4, .func (.func 50) #[] #[]), (10, .int .i64 (i : Int)), (11, .int .i64 (j : Int)), (12, .int .i64 (((i + j) / 2 : Nat) : Int)), (33, .bool true), (50, .bool true)]) (by kernel_rfl) ?_
      refine WQ.thenN ?_
      refine WE.condT (by kernel_rfl) ?_
      -- R6 zsortanyfunc.go:391
      refine WE.region ?_
      refine WO.run 1 0 [(51, .int .i64 (((i + j) / 2 : Nat) : Int))] (by kernel_rfl) (by kernel_rfl) ?_
      refine WO.one (SQ.F 1 (by kernel_rfl)) 52 (.int .i64 (IntKind.i64.wrap ((((i + j) / 2 : Nat) : Int) + 1))) (by kernel_rfl) ?_
      refine WO.top (v' := .int .i64 ((((i + j) / 2) + 1 : Nat) : Int)) (wrap_i64 (by omega) (by omega)) ?_
      refine WO.run 1 2 [(10, .int .i64 ((((i + j) / 2) + 1 : Nat) : Int))] (by kernel_rfl) (by kernel_rfl) ?_
      refine WO.done (by kernel_rfl) ?_
      refine WQ.keep [0, 1, 2, 3, 4, 10, 11, 12, 33, 50] (e' := [(0, .slice (some ⟨b, 0, none⟩) n cap), (1, .int .i64 (a : Int)), (2, .int .i64 (m : Int)), (3, .int .i64 (bb : Int)), (4, .func (.func 50) #[] #[]), (10, .int .i64 ((((i + j) / 2) + 1 : Nat) : Int)), (11, .int .i64 (j : Int)), (12, .int .i64 (((i + j) / 2 : Nat) : Int)), (33, .bool true), (50, .bool true)]) (by kernel_rfl) ?_
      refine WQ.blkN ?_
      refine WQ.round ?_
      intro a_ ha_
      refine ⟨((i + j) / 2 + 1, j), ?_, ha_.keep [0, 1, 2, 3, 4, 10, 11] (by kernel_rfl), ?_⟩
      · show j - ((i + j) / 2 + 1) < j - i; omega
      · exact ⟨by show m ≤ (i + j) / 2 + 1; omega, by show (i + j) / 2 + 1 ≤ j; omega, hhi, fun _ => (cmpZ_rk _ _ _).1 h6, hB, HR, HA⟩
    · intro h6
      refine WO.doneA (by kernel_rfl) ?_
      refine WQ.keep [0, 1, 2, 3, 4, 10, 11, 12, 33, 50] (e' := [(0, .slice (some ⟨b, 0, none⟩) n cap), (1, .int .i64 (a : Int)), (2, .int .i64 (m : Int)), (3, .int .i64 (bb : Int)), (4, .func (.func 50) #[] #[]), (10, .int .i64 (i : Int)), (11, .int .i64 (j : Int)), (12, .int .i64 (((i + j) / 2 : Nat) : Int)), (33, .bool true), (50, .bool false)]) (by kernel_rfl) ?_
      refine WQ.thenN ?_
      refine WE.condF (by kernel_rfl) ?_
      -- R7 zsortanyfunc.go:393
      refine WE.region ?_
      refine WO.run 2 0 [(11, .int .i64 (((i + j) / 2 : Nat) : Int)), (53, .int .i64 (((i + j) / 2 : Nat) : Int))] (by kernel_rfl) (by kernel_rfl) ?_
      refine WO.done (by kernel_rfl) ?_
      refine WQ.keep [0, 1, 2, 3, 4, 10, 11, 12, 33, 50] (e' := [(0, .slice (some ⟨b, 0, none⟩) n cap), (1, .int .i64 (a : Int)), (2, .int .i64 (m : Int)), (3, .int .i64 (bb : Int)), (4, .func (.func 50) #[] #[]), (10, .int .i64 (i : Int)), (11, .int .i64 (((i + j) / 2 : Nat) : Int)), (12, .int .i64 (((i + j) / 2 : Nat) : Int)), (33, .bool true), (50, .bool false)]) (by kernel_rfl) ?_
      refine WQ.blkN ?_
      refine WQ.round ?_
      intro a_ ha_
      refine ⟨(i, (i + j) / 2), ?_, ha_.keep [0, 1, 2, 3, 4, 10, 11] (by kernel_rfl), ?_⟩
      · show (i + j) / 2 - i < j - i; omega
      · exact ⟨hlo, by show i ≤ (i + j) / 2; omega, by show (i + j) / 2 ≤ bb; omega, hA, fun _ => Nat.le_of_not_lt (fun h_ => h6 ((cmpZ_rk _ _ _).2 h_)), HR, HA⟩
  · intro h1
    refine WO.done (by kernel_rfl) ?_
    refine WQ.keep [0, 1, 2, 3, 4, 10, 11, 33] (e' := [(0, .slice (some ⟨b, 0, none⟩) n cap), (1, .int .i64 (a : Int)), (2, .int .i64 (m : Int)), (3, .int .i64 (bb : Int)), (4, .func (.func 50) #[] #[]), (10, .int .i64 (i : Int)), (11, .int .i64 (j : Int)), (33, .bool false)]) (by kernel_rfl) ?_
    refine WQ.thenN ?_
    refine WE.condF (by kernel_rfl) ?_
    refine WE.exit ?_
    refine WQ.thenE ?_
    refine WQ.thenE ?_
    refine WQ.blkE ?_
    refine WQ.thenN ?_
    refine WE.seq ?_
    refine WE.seq ?_
    -- R8 zsortanyfunc.go:397
    refine WE.region ?_
    refine WO.run 2 0 [(13, .int .i64 (a : Int)), (54, .int .i64 (a : Int))] (by kernel_rfl) (by kernel_rfl) ?_
    refine WO.done (by kernel_rfl) ?_
    refine WQ.keep [0, 1, 2, 3, 4, 10, 11, 13, 33] (e' := [(0, .slice (some ⟨b, 0, none⟩) n cap), (1, .int .i64 (a : Int)), (2, .int .i64 (m : Int)), (3, .int .i64 (bb : Int)), (4, .func (.func 50) #[] #[]), (10, .int .i64 (i : Int)), (11, .int .i64 (j : Int)), (13, .int .i64 (a : Int)), (33, .bool false)]) (by kernel_rfl) ?_
    refine WQ.thenN ?_
    refine WE.block ?_
    refine WE.loop (α := Nat × List Nat) (E := fun z => [(0, .slice (some ⟨b, 0, none⟩) n cap), (1, .int .i64 (a : Int)), (2, .int .i64 (m : Int)), (3, .int .i64 (bb : Int)), (4, .func (.func 50) #[] #[]), (10, .int .i64 (i : Int)), (13, .int .i64 (z.1 : Int))]) (I := fun z wk => a ≤ z.1 ∧ z.1 ≤ i - 1 ∧ z.2.length = n ∧ (∀ x, g0 z.2 x = upF (g0 q) a z.1 x) ∧ z.2.Perm q ∧ RowB wk b 53 1 cap (z.2.map cF) ∧ Fr [b] w wk) (m := fun z => i - 1 - z.1) (a, q) [0, 1, 2, 3, 4, 10, 13] (by kernel_rfl) ?_ ?_
    · exact ⟨Nat.le_refl _, by show a ≤ i - 1; omega, hn, fun x => (upF_zero _ _ _).symm, .refl _, HR, HA⟩
    rintro ⟨k, p⟩ wk ⟨hk1, hk2, hpn, hpf, hpp, HR, HA⟩
    dsimp only at hk1 hk2 hpn hpf hpp HR
    refine WE.seq ?_
    refine WE.seq ?_
    -- R9 zsortanyfunc.go:397
    refine WE.region ?_
    refine WO.run 2 0 [(56, .int .i64 (i : Int)), (55, .int .i64 (k : Int))] (by kernel_rfl) (by kernel_rfl) ?_
    refine WO.one (SQ.F 2 (by kernel_rfl)) 57 (.int .i64 (IntKind.i64.wrap ((i : Int) - 1))) (by kernel_rfl) ?_
    refine WO.top (v' := .int .i64 ((i - 1 : Nat) : Int)) (wrap_i64 (by omega) (by omega)) ?_
    refine WO.one (SQ.F 3 (by kernel_rfl)) 58 (.bool (decide (((k : Int) : Int) < ((i - 1 : Nat) : Int)))) (by kernel_rfl) ?_
    refine WO.topP (((k : Int) : Int) < ((i - 1 : Nat) : Int)) ?_ ?_
    · intro h7
      refine WO.done (by kernel_rfl) ?_
      refine WQ.keep [0, 1, 2, 3, 4, 10, 13, 58] (e' := [(0, .slice (some ⟨b, 0, none⟩) n cap), (1, .int .i64 (a : Int)), (2, .int .i64 (m : Int)), (3, .int .i64 (bb : Int)), (4, .func (.func 50) #[] #[]), (10, .int .i64 (i : Int)), (13, .int .i64 (k : Int)), (58, .bool true)]) (by kernel_rfl) ?_
      refine WQ.thenN ?_
      refine WE.condT (by kernel_rfl) ?_
      refine WE.skip ?_
      refine WQ.thenN ?_
      refine WE.seq ?_
      refine WE.block ?_
      -- R11* zsortanyfunc.go:398
      refine WE.draw [.free, .free, .free, .free, .free, .free, .free, .free, .free, .still, .free, .free, .free, .still, .free, .eff, .free, .eff] Same sameR (by kernel_rfl) 18 (Array.replicate 18 false) (by kernel_rfl) rfl ?_
      intro w8 F9 _
      have HR := RowB.keep HR F9 (nin0 _)
      have HA := Fr.step0 HA F9
      refine WO.one (SA.F sameR sameT _ 0 _ (by kernel_rfl)) 61 (.slice (some ⟨b, 0, none⟩) n cap) (by kernel_rfl) ?_
      refine WO.one (SA.F sameR sameT _ 1 _ (by kernel_rfl)) 62 (.int .i64 (k : Int)) (by kernel_rfl) ?_
      refine WO.one (SA.F sameR sameT _ 2 _ (by kernel_rfl)) 63 (.slice (some ⟨b, 0, none⟩) n cap) (by kernel_rfl) ?_
      refine WO.one (SA.F sameR sameT _ 3 _ (by kernel_rfl)) 64 (.int .i64 (k : Int)) (by kernel_rfl) ?_
      refine WO.one (SA.F sameR sameT _ 4 _ (by kernel_rfl)) 65 (.int .i64 (IntKind.i64.wrap ((k : Int) + 1))) (by kernel_rfl) ?_
      refine WO.top (v' := .int .i64 ((k + 1 : Nat) : Int)) (wrap_i64 (by omega) (by omega)) ?_
      refine WO.one (SA.F sameR sameT _ 5 _ (by kernel_rfl)) 66 (.slice (some ⟨b, 0, none⟩) n cap) (by kernel_rfl) ?_
      refine WO.one (SA.F sameR sameT _ 6 _ (by kernel_rfl)) 67 (.int .i64 (k : Int)) (by kernel_rfl) ?_
      refine WO.one (SA.F sameR sameT _ 7 _ (by kernel_rfl)) 68 (.int .i64 (IntKind.i64.wrap ((k : Int) + 1))) (by kernel_rfl) ?_
      refine WO.top (v' := .int .i64 ((k + 1 : Nat) : Int)) (wrap_i64 (by omega) (by omega)) ?_
      refine WO.ixB (SA.F sameR sameT _ 8 _ (by kernel_rfl)) 69 (k + 1) b 0 n 1 ((k + 1 : Nat) : Int) (by kernel_rfl) (by omega) (by omega) (by omega) ?_
      refine WO.ld (SA.S sameR sameT _ 9 _ (by kernel_rfl)) 70 (.float .f64 (g0 p (k + 1))) (by kernel_rfl) (same (HR.at (k + 1) 0 (k + 1) _ (by rw [List.length_map]; have := hpn; omega) (by omega) (by rw [(map_atF p (k + 1) (by have := hpn; omega))]; rfl) (by omega))) ?_
      refine WO.one (SA.F sameR sameT _ 10 _ (by kernel_rfl)) 71 (.slice (some ⟨b, 0, none⟩) n cap) (by kernel_rfl) ?_
      refine WO.one (SA.F sameR sameT _ 11 _ (by kernel_rfl)) 72 (.int .i64 (k : Int)) (by kernel_rfl) ?_
      refine WO.ixB (SA.F sameR sameT _ 12 _ (by kernel_rfl)) 73 k b 0 n 1 (k : Int) (by kernel_rfl) (by omega) (by omega) (by omega) ?_
      refine WO.ld (SA.S sameR sameT _ 13 _ (by kernel_rfl)) 74 (.float .f64 (g0 p k)) (by kernel_rfl) (same (HR.at k 0 k _ (by rw [List.length_map]; have := hpn; omega) (by omega) (by rw [(map_atF p k (by have := hpn; omega))]; rfl) (by omega))) ?_
      refine WO.ixB (SA.F sameR sameT _ 14 _ (by kernel_rfl)) 75 k b 0 n 1 (k : Int) (by kernel_rfl) (by omega) (by omega) (by omega) ?_
      refine WO.stR (SA.E _ 15 _ (by kernel_rfl) rfl) b k k [.float .f64 (g0 p (k + 1))] HR (by rw [List.length_map]; have := hpn; omega) rfl (by omega) rfl (by kernel_rfl) (fun _ _ => trivial) ?_
      intro w10 HR12 F11 _
      have HA := Fr.step HA F11 (inSL (by simp) inS0)
      have HR12 : RowB w10 b 53 1 cap ((p.set k (g0 p (k + 1))).map cF) := by rw [List.map_set]; exact HR12
      refine WO.ixB (SA.F sameR sameT _ 16 _ (by kernel_rfl)) 76 (k + 1) b 0 n 1 ((k + 1 : Nat) : Int) (by kernel_rfl) (by omega) (by omega) (by omega) ?_
      refine WO.stR (SA.E _ 17 _ (by kernel_rfl) rfl) b (k + 1) (k + 1) [.float .f64 (g0 p k)] HR12 (by rw [List.length_map]; have := (show (p.set k (g0 p (k + 1))).length = p.length from List.length_set).trans (hpn); omega) rfl (by omega) rfl (by kernel_rfl) (fun _ _ => trivial) ?_
      intro w13 HR15 F14 _
      have HA := Fr.step HA F14 (inSL (by simp) inS0)
      have HR15 : RowB w13 b 53 1 cap (((p.set k (g0 p (k + 1))).set (k + 1) (g0 p k)).map cF) := by rw [List.map_set]; exact HR15
      refine WO.doneA (by kernel_rfl) ?_
      refine WQ.keep [0, 1, 2, 3, 4, 10, 13, 58] (e' := [(0, .slice (some ⟨b, 0, none⟩) n cap), (1, .int .i64 (a : Int)), (2, .int .i64 (m : Int)), (3, .int .i64 (bb : Int)), (4, .func (.func 50) #[] #[]), (10, .int .i64 (i : Int)), (13, .int .i64 (k : Int)), (58, .bool true)]) (by kernel_rfl) ?_
      refine WQ.blkN ?_
      refine WQ.thenN ?_
      -- R10 zsortanyfunc.go:397
      refine WE.region ?_
      refine WO.run 1 0 [(59, .int .i64 (k : Int))] (by kernel_rfl) (by kernel_rfl) ?_
      refine WO.one (SQ.F 1 (by kernel_rfl)) 60 (.int .i64 (IntKind.i64.wrap ((k : Int) + 1))) (by kernel_rfl) ?_
      refine WO.top (v' := .int .i64 ((k + 1 : Nat) : Int)) (wrap_i64 (by omega) (by omega)) ?_
      refine WO.run 1 2 [(13, .int .i64 ((k + 1 : Nat) : Int))] (by kernel_rfl) (by kernel_rfl) ?_
      refine WO.done (by kernel_rfl) ?_
      refine WQ.keep [0, 1, 2, 3, 4, 10, 13, 58] (e' := [(0, .slice (some ⟨b, 0, none⟩) n cap), (1, .int .i64 (a : Int)), (2, .int .i64 (m : Int)), (3, .int .i64 (bb : Int)), (4, .func (.func 50) #[] #[]), (10, .int .i64 (i : Int)), (13, .int .i64 ((k + 1 : Nat) : Int)), (58, .bool true)]) (by kernel_rfl) ?_
      refine WQ.round ?_
      intro a_ ha_
      refine ⟨(k + 1, (p.set k (g0 p (k + 1))).set (k + 1) (g0 p k)), ?_, ha_.keep [0, 1, 2, 3, 4, 10, 13] (by kernel_rfl), ?_⟩
      · show i - 1 - (k + 1) < i - 1 - k; omega
      · exact ⟨by show a ≤ k + 1; omega, by show k + 1 ≤ i - 1; omega, by simp [hpn], upF_step hpf hk1 (by omega), (PIn.swap (a := 0) (b := n) p (i := k) (j := k + 1) (Nat.zero_le _) (by omega) (Nat.zero_le _) (by omega) (by omega)).perm.trans hpp, HR15, HA⟩
    · intro h7
      refine WO.done (by kernel_rfl) ?_
      refine WQ.keep [0, 1, 2, 3, 4, 10, 13, 58] (e' := [(0, .slice (some ⟨b, 0, none⟩) n cap), (1, .int .i64 (a : Int)), (2, .int .i64 (m : Int)), (3, .int .i64 (bb : Int)), (4, .func (.func 50) #[] #[]), (10, .int .i64 (i : Int)), (13, .int .i64 (k : Int)), (58, .bool false)]) (by kernel_rfl) ?_
      refine WQ.thenN ?_
      refine WE.condF (by kernel_rfl) ?_
      refine WE.exit ?_
      refine WQ.thenE ?_
      refine WQ.thenE ?_
      refine WQ.blkE ?_
      refine WQ.thenN ?_
      refine WE.ret ?_
      refine WQ.thenR ?_
      refine WQ.ret (v := .tuple #[]) (by kernel_rfl) ?_
      have hB' : i < bb → rk q a ≤ rk q i := fun h_ => by
        have e_ : i = j := by omega
        rw [e_]; exact hB (by omega)
      obtain ⟨r1, r2⟩ := one_left (q := q) (p := p) (a := a) (m := m) (bb := bb) (i := i) (k := k) hmb (by omega) hc hs2 (by omega) (by omega) hA hB' (by omega) (hpn.trans hn.symm) hpf hpp
      exact ⟨p, rfl, r1, r2, HR, HA⟩

set_option maxRecDepth 100000 in
set_option maxHeartbeats 1000000 in
theorem sym_r (N : Nat) (ih : ∀ M, M < N → SymOk M) (b n cap a m bb : Nat) (q : List Nat) (w : World) (hN : bb - a = N) (HR : RowB w b 53 1 cap (q.map cF)) (hn : q.length = n) (hall : All q) (hm : n ≤ 1000000) (ham : a < m) (hmb : m < bb) (hbn : bb ≤ n) (hs1 : Srt (rk q) a m) (hs2 : Srt (rk q) m bb) (hm1 : m ≠ a + 1) (hc : bb = m + 1) :
    Calls Try.prog 66 #[.slice (some ⟨b, 0, none⟩) n cap, .int .i64 (a : Int), .int .i64 (m : Int), .int .i64 (bb : Int), .func (.func 50) #[] #[]] w fun e w' => ∃ p, e = .returned (.tuple #[]) ∧ PIn a bb q p ∧ Srt (rk p) a bb ∧ RowB w' b 53 1 cap (p.map cF) ∧ Fr [b] w w' := by
  have HA := Fr.refl [b] w
  refine enter (N := 220) Try.func66 (c := _) rfl (by kernel_rfl) (by kernel_rfl) (e := [(0, .slice (some ⟨b, 0, none⟩) n cap), (1, .int .i64 (a : Int)), (2, .int .i64 (m : Int)), (3, .int .i64 (bb : Int)), (4, .func (.func 50) #[] #[])]) (by kernel_rfl) ?_
  refine WE.seq ?_
  refine WE.seq ?_
  -- R0 zsortanyfunc.go:382
  refine WE.region ?_
  refine WO.run 2 0 [(26, .int .i64 (a : Int)), (25, .int .i64 (m : Int))] (by kernel_rfl) (by kernel_rfl) ?_
  refine WO.one (SQ.F 2 (by kernel_rfl)) 27 (.int .i64 (IntKind.i64.wrap ((m : Int) - (a : Int)))) (by kernel_rfl) ?_
  refine WO.top (v' := .int .i64 ((m - a : Nat) : Int)) (wrap_i64 (by omega) (by omega)) ?_
  refine WO.one (SQ.F 3 (by kernel_rfl)) 28 (.bool (decide ((((m - a : Nat) : Int) : Int) = (1 : Int)))) (by kernel_rfl) ?_
  refine WO.topPF ((((m - a : Nat) : Int) : Int) = (1 : Int)) (by omega) ?_
  refine WO.done (by kernel_rfl) ?_
  refine WQ.keep [0, 1, 2, 3, 4, 28] (e' := [(0, .slice (some ⟨b, 0, none⟩) n cap), (1, .int .i64 (a : Int)), (2, .int .i64 (m : Int)), (3, .int .i64 (bb : Int)), (4, .func (.func 50) #[] #[]), (28, .bool false)]) (by kernel_rfl) ?_
  refine WQ.thenN ?_
  refine WE.condF (by kernel_rfl) ?_
  refine WE.skip ?_
  refine WQ.thenN ?_
  refine WE.seq ?_
  refine WE.seq ?_
  -- R12 zsortanyfunc.go:406
  refine WE.region ?_
  refine WO.run 2 0 [(78, .int .i64 (m : Int)), (77, .int .i64 (bb : Int))] (by kernel_rfl) (by kernel_rfl) ?_
  refine WO.one (SQ.F 2 (by kernel_rfl)) 79 (.int .i64 (IntKind.i64.wrap ((bb : Int) - (m : Int)))) (by kernel_rfl) ?_
  refine WO.top (v' := .int .i64 ((bb - m : Nat) : Int)) (wrap_i64 (by omega) (by omega)) ?_
  refine WO.one (SQ.F 3 (by kernel_rfl)) 80 (.bool (decide ((((bb - m : Nat) : Int) : Int) = (1 : Int)))) (by kernel_rfl) ?_
  refine WO.topPT ((((bb - m : Nat) : Int) : Int) = (1 : Int)) (by omega) ?_
  refine WO.done (by kernel_rfl) ?_
  refine WQ.keep [0, 1, 2, 3, 4, 28, 80] (e' := [(0, .slice (some ⟨b, 0, none⟩) n cap), (1, .int .i64 (a : Int)), (2, .int .i64 (m : Int)), (3, .int .i64 (bb : Int)), (4, .func (.func 50) #[] #[]), (28, .bool false), (80, .bool true)]) (by kernel_rfl) ?_
  refine WQ.thenN ?_
  refine WE.condT (by kernel_rfl) ?_
  refine WE.seq ?_
  -- R13 zsortanyfunc.go:410
  refine WE.region ?_
  refine WO.run 2 0 [(14, .int .i64 (a : Int)), (81, .int .i64 (a : Int))] (by kernel_rfl) (by kernel_rfl) ?_
  refine WO.done (by kernel_rfl) ?_
  refine WQ.keep [0, 1, 2, 3, 4, 14, 28, 80] (e' := [(0, .slice (some ⟨b, 0, none⟩) n cap), (1, .int .i64 (a : Int)), (2, .int .i64 (m : Int)), (3, .int .i64 (bb : Int)), (4, .func (.func 50) #[] #[]), (14, .int .i64 (a : Int)), (28, .bool false), (80, .bool true)]) (by kernel_rfl) ?_
  refine WQ.thenN ?_
  refine WE.seq ?_
  -- R14 zsortanyfunc.go:411
  refine WE.region ?_
  refine WO.run 2 0 [(15, .int .i64 (m : Int)), (82, .int .i64 (m : Int))] (by kernel_rfl) (by kernel_rfl) ?_
  refine WO.done (by kernel_rfl) ?_
  refine WQ.keep [0, 1, 2, 3, 4, 14, 15, 28, 80] (e' := [(0, .slice (some ⟨b, 0, none⟩) n cap), (1, .int .i64 (a : Int)), (2, .int .i64 (m : Int)), (3, .int .i64 (bb : Int)), (4, .func (.func 50) #[] #[]), (14, .int .i64 (a : Int)), (15, .int .i64 (m : Int)), (28, .bool false), (80, .bool true)]) (by kernel_rfl) ?_
  refine WQ.thenN ?_
  refine WE.seq ?_
  refine WE.block ?_
  refine WE.loop (α := Nat × Nat) (E := fun z => [(0, .slice (some ⟨b, 0, none⟩) n cap), (1, .int .i64 (a : Int)), (2, .int .i64 (m : Int)), (3, .int .i64 (bb : Int)), (4, .func (.func 50) #[] #[]), (14, .int .i64 (z.1 : Int)), (15, .int .i64 (z.2 : Int))]) (I := fun z wr => a ≤ z.1 ∧ z.1 ≤ z.2 ∧ z.2 ≤ m ∧ (a < z.1 → rk q (z.1 - 1) ≤ rk q m) ∧ (z.2 < m → rk q m < rk q z.2) ∧ RowB wr b 53 1 cap (q.map cF) ∧ Fr [b] w wr) (m := fun z => z.2 - z.1) (a, m) [0, 1, 2, 3, 4, 14, 15] (by kernel_rfl) ?_ ?_
  · exact ⟨Nat.le_refl _, by show a ≤ m; omega, Nat.le_refl _, fun h => absurd h (Nat.lt_irrefl _), fun h => absurd h (Nat.lt_irrefl _), HR, HA⟩
  rintro ⟨i, j⟩ wr ⟨hlo, hij, hhi, hA, hB, HR, HA⟩
  dsimp only at hlo hij hhi hA hB
  refine WE.seq ?_
  refine WE.seq ?_
  -- R15 zsortanyfunc.go:412
  refine WE.region ?_
  refine WO.run 2 0 [(84, .int .i64 (j : Int)), (83, .int .i64 (i : Int))] (by kernel_rfl) (by kernel_rfl) ?_
  refine WO.one (SQ.F 2 (by kernel_rfl)) 85 (.bool (decide (((i : Int) : Int) < (j : Int)))) (by kernel_rfl) ?_
  refine WO.topP (((i : Int) : Int) < (j : Int)) ?_ ?_
  · intro h1
    refine WO.done (by kernel_rfl) ?_
    refine WQ.keep [0, 1, 2, 3, 4, 14, 15, 85] (e' := [(0, .slice (some ⟨b, 0, none⟩) n cap), (1, .int .i64 (a : Int)), (2, .int .i64 (m : Int)), (3, .int .i64 (bb : Int)), (4, .func (.func 50) #[] #[]), (14, .int .i64 (i : Int)), (15, .int .i64 (j : Int)), (85, .bool true)]) (by kernel_rfl) ?_
    refine WQ.thenN ?_
    refine WE.condT (by kernel_rfl) ?_
    refine WE.skip ?_
    refine WQ.thenN ?_
    refine WE.block ?_
    refine WE.seq ?_
    -- R16 zsortanyfunc.go:413
    refine WE.region ?_
    refine WO.run 2 0 [(87, .int .i64 (j : Int)), (86, .int .i64 (i : Int))] (by kernel_rfl) (by kernel_rfl) ?_
    refine WO.one (SQ.F 2 (by kernel_rfl)) 88 (.int .i64 (IntKind.i64.wrap ((i : Int) + (j : Int)))) (by kernel_rfl) ?_
    refine WO.top (v' := .int .i64 ((i + j : Nat) : Int)) (wrap_i64 (by omega) (by omega)) ?_
    refine WO.one (SQ.F 3 (by kernel_rfl)) 89 (.int .u64 (IntKind.u64.wrap ((i + j : Nat) : Int))) (by kernel_rfl) ?_
    refine WO.top (v' := .int .u64 ((i + j : Nat) : Int)) (wrap_u64 rfl (by omega)) ?_
    refine WO.one (SQ.F 4 (by kernel_rfl)) 90 (.int .u64 (Int.fdiv ((i + j : Nat) : Int) (2 ^ 1))) (by kernel_rfl) ?_
    refine WO.top (v' := .int .u64 (((i + j) / 2 : Nat) : Int)) (congrArg (Value.int .u64) (half_nat _)) ?_
    refine WO.one (SQ.F 5 (by kernel_rfl)) 91 (.int .i64 (IntKind.i64.wrap (((i + j) / 2 : Nat) : Int))) (by kernel_rfl) ?_
    refine WO.top (v' := .int .i64 (((i + j) / 2 : Nat) : Int)) (wrap_i64 rfl (by omega)) ?_
    refine WO.run 1 6 [(16, .int .i64 (((i + j) / 2 : Nat) : Int))] (by kernel_rfl) (by kernel_rfl) ?_
    refine WO.done (by kernel_rfl) ?_
    refine WQ.keep [0, 1, 2, 3, 4, 14, 15, 16, 85] (e' := [(0, .slice (some ⟨b, 0, none⟩) n cap), (1, .int .i64 (a : Int)), (2, .int .i64 (m : Int)), (3, .int .i64 (bb : Int)), (4, .func (.func 50) #[] #[]), (14, .int .i64 (i : Int)), (15, .int .i64 (j : Int)), (16, .int .i64 (((i + j) / 2 : Nat) : Int)), (85, .bool true)]) (by kernel_rfl) ?_
    refine WQ.thenN ?_
    refine WE.seq ?_
    -- R17* zsortanyfunc.go:414
    refine WE.draw [.free, .free, .free, .free, .still, .free, .free, .free, .still, .eff, .free, .free] Same sameR (by kernel_rfl) 12 (Array.replicate 12 false) (by kernel_rfl) rfl ?_
    intro w2 F3 _
    have HR := RowB.keep HR F3 (nin0 _)
    have HA := Fr.step0 HA F3
    refine WO.one (SA.F sameR sameT _ 0 _ (by kernel_rfl)) 92 (.func (.func 50) #[] #[]) (by kernel_rfl) ?_
    refine WO.one (SA.F sameR sameT _ 1 _ (by kernel_rfl)) 93 (.slice (some ⟨b, 0, none⟩) n cap) (by kernel_rfl) ?_
    refine WO.one (SA.F sameR sameT _ 2 _ (by kernel_rfl)) 94 (.int .i64 (m : Int)) (by kernel_rfl) ?_
    refine WO.ixB (SA.F sameR sameT _ 3 _ (by kernel_rfl)) 95 m b 0 n 1 (m : Int) (by kernel_rfl) (by omega) (by omega) (by omega) ?_
    refine WO.ld (SA.S sameR sameT _ 4 _ (by kernel_rfl)) 96 (.float .f64 (g0 q m)) (by kernel_rfl) (same (HR.at m 0 m _ (by rw [List.length_map]; have := hn; omega) (by omega) (by rw [(map_atF q m (by have := hn; omega))]; rfl) (by omega))) ?_
    refine WO.one (SA.F sameR sameT _ 5 _ (by kernel_rfl)) 97 (.slice (some ⟨b, 0, none⟩) n cap) (by kernel_rfl) ?_
    refine WO.one (SA.F sameR sameT _ 6 _ (by kernel_rfl)) 98 (.int .i64 (((i + j) / 2 : Nat) : Int)) (by kernel_rfl) ?_
    refine WO.ixB (SA.F sameR sameT _ 7 _ (by kernel_rfl)) 99 ((i + j) / 2) b 0 n 1 (((i + j) / 2 : Nat) : Int) (by kernel_rfl) (by omega) (by omega) (by omega) ?_
    refine WO.ld (SA.S sameR sameT _ 8 _ (by kernel_rfl)) 100 (.float .f64 (g0 q ((i + j) / 2))) (by kernel_rfl) (same (HR.at ((i + j) / 2) 0 ((i + j) / 2) _ (by rw [List.length_map]; have := hn; omega) (by omega) (by rw [(map_atF q ((i + j) / 2) (by have := hn; omega))]; rfl) (by omega))) ?_
    refine WO.call (SA.E _ 9 _ (by kernel_rfl) rfl) 101 (by kernel_rfl) (cmp_f (g0 q m) (g0 q ((i + j) / 2)) _ (hall _ (by omega)) (hall _ (by omega))) ?_
    rintro _ w4 ⟨rfl, F5⟩
    refine ⟨_, rfl, trivial, ?_⟩
    have HR := RowB.keep HR F5 (nin0 _)
    have HA := Fr.step0 HA F5
    refine WO.one (SA.F sameR sameT _ 10 _ (by kernel_rfl)) 102 (.bool (decide ((cmpZ (g0 q m) (g0 q ((i + j) / 2)) : Int) < 0))) (by kernel_rfl) ?_
    refine WO.topP ((cmpZ (g0 q m) (g0 q ((i + j) / 2)) : Int) < 0) ?_ ?_
    · intro h6
      refine WO.one (SA.F sameR sameT _ 11 _ (by kernel_rfl)) 103 (.bool false) (by kernel_rfl) ?_
      refine WO.doneA (by kernel_rfl) ?_
      refine WQ.keep [0, 1, 2, 3, 4, 14, 15, 16, 85, 103] (e' := [(0, .slice (some ⟨b, 0, none⟩) n cap), (1, .int .i64 (a : Int)), (2, .int .i64 (m : Int)), (3, .int .i64 (bb : Int)), (4, .func (.func 50) #[] #[]), (14, .int .i64 (i : Int)), (15, .int .i64 (j : Int)), (16, .int .i64 (((i + j) / 2 : Nat) : Int)), (85, .bool true), (103, .bool false)]) (by kernel_rfl) ?_
      refine WQ.thenN ?_
      refine WE.condF (by kernel_rfl) ?_
      -- R19 zsortanyfunc.go:417
      refine WE.region ?_
      refine WO.run 2 0 [(15, .int .i64 (((i + j) / 2 : Nat) : Int)), (106, .int .i64 (((i + j) / 2 : Nat) : Int))] (by kernel_rfl) (by kernel_rfl) ?_
      refine WO.done (by kernel_rfl) ?_
      refine WQ.keep [0, 1, 2, 3, 4, 14, 15, 16, 85, 103] (e' := [(0, .slice (some ⟨b, 0, none⟩) n cap), (1, .int .i64 (a : Int)), (2, .int .i64 (m : Int)), (3, .int .i64 (bb : Int)), (4, .func (.func 50) #[] #[]), (14, .int .i64 (i : Int)), (15, .int .i64 (((i + j) / 2 : Nat) : Int)), (16, .int .i64 (((i + j) / 2 : Nat) : Int)), (85, .bool true), (103, .bool false)]) (by kernel_rfl) ?_
      refine WQ.blkN ?_
      refine WQ.round ?_
      intro a_ ha_
      refine ⟨(i, (i + j) / 2), ?_, ha_.keep [0, 1, 2, 3, 4, 14, 15] (by kernel_rfl), ?_⟩
      · show (i + j) / 2 - i < j - i; omega
      · exact ⟨hlo, by show i ≤ (i + j) / 2; omega, by show (i + j) / 2 ≤ m; omega, hA, fun _ => (cmpZ_rk _ _ _).1 h6, HR, HA⟩
    · intro h6
      refine WO.one (SA.F sameR sameT _ 11 _ (by kernel_rfl)) 103 (.bool true) (by kernel_rfl) ?_
      refine WO.doneA (by kernel_rfl) ?_
      refine WQ.keep [0, 1, 2, 3, 4, 14, 15, 16, 85, 103] (e' := [(0, .slice (some ⟨b, 0, none⟩) n cap), (1, .int .i64 (a : Int)), (2, .int .i64 (m : Int)), (3, .int .i64 (bb : Int)), (4, .func (.func 50) #[] #[]), (14, .int .i64 (i : Int)), (15, .int .i64 (j : Int)), (16, .int .i64 (((i + j) / 2 : Nat) : Int)), (85, .bool true), (103, .bool true)]) (by kernel_rfl) ?_
      refine WQ.thenN ?_
      refine WE.condT (by kernel_rfl) ?_
      -- R18 zsortanyfunc.go:415
      refine WE.region ?_
      refine WO.run 1 0 [(104, .int .i64 (((i + j) / 2 : Nat) : Int))] (by kernel_rfl) (by kernel_rfl) ?_
      refine WO.one (SQ.F 1 (by kernel_rfl)) 105 (.int .i64 (IntKind.i64.wrap ((((i + j) / 2 : Nat) : Int) + 1))) (by kernel_rfl) ?_
      refine WO.top (v' := .int .i64 ((((i + j) / 2) + 1 : Nat) : Int)) (wrap_i64 (by omega) (by omega)) ?_
      refine WO.run 1 2 [(14, .int .i64 ((((i + j) / 2) + 1 : Nat) : Int))] (by kernel_rfl) (by kernel_rfl) ?_
      refine WO.done (by kernel_rfl) ?_
      refine WQ.keep [0, 1, 2, 3, 4, 14, 15, 16, 85, 103] (e' := [(0, .slice (some ⟨b, 0, none⟩) n cap), (1, .int .i64 (a : Int)), (2, .int .i64 (m : Int)), (3, .int .i64 (bb : Int)), (4, .func (.func 50) #[] #[]), (14, .int .i64 ((((i + j) / 2) + 1 : Nat) : Int)), (15, .int .i64 (j : Int)), (16, .int .i64 (((i + j) / 2 : Nat) : Int)), (85, .bool true), (103, .bool true)]) (by kernel_rfl) ?_
      refine WQ.blkN ?_
      refine WQ.round ?_
      intro a_ ha_
      refine ⟨((i + j) / 2 + 1, j), ?_, ha_.keep [0, 1, 2, 3, 4, 14, 15] (by kernel_rfl), ?_⟩
      · show j - ((i + j) / 2 + 1) < j - i; omega
      · exact ⟨by show a ≤ (i + j) / 2 + 1; omega, by show (i + j) / 2 + 1 ≤ j; omega, hhi, fun _ => Nat.le_of_not_lt (fun h_ => h6 ((cmpZ_rk _ _ _).2 h_)), hB, HR, HA⟩
  · intro h1
    refine WO.done (by kernel_rfl) ?_
    refine WQ.keep [0, 1, 2, 3, 4, 14, 15, 85] (e' := [(0, .slice (some ⟨b, 0, none⟩) n cap), (1, .int .i64 (a : Int)), (2, .int .i64 (m : Int)), (3, .int .i64 (bb : Int)), (4, .func (.func 50) #[] #[]), (14, .int .i64 (i : Int)), (15, .int .i64 (j : Int)), (85, .bool false)]) (by kernel_rfl) ?_
    refine WQ.thenN ?_
    refine WE.condF (by kernel_rfl) ?_
    refine WE.exit ?_
    refine WQ.thenE ?_
    refine WQ.thenE ?_
    refine WQ.blkE ?_
    refine WQ.thenN ?_
    refine WE.seq ?_
    refine WE.seq ?_
    -- R20 zsortanyfunc.go:421
    refine WE.region ?_
    refine WO.run 2 0 [(17, .int .i64 (m : Int)), (107, .int .i64 (m : Int))] (by kernel_rfl) (by kernel_rfl) ?_
    refine WO.done (by kernel_rfl) ?_
    refine WQ.keep [0, 1, 2, 3, 4, 14, 15, 17, 85] (e' := [(0, .slice (some ⟨b, 0, none⟩) n cap), (1, .int .i64 (a : Int)), (2, .int .i64 (m : Int)), (3, .int .i64 (bb : Int)), (4, .func (.func 50) #[] #[]), (14, .int .i64 (i : Int)), (15, .int .i64 (j : Int)), (17, .int .i64 (m : Int)), (85, .bool false)]) (by kernel_rfl) ?_
    refine WQ.thenN ?_
    refine WE.block ?_
    refine WE.loop (α := Nat × List Nat) (E := fun z => [(0, .slice (some ⟨b, 0, none⟩) n cap), (1, .int .i64 (a : Int)), (2, .int .i64 (m : Int)), (3, .int .i64 (bb : Int)), (4, .func (.func 50) #[] #[]), (14, .int .i64 (i : Int)), (17, .int .i64 (z.1 : Int))]) (I := fun z wk => i ≤ z.1 ∧ z.1 ≤ m ∧ z.2.length = n ∧ (∀ x, g0 z.2 x = dnF (g0 q) m z.1 x) ∧ z.2.Perm q ∧ RowB wk b 53 1 cap (z.2.map cF) ∧ Fr [b] w wk) (m := fun z => z.1) (m, q) [0, 1, 2, 3, 4, 14, 17] (by kernel_rfl) ?_ ?_
    · exact ⟨by show i ≤ m; omega, Nat.le_refl _, hn, fun x => (dnF_zero _ _ _).symm, .refl _, HR, HA⟩
    rintro ⟨k, p⟩ wk ⟨hk1, hk2, hpn, hpf, hpp, HR, HA⟩
    dsimp only at hk1 hk2 hpn hpf hpp HR
    refine WE.seq ?_
    refine WE.seq ?_
    -- R21 zsortanyfunc.go:421
    refine WE.region ?_
    refine WO.run 2 0 [(109, .int .i64 (i : Int)), (108, .int .i64 (k : Int))] (by kernel_rfl) (by kernel_rfl) ?_
    refine WO.one (SQ.F 2 (by kernel_rfl)) 110 (.bool (decide (((k : Int) : Int) > (i : Int)))) (by kernel_rfl) ?_
    refine WO.topP (((k : Int) : Int) > (i : Int)) ?_ ?_
    · intro h7
      refine WO.done (by kernel_rfl) ?_
      refine WQ.keep [0, 1, 2, 3, 4, 14, 17, 110] (e' := [(0, .slice (some ⟨b, 0, none⟩) n cap), (1, .int .i64 (a : Int)), (2, .int .i64 (m : Int)), (3, .int .i64 (bb : Int)), (4, .func (.func 50) #[] #[]), (14, .int .i64 (i : Int)), (17, .int .i64 (k : Int)), (110, .bool true)]) (by kernel_rfl) ?_
      refine WQ.thenN ?_
      refine WE.condT (by kernel_rfl) ?_
      refine WE.skip ?_
      refine WQ.thenN ?_
      refine WE.seq ?_
      refine WE.block ?_
      -- R23* zsortanyfunc.go:422
      refine WE.draw [.free, .free, .free, .free, .free, .free, .free, .free, .free, .still, .free, .free, .free, .still, .free, .eff, .free, .eff] Same sameR (by kernel_rfl) 18 (Array.replicate 18 false) (by kernel_rfl) rfl ?_
      intro w8 F9 _
      have HR := RowB.keep HR F9 (nin0 _)
      have HA := Fr.step0 HA F9
      refine WO.one (SA.F sameR sameT _ 0 _ (by kernel_rfl)) 113 (.slice (some ⟨b, 0, none⟩) n cap) (by kernel_rfl) ?_
      refine WO.one (SA.F sameR sameT _ 1 _ (by kernel_rfl)) 114 (.int .i64 (k : Int)) (by kernel_rfl) ?_
      refine WO.one (SA.F sameR sameT _ 2 _ (by kernel_rfl)) 115 (.slice (some ⟨b, 0, none⟩) n cap) (by kernel_rfl) ?_
      refine WO.one (SA.F sameR sameT _ 3 _ (by kernel_rfl)) 116 (.int .i64 (k : Int)) (by kernel_rfl) ?_
      refine WO.one (SA.F sameR sameT _ 4 _ (by kernel_rfl)) 117 (.int .i64 (IntKind.i64.wrap ((k : Int) - 1))) (by kernel_rfl) ?_
      refine WO.top (v' := .int .i64 ((k - 1 : Nat) : Int)) (wrap_i64 (by omega) (by omega)) ?_
      refine WO.one (SA.F sameR sameT _ 5 _ (by kernel_rfl)) 118 (.slice (some ⟨b, 0, none⟩) n cap) (by kernel_rfl) ?_
      refine WO.one (SA.F sameR sameT _ 6 _ (by kernel_rfl)) 119 (.int .i64 (k : Int)) (by kernel_rfl) ?_
      refine WO.one (SA.F sameR sameT _ 7 _ (by kernel_rfl)) 120 (.int .i64 (IntKind.i64.wrap ((k : Int) - 1))) (by kernel_rfl) ?_
      refine WO.top (v' := .int .i64 ((k - 1 : Nat) : Int)) (wrap_i64 (by omega) (by omega)) ?_
      refine WO.ixB (SA.F sameR sameT _ 8 _ (by kernel_rfl)) 121 (k - 1) b 0 n 1 ((k - 1 : Nat) : Int) (by kernel_rfl) (by omega) (by omega) (by omega) ?_
      refine WO.ld (SA.S sameR sameT _ 9 _ (by kernel_rfl)) 122 (.float .f64 (g0 p (k - 1))) (by kernel_rfl) (same (HR.at (k - 1) 0 (k - 1) _ (by rw [List.length_map]; have := hpn; omega) (by omega) (by rw [(map_atF p (k - 1) (by have := hpn; omega))]; rfl) (by omega))) ?_
      refine WO.one (SA.F sameR sameT _ 10 _ (by kernel_rfl)) 123 (.slice (some ⟨b, 0, none⟩) n cap) (by kernel_rfl) ?_
      refine WO.one (SA.F sameR sameT _ 11 _ (by kernel_rfl)) 124 (.int .i64 (k : Int)) (by kernel_rfl) ?_
      refine WO.ixB (SA.F sameR sameT _ 12 _ (by kernel_rfl)) 125 k b 0 n 1 (k : Int) (by kernel_rfl) (by omega) (by omega) (by omega) ?_
      refine WO.ld (SA.S sameR sameT _ 13 _ (by kernel_rfl)) 126 (.float .f64 (g0 p k)) (by kernel_rfl) (same (HR.at k 0 k _ (by rw [List.length_map]; have := hpn; omega) (by omega) (by rw [(map_atF p k (by have := hpn; omega))]; rfl) (by omega))) ?_
      refine WO.ixB (SA.F sameR sameT _ 14 _ (by kernel_rfl)) 127 k b 0 n 1 (k : Int) (by kernel_rfl) (by omega) (by omega) (by omega) ?_
      refine WO.stR (SA.E _ 15 _ (by kernel_rfl) rfl) b k k [.float .f64 (g0 p (k - 1))] HR (by rw [List.length_map]; have := hpn; omega) rfl (by omega) rfl (by kernel_rfl) (fun _ _ => trivial) ?_
      intro w10 HR12 F11 _
      have HA := Fr.step HA F11 (inSL (by simp) inS0)
      have HR12 : RowB w10 b 53 1 cap ((p.set k (g0 p (k - 1))).map cF) := by rw [List.map_set]; exact HR12
      refine WO.ixB (SA.F sameR sameT _ 16 _ (by kernel_rfl)) 128 (k - 1) b 0 n 1 ((k - 1 : Nat) : Int) (by kernel_rfl) (by omega) (by omega) (by omega) ?_
      refine WO.stR (SA.E _ 17 _ (by kernel_rfl) rfl) b (k - 1) (k - 1) [.float .f64 (g0 p k)] HR12 (by rw [List.length_map]; have := (show (p.set k (g0 p (k - 1))).length = p.length from List.length_set).trans (hpn); omega) rfl (by omega) rfl (by kernel_rfl) (fun _ _ => trivial) ?_
      intro w13 HR15 F14 _
      have HA := Fr.step HA F14 (inSL (by simp) inS0)
      have HR15 : RowB w13 b 53 1 cap (((p.set k (g0 p (k - 1))).set (k - 1) (g0 p k)).map cF) := by rw [List.map_set]; exact HR15
      refine WO.doneA (by kernel_rfl) ?_
      refine WQ.keep [0, 1, 2, 3, 4, 14, 17, 110] (e' := [(0, .slice (some ⟨b, 0, none⟩) n cap), (1, .int .i64 (a : Int)), (2, .int .i64 (m : Int)), (3, .int .i64 (bb : Int)), (4, .func (.func 50) #[] #[]), (14, .int .i64 (i : Int)), (17, .int .i64 (k : Int)), (110, .bool true)]) (by kernel_rfl) ?_
      refine WQ.blkN ?_
      refine WQ.thenN ?_
      -- R22 zsortanyfunc.go:421
      refine WE.region ?_
      refine WO.run 1 0 [(111, .int .i64 (k : Int))] (by kernel_rfl) (by kernel_rfl) ?_
      refine WO.one (SQ.F 1 (by kernel_rfl)) 112 (.int .i64 (IntKind.i64.wrap ((k : Int) - 1))) (by kernel_rfl) ?_
      refine WO.top (v' := .int .i64 ((k - 1 : Nat) : Int)) (wrap_i64 (by omega) (by omega)) ?_
      refine WO.run 1 2 [(17, .int .i64 ((k - 1 : Nat) : Int))] (by kernel_rfl) (by kernel_rfl) ?_
      refine WO.done (by kernel_rfl) ?_
      refine WQ.keep [0, 1, 2, 3, 4, 14, 17, 110] (e' := [(0, .slice (some ⟨b, 0, none⟩) n cap), (1, .int .i64 (a : Int)), (2, .int .i64 (m : Int)), (3, .int .i64 (bb : Int)), (4, .func (.func 50) #[] #[]), (14, .int .i64 (i : Int)), (17, .int .i64 ((k - 1 : Nat) : Int)), (110, .bool true)]) (by kernel_rfl) ?_
      refine WQ.round ?_
      intro a_ ha_
      refine ⟨(k - 1, (p.set k (g0 p (k - 1))).set (k - 1) (g0 p k)), ?_, ha_.keep [0, 1, 2, 3, 4, 14, 17] (by kernel_rfl), ?_⟩
      · show k - 1 < k; omega
      · exact ⟨by show i ≤ k - 1; omega, by show k - 1 ≤ m; omega, by simp [hpn], dnF_step hpf hk2 (by omega) (by omega), (PIn.swap (a := 0) (b := n) p (i := k) (j := k - 1) (Nat.zero_le _) (by omega) (Nat.zero_le _) (by omega) (by omega)).perm.trans hpp, HR15, HA⟩
    · intro h7
      refine WO.done (by kernel_rfl) ?_
      refine WQ.keep [0, 1, 2, 3, 4, 14, 17, 110] (e' := [(0, .slice (some ⟨b, 0, none⟩) n cap), (1, .int .i64 (a : Int)), (2, .int .i64 (m : Int)), (3, .int .i64 (bb : Int)), (4, .func (.func 50) #[] #[]), (14, .int .i64 (i : Int)), (17, .int .i64 (k : Int)), (110, .bool false)]) (by kernel_rfl) ?_
      refine WQ.thenN ?_
      refine WE.condF (by kernel_rfl) ?_
      refine WE.exit ?_
      refine WQ.thenE ?_
      refine WQ.thenE ?_
      refine WQ.blkE ?_
      refine WQ.thenN ?_
      refine WE.ret ?_
      refine WQ.thenR ?_
      refine WQ.ret (v := .tuple #[]) (by kernel_rfl) ?_
      have hB' : i < m → rk q m < rk q i := fun h_ => by
        have e_ : i = j := by omega
        rw [e_]; exact hB (by omega)
      obtain ⟨r1, r2⟩ := one_right (q := q) (p := p) (a := a) (m := m) (bb := bb) (i := i) (k := k) ham (by omega) hc hs1 (by omega) (by omega) hA hB' (by omega) (hpn.trans hn.symm) hpf hpp
      exact ⟨p, rfl, r1, r2, HR, HA⟩
end Go.Proofs.Ytjnjkgoofkgiiaa.Edge
