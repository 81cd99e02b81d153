/- Layer 2's walks: the stable sort. -/
import Derived.Test.YtjnjkgoofkgiiaaEdgeM
set_option linter.unusedVariables false
set_option linter.unusedSimpArgs false
namespace Go.Proofs.Ytjnjkgoofkgiiaa.Edge
open Go Go.RowKit Go.Proofs.Ytjnjkgoofkgiiaa Go.Proofs.Ytjnjkgoofkgiiaa.Eng Go.Proofs.YtjnjkgoofkgiiaaW.PrintWords
theorem isort_le {a b : Nat} {q : List Nat} (hab : a ≤ b) (hb : b ≤ q.length) : Srt (rk (outer a b (b - (a + 1)) (a + 1) q)) a b ∧ PIn a b q (outer a b (b - (a + 1)) (a + 1) q) := by
  by_cases h : a < b
  · exact isort_ok h hb
  · rw [show b - (a + 1) = 0 by omega, outer]
    exact ⟨fun i j h1 h2 h3 => by omega, PIn.refl _ _ _⟩
theorem blk_more {p p2 : List Nat} {a e : Nat} (hB : ∀ x y, x < y → y < a → x / 20 = y / 20 → rk p x ≤ rk p y) (hS : Srt (rk p2) a e) (hP : PIn a e p p2) (ha : a % 20 = 0) (he : e ≤ a + 20) :
    ∀ x y, x < y → y < e → x / 20 = y / 20 → rk p2 x ≤ rk p2 y := by
  intro x y h1 h2 h3
  by_cases hy : y < a
  · rw [rk_out hP (.inl (by omega)), rk_out hP (.inl hy)]
    exact hB x y h1 hy h3
  · exact hS x y (by omega) h1 h2
theorem mrg_more {p p3 : List Nat} {a e n M s : Nat} (hB : ∀ x y, x < y → y < n → (y < a → x / M = y / M → rk p x ≤ rk p y) ∧ (a ≤ x → x / s = y / s → rk p x ≤ rk p y)) (hS : Srt (rk p3) a e) (hP : PIn a e p p3) (ha : a ≤ e) (hen : e ≤ n) (_h : 0 ≤ M) (_k : 0 ≤ s)
    (h1 : ∀ x y, a ≤ y ∧ x / M = y / M → a ≤ x) : ∀ x y, x < y → y < n → (y < e → x / M = y / M → rk p3 x ≤ rk p3 y) ∧ (e ≤ x → x / s = y / s → rk p3 x ≤ rk p3 y) := by
  intro x y h3 h4
  refine ⟨fun h5 h6 => ?_, fun h5 h6 => ?_⟩
  · by_cases hy : y < a
    · rw [rk_out hP (.inl (by omega)), rk_out hP (.inl hy)]
      exact (hB x y h3 h4).1 hy h6
    · exact hS x y (h1 x y ⟨by omega, h6⟩) h3 h5
  · rw [rk_out hP (.inr h5), rk_out hP (.inr (by omega))]
    exact (hB x y h3 h4).2 (by omega) h6
set_option maxRecDepth 100000 in
set_option maxHeartbeats 2000000 in
theorem stable_n (b n cap : Nat) (q : List Nat) (w : World) (HR : RowB w b 53 1 cap (q.map cF)) (hn : q.length = n) (hall : All q) (hm : n ≤ 100) :
    Calls Try.prog 64 #[.slice (some ⟨b, 0, none⟩) n cap, .int .i64 (n : Int), .func (.func 50) #[] #[]] w fun e w' => ∃ p, e = .returned (.tuple #[]) ∧ PIn 0 n q p ∧ Srt (rk p) 0 n ∧ RowB w' b 53 1 cap (p.map cF) ∧ Fr [b] w w' := by
  have HA := Fr.refl [b] w
  refine enter (N := 63) Try.func64 (c := _) rfl (by kernel_rfl) (by kernel_rfl) (e := [(0, .slice (some ⟨b, 0, none⟩) n cap), (1, .int .i64 (n : Int)), (2, .func (.func 50) #[] #[])]) (by kernel_rfl) ?_
  refine WE.seq ?_
  -- R0 zsortanyfunc.go:336
  refine WE.region ?_
  refine WO.run 1 0 [(6, .int .i64 20)] (by kernel_rfl) (by kernel_rfl) ?_
  refine WO.done (by kernel_rfl) ?_
  refine WQ.keep [0, 1, 2, 6] (e' := [(0, .slice (some ⟨b, 0, none⟩) n cap), (1, .int .i64 (n : Int)), (2, .func (.func 50) #[] #[]), (6, .int .i64 20)]) (by kernel_rfl) ?_
  refine WQ.thenN ?_
  refine WE.seq ?_
  -- R1 zsortanyfunc.go:337
  refine WE.region ?_
  refine WO.run 3 0 [(8, .int .i64 20), (7, .int .i64 0), (10, .int .i64 20)] (by kernel_rfl) (by kernel_rfl) ?_
  refine WO.done (by kernel_rfl) ?_
  refine WQ.keep [0, 1, 2, 6, 7, 8] (e' := [(0, .slice (some ⟨b, 0, none⟩) n cap), (1, .int .i64 (n : Int)), (2, .func (.func 50) #[] #[]), (6, .int .i64 20), (7, .int .i64 0), (8, .int .i64 20)]) (by kernel_rfl) ?_
  refine WQ.thenN ?_
  refine WE.seq ?_
  refine WE.block ?_
  refine WE.loop (α := Nat × List Nat) (E := fun z => [(0, .slice (some ⟨b, 0, none⟩) n cap), (1, .int .i64 (n : Int)), (2, .func (.func 50) #[] #[]), (6, .int .i64 20), (7, .int .i64 (z.1 : Int)), (8, .int .i64 ((z.1 + 20 : Nat) : Int))]) (I := fun z wr => z.1 ≤ n ∧ z.1 % 20 = 0 ∧ PIn 0 n q z.2 ∧ (∀ x y, x < y → y < z.1 → x / 20 = y / 20 → rk z.2 x ≤ rk z.2 y) ∧ RowB wr b 53 1 cap (z.2.map cF) ∧ Fr [b] w wr) (m := fun z => n - z.1) (0, q) [0, 1, 2, 6, 7, 8] (by kernel_rfl) ?_ ?_
  · exact ⟨Nat.zero_le _, rfl, PIn.refl _ _ _, fun x y _ h => absurd h (Nat.not_lt_zero _), HR, HA⟩
  rintro ⟨a, p⟩ wr ⟨hk, ha20, hP, hB, HR, HA⟩
  dsimp only at hk ha20 hP hB HR
  refine WE.seq ?_
  refine WE.seq ?_
  -- R2 zsortanyfunc.go:338
  refine WE.region ?_
  refine WO.run 2 0 [(12, .int .i64 (n : Int)), (11, .int .i64 (a + 20 : Int))] (by kernel_rfl) (by kernel_rfl) ?_
  refine WO.one (SQ.F 2 (by kernel_rfl)) 13 (.bool (decide (((a + 20 : Int) : Int) ≤ (n : Int)))) (by kernel_rfl) ?_
  refine WO.topP (((a + 20 : Int) : Int) ≤ (n : Int)) ?_ ?_
  · intro h1
    refine WO.done (by kernel_rfl) ?_
    refine WQ.keep [0, 1, 2, 6, 7, 8, 13] (e' := [(0, .slice (some ⟨b, 0, none⟩) n cap), (1, .int .i64 (n : Int)), (2, .func (.func 50) #[] #[]), (6, .int .i64 20), (7, .int .i64 (a : Int)), (8, .int .i64 (a + 20 : Int)), (13, .bool true)]) (by kernel_rfl) ?_
    refine WQ.thenN ?_
    refine WE.condT (by kernel_rfl) ?_
    refine WE.skip ?_
    refine WQ.thenN ?_
    refine WE.block ?_
    refine WE.seq ?_
    -- R3 zsortanyfunc.go:339
    refine WE.region ?_
    refine WO.run 4 0 [(17, .func (.func 50) #[] #[]), (16, .int .i64 (a + 20 : Int)), (15, .int .i64 (a : Int)), (14, .slice (some ⟨b, 0, none⟩) n cap)] (by kernel_rfl) (by kernel_rfl) ?_
    obtain ⟨k1, k2⟩ := isort_le (a := a) (b := (a + 20)) (q := p) (by omega) (by have := hP.len.trans hn; omega)
    refine WO.call (SQ.E 4 (by kernel_rfl)) 18 (by kernel_rfl) (isort_f b n cap a (a + 20) p _ HR (hP.len.trans hn) (hP.allB hall) (by omega) (by omega) (by omega)) ?_
    rintro _ w2 ⟨rfl, HR4, F3⟩
    refine ⟨_, rfl, trivial, ?_⟩
    have HA := Fr.step HA F3 (inSL (by simp) inS0)
    generalize hp2 : outer a (a + 20) ((a + 20) - (a + 1)) (a + 1) p = p2 at *
    refine WO.done (by kernel_rfl) ?_
    refine WQ.keep [0, 1, 2, 6, 7, 8, 13] (e' := [(0, .slice (some ⟨b, 0, none⟩) n cap), (1, .int .i64 (n : Int)), (2, .func (.func 50) #[] #[]), (6, .int .i64 20), (7, .int .i64 (a : Int)), (8, .int .i64 (a + 20 : Int)), (13, .bool true)]) (by kernel_rfl) ?_
    refine WQ.thenN ?_
    refine WE.seq ?_
    -- R4 zsortanyfunc.go:340
    refine WE.region ?_
    refine WO.run 2 0 [(7, .int .i64 (a + 20 : Int)), (19, .int .i64 (a + 20 : Int))] (by kernel_rfl) (by kernel_rfl) ?_
    refine WO.done (by kernel_rfl) ?_
    refine WQ.keep [0, 1, 2, 6, 7, 8, 13] (e' := [(0, .slice (some ⟨b, 0, none⟩) n cap), (1, .int .i64 (n : Int)), (2, .func (.func 50) #[] #[]), (6, .int .i64 20), (7, .int .i64 (a + 20 : Int)), (8, .int .i64 (a + 20 : Int)), (13, .bool true)]) (by kernel_rfl) ?_
    refine WQ.thenN ?_
    -- R5 zsortanyfunc.go:341
    refine WE.region ?_
    refine WO.run 2 0 [(21, .int .i64 20), (20, .int .i64 (a + 20 : Int))] (by kernel_rfl) (by kernel_rfl) ?_
    refine WO.one (SQ.F 2 (by kernel_rfl)) 22 (.int .i64 (IntKind.i64.wrap ((a + 20 : Int) + 20))) (by kernel_rfl) ?_
    refine WO.top (v' := .int .i64 (((a + 20) + 20 : Nat) : Int)) (wrap_i64 (by omega) (by omega)) ?_
    refine WO.run 1 3 [(8, .int .i64 (((a + 20) + 20 : Nat) : Int))] (by kernel_rfl) (by kernel_rfl) ?_
    refine WO.done (by kernel_rfl) ?_
    refine WQ.keep [0, 1, 2, 6, 7, 8, 13] (e' := [(0, .slice (some ⟨b, 0, none⟩) n cap), (1, .int .i64 (n : Int)), (2, .func (.func 50) #[] #[]), (6, .int .i64 20), (7, .int .i64 (a + 20 : Int)), (8, .int .i64 (((a + 20) + 20 : Nat) : Int)), (13, .bool true)]) (by kernel_rfl) ?_
    refine WQ.blkN ?_
    refine WQ.round ?_
    intro a_ ha_
    refine ⟨(a + 20, p2), ?_, ha_.keep [0, 1, 2, 6, 7, 8] (by kernel_rfl), ?_⟩
    · show n - (a + 20) < n - a; omega
    · exact ⟨by show a + 20 ≤ n; omega, by show (a + 20) % 20 = 0; omega, hP.trans (k2.mono (Nat.zero_le _) (by omega)), blk_more (e := a + 20) hB k1 k2 (by omega) (by omega), HR4, HA⟩
  · intro h1
    refine WO.done (by kernel_rfl) ?_
    refine WQ.keep [0, 1, 2, 6, 7, 8, 13] (e' := [(0, .slice (some ⟨b, 0, none⟩) n cap), (1, .int .i64 (n : Int)), (2, .func (.func 50) #[] #[]), (6, .int .i64 20), (7, .int .i64 (a : Int)), (8, .int .i64 (a + 20 : Int)), (13, .bool false)]) (by kernel_rfl) ?_
    refine WQ.thenN ?_
    refine WE.condF (by kernel_rfl) ?_
    refine WE.exit ?_
    refine WQ.thenE ?_
    refine WQ.thenE ?_
    refine WQ.blkE ?_
    refine WQ.thenN ?_
    refine WE.seq ?_
    -- R6 zsortanyfunc.go:343
    refine WE.region ?_
    refine WO.run 4 0 [(26, .func (.func 50) #[] #[]), (25, .int .i64 (n : Int)), (24, .int .i64 (a : Int)), (23, .slice (some ⟨b, 0, none⟩) n cap)] (by kernel_rfl) (by kernel_rfl) ?_
    obtain ⟨k1, k2⟩ := isort_le (a := a) (b := n) (q := p) (by omega) (by have := hP.len.trans hn; omega)
    refine WO.call (SQ.E 4 (by kernel_rfl)) 27 (by kernel_rfl) (isort_f b n cap a n p _ HR (hP.len.trans hn) (hP.allB hall) (by omega) (by omega) (by omega)) ?_
    rintro _ w5 ⟨rfl, HR7, F6⟩
    refine ⟨_, rfl, trivial, ?_⟩
    have HA := Fr.step HA F6 (inSL (by simp) inS0)
    generalize hp2 : outer a n (n - (a + 1)) (a + 1) p = p2 at *
    refine WO.done (by kernel_rfl) ?_
    refine WQ.keep [0, 1, 2, 6, 7, 8, 13] (e' := [(0, .slice (some ⟨b, 0, none⟩) n cap), (1, .int .i64 (n : Int)), (2, .func (.func 50) #[] #[]), (6, .int .i64 20), (7, .int .i64 (a : Int)), (8, .int .i64 (a + 20 : Int)), (13, .bool false)]) (by kernel_rfl) ?_
    refine WQ.thenN ?_
    refine WE.block ?_
    refine WE.loop (α := Nat × List Nat) (E := fun z => [(0, .slice (some ⟨b, 0, none⟩) n cap), (1, .int .i64 (n : Int)), (2, .func (.func 50) #[] #[]), (6, .int .i64 (z.1 : Int))]) (I := fun z wq => (z.1 = 20 ∨ z.1 = 40 ∨ z.1 = 80 ∨ z.1 = 160) ∧ PIn 0 n q z.2 ∧ (∀ x y, x < y → y < n → x / z.1 = y / z.1 → rk z.2 x ≤ rk z.2 y) ∧ RowB wq b 53 1 cap (z.2.map cF) ∧ Fr [b] w wq) (m := fun z => 160 - z.1) (20, p2) [0, 1, 2, 6] (by kernel_rfl) ?_ ?_
    · exact ⟨.inl rfl, hP.trans (k2.mono (Nat.zero_le _) (Nat.le_refl _)), blk_more (e := n) hB k1 k2 (by omega) (by omega), HR7, HA⟩
    rintro ⟨bs, p⟩ wq ⟨hbs, hP, hB, HR, HA⟩
    dsimp only at hbs hP hB HR
    refine WE.seq ?_
    refine WE.seq ?_
    -- R7 zsortanyfunc.go:345
    refine WE.region ?_
    refine WO.run 2 0 [(29, .int .i64 (n : Int)), (28, .int .i64 (bs : Int))] (by kernel_rfl) (by kernel_rfl) ?_
    refine WO.one (SQ.F 2 (by kernel_rfl)) 30 (.bool (decide (((bs : Int) : Int) < (n : Int)))) (by kernel_rfl) ?_
    refine WO.topP (((bs : Int) : Int) < (n : Int)) ?_ ?_
    · intro h8
      refine WO.done (by kernel_rfl) ?_
      refine WQ.keep [0, 1, 2, 6, 30] (e' := [(0, .slice (some ⟨b, 0, none⟩) n cap), (1, .int .i64 (n : Int)), (2, .func (.func 50) #[] #[]), (6, .int .i64 (bs : Int)), (30, .bool true)]) (by kernel_rfl) ?_
      refine WQ.thenN ?_
      refine WE.condT (by kernel_rfl) ?_
      refine WE.skip ?_
      refine WQ.thenN ?_
      refine WE.block ?_
      refine WE.seq ?_
      rcases hbs with rfl | rfl | rfl | rfl
      · skip
        -- R8 zsortanyfunc.go:346
        refine WE.region ?_
        refine WO.run 4 0 [(8, .int .i64 40), (7, .int .i64 0), (32, .int .i64 40), (31, .int .i64 20)] (by kernel_rfl) (by kernel_rfl) ?_
        refine WO.done (by kernel_rfl) ?_
        refine WQ.keep [0, 1, 2, 6, 7, 8, 30] (e' := [(0, .slice (some ⟨b, 0, none⟩) n cap), (1, .int .i64 (n : Int)), (2, .func (.func 50) #[] #[]), (6, .int .i64 20), (7, .int .i64 0), (8, .int .i64 40), (30, .bool true)]) (by kernel_rfl) ?_
        refine WQ.thenN ?_
        refine WE.seq ?_
        refine WE.block ?_
        refine WE.loop (α := Nat × List Nat) (E := fun z => [(0, .slice (some ⟨b, 0, none⟩) n cap), (1, .int .i64 (n : Int)), (2, .func (.func 50) #[] #[]), (6, .int .i64 20), (7, .int .i64 (z.1 : Int)), (8, .int .i64 ((z.1 + 40 : Nat) : Int))]) (I := fun z wv => z.1 ≤ n ∧ z.1 % 40 = 0 ∧ PIn 0 n q z.2 ∧ (∀ x y, x < y → y < n → (y < z.1 → x / 40 = y / 40 → rk z.2 x ≤ rk z.2 y) ∧ (z.1 ≤ x → x / 20 = y / 20 → rk z.2 x ≤ rk z.2 y)) ∧ RowB wv b 53 1 cap (z.2.map cF) ∧ Fr [b] w wv) (m := fun z => n - z.1) (0, p) [0, 1, 2, 6, 7, 8] (by kernel_rfl) ?_ ?_
        · exact ⟨Nat.zero_le _, rfl, hP, fun x y h3 h4 => ⟨fun h => absurd h (Nat.not_lt_zero _), fun _ h => hB x y h3 h4 h⟩, HR, HA⟩
        rintro ⟨a, p⟩ wv ⟨hk, haM, hP, hB, HR, HA⟩
        dsimp only at hk haM hP hB HR
        refine WE.seq ?_
        refine WE.seq ?_
        -- R9 zsortanyfunc.go:347
        refine WE.region ?_
        refine WO.run 2 0 [(34, .int .i64 (n : Int)), (33, .int .i64 (a + 40 : Int))] (by kernel_rfl) (by kernel_rfl) ?_
        refine WO.one (SQ.F 2 (by kernel_rfl)) 35 (.bool (decide (((a + 40 : Int) : Int) ≤ (n : Int)))) (by kernel_rfl) ?_
        refine WO.topP (((a + 40 : Int) : Int) ≤ (n : Int)) ?_ ?_
        · intro h9
          refine WO.done (by kernel_rfl) ?_
          refine WQ.keep [0, 1, 2, 6, 7, 8, 35] (e' := [(0, .slice (some ⟨b, 0, none⟩) n cap), (1, .int .i64 (n : Int)), (2, .func (.func 50) #[] #[]), (6, .int .i64 20), (7, .int .i64 (a : Int)), (8, .int .i64 (a + 40 : Int)), (35, .bool true)]) (by kernel_rfl) ?_
          refine WQ.thenN ?_
          refine WE.condT (by kernel_rfl) ?_
          refine WE.skip ?_
          refine WQ.thenN ?_
          refine WE.block ?_
          refine WE.seq ?_
          -- R10 zsortanyfunc.go:348
          refine WE.region ?_
          refine WO.run 4 0 [(39, .int .i64 20), (38, .int .i64 (a : Int)), (37, .int .i64 (a : Int)), (36, .slice (some ⟨b, 0, none⟩) n cap)] (by kernel_rfl) (by kernel_rfl) ?_
          refine WO.one (SQ.F 4 (by kernel_rfl)) 40 (.int .i64 (IntKind.i64.wrap ((a : Int) + 20))) (by kernel_rfl) ?_
          refine WO.top (v' := .int .i64 ((a + 20 : Nat) : Int)) (wrap_i64 (by omega) (by omega)) ?_
          refine WO.run 2 5 [(42, .func (.func 50) #[] #[]), (41, .int .i64 (a + 40 : Int))] (by kernel_rfl) (by kernel_rfl) ?_
          refine WO.call (SQ.E 7 (by kernel_rfl)) 43 (by kernel_rfl) (sym_all ((a + 40) - a) b n cap a (a + 20) (a + 40) p _ rfl HR (hP.len.trans hn) (hP.allB hall) (by omega) (by omega) (by omega) (by omega) (fun x y h3 h4 h5 => (hB x y h4 (by omega)).2 (by omega) (by omega)) (fun x y h3 h4 h5 => (hB x y h4 (by omega)).2 (by omega) (by omega))) ?_
          rintro _ w10 ⟨p3, rfl, hP3, hS3, HR12, F11⟩
          refine ⟨_, rfl, trivial, ?_⟩
          have HA := Fr.step HA F11 (inSL (by simp) inS0)
          refine WO.done (by kernel_rfl) ?_
          refine WQ.keep [0, 1, 2, 6, 7, 8, 35] (e' := [(0, .slice (some ⟨b, 0, none⟩) n cap), (1, .int .i64 (n : Int)), (2, .func (.func 50) #[] #[]), (6, .int .i64 20), (7, .int .i64 (a : Int)), (8, .int .i64 (a + 40 : Int)), (35, .bool true)]) (by kernel_rfl) ?_
          refine WQ.thenN ?_
          refine WE.seq ?_
          -- R11 zsortanyfunc.go:349
          refine WE.region ?_
          refine WO.run 2 0 [(7, .int .i64 (a + 40 : Int)), (44, .int .i64 (a + 40 : Int))] (by kernel_rfl) (by kernel_rfl) ?_
          refine WO.done (by kernel_rfl) ?_
          refine WQ.keep [0, 1, 2, 6, 7, 8, 35] (e' := [(0, .slice (some ⟨b, 0, none⟩) n cap), (1, .int .i64 (n : Int)), (2, .func (.func 50) #[] #[]), (6, .int .i64 20), (7, .int .i64 (a + 40 : Int)), (8, .int .i64 (a + 40 : Int)), (35, .bool true)]) (by kernel_rfl) ?_
          refine WQ.thenN ?_
          -- R12 zsortanyfunc.go:350
          refine WE.region ?_
          refine WO.run 3 0 [(47, .int .i64 40), (46, .int .i64 20), (45, .int .i64 (a + 40 : Int))] (by kernel_rfl) (by kernel_rfl) ?_
          refine WO.one (SQ.F 3 (by kernel_rfl)) 48 (.int .i64 (IntKind.i64.wrap ((a + 40 : Int) + 40))) (by kernel_rfl) ?_
          refine WO.top (v' := .int .i64 (((a + 40) + 40 : Nat) : Int)) (wrap_i64 (by omega) (by omega)) ?_
          refine WO.run 1 4 [(8, .int .i64 (((a + 40) + 40 : Nat) : Int))] (by kernel_rfl) (by kernel_rfl) ?_
          refine WO.done (by kernel_rfl) ?_
          refine WQ.keep [0, 1, 2, 6, 7, 8, 35] (e' := [(0, .slice (some ⟨b, 0, none⟩) n cap), (1, .int .i64 (n : Int)), (2, .func (.func 50) #[] #[]), (6, .int .i64 20), (7, .int .i64 (a + 40 : Int)), (8, .int .i64 (((a + 40) + 40 : Nat) : Int)), (35, .bool true)]) (by kernel_rfl) ?_
          refine WQ.blkN ?_
          refine WQ.round ?_
          intro a_ ha_
          refine ⟨(a + 40, p3), ?_, ha_.keep [0, 1, 2, 6, 7, 8] (by kernel_rfl), ?_⟩
          · show n - (a + 40) < n - a; omega
          · exact ⟨by show a + 40 ≤ n; omega, by show (a + 40) % 40 = 0; omega, hP.trans (hP3.mono (Nat.zero_le _) (by omega)), mrg_more (M := 40) (s := 20) (e := a + 40) hB hS3 hP3 (by omega) (by omega) (by omega) (by omega) (fun x y h => by omega), HR12, HA⟩
        · intro h9
          refine WO.done (by kernel_rfl) ?_
          refine WQ.keep [0, 1, 2, 6, 7, 8, 35] (e' := [(0, .slice (some ⟨b, 0, none⟩) n cap), (1, .int .i64 (n : Int)), (2, .func (.func 50) #[] #[]), (6, .int .i64 20), (7, .int .i64 (a : Int)), (8, .int .i64 (a + 40 : Int)), (35, .bool false)]) (by kernel_rfl) ?_
          refine WQ.thenN ?_
          refine WE.condF (by kernel_rfl) ?_
          refine WE.exit ?_
          refine WQ.thenE ?_
          refine WQ.thenE ?_
          refine WQ.blkE ?_
          refine WQ.thenN ?_
          refine WE.seq ?_
          refine WE.seq ?_
          -- R13 zsortanyfunc.go:352
          refine WE.region ?_
          refine WO.run 2 0 [(50, .int .i64 20), (49, .int .i64 (a : Int))] (by kernel_rfl) (by kernel_rfl) ?_
          refine WO.one (SQ.F 2 (by kernel_rfl)) 51 (.int .i64 (IntKind.i64.wrap ((a : Int) + 20))) (by kernel_rfl) ?_
          refine WO.top (v' := .int .i64 ((a + 20 : Nat) : Int)) (wrap_i64 (by omega) (by omega)) ?_
          refine WO.run 1 3 [(9, .int .i64 ((a + 20 : Nat) : Int))] (by kernel_rfl) (by kernel_rfl) ?_
          refine WO.done (by kernel_rfl) ?_
          refine WQ.keep [0, 1, 2, 6, 7, 8, 9, 35] (e' := [(0, .slice (some ⟨b, 0, none⟩) n cap), (1, .int .i64 (n : Int)), (2, .func (.func 50) #[] #[]), (6, .int .i64 20), (7, .int .i64 (a : Int)), (8, .int .i64 (a + 40 : Int)), (9, .int .i64 ((a + 20 : Nat) : Int)), (35, .bool false)]) (by kernel_rfl) ?_
          refine WQ.thenN ?_
          refine WE.seq ?_
          -- R14 zsortanyfunc.go:352
          refine WE.region ?_
          refine WO.run 2 0 [(53, .int .i64 (n : Int)), (52, .int .i64 ((a + 20 : Nat) : Int))] (by kernel_rfl) (by kernel_rfl) ?_
          refine WO.one (SQ.F 2 (by kernel_rfl)) 54 (.bool (decide (((a + 20 : Int) : Int) < (n : Int)))) (by kernel_rfl) ?_
          refine WO.topP (((a + 20 : Int) : Int) < (n : Int)) ?_ ?_
          · intro h13
            refine WO.done (by kernel_rfl) ?_
            refine WQ.keep [0, 1, 2, 6, 7, 8, 9, 35, 54] (e' := [(0, .slice (some ⟨b, 0, none⟩) n cap), (1, .int .i64 (n : Int)), (2, .func (.func 50) #[] #[]), (6, .int .i64 20), (7, .int .i64 (a : Int)), (8, .int .i64 (a + 40 : Int)), (9, .int .i64 ((a + 20 : Nat) : Int)), (35, .bool false), (54, .bool true)]) (by kernel_rfl) ?_
            refine WQ.thenN ?_
            refine WE.condT (by kernel_rfl) ?_
            -- R15 zsortanyfunc.go:353
            refine WE.region ?_
            refine WO.run 5 0 [(59, .func (.func 50) #[] #[]), (58, .int .i64 (n : Int)), (57, .int .i64 ((a + 20 : Nat) : Int)), (56, .int .i64 (a : Int)), (55, .slice (some ⟨b, 0, none⟩) n cap)] (by kernel_rfl) (by kernel_rfl) ?_
            refine WO.call (SQ.E 5 (by kernel_rfl)) 60 (by kernel_rfl) (sym_all (n - a) b n cap a (a + 20) n p _ rfl HR (hP.len.trans hn) (hP.allB hall) (by omega) (by omega) (by omega) (by omega) (fun x y h3 h4 h5 => (hB x y h4 (by omega)).2 (by omega) (by omega)) (fun x y h3 h4 h5 => (hB x y h4 (by omega)).2 (by omega) (by omega))) ?_
            rintro _ w14 ⟨p3, rfl, hP3, hS3, HR16, F15⟩
            refine ⟨_, rfl, trivial, ?_⟩
            have HA := Fr.step HA F15 (inSL (by simp) inS0)
            refine WO.done (by kernel_rfl) ?_
            refine WQ.keep [0, 1, 2, 6, 7, 8, 9, 35, 54] (e' := [(0, .slice (some ⟨b, 0, none⟩) n cap), (1, .int .i64 (n : Int)), (2, .func (.func 50) #[] #[]), (6, .int .i64 20), (7, .int .i64 (a : Int)), (8, .int .i64 (a + 40 : Int)), (9, .int .i64 ((a + 20 : Nat) : Int)), (35, .bool false), (54, .bool true)]) (by kernel_rfl) ?_
            refine WQ.thenN ?_
            -- R16 zsortanyfunc.go:355
            refine WE.region ?_
            refine WO.run 3 0 [(6, .int .i64 40), (62, .int .i64 40), (61, .int .i64 20)] (by kernel_rfl) (by kernel_rfl) ?_
            refine WO.done (by kernel_rfl) ?_
            refine WQ.keep [0, 1, 2, 6, 7, 8, 9, 35, 54] (e' := [(0, .slice (some ⟨b, 0, none⟩) n cap), (1, .int .i64 (n : Int)), (2, .func (.func 50) #[] #[]), (6, .int .i64 40), (7, .int .i64 (a : Int)), (8, .int .i64 (a + 40 : Int)), (9, .int .i64 ((a + 20 : Nat) : Int)), (35, .bool false), (54, .bool true)]) (by kernel_rfl) ?_
            refine WQ.blkN ?_
            refine WQ.round ?_
            intro a_ ha_
            refine ⟨(40, p3), ?_, ha_.keep [0, 1, 2, 6] (by kernel_rfl), ?_⟩
            · show 160 - 40 < 160 - 20; decide
            · exact ⟨by simp, hP.trans (hP3.mono (Nat.zero_le _) (Nat.le_refl _)), fun x y h3 h4 h5_ => (by have h5 : x / 40 = y / 40 := h5_; exact ((mrg_more (M := 40) (s := 20) (e := n) hB hS3 hP3 (by omega) (by omega) (by omega) (by omega) (fun x y h => by omega)) x y h3 h4).1 h4 h5), HR16, HA⟩
          · intro h13
            refine WO.done (by kernel_rfl) ?_
            refine WQ.keep [0, 1, 2, 6, 7, 8, 9, 35, 54] (e' := [(0, .slice (some ⟨b, 0, none⟩) n cap), (1, .int .i64 (n : Int)), (2, .func (.func 50) #[] #[]), (6, .int .i64 20), (7, .int .i64 (a : Int)), (8, .int .i64 (a + 40 : Int)), (9, .int .i64 ((a + 20 : Nat) : Int)), (35, .bool false), (54, .bool false)]) (by kernel_rfl) ?_
            refine WQ.thenN ?_
            refine WE.condF (by kernel_rfl) ?_
            refine WE.skip ?_
            refine WQ.thenN ?_
            -- R16 zsortanyfunc.go:355
            refine WE.region ?_
            refine WO.run 3 0 [(6, .int .i64 40), (62, .int .i64 40), (61, .int .i64 20)] (by kernel_rfl) (by kernel_rfl) ?_
            refine WO.done (by kernel_rfl) ?_
            refine WQ.keep [0, 1, 2, 6, 7, 8, 9, 35, 54] (e' := [(0, .slice (some ⟨b, 0, none⟩) n cap), (1, .int .i64 (n : Int)), (2, .func (.func 50) #[] #[]), (6, .int .i64 40), (7, .int .i64 (a : Int)), (8, .int .i64 (a + 40 : Int)), (9, .int .i64 ((a + 20 : Nat) : Int)), (35, .bool false), (54, .bool false)]) (by kernel_rfl) ?_
            refine WQ.blkN ?_
            refine WQ.round ?_
            intro a_ ha_
            refine ⟨(40, p), ?_, ha_.keep [0, 1, 2, 6] (by kernel_rfl), ?_⟩
            · show 160 - 40 < 160 - 20; decide
            · exact ⟨by simp, hP, fun x y h3 h4 h5_ => (by have h5 : x / 40 = y / 40 := h5_; by_cases hya : y < a; exact (hB x y h3 h4).1 hya h5; exact (hB x y h3 h4).2 (by omega) (by omega)), HR, HA⟩
      · skip
        -- R8 zsortanyfunc.go:346
        refine WE.region ?_
        refine WO.run 4 0 [(8, .int .i64 80), (7, .int .i64 0), (32, .int .i64 80), (31, .int .i64 40)] (by kernel_rfl) (by kernel_rfl) ?_
        refine WO.done (by kernel_rfl) ?_
        refine WQ.keep [0, 1, 2, 6, 7, 8, 30] (e' := [(0, .slice (some ⟨b, 0, none⟩) n cap), (1, .int .i64 (n : Int)), (2, .func (.func 50) #[] #[]), (6, .int .i64 40), (7, .int .i64 0), (8, .int .i64 80), (30, .bool true)]) (by kernel_rfl) ?_
        refine WQ.thenN ?_
        refine WE.seq ?_
        refine WE.block ?_
        refine WE.loop (α := Nat × List Nat) (E := fun z => [(0, .slice (some ⟨b, 0, none⟩) n cap), (1, .int .i64 (n : Int)), (2, .func (.func 50) #[] #[]), (6, .int .i64 40), (7, .int .i64 (z.1 : Int)), (8, .int .i64 ((z.1 + 80 : Nat) : Int))]) (I := fun z wv => z.1 ≤ n ∧ z.1 % 80 = 0 ∧ PIn 0 n q z.2 ∧ (∀ x y, x < y → y < n → (y < z.1 → x / 80 = y / 80 → rk z.2 x ≤ rk z.2 y) ∧ (z.1 ≤ x → x / 40 = y / 40 → rk z.2 x ≤ rk z.2 y)) ∧ RowB wv b 53 1 cap (z.2.map cF) ∧ Fr [b] w wv) (m := fun z => n - z.1) (0, p) [0, 1, 2, 6, 7, 8] (by kernel_rfl) ?_ ?_
        · exact ⟨Nat.zero_le _, rfl, hP, fun x y h3 h4 => ⟨fun h => absurd h (Nat.not_lt_zero _), fun _ h => hB x y h3 h4 h⟩, HR, HA⟩
        rintro ⟨a, p⟩ wv ⟨hk, haM, hP, hB, HR, HA⟩
        dsimp only at hk haM hP hB HR
        refine WE.seq ?_
        refine WE.seq ?_
        -- R9 zsortanyfunc.go:347
        refine WE.region ?_
        refine WO.run 2 0 [(34, .int .i64 (n : Int)), (33, .int .i64 (a + 80 : Int))] (by kernel_rfl) (by kernel_rfl) ?_
        refine WO.one (SQ.F 2 (by kernel_rfl)) 35 (.bool (decide (((a + 80 : Int) : Int) ≤ (n : Int)))) (by kernel_rfl) ?_
        refine WO.topP (((a + 80 : Int) : Int) ≤ (n : Int)) ?_ ?_
        · intro h17
          refine WO.done (by kernel_rfl) ?_
          refine WQ.keep [0, 1, 2, 6, 7, 8, 35] (e' := [(0, .slice (some ⟨b, 0, none⟩) n cap), (1, .int .i64 (n : Int)), (2, .func (.func 50) #[] #[]), (6, .int .i64 40), (7, .int .i64 (a : Int)), (8, .int .i64 (a + 80 : Int)), (35, .bool true)]) (by kernel_rfl) ?_
          refine WQ.thenN ?_
          refine WE.condT (by kernel_rfl) ?_
          refine WE.skip ?_
          refine WQ.thenN ?_
          refine WE.block ?_
          refine WE.seq ?_
          -- R10 zsortanyfunc.go:348
          refine WE.region ?_
          refine WO.run 4 0 [(39, .int .i64 40), (38, .int .i64 (a : Int)), (37, .int .i64 (a : Int)), (36, .slice (some ⟨b, 0, none⟩) n cap)] (by kernel_rfl) (by kernel_rfl) ?_
          refine WO.one (SQ.F 4 (by kernel_rfl)) 40 (.int .i64 (IntKind.i64.wrap ((a : Int) + 40))) (by kernel_rfl) ?_
          refine WO.top (v' := .int .i64 ((a + 40 : Nat) : Int)) (wrap_i64 (by omega) (by omega)) ?_
          refine WO.run 2 5 [(42, .func (.func 50) #[] #[]), (41, .int .i64 (a + 80 : Int))] (by kernel_rfl) (by kernel_rfl) ?_
          refine WO.call (SQ.E 7 (by kernel_rfl)) 43 (by kernel_rfl) (sym_all ((a + 80) - a) b n cap a (a + 40) (a + 80) p _ rfl HR (hP.len.trans hn) (hP.allB hall) (by omega) (by omega) (by omega) (by omega) (fun x y h3 h4 h5 => (hB x y h4 (by omega)).2 (by omega) (by omega)) (fun x y h3 h4 h5 => (hB x y h4 (by omega)).2 (by omega) (by omega))) ?_
          rintro _ w18 ⟨p3, rfl, hP3, hS3, HR20, F19⟩
          refine ⟨_, rfl, trivial, ?_⟩
          have HA := Fr.step HA F19 (inSL (by simp) inS0)
          refine WO.done (by kernel_rfl) ?_
          refine WQ.keep [0, 1, 2, 6, 7, 8, 35] (e' := [(0, .slice (some ⟨b, 0, none⟩) n cap), (1, .int .i64 (n : Int)), (2, .func (.func 50) #[] #[]), (6, .int .i64 40), (7, .int .i64 (a : Int)), (8, .int .i64 (a + 80 : Int)), (35, .bool true)]) (by kernel_rfl) ?_
          refine WQ.thenN ?_
          refine WE.seq ?_
          -- R11 zsortanyfunc.go:349
          refine WE.region ?_
          refine WO.run 2 0 [(7, .int .i64 (a + 80 : Int)), (44, .int .i64 (a + 80 : Int))] (by kernel_rfl) (by kernel_rfl) ?_
          refine WO.done (by kernel_rfl) ?_
          refine WQ.keep [0, 1, 2, 6, 7, 8, 35] (e' := [(0, .slice (some ⟨b, 0, none⟩) n cap), (1, .int .i64 (n : Int)), (2, .func (.func 50) #[] #[]), (6, .int .i64 40), (7, .int .i64 (a + 80 : Int)), (8, .int .i64 (a + 80 : Int)), (35, .bool true)]) (by kernel_rfl) ?_
          refine WQ.thenN ?_
          -- R12 zsortanyfunc.go:350
          refine WE.region ?_
          refine WO.run 3 0 [(47, .int .i64 80), (46, .int .i64 40), (45, .int .i64 (a + 80 : Int))] (by kernel_rfl) (by kernel_rfl) ?_
          refine WO.one (SQ.F 3 (by kernel_rfl)) 48 (.int .i64 (IntKind.i64.wrap ((a + 80 : Int) + 80))) (by kernel_rfl) ?_
          refine WO.top (v' := .int .i64 (((a + 80) + 80 : Nat) : Int)) (wrap_i64 (by omega) (by omega)) ?_
          refine WO.run 1 4 [(8, .int .i64 (((a + 80) + 80 : Nat) : Int))] (by kernel_rfl) (by kernel_rfl) ?_
          refine WO.done (by kernel_rfl) ?_
          refine WQ.keep [0, 1, 2, 6, 7, 8, 35] (e' := [(0, .slice (some ⟨b, 0, none⟩) n cap), (1, .int .i64 (n : Int)), (2, .func (.func 50) #[] #[]), (6, .int .i64 40), (7, .int .i64 (a + 80 : Int)), (8, .int .i64 (((a + 80) + 80 : Nat) : Int)), (35, .bool true)]) (by kernel_rfl) ?_
          refine WQ.blkN ?_
          refine WQ.round ?_
          intro a_ ha_
          refine ⟨(a + 80, p3), ?_, ha_.keep [0, 1, 2, 6, 7, 8] (by kernel_rfl), ?_⟩
          · show n - (a + 80) < n - a; omega
          · exact ⟨by show a + 80 ≤ n; omega, by show (a + 80) % 80 = 0; omega, hP.trans (hP3.mono (Nat.zero_le _) (by omega)), mrg_more (M := 80) (s := 40) (e := a + 80) hB hS3 hP3 (by omega) (by omega) (by omega) (by omega) (fun x y h => by omega), HR20, HA⟩
        · intro h17
          refine WO.done (by kernel_rfl) ?_
          refine WQ.keep [0, 1, 2, 6, 7, 8, 35] (e' := [(0, .slice (some ⟨b, 0, none⟩) n cap), (1, .int .i64 (n : Int)), (2, .func (.func 50) #[] #[]), (6, .int .i64 40), (7, .int .i64 (a : Int)), (8, .int .i64 (a + 80 : Int)), (35, .bool false)]) (by kernel_rfl) ?_
          refine WQ.thenN ?_
          refine WE.condF (by kernel_rfl) ?_
          refine WE.exit ?_
          refine WQ.thenE ?_
          refine WQ.thenE ?_
          refine WQ.blkE ?_
          refine WQ.thenN ?_
          refine WE.seq ?_
          refine WE.seq ?_
          -- R13 zsortanyfunc.go:352
          refine WE.region ?_
          refine WO.run 2 0 [(50, .int .i64 40), (49, .int .i64 (a : Int))] (by kernel_rfl) (by kernel_rfl) ?_
          refine WO.one (SQ.F 2 (by kernel_rfl)) 51 (.int .i64 (IntKind.i64.wrap ((a : Int) + 40))) (by kernel_rfl) ?_
          refine WO.top (v' := .int .i64 ((a + 40 : Nat) : Int)) (wrap_i64 (by omega) (by omega)) ?_
          refine WO.run 1 3 [(9, .int .i64 ((a + 40 : Nat) : Int))] (by kernel_rfl) (by kernel_rfl) ?_
          refine WO.done (by kernel_rfl) ?_
          refine WQ.keep [0, 1, 2, 6, 7, 8, 9, 35] (e' := [(0, .slice (some ⟨b, 0, none⟩) n cap), (1, .int .i64 (n : Int)), (2, .func (.func 50) #[] #[]), (6, .int .i64 40), (7, .int .i64 (a : Int)), (8, .int .i64 (a + 80 : Int)), (9, .int .i64 ((a + 40 : Nat) : Int)), (35, .bool false)]) (by kernel_rfl) ?_
          refine WQ.thenN ?_
          refine WE.seq ?_
          -- R14 zsortanyfunc.go:352
          refine WE.region ?_
          refine WO.run 2 0 [(53, .int .i64 (n : Int)), (52, .int .i64 ((a + 40 : Nat) : Int))] (by kernel_rfl) (by kernel_rfl) ?_
          refine WO.one (SQ.F 2 (by kernel_rfl)) 54 (.bool (decide (((a + 40 : Int) : Int) < (n : Int)))) (by kernel_rfl) ?_
          refine WO.topP (((a + 40 : Int) : Int) < (n : Int)) ?_ ?_
          · intro h21
            refine WO.done (by kernel_rfl) ?_
            refine WQ.keep [0, 1, 2, 6, 7, 8, 9, 35, 54] (e' := [(0, .slice (some ⟨b, 0, none⟩) n cap), (1, .int .i64 (n : Int)), (2, .func (.func 50) #[] #[]), (6, .int .i64 40), (7, .int .i64 (a : Int)), (8, .int .i64 (a + 80 : Int)), (9, .int .i64 ((a + 40 : Nat) : Int)), (35, .bool false), (54, .bool true)]) (by kernel_rfl) ?_
            refine WQ.thenN ?_
            refine WE.condT (by kernel_rfl) ?_
            -- R15 zsortanyfunc.go:353
            refine WE.region ?_
            refine WO.run 5 0 [(59, .func (.func 50) #[] #[]), (58, .int .i64 (n : Int)), (57, .int .i64 ((a + 40 : Nat) : Int)), (56, .int .i64 (a : Int)), (55, .slice (some ⟨b, 0, none⟩) n cap)] (by kernel_rfl) (by kernel_rfl) ?_
            refine WO.call (SQ.E 5 (by kernel_rfl)) 60 (by kernel_rfl) (sym_all (n - a) b n cap a (a + 40) n p _ rfl HR (hP.len.trans hn) (hP.allB hall) (by omega) (by omega) (by omega) (by omega) (fun x y h3 h4 h5 => (hB x y h4 (by omega)).2 (by omega) (by omega)) (fun x y h3 h4 h5 => (hB x y h4 (by omega)).2 (by omega) (by omega))) ?_
            rintro _ w22 ⟨p3, rfl, hP3, hS3, HR24, F23⟩
            refine ⟨_, rfl, trivial, ?_⟩
            have HA := Fr.step HA F23 (inSL (by simp) inS0)
            refine WO.done (by kernel_rfl) ?_
            refine WQ.keep [0, 1, 2, 6, 7, 8, 9, 35, 54] (e' := [(0, .slice (some ⟨b, 0, none⟩) n cap), (1, .int .i64 (n : Int)), (2, .func (.func 50) #[] #[]), (6, .int .i64 40), (7, .int .i64 (a : Int)), (8, .int .i64 (a + 80 : Int)), (9, .int .i64 ((a + 40 : Nat) : Int)), (35, .bool false), (54, .bool true)]) (by kernel_rfl) ?_
            refine WQ.thenN ?_
            -- R16 zsortanyfunc.go:355
            refine WE.region ?_
            refine WO.run 3 0 [(6, .int .i64 80), (62, .int .i64 80), (61, .int .i64 40)] (by kernel_rfl) (by kernel_rfl) ?_
            refine WO.done (by kernel_rfl) ?_
            refine WQ.keep [0, 1, 2, 6, 7, 8, 9, 35, 54] (e' := [(0, .slice (some ⟨b, 0, none⟩) n cap), (1, .int .i64 (n : Int)), (2, .func (.func 50) #[] #[]), (6, .int .i64 80), (7, .int .i64 (a : Int)), (8, .int .i64 (a + 80 : Int)), (9, .int .i64 ((a + 40 : Nat) : Int)), (35, .bool false), (54, .bool true)]) (by kernel_rfl) ?_
            refine WQ.blkN ?_
            refine WQ.round ?_
            intro a_ ha_
            refine ⟨(80, p3), ?_, ha_.keep [0, 1, 2, 6] (by kernel_rfl), ?_⟩
            · show 160 - 80 < 160 - 40; decide
            · exact ⟨by simp, hP.trans (hP3.mono (Nat.zero_le _) (Nat.le_refl _)), fun x y h3 h4 h5_ => (by have h5 : x / 80 = y / 80 := h5_; exact ((mrg_more (M := 80) (s := 40) (e := n) hB hS3 hP3 (by omega) (by omega) (by omega) (by omega) (fun x y h => by omega)) x y h3 h4).1 h4 h5), HR24, HA⟩
          · intro h21
            refine WO.done (by kernel_rfl) ?_
            refine WQ.keep [0, 1, 2, 6, 7, 8, 9, 35, 54] (e' := [(0, .slice (some ⟨b, 0, none⟩) n cap), (1, .int .i64 (n : Int)), (2, .func (.func 50) #[] #[]), (6, .int .i64 40), (7, .int .i64 (a : Int)), (8, .int .i64 (a + 80 : Int)), (9, .int .i64 ((a + 40 : Nat) : Int)), (35, .bool false), (54, .bool false)]) (by kernel_rfl) ?_
            refine WQ.thenN ?_
            refine WE.condF (by kernel_rfl) ?_
            refine WE.skip ?_
            refine WQ.thenN ?_
            -- R16 zsortanyfunc.go:355
            refine WE.region ?_
            refine WO.run 3 0 [(6, .int .i64 80), (62, .int .i64 80), (61, .int .i64 40)] (by kernel_rfl) (by kernel_rfl) ?_
            refine WO.done (by kernel_rfl) ?_
            refine WQ.keep [0, 1, 2, 6, 7, 8, 9, 35, 54] (e' := [(0, .slice (some ⟨b, 0, none⟩) n cap), (1, .int .i64 (n : Int)), (2, .func (.func 50) #[] #[]), (6, .int .i64 80), (7, .int .i64 (a : Int)), (8, .int .i64 (a + 80 : Int)), (9, .int .i64 ((a + 40 : Nat) : Int)), (35, .bool false), (54, .bool false)]) (by kernel_rfl) ?_
            refine WQ.blkN ?_
            refine WQ.round ?_
            intro a_ ha_
            refine ⟨(80, p), ?_, ha_.keep [0, 1, 2, 6] (by kernel_rfl), ?_⟩
            · show 160 - 80 < 160 - 40; decide
            · exact ⟨by simp, hP, fun x y h3 h4 h5_ => (by have h5 : x / 80 = y / 80 := h5_; by_cases hya : y < a; exact (hB x y h3 h4).1 hya h5; exact (hB x y h3 h4).2 (by omega) (by omega)), HR, HA⟩
      · skip
        -- R8 zsortanyfunc.go:346
        refine WE.region ?_
        refine WO.run 4 0 [(8, .int .i64 160), (7, .int .i64 0), (32, .int .i64 160), (31, .int .i64 80)] (by kernel_rfl) (by kernel_rfl) ?_
        refine WO.done (by kernel_rfl) ?_
        refine WQ.keep [0, 1, 2, 6, 7, 8, 30] (e' := [(0, .slice (some ⟨b, 0, none⟩) n cap), (1, .int .i64 (n : Int)), (2, .func (.func 50) #[] #[]), (6, .int .i64 80), (7, .int .i64 0), (8, .int .i64 160), (30, .bool true)]) (by kernel_rfl) ?_
        refine WQ.thenN ?_
        refine WE.seq ?_
        refine WE.block ?_
        refine WE.loop (α := Nat × List Nat) (E := fun z => [(0, .slice (some ⟨b, 0, none⟩) n cap), (1, .int .i64 (n : Int)), (2, .func (.func 50) #[] #[]), (6, .int .i64 80), (7, .int .i64 (z.1 : Int)), (8, .int .i64 ((z.1 + 160 : Nat) : Int))]) (I := fun z wv => z.1 ≤ n ∧ z.1 % 160 = 0 ∧ PIn 0 n q z.2 ∧ (∀ x y, x < y → y < n → (y < z.1 → x / 160 = y / 160 → rk z.2 x ≤ rk z.2 y) ∧ (z.1 ≤ x → x / 80 = y / 80 → rk z.2 x ≤ rk z.2 y)) ∧ RowB wv b 53 1 cap (z.2.map cF) ∧ Fr [b] w wv) (m := fun z => n - z.1) (0, p) [0, 1, 2, 6, 7, 8] (by kernel_rfl) ?_ ?_
        · exact ⟨Nat.zero_le _, rfl, hP, fun x y h3 h4 => ⟨fun h => absurd h (Nat.not_lt_zero _), fun _ h => hB x y h3 h4 h⟩, HR, HA⟩
        rintro ⟨a, p⟩ wv ⟨hk, haM, hP, hB, HR, HA⟩
        dsimp only at hk haM hP hB HR
        refine WE.seq ?_
        refine WE.seq ?_
        -- R9 zsortanyfunc.go:347
        refine WE.region ?_
        refine WO.run 2 0 [(34, .int .i64 (n : Int)), (33, .int .i64 (a + 160 : Int))] (by kernel_rfl) (by kernel_rfl) ?_
        refine WO.one (SQ.F 2 (by kernel_rfl)) 35 (.bool (decide (((a + 160 : Int) : Int) ≤ (n : Int)))) (by kernel_rfl) ?_
        refine WO.topP (((a + 160 : Int) : Int) ≤ (n : Int)) ?_ ?_
        · intro h25
          refine WO.done (by kernel_rfl) ?_
          refine WQ.keep [0, 1, 2, 6, 7, 8, 35] (e' := [(0, .slice (some ⟨b, 0, none⟩) n cap), (1, .int .i64 (n : Int)), (2, .func (.func 50) #[] #[]), (6, .int .i64 80), (7, .int .i64 (a : Int)), (8, .int .i64 (a + 160 : Int)), (35, .bool true)]) (by kernel_rfl) ?_
          refine WQ.thenN ?_
          refine WE.condT (by kernel_rfl) ?_
          refine WE.skip ?_
          refine WQ.thenN ?_
          refine WE.block ?_
          refine WE.seq ?_
          -- R10 zsortanyfunc.go:348
          refine WE.region ?_
          refine WO.run 4 0 [(39, .int .i64 80), (38, .int .i64 (a : Int)), (37, .int .i64 (a : Int)), (36, .slice (some ⟨b, 0, none⟩) n cap)] (by kernel_rfl) (by kernel_rfl) ?_
          refine WO.one (SQ.F 4 (by kernel_rfl)) 40 (.int .i64 (IntKind.i64.wrap ((a : Int) + 80))) (by kernel_rfl) ?_
          refine WO.top (v' := .int .i64 ((a + 80 : Nat) : Int)) (wrap_i64 (by omega) (by omega)) ?_
          refine WO.run 2 5 [(42, .func (.func 50) #[] #[]), (41, .int .i64 (a + 160 : Int))] (by kernel_rfl) (by kernel_rfl) ?_
          refine WO.call (SQ.E 7 (by kernel_rfl)) 43 (by kernel_rfl) (sym_all ((a + 160) - a) b n cap a (a + 80) (a + 160) p _ rfl HR (hP.len.trans hn) (hP.allB hall) (by omega) (by omega) (by omega) (by omega) (fun x y h3 h4 h5 => (hB x y h4 (by omega)).2 (by omega) (by omega)) (fun x y h3 h4 h5 => (hB x y h4 (by omega)).2 (by omega) (by omega))) ?_
          rintro _ w26 ⟨p3, rfl, hP3, hS3, HR28, F27⟩
          refine ⟨_, rfl, trivial, ?_⟩
          have HA := Fr.step HA F27 (inSL (by simp) inS0)
          refine WO.done (by kernel_rfl) ?_
          refine WQ.keep [0, 1, 2, 6, 7, 8, 35] (e' := [(0, .slice (some ⟨b, 0, none⟩) n cap), (1, .int .i64 (n : Int)), (2, .func (.func 50) #[] #[]), (6, .int .i64 80), (7, .int .i64 (a : Int)), (8, .int .i64 (a + 160 : Int)), (35, .bool true)]) (by kernel_rfl) ?_
          refine WQ.thenN ?_
          refine WE.seq ?_
          -- R11 zsortanyfunc.go:349
          refine WE.region ?_
          refine WO.run 2 0 [(7, .int .i64 (a + 160 : Int)), (44, .int .i64 (a + 160 : Int))] (by kernel_rfl) (by kernel_rfl) ?_
          refine WO.done (by kernel_rfl) ?_
          refine WQ.keep [0, 1, 2, 6, 7, 8, 35] (e' := [(0, .slice (some ⟨b, 0, none⟩) n cap), (1, .int .i64 (n : Int)), (2, .func (.func 50) #[] #[]), (6, .int .i64 80), (7, .int .i64 (a + 160 : Int)), (8, .int .i64 (a + 160 : Int)), (35, .bool true)]) (by kernel_rfl) ?_
          refine WQ.thenN ?_
          -- R12 zsortanyfunc.go:350
          refine WE.region ?_
          refine WO.run 3 0 [(47, .int .i64 160), (46, .int .i64 80), (45, .int .i64 (a + 160 : Int))] (by kernel_rfl) (by kernel_rfl) ?_
          refine WO.one (SQ.F 3 (by kernel_rfl)) 48 (.int .i64 (IntKind.i64.wrap ((a + 160 : Int) + 160))) (by kernel_rfl) ?_
          refine WO.top (v' := .int .i64 (((a + 160) + 160 : Nat) : Int)) (wrap_i64 (by omega) (by omega)) ?_
          refine WO.run 1 4 [(8, .int .i64 (((a + 160) + 160 : Nat) : Int))] (by kernel_rfl) (by kernel_rfl) ?_
          refine WO.done (by kernel_rfl) ?_
          refine WQ.keep [0, 1, 2, 6, 7, 8, 35] (e' := [(0, .slice (some ⟨b, 0, none⟩) n cap), (1, .int .i64 (n : Int)), (2, .func (.func 50) #[] #[]), (6, .int .i64 80), (7, .int .i64 (a + 160 : Int)), (8, .int .i64 (((a + 160) + 160 : Nat) : Int)), (35, .bool true)]) (by kernel_rfl) ?_
          refine WQ.blkN ?_
          refine WQ.round ?_
          intro a_ ha_
          refine ⟨(a + 160, p3), ?_, ha_.keep [0, 1, 2, 6, 7, 8] (by kernel_rfl), ?_⟩
          · show n - (a + 160) < n - a; omega
          · exact ⟨by show a + 160 ≤ n; omega, by show (a + 160) % 160 = 0; omega, hP.trans (hP3.mono (Nat.zero_le _) (by omega)), mrg_more (M := 160) (s := 80) (e := a + 160) hB hS3 hP3 (by omega) (by omega) (by omega) (by omega) (fun x y h => by omega), HR28, HA⟩
        · intro h25
          refine WO.done (by kernel_rfl) ?_
          refine WQ.keep [0, 1, 2, 6, 7, 8, 35] (e' := [(0, .slice (some ⟨b, 0, none⟩) n cap), (1, .int .i64 (n : Int)), (2, .func (.func 50) #[] #[]), (6, .int .i64 80), (7, .int .i64 (a : Int)), (8, .int .i64 (a + 160 : Int)), (35, .bool false)]) (by kernel_rfl) ?_
          refine WQ.thenN ?_
          refine WE.condF (by kernel_rfl) ?_
          refine WE.exit ?_
          refine WQ.thenE ?_
          refine WQ.thenE ?_
          refine WQ.blkE ?_
          refine WQ.thenN ?_
          refine WE.seq ?_
          refine WE.seq ?_
          -- R13 zsortanyfunc.go:352
          refine WE.region ?_
          refine WO.run 2 0 [(50, .int .i64 80), (49, .int .i64 (a : Int))] (by kernel_rfl) (by kernel_rfl) ?_
          refine WO.one (SQ.F 2 (by kernel_rfl)) 51 (.int .i64 (IntKind.i64.wrap ((a : Int) + 80))) (by kernel_rfl) ?_
          refine WO.top (v' := .int .i64 ((a + 80 : Nat) : Int)) (wrap_i64 (by omega) (by omega)) ?_
          refine WO.run 1 3 [(9, .int .i64 ((a + 80 : Nat) : Int))] (by kernel_rfl) (by kernel_rfl) ?_
          refine WO.done (by kernel_rfl) ?_
          refine WQ.keep [0, 1, 2, 6, 7, 8, 9, 35] (e' := [(0, .slice (some ⟨b, 0, none⟩) n cap), (1, .int .i64 (n : Int)), (2, .func (.func 50) #[] #[]), (6, .int .i64 80), (7, .int .i64 (a : Int)), (8, .int .i64 (a + 160 : Int)), (9, .int .i64 ((a + 80 : Nat) : Int)), (35, .bool false)]) (by kernel_rfl) ?_
          refine WQ.thenN ?_
          refine WE.seq ?_
          -- R14 zsortanyfunc.go:352
          refine WE.region ?_
          refine WO.run 2 0 [(53, .int .i64 (n : Int)), (52, .int .i64 ((a + 80 : Nat) : Int))] (by kernel_rfl) (by kernel_rfl) ?_
          refine WO.one (SQ.F 2 (by kernel_rfl)) 54 (.bool (decide (((a + 80 : Int) : Int) < (n : Int)))) (by kernel_rfl) ?_
          refine WO.topP (((a + 80 : Int) : Int) < (n : Int)) ?_ ?_
          · intro h29
            refine WO.done (by kernel_rfl) ?_
            refine WQ.keep [0, 1, 2, 6, 7, 8, 9, 35, 54] (e' := [(0, .slice (some ⟨b, 0, none⟩) n cap), (1, .int .i64 (n : Int)), (2, .func (.func 50) #[] #[]), (6, .int .i64 80), (7, .int .i64 (a : Int)), (8, .int .i64 (a + 160 : Int)), (9, .int .i64 ((a + 80 : Nat) : Int)), (35, .bool false), (54, .bool true)]) (by kernel_rfl) ?_
            refine WQ.thenN ?_
            refine WE.condT (by kernel_rfl) ?_
            -- R15 zsortanyfunc.go:353
            refine WE.region ?_
            refine WO.run 5 0 [(59, .func (.func 50) #[] #[]), (58, .int .i64 (n : Int)), (57, .int .i64 ((a + 80 : Nat) : Int)), (56, .int .i64 (a : Int)), (55, .slice (some ⟨b, 0, none⟩) n cap)] (by kernel_rfl) (by kernel_rfl) ?_
            refine WO.call (SQ.E 5 (by kernel_rfl)) 60 (by kernel_rfl) (sym_all (n - a) b n cap a (a + 80) n p _ rfl HR (hP.len.trans hn) (hP.allB hall) (by omega) (by omega) (by omega) (by omega) (fun x y h3 h4 h5 => (hB x y h4 (by omega)).2 (by omega) (by omega)) (fun x y h3 h4 h5 => (hB x y h4 (by omega)).2 (by omega) (by omega))) ?_
            rintro _ w30 ⟨p3, rfl, hP3, hS3, HR32, F31⟩
            refine ⟨_, rfl, trivial, ?_⟩
            have HA := Fr.step HA F31 (inSL (by simp) inS0)
            refine WO.done (by kernel_rfl) ?_
            refine WQ.keep [0, 1, 2, 6, 7, 8, 9, 35, 54] (e' := [(0, .slice (some ⟨b, 0, none⟩) n cap), (1, .int .i64 (n : Int)), (2, .func (.func 50) #[] #[]), (6, .int .i64 80), (7, .int .i64 (a : Int)), (8, .int .i64 (a + 160 : Int)), (9, .int .i64 ((a + 80 : Nat) : Int)), (35, .bool false), (54, .bool true)]) (by kernel_rfl) ?_
            refine WQ.thenN ?_
            -- R16 zsortanyfunc.go:355
            refine WE.region ?_
            refine WO.run 3 0 [(6, .int .i64 160), (62, .int .i64 160), (61, .int .i64 80)] (by kernel_rfl) (by kernel_rfl) ?_
            refine WO.done (by kernel_rfl) ?_
            refine WQ.keep [0, 1, 2, 6, 7, 8, 9, 35, 54] (e' := [(0, .slice (some ⟨b, 0, none⟩) n cap), (1, .int .i64 (n : Int)), (2, .func (.func 50) #[] #[]), (6, .int .i64 160), (7, .int .i64 (a : Int)), (8, .int .i64 (a + 160 : Int)), (9, .int .i64 ((a + 80 : Nat) : Int)), (35, .bool false), (54, .bool true)]) (by kernel_rfl) ?_
            refine WQ.blkN ?_
            refine WQ.round ?_
            intro a_ ha_
            refine ⟨(160, p3), ?_, ha_.keep [0, 1, 2, 6] (by kernel_rfl), ?_⟩
            · show 160 - 160 < 160 - 80; decide
            · exact ⟨by simp, hP.trans (hP3.mono (Nat.zero_le _) (Nat.le_refl _)), fun x y h3 h4 h5_ => (by have h5 : x / 160 = y / 160 := h5_; exact ((mrg_more (M := 160) (s := 80) (e := n) hB hS3 hP3 (by omega) (by omega) (by omega) (by omega) (fun x y h => by omega)) x y h3 h4).1 h4 h5), HR32, HA⟩
          · intro h29
            refine WO.done (by kernel_rfl) ?_
            refine WQ.keep [0, 1, 2, 6, 7, 8, 9, 35, 54] (e' := [(0, .slice (some ⟨b, 0, none⟩) n cap), (1, .int .i64 (n : Int)), (2, .func (.func 50) #[] #[]), (6, .int .i64 80), (7, .int .i64 (a : Int)), (8, .int .i64 (a + 160 : Int)), (9, .int .i64 ((a + 80 : Nat) : Int)), (35, .bool false), (54, .bool false)]) (by kernel_rfl) ?_
            refine WQ.thenN ?_
            refine WE.condF (by kernel_rfl) ?_
            refine WE.skip ?_
            refine WQ.thenN ?_
            -- R16 zsortanyfunc.go:355
            refine WE.region ?_
            refine WO.run 3 0 [(6, .int .i64 160), (62, .int .i64 160), (61, .int .i64 80)] (by kernel_rfl) (by kernel_rfl) ?_
            refine WO.done (by kernel_rfl) ?_
            refine WQ.keep [0, 1, 2, 6, 7, 8, 9, 35, 54] (e' := [(0, .slice (some ⟨b, 0, none⟩) n cap), (1, .int .i64 (n : Int)), (2, .func (.func 50) #[] #[]), (6, .int .i64 160), (7, .int .i64 (a : Int)), (8, .int .i64 (a + 160 : Int)), (9, .int .i64 ((a + 80 : Nat) : Int)), (35, .bool false), (54, .bool false)]) (by kernel_rfl) ?_
            refine WQ.blkN ?_
            refine WQ.round ?_
            intro a_ ha_
            refine ⟨(160, p), ?_, ha_.keep [0, 1, 2, 6] (by kernel_rfl), ?_⟩
            · show 160 - 160 < 160 - 80; decide
            · exact ⟨by simp, hP, fun x y h3 h4 h5_ => (by have h5 : x / 160 = y / 160 := h5_; by_cases hya : y < a; exact (hB x y h3 h4).1 hya h5; exact (hB x y h3 h4).2 (by omega) (by omega)), HR, HA⟩
      · exfalso; omega
    · intro h8
      refine WO.done (by kernel_rfl) ?_
      refine WQ.keep [0, 1, 2, 6, 30] (e' := [(0, .slice (some ⟨b, 0, none⟩) n cap), (1, .int .i64 (n : Int)), (2, .func (.func 50) #[] #[]), (6, .int .i64 (bs : Int)), (30, .bool false)]) (by kernel_rfl) ?_
      refine WQ.thenN ?_
      refine WE.condF (by kernel_rfl) ?_
      refine WE.exit ?_
      refine WQ.thenE ?_
      refine WQ.thenE ?_
      refine WQ.blkE ?_
      refine WQ.fall (v := .tuple #[]) (by kernel_rfl) ?_
      exact ⟨p, rfl, hP, fun x y h3 h4 h5 => hB x y h4 h5 (by rcases hbs with rfl | rfl | rfl | rfl <;> omega), HR, HA⟩
end Go.Proofs.Ytjnjkgoofkgiiaa.Edge
