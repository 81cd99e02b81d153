/- Layer 2's walks: the symmetric merge, whole. -/
import Derived.Test.YtjnjkgoofkgiiaaEdgeZ
set_option linter.unusedVariables false
set_option linter.unusedSimpArgs false
namespace Go.Proofs.Ytjnjkgoofkgiiaa.Edge
open Go Go.RowKit Go.Proofs.Ytjnjkgoofkgiiaa Go.Proofs.Ytjnjkgoofkgiiaa.Eng Go.Proofs.YtjnjkgoofkgiiaaW.PrintWords
theorem rot_triv {f : Nat → Nat} {s m e x : Nat} (h : m ≤ s ∧ m ≤ e ∨ e ≤ m ∧ s ≤ m) : rotF f s m e x = f x := by
  unfold rotF
  refine ite_eq (fun h1 => ?_) (fun h1 => ite_eq (fun h2 => ?_) (fun h2 => rfl)) <;> congr 1 <;> omega
theorem mid_facts {q p : List Nat} {a m bb s e mid : Nat} (h1 : Srt (rk q) a m) (h2 : Srt (rk q) m bb) (has : a ≤ s) (hsm : s ≤ m) (hme : m ≤ e) (heb : e ≤ bb) (hs2 : s ≤ mid) (he : s + e = mid + m) (hmb : mid ≤ bb) (ham : a ≤ mid)
    (hl : p.length = q.length) (hf : ∀ x, g0 p x = rotF (g0 q) s m e x) (hp : p.Perm q) (hL : a < s → e < bb → rk q (s - 1) ≤ rk q e) (hR : s < m → m < e → rk q (e - 1) ≤ rk q s) :
    PIn a bb q p ∧ Srt (rk p) a s ∧ Srt (rk p) s mid ∧ Srt (rk p) mid e ∧ Srt (rk p) e bb ∧ (∀ i j, a ≤ i → i < mid → mid ≤ j → j < bb → rk p i ≤ rk p j) := by
  have hr : rk p = rotF (rk q) s m e := by
    funext x
    unfold rk
    rw [hf]
    unfold rotF
    split
    · rfl
    · split <;> rfl
  rw [hr]
  exact ⟨⟨hl, fun x hx => by rw [hf]; unfold rotF; rw [if_neg (by omega), if_neg (by omega)], hp⟩, sym_mid h1 h2 has hsm hme heb hs2 he hmb ham hL hR⟩
theorem srt_side {r : Nat → Nat} {a s b : Nat} (h1 : Srt r a s) (h2 : Srt r s b) (h : s ≤ a ∨ b ≤ s) : Srt r a b := by
  intro i j hi hij hj
  rcases h with h | h
  · exact h2 i j (by omega) hij hj
  · exact h1 i j hi hij (by omega)
theorem srt_out {q p : List Nat} {a b x y : Nat} (h : Srt (rk q) x y) (hP : PIn a b q p) (hb : b ≤ x) : Srt (rk p) x y := by
  intro i j hi hij hj
  rw [rk_out hP (.inr (by omega)), rk_out hP (.inr (by omega))]
  exact h i j hi hij hj
theorem final_srt {q p1 p2 p3 : List Nat} {a mid bb : Nat} (h1 : a ≤ mid) (h2 : mid ≤ bb) (hb : bb ≤ q.length) (hP1 : PIn a bb q p1) (hP2 : PIn a mid p1 p2) (hP3 : PIn mid bb p2 p3) (hS2 : Srt (rk p2) a mid) (hS3 : Srt (rk p3) mid bb)
    (hx : ∀ i j, a ≤ i → i < mid → mid ≤ j → j < bb → rk p1 i ≤ rk p1 j) : PIn a bb q p3 ∧ Srt (rk p3) a bb := by
  have l1 := hP1.len
  have l2 := hP2.len
  refine ⟨(hP1.trans (hP2.mono (Nat.le_refl _) h2)).trans (hP3.mono h1 (Nat.le_refl _)), ?_⟩
  have x2 : ∀ i j, a ≤ i → i < mid → mid ≤ j → j < bb → rk p2 i ≤ rk p2 j := fun i j hi hi2 hj hj2 => by
    rw [rk_out hP2 (i := j) (.inr hj)]
    exact hP2.all (by omega) (fun v => rank v ≤ rk p1 j) (fun k k1 k2 => hx k j k1 k2 hj hj2) i hi hi2
  have x3 : ∀ i j, a ≤ i → i < mid → mid ≤ j → j < bb → rk p3 i ≤ rk p3 j := fun i j hi hi2 hj hj2 => by
    rw [rk_out hP3 (i := i) (.inl hi2)]
    exact hP3.all (by omega) (fun v => rk p2 i ≤ rank v) (fun k k1 k2 => x2 i k hi hi2 k1 k2) j hj hj2
  refine srt_join (m := mid) (fun i j hi hij hj => ?_) hS3 x3
  rw [rk_out hP3 (.inl (by omega)), rk_out hP3 (.inl hj)]
  exact hS2 i j hi hij hj
set_option maxRecDepth 100000 in
set_option maxHeartbeats 2000000 in
theorem sym_m1 (N : Nat) (ih : ∀ M, M < N → SymOk M) (b n cap a m bb : Nat) (q : List Nat) (w : World) (hN : bb - a = N) (HR : RowB w b 53 1 cap (q.map cF)) (hn : q.length = n) (hall : All q) (hm : n ≤ 1000000) (ham : a < m) (hmb : m < bb) (hbn : bb ≤ n) (hs1 : Srt (rk q) a m) (hs2 : Srt (rk q) m bb) (hm1 : m ≠ a + 1) (hm2 : bb ≠ m + 1) (hgt : ((a + bb) / 2) < m) :
    Calls Try.prog 66 #[.slice (some ⟨b, 0, none⟩) n cap, .int .i64 (a : Int), .int .i64 (m : Int), .int .i64 (bb : Int), .func (.func 50) #[] #[]] w fun e w' => ∃ p, e = .returned (.tuple #[]) ∧ PIn a bb q p ∧ Srt (rk p) a bb ∧ RowB w' b 53 1 cap (p.map cF) ∧ Fr [b] w w' := by
  have HA := Fr.refl [b] w
  refine enter (N := 220) Try.func66 (c := _) rfl (by kernel_rfl) (by kernel_rfl) (e := [(0, .slice (some ⟨b, 0, none⟩) n cap), (1, .int .i64 (a : Int)), (2, .int .i64 (m : Int)), (3, .int .i64 (bb : Int)), (4, .func (.func 50) #[] #[])]) (by kernel_rfl) ?_
  refine WE.seq ?_
  refine WE.seq ?_
  -- R0 zsortanyfunc.go:382
  refine WE.region ?_
  refine WO.run 2 0 [(26, .int .i64 (a : Int)), (25, .int .i64 (m : Int))] (by kernel_rfl) (by kernel_rfl) ?_
  refine WO.one (SQ.F 2 (by kernel_rfl)) 27 (.int .i64 (IntKind.i64.wrap ((m : Int) - (a : Int)))) (by kernel_rfl) ?_
  refine WO.top (v' := .int .i64 ((m - a : Nat) : Int)) (wrap_i64 (by omega) (by omega)) ?_
  refine WO.one (SQ.F 3 (by kernel_rfl)) 28 (.bool (decide ((((m - a : Nat) : Int) : Int) = (1 : Int)))) (by kernel_rfl) ?_
  refine WO.topPF ((((m - a : Nat) : Int) : Int) = (1 : Int)) (by omega) ?_
  refine WO.done (by kernel_rfl) ?_
  refine WQ.keep [0, 1, 2, 3, 4, 28] (e' := [(0, .slice (some ⟨b, 0, none⟩) n cap), (1, .int .i64 (a : Int)), (2, .int .i64 (m : Int)), (3, .int .i64 (bb : Int)), (4, .func (.func 50) #[] #[]), (28, .bool false)]) (by kernel_rfl) ?_
  refine WQ.thenN ?_
  refine WE.condF (by kernel_rfl) ?_
  refine WE.skip ?_
  refine WQ.thenN ?_
  refine WE.seq ?_
  refine WE.seq ?_
  -- R12 zsortanyfunc.go:406
  refine WE.region ?_
  refine WO.run 2 0 [(78, .int .i64 (m : Int)), (77, .int .i64 (bb : Int))] (by kernel_rfl) (by kernel_rfl) ?_
  refine WO.one (SQ.F 2 (by kernel_rfl)) 79 (.int .i64 (IntKind.i64.wrap ((bb : Int) - (m : Int)))) (by kernel_rfl) ?_
  refine WO.top (v' := .int .i64 ((bb - m : Nat) : Int)) (wrap_i64 (by omega) (by omega)) ?_
  refine WO.one (SQ.F 3 (by kernel_rfl)) 80 (.bool (decide ((((bb - m : Nat) : Int) : Int) = (1 : Int)))) (by kernel_rfl) ?_
  refine WO.topPF ((((bb - m : Nat) : Int) : Int) = (1 : Int)) (by omega) ?_
  refine WO.done (by kernel_rfl) ?_
  refine WQ.keep [0, 1, 2, 3, 4, 28, 80] (e' := [(0, .slice (some ⟨b, 0, none⟩) n cap), (1, .int .i64 (a : Int)), (2, .int .i64 (m : Int)), (3, .int .i64 (bb : Int)), (4, .func (.func 50) #[] #[]), (28, .bool false), (80, .bool false)]) (by kernel_rfl) ?_
  refine WQ.thenN ?_
  refine WE.condF (by kernel_rfl) ?_
  refine WE.skip ?_
  refine WQ.thenN ?_
  refine WE.seq ?_
  -- R24 zsortanyfunc.go:427
  refine WE.region ?_
  refine WO.run 2 0 [(130, .int .i64 (bb : Int)), (129, .int .i64 (a : Int))] (by kernel_rfl) (by kernel_rfl) ?_
  refine WO.one (SQ.F 2 (by kernel_rfl)) 131 (.int .i64 (IntKind.i64.wrap ((a : Int) + (bb : Int)))) (by kernel_rfl) ?_
  refine WO.top (v' := .int .i64 ((a + bb : Nat) : Int)) (wrap_i64 (by omega) (by omega)) ?_
  refine WO.one (SQ.F 3 (by kernel_rfl)) 132 (.int .u64 (IntKind.u64.wrap ((a + bb : Nat) : Int))) (by kernel_rfl) ?_
  refine WO.top (v' := .int .u64 ((a + bb : Nat) : Int)) (wrap_u64 rfl (by omega)) ?_
  refine WO.one (SQ.F 4 (by kernel_rfl)) 133 (.int .u64 (Int.fdiv ((a + bb : Nat) : Int) (2 ^ 1))) (by kernel_rfl) ?_
  refine WO.top (v' := .int .u64 (((a + bb) / 2 : Nat) : Int)) (congrArg (Value.int .u64) (half_nat _)) ?_
  refine WO.one (SQ.F 5 (by kernel_rfl)) 134 (.int .i64 (IntKind.i64.wrap (((a + bb) / 2 : Nat) : Int))) (by kernel_rfl) ?_
  refine WO.top (v' := .int .i64 (((a + bb) / 2 : Nat) : Int)) (wrap_i64 rfl (by omega)) ?_
  refine WO.run 1 6 [(18, .int .i64 (((a + bb) / 2 : Nat) : Int))] (by kernel_rfl) (by kernel_rfl) ?_
  refine WO.done (by kernel_rfl) ?_
  refine WQ.keep [0, 1, 2, 3, 4, 18, 28, 80] (e' := [(0, .slice (some ⟨b, 0, none⟩) n cap), (1, .int .i64 (a : Int)), (2, .int .i64 (m : Int)), (3, .int .i64 (bb : Int)), (4, .func (.func 50) #[] #[]), (18, .int .i64 (((a + bb) / 2 : Nat) : Int)), (28, .bool false), (80, .bool false)]) (by kernel_rfl) ?_
  refine WQ.thenN ?_
  refine WE.seq ?_
  -- R25 zsortanyfunc.go:428
  refine WE.region ?_
  refine WO.run 2 0 [(136, .int .i64 (m : Int)), (135, .int .i64 (((a + bb) / 2 : Nat) : Int))] (by kernel_rfl) (by kernel_rfl) ?_
  refine WO.one (SQ.F 2 (by kernel_rfl)) 137 (.int .i64 (IntKind.i64.wrap ((((a + bb) / 2 : Nat) : Int) + (m : Int)))) (by kernel_rfl) ?_
  refine WO.top (v' := .int .i64 ((((a + bb) / 2) + m : Nat) : Int)) (wrap_i64 (by omega) (by omega)) ?_
  refine WO.run 1 3 [(19, .int .i64 ((((a + bb) / 2) + m : Nat) : Int))] (by kernel_rfl) (by kernel_rfl) ?_
  refine WO.done (by kernel_rfl) ?_
  refine WQ.keep [0, 1, 2, 3, 4, 18, 19, 28, 80] (e' := [(0, .slice (some ⟨b, 0, none⟩) n cap), (1, .int .i64 (a : Int)), (2, .int .i64 (m : Int)), (3, .int .i64 (bb : Int)), (4, .func (.func 50) #[] #[]), (18, .int .i64 (((a + bb) / 2 : Nat) : Int)), (19, .int .i64 ((((a + bb) / 2) + m : Nat) : Int)), (28, .bool false), (80, .bool false)]) (by kernel_rfl) ?_
  refine WQ.thenN ?_
  refine WE.seq ?_
  -- R26 zsortanyfunc.go:429
  refine WE.region ?_
  refine WO.run 2 0 [(21, .int .i64 0), (20, .int .i64 0)] (by kernel_rfl) (by kernel_rfl) ?_
  refine WO.done (by kernel_rfl) ?_
  refine WQ.keep [0, 1, 2, 3, 4, 18, 19, 20, 21, 28, 80] (e' := [(0, .slice (some ⟨b, 0, none⟩) n cap), (1, .int .i64 (a : Int)), (2, .int .i64 (m : Int)), (3, .int .i64 (bb : Int)), (4, .func (.func 50) #[] #[]), (18, .int .i64 (((a + bb) / 2 : Nat) : Int)), (19, .int .i64 ((((a + bb) / 2) + m : Nat) : Int)), (20, .int .i64 0), (21, .int .i64 0), (28, .bool false), (80, .bool false)]) (by kernel_rfl) ?_
  refine WQ.thenN ?_
  refine WE.seq ?_
  refine WE.seq ?_
  -- R27 zsortanyfunc.go:430
  refine WE.region ?_
  refine WO.run 2 0 [(139, .int .i64 (((a + bb) / 2 : Nat) : Int)), (138, .int .i64 (m : Int))] (by kernel_rfl) (by kernel_rfl) ?_
  refine WO.one (SQ.F 2 (by kernel_rfl)) 140 (.bool (decide (((m : Int) : Int) > (((a + bb) / 2 : Nat) : Int)))) (by kernel_rfl) ?_
  refine WO.topPT (((m : Int) : Int) > (((a + bb) / 2 : Nat) : Int)) (by omega) ?_
  refine WO.done (by kernel_rfl) ?_
  refine WQ.keep [0, 1, 2, 3, 4, 18, 19, 20, 21, 28, 80, 140] (e' := [(0, .slice (some ⟨b, 0, none⟩) n cap), (1, .int .i64 (a : Int)), (2, .int .i64 (m : Int)), (3, .int .i64 (bb : Int)), (4, .func (.func 50) #[] #[]), (18, .int .i64 (((a + bb) / 2 : Nat) : Int)), (19, .int .i64 ((((a + bb) / 2) + m : Nat) : Int)), (20, .int .i64 0), (21, .int .i64 0), (28, .bool false), (80, .bool false), (140, .bool true)]) (by kernel_rfl) ?_
  refine WQ.thenN ?_
  refine WE.condT (by kernel_rfl) ?_
  refine WE.seq ?_
  -- R28 zsortanyfunc.go:431
  refine WE.region ?_
  refine WO.run 2 0 [(142, .int .i64 (bb : Int)), (141, .int .i64 ((((a + bb) / 2) + m : Nat) : Int))] (by kernel_rfl) (by kernel_rfl) ?_
  refine WO.one (SQ.F 2 (by kernel_rfl)) 143 (.int .i64 (IntKind.i64.wrap (((((a + bb) / 2) + m : Nat) : Int) - (bb : Int)))) (by kernel_rfl) ?_
  refine WO.top (v' := .int .i64 (((((a + bb) / 2) + m) - bb : Nat) : Int)) (wrap_i64 (by omega) (by omega)) ?_
  refine WO.run 1 3 [(20, .int .i64 (((((a + bb) / 2) + m) - bb : Nat) : Int))] (by kernel_rfl) (by kernel_rfl) ?_
  refine WO.done (by kernel_rfl) ?_
  refine WQ.keep [0, 1, 2, 3, 4, 18, 19, 20, 21, 28, 80, 140] (e' := [(0, .slice (some ⟨b, 0, none⟩) n cap), (1, .int .i64 (a : Int)), (2, .int .i64 (m : Int)), (3, .int .i64 (bb : Int)), (4, .func (.func 50) #[] #[]), (18, .int .i64 (((a + bb) / 2 : Nat) : Int)), (19, .int .i64 ((((a + bb) / 2) + m : Nat) : Int)), (20, .int .i64 (((((a + bb) / 2) + m) - bb : Nat) : Int)), (21, .int .i64 0), (28, .bool false), (80, .bool false), (140, .bool true)]) (by kernel_rfl) ?_
  refine WQ.thenN ?_
  -- R29 zsortanyfunc.go:432
  refine WE.region ?_
  refine WO.run 2 0 [(21, .int .i64 (((a + bb) / 2 : Nat) : Int)), (144, .int .i64 (((a + bb) / 2 : Nat) : Int))] (by kernel_rfl) (by kernel_rfl) ?_
  refine WO.done (by kernel_rfl) ?_
  refine WQ.keep [0, 1, 2, 3, 4, 18, 19, 20, 21, 28, 80, 140] (e' := [(0, .slice (some ⟨b, 0, none⟩) n cap), (1, .int .i64 (a : Int)), (2, .int .i64 (m : Int)), (3, .int .i64 (bb : Int)), (4, .func (.func 50) #[] #[]), (18, .int .i64 (((a + bb) / 2 : Nat) : Int)), (19, .int .i64 ((((a + bb) / 2) + m : Nat) : Int)), (20, .int .i64 (((((a + bb) / 2) + m) - bb : Nat) : Int)), (21, .int .i64 (((a + bb) / 2 : Nat) : Int)), (28, .bool false), (80, .bool false), (140, .bool true)]) (by kernel_rfl) ?_
  refine WQ.thenN ?_
  refine WE.seq ?_
  -- R32 zsortanyfunc.go:437
  refine WE.region ?_
  refine WO.run 1 0 [(147, .int .i64 ((((a + bb) / 2) + m : Nat) : Int))] (by kernel_rfl) (by kernel_rfl) ?_
  refine WO.one (SQ.F 1 (by kernel_rfl)) 148 (.int .i64 (IntKind.i64.wrap (((((a + bb) / 2) + m : Nat) : Int) - 1))) (by kernel_rfl) ?_
  refine WO.top (v' := .int .i64 (((((a + bb) / 2) + m) - 1 : Nat) : Int)) (wrap_i64 (by omega) (by omega)) ?_
  refine WO.run 1 2 [(22, .int .i64 (((((a + bb) / 2) + m) - 1 : Nat) : Int))] (by kernel_rfl) (by kernel_rfl) ?_
  refine WO.done (by kernel_rfl) ?_
  refine WQ.keep [0, 1, 2, 3, 4, 18, 19, 20, 21, 22, 28, 80, 140] (e' := [(0, .slice (some ⟨b, 0, none⟩) n cap), (1, .int .i64 (a : Int)), (2, .int .i64 (m : Int)), (3, .int .i64 (bb : Int)), (4, .func (.func 50) #[] #[]), (18, .int .i64 (((a + bb) / 2 : Nat) : Int)), (19, .int .i64 ((((a + bb) / 2) + m : Nat) : Int)), (20, .int .i64 (((((a + bb) / 2) + m) - bb : Nat) : Int)), (21, .int .i64 (((a + bb) / 2 : Nat) : Int)), (22, .int .i64 (((((a + bb) / 2) + m) - 1 : Nat) : Int)), (28, .bool false), (80, .bool false), (140, .bool true)]) (by kernel_rfl) ?_
  refine WQ.thenN ?_
  refine WE.seq ?_
  refine WE.block ?_
  refine WE.loop (α := Nat × Nat) (E := fun z => [(0, .slice (some ⟨b, 0, none⟩) n cap), (1, .int .i64 (a : Int)), (2, .int .i64 (m : Int)), (3, .int .i64 (bb : Int)), (4, .func (.func 50) #[] #[]), (18, .int .i64 (((a + bb) / 2 : Nat) : Int)), (19, .int .i64 ((((a + bb) / 2) + m : Nat) : Int)), (20, .int .i64 (z.1 : Int)), (21, .int .i64 (z.2 : Int)), (22, .int .i64 (((((a + bb) / 2) + m) - 1 : Nat) : Int))]) (I := fun z wr => (((a + bb) / 2) + m - bb) ≤ z.1 ∧ z.1 ≤ z.2 ∧ z.2 ≤ ((a + bb) / 2) ∧ ((((a + bb) / 2) + m - bb) < z.1 → rk q (z.1 - 1) ≤ rk q (((a + bb) / 2) + m - z.1)) ∧ (z.2 < ((a + bb) / 2) → rk q (((a + bb) / 2) + m - 1 - z.2) < rk q z.2) ∧ RowB wr b 53 1 cap (q.map cF) ∧ Fr [b] w wr) (m := fun z => z.2 - z.1) ((((a + bb) / 2) + m - bb), ((a + bb) / 2)) [0, 1, 2, 3, 4, 18, 19, 20, 21, 22] (by kernel_rfl) ?_ ?_
  · exact ⟨Nat.le_refl _, by show (((a + bb) / 2) + m - bb) ≤ ((a + bb) / 2); omega, Nat.le_refl _, fun h => absurd h (Nat.lt_irrefl _), fun h => absurd h (Nat.lt_irrefl _), HR, HA⟩
  rintro ⟨i, j⟩ wr ⟨hlo, hij, hhi, hA, hB, HR, HA⟩
  dsimp only at hlo hij hhi hA hB
  refine WE.seq ?_
  refine WE.seq ?_
  -- R33 zsortanyfunc.go:439
  refine WE.region ?_
  refine WO.run 2 0 [(150, .int .i64 (j : Int)), (149, .int .i64 (i : Int))] (by kernel_rfl) (by kernel_rfl) ?_
  refine WO.one (SQ.F 2 (by kernel_rfl)) 151 (.bool (decide (((i : Int) : Int) < (j : Int)))) (by kernel_rfl) ?_
  refine WO.topP (((i : Int) : Int) < (j : Int)) ?_ ?_
  · intro h1
    refine WO.done (by kernel_rfl) ?_
    refine WQ.keep [0, 1, 2, 3, 4, 18, 19, 20, 21, 22, 151] (e' := [(0, .slice (some ⟨b, 0, none⟩) n cap), (1, .int .i64 (a : Int)), (2, .int .i64 (m : Int)), (3, .int .i64 (bb : Int)), (4, .func (.func 50) #[] #[]), (18, .int .i64 (((a + bb) / 2 : Nat) : Int)), (19, .int .i64 ((((a + bb) / 2) + m : Nat) : Int)), (20, .int .i64 (i : Int)), (21, .int .i64 (j : Int)), (22, .int .i64 (((((a + bb) / 2) + m) - 1 : Nat) : Int)), (151, .bool true)]) (by kernel_rfl) ?_
    refine WQ.thenN ?_
    refine WE.condT (by kernel_rfl) ?_
    refine WE.skip ?_
    refine WQ.thenN ?_
    refine WE.block ?_
    refine WE.seq ?_
    -- R34 zsortanyfunc.go:440
    refine WE.region ?_
    refine WO.run 2 0 [(153, .int .i64 (j : Int)), (152, .int .i64 (i : Int))] (by kernel_rfl) (by kernel_rfl) ?_
    refine WO.one (SQ.F 2 (by kernel_rfl)) 154 (.int .i64 (IntKind.i64.wrap ((i : Int) + (j : Int)))) (by kernel_rfl) ?_
    refine WO.top (v' := .int .i64 ((i + j : Nat) : Int)) (wrap_i64 (by omega) (by omega)) ?_
    refine WO.one (SQ.F 3 (by kernel_rfl)) 155 (.int .u64 (IntKind.u64.wrap ((i + j : Nat) : Int))) (by kernel_rfl) ?_
    refine WO.top (v' := .int .u64 ((i + j : Nat) : Int)) (wrap_u64 rfl (by omega)) ?_
    refine WO.one (SQ.F 4 (by kernel_rfl)) 156 (.int .u64 (Int.fdiv ((i + j : Nat) : Int) (2 ^ 1))) (by kernel_rfl) ?_
    refine WO.top (v' := .int .u64 (((i + j) / 2 : Nat) : Int)) (congrArg (Value.int .u64) (half_nat _)) ?_
    refine WO.one (SQ.F 5 (by kernel_rfl)) 157 (.int .i64 (IntKind.i64.wrap (((i + j) / 2 : Nat) : Int))) (by kernel_rfl) ?_
    refine WO.top (v' := .int .i64 (((i + j) / 2 : Nat) : Int)) (wrap_i64 rfl (by omega)) ?_
    refine WO.run 1 6 [(23, .int .i64 (((i + j) / 2 : Nat) : Int))] (by kernel_rfl) (by kernel_rfl) ?_
    refine WO.done (by kernel_rfl) ?_
    refine WQ.keep [0, 1, 2, 3, 4, 18, 19, 20, 21, 22, 23, 151] (e' := [(0, .slice (some ⟨b, 0, none⟩) n cap), (1, .int .i64 (a : Int)), (2, .int .i64 (m : Int)), (3, .int .i64 (bb : Int)), (4, .func (.func 50) #[] #[]), (18, .int .i64 (((a + bb) / 2 : Nat) : Int)), (19, .int .i64 ((((a + bb) / 2) + m : Nat) : Int)), (20, .int .i64 (i : Int)), (21, .int .i64 (j : Int)), (22, .int .i64 (((((a + bb) / 2) + m) - 1 : Nat) : Int)), (23, .int .i64 (((i + j) / 2 : Nat) : Int)), (151, .bool true)]) (by kernel_rfl) ?_
    refine WQ.thenN ?_
    refine WE.seq ?_
    -- R35* zsortanyfunc.go:441
    refine WE.draw [.free, .free, .free, .free, .free, .free, .still, .free, .free, .free, .still, .eff, .free, .free] Same sameR (by kernel_rfl) 14 (Array.replicate 14 false) (by kernel_rfl) rfl ?_
    intro w2 F3 _
    have HR := RowB.keep HR F3 (nin0 _)
    have HA := Fr.step0 HA F3
    refine WO.one (SA.F sameR sameT _ 0 _ (by kernel_rfl)) 158 (.func (.func 50) #[] #[]) (by kernel_rfl) ?_
    refine WO.one (SA.F sameR sameT _ 1 _ (by kernel_rfl)) 159 (.slice (some ⟨b, 0, none⟩) n cap) (by kernel_rfl) ?_
    refine WO.one (SA.F sameR sameT _ 2 _ (by kernel_rfl)) 160 (.int .i64 (((((a + bb) / 2) + m) - 1 : Nat) : Int)) (by kernel_rfl) ?_
    refine WO.one (SA.F sameR sameT _ 3 _ (by kernel_rfl)) 161 (.int .i64 (((i + j) / 2 : Nat) : Int)) (by kernel_rfl) ?_
    refine WO.one (SA.F sameR sameT _ 4 _ (by kernel_rfl)) 162 (.int .i64 (IntKind.i64.wrap ((((((a + bb) / 2) + m) - 1 : Nat) : Int) - (((i + j) / 2 : Nat) : Int)))) (by kernel_rfl) ?_
    refine WO.top (v' := .int .i64 ((((((a + bb) / 2) + m) - 1) - ((i + j) / 2) : Nat) : Int)) (wrap_i64 (by omega) (by omega)) ?_
    refine WO.ixB (SA.F sameR sameT _ 5 _ (by kernel_rfl)) 163 (((((a + bb) / 2) + m) - 1) - ((i + j) / 2)) b 0 n 1 ((((((a + bb) / 2) + m) - 1) - ((i + j) / 2) : Nat) : Int) (by kernel_rfl) (by omega) (by omega) (by omega) ?_
    refine WO.ld (SA.S sameR sameT _ 6 _ (by kernel_rfl)) 164 (.float .f64 (g0 q (((((a + bb) / 2) + m) - 1) - ((i + j) / 2)))) (by kernel_rfl) (same (HR.at (((((a + bb) / 2) + m) - 1) - ((i + j) / 2)) 0 (((((a + bb) / 2) + m) - 1) - ((i + j) / 2)) _ (by rw [List.length_map]; have := hn; omega) (by omega) (by rw [(map_atF q (((((a + bb) / 2) + m) - 1) - ((i + j) / 2)) (by have := hn; omega))]; rfl) (by omega))) ?_
    refine WO.one (SA.F sameR sameT _ 7 _ (by kernel_rfl)) 165 (.slice (some ⟨b, 0, none⟩) n cap) (by kernel_rfl) ?_
    refine WO.one (SA.F sameR sameT _ 8 _ (by kernel_rfl)) 166 (.int .i64 (((i + j) / 2 : Nat) : Int)) (by kernel_rfl) ?_
    refine WO.ixB (SA.F sameR sameT _ 9 _ (by kernel_rfl)) 167 ((i + j) / 2) b 0 n 1 (((i + j) / 2 : Nat) : Int) (by kernel_rfl) (by omega) (by omega) (by omega) ?_
    refine WO.ld (SA.S sameR sameT _ 10 _ (by kernel_rfl)) 168 (.float .f64 (g0 q ((i + j) / 2))) (by kernel_rfl) (same (HR.at ((i + j) / 2) 0 ((i + j) / 2) _ (by rw [List.length_map]; have := hn; omega) (by omega) (by rw [(map_atF q ((i + j) / 2) (by have := hn; omega))]; rfl) (by omega))) ?_
    refine WO.call (SA.E _ 11 _ (by kernel_rfl) rfl) 169 (by kernel_rfl) (cmp_f (g0 q (((((a + bb) / 2) + m) - 1) - ((i + j) / 2))) (g0 q ((i + j) / 2)) _ (hall _ (by omega)) (hall _ (by omega))) ?_
    rintro _ w4 ⟨rfl, F5⟩
    refine ⟨_, rfl, trivial, ?_⟩
    have HR := RowB.keep HR F5 (nin0 _)
    have HA := Fr.step0 HA F5
    refine WO.one (SA.F sameR sameT _ 12 _ (by kernel_rfl)) 170 (.bool (decide ((cmpZ (g0 q (((((a + bb) / 2) + m) - 1) - ((i + j) / 2))) (g0 q ((i + j) / 2)) : Int) < 0))) (by kernel_rfl) ?_
    refine WO.topP ((cmpZ (g0 q (((((a + bb) / 2) + m) - 1) - ((i + j) / 2))) (g0 q ((i + j) / 2)) : Int) < 0) ?_ ?_
    · intro h6
      refine WO.one (SA.F sameR sameT _ 13 _ (by kernel_rfl)) 171 (.bool false) (by kernel_rfl) ?_
      refine WO.doneA (by kernel_rfl) ?_
      refine WQ.keep [0, 1, 2, 3, 4, 18, 19, 20, 21, 22, 23, 151, 171] (e' := [(0, .slice (some ⟨b, 0, none⟩) n cap), (1, .int .i64 (a : Int)), (2, .int .i64 (m : Int)), (3, .int .i64 (bb : Int)), (4, .func (.func 50) #[] #[]), (18, .int .i64 (((a + bb) / 2 : Nat) : Int)), (19, .int .i64 ((((a + bb) / 2) + m : Nat) : Int)), (20, .int .i64 (i : Int)), (21, .int .i64 (j : Int)), (22, .int .i64 (((((a + bb) / 2) + m) - 1 : Nat) : Int)), (23, .int .i64 (((i + j) / 2 : Nat) : Int)), (151, .bool true), (171, .bool false)]) (by kernel_rfl) ?_
      refine WQ.thenN ?_
      refine WE.condF (by kernel_rfl) ?_
      -- R37 zsortanyfunc.go:444
      refine WE.region ?_
      refine WO.run 2 0 [(21, .int .i64 (((i + j) / 2 : Nat) : Int)), (174, .int .i64 (((i + j) / 2 : Nat) : Int))] (by kernel_rfl) (by kernel_rfl) ?_
      refine WO.done (by kernel_rfl) ?_
      refine WQ.keep [0, 1, 2, 3, 4, 18, 19, 20, 21, 22, 23, 151, 171] (e' := [(0, .slice (some ⟨b, 0, none⟩) n cap), (1, .int .i64 (a : Int)), (2, .int .i64 (m : Int)), (3, .int .i64 (bb : Int)), (4, .func (.func 50) #[] #[]), (18, .int .i64 (((a + bb) / 2 : Nat) : Int)), (19, .int .i64 ((((a + bb) / 2) + m : Nat) : Int)), (20, .int .i64 (i : Int)), (21, .int .i64 (((i + j) / 2 : Nat) : Int)), (22, .int .i64 (((((a + bb) / 2) + m) - 1 : Nat) : Int)), (23, .int .i64 (((i + j) / 2 : Nat) : Int)), (151, .bool true), (171, .bool false)]) (by kernel_rfl) ?_
      refine WQ.blkN ?_
      refine WQ.round ?_
      intro a_ ha_
      refine ⟨(i, (i + j) / 2), ?_, ha_.keep [0, 1, 2, 3, 4, 18, 19, 20, 21, 22] (by kernel_rfl), ?_⟩
      · show (i + j) / 2 - i < j - i; omega
      · exact ⟨hlo, by show i ≤ (i + j) / 2; omega, by show (i + j) / 2 ≤ ((a + bb) / 2); omega, hA, fun _ => (cmpZ_rk _ _ _).1 h6, HR, HA⟩
    · intro h6
      refine WO.one (SA.F sameR sameT _ 13 _ (by kernel_rfl)) 171 (.bool true) (by kernel_rfl) ?_
      refine WO.doneA (by kernel_rfl) ?_
      refine WQ.keep [0, 1, 2, 3, 4, 18, 19, 20, 21, 22, 23, 151, 171] (e' := [(0, .slice (some ⟨b, 0, none⟩) n cap), (1, .int .i64 (a : Int)), (2, .int .i64 (m : Int)), (3, .int .i64 (bb : Int)), (4, .func (.func 50) #[] #[]), (18, .int .i64 (((a + bb) / 2 : Nat) : Int)), (19, .int .i64 ((((a + bb) / 2) + m : Nat) : Int)), (20, .int .i64 (i : Int)), (21, .int .i64 (j : Int)), (22, .int .i64 (((((a + bb) / 2) + m) - 1 : Nat) : Int)), (23, .int .i64 (((i + j) / 2 : Nat) : Int)), (151, .bool true), (171, .bool true)]) (by kernel_rfl) ?_
      refine WQ.thenN ?_
      refine WE.condT (by kernel_rfl) ?_
      -- R36 zsortanyfunc.go:442
      refine WE.region ?_
      refine WO.run 1 0 [(172, .int .i64 (((i + j) / 2 : Nat) : Int))] (by kernel_rfl) (by kernel_rfl) ?_
      refine WO.one (SQ.F 1 (by kernel_rfl)) 173 (.int .i64 (IntKind.i64.wrap ((((i + j) / 2 : Nat) : Int) + 1))) (by kernel_rfl) ?_
      refine WO.top (v' := .int .i64 ((((i + j) / 2) + 1 : Nat) : Int)) (wrap_i64 (by omega) (by omega)) ?_
      refine WO.run 1 2 [(20, .int .i64 ((((i + j) / 2) + 1 : Nat) : Int))] (by kernel_rfl) (by kernel_rfl) ?_
      refine WO.done (by kernel_rfl) ?_
      refine WQ.keep [0, 1, 2, 3, 4, 18, 19, 20, 21, 22, 23, 151, 171] (e' := [(0, .slice (some ⟨b, 0, none⟩) n cap), (1, .int .i64 (a : Int)), (2, .int .i64 (m : Int)), (3, .int .i64 (bb : Int)), (4, .func (.func 50) #[] #[]), (18, .int .i64 (((a + bb) / 2 : Nat) : Int)), (19, .int .i64 ((((a + bb) / 2) + m : Nat) : Int)), (20, .int .i64 ((((i + j) / 2) + 1 : Nat) : Int)), (21, .int .i64 (j : Int)), (22, .int .i64 (((((a + bb) / 2) + m) - 1 : Nat) : Int)), (23, .int .i64 (((i + j) / 2 : Nat) : Int)), (151, .bool true), (171, .bool true)]) (by kernel_rfl) ?_
      refine WQ.blkN ?_
      refine WQ.round ?_
      intro a_ ha_
      refine ⟨((i + j) / 2 + 1, j), ?_, ha_.keep [0, 1, 2, 3, 4, 18, 19, 20, 21, 22] (by kernel_rfl), ?_⟩
      · show j - ((i + j) / 2 + 1) < j - i; omega
      · exact ⟨by show (((a + bb) / 2) + m - bb) ≤ (i + j) / 2 + 1; omega, by show (i + j) / 2 + 1 ≤ j; omega, hhi, fun _ => (by show rk q ((i + j) / 2 + 1 - 1) ≤ rk q (((a + bb) / 2) + m - ((i + j) / 2 + 1)); rw [show (i + j) / 2 + 1 - 1 = (i + j) / 2 by omega, show ((a + bb) / 2) + m - ((i + j) / 2 + 1) = ((a + bb) / 2) + m - 1 - (i + j) / 2 by omega]; exact Nat.le_of_not_lt (fun h_ => h6 ((cmpZ_rk _ _ _).2 h_))), hB, HR, HA⟩
  · intro h1
    refine WO.done (by kernel_rfl) ?_
    refine WQ.keep [0, 1, 2, 3, 4, 18, 19, 20, 21, 22, 151] (e' := [(0, .slice (some ⟨b, 0, none⟩) n cap), (1, .int .i64 (a : Int)), (2, .int .i64 (m : Int)), (3, .int .i64 (bb : Int)), (4, .func (.func 50) #[] #[]), (18, .int .i64 (((a + bb) / 2 : Nat) : Int)), (19, .int .i64 ((((a + bb) / 2) + m : Nat) : Int)), (20, .int .i64 (i : Int)), (21, .int .i64 (j : Int)), (22, .int .i64 (((((a + bb) / 2) + m) - 1 : Nat) : Int)), (151, .bool false)]) (by kernel_rfl) ?_
    refine WQ.thenN ?_
    refine WE.condF (by kernel_rfl) ?_
    refine WE.exit ?_
    refine WQ.thenE ?_
    refine WQ.thenE ?_
    refine WQ.blkE ?_
    refine WQ.thenN ?_
    refine WE.seq ?_
    -- R38 zsortanyfunc.go:448
    refine WE.region ?_
    refine WO.run 2 0 [(176, .int .i64 (i : Int)), (175, .int .i64 ((((a + bb) / 2) + m : Nat) : Int))] (by kernel_rfl) (by kernel_rfl) ?_
    refine WO.one (SQ.F 2 (by kernel_rfl)) 177 (.int .i64 (IntKind.i64.wrap (((((a + bb) / 2) + m : Nat) : Int) - (i : Int)))) (by kernel_rfl) ?_
    refine WO.top (v' := .int .i64 (((((a + bb) / 2) + m) - i : Nat) : Int)) (wrap_i64 (by omega) (by omega)) ?_
    refine WO.run 1 3 [(24, .int .i64 (((((a + bb) / 2) + m) - i : Nat) : Int))] (by kernel_rfl) (by kernel_rfl) ?_
    refine WO.done (by kernel_rfl) ?_
    refine WQ.keep [0, 1, 2, 3, 4, 18, 19, 20, 21, 22, 24, 151] (e' := [(0, .slice (some ⟨b, 0, none⟩) n cap), (1, .int .i64 (a : Int)), (2, .int .i64 (m : Int)), (3, .int .i64 (bb : Int)), (4, .func (.func 50) #[] #[]), (18, .int .i64 (((a + bb) / 2 : Nat) : Int)), (19, .int .i64 ((((a + bb) / 2) + m : Nat) : Int)), (20, .int .i64 (i : Int)), (21, .int .i64 (j : Int)), (22, .int .i64 (((((a + bb) / 2) + m) - 1 : Nat) : Int)), (24, .int .i64 (((((a + bb) / 2) + m) - i : Nat) : Int)), (151, .bool false)]) (by kernel_rfl) ?_
    refine WQ.thenN ?_
    refine WE.seq ?_
    refine WE.seq ?_
    -- R39 zsortanyfunc.go:449
    refine WE.region ?_
    refine WO.run 2 0 [(179, .int .i64 (m : Int)), (178, .int .i64 (i : Int))] (by kernel_rfl) (by kernel_rfl) ?_
    refine WO.one (SQ.F 2 (by kernel_rfl)) 180 (.bool (decide (((i : Int) : Int) < (m : Int)))) (by kernel_rfl) ?_
    refine WO.topP (((i : Int) : Int) < (m : Int)) ?_ ?_
    · intro h7
      refine WO.run 3 3 [(183, .int .i64 (((((a + bb) / 2) + m) - i : Nat) : Int)), (182, .int .i64 (m : Int)), (181, .bool true)] (by kernel_rfl) (by kernel_rfl) ?_
      refine WO.one (SQ.F 6 (by kernel_rfl)) 184 (.bool (decide (((m : Int) : Int) < (((((a + bb) / 2) + m) - i : Nat) : Int)))) (by kernel_rfl) ?_
      refine WO.topP (((m : Int) : Int) < (((((a + bb) / 2) + m) - i : Nat) : Int)) ?_ ?_
      · intro h8
        refine WO.run 1 7 [(185, .bool true)] (by kernel_rfl) (by kernel_rfl) ?_
        refine WO.done (by kernel_rfl) ?_
        refine WQ.keep [0, 1, 2, 3, 4, 18, 19, 20, 21, 22, 24, 151, 185] (e' := [(0, .slice (some ⟨b, 0, none⟩) n cap), (1, .int .i64 (a : Int)), (2, .int .i64 (m : Int)), (3, .int .i64 (bb : Int)), (4, .func (.func 50) #[] #[]), (18, .int .i64 (((a + bb) / 2 : Nat) : Int)), (19, .int .i64 ((((a + bb) / 2) + m : Nat) : Int)), (20, .int .i64 (i : Int)), (21, .int .i64 (j : Int)), (22, .int .i64 (((((a + bb) / 2) + m) - 1 : Nat) : Int)), (24, .int .i64 (((((a + bb) / 2) + m) - i : Nat) : Int)), (151, .bool false), (185, .bool true)]) (by kernel_rfl) ?_
        refine WQ.thenN ?_
        refine WE.condT (by kernel_rfl) ?_
        -- R40 zsortanyfunc.go:450
        refine WE.region ?_
        refine WO.run 5 0 [(190, .func (.func 50) #[] #[]), (189, .int .i64 (((((a + bb) / 2) + m) - i : Nat) : Int)), (188, .int .i64 (m : Int)), (187, .int .i64 (i : Int)), (186, .slice (some ⟨b, 0, none⟩) n cap)] (by kernel_rfl) (by kernel_rfl) ?_
        refine WO.call (SQ.E 5 (by kernel_rfl)) 191 (by kernel_rfl) (rotate_f b n cap i m (((a + bb) / 2) + m - i) q _ HR hn hm (by omega) (by omega) (by omega)) ?_
        rintro _ w9 ⟨p1, rfl, hl1, hf1, hp1, HR11, F10⟩
        refine ⟨_, rfl, trivial, ?_⟩
        have HA := Fr.step HA F10 (inSL (by simp) inS0)
        refine WO.done (by kernel_rfl) ?_
        refine WQ.keep [0, 1, 2, 3, 4, 18, 19, 20, 21, 22, 24, 151, 185] (e' := [(0, .slice (some ⟨b, 0, none⟩) n cap), (1, .int .i64 (a : Int)), (2, .int .i64 (m : Int)), (3, .int .i64 (bb : Int)), (4, .func (.func 50) #[] #[]), (18, .int .i64 (((a + bb) / 2 : Nat) : Int)), (19, .int .i64 ((((a + bb) / 2) + m : Nat) : Int)), (20, .int .i64 (i : Int)), (21, .int .i64 (j : Int)), (22, .int .i64 (((((a + bb) / 2) + m) - 1 : Nat) : Int)), (24, .int .i64 (((((a + bb) / 2) + m) - i : Nat) : Int)), (151, .bool false), (185, .bool true)]) (by kernel_rfl) ?_
        refine WQ.thenN ?_
        refine WE.seq ?_
        refine WE.seq ?_
        have e_ij : i = j := by omega
        have hB' : i < ((a + bb) / 2) → rk q (((a + bb) / 2) + m - 1 - i) < rk q i := fun h_ => by rw [e_ij]; exact hB (by omega)
        obtain ⟨hP1, k1, k2, k3, k4, kx⟩ := mid_facts (q := q) (p := p1) (a := a) (m := m) (bb := bb) (s := i) (e := ((a + bb) / 2) + m - i) (mid := ((a + bb) / 2)) hs1 hs2 (by omega) (by omega) (by omega) (by omega) (by omega) (by omega) (by omega) (by omega) (hl1.trans hn.symm) hf1 hp1 (fun x y => hA (by omega)) (fun x y => by rw [show ((a + bb) / 2) + m - i - 1 = ((a + bb) / 2) + m - 1 - i by omega]; exact Nat.le_of_lt (hB' (by omega)))
        have hall1 := hP1.allB hall
        -- R41 zsortanyfunc.go:452
        refine WE.region ?_
        refine WO.run 2 0 [(193, .int .i64 (i : Int)), (192, .int .i64 (a : Int))] (by kernel_rfl) (by kernel_rfl) ?_
        refine WO.one (SQ.F 2 (by kernel_rfl)) 194 (.bool (decide (((a : Int) : Int) < (i : Int)))) (by kernel_rfl) ?_
        refine WO.topP (((a : Int) : Int) < (i : Int)) ?_ ?_
        · intro h12
          refine WO.run 3 3 [(197, .int .i64 (((a + bb) / 2 : Nat) : Int)), (196, .int .i64 (i : Int)), (195, .bool true)] (by kernel_rfl) (by kernel_rfl) ?_
          refine WO.one (SQ.F 6 (by kernel_rfl)) 198 (.bool (decide (((i : Int) : Int) < (((a + bb) / 2 : Nat) : Int)))) (by kernel_rfl) ?_
          refine WO.topP (((i : Int) : Int) < (((a + bb) / 2 : Nat) : Int)) ?_ ?_
          · intro h13
            refine WO.run 1 7 [(199, .bool true)] (by kernel_rfl) (by kernel_rfl) ?_
            refine WO.done (by kernel_rfl) ?_
            refine WQ.keep [0, 1, 2, 3, 4, 18, 19, 20, 21, 22, 24, 151, 185, 199] (e' := [(0, .slice (some ⟨b, 0, none⟩) n cap), (1, .int .i64 (a : Int)), (2, .int .i64 (m : Int)), (3, .int .i64 (bb : Int)), (4, .func (.func 50) #[] #[]), (18, .int .i64 (((a + bb) / 2 : Nat) : Int)), (19, .int .i64 ((((a + bb) / 2) + m : Nat) : Int)), (20, .int .i64 (i : Int)), (21, .int .i64 (j : Int)), (22, .int .i64 (((((a + bb) / 2) + m) - 1 : Nat) : Int)), (24, .int .i64 (((((a + bb) / 2) + m) - i : Nat) : Int)), (151, .bool false), (185, .bool true), (199, .bool true)]) (by kernel_rfl) ?_
            refine WQ.thenN ?_
            refine WE.condT (by kernel_rfl) ?_
            -- R42 zsortanyfunc.go:453
            refine WE.region ?_
            refine WO.run 5 0 [(204, .func (.func 50) #[] #[]), (203, .int .i64 (((a + bb) / 2 : Nat) : Int)), (202, .int .i64 (i : Int)), (201, .int .i64 (a : Int)), (200, .slice (some ⟨b, 0, none⟩) n cap)] (by kernel_rfl) (by kernel_rfl) ?_
            refine WO.call (SQ.E 5 (by kernel_rfl)) 205 (by kernel_rfl) (ih (((a + bb) / 2) - a) (by omega) b n cap a i ((a + bb) / 2) p1 _ rfl HR11 hl1 hall1 hm (by omega) (by omega) (by omega) k1 k2) ?_
            rintro _ w14 ⟨p2, rfl, hP2, hS2, HR16, F15⟩
            refine ⟨_, rfl, trivial, ?_⟩
            have HA := Fr.step HA F15 (inSL (by simp) inS0)
            refine WO.done (by kernel_rfl) ?_
            refine WQ.keep [0, 1, 2, 3, 4, 18, 19, 20, 21, 22, 24, 151, 185, 199] (e' := [(0, .slice (some ⟨b, 0, none⟩) n cap), (1, .int .i64 (a : Int)), (2, .int .i64 (m : Int)), (3, .int .i64 (bb : Int)), (4, .func (.func 50) #[] #[]), (18, .int .i64 (((a + bb) / 2 : Nat) : Int)), (19, .int .i64 ((((a + bb) / 2) + m : Nat) : Int)), (20, .int .i64 (i : Int)), (21, .int .i64 (j : Int)), (22, .int .i64 (((((a + bb) / 2) + m) - 1 : Nat) : Int)), (24, .int .i64 (((((a + bb) / 2) + m) - i : Nat) : Int)), (151, .bool false), (185, .bool true), (199, .bool true)]) (by kernel_rfl) ?_
            refine WQ.thenN ?_
            refine WE.seq ?_
            have k3' : Srt (rk p2) ((a + bb) / 2) (((a + bb) / 2) + m - i) := srt_out k3 hP2 (Nat.le_refl _)
            have k4' : Srt (rk p2) (((a + bb) / 2) + m - i) bb := srt_out k4 hP2 (by omega)
            have hall2 := hP2.allB hall1
            -- R43 zsortanyfunc.go:455
            refine WE.region ?_
            refine WO.run 2 0 [(207, .int .i64 (((((a + bb) / 2) + m) - i : Nat) : Int)), (206, .int .i64 (((a + bb) / 2 : Nat) : Int))] (by kernel_rfl) (by kernel_rfl) ?_
            refine WO.one (SQ.F 2 (by kernel_rfl)) 208 (.bool (decide (((((a + bb) / 2 : Nat) : Int) : Int) < (((((a + bb) / 2) + m) - i : Nat) : Int)))) (by kernel_rfl) ?_
            refine WO.topP (((((a + bb) / 2 : Nat) : Int) : Int) < (((((a + bb) / 2) + m) - i : Nat) : Int)) ?_ ?_
            · intro h17
              refine WO.run 3 3 [(211, .int .i64 (bb : Int)), (210, .int .i64 (((((a + bb) / 2) + m) - i : Nat) : Int)), (209, .bool true)] (by kernel_rfl) (by kernel_rfl) ?_
              refine WO.one (SQ.F 6 (by kernel_rfl)) 212 (.bool (decide (((((((a + bb) / 2) + m) - i : Nat) : Int) : Int) < (bb : Int)))) (by kernel_rfl) ?_
              refine WO.topP (((((((a + bb) / 2) + m) - i : Nat) : Int) : Int) < (bb : Int)) ?_ ?_
              · intro h18
                refine WO.run 1 7 [(213, .bool true)] (by kernel_rfl) (by kernel_rfl) ?_
                refine WO.done (by kernel_rfl) ?_
                refine WQ.keep [0, 1, 2, 3, 4, 18, 19, 20, 21, 22, 24, 151, 185, 199, 213] (e' := [(0, .slice (some ⟨b, 0, none⟩) n cap), (1, .int .i64 (a : Int)), (2, .int .i64 (m : Int)), (3, .int .i64 (bb : Int)), (4, .func (.func 50) #[] #[]), (18, .int .i64 (((a + bb) / 2 : Nat) : Int)), (19, .int .i64 ((((a + bb) / 2) + m : Nat) : Int)), (20, .int .i64 (i : Int)), (21, .int .i64 (j : Int)), (22, .int .i64 (((((a + bb) / 2) + m) - 1 : Nat) : Int)), (24, .int .i64 (((((a + bb) / 2) + m) - i : Nat) : Int)), (151, .bool false), (185, .bool true), (199, .bool true), (213, .bool true)]) (by kernel_rfl) ?_
                refine WQ.thenN ?_
                refine WE.condT (by kernel_rfl) ?_
                -- R44 zsortanyfunc.go:456
                refine WE.region ?_
                refine WO.run 5 0 [(218, .func (.func 50) #[] #[]), (217, .int .i64 (bb : Int)), (216, .int .i64 (((((a + bb) / 2) + m) - i : Nat) : Int)), (215, .int .i64 (((a + bb) / 2 : Nat) : Int)), (214, .slice (some ⟨b, 0, none⟩) n cap)] (by kernel_rfl) (by kernel_rfl) ?_
                refine WO.call (SQ.E 5 (by kernel_rfl)) 219 (by kernel_rfl) (ih (bb - ((a + bb) / 2)) (by omega) b n cap ((a + bb) / 2) ((((a + bb) / 2) + m) - i) bb p2 _ rfl HR16 (hP2.len.trans (hl1)) hall2 hm (by omega) (by omega) (by omega) k3' k4') ?_
                rintro _ w19 ⟨p3, rfl, hP3, hS3, HR21, F20⟩
                refine ⟨_, rfl, trivial, ?_⟩
                have HA := Fr.step HA F20 (inSL (by simp) inS0)
                refine WO.done (by kernel_rfl) ?_
                refine WQ.keep [0, 1, 2, 3, 4, 18, 19, 20, 21, 22, 24, 151, 185, 199, 213] (e' := [(0, .slice (some ⟨b, 0, none⟩) n cap), (1, .int .i64 (a : Int)), (2, .int .i64 (m : Int)), (3, .int .i64 (bb : Int)), (4, .func (.func 50) #[] #[]), (18, .int .i64 (((a + bb) / 2 : Nat) : Int)), (19, .int .i64 ((((a + bb) / 2) + m : Nat) : Int)), (20, .int .i64 (i : Int)), (21, .int .i64 (j : Int)), (22, .int .i64 (((((a + bb) / 2) + m) - 1 : Nat) : Int)), (24, .int .i64 (((((a + bb) / 2) + m) - i : Nat) : Int)), (151, .bool false), (185, .bool true), (199, .bool true), (213, .bool true)]) (by kernel_rfl) ?_
                refine WQ.fall (v := .tuple #[]) (by kernel_rfl) ?_
                obtain ⟨t1, t2⟩ := final_srt (q := q) (p1 := p1) (p2 := p2) (p3 := p3) (by omega) (by omega) (by omega) hP1 hP2 hP3 hS2 hS3 kx
                exact ⟨p3, rfl, t1, t2, HR21, HA⟩
              · intro h18
                refine WO.run 1 7 [(213, .bool false)] (by kernel_rfl) (by kernel_rfl) ?_
                refine WO.done (by kernel_rfl) ?_
                refine WQ.keep [0, 1, 2, 3, 4, 18, 19, 20, 21, 22, 24, 151, 185, 199, 213] (e' := [(0, .slice (some ⟨b, 0, none⟩) n cap), (1, .int .i64 (a : Int)), (2, .int .i64 (m : Int)), (3, .int .i64 (bb : Int)), (4, .func (.func 50) #[] #[]), (18, .int .i64 (((a + bb) / 2 : Nat) : Int)), (19, .int .i64 ((((a + bb) / 2) + m : Nat) : Int)), (20, .int .i64 (i : Int)), (21, .int .i64 (j : Int)), (22, .int .i64 (((((a + bb) / 2) + m) - 1 : Nat) : Int)), (24, .int .i64 (((((a + bb) / 2) + m) - i : Nat) : Int)), (151, .bool false), (185, .bool true), (199, .bool true), (213, .bool false)]) (by kernel_rfl) ?_
                refine WQ.thenN ?_
                refine WE.condF (by kernel_rfl) ?_
                refine WE.skip ?_
                refine WQ.fall (v := .tuple #[]) (by kernel_rfl) ?_
                have hP3 := PIn.refl ((a + bb) / 2) bb p2
                have hS3 : Srt (rk p2) ((a + bb) / 2) bb := srt_side k3' k4' (by omega)
                obtain ⟨t1, t2⟩ := final_srt (q := q) (p1 := p1) (p2 := p2) (p3 := p2) (by omega) (by omega) (by omega) hP1 hP2 hP3 hS2 hS3 kx
                exact ⟨p2, rfl, t1, t2, HR16, HA⟩
            · intro h17
              refine WO.run 5 3 [(213, .bool false), (212, undef), (211, undef), (210, undef), (209, .bool false)] (by kernel_rfl) (by kernel_rfl) ?_
              refine WO.done (by kernel_rfl) ?_
              refine WQ.keep [0, 1, 2, 3, 4, 18, 19, 20, 21, 22, 24, 151, 185, 199, 213] (e' := [(0, .slice (some ⟨b, 0, none⟩) n cap), (1, .int .i64 (a : Int)), (2, .int .i64 (m : Int)), (3, .int .i64 (bb : Int)), (4, .func (.func 50) #[] #[]), (18, .int .i64 (((a + bb) / 2 : Nat) : Int)), (19, .int .i64 ((((a + bb) / 2) + m : Nat) : Int)), (20, .int .i64 (i : Int)), (21, .int .i64 (j : Int)), (22, .int .i64 (((((a + bb) / 2) + m) - 1 : Nat) : Int)), (24, .int .i64 (((((a + bb) / 2) + m) - i : Nat) : Int)), (151, .bool false), (185, .bool true), (199, .bool true), (213, .bool false)]) (by kernel_rfl) ?_
              refine WQ.thenN ?_
              refine WE.condF (by kernel_rfl) ?_
              refine WE.skip ?_
              refine WQ.fall (v := .tuple #[]) (by kernel_rfl) ?_
              have hP3 := PIn.refl ((a + bb) / 2) bb p2
              have hS3 : Srt (rk p2) ((a + bb) / 2) bb := srt_side k3' k4' (by omega)
              obtain ⟨t1, t2⟩ := final_srt (q := q) (p1 := p1) (p2 := p2) (p3 := p2) (by omega) (by omega) (by omega) hP1 hP2 hP3 hS2 hS3 kx
              exact ⟨p2, rfl, t1, t2, HR16, HA⟩
          · intro h13
            refine WO.run 1 7 [(199, .bool false)] (by kernel_rfl) (by kernel_rfl) ?_
            refine WO.done (by kernel_rfl) ?_
            refine WQ.keep [0, 1, 2, 3, 4, 18, 19, 20, 21, 22, 24, 151, 185, 199] (e' := [(0, .slice (some ⟨b, 0, none⟩) n cap), (1, .int .i64 (a : Int)), (2, .int .i64 (m : Int)), (3, .int .i64 (bb : Int)), (4, .func (.func 50) #[] #[]), (18, .int .i64 (((a + bb) / 2 : Nat) : Int)), (19, .int .i64 ((((a + bb) / 2) + m : Nat) : Int)), (20, .int .i64 (i : Int)), (21, .int .i64 (j : Int)), (22, .int .i64 (((((a + bb) / 2) + m) - 1 : Nat) : Int)), (24, .int .i64 (((((a + bb) / 2) + m) - i : Nat) : Int)), (151, .bool false), (185, .bool true), (199, .bool false)]) (by kernel_rfl) ?_
            refine WQ.thenN ?_
            refine WE.condF (by kernel_rfl) ?_
            refine WE.skip ?_
            refine WQ.thenN ?_
            refine WE.seq ?_
            have hP2 := PIn.refl a ((a + bb) / 2) p1
            have hS2 : Srt (rk p1) a ((a + bb) / 2) := srt_side k1 k2 (by omega)
            have k3' : Srt (rk p1) ((a + bb) / 2) (((a + bb) / 2) + m - i) := srt_out k3 hP2 (Nat.le_refl _)
            have k4' : Srt (rk p1) (((a + bb) / 2) + m - i) bb := srt_out k4 hP2 (by omega)
            have hall2 := hP2.allB hall1
            -- R43 zsortanyfunc.go:455
            refine WE.region ?_
            refine WO.run 2 0 [(207, .int .i64 (((((a + bb) / 2) + m) - i : Nat) : Int)), (206, .int .i64 (((a + bb) / 2 : Nat) : Int))] (by kernel_rfl) (by kernel_rfl) ?_
            refine WO.one (SQ.F 2 (by kernel_rfl)) 208 (.bool (decide (((((a + bb) / 2 : Nat) : Int) : Int) < (((((a + bb) / 2) + m) - i : Nat) : Int)))) (by kernel_rfl) ?_
            refine WO.topP (((((a + bb) / 2 : Nat) : Int) : Int) < (((((a + bb) / 2) + m) - i : Nat) : Int)) ?_ ?_
            · intro h22
              refine WO.run 3 3 [(211, .int .i64 (bb : Int)), (210, .int .i64 (((((a + bb) / 2) + m) - i : Nat) : Int)), (209, .bool true)] (by kernel_rfl) (by kernel_rfl) ?_
              refine WO.one (SQ.F 6 (by kernel_rfl)) 212 (.bool (decide (((((((a + bb) / 2) + m) - i : Nat) : Int) : Int) < (bb : Int)))) (by kernel_rfl) ?_
              refine WO.topP (((((((a + bb) / 2) + m) - i : Nat) : Int) : Int) < (bb : Int)) ?_ ?_
              · intro h23
                refine WO.run 1 7 [(213, .bool true)] (by kernel_rfl) (by kernel_rfl) ?_
                refine WO.done (by kernel_rfl) ?_
                refine WQ.keep [0, 1, 2, 3, 4, 18, 19, 20, 21, 22, 24, 151, 185, 199, 213] (e' := [(0, .slice (some ⟨b, 0, none⟩) n cap), (1, .int .i64 (a : Int)), (2, .int .i64 (m : Int)), (3, .int .i64 (bb : Int)), (4, .func (.func 50) #[] #[]), (18, .int .i64 (((a + bb) / 2 : Nat) : Int)), (19, .int .i64 ((((a + bb) / 2) + m : Nat) : Int)), (20, .int .i64 (i : Int)), (21, .int .i64 (j : Int)), (22, .int .i64 (((((a + bb) / 2) + m) - 1 : Nat) : Int)), (24, .int .i64 (((((a + bb) / 2) + m) - i : Nat) : Int)), (151, .bool false), (185, .bool true), (199, .bool false), (213, .bool true)]) (by kernel_rfl) ?_
                refine WQ.thenN ?_
                refine WE.condT (by kernel_rfl) ?_
                -- R44 zsortanyfunc.go:456
                refine WE.region ?_
                refine WO.run 5 0 [(218, .func (.func 50) #[] #[]), (217, .int .i64 (bb : Int)), (216, .int .i64 (((((a + bb) / 2) + m) - i : Nat) : Int)), (215, .int .i64 (((a + bb) / 2 : Nat) : Int)), (214, .slice (some ⟨b, 0, none⟩) n cap)] (by kernel_rfl) (by kernel_rfl) ?_
                refine WO.call (SQ.E 5 (by kernel_rfl)) 219 (by kernel_rfl) (ih (bb - ((a + bb) / 2)) (by omega) b n cap ((a + bb) / 2) ((((a + bb) / 2) + m) - i) bb p1 _ rfl HR11 hl1 hall2 hm (by omega) (by omega) (by omega) k3' k4') ?_
                rintro _ w24 ⟨p3, rfl, hP3, hS3, HR26, F25⟩
                refine ⟨_, rfl, trivial, ?_⟩
                have HA := Fr.step HA F25 (inSL (by simp) inS0)
                refine WO.done (by kernel_rfl) ?_
                refine WQ.keep [0, 1, 2, 3, 4, 18, 19, 20, 21, 22, 24, 151, 185, 199, 213] (e' := [(0, .slice (some ⟨b, 0, none⟩) n cap), (1, .int .i64 (a : Int)), (2, .int .i64 (m : Int)), (3, .int .i64 (bb : Int)), (4, .func (.func 50) #[] #[]), (18, .int .i64 (((a + bb) / 2 : Nat) : Int)), (19, .int .i64 ((((a + bb) / 2) + m : Nat) : Int)), (20, .int .i64 (i : Int)), (21, .int .i64 (j : Int)), (22, .int .i64 (((((a + bb) / 2) + m) - 1 : Nat) : Int)), (24, .int .i64 (((((a + bb) / 2) + m) - i : Nat) : Int)), (151, .bool false), (185, .bool true), (199, .bool false), (213, .bool true)]) (by kernel_rfl) ?_
                refine WQ.fall (v := .tuple #[]) (by kernel_rfl) ?_
                obtain ⟨t1, t2⟩ := final_srt (q := q) (p1 := p1) (p2 := p1) (p3 := p3) (by omega) (by omega) (by omega) hP1 hP2 hP3 hS2 hS3 kx
                exact ⟨p3, rfl, t1, t2, HR26, HA⟩
              · intro h23
                refine WO.run 1 7 [(213, .bool false)] (by kernel_rfl) (by kernel_rfl) ?_
                refine WO.done (by kernel_rfl) ?_
                refine WQ.keep [0, 1, 2, 3, 4, 18, 19, 20, 21, 22, 24, 151, 185, 199, 213] (e' := [(0, .slice (some ⟨b, 0, none⟩) n cap), (1, .int .i64 (a : Int)), (2, .int .i64 (m : Int)), (3, .int .i64 (bb : Int)), (4, .func (.func 50) #[] #[]), (18, .int .i64 (((a + bb) / 2 : Nat) : Int)), (19, .int .i64 ((((a + bb) / 2) + m : Nat) : Int)), (20, .int .i64 (i : Int)), (21, .int .i64 (j : Int)), (22, .int .i64 (((((a + bb) / 2) + m) - 1 : Nat) : Int)), (24, .int .i64 (((((a + bb) / 2) + m) - i : Nat) : Int)), (151, .bool false), (185, .bool true), (199, .bool false), (213, .bool false)]) (by kernel_rfl) ?_
                refine WQ.thenN ?_
                refine WE.condF (by kernel_rfl) ?_
                refine WE.skip ?_
                refine WQ.fall (v := .tuple #[]) (by kernel_rfl) ?_
                have hP3 := PIn.refl ((a + bb) / 2) bb p1
                have hS3 : Srt (rk p1) ((a + bb) / 2) bb := srt_side k3' k4' (by omega)
                obtain ⟨t1, t2⟩ := final_srt (q := q) (p1 := p1) (p2 := p1) (p3 := p1) (by omega) (by omega) (by omega) hP1 hP2 hP3 hS2 hS3 kx
                exact ⟨p1, rfl, t1, t2, HR11, HA⟩
            · intro h22
              refine WO.run 5 3 [(213, .bool false), (212, undef), (211, undef), (210, undef), (209, .bool false)] (by kernel_rfl) (by kernel_rfl) ?_
              refine WO.done (by kernel_rfl) ?_
              refine WQ.keep [0, 1, 2, 3, 4, 18, 19, 20, 21, 22, 24, 151, 185, 199, 213] (e' := [(0, .slice (some ⟨b, 0, none⟩) n cap), (1, .int .i64 (a : Int)), (2, .int .i64 (m : Int)), (3, .int .i64 (bb : Int)), (4, .func (.func 50) #[] #[]), (18, .int .i64 (((a + bb) / 2 : Nat) : Int)), (19, .int .i64 ((((a + bb) / 2) + m : Nat) : Int)), (20, .int .i64 (i : Int)), (21, .int .i64 (j : Int)), (22, .int .i64 (((((a + bb) / 2) + m) - 1 : Nat) : Int)), (24, .int .i64 (((((a + bb) / 2) + m) - i : Nat) : Int)), (151, .bool false), (185, .bool true), (199, .bool false), (213, .bool false)]) (by kernel_rfl) ?_
              refine WQ.thenN ?_
              refine WE.condF (by kernel_rfl) ?_
              refine WE.skip ?_
              refine WQ.fall (v := .tuple #[]) (by kernel_rfl) ?_
              have hP3 := PIn.refl ((a + bb) / 2) bb p1
              have hS3 : Srt (rk p1) ((a + bb) / 2) bb := srt_side k3' k4' (by omega)
              obtain ⟨t1, t2⟩ := final_srt (q := q) (p1 := p1) (p2 := p1) (p3 := p1) (by omega) (by omega) (by omega) hP1 hP2 hP3 hS2 hS3 kx
              exact ⟨p1, rfl, t1, t2, HR11, HA⟩
        · intro h12
          refine WO.run 5 3 [(199, .bool false), (198, undef), (197, undef), (196, undef), (195, .bool false)] (by kernel_rfl) (by kernel_rfl) ?_
          refine WO.done (by kernel_rfl) ?_
          refine WQ.keep [0, 1, 2, 3, 4, 18, 19, 20, 21, 22, 24, 151, 185, 199] (e' := [(0, .slice (some ⟨b, 0, none⟩) n cap), (1, .int .i64 (a : Int)), (2, .int .i64 (m : Int)), (3, .int .i64 (bb : Int)), (4, .func (.func 50) #[] #[]), (18, .int .i64 (((a + bb) / 2 : Nat) : Int)), (19, .int .i64 ((((a + bb) / 2) + m : Nat) : Int)), (20, .int .i64 (i : Int)), (21, .int .i64 (j : Int)), (22, .int .i64 (((((a + bb) / 2) + m) - 1 : Nat) : Int)), (24, .int .i64 (((((a + bb) / 2) + m) - i : Nat) : Int)), (151, .bool false), (185, .bool true), (199, .bool false)]) (by kernel_rfl) ?_
          refine WQ.thenN ?_
          refine WE.condF (by kernel_rfl) ?_
          refine WE.skip ?_
          refine WQ.thenN ?_
          refine WE.seq ?_
          have hP2 := PIn.refl a ((a + bb) / 2) p1
          have hS2 : Srt (rk p1) a ((a + bb) / 2) := srt_side k1 k2 (by omega)
          have k3' : Srt (rk p1) ((a + bb) / 2) (((a + bb) / 2) + m - i) := srt_out k3 hP2 (Nat.le_refl _)
          have k4' : Srt (rk p1) (((a + bb) / 2) + m - i) bb := srt_out k4 hP2 (by omega)
          have hall2 := hP2.allB hall1
          -- R43 zsortanyfunc.go:455
          refine WE.region ?_
          refine WO.run 2 0 [(207, .int .i64 (((((a + bb) / 2) + m) - i : Nat) : Int)), (206, .int .i64 (((a + bb) / 2 : Nat) : Int))] (by kernel_rfl) (by kernel_rfl) ?_
          refine WO.one (SQ.F 2 (by kernel_rfl)) 208 (.bool (decide (((((a + bb) / 2 : Nat) : Int) : Int) < (((((a + bb) / 2) + m) - i : Nat) : Int)))) (by kernel_rfl) ?_
          refine WO.topP (((((a + bb) / 2 : Nat) : Int) : Int) < (((((a + bb) / 2) + m) - i : Nat) : Int)) ?_ ?_
          · intro h27
            refine WO.run 3 3 [(211, .int .i64 (bb : Int)), (210, .int .i64 (((((a + bb) / 2) + m) - i : Nat) : Int)), (209, .bool true)] (by kernel_rfl) (by kernel_rfl) ?_
            refine WO.one (SQ.F 6 (by kernel_rfl)) 212 (.bool (decide (((((((a + bb) / 2) + m) - i : Nat) : Int) : Int) < (bb : Int)))) (by kernel_rfl) ?_
            refine WO.topP (((((((a + bb) / 2) + m) - i : Nat) : Int) : Int) < (bb : Int)) ?_ ?_
            · intro h28
              refine WO.run 1 7 [(213, .bool true)] (by kernel_rfl) (by kernel_rfl) ?_
              refine WO.done (by kernel_rfl) ?_
              refine WQ.keep [0, 1, 2, 3, 4, 18, 19, 20, 21, 22, 24, 151, 185, 199, 213] (e' := [(0, .slice (some ⟨b, 0, none⟩) n cap), (1, .int .i64 (a : Int)), (2, .int .i64 (m : Int)), (3, .int .i64 (bb : Int)), (4, .func (.func 50) #[] #[]), (18, .int .i64 (((a + bb) / 2 : Nat) : Int)), (19, .int .i64 ((((a + bb) / 2) + m : Nat) : Int)), (20, .int .i64 (i : Int)), (21, .int .i64 (j : Int)), (22, .int .i64 (((((a + bb) / 2) + m) - 1 : Nat) : Int)), (24, .int .i64 (((((a + bb) / 2) + m) - i : Nat) : Int)), (151, .bool false), (185, .bool true), (199, .bool false), (213, .bool true)]) (by kernel_rfl) ?_
              refine WQ.thenN ?_
              refine WE.condT (by kernel_rfl) ?_
              -- R44 zsortanyfunc.go:456
              refine WE.region ?_
              refine WO.run 5 0 [(218, .func (.func 50) #[] #[]), (217, .int .i64 (bb : Int)), (216, .int .i64 (((((a + bb) / 2) + m) - i : Nat) : Int)), (215, .int .i64 (((a + bb) / 2 : Nat) : Int)), (214, .slice (some ⟨b, 0, none⟩) n cap)] (by kernel_rfl) (by kernel_rfl) ?_
              refine WO.call (SQ.E 5 (by kernel_rfl)) 219 (by kernel_rfl) (ih (bb - ((a + bb) / 2)) (by omega) b n cap ((a + bb) / 2) ((((a + bb) / 2) + m) - i) bb p1 _ rfl HR11 hl1 hall2 hm (by omega) (by omega) (by omega) k3' k4') ?_
              rintro _ w29 ⟨p3, rfl, hP3, hS3, HR31, F30⟩
              refine ⟨_, rfl, trivial, ?_⟩
              have HA := Fr.step HA F30 (inSL (by simp) inS0)
              refine WO.done (by kernel_rfl) ?_
              refine WQ.keep [0, 1, 2, 3, 4, 18, 19, 20, 21, 22, 24, 151, 185, 199, 213] (e' := [(0, .slice (some ⟨b, 0, none⟩) n cap), (1, .int .i64 (a : Int)), (2, .int .i64 (m : Int)), (3, .int .i64 (bb : Int)), (4, .func (.func 50) #[] #[]), (18, .int .i64 (((a + bb) / 2 : Nat) : Int)), (19, .int .i64 ((((a + bb) / 2) + m : Nat) : Int)), (20, .int .i64 (i : Int)), (21, .int .i64 (j : Int)), (22, .int .i64 (((((a + bb) / 2) + m) - 1 : Nat) : Int)), (24, .int .i64 (((((a + bb) / 2) + m) - i : Nat) : Int)), (151, .bool false), (185, .bool true), (199, .bool false), (213, .bool true)]) (by kernel_rfl) ?_
              refine WQ.fall (v := .tuple #[]) (by kernel_rfl) ?_
              obtain ⟨t1, t2⟩ := final_srt (q := q) (p1 := p1) (p2 := p1) (p3 := p3) (by omega) (by omega) (by omega) hP1 hP2 hP3 hS2 hS3 kx
              exact ⟨p3, rfl, t1, t2, HR31, HA⟩
            · intro h28
              refine WO.run 1 7 [(213, .bool false)] (by kernel_rfl) (by kernel_rfl) ?_
              refine WO.done (by kernel_rfl) ?_
              refine WQ.keep [0, 1, 2, 3, 4, 18, 19, 20, 21, 22, 24, 151, 185, 199, 213] (e' := [(0, .slice (some ⟨b, 0, none⟩) n cap), (1, .int .i64 (a : Int)), (2, .int .i64 (m : Int)), (3, .int .i64 (bb : Int)), (4, .func (.func 50) #[] #[]), (18, .int .i64 (((a + bb) / 2 : Nat) : Int)), (19, .int .i64 ((((a + bb) / 2) + m : Nat) : Int)), (20, .int .i64 (i : Int)), (21, .int .i64 (j : Int)), (22, .int .i64 (((((a + bb) / 2) + m) - 1 : Nat) : Int)), (24, .int .i64 (((((a + bb) / 2) + m) - i : Nat) : Int)), (151, .bool false), (185, .bool true), (199, .bool false), (213, .bool false)]) (by kernel_rfl) ?_
              refine WQ.thenN ?_
              refine WE.condF (by kernel_rfl) ?_
              refine WE.skip ?_
              refine WQ.fall (v := .tuple #[]) (by kernel_rfl) ?_
              have hP3 := PIn.refl ((a + bb) / 2) bb p1
              have hS3 : Srt (rk p1) ((a + bb) / 2) bb := srt_side k3' k4' (by omega)
              obtain ⟨t1, t2⟩ := final_srt (q := q) (p1 := p1) (p2 := p1) (p3 := p1) (by omega) (by omega) (by omega) hP1 hP2 hP3 hS2 hS3 kx
              exact ⟨p1, rfl, t1, t2, HR11, HA⟩
          · intro h27
            refine WO.run 5 3 [(213, .bool false), (212, undef), (211, undef), (210, undef), (209, .bool false)] (by kernel_rfl) (by kernel_rfl) ?_
            refine WO.done (by kernel_rfl) ?_
            refine WQ.keep [0, 1, 2, 3, 4, 18, 19, 20, 21, 22, 24, 151, 185, 199, 213] (e' := [(0, .slice (some ⟨b, 0, none⟩) n cap), (1, .int .i64 (a : Int)), (2, .int .i64 (m : Int)), (3, .int .i64 (bb : Int)), (4, .func (.func 50) #[] #[]), (18, .int .i64 (((a + bb) / 2 : Nat) : Int)), (19, .int .i64 ((((a + bb) / 2) + m : Nat) : Int)), (20, .int .i64 (i : Int)), (21, .int .i64 (j : Int)), (22, .int .i64 (((((a + bb) / 2) + m) - 1 : Nat) : Int)), (24, .int .i64 (((((a + bb) / 2) + m) - i : Nat) : Int)), (151, .bool false), (185, .bool true), (199, .bool false), (213, .bool false)]) (by kernel_rfl) ?_
            refine WQ.thenN ?_
            refine WE.condF (by kernel_rfl) ?_
            refine WE.skip ?_
            refine WQ.fall (v := .tuple #[]) (by kernel_rfl) ?_
            have hP3 := PIn.refl ((a + bb) / 2) bb p1
            have hS3 : Srt (rk p1) ((a + bb) / 2) bb := srt_side k3' k4' (by omega)
            obtain ⟨t1, t2⟩ := final_srt (q := q) (p1 := p1) (p2 := p1) (p3 := p1) (by omega) (by omega) (by omega) hP1 hP2 hP3 hS2 hS3 kx
            exact ⟨p1, rfl, t1, t2, HR11, HA⟩
      · intro h8
        refine WO.run 1 7 [(185, .bool false)] (by kernel_rfl) (by kernel_rfl) ?_
        refine WO.done (by kernel_rfl) ?_
        refine WQ.keep [0, 1, 2, 3, 4, 18, 19, 20, 21, 22, 24, 151, 185] (e' := [(0, .slice (some ⟨b, 0, none⟩) n cap), (1, .int .i64 (a : Int)), (2, .int .i64 (m : Int)), (3, .int .i64 (bb : Int)), (4, .func (.func 50) #[] #[]), (18, .int .i64 (((a + bb) / 2 : Nat) : Int)), (19, .int .i64 ((((a + bb) / 2) + m : Nat) : Int)), (20, .int .i64 (i : Int)), (21, .int .i64 (j : Int)), (22, .int .i64 (((((a + bb) / 2) + m) - 1 : Nat) : Int)), (24, .int .i64 (((((a + bb) / 2) + m) - i : Nat) : Int)), (151, .bool false), (185, .bool false)]) (by kernel_rfl) ?_
        refine WQ.thenN ?_
        refine WE.condF (by kernel_rfl) ?_
        refine WE.skip ?_
        refine WQ.thenN ?_
        refine WE.seq ?_
        refine WE.seq ?_
        have e_ij : i = j := by omega
        have hB' : i < ((a + bb) / 2) → rk q (((a + bb) / 2) + m - 1 - i) < rk q i := fun h_ => by rw [e_ij]; exact hB (by omega)
        have hf1 : ∀ x, g0 q x = rotF (g0 q) i m (((a + bb) / 2) + m - i) x := fun x => (rot_triv (by omega)).symm
        obtain ⟨hP1, k1, k2, k3, k4, kx⟩ := mid_facts (q := q) (p := q) (a := a) (m := m) (bb := bb) (s := i) (e := ((a + bb) / 2) + m - i) (mid := ((a + bb) / 2)) hs1 hs2 (by omega) (by omega) (by omega) (by omega) (by omega) (by omega) (by omega) (by omega) (hn.trans hn.symm) hf1 (.refl _) (fun x y => hA (by omega)) (fun x y => by rw [show ((a + bb) / 2) + m - i - 1 = ((a + bb) / 2) + m - 1 - i by omega]; exact Nat.le_of_lt (hB' (by omega)))
        have hall1 := hP1.allB hall
        -- R41 zsortanyfunc.go:452
        refine WE.region ?_
        refine WO.run 2 0 [(193, .int .i64 (i : Int)), (192, .int .i64 (a : Int))] (by kernel_rfl) (by kernel_rfl) ?_
        refine WO.one (SQ.F 2 (by kernel_rfl)) 194 (.bool (decide (((a : Int) : Int) < (i : Int)))) (by kernel_rfl) ?_
        refine WO.topP (((a : Int) : Int) < (i : Int)) ?_ ?_
        · intro h32
          refine WO.run 3 3 [(197, .int .i64 (((a + bb) / 2 : Nat) : Int)), (196, .int .i64 (i : Int)), (195, .bool true)] (by kernel_rfl) (by kernel_rfl) ?_
          refine WO.one (SQ.F 6 (by kernel_rfl)) 198 (.bool (decide (((i : Int) : Int) < (((a + bb) / 2 : Nat) : Int)))) (by kernel_rfl) ?_
          refine WO.topP (((i : Int) : Int) < (((a + bb) / 2 : Nat) : Int)) ?_ ?_
          · intro h33
            refine WO.run 1 7 [(199, .bool true)] (by kernel_rfl) (by kernel_rfl) ?_
            refine WO.done (by kernel_rfl) ?_
            refine WQ.keep [0, 1, 2, 3, 4, 18, 19, 20, 21, 22, 24, 151, 185, 199] (e' := [(0, .slice (some ⟨b, 0, none⟩) n cap), (1, .int .i64 (a : Int)), (2, .int .i64 (m : Int)), (3, .int .i64 (bb : Int)), (4, .func (.func 50) #[] #[]), (18, .int .i64 (((a + bb) / 2 : Nat) : Int)), (19, .int .i64 ((((a + bb) / 2) + m : Nat) : Int)), (20, .int .i64 (i : Int)), (21, .int .i64 (j : Int)), (22, .int .i64 (((((a + bb) / 2) + m) - 1 : Nat) : Int)), (24, .int .i64 (((((a + bb) / 2) + m) - i : Nat) : Int)), (151, .bool false), (185, .bool false), (199, .bool true)]) (by kernel_rfl) ?_
            refine WQ.thenN ?_
            refine WE.condT (by kernel_rfl) ?_
            -- R42 zsortanyfunc.go:453
            refine WE.region ?_
            refine WO.run 5 0 [(204, .func (.func 50) #[] #[]), (203, .int .i64 (((a + bb) / 2 : Nat) : Int)), (202, .int .i64 (i : Int)), (201, .int .i64 (a : Int)), (200, .slice (some ⟨b, 0, none⟩) n cap)] (by kernel_rfl) (by kernel_rfl) ?_
            refine WO.call (SQ.E 5 (by kernel_rfl)) 205 (by kernel_rfl) (ih (((a + bb) / 2) - a) (by omega) b n cap a i ((a + bb) / 2) q _ rfl HR hn hall1 hm (by omega) (by omega) (by omega) k1 k2) ?_
            rintro _ w34 ⟨p2, rfl, hP2, hS2, HR36, F35⟩
            refine ⟨_, rfl, trivial, ?_⟩
            have HA := Fr.step HA F35 (inSL (by simp) inS0)
            refine WO.done (by kernel_rfl) ?_
            refine WQ.keep [0, 1, 2, 3, 4, 18, 19, 20, 21, 22, 24, 151, 185, 199] (e' := [(0, .slice (some ⟨b, 0, none⟩) n cap), (1, .int .i64 (a : Int)), (2, .int .i64 (m : Int)), (3, .int .i64 (bb : Int)), (4, .func (.func 50) #[] #[]), (18, .int .i64 (((a + bb) / 2 : Nat) : Int)), (19, .int .i64 ((((a + bb) / 2) + m : Nat) : Int)), (20, .int .i64 (i : Int)), (21, .int .i64 (j : Int)), (22, .int .i64 (((((a + bb) / 2) + m) - 1 : Nat) : Int)), (24, .int .i64 (((((a + bb) / 2) + m) - i : Nat) : Int)), (151, .bool false), (185, .bool false), (199, .bool true)]) (by kernel_rfl) ?_
            refine WQ.thenN ?_
            refine WE.seq ?_
            have k3' : Srt (rk p2) ((a + bb) / 2) (((a + bb) / 2) + m - i) := srt_out k3 hP2 (Nat.le_refl _)
            have k4' : Srt (rk p2) (((a + bb) / 2) + m - i) bb := srt_out k4 hP2 (by omega)
            have hall2 := hP2.allB hall1
            -- R43 zsortanyfunc.go:455
            refine WE.region ?_
            refine WO.run 2 0 [(207, .int .i64 (((((a + bb) / 2) + m) - i : Nat) : Int)), (206, .int .i64 (((a + bb) / 2 : Nat) : Int))] (by kernel_rfl) (by kernel_rfl) ?_
            refine WO.one (SQ.F 2 (by kernel_rfl)) 208 (.bool (decide (((((a + bb) / 2 : Nat) : Int) : Int) < (((((a + bb) / 2) + m) - i : Nat) : Int)))) (by kernel_rfl) ?_
            refine WO.topP (((((a + bb) / 2 : Nat) : Int) : Int) < (((((a + bb) / 2) + m) - i : Nat) : Int)) ?_ ?_
            · intro h37
              refine WO.run 3 3 [(211, .int .i64 (bb : Int)), (210, .int .i64 (((((a + bb) / 2) + m) - i : Nat) : Int)), (209, .bool true)] (by kernel_rfl) (by kernel_rfl) ?_
              refine WO.one (SQ.F 6 (by kernel_rfl)) 212 (.bool (decide (((((((a + bb) / 2) + m) - i : Nat) : Int) : Int) < (bb : Int)))) (by kernel_rfl) ?_
              refine WO.topP (((((((a + bb) / 2) + m) - i : Nat) : Int) : Int) < (bb : Int)) ?_ ?_
              · intro h38
                refine WO.run 1 7 [(213, .bool true)] (by kernel_rfl) (by kernel_rfl) ?_
                refine WO.done (by kernel_rfl) ?_
                refine WQ.keep [0, 1, 2, 3, 4, 18, 19, 20, 21, 22, 24, 151, 185, 199, 213] (e' := [(0, .slice (some ⟨b, 0, none⟩) n cap), (1, .int .i64 (a : Int)), (2, .int .i64 (m : Int)), (3, .int .i64 (bb : Int)), (4, .func (.func 50) #[] #[]), (18, .int .i64 (((a + bb) / 2 : Nat) : Int)), (19, .int .i64 ((((a + bb) / 2) + m : Nat) : Int)), (20, .int .i64 (i : Int)), (21, .int .i64 (j : Int)), (22, .int .i64 (((((a + bb) / 2) + m) - 1 : Nat) : Int)), (24, .int .i64 (((((a + bb) / 2) + m) - i : Nat) : Int)), (151, .bool false), (185, .bool false), (199, .bool true), (213, .bool true)]) (by kernel_rfl) ?_
                refine WQ.thenN ?_
                refine WE.condT (by kernel_rfl) ?_
                -- R44 zsortanyfunc.go:456
                refine WE.region ?_
                refine WO.run 5 0 [(218, .func (.func 50) #[] #[]), (217, .int .i64 (bb : Int)), (216, .int .i64 (((((a + bb) / 2) + m) - i : Nat) : Int)), (215, .int .i64 (((a + bb) / 2 : Nat) : Int)), (214, .slice (some ⟨b, 0, none⟩) n cap)] (by kernel_rfl) (by kernel_rfl) ?_
                refine WO.call (SQ.E 5 (by kernel_rfl)) 219 (by kernel_rfl) (ih (bb - ((a + bb) / 2)) (by omega) b n cap ((a + bb) / 2) ((((a + bb) / 2) + m) - i) bb p2 _ rfl HR36 (hP2.len.trans (hn)) hall2 hm (by omega) (by omega) (by omega) k3' k4') ?_
                rintro _ w39 ⟨p3, rfl, hP3, hS3, HR41, F40⟩
                refine ⟨_, rfl, trivial, ?_⟩
                have HA := Fr.step HA F40 (inSL (by simp) inS0)
                refine WO.done (by kernel_rfl) ?_
                refine WQ.keep [0, 1, 2, 3, 4, 18, 19, 20, 21, 22, 24, 151, 185, 199, 213] (e' := [(0, .slice (some ⟨b, 0, none⟩) n cap), (1, .int .i64 (a : Int)), (2, .int .i64 (m : Int)), (3, .int .i64 (bb : Int)), (4, .func (.func 50) #[] #[]), (18, .int .i64 (((a + bb) / 2 : Nat) : Int)), (19, .int .i64 ((((a + bb) / 2) + m : Nat) : Int)), (20, .int .i64 (i : Int)), (21, .int .i64 (j : Int)), (22, .int .i64 (((((a + bb) / 2) + m) - 1 : Nat) : Int)), (24, .int .i64 (((((a + bb) / 2) + m) - i : Nat) : Int)), (151, .bool false), (185, .bool false), (199, .bool true), (213, .bool true)]) (by kernel_rfl) ?_
                refine WQ.fall (v := .tuple #[]) (by kernel_rfl) ?_
                obtain ⟨t1, t2⟩ := final_srt (q := q) (p1 := q) (p2 := p2) (p3 := p3) (by omega) (by omega) (by omega) hP1 hP2 hP3 hS2 hS3 kx
                exact ⟨p3, rfl, t1, t2, HR41, HA⟩
              · intro h38
                refine WO.run 1 7 [(213, .bool false)] (by kernel_rfl) (by kernel_rfl) ?_
                refine WO.done (by kernel_rfl) ?_
                refine WQ.keep [0, 1, 2, 3, 4, 18, 19, 20, 21, 22, 24, 151, 185, 199, 213] (e' := [(0, .slice (some ⟨b, 0, none⟩) n cap), (1, .int .i64 (a : Int)), (2, .int .i64 (m : Int)), (3, .int .i64 (bb : Int)), (4, .func (.func 50) #[] #[]), (18, .int .i64 (((a + bb) / 2 : Nat) : Int)), (19, .int .i64 ((((a + bb) / 2) + m : Nat) : Int)), (20, .int .i64 (i : Int)), (21, .int .i64 (j : Int)), (22, .int .i64 (((((a + bb) / 2) + m) - 1 : Nat) : Int)), (24, .int .i64 (((((a + bb) / 2) + m) - i : Nat) : Int)), (151, .bool false), (185, .bool false), (199, .bool true), (213, .bool false)]) (by kernel_rfl) ?_
                refine WQ.thenN ?_
                refine WE.condF (by kernel_rfl) ?_
                refine WE.skip ?_
                refine WQ.fall (v := .tuple #[]) (by kernel_rfl) ?_
                have hP3 := PIn.refl ((a + bb) / 2) bb p2
                have hS3 : Srt (rk p2) ((a + bb) / 2) bb := srt_side k3' k4' (by omega)
                obtain ⟨t1, t2⟩ := final_srt (q := q) (p1 := q) (p2 := p2) (p3 := p2) (by omega) (by omega) (by omega) hP1 hP2 hP3 hS2 hS3 kx
                exact ⟨p2, rfl, t1, t2, HR36, HA⟩
            · intro h37
              refine WO.run 5 3 [(213, .bool false), (212, undef), (211, undef), (210, undef), (209, .bool false)] (by kernel_rfl) (by kernel_rfl) ?_
              refine WO.done (by kernel_rfl) ?_
              refine WQ.keep [0, 1, 2, 3, 4, 18, 19, 20, 21, 22, 24, 151, 185, 199, 213] (e' := [(0, .slice (some ⟨b, 0, none⟩) n cap), (1, .int .i64 (a : Int)), (2, .int .i64 (m : Int)), (3, .int .i64 (bb : Int)), (4, .func (.func 50) #[] #[]), (18, .int .i64 (((a + bb) / 2 : Nat) : Int)), (19, .int .i64 ((((a + bb) / 2) + m : Nat) : Int)), (20, .int .i64 (i : Int)), (21, .int .i64 (j : Int)), (22, .int .i64 (((((a + bb) / 2) + m) - 1 : Nat) : Int)), (24, .int .i64 (((((a + bb) / 2) + m) - i : Nat) : Int)), (151, .bool false), (185, .bool false), (199, .bool true), (213, .bool false)]) (by kernel_rfl) ?_
              refine WQ.thenN ?_
              refine WE.condF (by kernel_rfl) ?_
              refine WE.skip ?_
              refine WQ.fall (v := .tuple #[]) (by kernel_rfl) ?_
              have hP3 := PIn.refl ((a + bb) / 2) bb p2
              have hS3 : Srt (rk p2) ((a + bb) / 2) bb := srt_side k3' k4' (by omega)
              obtain ⟨t1, t2⟩ := final_srt (q := q) (p1 := q) (p2 := p2) (p3 := p2) (by omega) (by omega) (by omega) hP1 hP2 hP3 hS2 hS3 kx
              exact ⟨p2, rfl, t1, t2, HR36, HA⟩
          · intro h33
            refine WO.run 1 7 [(199, .bool false)] (by kernel_rfl) (by kernel_rfl) ?_
            refine WO.done (by kernel_rfl) ?_
            refine WQ.keep [0, 1, 2, 3, 4, 18, 19, 20, 21, 22, 24, 151, 185, 199] (e' := [(0, .slice (some ⟨b, 0, none⟩) n cap), (1, .int .i64 (a : Int)), (2, .int .i64 (m : Int)), (3, .int .i64 (bb : Int)), (4, .func (.func 50) #[] #[]), (18, .int .i64 (((a + bb) / 2 : Nat) : Int)), (19, .int .i64 ((((a + bb) / 2) + m : Nat) : Int)), (20, .int .i64 (i : Int)), (21, .int .i64 (j : Int)), (22, .int .i64 (((((a + bb) / 2) + m) - 1 : Nat) : Int)), (24, .int .i64 (((((a + bb) / 2) + m) - i : Nat) : Int)), (151, .bool false), (185, .bool false), (199, .bool false)]) (by kernel_rfl) ?_
            refine WQ.thenN ?_
            refine WE.condF (by kernel_rfl) ?_
            refine WE.skip ?_
            refine WQ.thenN ?_
            refine WE.seq ?_
            have hP2 := PIn.refl a ((a + bb) / 2) q
            have hS2 : Srt (rk q) a ((a + bb) / 2) := srt_side k1 k2 (by omega)
            have k3' : Srt (rk q) ((a + bb) / 2) (((a + bb) / 2) + m - i) := srt_out k3 hP2 (Nat.le_refl _)
            have k4' : Srt (rk q) (((a + bb) / 2) + m - i) bb := srt_out k4 hP2 (by omega)
            have hall2 := hP2.allB hall1
            -- R43 zsortanyfunc.go:455
            refine WE.region ?_
            refine WO.run 2 0 [(207, .int .i64 (((((a + bb) / 2) + m) - i : Nat) : Int)), (206, .int .i64 (((a + bb) / 2 : Nat) : Int))] (by kernel_rfl) (by kernel_rfl) ?_
            refine WO.one (SQ.F 2 (by kernel_rfl)) 208 (.bool (decide (((((a + bb) / 2 : Nat) : Int) : Int) < (((((a + bb) / 2) + m) - i : Nat) : Int)))) (by kernel_rfl) ?_
            refine WO.topP (((((a + bb) / 2 : Nat) : Int) : Int) < (((((a + bb) / 2) + m) - i : Nat) : Int)) ?_ ?_
            · intro h42
              refine WO.run 3 3 [(211, .int .i64 (bb : Int)), (210, .int .i64 (((((a + bb) / 2) + m) - i : Nat) : Int)), (209, .bool true)] (by kernel_rfl) (by kernel_rfl) ?_
              refine WO.one (SQ.F 6 (by kernel_rfl)) 212 (.bool (decide (((((((a + bb) / 2) + m) - i : Nat) : Int) : Int) < (bb : Int)))) (by kernel_rfl) ?_
              refine WO.topP (((((((a + bb) / 2) + m) - i : Nat) : Int) : Int) < (bb : Int)) ?_ ?_
              · intro h43
                refine WO.run 1 7 [(213, .bool true)] (by kernel_rfl) (by kernel_rfl) ?_
                refine WO.done (by kernel_rfl) ?_
                refine WQ.keep [0, 1, 2, 3, 4, 18, 19, 20, 21, 22, 24, 151, 185, 199, 213] (e' := [(0, .slice (some ⟨b, 0, none⟩) n cap), (1, .int .i64 (a : Int)), (2, .int .i64 (m : Int)), (3, .int .i64 (bb : Int)), (4, .func (.func 50) #[] #[]), (18, .int .i64 (((a + bb) / 2 : Nat) : Int)), (19, .int .i64 ((((a + bb) / 2) + m : Nat) : Int)), (20, .int .i64 (i : Int)), (21, .int .i64 (j : Int)), (22, .int .i64 (((((a + bb) / 2) + m) - 1 : Nat) : Int)), (24, .int .i64 (((((a + bb) / 2) + m) - i : Nat) : Int)), (151, .bool false), (185, .bool false), (199, .bool false), (213, .bool true)]) (by kernel_rfl) ?_
                refine WQ.thenN ?_
                refine WE.condT (by kernel_rfl) ?_
                -- R44 zsortanyfunc.go:456
                refine WE.region ?_
                refine WO.run 5 0 [(218, .func (.func 50) #[] #[]), (217, .int .i64 (bb : Int)), (216, .int .i64 (((((a + bb) / 2) + m) - i : Nat) : Int)), (215, .int .i64 (((a + bb) / 2 : Nat) : Int)), (214, .slice (some ⟨b, 0, none⟩) n cap)] (by kernel_rfl) (by kernel_rfl) ?_
                refine WO.call (SQ.E 5 (by kernel_rfl)) 219 (by kernel_rfl) (ih (bb - ((a + bb) / 2)) (by omega) b n cap ((a + bb) / 2) ((((a + bb) / 2) + m) - i) bb q _ rfl HR hn hall2 hm (by omega) (by omega) (by omega) k3' k4') ?_
                rintro _ w44 ⟨p3, rfl, hP3, hS3, HR46, F45⟩
                refine ⟨_, rfl, trivial, ?_⟩
                have HA := Fr.step HA F45 (inSL (by simp) inS0)
                refine WO.done (by kernel_rfl) ?_
                refine WQ.keep [0, 1, 2, 3, 4, 18, 19, 20, 21, 22, 24, 151, 185, 199, 213] (e' := [(0, .slice (some ⟨b, 0, none⟩) n cap), (1, .int .i64 (a : Int)), (2, .int .i64 (m : Int)), (3, .int .i64 (bb : Int)), (4, .func (.func 50) #[] #[]), (18, .int .i64 (((a + bb) / 2 : Nat) : Int)), (19, .int .i64 ((((a + bb) / 2) + m : Nat) : Int)), (20, .int .i64 (i : Int)), (21, .int .i64 (j : Int)), (22, .int .i64 (((((a + bb) / 2) + m) - 1 : Nat) : Int)), (24, .int .i64 (((((a + bb) / 2) + m) - i : Nat) : Int)), (151, .bool false), (185, .bool false), (199, .bool false), (213, .bool true)]) (by kernel_rfl) ?_
                refine WQ.fall (v := .tuple #[]) (by kernel_rfl) ?_
                obtain ⟨t1, t2⟩ := final_srt (q := q) (p1 := q) (p2 := q) (p3 := p3) (by omega) (by omega) (by omega) hP1 hP2 hP3 hS2 hS3 kx
                exact ⟨p3, rfl, t1, t2, HR46, HA⟩
              · intro h43
                refine WO.run 1 7 [(213, .bool false)] (by kernel_rfl) (by kernel_rfl) ?_
                refine WO.done (by kernel_rfl) ?_
                refine WQ.keep [0, 1, 2, 3, 4, 18, 19, 20, 21, 22, 24, 151, 185, 199, 213] (e' := [(0, .slice (some ⟨b, 0, none⟩) n cap), (1, .int .i64 (a : Int)), (2, .int .i64 (m : Int)), (3, .int .i64 (bb : Int)), (4, .func (.func 50) #[] #[]), (18, .int .i64 (((a + bb) / 2 : Nat) : Int)), (19, .int .i64 ((((a + bb) / 2) + m : Nat) : Int)), (20, .int .i64 (i : Int)), (21, .int .i64 (j : Int)), (22, .int .i64 (((((a + bb) / 2) + m) - 1 : Nat) : Int)), (24, .int .i64 (((((a + bb) / 2) + m) - i : Nat) : Int)), (151, .bool false), (185, .bool false), (199, .bool false), (213, .bool false)]) (by kernel_rfl) ?_
                refine WQ.thenN ?_
                refine WE.condF (by kernel_rfl) ?_
                refine WE.skip ?_
                refine WQ.fall (v := .tuple #[]) (by kernel_rfl) ?_
                have hP3 := PIn.refl ((a + bb) / 2) bb q
                have hS3 : Srt (rk q) ((a + bb) / 2) bb := srt_side k3' k4' (by omega)
                obtain ⟨t1, t2⟩ := final_srt (q := q) (p1 := q) (p2 := q) (p3 := q) (by omega) (by omega) (by omega) hP1 hP2 hP3 hS2 hS3 kx
                exact ⟨q, rfl, t1, t2, HR, HA⟩
            · intro h42
              refine WO.run 5 3 [(213, .bool false), (212, undef), (211, undef), (210, undef), (209, .bool false)] (by kernel_rfl) (by kernel_rfl) ?_
              refine WO.done (by kernel_rfl) ?_
              refine WQ.keep [0, 1, 2, 3, 4, 18, 19, 20, 21, 22, 24, 151, 185, 199, 213] (e' := [(0, .slice (some ⟨b, 0, none⟩) n cap), (1, .int .i64 (a : Int)), (2, .int .i64 (m : Int)), (3, .int .i64 (bb : Int)), (4, .func (.func 50) #[] #[]), (18, .int .i64 (((a + bb) / 2 : Nat) : Int)), (19, .int .i64 ((((a + bb) / 2) + m : Nat) : Int)), (20, .int .i64 (i : Int)), (21, .int .i64 (j : Int)), (22, .int .i64 (((((a + bb) / 2) + m) - 1 : Nat) : Int)), (24, .int .i64 (((((a + bb) / 2) + m) - i : Nat) : Int)), (151, .bool false), (185, .bool false), (199, .bool false), (213, .bool false)]) (by kernel_rfl) ?_
              refine WQ.thenN ?_
              refine WE.condF (by kernel_rfl) ?_
              refine WE.skip ?_
              refine WQ.fall (v := .tuple #[]) (by kernel_rfl) ?_
              have hP3 := PIn.refl ((a + bb) / 2) bb q
              have hS3 : Srt (rk q) ((a + bb) / 2) bb := srt_side k3' k4' (by omega)
              obtain ⟨t1, t2⟩ := final_srt (q := q) (p1 := q) (p2 := q) (p3 := q) (by omega) (by omega) (by omega) hP1 hP2 hP3 hS2 hS3 kx
              exact ⟨q, rfl, t1, t2, HR, HA⟩
        · intro h32
          refine WO.run 5 3 [(199, .bool false), (198, undef), (197, undef), (196, undef), (195, .bool false)] (by kernel_rfl) (by kernel_rfl) ?_
          refine WO.done (by kernel_rfl) ?_
          refine WQ.keep [0, 1, 2, 3, 4, 18, 19, 20, 21, 22, 24, 151, 185, 199] (e' := [(0, .slice (some ⟨b, 0, none⟩) n cap), (1, .int .i64 (a : Int)), (2, .int .i64 (m : Int)), (3, .int .i64 (bb : Int)), (4, .func (.func 50) #[] #[]), (18, .int .i64 (((a + bb) / 2 : Nat) : Int)), (19, .int .i64 ((((a + bb) / 2) + m : Nat) : Int)), (20, .int .i64 (i : Int)), (21, .int .i64 (j : Int)), (22, .int .i64 (((((a + bb) / 2) + m) - 1 : Nat) : Int)), (24, .int .i64 (((((a + bb) / 2) + m) - i : Nat) : Int)), (151, .bool false), (185, .bool false), (199, .bool false)]) (by kernel_rfl) ?_
          refine WQ.thenN ?_
          refine WE.condF (by kernel_rfl) ?_
          refine WE.skip ?_
          refine WQ.thenN ?_
          refine WE.seq ?_
          have hP2 := PIn.refl a ((a + bb) / 2) q
          have hS2 : Srt (rk q) a ((a + bb) / 2) := srt_side k1 k2 (by omega)
          have k3' : Srt (rk q) ((a + bb) / 2) (((a + bb) / 2) + m - i) := srt_out k3 hP2 (Nat.le_refl _)
          have k4' : Srt (rk q) (((a + bb) / 2) + m - i) bb := srt_out k4 hP2 (by omega)
          have hall2 := hP2.allB hall1
          -- R43 zsortanyfunc.go:455
          refine WE.region ?_
          refine WO.run 2 0 [(207, .int .i64 (((((a + bb) / 2) + m) - i : Nat) : Int)), (206, .int .i64 (((a + bb) / 2 : Nat) : Int))] (by kernel_rfl) (by kernel_rfl) ?_
          refine WO.one (SQ.F 2 (by kernel_rfl)) 208 (.bool (decide (((((a + bb) / 2 : Nat) : Int) : Int) < (((((a + bb) / 2) + m) - i : Nat) : Int)))) (by kernel_rfl) ?_
          refine WO.topP (((((a + bb) / 2 : Nat) : Int) : Int) < (((((a + bb) / 2) + m) - i : Nat) : Int)) ?_ ?_
          · intro h47
            refine WO.run 3 3 [(211, .int .i64 (bb : Int)), (210, .int .i64 (((((a + bb) / 2) + m) - i : Nat) : Int)), (209, .bool true)] (by kernel_rfl) (by kernel_rfl) ?_
            refine WO.one (SQ.F 6 (by kernel_rfl)) 212 (.bool (decide (((((((a + bb) / 2) + m) - i : Nat) : Int) : Int) < (bb : Int)))) (by kernel_rfl) ?_
            refine WO.topP (((((((a + bb) / 2) + m) - i : Nat) : Int) : Int) < (bb : Int)) ?_ ?_
            · intro h48
              refine WO.run 1 7 [(213, .bool true)] (by kernel_rfl) (by kernel_rfl) ?_
              refine WO.done (by kernel_rfl) ?_
              refine WQ.keep [0, 1, 2, 3, 4, 18, 19, 20, 21, 22, 24, 151, 185, 199, 213] (e' := [(0, .slice (some ⟨b, 0, none⟩) n cap), (1, .int .i64 (a : Int)), (2, .int .i64 (m : Int)), (3, .int .i64 (bb : Int)), (4, .func (.func 50) #[] #[]), (18, .int .i64 (((a + bb) / 2 : Nat) : Int)), (19, .int .i64 ((((a + bb) / 2) + m : Nat) : Int)), (20, .int .i64 (i : Int)), (21, .int .i64 (j : Int)), (22, .int .i64 (((((a + bb) / 2) + m) - 1 : Nat) : Int)), (24, .int .i64 (((((a + bb) / 2) + m) - i : Nat) : Int)), (151, .bool false), (185, .bool false), (199, .bool false), (213, .bool true)]) (by kernel_rfl) ?_
              refine WQ.thenN ?_
              refine WE.condT (by kernel_rfl) ?_
              -- R44 zsortanyfunc.go:456
              refine WE.region ?_
              refine WO.run 5 0 [(218, .func (.func 50) #[] #[]), (217, .int .i64 (bb : Int)), (216, .int .i64 (((((a + bb) / 2) + m) - i : Nat) : Int)), (215, .int .i64 (((a + bb) / 2 : Nat) : Int)), (214, .slice (some ⟨b, 0, none⟩) n cap)] (by kernel_rfl) (by kernel_rfl) ?_
              refine WO.call (SQ.E 5 (by kernel_rfl)) 219 (by kernel_rfl) (ih (bb - ((a + bb) / 2)) (by omega) b n cap ((a + bb) / 2) ((((a + bb) / 2) + m) - i) bb q _ rfl HR hn hall2 hm (by omega) (by omega) (by omega) k3' k4') ?_
              rintro _ w49 ⟨p3, rfl, hP3, hS3, HR51, F50⟩
              refine ⟨_, rfl, trivial, ?_⟩
              have HA := Fr.step HA F50 (inSL (by simp) inS0)
              refine WO.done (by kernel_rfl) ?_
              refine WQ.keep [0, 1, 2, 3, 4, 18, 19, 20, 21, 22, 24, 151, 185, 199, 213] (e' := [(0, .slice (some ⟨b, 0, none⟩) n cap), (1, .int .i64 (a : Int)), (2, .int .i64 (m : Int)), (3, .int .i64 (bb : Int)), (4, .func (.func 50) #[] #[]), (18, .int .i64 (((a + bb) / 2 : Nat) : Int)), (19, .int .i64 ((((a + bb) / 2) + m : Nat) : Int)), (20, .int .i64 (i : Int)), (21, .int .i64 (j : Int)), (22, .int .i64 (((((a + bb) / 2) + m) - 1 : Nat) : Int)), (24, .int .i64 (((((a + bb) / 2) + m) - i : Nat) : Int)), (151, .bool false), (185, .bool false), (199, .bool false), (213, .bool true)]) (by kernel_rfl) ?_
              refine WQ.fall (v := .tuple #[]) (by kernel_rfl) ?_
              obtain ⟨t1, t2⟩ := final_srt (q := q) (p1 := q) (p2 := q) (p3 := p3) (by omega) (by omega) (by omega) hP1 hP2 hP3 hS2 hS3 kx
              exact ⟨p3, rfl, t1, t2, HR51, HA⟩
            · intro h48
              refine WO.run 1 7 [(213, .bool false)] (by kernel_rfl) (by kernel_rfl) ?_
              refine WO.done (by kernel_rfl) ?_
              refine WQ.keep [0, 1, 2, 3, 4, 18, 19, 20, 21, 22, 24, 151, 185, 199, 213] (e' := [(0, .slice (some ⟨b, 0, none⟩) n cap), (1, .int .i64 (a : Int)), (2, .int .i64 (m : Int)), (3, .int .i64 (bb : Int)), (4, .func (.func 50) #[] #[]), (18, .int .i64 (((a + bb) / 2 : Nat) : Int)), (19, .int .i64 ((((a + bb) / 2) + m : Nat) : Int)), (20, .int .i64 (i : Int)), (21, .int .i64 (j : Int)), (22, .int .i64 (((((a + bb) / 2) + m) - 1 : Nat) : Int)), (24, .int .i64 (((((a + bb) / 2) + m) - i : Nat) : Int)), (151, .bool false), (185, .bool false), (199, .bool false), (213, .bool false)]) (by kernel_rfl) ?_
              refine WQ.thenN ?_
              refine WE.condF (by kernel_rfl) ?_
              refine WE.skip ?_
              refine WQ.fall (v := .tuple #[]) (by kernel_rfl) ?_
              have hP3 := PIn.refl ((a + bb) / 2) bb q
              have hS3 : Srt (rk q) ((a + bb) / 2) bb := srt_side k3' k4' (by omega)
              obtain ⟨t1, t2⟩ := final_srt (q := q) (p1 := q) (p2 := q) (p3 := q) (by omega) (by omega) (by omega) hP1 hP2 hP3 hS2 hS3 kx
              exact ⟨q, rfl, t1, t2, HR, HA⟩
          · intro h47
            refine WO.run 5 3 [(213, .bool false), (212, undef), (211, undef), (210, undef), (209, .bool false)] (by kernel_rfl) (by kernel_rfl) ?_
            refine WO.done (by kernel_rfl) ?_
            refine WQ.keep [0, 1, 2, 3, 4, 18, 19, 20, 21, 22, 24, 151, 185, 199, 213] (e' := [(0, .slice (some ⟨b, 0, none⟩) n cap), (1, .int .i64 (a : Int)), (2, .int .i64 (m : Int)), (3, .int .i64 (bb : Int)), (4, .func (.func 50) #[] #[]), (18, .int .i64 (((a + bb) / 2 : Nat) : Int)), (19, .int .i64 ((((a + bb) / 2) + m : Nat) : Int)), (20, .int .i64 (i : Int)), (21, .int .i64 (j : Int)), (22, .int .i64 (((((a + bb) / 2) + m) - 1 : Nat) : Int)), (24, .int .i64 (((((a + bb) / 2) + m) - i : Nat) : Int)), (151, .bool false), (185, .bool false), (199, .bool false), (213, .bool false)]) (by kernel_rfl) ?_
            refine WQ.thenN ?_
            refine WE.condF (by kernel_rfl) ?_
            refine WE.skip ?_
            refine WQ.fall (v := .tuple #[]) (by kernel_rfl) ?_
            have hP3 := PIn.refl ((a + bb) / 2) bb q
            have hS3 : Srt (rk q) ((a + bb) / 2) bb := srt_side k3' k4' (by omega)
            obtain ⟨t1, t2⟩ := final_srt (q := q) (p1 := q) (p2 := q) (p3 := q) (by omega) (by omega) (by omega) hP1 hP2 hP3 hS2 hS3 kx
            exact ⟨q, rfl, t1, t2, HR, HA⟩
    · intro h7
      refine WO.run 5 3 [(185, .bool false), (184, undef), (183, undef), (182, undef), (181, .bool false)] (by kernel_rfl) (by kernel_rfl) ?_
      refine WO.done (by kernel_rfl) ?_
      refine WQ.keep [0, 1, 2, 3, 4, 18, 19, 20, 21, 22, 24, 151, 185] (e' := [(0, .slice (some ⟨b, 0, none⟩) n cap), (1, .int .i64 (a : Int)), (2, .int .i64 (m : Int)), (3, .int .i64 (bb : Int)), (4, .func (.func 50) #[] #[]), (18, .int .i64 (((a + bb) / 2 : Nat) : Int)), (19, .int .i64 ((((a + bb) / 2) + m : Nat) : Int)), (20, .int .i64 (i : Int)), (21, .int .i64 (j : Int)), (22, .int .i64 (((((a + bb) / 2) + m) - 1 : Nat) : Int)), (24, .int .i64 (((((a + bb) / 2) + m) - i : Nat) : Int)), (151, .bool false), (185, .bool false)]) (by kernel_rfl) ?_
      refine WQ.thenN ?_
      refine WE.condF (by kernel_rfl) ?_
      refine WE.skip ?_
      refine WQ.thenN ?_
      refine WE.seq ?_
      refine WE.seq ?_
      have e_ij : i = j := by omega
      have hB' : i < ((a + bb) / 2) → rk q (((a + bb) / 2) + m - 1 - i) < rk q i := fun h_ => by rw [e_ij]; exact hB (by omega)
      have hf1 : ∀ x, g0 q x = rotF (g0 q) i m (((a + bb) / 2) + m - i) x := fun x => (rot_triv (by omega)).symm
      obtain ⟨hP1, k1, k2, k3, k4, kx⟩ := mid_facts (q := q) (p := q) (a := a) (m := m) (bb := bb) (s := i) (e := ((a + bb) / 2) + m - i) (mid := ((a + bb) / 2)) hs1 hs2 (by omega) (by omega) (by omega) (by omega) (by omega) (by omega) (by omega) (by omega) (hn.trans hn.symm) hf1 (.refl _) (fun x y => hA (by omega)) (fun x y => by rw [show ((a + bb) / 2) + m - i - 1 = ((a + bb) / 2) + m - 1 - i by omega]; exact Nat.le_of_lt (hB' (by omega)))
      have hall1 := hP1.allB hall
      -- R41 zsortanyfunc.go:452
      refine WE.region ?_
      refine WO.run 2 0 [(193, .int .i64 (i : Int)), (192, .int .i64 (a : Int))] (by kernel_rfl) (by kernel_rfl) ?_
      refine WO.one (SQ.F 2 (by kernel_rfl)) 194 (.bool (decide (((a : Int) : Int) < (i : Int)))) (by kernel_rfl) ?_
      refine WO.topP (((a : Int) : Int) < (i : Int)) ?_ ?_
      · intro h52
        refine WO.run 3 3 [(197, .int .i64 (((a + bb) / 2 : Nat) : Int)), (196, .int .i64 (i : Int)), (195, .bool true)] (by kernel_rfl) (by kernel_rfl) ?_
        refine WO.one (SQ.F 6 (by kernel_rfl)) 198 (.bool (decide (((i : Int) : Int) < (((a + bb) / 2 : Nat) : Int)))) (by kernel_rfl) ?_
        refine WO.topP (((i : Int) : Int) < (((a + bb) / 2 : Nat) : Int)) ?_ ?_
        · intro h53
          refine WO.run 1 7 [(199, .bool true)] (by kernel_rfl) (by kernel_rfl) ?_
          refine WO.done (by kernel_rfl) ?_
          refine WQ.keep [0, 1, 2, 3, 4, 18, 19, 20, 21, 22, 24, 151, 185, 199] (e' := [(0, .slice (some ⟨b, 0, none⟩) n cap), (1, .int .i64 (a : Int)), (2, .int .i64 (m : Int)), (3, .int .i64 (bb : Int)), (4, .func (.func 50) #[] #[]), (18, .int .i64 (((a + bb) / 2 : Nat) : Int)), (19, .int .i64 ((((a + bb) / 2) + m : Nat) : Int)), (20, .int .i64 (i : Int)), (21, .int .i64 (j : Int)), (22, .int .i64 (((((a + bb) / 2) + m) - 1 : Nat) : Int)), (24, .int .i64 (((((a + bb) / 2) + m) - i : Nat) : Int)), (151, .bool false), (185, .bool false), (199, .bool true)]) (by kernel_rfl) ?_
          refine WQ.thenN ?_
          refine WE.condT (by kernel_rfl) ?_
          -- R42 zsortanyfunc.go:453
          refine WE.region ?_
          refine WO.run 5 0 [(204, .func (.func 50) #[] #[]), (203, .int .i64 (((a + bb) / 2 : Nat) : Int)), (202, .int .i64 (i : Int)), (201, .int .i64 (a : Int)), (200, .slice (some ⟨b, 0, none⟩) n cap)] (by kernel_rfl) (by kernel_rfl) ?_
          refine WO.call (SQ.E 5 (by kernel_rfl)) 205 (by kernel_rfl) (ih (((a + bb) / 2) - a) (by omega) b n cap a i ((a + bb) / 2) q _ rfl HR hn hall1 hm (by omega) (by omega) (by omega) k1 k2) ?_
          rintro _ w54 ⟨p2, rfl, hP2, hS2, HR56, F55⟩
          refine ⟨_, rfl, trivial, ?_⟩
          have HA := Fr.step HA F55 (inSL (by simp) inS0)
          refine WO.done (by kernel_rfl) ?_
          refine WQ.keep [0, 1, 2, 3, 4, 18, 19, 20, 21, 22, 24, 151, 185, 199] (e' := [(0, .slice (some ⟨b, 0, none⟩) n cap), (1, .int .i64 (a : Int)), (2, .int .i64 (m : Int)), (3, .int .i64 (bb : Int)), (4, .func (.func 50) #[] #[]), (18, .int .i64 (((a + bb) / 2 : Nat) : Int)), (19, .int .i64 ((((a + bb) / 2) + m : Nat) : Int)), (20, .int .i64 (i : Int)), (21, .int .i64 (j : Int)), (22, .int .i64 (((((a + bb) / 2) + m) - 1 : Nat) : Int)), (24, .int .i64 (((((a + bb) / 2) + m) - i : Nat) : Int)), (151, .bool false), (185, .bool false), (199, .bool true)]) (by kernel_rfl) ?_
          refine WQ.thenN ?_
          refine WE.seq ?_
          have k3' : Srt (rk p2) ((a + bb) / 2) (((a + bb) / 2) + m - i) := srt_out k3 hP2 (Nat.le_refl _)
          have k4' : Srt (rk p2) (((a + bb) / 2) + m - i) bb := srt_out k4 hP2 (by omega)
          have hall2 := hP2.allB hall1
          -- R43 zsortanyfunc.go:455
          refine WE.region ?_
          refine WO.run 2 0 [(207, .int .i64 (((((a + bb) / 2) + m) - i : Nat) : Int)), (206, .int .i64 (((a + bb) / 2 : Nat) : Int))] (by kernel_rfl) (by kernel_rfl) ?_
          refine WO.one (SQ.F 2 (by kernel_rfl)) 208 (.bool (decide (((((a + bb) / 2 : Nat) : Int) : Int) < (((((a + bb) / 2) + m) - i : Nat) : Int)))) (by kernel_rfl) ?_
          refine WO.topP (((((a + bb) / 2 : Nat) : Int) : Int) < (((((a + bb) / 2) + m) - i : Nat) : Int)) ?_ ?_
          · intro h57
            refine WO.run 3 3 [(211, .int .i64 (bb : Int)), (210, .int .i64 (((((a + bb) / 2) + m) - i : Nat) : Int)), (209, .bool true)] (by kernel_rfl) (by kernel_rfl) ?_
            refine WO.one (SQ.F 6 (by kernel_rfl)) 212 (.bool (decide (((((((a + bb) / 2) + m) - i : Nat) : Int) : Int) < (bb : Int)))) (by kernel_rfl) ?_
            refine WO.topP (((((((a + bb) / 2) + m) - i : Nat) : Int) : Int) < (bb : Int)) ?_ ?_
            · intro h58
              refine WO.run 1 7 [(213, .bool true)] (by kernel_rfl) (by kernel_rfl) ?_
              refine WO.done (by kernel_rfl) ?_
              refine WQ.keep [0, 1, 2, 3, 4, 18, 19, 20, 21, 22, 24, 151, 185, 199, 213] (e' := [(0, .slice (some ⟨b, 0, none⟩) n cap), (1, .int .i64 (a : Int)), (2, .int .i64 (m : Int)), (3, .int .i64 (bb : Int)), (4, .func (.func 50) #[] #[]), (18, .int .i64 (((a + bb) / 2 : Nat) : Int)), (19, .int .i64 ((((a + bb) / 2) + m : Nat) : Int)), (20, .int .i64 (i : Int)), (21, .int .i64 (j : Int)), (22, .int .i64 (((((a + bb) / 2) + m) - 1 : Nat) : Int)), (24, .int .i64 (((((a + bb) / 2) + m) - i : Nat) : Int)), (151, .bool false), (185, .bool false), (199, .bool true), (213, .bool true)]) (by kernel_rfl) ?_
              refine WQ.thenN ?_
              refine WE.condT (by kernel_rfl) ?_
              -- R44 zsortanyfunc.go:456
              refine WE.region ?_
              refine WO.run 5 0 [(218, .func (.func 50) #[] #[]), (217, .int .i64 (bb : Int)), (216, .int .i64 (((((a + bb) / 2) + m) - i : Nat) : Int)), (215, .int .i64 (((a + bb) / 2 : Nat) : Int)), (214, .slice (some ⟨b, 0, none⟩) n cap)] (by kernel_rfl) (by kernel_rfl) ?_
              refine WO.call (SQ.E 5 (by kernel_rfl)) 219 (by kernel_rfl) (ih (bb - ((a + bb) / 2)) (by omega) b n cap ((a + bb) / 2) ((((a + bb) / 2) + m) - i) bb p2 _ rfl HR56 (hP2.len.trans (hn)) hall2 hm (by omega) (by omega) (by omega) k3' k4') ?_
              rintro _ w59 ⟨p3, rfl, hP3, hS3, HR61, F60⟩
              refine ⟨_, rfl, trivial, ?_⟩
              have HA := Fr.step HA F60 (inSL (by simp) inS0)
              refine WO.done (by kernel_rfl) ?_
              refine WQ.keep [0, 1, 2, 3, 4, 18, 19, 20, 21, 22, 24, 151, 185, 199, 213] (e' := [(0, .slice (some ⟨b, 0, none⟩) n cap), (1, .int .i64 (a : Int)), (2, .int .i64 (m : Int)), (3, .int .i64 (bb : Int)), (4, .func (.func 50) #[] #[]), (18, .int .i64 (((a + bb) / 2 : Nat) : Int)), (19, .int .i64 ((((a + bb) / 2) + m : Nat) : Int)), (20, .int .i64 (i : Int)), (21, .int .i64 (j : Int)), (22, .int .i64 (((((a + bb) / 2) + m) - 1 : Nat) : Int)), (24, .int .i64 (((((a + bb) / 2) + m) - i : Nat) : Int)), (151, .bool false), (185, .bool false), (199, .bool true), (213, .bool true)]) (by kernel_rfl) ?_
              refine WQ.fall (v := .tuple #[]) (by kernel_rfl) ?_
              obtain ⟨t1, t2⟩ := final_srt (q := q) (p1 := q) (p2 := p2) (p3 := p3) (by omega) (by omega) (by omega) hP1 hP2 hP3 hS2 hS3 kx
              exact ⟨p3, rfl, t1, t2, HR61, HA⟩
            · intro h58
              refine WO.run 1 7 [(213, .bool false)] (by kernel_rfl) (by kernel_rfl) ?_
              refine WO.done (by kernel_rfl) ?_
              refine WQ.keep [0, 1, 2, 3, 4, 18, 19, 20, 21, 22, 24, 151, 185, 199, 213] (e' := [(0, .slice (some ⟨b, 0, none⟩) n cap), (1, .int .i64 (a : Int)), (2, .int .i64 (m : Int)), (3, .int .i64 (bb : Int)), (4, .func (.func 50) #[] #[]), (18, .int .i64 (((a + bb) / 2 : Nat) : Int)), (19, .int .i64 ((((a + bb) / 2) + m : Nat) : Int)), (20, .int .i64 (i : Int)), (21, .int .i64 (j : Int)), (22, .int .i64 (((((a + bb) / 2) + m) - 1 : Nat) : Int)), (24, .int .i64 (((((a + bb) / 2) + m) - i : Nat) : Int)), (151, .bool false), (185, .bool false), (199, .bool true), (213, .bool false)]) (by kernel_rfl) ?_
              refine WQ.thenN ?_
              refine WE.condF (by kernel_rfl) ?_
              refine WE.skip ?_
              refine WQ.fall (v := .tuple #[]) (by kernel_rfl) ?_
              have hP3 := PIn.refl ((a + bb) / 2) bb p2
              have hS3 : Srt (rk p2) ((a + bb) / 2) bb := srt_side k3' k4' (by omega)
              obtain ⟨t1, t2⟩ := final_srt (q := q) (p1 := q) (p2 := p2) (p3 := p2) (by omega) (by omega) (by omega) hP1 hP2 hP3 hS2 hS3 kx
              exact ⟨p2, rfl, t1, t2, HR56, HA⟩
          · intro h57
            refine WO.run 5 3 [(213, .bool false), (212, undef), (211, undef), (210, undef), (209, .bool false)] (by kernel_rfl) (by kernel_rfl) ?_
            refine WO.done (by kernel_rfl) ?_
            refine WQ.keep [0, 1, 2, 3, 4, 18, 19, 20, 21, 22, 24, 151, 185, 199, 213] (e' := [(0, .slice (some ⟨b, 0, none⟩) n cap), (1, .int .i64 (a : Int)), (2, .int .i64 (m : Int)), (3, .int .i64 (bb : Int)), (4, .func (.func 50) #[] #[]), (18, .int .i64 (((a + bb) / 2 : Nat) : Int)), (19, .int .i64 ((((a + bb) / 2) + m : Nat) : Int)), (20, .int .i64 (i : Int)), (21, .int .i64 (j : Int)), (22, .int .i64 (((((a + bb) / 2) + m) - 1 : Nat) : Int)), (24, .int .i64 (((((a + bb) / 2) + m) - i : Nat) : Int)), (151, .bool false), (185, .bool false), (199, .bool true), (213, .bool false)]) (by kernel_rfl) ?_
            refine WQ.thenN ?_
            refine WE.condF (by kernel_rfl) ?_
            refine WE.skip ?_
            refine WQ.fall (v := .tuple #[]) (by kernel_rfl) ?_
            have hP3 := PIn.refl ((a + bb) / 2) bb p2
            have hS3 : Srt (rk p2) ((a + bb) / 2) bb := srt_side k3' k4' (by omega)
            obtain ⟨t1, t2⟩ := final_srt (q := q) (p1 := q) (p2 := p2) (p3 := p2) (by omega) (by omega) (by omega) hP1 hP2 hP3 hS2 hS3 kx
            exact ⟨p2, rfl, t1, t2, HR56, HA⟩
        · intro h53
          refine WO.run 1 7 [(199, .bool false)] (by kernel_rfl) (by kernel_rfl) ?_
          refine WO.done (by kernel_rfl) ?_
          refine WQ.keep [0, 1, 2, 3, 4, 18, 19, 20, 21, 22, 24, 151, 185, 199] (e' := [(0, .slice (some ⟨b, 0, none⟩) n cap), (1, .int .i64 (a : Int)), (2, .int .i64 (m : Int)), (3, .int .i64 (bb : Int)), (4, .func (.func 50) #[] #[]), (18, .int .i64 (((a + bb) / 2 : Nat) : Int)), (19, .int .i64 ((((a + bb) / 2) + m : Nat) : Int)), (20, .int .i64 (i : Int)), (21, .int .i64 (j : Int)), (22, .int .i64 (((((a + bb) / 2) + m) - 1 : Nat) : Int)), (24, .int .i64 (((((a + bb) / 2) + m) - i : Nat) : Int)), (151, .bool false), (185, .bool false), (199, .bool false)]) (by kernel_rfl) ?_
          refine WQ.thenN ?_
          refine WE.condF (by kernel_rfl) ?_
          refine WE.skip ?_
          refine WQ.thenN ?_
          refine WE.seq ?_
          have hP2 := PIn.refl a ((a + bb) / 2) q
          have hS2 : Srt (rk q) a ((a + bb) / 2) := srt_side k1 k2 (by omega)
          have k3' : Srt (rk q) ((a + bb) / 2) (((a + bb) / 2) + m - i) := srt_out k3 hP2 (Nat.le_refl _)
          have k4' : Srt (rk q) (((a + bb) / 2) + m - i) bb := srt_out k4 hP2 (by omega)
          have hall2 := hP2.allB hall1
          -- R43 zsortanyfunc.go:455
          refine WE.region ?_
          refine WO.run 2 0 [(207, .int .i64 (((((a + bb) / 2) + m) - i : Nat) : Int)), (206, .int .i64 (((a + bb) / 2 : Nat) : Int))] (by kernel_rfl) (by kernel_rfl) ?_
          refine WO.one (SQ.F 2 (by kernel_rfl)) 208 (.bool (decide (((((a + bb) / 2 : Nat) : Int) : Int) < (((((a + bb) / 2) + m) - i : Nat) : Int)))) (by kernel_rfl) ?_
          refine WO.topP (((((a + bb) / 2 : Nat) : Int) : Int) < (((((a + bb) / 2) + m) - i : Nat) : Int)) ?_ ?_
          · intro h62
            refine WO.run 3 3 [(211, .int .i64 (bb : Int)), (210, .int .i64 (((((a + bb) / 2) + m) - i : Nat) : Int)), (209, .bool true)] (by kernel_rfl) (by kernel_rfl) ?_
            refine WO.one (SQ.F 6 (by kernel_rfl)) 212 (.bool (decide (((((((a + bb) / 2) + m) - i : Nat) : Int) : Int) < (bb : Int)))) (by kernel_rfl) ?_
            refine WO.topP (((((((a + bb) / 2) + m) - i : Nat) : Int) : Int) < (bb : Int)) ?_ ?_
            · intro h63
              refine WO.run 1 7 [(213, .bool true)] (by kernel_rfl) (by kernel_rfl) ?_
              refine WO.done (by kernel_rfl) ?_
              refine WQ.keep [0, 1, 2, 3, 4, 18, 19, 20, 21, 22, 24, 151, 185, 199, 213] (e' := [(0, .slice (some ⟨b, 0, none⟩) n cap), (1, .int .i64 (a : Int)), (2, .int .i64 (m : Int)), (3, .int .i64 (bb : Int)), (4, .func (.func 50) #[] #[]), (18, .int .i64 (((a + bb) / 2 : Nat) : Int)), (19, .int .i64 ((((a + bb) / 2) + m : Nat) : Int)), (20, .int .i64 (i : Int)), (21, .int .i64 (j : Int)), (22, .int .i64 (((((a + bb) / 2) + m) - 1 : Nat) : Int)), (24, .int .i64 (((((a + bb) / 2) + m) - i : Nat) : Int)), (151, .bool false), (185, .bool false), (199, .bool false), (213, .bool true)]) (by kernel_rfl) ?_
              refine WQ.thenN ?_
              refine WE.condT (by kernel_rfl) ?_
              -- R44 zsortanyfunc.go:456
              refine WE.region ?_
              refine WO.run 5 0 [(218, .func (.func 50) #[] #[]), (217, .int .i64 (bb : Int)), (216, .int .i64 (((((a + bb) / 2) + m) - i : Nat) : Int)), (215, .int .i64 (((a + bb) / 2 : Nat) : Int)), (214, .slice (some ⟨b, 0, none⟩) n cap)] (by kernel_rfl) (by kernel_rfl) ?_
              refine WO.call (SQ.E 5 (by kernel_rfl)) 219 (by kernel_rfl) (ih (bb - ((a + bb) / 2)) (by omega) b n cap ((a + bb) / 2) ((((a + bb) / 2) + m) - i) bb q _ rfl HR hn hall2 hm (by omega) (by omega) (by omega) k3' k4') ?_
              rintro _ w64 ⟨p3, rfl, hP3, hS3, HR66, F65⟩
              refine ⟨_, rfl, trivial, ?_⟩
              have HA := Fr.step HA F65 (inSL (by simp) inS0)
              refine WO.done (by kernel_rfl) ?_
              refine WQ.keep [0, 1, 2, 3, 4, 18, 19, 20, 21, 22, 24, 151, 185, 199, 213] (e' := [(0, .slice (some ⟨b, 0, none⟩) n cap), (1, .int .i64 (a : Int)), (2, .int .i64 (m : Int)), (3, .int .i64 (bb : Int)), (4, .func (.func 50) #[] #[]), (18, .int .i64 (((a + bb) / 2 : Nat) : Int)), (19, .int .i64 ((((a + bb) / 2) + m : Nat) : Int)), (20, .int .i64 (i : Int)), (21, .int .i64 (j : Int)), (22, .int .i64 (((((a + bb) / 2) + m) - 1 : Nat) : Int)), (24, .int .i64 (((((a + bb) / 2) + m) - i : Nat) : Int)), (151, .bool false), (185, .bool false), (199, .bool false), (213, .bool true)]) (by kernel_rfl) ?_
              refine WQ.fall (v := .tuple #[]) (by kernel_rfl) ?_
              obtain ⟨t1, t2⟩ := final_srt (q := q) (p1 := q) (p2 := q) (p3 := p3) (by omega) (by omega) (by omega) hP1 hP2 hP3 hS2 hS3 kx
              exact ⟨p3, rfl, t1, t2, HR66, HA⟩
            · intro h63
              refine WO.run 1 7 [(213, .bool false)] (by kernel_rfl) (by kernel_rfl) ?_
              refine WO.done (by kernel_rfl) ?_
              refine WQ.keep [0, 1, 2, 3, 4, 18, 19, 20, 21, 22, 24, 151, 185, 199, 213] (e' := [(0, .slice (some ⟨b, 0, none⟩) n cap), (1, .int .i64 (a : Int)), (2, .int .i64 (m : Int)), (3, .int .i64 (bb : Int)), (4, .func (.func 50) #[] #[]), (18, .int .i64 (((a + bb) / 2 : Nat) : Int)), (19, .int .i64 ((((a + bb) / 2) + m : Nat) : Int)), (20, .int .i64 (i : Int)), (21, .int .i64 (j : Int)), (22, .int .i64 (((((a + bb) / 2) + m) - 1 : Nat) : Int)), (24, .int .i64 (((((a + bb) / 2) + m) - i : Nat) : Int)), (151, .bool false), (185, .bool false), (199, .bool false), (213, .bool false)]) (by kernel_rfl) ?_
              refine WQ.thenN ?_
              refine WE.condF (by kernel_rfl) ?_
              refine WE.skip ?_
              refine WQ.fall (v := .tuple #[]) (by kernel_rfl) ?_
              have hP3 := PIn.refl ((a + bb) / 2) bb q
              have hS3 : Srt (rk q) ((a + bb) / 2) bb := srt_side k3' k4' (by omega)
              obtain ⟨t1, t2⟩ := final_srt (q := q) (p1 := q) (p2 := q) (p3 := q) (by omega) (by omega) (by omega) hP1 hP2 hP3 hS2 hS3 kx
              exact ⟨q, rfl, t1, t2, HR, HA⟩
          · intro h62
            refine WO.run 5 3 [(213, .bool false), (212, undef), (211, undef), (210, undef), (209, .bool false)] (by kernel_rfl) (by kernel_rfl) ?_
            refine WO.done (by kernel_rfl) ?_
            refine WQ.keep [0, 1, 2, 3, 4, 18, 19, 20, 21, 22, 24, 151, 185, 199, 213] (e' := [(0, .slice (some ⟨b, 0, none⟩) n cap), (1, .int .i64 (a : Int)), (2, .int .i64 (m : Int)), (3, .int .i64 (bb : Int)), (4, .func (.func 50) #[] #[]), (18, .int .i64 (((a + bb) / 2 : Nat) : Int)), (19, .int .i64 ((((a + bb) / 2) + m : Nat) : Int)), (20, .int .i64 (i : Int)), (21, .int .i64 (j : Int)), (22, .int .i64 (((((a + bb) / 2) + m) - 1 : Nat) : Int)), (24, .int .i64 (((((a + bb) / 2) + m) - i : Nat) : Int)), (151, .bool false), (185, .bool false), (199, .bool false), (213, .bool false)]) (by kernel_rfl) ?_
            refine WQ.thenN ?_
            refine WE.condF (by kernel_rfl) ?_
            refine WE.skip ?_
            refine WQ.fall (v := .tuple #[]) (by kernel_rfl) ?_
            have hP3 := PIn.refl ((a + bb) / 2) bb q
            have hS3 : Srt (rk q) ((a + bb) / 2) bb := srt_side k3' k4' (by omega)
            obtain ⟨t1, t2⟩ := final_srt (q := q) (p1 := q) (p2 := q) (p3 := q) (by omega) (by omega) (by omega) hP1 hP2 hP3 hS2 hS3 kx
            exact ⟨q, rfl, t1, t2, HR, HA⟩
      · intro h52
        refine WO.run 5 3 [(199, .bool false), (198, undef), (197, undef), (196, undef), (195, .bool false)] (by kernel_rfl) (by kernel_rfl) ?_
        refine WO.done (by kernel_rfl) ?_
        refine WQ.keep [0, 1, 2, 3, 4, 18, 19, 20, 21, 22, 24, 151, 185, 199] (e' := [(0, .slice (some ⟨b, 0, none⟩) n cap), (1, .int .i64 (a : Int)), (2, .int .i64 (m : Int)), (3, .int .i64 (bb : Int)), (4, .func (.func 50) #[] #[]), (18, .int .i64 (((a + bb) / 2 : Nat) : Int)), (19, .int .i64 ((((a + bb) / 2) + m : Nat) : Int)), (20, .int .i64 (i : Int)), (21, .int .i64 (j : Int)), (22, .int .i64 (((((a + bb) / 2) + m) - 1 : Nat) : Int)), (24, .int .i64 (((((a + bb) / 2) + m) - i : Nat) : Int)), (151, .bool false), (185, .bool false), (199, .bool false)]) (by kernel_rfl) ?_
        refine WQ.thenN ?_
        refine WE.condF (by kernel_rfl) ?_
        refine WE.skip ?_
        refine WQ.thenN ?_
        refine WE.seq ?_
        have hP2 := PIn.refl a ((a + bb) / 2) q
        have hS2 : Srt (rk q) a ((a + bb) / 2) := srt_side k1 k2 (by omega)
        have k3' : Srt (rk q) ((a + bb) / 2) (((a + bb) / 2) + m - i) := srt_out k3 hP2 (Nat.le_refl _)
        have k4' : Srt (rk q) (((a + bb) / 2) + m - i) bb := srt_out k4 hP2 (by omega)
        have hall2 := hP2.allB hall1
        -- R43 zsortanyfunc.go:455
        refine WE.region ?_
        refine WO.run 2 0 [(207, .int .i64 (((((a + bb) / 2) + m) - i : Nat) : Int)), (206, .int .i64 (((a + bb) / 2 : Nat) : Int))] (by kernel_rfl) (by kernel_rfl) ?_
        refine WO.one (SQ.F 2 (by kernel_rfl)) 208 (.bool (decide (((((a + bb) / 2 : Nat) : Int) : Int) < (((((a + bb) / 2) + m) - i : Nat) : Int)))) (by kernel_rfl) ?_
        refine WO.topP (((((a + bb) / 2 : Nat) : Int) : Int) < (((((a + bb) / 2) + m) - i : Nat) : Int)) ?_ ?_
        · intro h67
          refine WO.run 3 3 [(211, .int .i64 (bb : Int)), (210, .int .i64 (((((a + bb) / 2) + m) - i : Nat) : Int)), (209, .bool true)] (by kernel_rfl) (by kernel_rfl) ?_
          refine WO.one (SQ.F 6 (by kernel_rfl)) 212 (.bool (decide (((((((a + bb) / 2) + m) - i : Nat) : Int) : Int) < (bb : Int)))) (by kernel_rfl) ?_
          refine WO.topP (((((((a + bb) / 2) + m) - i : Nat) : Int) : Int) < (bb : Int)) ?_ ?_
          · intro h68
            refine WO.run 1 7 [(213, .bool true)] (by kernel_rfl) (by kernel_rfl) ?_
            refine WO.done (by kernel_rfl) ?_
            refine WQ.keep [0, 1, 2, 3, 4, 18, 19, 20, 21, 22, 24, 151, 185, 199, 213] (e' := [(0, .slice (some ⟨b, 0, none⟩) n cap), (1, .int .i64 (a : Int)), (2, .int .i64 (m : Int)), (3, .int .i64 (bb : Int)), (4, .func (.func 50) #[] #[]), (18, .int .i64 (((a + bb) / 2 : Nat) : Int)), (19, .int .i64 ((((a + bb) / 2) + m : Nat) : Int)), (20, .int .i64 (i : Int)), (21, .int .i64 (j : Int)), (22, .int .i64 (((((a + bb) / 2) + m) - 1 : Nat) : Int)), (24, .int .i64 (((((a + bb) / 2) + m) - i : Nat) : Int)), (151, .bool false), (185, .bool false), (199, .bool false), (213, .bool true)]) (by kernel_rfl) ?_
            refine WQ.thenN ?_
            refine WE.condT (by kernel_rfl) ?_
            -- R44 zsortanyfunc.go:456
            refine WE.region ?_
            refine WO.run 5 0 [(218, .func (.func 50) #[] #[]), (217, .int .i64 (bb : Int)), (216, .int .i64 (((((a + bb) / 2) + m) - i : Nat) : Int)), (215, .int .i64 (((a + bb) / 2 : Nat) : Int)), (214, .slice (some ⟨b, 0, none⟩) n cap)] (by kernel_rfl) (by kernel_rfl) ?_
            refine WO.call (SQ.E 5 (by kernel_rfl)) 219 (by kernel_rfl) (ih (bb - ((a + bb) / 2)) (by omega) b n cap ((a + bb) / 2) ((((a + bb) / 2) + m) - i) bb q _ rfl HR hn hall2 hm (by omega) (by omega) (by omega) k3' k4') ?_
            rintro _ w69 ⟨p3, rfl, hP3, hS3, HR71, F70⟩
            refine ⟨_, rfl, trivial, ?_⟩
            have HA := Fr.step HA F70 (inSL (by simp) inS0)
            refine WO.done (by kernel_rfl) ?_
            refine WQ.keep [0, 1, 2, 3, 4, 18, 19, 20, 21, 22, 24, 151, 185, 199, 213] (e' := [(0, .slice (some ⟨b, 0, none⟩) n cap), (1, .int .i64 (a : Int)), (2, .int .i64 (m : Int)), (3, .int .i64 (bb : Int)), (4, .func (.func 50) #[] #[]), (18, .int .i64 (((a + bb) / 2 : Nat) : Int)), (19, .int .i64 ((((a + bb) / 2) + m : Nat) : Int)), (20, .int .i64 (i : Int)), (21, .int .i64 (j : Int)), (22, .int .i64 (((((a + bb) / 2) + m) - 1 : Nat) : Int)), (24, .int .i64 (((((a + bb) / 2) + m) - i : Nat) : Int)), (151, .bool false), (185, .bool false), (199, .bool false), (213, .bool true)]) (by kernel_rfl) ?_
            refine WQ.fall (v := .tuple #[]) (by kernel_rfl) ?_
            obtain ⟨t1, t2⟩ := final_srt (q := q) (p1 := q) (p2 := q) (p3 := p3) (by omega) (by omega) (by omega) hP1 hP2 hP3 hS2 hS3 kx
            exact ⟨p3, rfl, t1, t2, HR71, HA⟩
          · intro h68
            refine WO.run 1 7 [(213, .bool false)] (by kernel_rfl) (by kernel_rfl) ?_
            refine WO.done (by kernel_rfl) ?_
            refine WQ.keep [0, 1, 2, 3, 4, 18, 19, 20, 21, 22, 24, 151, 185, 199, 213] (e' := [(0, .slice (some ⟨b, 0, none⟩) n cap), (1, .int .i64 (a : Int)), (2, .int .i64 (m : Int)), (3, .int .i64 (bb : Int)), (4, .func (.func 50) #[] #[]), (18, .int .i64 (((a + bb) / 2 : Nat) : Int)), (19, .int .i64 ((((a + bb) / 2) + m : Nat) : Int)), (20, .int .i64 (i : Int)), (21, .int .i64 (j : Int)), (22, .int .i64 (((((a + bb) / 2) + m) - 1 : Nat) : Int)), (24, .int .i64 (((((a + bb) / 2) + m) - i : Nat) : Int)), (151, .bool false), (185, .bool false), (199, .bool false), (213, .bool false)]) (by kernel_rfl) ?_
            refine WQ.thenN ?_
            refine WE.condF (by kernel_rfl) ?_
            refine WE.skip ?_
            refine WQ.fall (v := .tuple #[]) (by kernel_rfl) ?_
            have hP3 := PIn.refl ((a + bb) / 2) bb q
            have hS3 : Srt (rk q) ((a + bb) / 2) bb := srt_side k3' k4' (by omega)
            obtain ⟨t1, t2⟩ := final_srt (q := q) (p1 := q) (p2 := q) (p3 := q) (by omega) (by omega) (by omega) hP1 hP2 hP3 hS2 hS3 kx
            exact ⟨q, rfl, t1, t2, HR, HA⟩
        · intro h67
          refine WO.run 5 3 [(213, .bool false), (212, undef), (211, undef), (210, undef), (209, .bool false)] (by kernel_rfl) (by kernel_rfl) ?_
          refine WO.done (by kernel_rfl) ?_
          refine WQ.keep [0, 1, 2, 3, 4, 18, 19, 20, 21, 22, 24, 151, 185, 199, 213] (e' := [(0, .slice (some ⟨b, 0, none⟩) n cap), (1, .int .i64 (a : Int)), (2, .int .i64 (m : Int)), (3, .int .i64 (bb : Int)), (4, .func (.func 50) #[] #[]), (18, .int .i64 (((a + bb) / 2 : Nat) : Int)), (19, .int .i64 ((((a + bb) / 2) + m : Nat) : Int)), (20, .int .i64 (i : Int)), (21, .int .i64 (j : Int)), (22, .int .i64 (((((a + bb) / 2) + m) - 1 : Nat) : Int)), (24, .int .i64 (((((a + bb) / 2) + m) - i : Nat) : Int)), (151, .bool false), (185, .bool false), (199, .bool false), (213, .bool false)]) (by kernel_rfl) ?_
          refine WQ.thenN ?_
          refine WE.condF (by kernel_rfl) ?_
          refine WE.skip ?_
          refine WQ.fall (v := .tuple #[]) (by kernel_rfl) ?_
          have hP3 := PIn.refl ((a + bb) / 2) bb q
          have hS3 : Srt (rk q) ((a + bb) / 2) bb := srt_side k3' k4' (by omega)
          obtain ⟨t1, t2⟩ := final_srt (q := q) (p1 := q) (p2 := q) (p3 := q) (by omega) (by omega) (by omega) hP1 hP2 hP3 hS2 hS3 kx
          exact ⟨q, rfl, t1, t2, HR, HA⟩

set_option maxRecDepth 100000 in
set_option maxHeartbeats 2000000 in
theorem sym_m0 (N : Nat) (ih : ∀ M, M < N → SymOk M) (b n cap a m bb : Nat) (q : List Nat) (w : World) (hN : bb - a = N) (HR : RowB w b 53 1 cap (q.map cF)) (hn : q.length = n) (hall : All q) (hm : n ≤ 1000000) (ham : a < m) (hmb : m < bb) (hbn : bb ≤ n) (hs1 : Srt (rk q) a m) (hs2 : Srt (rk q) m bb) (hm1 : m ≠ a + 1) (hm2 : bb ≠ m + 1) (hgt : m ≤ ((a + bb) / 2)) :
    Calls Try.prog 66 #[.slice (some ⟨b, 0, none⟩) n cap, .int .i64 (a : Int), .int .i64 (m : Int), .int .i64 (bb : Int), .func (.func 50) #[] #[]] w fun e w' => ∃ p, e = .returned (.tuple #[]) ∧ PIn a bb q p ∧ Srt (rk p) a bb ∧ RowB w' b 53 1 cap (p.map cF) ∧ Fr [b] w w' := by
  have HA := Fr.refl [b] w
  refine enter (N := 220) Try.func66 (c := _) rfl (by kernel_rfl) (by kernel_rfl) (e := [(0, .slice (some ⟨b, 0, none⟩) n cap), (1, .int .i64 (a : Int)), (2, .int .i64 (m : Int)), (3, .int .i64 (bb : Int)), (4, .func (.func 50) #[] #[])]) (by kernel_rfl) ?_
  refine WE.seq ?_
  refine WE.seq ?_
  -- R0 zsortanyfunc.go:382
  refine WE.region ?_
  refine WO.run 2 0 [(26, .int .i64 (a : Int)), (25, .int .i64 (m : Int))] (by kernel_rfl) (by kernel_rfl) ?_
  refine WO.one (SQ.F 2 (by kernel_rfl)) 27 (.int .i64 (IntKind.i64.wrap ((m : Int) - (a : Int)))) (by kernel_rfl) ?_
  refine WO.top (v' := .int .i64 ((m - a : Nat) : Int)) (wrap_i64 (by omega) (by omega)) ?_
  refine WO.one (SQ.F 3 (by kernel_rfl)) 28 (.bool (decide ((((m - a : Nat) : Int) : Int) = (1 : Int)))) (by kernel_rfl) ?_
  refine WO.topPF ((((m - a : Nat) : Int) : Int) = (1 : Int)) (by omega) ?_
  refine WO.done (by kernel_rfl) ?_
  refine WQ.keep [0, 1, 2, 3, 4, 28] (e' := [(0, .slice (some ⟨b, 0, none⟩) n cap), (1, .int .i64 (a : Int)), (2, .int .i64 (m : Int)), (3, .int .i64 (bb : Int)), (4, .func (.func 50) #[] #[]), (28, .bool false)]) (by kernel_rfl) ?_
  refine WQ.thenN ?_
  refine WE.condF (by kernel_rfl) ?_
  refine WE.skip ?_
  refine WQ.thenN ?_
  refine WE.seq ?_
  refine WE.seq ?_
  -- R12 zsortanyfunc.go:406
  refine WE.region ?_
  refine WO.run 2 0 [(78, .int .i64 (m : Int)), (77, .int .i64 (bb : Int))] (by kernel_rfl) (by kernel_rfl) ?_
  refine WO.one (SQ.F 2 (by kernel_rfl)) 79 (.int .i64 (IntKind.i64.wrap ((bb : Int) - (m : Int)))) (by kernel_rfl) ?_
  refine WO.top (v' := .int .i64 ((bb - m : Nat) : Int)) (wrap_i64 (by omega) (by omega)) ?_
  refine WO.one (SQ.F 3 (by kernel_rfl)) 80 (.bool (decide ((((bb - m : Nat) : Int) : Int) = (1 : Int)))) (by kernel_rfl) ?_
  refine WO.topPF ((((bb - m : Nat) : Int) : Int) = (1 : Int)) (by omega) ?_
  refine WO.done (by kernel_rfl) ?_
  refine WQ.keep [0, 1, 2, 3, 4, 28, 80] (e' := [(0, .slice (some ⟨b, 0, none⟩) n cap), (1, .int .i64 (a : Int)), (2, .int .i64 (m : Int)), (3, .int .i64 (bb : Int)), (4, .func (.func 50) #[] #[]), (28, .bool false), (80, .bool false)]) (by kernel_rfl) ?_
  refine WQ.thenN ?_
  refine WE.condF (by kernel_rfl) ?_
  refine WE.skip ?_
  refine WQ.thenN ?_
  refine WE.seq ?_
  -- R24 zsortanyfunc.go:427
  refine WE.region ?_
  refine WO.run 2 0 [(130, .int .i64 (bb : Int)), (129, .int .i64 (a : Int))] (by kernel_rfl) (by kernel_rfl) ?_
  refine WO.one (SQ.F 2 (by kernel_rfl)) 131 (.int .i64 (IntKind.i64.wrap ((a : Int) + (bb : Int)))) (by kernel_rfl) ?_
  refine WO.top (v' := .int .i64 ((a + bb : Nat) : Int)) (wrap_i64 (by omega) (by omega)) ?_
  refine WO.one (SQ.F 3 (by kernel_rfl)) 132 (.int .u64 (IntKind.u64.wrap ((a + bb : Nat) : Int))) (by kernel_rfl) ?_
  refine WO.top (v' := .int .u64 ((a + bb : Nat) : Int)) (wrap_u64 rfl (by omega)) ?_
  refine WO.one (SQ.F 4 (by kernel_rfl)) 133 (.int .u64 (Int.fdiv ((a + bb : Nat) : Int) (2 ^ 1))) (by kernel_rfl) ?_
  refine WO.top (v' := .int .u64 (((a + bb) / 2 : Nat) : Int)) (congrArg (Value.int .u64) (half_nat _)) ?_
  refine WO.one (SQ.F 5 (by kernel_rfl)) 134 (.int .i64 (IntKind.i64.wrap (((a + bb) / 2 : Nat) : Int))) (by kernel_rfl) ?_
  refine WO.top (v' := .int .i64 (((a + bb) / 2 : Nat) : Int)) (wrap_i64 rfl (by omega)) ?_
  refine WO.run 1 6 [(18, .int .i64 (((a + bb) / 2 : Nat) : Int))] (by kernel_rfl) (by kernel_rfl) ?_
  refine WO.done (by kernel_rfl) ?_
  refine WQ.keep [0, 1, 2, 3, 4, 18, 28, 80] (e' := [(0, .slice (some ⟨b, 0, none⟩) n cap), (1, .int .i64 (a : Int)), (2, .int .i64 (m : Int)), (3, .int .i64 (bb : Int)), (4, .func (.func 50) #[] #[]), (18, .int .i64 (((a + bb) / 2 : Nat) : Int)), (28, .bool false), (80, .bool false)]) (by kernel_rfl) ?_
  refine WQ.thenN ?_
  refine WE.seq ?_
  -- R25 zsortanyfunc.go:428
  refine WE.region ?_
  refine WO.run 2 0 [(136, .int .i64 (m : Int)), (135, .int .i64 (((a + bb) / 2 : Nat) : Int))] (by kernel_rfl) (by kernel_rfl) ?_
  refine WO.one (SQ.F 2 (by kernel_rfl)) 137 (.int .i64 (IntKind.i64.wrap ((((a + bb) / 2 : Nat) : Int) + (m : Int)))) (by kernel_rfl) ?_
  refine WO.top (v' := .int .i64 ((((a + bb) / 2) + m : Nat) : Int)) (wrap_i64 (by omega) (by omega)) ?_
  refine WO.run 1 3 [(19, .int .i64 ((((a + bb) / 2) + m : Nat) : Int))] (by kernel_rfl) (by kernel_rfl) ?_
  refine WO.done (by kernel_rfl) ?_
  refine WQ.keep [0, 1, 2, 3, 4, 18, 19, 28, 80] (e' := [(0, .slice (some ⟨b, 0, none⟩) n cap), (1, .int .i64 (a : Int)), (2, .int .i64 (m : Int)), (3, .int .i64 (bb : Int)), (4, .func (.func 50) #[] #[]), (18, .int .i64 (((a + bb) / 2 : Nat) : Int)), (19, .int .i64 ((((a + bb) / 2) + m : Nat) : Int)), (28, .bool false), (80, .bool false)]) (by kernel_rfl) ?_
  refine WQ.thenN ?_
  refine WE.seq ?_
  -- R26 zsortanyfunc.go:429
  refine WE.region ?_
  refine WO.run 2 0 [(21, .int .i64 0), (20, .int .i64 0)] (by kernel_rfl) (by kernel_rfl) ?_
  refine WO.done (by kernel_rfl) ?_
  refine WQ.keep [0, 1, 2, 3, 4, 18, 19, 20, 21, 28, 80] (e' := [(0, .slice (some ⟨b, 0, none⟩) n cap), (1, .int .i64 (a : Int)), (2, .int .i64 (m : Int)), (3, .int .i64 (bb : Int)), (4, .func (.func 50) #[] #[]), (18, .int .i64 (((a + bb) / 2 : Nat) : Int)), (19, .int .i64 ((((a + bb) / 2) + m : Nat) : Int)), (20, .int .i64 0), (21, .int .i64 0), (28, .bool false), (80, .bool false)]) (by kernel_rfl) ?_
  refine WQ.thenN ?_
  refine WE.seq ?_
  refine WE.seq ?_
  -- R27 zsortanyfunc.go:430
  refine WE.region ?_
  refine WO.run 2 0 [(139, .int .i64 (((a + bb) / 2 : Nat) : Int)), (138, .int .i64 (m : Int))] (by kernel_rfl) (by kernel_rfl) ?_
  refine WO.one (SQ.F 2 (by kernel_rfl)) 140 (.bool (decide (((m : Int) : Int) > (((a + bb) / 2 : Nat) : Int)))) (by kernel_rfl) ?_
  refine WO.topPF (((m : Int) : Int) > (((a + bb) / 2 : Nat) : Int)) (by omega) ?_
  refine WO.done (by kernel_rfl) ?_
  refine WQ.keep [0, 1, 2, 3, 4, 18, 19, 20, 21, 28, 80, 140] (e' := [(0, .slice (some ⟨b, 0, none⟩) n cap), (1, .int .i64 (a : Int)), (2, .int .i64 (m : Int)), (3, .int .i64 (bb : Int)), (4, .func (.func 50) #[] #[]), (18, .int .i64 (((a + bb) / 2 : Nat) : Int)), (19, .int .i64 ((((a + bb) / 2) + m : Nat) : Int)), (20, .int .i64 0), (21, .int .i64 0), (28, .bool false), (80, .bool false), (140, .bool false)]) (by kernel_rfl) ?_
  refine WQ.thenN ?_
  refine WE.condF (by kernel_rfl) ?_
  refine WE.seq ?_
  -- R30 zsortanyfunc.go:434
  refine WE.region ?_
  refine WO.run 2 0 [(20, .int .i64 (a : Int)), (145, .int .i64 (a : Int))] (by kernel_rfl) (by kernel_rfl) ?_
  refine WO.done (by kernel_rfl) ?_
  refine WQ.keep [0, 1, 2, 3, 4, 18, 19, 20, 21, 28, 80, 140] (e' := [(0, .slice (some ⟨b, 0, none⟩) n cap), (1, .int .i64 (a : Int)), (2, .int .i64 (m : Int)), (3, .int .i64 (bb : Int)), (4, .func (.func 50) #[] #[]), (18, .int .i64 (((a + bb) / 2 : Nat) : Int)), (19, .int .i64 ((((a + bb) / 2) + m : Nat) : Int)), (20, .int .i64 (a : Int)), (21, .int .i64 0), (28, .bool false), (80, .bool false), (140, .bool false)]) (by kernel_rfl) ?_
  refine WQ.thenN ?_
  -- R31 zsortanyfunc.go:435
  refine WE.region ?_
  refine WO.run 2 0 [(21, .int .i64 (m : Int)), (146, .int .i64 (m : Int))] (by kernel_rfl) (by kernel_rfl) ?_
  refine WO.done (by kernel_rfl) ?_
  refine WQ.keep [0, 1, 2, 3, 4, 18, 19, 20, 21, 28, 80, 140] (e' := [(0, .slice (some ⟨b, 0, none⟩) n cap), (1, .int .i64 (a : Int)), (2, .int .i64 (m : Int)), (3, .int .i64 (bb : Int)), (4, .func (.func 50) #[] #[]), (18, .int .i64 (((a + bb) / 2 : Nat) : Int)), (19, .int .i64 ((((a + bb) / 2) + m : Nat) : Int)), (20, .int .i64 (a : Int)), (21, .int .i64 (m : Int)), (28, .bool false), (80, .bool false), (140, .bool false)]) (by kernel_rfl) ?_
  refine WQ.thenN ?_
  refine WE.seq ?_
  -- R32 zsortanyfunc.go:437
  refine WE.region ?_
  refine WO.run 1 0 [(147, .int .i64 ((((a + bb) / 2) + m : Nat) : Int))] (by kernel_rfl) (by kernel_rfl) ?_
  refine WO.one (SQ.F 1 (by kernel_rfl)) 148 (.int .i64 (IntKind.i64.wrap (((((a + bb) / 2) + m : Nat) : Int) - 1))) (by kernel_rfl) ?_
  refine WO.top (v' := .int .i64 (((((a + bb) / 2) + m) - 1 : Nat) : Int)) (wrap_i64 (by omega) (by omega)) ?_
  refine WO.run 1 2 [(22, .int .i64 (((((a + bb) / 2) + m) - 1 : Nat) : Int))] (by kernel_rfl) (by kernel_rfl) ?_
  refine WO.done (by kernel_rfl) ?_
  refine WQ.keep [0, 1, 2, 3, 4, 18, 19, 20, 21, 22, 28, 80, 140] (e' := [(0, .slice (some ⟨b, 0, none⟩) n cap), (1, .int .i64 (a : Int)), (2, .int .i64 (m : Int)), (3, .int .i64 (bb : Int)), (4, .func (.func 50) #[] #[]), (18, .int .i64 (((a + bb) / 2 : Nat) : Int)), (19, .int .i64 ((((a + bb) / 2) + m : Nat) : Int)), (20, .int .i64 (a : Int)), (21, .int .i64 (m : Int)), (22, .int .i64 (((((a + bb) / 2) + m) - 1 : Nat) : Int)), (28, .bool false), (80, .bool false), (140, .bool false)]) (by kernel_rfl) ?_
  refine WQ.thenN ?_
  refine WE.seq ?_
  refine WE.block ?_
  refine WE.loop (α := Nat × Nat) (E := fun z => [(0, .slice (some ⟨b, 0, none⟩) n cap), (1, .int .i64 (a : Int)), (2, .int .i64 (m : Int)), (3, .int .i64 (bb : Int)), (4, .func (.func 50) #[] #[]), (18, .int .i64 (((a + bb) / 2 : Nat) : Int)), (19, .int .i64 ((((a + bb) / 2) + m : Nat) : Int)), (20, .int .i64 (z.1 : Int)), (21, .int .i64 (z.2 : Int)), (22, .int .i64 (((((a + bb) / 2) + m) - 1 : Nat) : Int))]) (I := fun z wr => a ≤ z.1 ∧ z.1 ≤ z.2 ∧ z.2 ≤ m ∧ (a < z.1 → rk q (z.1 - 1) ≤ rk q (((a + bb) / 2) + m - z.1)) ∧ (z.2 < m → rk q (((a + bb) / 2) + m - 1 - z.2) < rk q z.2) ∧ RowB wr b 53 1 cap (q.map cF) ∧ Fr [b] w wr) (m := fun z => z.2 - z.1) (a, m) [0, 1, 2, 3, 4, 18, 19, 20, 21, 22] (by kernel_rfl) ?_ ?_
  · exact ⟨Nat.le_refl _, by show a ≤ m; omega, Nat.le_refl _, fun h => absurd h (Nat.lt_irrefl _), fun h => absurd h (Nat.lt_irrefl _), HR, HA⟩
  rintro ⟨i, j⟩ wr ⟨hlo, hij, hhi, hA, hB, HR, HA⟩
  dsimp only at hlo hij hhi hA hB
  refine WE.seq ?_
  refine WE.seq ?_
  -- R33 zsortanyfunc.go:439
  refine WE.region ?_
  refine WO.run 2 0 [(150, .int .i64 (j : Int)), (149, .int .i64 (i : Int))] (by kernel_rfl) (by kernel_rfl) ?_
  refine WO.one (SQ.F 2 (by kernel_rfl)) 151 (.bool (decide (((i : Int) : Int) < (j : Int)))) (by kernel_rfl) ?_
  refine WO.topP (((i : Int) : Int) < (j : Int)) ?_ ?_
  · intro h1
    refine WO.done (by kernel_rfl) ?_
    refine WQ.keep [0, 1, 2, 3, 4, 18, 19, 20, 21, 22, 151] (e' := [(0, .slice (some ⟨b, 0, none⟩) n cap), (1, .int .i64 (a : Int)), (2, .int .i64 (m : Int)), (3, .int .i64 (bb : Int)), (4, .func (.func 50) #[] #[]), (18, .int .i64 (((a + bb) / 2 : Nat) : Int)), (19, .int .i64 ((((a + bb) / 2) + m : Nat) : Int)), (20, .int .i64 (i : Int)), (21, .int .i64 (j : Int)), (22, .int .i64 (((((a + bb) / 2) + m) - 1 : Nat) : Int)), (151, .bool true)]) (by kernel_rfl) ?_
    refine WQ.thenN ?_
    refine WE.condT (by kernel_rfl) ?_
    refine WE.skip ?_
    refine WQ.thenN ?_
    refine WE.block ?_
    refine WE.seq ?_
    -- R34 zsortanyfunc.go:440
    refine WE.region ?_
    refine WO.run 2 0 [(153, .int .i64 (j : Int)), (152, .int .i64 (i : Int))] (by kernel_rfl) (by kernel_rfl) ?_
    refine WO.one (SQ.F 2 (by kernel_rfl)) 154 (.int .i64 (IntKind.i64.wrap ((i : Int) + (j : Int)))) (by kernel_rfl) ?_
    refine WO.top (v' := .int .i64 ((i + j : Nat) : Int)) (wrap_i64 (by omega) (by omega)) ?_
    refine WO.one (SQ.F 3 (by kernel_rfl)) 155 (.int .u64 (IntKind.u64.wrap ((i + j : Nat) : Int))) (by kernel_rfl) ?_
    refine WO.top (v' := .int .u64 ((i + j : Nat) : Int)) (wrap_u64 rfl (by omega)) ?_
    refine WO.one (SQ.F 4 (by kernel_rfl)) 156 (.int .u64 (Int.fdiv ((i + j : Nat) : Int) (2 ^ 1))) (by kernel_rfl) ?_
    refine WO.top (v' := .int .u64 (((i + j) / 2 : Nat) : Int)) (congrArg (Value.int .u64) (half_nat _)) ?_
    refine WO.one (SQ.F 5 (by kernel_rfl)) 157 (.int .i64 (IntKind.i64.wrap (((i + j) / 2 : Nat) : Int))) (by kernel_rfl) ?_
    refine WO.top (v' := .int .i64 (((i + j) / 2 : Nat) : Int)) (wrap_i64 rfl (by omega)) ?_
    refine WO.run 1 6 [(23, .int .i64 (((i + j) / 2 : Nat) : Int))] (by kernel_rfl) (by kernel_rfl) ?_
    refine WO.done (by kernel_rfl) ?_
    refine WQ.keep [0, 1, 2, 3, 4, 18, 19, 20, 21, 22, 23, 151] (e' := [(0, .slice (some ⟨b, 0, none⟩) n cap), (1, .int .i64 (a : Int)), (2, .int .i64 (m : Int)), (3, .int .i64 (bb : Int)), (4, .func (.func 50) #[] #[]), (18, .int .i64 (((a + bb) / 2 : Nat) : Int)), (19, .int .i64 ((((a + bb) / 2) + m : Nat) : Int)), (20, .int .i64 (i : Int)), (21, .int .i64 (j : Int)), (22, .int .i64 (((((a + bb) / 2) + m) - 1 : Nat) : Int)), (23, .int .i64 (((i + j) / 2 : Nat) : Int)), (151, .bool true)]) (by kernel_rfl) ?_
    refine WQ.thenN ?_
    refine WE.seq ?_
    -- R35* zsortanyfunc.go:441
    refine WE.draw [.free, .free, .free, .free, .free, .free, .still, .free, .free, .free, .still, .eff, .free, .free] Same sameR (by kernel_rfl) 14 (Array.replicate 14 false) (by kernel_rfl) rfl ?_
    intro w2 F3 _
    have HR := RowB.keep HR F3 (nin0 _)
    have HA := Fr.step0 HA F3
    refine WO.one (SA.F sameR sameT _ 0 _ (by kernel_rfl)) 158 (.func (.func 50) #[] #[]) (by kernel_rfl) ?_
    refine WO.one (SA.F sameR sameT _ 1 _ (by kernel_rfl)) 159 (.slice (some ⟨b, 0, none⟩) n cap) (by kernel_rfl) ?_
    refine WO.one (SA.F sameR sameT _ 2 _ (by kernel_rfl)) 160 (.int .i64 (((((a + bb) / 2) + m) - 1 : Nat) : Int)) (by kernel_rfl) ?_
    refine WO.one (SA.F sameR sameT _ 3 _ (by kernel_rfl)) 161 (.int .i64 (((i + j) / 2 : Nat) : Int)) (by kernel_rfl) ?_
    refine WO.one (SA.F sameR sameT _ 4 _ (by kernel_rfl)) 162 (.int .i64 (IntKind.i64.wrap ((((((a + bb) / 2) + m) - 1 : Nat) : Int) - (((i + j) / 2 : Nat) : Int)))) (by kernel_rfl) ?_
    refine WO.top (v' := .int .i64 ((((((a + bb) / 2) + m) - 1) - ((i + j) / 2) : Nat) : Int)) (wrap_i64 (by omega) (by omega)) ?_
    refine WO.ixB (SA.F sameR sameT _ 5 _ (by kernel_rfl)) 163 (((((a + bb) / 2) + m) - 1) - ((i + j) / 2)) b 0 n 1 ((((((a + bb) / 2) + m) - 1) - ((i + j) / 2) : Nat) : Int) (by kernel_rfl) (by omega) (by omega) (by omega) ?_
    refine WO.ld (SA.S sameR sameT _ 6 _ (by kernel_rfl)) 164 (.float .f64 (g0 q (((((a + bb) / 2) + m) - 1) - ((i + j) / 2)))) (by kernel_rfl) (same (HR.at (((((a + bb) / 2) + m) - 1) - ((i + j) / 2)) 0 (((((a + bb) / 2) + m) - 1) - ((i + j) / 2)) _ (by rw [List.length_map]; have := hn; omega) (by omega) (by rw [(map_atF q (((((a + bb) / 2) + m) - 1) - ((i + j) / 2)) (by have := hn; omega))]; rfl) (by omega))) ?_
    refine WO.one (SA.F sameR sameT _ 7 _ (by kernel_rfl)) 165 (.slice (some ⟨b, 0, none⟩) n cap) (by kernel_rfl) ?_
    refine WO.one (SA.F sameR sameT _ 8 _ (by kernel_rfl)) 166 (.int .i64 (((i + j) / 2 : Nat) : Int)) (by kernel_rfl) ?_
    refine WO.ixB (SA.F sameR sameT _ 9 _ (by kernel_rfl)) 167 ((i + j) / 2) b 0 n 1 (((i + j) / 2 : Nat) : Int) (by kernel_rfl) (by omega) (by omega) (by omega) ?_
    refine WO.ld (SA.S sameR sameT _ 10 _ (by kernel_rfl)) 168 (.float .f64 (g0 q ((i + j) / 2))) (by kernel_rfl) (same (HR.at ((i + j) / 2) 0 ((i + j) / 2) _ (by rw [List.length_map]; have := hn; omega) (by omega) (by rw [(map_atF q ((i + j) / 2) (by have := hn; omega))]; rfl) (by omega))) ?_
    refine WO.call (SA.E _ 11 _ (by kernel_rfl) rfl) 169 (by kernel_rfl) (cmp_f (g0 q (((((a + bb) / 2) + m) - 1) - ((i + j) / 2))) (g0 q ((i + j) / 2)) _ (hall _ (by omega)) (hall _ (by omega))) ?_
    rintro _ w4 ⟨rfl, F5⟩
    refine ⟨_, rfl, trivial, ?_⟩
    have HR := RowB.keep HR F5 (nin0 _)
    have HA := Fr.step0 HA F5
    refine WO.one (SA.F sameR sameT _ 12 _ (by kernel_rfl)) 170 (.bool (decide ((cmpZ (g0 q (((((a + bb) / 2) + m) - 1) - ((i + j) / 2))) (g0 q ((i + j) / 2)) : Int) < 0))) (by kernel_rfl) ?_
    refine WO.topP ((cmpZ (g0 q (((((a + bb) / 2) + m) - 1) - ((i + j) / 2))) (g0 q ((i + j) / 2)) : Int) < 0) ?_ ?_
    · intro h6
      refine WO.one (SA.F sameR sameT _ 13 _ (by kernel_rfl)) 171 (.bool false) (by kernel_rfl) ?_
      refine WO.doneA (by kernel_rfl) ?_
      refine WQ.keep [0, 1, 2, 3, 4, 18, 19, 20, 21, 22, 23, 151, 171] (e' := [(0, .slice (some ⟨b, 0, none⟩) n cap), (1, .int .i64 (a : Int)), (2, .int .i64 (m : Int)), (3, .int .i64 (bb : Int)), (4, .func (.func 50) #[] #[]), (18, .int .i64 (((a + bb) / 2 : Nat) : Int)), (19, .int .i64 ((((a + bb) / 2) + m : Nat) : Int)), (20, .int .i64 (i : Int)), (21, .int .i64 (j : Int)), (22, .int .i64 (((((a + bb) / 2) + m) - 1 : Nat) : Int)), (23, .int .i64 (((i + j) / 2 : Nat) : Int)), (151, .bool true), (171, .bool false)]) (by kernel_rfl) ?_
      refine WQ.thenN ?_
      refine WE.condF (by kernel_rfl) ?_
      -- R37 zsortanyfunc.go:444
      refine WE.region ?_
      refine WO.run 2 0 [(21, .int .i64 (((i + j) / 2 : Nat) : Int)), (174, .int .i64 (((i + j) / 2 : Nat) : Int))] (by kernel_rfl) (by kernel_rfl) ?_
      refine WO.done (by kernel_rfl) ?_
      refine WQ.keep [0, 1, 2, 3, 4, 18, 19, 20, 21, 22, 23, 151, 171] (e' := [(0, .slice (some ⟨b, 0, none⟩) n cap), (1, .int .i64 (a : Int)), (2, .int .i64 (m : Int)), (3, .int .i64 (bb : Int)), (4, .func (.func 50) #[] #[]), (18, .int .i64 (((a + bb) / 2 : Nat) : Int)), (19, .int .i64 ((((a + bb) / 2) + m : Nat) : Int)), (20, .int .i64 (i : Int)), (21, .int .i64 (((i + j) / 2 : Nat) : Int)), (22, .int .i64 (((((a + bb) / 2) + m) - 1 : Nat) : Int)), (23, .int .i64 (((i + j) / 2 : Nat) : Int)), (151, .bool true), (171, .bool false)]) (by kernel_rfl) ?_
      refine WQ.blkN ?_
      refine WQ.round ?_
      intro a_ ha_
      refine ⟨(i, (i + j) / 2), ?_, ha_.keep [0, 1, 2, 3, 4, 18, 19, 20, 21, 22] (by kernel_rfl), ?_⟩
      · show (i + j) / 2 - i < j - i; omega
      · exact ⟨hlo, by show i ≤ (i + j) / 2; omega, by show (i + j) / 2 ≤ m; omega, hA, fun _ => (cmpZ_rk _ _ _).1 h6, HR, HA⟩
    · intro h6
      refine WO.one (SA.F sameR sameT _ 13 _ (by kernel_rfl)) 171 (.bool true) (by kernel_rfl) ?_
      refine WO.doneA (by kernel_rfl) ?_
      refine WQ.keep [0, 1, 2, 3, 4, 18, 19, 20, 21, 22, 23, 151, 171] (e' := [(0, .slice (some ⟨b, 0, none⟩) n cap), (1, .int .i64 (a : Int)), (2, .int .i64 (m : Int)), (3, .int .i64 (bb : Int)), (4, .func (.func 50) #[] #[]), (18, .int .i64 (((a + bb) / 2 : Nat) : Int)), (19, .int .i64 ((((a + bb) / 2) + m : Nat) : Int)), (20, .int .i64 (i : Int)), (21, .int .i64 (j : Int)), (22, .int .i64 (((((a + bb) / 2) + m) - 1 : Nat) : Int)), (23, .int .i64 (((i + j) / 2 : Nat) : Int)), (151, .bool true), (171, .bool true)]) (by kernel_rfl) ?_
      refine WQ.thenN ?_
      refine WE.condT (by kernel_rfl) ?_
      -- R36 zsortanyfunc.go:442
      refine WE.region ?_
      refine WO.run 1 0 [(172, .int .i64 (((i + j) / 2 : Nat) : Int))] (by kernel_rfl) (by kernel_rfl) ?_
      refine WO.one (SQ.F 1 (by kernel_rfl)) 173 (.int .i64 (IntKind.i64.wrap ((((i + j) / 2 : Nat) : Int) + 1))) (by kernel_rfl) ?_
      refine WO.top (v' := .int .i64 ((((i + j) / 2) + 1 : Nat) : Int)) (wrap_i64 (by omega) (by omega)) ?_
      refine WO.run 1 2 [(20, .int .i64 ((((i + j) / 2) + 1 : Nat) : Int))] (by kernel_rfl) (by kernel_rfl) ?_
      refine WO.done (by kernel_rfl) ?_
      refine WQ.keep [0, 1, 2, 3, 4, 18, 19, 20, 21, 22, 23, 151, 171] (e' := [(0, .slice (some ⟨b, 0, none⟩) n cap), (1, .int .i64 (a : Int)), (2, .int .i64 (m : Int)), (3, .int .i64 (bb : Int)), (4, .func (.func 50) #[] #[]), (18, .int .i64 (((a + bb) / 2 : Nat) : Int)), (19, .int .i64 ((((a + bb) / 2) + m : Nat) : Int)), (20, .int .i64 ((((i + j) / 2) + 1 : Nat) : Int)), (21, .int .i64 (j : Int)), (22, .int .i64 (((((a + bb) / 2) + m) - 1 : Nat) : Int)), (23, .int .i64 (((i + j) / 2 : Nat) : Int)), (151, .bool true), (171, .bool true)]) (by kernel_rfl) ?_
      refine WQ.blkN ?_
      refine WQ.round ?_
      intro a_ ha_
      refine ⟨((i + j) / 2 + 1, j), ?_, ha_.keep [0, 1, 2, 3, 4, 18, 19, 20, 21, 22] (by kernel_rfl), ?_⟩
      · show j - ((i + j) / 2 + 1) < j - i; omega
      · exact ⟨by show a ≤ (i + j) / 2 + 1; omega, by show (i + j) / 2 + 1 ≤ j; omega, hhi, fun _ => (by show rk q ((i + j) / 2 + 1 - 1) ≤ rk q (((a + bb) / 2) + m - ((i + j) / 2 + 1)); rw [show (i + j) / 2 + 1 - 1 = (i + j) / 2 by omega, show ((a + bb) / 2) + m - ((i + j) / 2 + 1) = ((a + bb) / 2) + m - 1 - (i + j) / 2 by omega]; exact Nat.le_of_not_lt (fun h_ => h6 ((cmpZ_rk _ _ _).2 h_))), hB, HR, HA⟩
  · intro h1
    refine WO.done (by kernel_rfl) ?_
    refine WQ.keep [0, 1, 2, 3, 4, 18, 19, 20, 21, 22, 151] (e' := [(0, .slice (some ⟨b, 0, none⟩) n cap), (1, .int .i64 (a : Int)), (2, .int .i64 (m : Int)), (3, .int .i64 (bb : Int)), (4, .func (.func 50) #[] #[]), (18, .int .i64 (((a + bb) / 2 : Nat) : Int)), (19, .int .i64 ((((a + bb) / 2) + m : Nat) : Int)), (20, .int .i64 (i : Int)), (21, .int .i64 (j : Int)), (22, .int .i64 (((((a + bb) / 2) + m) - 1 : Nat) : Int)), (151, .bool false)]) (by kernel_rfl) ?_
    refine WQ.thenN ?_
    refine WE.condF (by kernel_rfl) ?_
    refine WE.exit ?_
    refine WQ.thenE ?_
    refine WQ.thenE ?_
    refine WQ.blkE ?_
    refine WQ.thenN ?_
    refine WE.seq ?_
    -- R38 zsortanyfunc.go:448
    refine WE.region ?_
    refine WO.run 2 0 [(176, .int .i64 (i : Int)), (175, .int .i64 ((((a + bb) / 2) + m : Nat) : Int))] (by kernel_rfl) (by kernel_rfl) ?_
    refine WO.one (SQ.F 2 (by kernel_rfl)) 177 (.int .i64 (IntKind.i64.wrap (((((a + bb) / 2) + m : Nat) : Int) - (i : Int)))) (by kernel_rfl) ?_
    refine WO.top (v' := .int .i64 (((((a + bb) / 2) + m) - i : Nat) : Int)) (wrap_i64 (by omega) (by omega)) ?_
    refine WO.run 1 3 [(24, .int .i64 (((((a + bb) / 2) + m) - i : Nat) : Int))] (by kernel_rfl) (by kernel_rfl) ?_
    refine WO.done (by kernel_rfl) ?_
    refine WQ.keep [0, 1, 2, 3, 4, 18, 19, 20, 21, 22, 24, 151] (e' := [(0, .slice (some ⟨b, 0, none⟩) n cap), (1, .int .i64 (a : Int)), (2, .int .i64 (m : Int)), (3, .int .i64 (bb : Int)), (4, .func (.func 50) #[] #[]), (18, .int .i64 (((a + bb) / 2 : Nat) : Int)), (19, .int .i64 ((((a + bb) / 2) + m : Nat) : Int)), (20, .int .i64 (i : Int)), (21, .int .i64 (j : Int)), (22, .int .i64 (((((a + bb) / 2) + m) - 1 : Nat) : Int)), (24, .int .i64 (((((a + bb) / 2) + m) - i : Nat) : Int)), (151, .bool false)]) (by kernel_rfl) ?_
    refine WQ.thenN ?_
    refine WE.seq ?_
    refine WE.seq ?_
    -- R39 zsortanyfunc.go:449
    refine WE.region ?_
    refine WO.run 2 0 [(179, .int .i64 (m : Int)), (178, .int .i64 (i : Int))] (by kernel_rfl) (by kernel_rfl) ?_
    refine WO.one (SQ.F 2 (by kernel_rfl)) 180 (.bool (decide (((i : Int) : Int) < (m : Int)))) (by kernel_rfl) ?_
    refine WO.topP (((i : Int) : Int) < (m : Int)) ?_ ?_
    · intro h7
      refine WO.run 3 3 [(183, .int .i64 (((((a + bb) / 2) + m) - i : Nat) : Int)), (182, .int .i64 (m : Int)), (181, .bool true)] (by kernel_rfl) (by kernel_rfl) ?_
      refine WO.one (SQ.F 6 (by kernel_rfl)) 184 (.bool (decide (((m : Int) : Int) < (((((a + bb) / 2) + m) - i : Nat) : Int)))) (by kernel_rfl) ?_
      refine WO.topP (((m : Int) : Int) < (((((a + bb) / 2) + m) - i : Nat) : Int)) ?_ ?_
      · intro h8
        refine WO.run 1 7 [(185, .bool true)] (by kernel_rfl) (by kernel_rfl) ?_
        refine WO.done (by kernel_rfl) ?_
        refine WQ.keep [0, 1, 2, 3, 4, 18, 19, 20, 21, 22, 24, 151, 185] (e' := [(0, .slice (some ⟨b, 0, none⟩) n cap), (1, .int .i64 (a : Int)), (2, .int .i64 (m : Int)), (3, .int .i64 (bb : Int)), (4, .func (.func 50) #[] #[]), (18, .int .i64 (((a + bb) / 2 : Nat) : Int)), (19, .int .i64 ((((a + bb) / 2) + m : Nat) : Int)), (20, .int .i64 (i : Int)), (21, .int .i64 (j : Int)), (22, .int .i64 (((((a + bb) / 2) + m) - 1 : Nat) : Int)), (24, .int .i64 (((((a + bb) / 2) + m) - i : Nat) : Int)), (151, .bool false), (185, .bool true)]) (by kernel_rfl) ?_
        refine WQ.thenN ?_
        refine WE.condT (by kernel_rfl) ?_
        -- R40 zsortanyfunc.go:450
        refine WE.region ?_
        refine WO.run 5 0 [(190, .func (.func 50) #[] #[]), (189, .int .i64 (((((a + bb) / 2) + m) - i : Nat) : Int)), (188, .int .i64 (m : Int)), (187, .int .i64 (i : Int)), (186, .slice (some ⟨b, 0, none⟩) n cap)] (by kernel_rfl) (by kernel_rfl) ?_
        refine WO.call (SQ.E 5 (by kernel_rfl)) 191 (by kernel_rfl) (rotate_f b n cap i m (((a + bb) / 2) + m - i) q _ HR hn hm (by omega) (by omega) (by omega)) ?_
        rintro _ w9 ⟨p1, rfl, hl1, hf1, hp1, HR11, F10⟩
        refine ⟨_, rfl, trivial, ?_⟩
        have HA := Fr.step HA F10 (inSL (by simp) inS0)
        refine WO.done (by kernel_rfl) ?_
        refine WQ.keep [0, 1, 2, 3, 4, 18, 19, 20, 21, 22, 24, 151, 185] (e' := [(0, .slice (some ⟨b, 0, none⟩) n cap), (1, .int .i64 (a : Int)), (2, .int .i64 (m : Int)), (3, .int .i64 (bb : Int)), (4, .func (.func 50) #[] #[]), (18, .int .i64 (((a + bb) / 2 : Nat) : Int)), (19, .int .i64 ((((a + bb) / 2) + m : Nat) : Int)), (20, .int .i64 (i : Int)), (21, .int .i64 (j : Int)), (22, .int .i64 (((((a + bb) / 2) + m) - 1 : Nat) : Int)), (24, .int .i64 (((((a + bb) / 2) + m) - i : Nat) : Int)), (151, .bool false), (185, .bool true)]) (by kernel_rfl) ?_
        refine WQ.thenN ?_
        refine WE.seq ?_
        refine WE.seq ?_
        have e_ij : i = j := by omega
        have hB' : i < m → rk q (((a + bb) / 2) + m - 1 - i) < rk q i := fun h_ => by rw [e_ij]; exact hB (by omega)
        obtain ⟨hP1, k1, k2, k3, k4, kx⟩ := mid_facts (q := q) (p := p1) (a := a) (m := m) (bb := bb) (s := i) (e := ((a + bb) / 2) + m - i) (mid := ((a + bb) / 2)) hs1 hs2 (by omega) (by omega) (by omega) (by omega) (by omega) (by omega) (by omega) (by omega) (hl1.trans hn.symm) hf1 hp1 (fun x y => hA (by omega)) (fun x y => by rw [show ((a + bb) / 2) + m - i - 1 = ((a + bb) / 2) + m - 1 - i by omega]; exact Nat.le_of_lt (hB' (by omega)))
        have hall1 := hP1.allB hall
        -- R41 zsortanyfunc.go:452
        refine WE.region ?_
        refine WO.run 2 0 [(193, .int .i64 (i : Int)), (192, .int .i64 (a : Int))] (by kernel_rfl) (by kernel_rfl) ?_
        refine WO.one (SQ.F 2 (by kernel_rfl)) 194 (.bool (decide (((a : Int) : Int) < (i : Int)))) (by kernel_rfl) ?_
        refine WO.topP (((a : Int) : Int) < (i : Int)) ?_ ?_
        · intro h12
          refine WO.run 3 3 [(197, .int .i64 (((a + bb) / 2 : Nat) : Int)), (196, .int .i64 (i : Int)), (195, .bool true)] (by kernel_rfl) (by kernel_rfl) ?_
          refine WO.one (SQ.F 6 (by kernel_rfl)) 198 (.bool (decide (((i : Int) : Int) < (((a + bb) / 2 : Nat) : Int)))) (by kernel_rfl) ?_
          refine WO.topP (((i : Int) : Int) < (((a + bb) / 2 : Nat) : Int)) ?_ ?_
          · intro h13
            refine WO.run 1 7 [(199, .bool true)] (by kernel_rfl) (by kernel_rfl) ?_
            refine WO.done (by kernel_rfl) ?_
            refine WQ.keep [0, 1, 2, 3, 4, 18, 19, 20, 21, 22, 24, 151, 185, 199] (e' := [(0, .slice (some ⟨b, 0, none⟩) n cap), (1, .int .i64 (a : Int)), (2, .int .i64 (m : Int)), (3, .int .i64 (bb : Int)), (4, .func (.func 50) #[] #[]), (18, .int .i64 (((a + bb) / 2 : Nat) : Int)), (19, .int .i64 ((((a + bb) / 2) + m : Nat) : Int)), (20, .int .i64 (i : Int)), (21, .int .i64 (j : Int)), (22, .int .i64 (((((a + bb) / 2) + m) - 1 : Nat) : Int)), (24, .int .i64 (((((a + bb) / 2) + m) - i : Nat) : Int)), (151, .bool false), (185, .bool true), (199, .bool true)]) (by kernel_rfl) ?_
            refine WQ.thenN ?_
            refine WE.condT (by kernel_rfl) ?_
            -- R42 zsortanyfunc.go:453
            refine WE.region ?_
            refine WO.run 5 0 [(204, .func (.func 50) #[] #[]), (203, .int .i64 (((a + bb) / 2 : Nat) : Int)), (202, .int .i64 (i : Int)), (201, .int .i64 (a : Int)), (200, .slice (some ⟨b, 0, none⟩) n cap)] (by kernel_rfl) (by kernel_rfl) ?_
            refine WO.call (SQ.E 5 (by kernel_rfl)) 205 (by kernel_rfl) (ih (((a + bb) / 2) - a) (by omega) b n cap a i ((a + bb) / 2) p1 _ rfl HR11 hl1 hall1 hm (by omega) (by omega) (by omega) k1 k2) ?_
            rintro _ w14 ⟨p2, rfl, hP2, hS2, HR16, F15⟩
            refine ⟨_, rfl, trivial, ?_⟩
            have HA := Fr.step HA F15 (inSL (by simp) inS0)
            refine WO.done (by kernel_rfl) ?_
            refine WQ.keep [0, 1, 2, 3, 4, 18, 19, 20, 21, 22, 24, 151, 185, 199] (e' := [(0, .slice (some ⟨b, 0, none⟩) n cap), (1, .int .i64 (a : Int)), (2, .int .i64 (m : Int)), (3, .int .i64 (bb : Int)), (4, .func (.func 50) #[] #[]), (18, .int .i64 (((a + bb) / 2 : Nat) : Int)), (19, .int .i64 ((((a + bb) / 2) + m : Nat) : Int)), (20, .int .i64 (i : Int)), (21, .int .i64 (j : Int)), (22, .int .i64 (((((a + bb) / 2) + m) - 1 : Nat) : Int)), (24, .int .i64 (((((a + bb) / 2) + m) - i : Nat) : Int)), (151, .bool false), (185, .bool true), (199, .bool true)]) (by kernel_rfl) ?_
            refine WQ.thenN ?_
            refine WE.seq ?_
            have k3' : Srt (rk p2) ((a + bb) / 2) (((a + bb) / 2) + m - i) := srt_out k3 hP2 (Nat.le_refl _)
            have k4' : Srt (rk p2) (((a + bb) / 2) + m - i) bb := srt_out k4 hP2 (by omega)
            have hall2 := hP2.allB hall1
            -- R43 zsortanyfunc.go:455
            refine WE.region ?_
            refine WO.run 2 0 [(207, .int .i64 (((((a + bb) / 2) + m) - i : Nat) : Int)), (206, .int .i64 (((a + bb) / 2 : Nat) : Int))] (by kernel_rfl) (by kernel_rfl) ?_
            refine WO.one (SQ.F 2 (by kernel_rfl)) 208 (.bool (decide (((((a + bb) / 2 : Nat) : Int) : Int) < (((((a + bb) / 2) + m) - i : Nat) : Int)))) (by kernel_rfl) ?_
            refine WO.topP (((((a + bb) / 2 : Nat) : Int) : Int) < (((((a + bb) / 2) + m) - i : Nat) : Int)) ?_ ?_
            · intro h17
              refine WO.run 3 3 [(211, .int .i64 (bb : Int)), (210, .int .i64 (((((a + bb) / 2) + m) - i : Nat) : Int)), (209, .bool true)] (by kernel_rfl) (by kernel_rfl) ?_
              refine WO.one (SQ.F 6 (by kernel_rfl)) 212 (.bool (decide (((((((a + bb) / 2) + m) - i : Nat) : Int) : Int) < (bb : Int)))) (by kernel_rfl) ?_
              refine WO.topP (((((((a + bb) / 2) + m) - i : Nat) : Int) : Int) < (bb : Int)) ?_ ?_
              · intro h18
                refine WO.run 1 7 [(213, .bool true)] (by kernel_rfl) (by kernel_rfl) ?_
                refine WO.done (by kernel_rfl) ?_
                refine WQ.keep [0, 1, 2, 3, 4, 18, 19, 20, 21, 22, 24, 151, 185, 199, 213] (e' := [(0, .slice (some ⟨b, 0, none⟩) n cap), (1, .int .i64 (a : Int)), (2, .int .i64 (m : Int)), (3, .int .i64 (bb : Int)), (4, .func (.func 50) #[] #[]), (18, .int .i64 (((a + bb) / 2 : Nat) : Int)), (19, .int .i64 ((((a + bb) / 2) + m : Nat) : Int)), (20, .int .i64 (i : Int)), (21, .int .i64 (j : Int)), (22, .int .i64 (((((a + bb) / 2) + m) - 1 : Nat) : Int)), (24, .int .i64 (((((a + bb) / 2) + m) - i : Nat) : Int)), (151, .bool false), (185, .bool true), (199, .bool true), (213, .bool true)]) (by kernel_rfl) ?_
                refine WQ.thenN ?_
                refine WE.condT (by kernel_rfl) ?_
                -- R44 zsortanyfunc.go:456
                refine WE.region ?_
                refine WO.run 5 0 [(218, .func (.func 50) #[] #[]), (217, .int .i64 (bb : Int)), (216, .int .i64 (((((a + bb) / 2) + m) - i : Nat) : Int)), (215, .int .i64 (((a + bb) / 2 : Nat) : Int)), (214, .slice (some ⟨b, 0, none⟩) n cap)] (by kernel_rfl) (by kernel_rfl) ?_
                refine WO.call (SQ.E 5 (by kernel_rfl)) 219 (by kernel_rfl) (ih (bb - ((a + bb) / 2)) (by omega) b n cap ((a + bb) / 2) ((((a + bb) / 2) + m) - i) bb p2 _ rfl HR16 (hP2.len.trans (hl1)) hall2 hm (by omega) (by omega) (by omega) k3' k4') ?_
                rintro _ w19 ⟨p3, rfl, hP3, hS3, HR21, F20⟩
                refine ⟨_, rfl, trivial, ?_⟩
                have HA := Fr.step HA F20 (inSL (by simp) inS0)
                refine WO.done (by kernel_rfl) ?_
                refine WQ.keep [0, 1, 2, 3, 4, 18, 19, 20, 21, 22, 24, 151, 185, 199, 213] (e' := [(0, .slice (some ⟨b, 0, none⟩) n cap), (1, .int .i64 (a : Int)), (2, .int .i64 (m : Int)), (3, .int .i64 (bb : Int)), (4, .func (.func 50) #[] #[]), (18, .int .i64 (((a + bb) / 2 : Nat) : Int)), (19, .int .i64 ((((a + bb) / 2) + m : Nat) : Int)), (20, .int .i64 (i : Int)), (21, .int .i64 (j : Int)), (22, .int .i64 (((((a + bb) / 2) + m) - 1 : Nat) : Int)), (24, .int .i64 (((((a + bb) / 2) + m) - i : Nat) : Int)), (151, .bool false), (185, .bool true), (199, .bool true), (213, .bool true)]) (by kernel_rfl) ?_
                refine WQ.fall (v := .tuple #[]) (by kernel_rfl) ?_
                obtain ⟨t1, t2⟩ := final_srt (q := q) (p1 := p1) (p2 := p2) (p3 := p3) (by omega) (by omega) (by omega) hP1 hP2 hP3 hS2 hS3 kx
                exact ⟨p3, rfl, t1, t2, HR21, HA⟩
              · intro h18
                refine WO.run 1 7 [(213, .bool false)] (by kernel_rfl) (by kernel_rfl) ?_
                refine WO.done (by kernel_rfl) ?_
                refine WQ.keep [0, 1, 2, 3, 4, 18, 19, 20, 21, 22, 24, 151, 185, 199, 213] (e' := [(0, .slice (some ⟨b, 0, none⟩) n cap), (1, .int .i64 (a : Int)), (2, .int .i64 (m : Int)), (3, .int .i64 (bb : Int)), (4, .func (.func 50) #[] #[]), (18, .int .i64 (((a + bb) / 2 : Nat) : Int)), (19, .int .i64 ((((a + bb) / 2) + m : Nat) : Int)), (20, .int .i64 (i : Int)), (21, .int .i64 (j : Int)), (22, .int .i64 (((((a + bb) / 2) + m) - 1 : Nat) : Int)), (24, .int .i64 (((((a + bb) / 2) + m) - i : Nat) : Int)), (151, .bool false), (185, .bool true), (199, .bool true), (213, .bool false)]) (by kernel_rfl) ?_
                refine WQ.thenN ?_
                refine WE.condF (by kernel_rfl) ?_
                refine WE.skip ?_
                refine WQ.fall (v := .tuple #[]) (by kernel_rfl) ?_
                have hP3 := PIn.refl ((a + bb) / 2) bb p2
                have hS3 : Srt (rk p2) ((a + bb) / 2) bb := srt_side k3' k4' (by omega)
                obtain ⟨t1, t2⟩ := final_srt (q := q) (p1 := p1) (p2 := p2) (p3 := p2) (by omega) (by omega) (by omega) hP1 hP2 hP3 hS2 hS3 kx
                exact ⟨p2, rfl, t1, t2, HR16, HA⟩
            · intro h17
              refine WO.run 5 3 [(213, .bool false), (212, undef), (211, undef), (210, undef), (209, .bool false)] (by kernel_rfl) (by kernel_rfl) ?_
              refine WO.done (by kernel_rfl) ?_
              refine WQ.keep [0, 1, 2, 3, 4, 18, 19, 20, 21, 22, 24, 151, 185, 199, 213] (e' := [(0, .slice (some ⟨b, 0, none⟩) n cap), (1, .int .i64 (a : Int)), (2, .int .i64 (m : Int)), (3, .int .i64 (bb : Int)), (4, .func (.func 50) #[] #[]), (18, .int .i64 (((a + bb) / 2 : Nat) : Int)), (19, .int .i64 ((((a + bb) / 2) + m : Nat) : Int)), (20, .int .i64 (i : Int)), (21, .int .i64 (j : Int)), (22, .int .i64 (((((a + bb) / 2) + m) - 1 : Nat) : Int)), (24, .int .i64 (((((a + bb) / 2) + m) - i : Nat) : Int)), (151, .bool false), (185, .bool true), (199, .bool true), (213, .bool false)]) (by kernel_rfl) ?_
              refine WQ.thenN ?_
              refine WE.condF (by kernel_rfl) ?_
              refine WE.skip ?_
              refine WQ.fall (v := .tuple #[]) (by kernel_rfl) ?_
              have hP3 := PIn.refl ((a + bb) / 2) bb p2
              have hS3 : Srt (rk p2) ((a + bb) / 2) bb := srt_side k3' k4' (by omega)
              obtain ⟨t1, t2⟩ := final_srt (q := q) (p1 := p1) (p2 := p2) (p3 := p2) (by omega) (by omega) (by omega) hP1 hP2 hP3 hS2 hS3 kx
              exact ⟨p2, rfl, t1, t2, HR16, HA⟩
          · intro h13
            refine WO.run 1 7 [(199, .bool false)] (by kernel_rfl) (by kernel_rfl) ?_
            refine WO.done (by kernel_rfl) ?_
            refine WQ.keep [0, 1, 2, 3, 4, 18, 19, 20, 21, 22, 24, 151, 185, 199] (e' := [(0, .slice (some ⟨b, 0, none⟩) n cap), (1, .int .i64 (a : Int)), (2, .int .i64 (m : Int)), (3, .int .i64 (bb : Int)), (4, .func (.func 50) #[] #[]), (18, .int .i64 (((a + bb) / 2 : Nat) : Int)), (19, .int .i64 ((((a + bb) / 2) + m : Nat) : Int)), (20, .int .i64 (i : Int)), (21, .int .i64 (j : Int)), (22, .int .i64 (((((a + bb) / 2) + m) - 1 : Nat) : Int)), (24, .int .i64 (((((a + bb) / 2) + m) - i : Nat) : Int)), (151, .bool false), (185, .bool true), (199, .bool false)]) (by kernel_rfl) ?_
            refine WQ.thenN ?_
            refine WE.condF (by kernel_rfl) ?_
            refine WE.skip ?_
            refine WQ.thenN ?_
            refine WE.seq ?_
            have hP2 := PIn.refl a ((a + bb) / 2) p1
            have hS2 : Srt (rk p1) a ((a + bb) / 2) := srt_side k1 k2 (by omega)
            have k3' : Srt (rk p1) ((a + bb) / 2) (((a + bb) / 2) + m - i) := srt_out k3 hP2 (Nat.le_refl _)
            have k4' : Srt (rk p1) (((a + bb) / 2) + m - i) bb := srt_out k4 hP2 (by omega)
            have hall2 := hP2.allB hall1
            -- R43 zsortanyfunc.go:455
            refine WE.region ?_
            refine WO.run 2 0 [(207, .int .i64 (((((a + bb) / 2) + m) - i : Nat) : Int)), (206, .int .i64 (((a + bb) / 2 : Nat) : Int))] (by kernel_rfl) (by kernel_rfl) ?_
            refine WO.one (SQ.F 2 (by kernel_rfl)) 208 (.bool (decide (((((a + bb) / 2 : Nat) : Int) : Int) < (((((a + bb) / 2) + m) - i : Nat) : Int)))) (by kernel_rfl) ?_
            refine WO.topP (((((a + bb) / 2 : Nat) : Int) : Int) < (((((a + bb) / 2) + m) - i : Nat) : Int)) ?_ ?_
            · intro h22
              refine WO.run 3 3 [(211, .int .i64 (bb : Int)), (210, .int .i64 (((((a + bb) / 2) + m) - i : Nat) : Int)), (209, .bool true)] (by kernel_rfl) (by kernel_rfl) ?_
              refine WO.one (SQ.F 6 (by kernel_rfl)) 212 (.bool (decide (((((((a + bb) / 2) + m) - i : Nat) : Int) : Int) < (bb : Int)))) (by kernel_rfl) ?_
              refine WO.topP (((((((a + bb) / 2) + m) - i : Nat) : Int) : Int) < (bb : Int)) ?_ ?_
              · intro h23
                refine WO.run 1 7 [(213, .bool true)] (by kernel_rfl) (by kernel_rfl) ?_
                refine WO.done (by kernel_rfl) ?_
                refine WQ.keep [0, 1, 2, 3, 4, 18, 19, 20, 21, 22, 24, 151, 185, 199, 213] (e' := [(0, .slice (some ⟨b, 0, none⟩) n cap), (1, .int .i64 (a : Int)), (2, .int .i64 (m : Int)), (3, .int .i64 (bb : Int)), (4, .func (.func 50) #[] #[]), (18, .int .i64 (((a + bb) / 2 : Nat) : Int)), (19, .int .i64 ((((a + bb) / 2) + m : Nat) : Int)), (20, .int .i64 (i : Int)), (21, .int .i64 (j : Int)), (22, .int .i64 (((((a + bb) / 2) + m) - 1 : Nat) : Int)), (24, .int .i64 (((((a + bb) / 2) + m) - i : Nat) : Int)), (151, .bool false), (185, .bool true), (199, .bool false), (213, .bool true)]) (by kernel_rfl) ?_
                refine WQ.thenN ?_
                refine WE.condT (by kernel_rfl) ?_
                -- R44 zsortanyfunc.go:456
                refine WE.region ?_
                refine WO.run 5 0 [(218, .func (.func 50) #[] #[]), (217, .int .i64 (bb : Int)), (216, .int .i64 (((((a + bb) / 2) + m) - i : Nat) : Int)), (215, .int .i64 (((a + bb) / 2 : Nat) : Int)), (214, .slice (some ⟨b, 0, none⟩) n cap)] (by kernel_rfl) (by kernel_rfl) ?_
                refine WO.call (SQ.E 5 (by kernel_rfl)) 219 (by kernel_rfl) (ih (bb - ((a + bb) / 2)) (by omega) b n cap ((a + bb) / 2) ((((a + bb) / 2) + m) - i) bb p1 _ rfl HR11 hl1 hall2 hm (by omega) (by omega) (by omega) k3' k4') ?_
                rintro _ w24 ⟨p3, rfl, hP3, hS3, HR26, F25⟩
                refine ⟨_, rfl, trivial, ?_⟩
                have HA := Fr.step HA F25 (inSL (by simp) inS0)
                refine WO.done (by kernel_rfl) ?_
                refine WQ.keep [0, 1, 2, 3, 4, 18, 19, 20, 21, 22, 24, 151, 185, 199, 213] (e' := [(0, .slice (some ⟨b, 0, none⟩) n cap), (1, .int .i64 (a : Int)), (2, .int .i64 (m : Int)), (3, .int .i64 (bb : Int)), (4, .func (.func 50) #[] #[]), (18, .int .i64 (((a + bb) / 2 : Nat) : Int)), (19, .int .i64 ((((a + bb) / 2) + m : Nat) : Int)), (20, .int .i64 (i : Int)), (21, .int .i64 (j : Int)), (22, .int .i64 (((((a + bb) / 2) + m) - 1 : Nat) : Int)), (24, .int .i64 (((((a + bb) / 2) + m) - i : Nat) : Int)), (151, .bool false), (185, .bool true), (199, .bool false), (213, .bool true)]) (by kernel_rfl) ?_
                refine WQ.fall (v := .tuple #[]) (by kernel_rfl) ?_
                obtain ⟨t1, t2⟩ := final_srt (q := q) (p1 := p1) (p2 := p1) (p3 := p3) (by omega) (by omega) (by omega) hP1 hP2 hP3 hS2 hS3 kx
                exact ⟨p3, rfl, t1, t2, HR26, HA⟩
              · intro h23
                refine WO.run 1 7 [(213, .bool false)] (by kernel_rfl) (by kernel_rfl) ?_
                refine WO.done (by kernel_rfl) ?_
                refine WQ.keep [0, 1, 2, 3, 4, 18, 19, 20, 21, 22, 24, 151, 185, 199, 213] (e' := [(0, .slice (some ⟨b, 0, none⟩) n cap), (1, .int .i64 (a : Int)), (2, .int .i64 (m : Int)), (3, .int .i64 (bb : Int)), (4, .func (.func 50) #[] #[]), (18, .int .i64 (((a + bb) / 2 : Nat) : Int)), (19, .int .i64 ((((a + bb) / 2) + m : Nat) : Int)), (20, .int .i64 (i : Int)), (21, .int .i64 (j : Int)), (22, .int .i64 (((((a + bb) / 2) + m) - 1 : Nat) : Int)), (24, .int .i64 (((((a + bb) / 2) + m) - i : Nat) : Int)), (151, .bool false), (185, .bool true), (199, .bool false), (213, .bool false)]) (by kernel_rfl) ?_
                refine WQ.thenN ?_
                refine WE.condF (by kernel_rfl) ?_
                refine WE.skip ?_
                refine WQ.fall (v := .tuple #[]) (by kernel_rfl) ?_
                have hP3 := PIn.refl ((a + bb) / 2) bb p1
                have hS3 : Srt (rk p1) ((a + bb) / 2) bb := srt_side k3' k4' (by omega)
                obtain ⟨t1, t2⟩ := final_srt (q := q) (p1 := p1) (p2 := p1) (p3 := p1) (by omega) (by omega) (by omega) hP1 hP2 hP3 hS2 hS3 kx
                exact ⟨p1, rfl, t1, t2, HR11, HA⟩
            · intro h22
              refine WO.run 5 3 [(213, .bool false), (212, undef), (211, undef), (210, undef), (209, .bool false)] (by kernel_rfl) (by kernel_rfl) ?_
              refine WO.done (by kernel_rfl) ?_
              refine WQ.keep [0, 1, 2, 3, 4, 18, 19, 20, 21, 22, 24, 151, 185, 199, 213] (e' := [(0, .slice (some ⟨b, 0, none⟩) n cap), (1, .int .i64 (a : Int)), (2, .int .i64 (m : Int)), (3, .int .i64 (bb : Int)), (4, .func (.func 50) #[] #[]), (18, .int .i64 (((a + bb) / 2 : Nat) : Int)), (19, .int .i64 ((((a + bb) / 2) + m : Nat) : Int)), (20, .int .i64 (i : Int)), (21, .int .i64 (j : Int)), (22, .int .i64 (((((a + bb) / 2) + m) - 1 : Nat) : Int)), (24, .int .i64 (((((a + bb) / 2) + m) - i : Nat) : Int)), (151, .bool false), (185, .bool true), (199, .bool false), (213, .bool false)]) (by kernel_rfl) ?_
              refine WQ.thenN ?_
              refine WE.condF (by kernel_rfl) ?_
              refine WE.skip ?_
              refine WQ.fall (v := .tuple #[]) (by kernel_rfl) ?_
              have hP3 := PIn.refl ((a + bb) / 2) bb p1
              have hS3 : Srt (rk p1) ((a + bb) / 2) bb := srt_side k3' k4' (by omega)
              obtain ⟨t1, t2⟩ := final_srt (q := q) (p1 := p1) (p2 := p1) (p3 := p1) (by omega) (by omega) (by omega) hP1 hP2 hP3 hS2 hS3 kx
              exact ⟨p1, rfl, t1, t2, HR11, HA⟩
        · intro h12
          refine WO.run 5 3 [(199, .bool false), (198, undef), (197, undef), (196, undef), (195, .bool false)] (by kernel_rfl) (by kernel_rfl) ?_
          refine WO.done (by kernel_rfl) ?_
          refine WQ.keep [0, 1, 2, 3, 4, 18, 19, 20, 21, 22, 24, 151, 185, 199] (e' := [(0, .slice (some ⟨b, 0, none⟩) n cap), (1, .int .i64 (a : Int)), (2, .int .i64 (m : Int)), (3, .int .i64 (bb : Int)), (4, .func (.func 50) #[] #[]), (18, .int .i64 (((a + bb) / 2 : Nat) : Int)), (19, .int .i64 ((((a + bb) / 2) + m : Nat) : Int)), (20, .int .i64 (i : Int)), (21, .int .i64 (j : Int)), (22, .int .i64 (((((a + bb) / 2) + m) - 1 : Nat) : Int)), (24, .int .i64 (((((a + bb) / 2) + m) - i : Nat) : Int)), (151, .bool false), (185, .bool true), (199, .bool false)]) (by kernel_rfl) ?_
          refine WQ.thenN ?_
          refine WE.condF (by kernel_rfl) ?_
          refine WE.skip ?_
          refine WQ.thenN ?_
          refine WE.seq ?_
          have hP2 := PIn.refl a ((a + bb) / 2) p1
          have hS2 : Srt (rk p1) a ((a + bb) / 2) := srt_side k1 k2 (by omega)
          have k3' : Srt (rk p1) ((a + bb) / 2) (((a + bb) / 2) + m - i) := srt_out k3 hP2 (Nat.le_refl _)
          have k4' : Srt (rk p1) (((a + bb) / 2) + m - i) bb := srt_out k4 hP2 (by omega)
          have hall2 := hP2.allB hall1
          -- R43 zsortanyfunc.go:455
          refine WE.region ?_
          refine WO.run 2 0 [(207, .int .i64 (((((a + bb) / 2) + m) - i : Nat) : Int)), (206, .int .i64 (((a + bb) / 2 : Nat) : Int))] (by kernel_rfl) (by kernel_rfl) ?_
          refine WO.one (SQ.F 2 (by kernel_rfl)) 208 (.bool (decide (((((a + bb) / 2 : Nat) : Int) : Int) < (((((a + bb) / 2) + m) - i : Nat) : Int)))) (by kernel_rfl) ?_
          refine WO.topP (((((a + bb) / 2 : Nat) : Int) : Int) < (((((a + bb) / 2) + m) - i : Nat) : Int)) ?_ ?_
          · intro h27
            refine WO.run 3 3 [(211, .int .i64 (bb : Int)), (210, .int .i64 (((((a + bb) / 2) + m) - i : Nat) : Int)), (209, .bool true)] (by kernel_rfl) (by kernel_rfl) ?_
            refine WO.one (SQ.F 6 (by kernel_rfl)) 212 (.bool (decide (((((((a + bb) / 2) + m) - i : Nat) : Int) : Int) < (bb : Int)))) (by kernel_rfl) ?_
            refine WO.topP (((((((a + bb) / 2) + m) - i : Nat) : Int) : Int) < (bb : Int)) ?_ ?_
            · intro h28
              refine WO.run 1 7 [(213, .bool true)] (by kernel_rfl) (by kernel_rfl) ?_
              refine WO.done (by kernel_rfl) ?_
              refine WQ.keep [0, 1, 2, 3, 4, 18, 19, 20, 21, 22, 24, 151, 185, 199, 213] (e' := [(0, .slice (some ⟨b, 0, none⟩) n cap), (1, .int .i64 (a : Int)), (2, .int .i64 (m : Int)), (3, .int .i64 (bb : Int)), (4, .func (.func 50) #[] #[]), (18, .int .i64 (((a + bb) / 2 : Nat) : Int)), (19, .int .i64 ((((a + bb) / 2) + m : Nat) : Int)), (20, .int .i64 (i : Int)), (21, .int .i64 (j : Int)), (22, .int .i64 (((((a + bb) / 2) + m) - 1 : Nat) : Int)), (24, .int .i64 (((((a + bb) / 2) + m) - i : Nat) : Int)), (151, .bool false), (185, .bool true), (199, .bool false), (213, .bool true)]) (by kernel_rfl) ?_
              refine WQ.thenN ?_
              refine WE.condT (by kernel_rfl) ?_
              -- R44 zsortanyfunc.go:456
              refine WE.region ?_
              refine WO.run 5 0 [(218, .func (.func 50) #[] #[]), (217, .int .i64 (bb : Int)), (216, .int .i64 (((((a + bb) / 2) + m) - i : Nat) : Int)), (215, .int .i64 (((a + bb) / 2 : Nat) : Int)), (214, .slice (some ⟨b, 0, none⟩) n cap)] (by kernel_rfl) (by kernel_rfl) ?_
              refine WO.call (SQ.E 5 (by kernel_rfl)) 219 (by kernel_rfl) (ih (bb - ((a + bb) / 2)) (by omega) b n cap ((a + bb) / 2) ((((a + bb) / 2) + m) - i) bb p1 _ rfl HR11 hl1 hall2 hm (by omega) (by omega) (by omega) k3' k4') ?_
              rintro _ w29 ⟨p3, rfl, hP3, hS3, HR31, F30⟩
              refine ⟨_, rfl, trivial, ?_⟩
              have HA := Fr.step HA F30 (inSL (by simp) inS0)
              refine WO.done (by kernel_rfl) ?_
              refine WQ.keep [0, 1, 2, 3, 4, 18, 19, 20, 21, 22, 24, 151, 185, 199, 213] (e' := [(0, .slice (some ⟨b, 0, none⟩) n cap), (1, .int .i64 (a : Int)), (2, .int .i64 (m : Int)), (3, .int .i64 (bb : Int)), (4, .func (.func 50) #[] #[]), (18, .int .i64 (((a + bb) / 2 : Nat) : Int)), (19, .int .i64 ((((a + bb) / 2) + m : Nat) : Int)), (20, .int .i64 (i : Int)), (21, .int .i64 (j : Int)), (22, .int .i64 (((((a + bb) / 2) + m) - 1 : Nat) : Int)), (24, .int .i64 (((((a + bb) / 2) + m) - i : Nat) : Int)), (151, .bool false), (185, .bool true), (199, .bool false), (213, .bool true)]) (by kernel_rfl) ?_
              refine WQ.fall (v := .tuple #[]) (by kernel_rfl) ?_
              obtain ⟨t1, t2⟩ := final_srt (q := q) (p1 := p1) (p2 := p1) (p3 := p3) (by omega) (by omega) (by omega) hP1 hP2 hP3 hS2 hS3 kx
              exact ⟨p3, rfl, t1, t2, HR31, HA⟩
            · intro h28
              refine WO.run 1 7 [(213, .bool false)] (by kernel_rfl) (by kernel_rfl) ?_
              refine WO.done (by kernel_rfl) ?_
              refine WQ.keep [0, 1, 2, 3, 4, 18, 19, 20, 21, 22, 24, 151, 185, 199, 213] (e' := [(0, .slice (some ⟨b, 0, none⟩) n cap), (1, .int .i64 (a : Int)), (2, .int .i64 (m : Int)), (3, .int .i64 (bb : Int)), (4, .func (.func 50) #[] #[]), (18, .int .i64 (((a + bb) / 2 : Nat) : Int)), (19, .int .i64 ((((a + bb) / 2) + m : Nat) : Int)), (20, .int .i64 (i : Int)), (21, .int .i64 (j : Int)), (22, .int .i64 (((((a + bb) / 2) + m) - 1 : Nat) : Int)), (24, .int .i64 (((((a + bb) / 2) + m) - i : Nat) : Int)), (151, .bool false), (185, .bool true), (199, .bool false), (213, .bool false)]) (by kernel_rfl) ?_
              refine WQ.thenN ?_
              refine WE.condF (by kernel_rfl) ?_
              refine WE.skip ?_
              refine WQ.fall (v := .tuple #[]) (by kernel_rfl) ?_
              have hP3 := PIn.refl ((a + bb) / 2) bb p1
              have hS3 : Srt (rk p1) ((a + bb) / 2) bb := srt_side k3' k4' (by omega)
              obtain ⟨t1, t2⟩ := final_srt (q := q) (p1 := p1) (p2 := p1) (p3 := p1) (by omega) (by omega) (by omega) hP1 hP2 hP3 hS2 hS3 kx
              exact ⟨p1, rfl, t1, t2, HR11, HA⟩
          · intro h27
            refine WO.run 5 3 [(213, .bool false), (212, undef), (211, undef), (210, undef), (209, .bool false)] (by kernel_rfl) (by kernel_rfl) ?_
            refine WO.done (by kernel_rfl) ?_
            refine WQ.keep [0, 1, 2, 3, 4, 18, 19, 20, 21, 22, 24, 151, 185, 199, 213] (e' := [(0, .slice (some ⟨b, 0, none⟩) n cap), (1, .int .i64 (a : Int)), (2, .int .i64 (m : Int)), (3, .int .i64 (bb : Int)), (4, .func (.func 50) #[] #[]), (18, .int .i64 (((a + bb) / 2 : Nat) : Int)), (19, .int .i64 ((((a + bb) / 2) + m : Nat) : Int)), (20, .int .i64 (i : Int)), (21, .int .i64 (j : Int)), (22, .int .i64 (((((a + bb) / 2) + m) - 1 : Nat) : Int)), (24, .int .i64 (((((a + bb) / 2) + m) - i : Nat) : Int)), (151, .bool false), (185, .bool true), (199, .bool false), (213, .bool false)]) (by kernel_rfl) ?_
            refine WQ.thenN ?_
            refine WE.condF (by kernel_rfl) ?_
            refine WE.skip ?_
            refine WQ.fall (v := .tuple #[]) (by kernel_rfl) ?_
            have hP3 := PIn.refl ((a + bb) / 2) bb p1
            have hS3 : Srt (rk p1) ((a + bb) / 2) bb := srt_side k3' k4' (by omega)
            obtain ⟨t1, t2⟩ := final_srt (q := q) (p1 := p1) (p2 := p1) (p3 := p1) (by omega) (by omega) (by omega) hP1 hP2 hP3 hS2 hS3 kx
            exact ⟨p1, rfl, t1, t2, HR11, HA⟩
      · intro h8
        refine WO.run 1 7 [(185, .bool false)] (by kernel_rfl) (by kernel_rfl) ?_
        refine WO.done (by kernel_rfl) ?_
        refine WQ.keep [0, 1, 2, 3, 4, 18, 19, 20, 21, 22, 24, 151, 185] (e' := [(0, .slice (some ⟨b, 0, none⟩) n cap), (1, .int .i64 (a : Int)), (2, .int .i64 (m : Int)), (3, .int .i64 (bb : Int)), (4, .func (.func 50) #[] #[]), (18, .int .i64 (((a + bb) / 2 : Nat) : Int)), (19, .int .i64 ((((a + bb) / 2) + m : Nat) : Int)), (20, .int .i64 (i : Int)), (21, .int .i64 (j : Int)), (22, .int .i64 (((((a + bb) / 2) + m) - 1 : Nat) : Int)), (24, .int .i64 (((((a + bb) / 2) + m) - i : Nat) : Int)), (151, .bool false), (185, .bool false)]) (by kernel_rfl) ?_
        refine WQ.thenN ?_
        refine WE.condF (by kernel_rfl) ?_
        refine WE.skip ?_
        refine WQ.thenN ?_
        refine WE.seq ?_
        refine WE.seq ?_
        have e_ij : i = j := by omega
        have hB' : i < m → rk q (((a + bb) / 2) + m - 1 - i) < rk q i := fun h_ => by rw [e_ij]; exact hB (by omega)
        have hf1 : ∀ x, g0 q x = rotF (g0 q) i m (((a + bb) / 2) + m - i) x := fun x => (rot_triv (by omega)).symm
        obtain ⟨hP1, k1, k2, k3, k4, kx⟩ := mid_facts (q := q) (p := q) (a := a) (m := m) (bb := bb) (s := i) (e := ((a + bb) / 2) + m - i) (mid := ((a + bb) / 2)) hs1 hs2 (by omega) (by omega) (by omega) (by omega) (by omega) (by omega) (by omega) (by omega) (hn.trans hn.symm) hf1 (.refl _) (fun x y => hA (by omega)) (fun x y => by rw [show ((a + bb) / 2) + m - i - 1 = ((a + bb) / 2) + m - 1 - i by omega]; exact Nat.le_of_lt (hB' (by omega)))
        have hall1 := hP1.allB hall
        -- R41 zsortanyfunc.go:452
        refine WE.region ?_
        refine WO.run 2 0 [(193, .int .i64 (i : Int)), (192, .int .i64 (a : Int))] (by kernel_rfl) (by kernel_rfl) ?_
        refine WO.one (SQ.F 2 (by kernel_rfl)) 194 (.bool (decide (((a : Int) : Int) < (i : Int)))) (by kernel_rfl) ?_
        refine WO.topP (((a : Int) : Int) < (i : Int)) ?_ ?_
        · intro h32
          refine WO.run 3 3 [(197, .int .i64 (((a + bb) / 2 : Nat) : Int)), (196, .int .i64 (i : Int)), (195, .bool true)] (by kernel_rfl) (by kernel_rfl) ?_
          refine WO.one (SQ.F 6 (by kernel_rfl)) 198 (.bool (decide (((i : Int) : Int) < (((a + bb) / 2 : Nat) : Int)))) (by kernel_rfl) ?_
          refine WO.topP (((i : Int) : Int) < (((a + bb) / 2 : Nat) : Int)) ?_ ?_
          · intro h33
            refine WO.run 1 7 [(199, .bool true)] (by kernel_rfl) (by kernel_rfl) ?_
            refine WO.done (by kernel_rfl) ?_
            refine WQ.keep [0, 1, 2, 3, 4, 18, 19, 20, 21, 22, 24, 151, 185, 199] (e' := [(0, .slice (some ⟨b, 0, none⟩) n cap), (1, .int .i64 (a : Int)), (2, .int .i64 (m : Int)), (3, .int .i64 (bb : Int)), (4, .func (.func 50) #[] #[]), (18, .int .i64 (((a + bb) / 2 : Nat) : Int)), (19, .int .i64 ((((a + bb) / 2) + m : Nat) : Int)), (20, .int .i64 (i : Int)), (21, .int .i64 (j : Int)), (22, .int .i64 (((((a + bb) / 2) + m) - 1 : Nat) : Int)), (24, .int .i64 (((((a + bb) / 2) + m) - i : Nat) : Int)), (151, .bool false), (185, .bool false), (199, .bool true)]) (by kernel_rfl) ?_
            refine WQ.thenN ?_
            refine WE.condT (by kernel_rfl) ?_
            -- R42 zsortanyfunc.go:453
            refine WE.region ?_
            refine WO.run 5 0 [(204, .func (.func 50) #[] #[]), (203, .int .i64 (((a + bb) / 2 : Nat) : Int)), (202, .int .i64 (i : Int)), (201, .int .i64 (a : Int)), (200, .slice (some ⟨b, 0, none⟩) n cap)] (by kernel_rfl) (by kernel_rfl) ?_
            refine WO.call (SQ.E 5 (by kernel_rfl)) 205 (by kernel_rfl) (ih (((a + bb) / 2) - a) (by omega) b n cap a i ((a + bb) / 2) q _ rfl HR hn hall1 hm (by omega) (by omega) (by omega) k1 k2) ?_
            rintro _ w34 ⟨p2, rfl, hP2, hS2, HR36, F35⟩
            refine ⟨_, rfl, trivial, ?_⟩
            have HA := Fr.step HA F35 (inSL (by simp) inS0)
            refine WO.done (by kernel_rfl) ?_
            refine WQ.keep [0, 1, 2, 3, 4, 18, 19, 20, 21, 22, 24, 151, 185, 199] (e' := [(0, .slice (some ⟨b, 0, none⟩) n cap), (1, .int .i64 (a : Int)), (2, .int .i64 (m : Int)), (3, .int .i64 (bb : Int)), (4, .func (.func 50) #[] #[]), (18, .int .i64 (((a + bb) / 2 : Nat) : Int)), (19, .int .i64 ((((a + bb) / 2) + m : Nat) : Int)), (20, .int .i64 (i : Int)), (21, .int .i64 (j : Int)), (22, .int .i64 (((((a + bb) / 2) + m) - 1 : Nat) : Int)), (24, .int .i64 (((((a + bb) / 2) + m) - i : Nat) : Int)), (151, .bool false), (185, .bool false), (199, .bool true)]) (by kernel_rfl) ?_
            refine WQ.thenN ?_
            refine WE.seq ?_
            have k3' : Srt (rk p2) ((a + bb) / 2) (((a + bb) / 2) + m - i) := srt_out k3 hP2 (Nat.le_refl _)
            have k4' : Srt (rk p2) (((a + bb) / 2) + m - i) bb := srt_out k4 hP2 (by omega)
            have hall2 := hP2.allB hall1
            -- R43 zsortanyfunc.go:455
            refine WE.region ?_
            refine WO.run 2 0 [(207, .int .i64 (((((a + bb) / 2) + m) - i : Nat) : Int)), (206, .int .i64 (((a + bb) / 2 : Nat) : Int))] (by kernel_rfl) (by kernel_rfl) ?_
            refine WO.one (SQ.F 2 (by kernel_rfl)) 208 (.bool (decide (((((a + bb) / 2 : Nat) : Int) : Int) < (((((a + bb) / 2) + m) - i : Nat) : Int)))) (by kernel_rfl) ?_
            refine WO.topP (((((a + bb) / 2 : Nat) : Int) : Int) < (((((a + bb) / 2) + m) - i : Nat) : Int)) ?_ ?_
            · intro h37
              refine WO.run 3 3 [(211, .int .i64 (bb : Int)), (210, .int .i64 (((((a + bb) / 2) + m) - i : Nat) : Int)), (209, .bool true)] (by kernel_rfl) (by kernel_rfl) ?_
              refine WO.one (SQ.F 6 (by kernel_rfl)) 212 (.bool (decide (((((((a + bb) / 2) + m) - i : Nat) : Int) : Int) < (bb : Int)))) (by kernel_rfl) ?_
              refine WO.topP (((((((a + bb) / 2) + m) - i : Nat) : Int) : Int) < (bb : Int)) ?_ ?_
              · intro h38
                refine WO.run 1 7 [(213, .bool true)] (by kernel_rfl) (by kernel_rfl) ?_
                refine WO.done (by kernel_rfl) ?_
                refine WQ.keep [0, 1, 2, 3, 4, 18, 19, 20, 21, 22, 24, 151, 185, 199, 213] (e' := [(0, .slice (some ⟨b, 0, none⟩) n cap), (1, .int .i64 (a : Int)), (2, .int .i64 (m : Int)), (3, .int .i64 (bb : Int)), (4, .func (.func 50) #[] #[]), (18, .int .i64 (((a + bb) / 2 : Nat) : Int)), (19, .int .i64 ((((a + bb) / 2) + m : Nat) : Int)), (20, .int .i64 (i : Int)), (21, .int .i64 (j : Int)), (22, .int .i64 (((((a + bb) / 2) + m) - 1 : Nat) : Int)), (24, .int .i64 (((((a + bb) / 2) + m) - i : Nat) : Int)), (151, .bool false), (185, .bool false), (199, .bool true), (213, .bool true)]) (by kernel_rfl) ?_
                refine WQ.thenN ?_
                refine WE.condT (by kernel_rfl) ?_
                -- R44 zsortanyfunc.go:456
                refine WE.region ?_
                refine WO.run 5 0 [(218, .func (.func 50) #[] #[]), (217, .int .i64 (bb : Int)), (216, .int .i64 (((((a + bb) / 2) + m) - i : Nat) : Int)), (215, .int .i64 (((a + bb) / 2 : Nat) : Int)), (214, .slice (some ⟨b, 0, none⟩) n cap)] (by kernel_rfl) (by kernel_rfl) ?_
                refine WO.call (SQ.E 5 (by kernel_rfl)) 219 (by kernel_rfl) (ih (bb - ((a + bb) / 2)) (by omega) b n cap ((a + bb) / 2) ((((a + bb) / 2) + m) - i) bb p2 _ rfl HR36 (hP2.len.trans (hn)) hall2 hm (by omega) (by omega) (by omega) k3' k4') ?_
                rintro _ w39 ⟨p3, rfl, hP3, hS3, HR41, F40⟩
                refine ⟨_, rfl, trivial, ?_⟩
                have HA := Fr.step HA F40 (inSL (by simp) inS0)
                refine WO.done (by kernel_rfl) ?_
                refine WQ.keep [0, 1, 2, 3, 4, 18, 19, 20, 21, 22, 24, 151, 185, 199, 213] (e' := [(0, .slice (some ⟨b, 0, none⟩) n cap), (1, .int .i64 (a : Int)), (2, .int .i64 (m : Int)), (3, .int .i64 (bb : Int)), (4, .func (.func 50) #[] #[]), (18, .int .i64 (((a + bb) / 2 : Nat) : Int)), (19, .int .i64 ((((a + bb) / 2) + m : Nat) : Int)), (20, .int .i64 (i : Int)), (21, .int .i64 (j : Int)), (22, .int .i64 (((((a + bb) / 2) + m) - 1 : Nat) : Int)), (24, .int .i64 (((((a + bb) / 2) + m) - i : Nat) : Int)), (151, .bool false), (185, .bool false), (199, .bool true), (213, .bool true)]) (by kernel_rfl) ?_
                refine WQ.fall (v := .tuple #[]) (by kernel_rfl) ?_
                obtain ⟨t1, t2⟩ := final_srt (q := q) (p1 := q) (p2 := p2) (p3 := p3) (by omega) (by omega) (by omega) hP1 hP2 hP3 hS2 hS3 kx
                exact ⟨p3, rfl, t1, t2, HR41, HA⟩
              · intro h38
                refine WO.run 1 7 [(213, .bool false)] (by kernel_rfl) (by kernel_rfl) ?_
                refine WO.done (by kernel_rfl) ?_
                refine WQ.keep [0, 1, 2, 3, 4, 18, 19, 20, 21, 22, 24, 151, 185, 199, 213] (e' := [(0, .slice (some ⟨b, 0, none⟩) n cap), (1, .int .i64 (a : Int)), (2, .int .i64 (m : Int)), (3, .int .i64 (bb : Int)), (4, .func (.func 50) #[] #[]), (18, .int .i64 (((a + bb) / 2 : Nat) : Int)), (19, .int .i64 ((((a + bb) / 2) + m : Nat) : Int)), (20, .int .i64 (i : Int)), (21, .int .i64 (j : Int)), (22, .int .i64 (((((a + bb) / 2) + m) - 1 : Nat) : Int)), (24, .int .i64 (((((a + bb) / 2) + m) - i : Nat) : Int)), (151, .bool false), (185, .bool false), (199, .bool true), (213, .bool false)]) (by kernel_rfl) ?_
                refine WQ.thenN ?_
                refine WE.condF (by kernel_rfl) ?_
                refine WE.skip ?_
                refine WQ.fall (v := .tuple #[]) (by kernel_rfl) ?_
                have hP3 := PIn.refl ((a + bb) / 2) bb p2
                have hS3 : Srt (rk p2) ((a + bb) / 2) bb := srt_side k3' k4' (by omega)
                obtain ⟨t1, t2⟩ := final_srt (q := q) (p1 := q) (p2 := p2) (p3 := p2) (by omega) (by omega) (by omega) hP1 hP2 hP3 hS2 hS3 kx
                exact ⟨p2, rfl, t1, t2, HR36, HA⟩
            · intro h37
              refine WO.run 5 3 [(213, .bool false), (212, undef), (211, undef), (210, undef), (209, .bool false)] (by kernel_rfl) (by kernel_rfl) ?_
              refine WO.done (by kernel_rfl) ?_
              refine WQ.keep [0, 1, 2, 3, 4, 18, 19, 20, 21, 22, 24, 151, 185, 199, 213] (e' := [(0, .slice (some ⟨b, 0, none⟩) n cap), (1, .int .i64 (a : Int)), (2, .int .i64 (m : Int)), (3, .int .i64 (bb : Int)), (4, .func (.func 50) #[] #[]), (18, .int .i64 (((a + bb) / 2 : Nat) : Int)), (19, .int .i64 ((((a + bb) / 2) + m : Nat) : Int)), (20, .int .i64 (i : Int)), (21, .int .i64 (j : Int)), (22, .int .i64 (((((a + bb) / 2) + m) - 1 : Nat) : Int)), (24, .int .i64 (((((a + bb) / 2) + m) - i : Nat) : Int)), (151, .bool false), (185, .bool false), (199, .bool true), (213, .bool false)]) (by kernel_rfl) ?_
              refine WQ.thenN ?_
              refine WE.condF (by kernel_rfl) ?_
              refine WE.skip ?_
              refine WQ.fall (v := .tuple #[]) (by kernel_rfl) ?_
              have hP3 := PIn.refl ((a + bb) / 2) bb p2
              have hS3 : Srt (rk p2) ((a + bb) / 2) bb := srt_side k3' k4' (by omega)
              obtain ⟨t1, t2⟩ := final_srt (q := q) (p1 := q) (p2 := p2) (p3 := p2) (by omega) (by omega) (by omega) hP1 hP2 hP3 hS2 hS3 kx
              exact ⟨p2, rfl, t1, t2, HR36, HA⟩
          · intro h33
            refine WO.run 1 7 [(199, .bool false)] (by kernel_rfl) (by kernel_rfl) ?_
            refine WO.done (by kernel_rfl) ?_
            refine WQ.keep [0, 1, 2, 3, 4, 18, 19, 20, 21, 22, 24, 151, 185, 199] (e' := [(0, .slice (some ⟨b, 0, none⟩) n cap), (1, .int .i64 (a : Int)), (2, .int .i64 (m : Int)), (3, .int .i64 (bb : Int)), (4, .func (.func 50) #[] #[]), (18, .int .i64 (((a + bb) / 2 : Nat) : Int)), (19, .int .i64 ((((a + bb) / 2) + m : Nat) : Int)), (20, .int .i64 (i : Int)), (21, .int .i64 (j : Int)), (22, .int .i64 (((((a + bb) / 2) + m) - 1 : Nat) : Int)), (24, .int .i64 (((((a + bb) / 2) + m) - i : Nat) : Int)), (151, .bool false), (185, .bool false), (199, .bool false)]) (by kernel_rfl) ?_
            refine WQ.thenN ?_
            refine WE.condF (by kernel_rfl) ?_
            refine WE.skip ?_
            refine WQ.thenN ?_
            refine WE.seq ?_
            have hP2 := PIn.refl a ((a + bb) / 2) q
            have hS2 : Srt (rk q) a ((a + bb) / 2) := srt_side k1 k2 (by omega)
            have k3' : Srt (rk q) ((a + bb) / 2) (((a + bb) / 2) + m - i) := srt_out k3 hP2 (Nat.le_refl _)
            have k4' : Srt (rk q) (((a + bb) / 2) + m - i) bb := srt_out k4 hP2 (by omega)
            have hall2 := hP2.allB hall1
            -- R43 zsortanyfunc.go:455
            refine WE.region ?_
            refine WO.run 2 0 [(207, .int .i64 (((((a + bb) / 2) + m) - i : Nat) : Int)), (206, .int .i64 (((a + bb) / 2 : Nat) : Int))] (by kernel_rfl) (by kernel_rfl) ?_
            refine WO.one (SQ.F 2 (by kernel_rfl)) 208 (.bool (decide (((((a + bb) / 2 : Nat) : Int) : Int) < (((((a + bb) / 2) + m) - i : Nat) : Int)))) (by kernel_rfl) ?_
            refine WO.topP (((((a + bb) / 2 : Nat) : Int) : Int) < (((((a + bb) / 2) + m) - i : Nat) : Int)) ?_ ?_
            · intro h42
              refine WO.run 3 3 [(211, .int .i64 (bb : Int)), (210, .int .i64 (((((a + bb) / 2) + m) - i : Nat) : Int)), (209, .bool true)] (by kernel_rfl) (by kernel_rfl) ?_
              refine WO.one (SQ.F 6 (by kernel_rfl)) 212 (.bool (decide (((((((a + bb) / 2) + m) - i : Nat) : Int) : Int) < (bb : Int)))) (by kernel_rfl) ?_
              refine WO.topP (((((((a + bb) / 2) + m) - i : Nat) : Int) : Int) < (bb : Int)) ?_ ?_
              · intro h43
                refine WO.run 1 7 [(213, .bool true)] (by kernel_rfl) (by kernel_rfl) ?_
                refine WO.done (by kernel_rfl) ?_
                refine WQ.keep [0, 1, 2, 3, 4, 18, 19, 20, 21, 22, 24, 151, 185, 199, 213] (e' := [(0, .slice (some ⟨b, 0, none⟩) n cap), (1, .int .i64 (a : Int)), (2, .int .i64 (m : Int)), (3, .int .i64 (bb : Int)), (4, .func (.func 50) #[] #[]), (18, .int .i64 (((a + bb) / 2 : Nat) : Int)), (19, .int .i64 ((((a + bb) / 2) + m : Nat) : Int)), (20, .int .i64 (i : Int)), (21, .int .i64 (j : Int)), (22, .int .i64 (((((a + bb) / 2) + m) - 1 : Nat) : Int)), (24, .int .i64 (((((a + bb) / 2) + m) - i : Nat) : Int)), (151, .bool false), (185, .bool false), (199, .bool false), (213, .bool true)]) (by kernel_rfl) ?_
                refine WQ.thenN ?_
                refine WE.condT (by kernel_rfl) ?_
                -- R44 zsortanyfunc.go:456
                refine WE.region ?_
                refine WO.run 5 0 [(218, .func (.func 50) #[] #[]), (217, .int .i64 (bb : Int)), (216, .int .i64 (((((a + bb) / 2) + m) - i : Nat) : Int)), (215, .int .i64 (((a + bb) / 2 : Nat) : Int)), (214, .slice (some ⟨b, 0, none⟩) n cap)] (by kernel_rfl) (by kernel_rfl) ?_
                refine WO.call (SQ.E 5 (by kernel_rfl)) 219 (by kernel_rfl) (ih (bb - ((a + bb) / 2)) (by omega) b n cap ((a + bb) / 2) ((((a + bb) / 2) + m) - i) bb q _ rfl HR hn hall2 hm (by omega) (by omega) (by omega) k3' k4') ?_
                rintro _ w44 ⟨p3, rfl, hP3, hS3, HR46, F45⟩
                refine ⟨_, rfl, trivial, ?_⟩
                have HA := Fr.step HA F45 (inSL (by simp) inS0)
                refine WO.done (by kernel_rfl) ?_
                refine WQ.keep [0, 1, 2, 3, 4, 18, 19, 20, 21, 22, 24, 151, 185, 199, 213] (e' := [(0, .slice (some ⟨b, 0, none⟩) n cap), (1, .int .i64 (a : Int)), (2, .int .i64 (m : Int)), (3, .int .i64 (bb : Int)), (4, .func (.func 50) #[] #[]), (18, .int .i64 (((a + bb) / 2 : Nat) : Int)), (19, .int .i64 ((((a + bb) / 2) + m : Nat) : Int)), (20, .int .i64 (i : Int)), (21, .int .i64 (j : Int)), (22, .int .i64 (((((a + bb) / 2) + m) - 1 : Nat) : Int)), (24, .int .i64 (((((a + bb) / 2) + m) - i : Nat) : Int)), (151, .bool false), (185, .bool false), (199, .bool false), (213, .bool true)]) (by kernel_rfl) ?_
                refine WQ.fall (v := .tuple #[]) (by kernel_rfl) ?_
                obtain ⟨t1, t2⟩ := final_srt (q := q) (p1 := q) (p2 := q) (p3 := p3) (by omega) (by omega) (by omega) hP1 hP2 hP3 hS2 hS3 kx
                exact ⟨p3, rfl, t1, t2, HR46, HA⟩
              · intro h43
                refine WO.run 1 7 [(213, .bool false)] (by kernel_rfl) (by kernel_rfl) ?_
                refine WO.done (by kernel_rfl) ?_
                refine WQ.keep [0, 1, 2, 3, 4, 18, 19, 20, 21, 22, 24, 151, 185, 199, 213] (e' := [(0, .slice (some ⟨b, 0, none⟩) n cap), (1, .int .i64 (a : Int)), (2, .int .i64 (m : Int)), (3, .int .i64 (bb : Int)), (4, .func (.func 50) #[] #[]), (18, .int .i64 (((a + bb) / 2 : Nat) : Int)), (19, .int .i64 ((((a + bb) / 2) + m : Nat) : Int)), (20, .int .i64 (i : Int)), (21, .int .i64 (j : Int)), (22, .int .i64 (((((a + bb) / 2) + m) - 1 : Nat) : Int)), (24, .int .i64 (((((a + bb) / 2) + m) - i : Nat) : Int)), (151, .bool false), (185, .bool false), (199, .bool false), (213, .bool false)]) (by kernel_rfl) ?_
                refine WQ.thenN ?_
                refine WE.condF (by kernel_rfl) ?_
                refine WE.skip ?_
                refine WQ.fall (v := .tuple #[]) (by kernel_rfl) ?_
                have hP3 := PIn.refl ((a + bb) / 2) bb q
                have hS3 : Srt (rk q) ((a + bb) / 2) bb := srt_side k3' k4' (by omega)
                obtain ⟨t1, t2⟩ := final_srt (q := q) (p1 := q) (p2 := q) (p3 := q) (by omega) (by omega) (by omega) hP1 hP2 hP3 hS2 hS3 kx
                exact ⟨q, rfl, t1, t2, HR, HA⟩
            · intro h42
              refine WO.run 5 3 [(213, .bool false), (212, undef), (211, undef), (210, undef), (209, .bool false)] (by kernel_rfl) (by kernel_rfl) ?_
              refine WO.done (by kernel_rfl) ?_
              refine WQ.keep [0, 1, 2, 3, 4, 18, 19, 20, 21, 22, 24, 151, 185, 199, 213] (e' := [(0, .slice (some ⟨b, 0, none⟩) n cap), (1, .int .i64 (a : Int)), (2, .int .i64 (m : Int)), (3, .int .i64 (bb : Int)), (4, .func (.func 50) #[] #[]), (18, .int .i64 (((a + bb) / 2 : Nat) : Int)), (19, .int .i64 ((((a + bb) / 2) + m : Nat) : Int)), (20, .int .i64 (i : Int)), (21, .int .i64 (j : Int)), (22, .int .i64 (((((a + bb) / 2) + m) - 1 : Nat) : Int)), (24, .int .i64 (((((a + bb) / 2) + m) - i : Nat) : Int)), (151, .bool false), (185, .bool false), (199, .bool false), (213, .bool false)]) (by kernel_rfl) ?_
              refine WQ.thenN ?_
              refine WE.condF (by kernel_rfl) ?_
              refine WE.skip ?_
              refine WQ.fall (v := .tuple #[]) (by kernel_rfl) ?_
              have hP3 := PIn.refl ((a + bb) / 2) bb q
              have hS3 : Srt (rk q) ((a + bb) / 2) bb := srt_side k3' k4' (by omega)
              obtain ⟨t1, t2⟩ := final_srt (q := q) (p1 := q) (p2 := q) (p3 := q) (by omega) (by omega) (by omega) hP1 hP2 hP3 hS2 hS3 kx
              exact ⟨q, rfl, t1, t2, HR, HA⟩
        · intro h32
          refine WO.run 5 3 [(199, .bool false), (198, undef), (197, undef), (196, undef), (195, .bool false)] (by kernel_rfl) (by kernel_rfl) ?_
          refine WO.done (by kernel_rfl) ?_
          refine WQ.keep [0, 1, 2, 3, 4, 18, 19, 20, 21, 22, 24, 151, 185, 199] (e' := [(0, .slice (some ⟨b, 0, none⟩) n cap), (1, .int .i64 (a : Int)), (2, .int .i64 (m : Int)), (3, .int .i64 (bb : Int)), (4, .func (.func 50) #[] #[]), (18, .int .i64 (((a + bb) / 2 : Nat) : Int)), (19, .int .i64 ((((a + bb) / 2) + m : Nat) : Int)), (20, .int .i64 (i : Int)), (21, .int .i64 (j : Int)), (22, .int .i64 (((((a + bb) / 2) + m) - 1 : Nat) : Int)), (24, .int .i64 (((((a + bb) / 2) + m) - i : Nat) : Int)), (151, .bool false), (185, .bool false), (199, .bool false)]) (by kernel_rfl) ?_
          refine WQ.thenN ?_
          refine WE.condF (by kernel_rfl) ?_
          refine WE.skip ?_
          refine WQ.thenN ?_
          refine WE.seq ?_
          have hP2 := PIn.refl a ((a + bb) / 2) q
          have hS2 : Srt (rk q) a ((a + bb) / 2) := srt_side k1 k2 (by omega)
          have k3' : Srt (rk q) ((a + bb) / 2) (((a + bb) / 2) + m - i) := srt_out k3 hP2 (Nat.le_refl _)
          have k4' : Srt (rk q) (((a + bb) / 2) + m - i) bb := srt_out k4 hP2 (by omega)
          have hall2 := hP2.allB hall1
          -- R43 zsortanyfunc.go:455
          refine WE.region ?_
          refine WO.run 2 0 [(207, .int .i64 (((((a + bb) / 2) + m) - i : Nat) : Int)), (206, .int .i64 (((a + bb) / 2 : Nat) : Int))] (by kernel_rfl) (by kernel_rfl) ?_
          refine WO.one (SQ.F 2 (by kernel_rfl)) 208 (.bool (decide (((((a + bb) / 2 : Nat) : Int) : Int) < (((((a + bb) / 2) + m) - i : Nat) : Int)))) (by kernel_rfl) ?_
          refine WO.topP (((((a + bb) / 2 : Nat) : Int) : Int) < (((((a + bb) / 2) + m) - i : Nat) : Int)) ?_ ?_
          · intro h47
            refine WO.run 3 3 [(211, .int .i64 (bb : Int)), (210, .int .i64 (((((a + bb) / 2) + m) - i : Nat) : Int)), (209, .bool true)] (by kernel_rfl) (by kernel_rfl) ?_
            refine WO.one (SQ.F 6 (by kernel_rfl)) 212 (.bool (decide (((((((a + bb) / 2) + m) - i : Nat) : Int) : Int) < (bb : Int)))) (by kernel_rfl) ?_
            refine WO.topP (((((((a + bb) / 2) + m) - i : Nat) : Int) : Int) < (bb : Int)) ?_ ?_
            · intro h48
              refine WO.run 1 7 [(213, .bool true)] (by kernel_rfl) (by kernel_rfl) ?_
              refine WO.done (by kernel_rfl) ?_
              refine WQ.keep [0, 1, 2, 3, 4, 18, 19, 20, 21, 22, 24, 151, 185, 199, 213] (e' := [(0, .slice (some ⟨b, 0, none⟩) n cap), (1, .int .i64 (a : Int)), (2, .int .i64 (m : Int)), (3, .int .i64 (bb : Int)), (4, .func (.func 50) #[] #[]), (18, .int .i64 (((a + bb) / 2 : Nat) : Int)), (19, .int .i64 ((((a + bb) / 2) + m : Nat) : Int)), (20, .int .i64 (i : Int)), (21, .int .i64 (j : Int)), (22, .int .i64 (((((a + bb) / 2) + m) - 1 : Nat) : Int)), (24, .int .i64 (((((a + bb) / 2) + m) - i : Nat) : Int)), (151, .bool false), (185, .bool false), (199, .bool false), (213, .bool true)]) (by kernel_rfl) ?_
              refine WQ.thenN ?_
              refine WE.condT (by kernel_rfl) ?_
              -- R44 zsortanyfunc.go:456
              refine WE.region ?_
              refine WO.run 5 0 [(218, .func (.func 50) #[] #[]), (217, .int .i64 (bb : Int)), (216, .int .i64 (((((a + bb) / 2) + m) - i : Nat) : Int)), (215, .int .i64 (((a + bb) / 2 : Nat) : Int)), (214, .slice (some ⟨b, 0, none⟩) n cap)] (by kernel_rfl) (by kernel_rfl) ?_
              refine WO.call (SQ.E 5 (by kernel_rfl)) 219 (by kernel_rfl) (ih (bb - ((a + bb) / 2)) (by omega) b n cap ((a + bb) / 2) ((((a + bb) / 2) + m) - i) bb q _ rfl HR hn hall2 hm (by omega) (by omega) (by omega) k3' k4') ?_
              rintro _ w49 ⟨p3, rfl, hP3, hS3, HR51, F50⟩
              refine ⟨_, rfl, trivial, ?_⟩
              have HA := Fr.step HA F50 (inSL (by simp) inS0)
              refine WO.done (by kernel_rfl) ?_
              refine WQ.keep [0, 1, 2, 3, 4, 18, 19, 20, 21, 22, 24, 151, 185, 199, 213] (e' := [(0, .slice (some ⟨b, 0, none⟩) n cap), (1, .int .i64 (a : Int)), (2, .int .i64 (m : Int)), (3, .int .i64 (bb : Int)), (4, .func (.func 50) #[] #[]), (18, .int .i64 (((a + bb) / 2 : Nat) : Int)), (19, .int .i64 ((((a + bb) / 2) + m : Nat) : Int)), (20, .int .i64 (i : Int)), (21, .int .i64 (j : Int)), (22, .int .i64 (((((a + bb) / 2) + m) - 1 : Nat) : Int)), (24, .int .i64 (((((a + bb) / 2) + m) - i : Nat) : Int)), (151, .bool false), (185, .bool false), (199, .bool false), (213, .bool true)]) (by kernel_rfl) ?_
              refine WQ.fall (v := .tuple #[]) (by kernel_rfl) ?_
              obtain ⟨t1, t2⟩ := final_srt (q := q) (p1 := q) (p2 := q) (p3 := p3) (by omega) (by omega) (by omega) hP1 hP2 hP3 hS2 hS3 kx
              exact ⟨p3, rfl, t1, t2, HR51, HA⟩
            · intro h48
              refine WO.run 1 7 [(213, .bool false)] (by kernel_rfl) (by kernel_rfl) ?_
              refine WO.done (by kernel_rfl) ?_
              refine WQ.keep [0, 1, 2, 3, 4, 18, 19, 20, 21, 22, 24, 151, 185, 199, 213] (e' := [(0, .slice (some ⟨b, 0, none⟩) n cap), (1, .int .i64 (a : Int)), (2, .int .i64 (m : Int)), (3, .int .i64 (bb : Int)), (4, .func (.func 50) #[] #[]), (18, .int .i64 (((a + bb) / 2 : Nat) : Int)), (19, .int .i64 ((((a + bb) / 2) + m : Nat) : Int)), (20, .int .i64 (i : Int)), (21, .int .i64 (j : Int)), (22, .int .i64 (((((a + bb) / 2) + m) - 1 : Nat) : Int)), (24, .int .i64 (((((a + bb) / 2) + m) - i : Nat) : Int)), (151, .bool false), (185, .bool false), (199, .bool false), (213, .bool false)]) (by kernel_rfl) ?_
              refine WQ.thenN ?_
              refine WE.condF (by kernel_rfl) ?_
              refine WE.skip ?_
              refine WQ.fall (v := .tuple #[]) (by kernel_rfl) ?_
              have hP3 := PIn.refl ((a + bb) / 2) bb q
              have hS3 : Srt (rk q) ((a + bb) / 2) bb := srt_side k3' k4' (by omega)
              obtain ⟨t1, t2⟩ := final_srt (q := q) (p1 := q) (p2 := q) (p3 := q) (by omega) (by omega) (by omega) hP1 hP2 hP3 hS2 hS3 kx
              exact ⟨q, rfl, t1, t2, HR, HA⟩
          · intro h47
            refine WO.run 5 3 [(213, .bool false), (212, undef), (211, undef), (210, undef), (209, .bool false)] (by kernel_rfl) (by kernel_rfl) ?_
            refine WO.done (by kernel_rfl) ?_
            refine WQ.keep [0, 1, 2, 3, 4, 18, 19, 20, 21, 22, 24, 151, 185, 199, 213] (e' := [(0, .slice (some ⟨b, 0, none⟩) n cap), (1, .int .i64 (a : Int)), (2, .int .i64 (m : Int)), (3, .int .i64 (bb : Int)), (4, .func (.func 50) #[] #[]), (18, .int .i64 (((a + bb) / 2 : Nat) : Int)), (19, .int .i64 ((((a + bb) / 2) + m : Nat) : Int)), (20, .int .i64 (i : Int)), (21, .int .i64 (j : Int)), (22, .int .i64 (((((a + bb) / 2) + m) - 1 : Nat) : Int)), (24, .int .i64 (((((a + bb) / 2) + m) - i : Nat) : Int)), (151, .bool false), (185, .bool false), (199, .bool false), (213, .bool false)]) (by kernel_rfl) ?_
            refine WQ.thenN ?_
            refine WE.condF (by kernel_rfl) ?_
            refine WE.skip ?_
            refine WQ.fall (v := .tuple #[]) (by kernel_rfl) ?_
            have hP3 := PIn.refl ((a + bb) / 2) bb q
            have hS3 : Srt (rk q) ((a + bb) / 2) bb := srt_side k3' k4' (by omega)
            obtain ⟨t1, t2⟩ := final_srt (q := q) (p1 := q) (p2 := q) (p3 := q) (by omega) (by omega) (by omega) hP1 hP2 hP3 hS2 hS3 kx
            exact ⟨q, rfl, t1, t2, HR, HA⟩
    · intro h7
      refine WO.run 5 3 [(185, .bool false), (184, undef), (183, undef), (182, undef), (181, .bool false)] (by kernel_rfl) (by kernel_rfl) ?_
      refine WO.done (by kernel_rfl) ?_
      refine WQ.keep [0, 1, 2, 3, 4, 18, 19, 20, 21, 22, 24, 151, 185] (e' := [(0, .slice (some ⟨b, 0, none⟩) n cap), (1, .int .i64 (a : Int)), (2, .int .i64 (m : Int)), (3, .int .i64 (bb : Int)), (4, .func (.func 50) #[] #[]), (18, .int .i64 (((a + bb) / 2 : Nat) : Int)), (19, .int .i64 ((((a + bb) / 2) + m : Nat) : Int)), (20, .int .i64 (i : Int)), (21, .int .i64 (j : Int)), (22, .int .i64 (((((a + bb) / 2) + m) - 1 : Nat) : Int)), (24, .int .i64 (((((a + bb) / 2) + m) - i : Nat) : Int)), (151, .bool false), (185, .bool false)]) (by kernel_rfl) ?_
      refine WQ.thenN ?_
      refine WE.condF (by kernel_rfl) ?_
      refine WE.skip ?_
      refine WQ.thenN ?_
      refine WE.seq ?_
      refine WE.seq ?_
      have e_ij : i = j := by omega
      have hB' : i < m → rk q (((a + bb) / 2) + m - 1 - i) < rk q i := fun h_ => by rw [e_ij]; exact hB (by omega)
      have hf1 : ∀ x, g0 q x = rotF (g0 q) i m (((a + bb) / 2) + m - i) x := fun x => (rot_triv (by omega)).symm
      obtain ⟨hP1, k1, k2, k3, k4, kx⟩ := mid_facts (q := q) (p := q) (a := a) (m := m) (bb := bb) (s := i) (e := ((a + bb) / 2) + m - i) (mid := ((a + bb) / 2)) hs1 hs2 (by omega) (by omega) (by omega) (by omega) (by omega) (by omega) (by omega) (by omega) (hn.trans hn.symm) hf1 (.refl _) (fun x y => hA (by omega)) (fun x y => by rw [show ((a + bb) / 2) + m - i - 1 = ((a + bb) / 2) + m - 1 - i by omega]; exact Nat.le_of_lt (hB' (by omega)))
      have hall1 := hP1.allB hall
      -- R41 zsortanyfunc.go:452
      refine WE.region ?_
      refine WO.run 2 0 [(193, .int .i64 (i : Int)), (192, .int .i64 (a : Int))] (by kernel_rfl) (by kernel_rfl) ?_
      refine WO.one (SQ.F 2 (by kernel_rfl)) 194 (.bool (decide (((a : Int) : Int) < (i : Int)))) (by kernel_rfl) ?_
      refine WO.topP (((a : Int) : Int) < (i : Int)) ?_ ?_
      · intro h52
        refine WO.run 3 3 [(197, .int .i64 (((a + bb) / 2 : Nat) : Int)), (196, .int .i64 (i : Int)), (195, .bool true)] (by kernel_rfl) (by kernel_rfl) ?_
        refine WO.one (SQ.F 6 (by kernel_rfl)) 198 (.bool (decide (((i : Int) : Int) < (((a + bb) / 2 : Nat) : Int)))) (by kernel_rfl) ?_
        refine WO.topP (((i : Int) : Int) < (((a + bb) / 2 : Nat) : Int)) ?_ ?_
        · intro h53
          refine WO.run 1 7 [(199, .bool true)] (by kernel_rfl) (by kernel_rfl) ?_
          refine WO.done (by kernel_rfl) ?_
          refine WQ.keep [0, 1, 2, 3, 4, 18, 19, 20, 21, 22, 24, 151, 185, 199] (e' := [(0, .slice (some ⟨b, 0, none⟩) n cap), (1, .int .i64 (a : Int)), (2, .int .i64 (m : Int)), (3, .int .i64 (bb : Int)), (4, .func (.func 50) #[] #[]), (18, .int .i64 (((a + bb) / 2 : Nat) : Int)), (19, .int .i64 ((((a + bb) / 2) + m : Nat) : Int)), (20, .int .i64 (i : Int)), (21, .int .i64 (j : Int)), (22, .int .i64 (((((a + bb) / 2) + m) - 1 : Nat) : Int)), (24, .int .i64 (((((a + bb) / 2) + m) - i : Nat) : Int)), (151, .bool false), (185, .bool false), (199, .bool true)]) (by kernel_rfl) ?_
          refine WQ.thenN ?_
          refine WE.condT (by kernel_rfl) ?_
          -- R42 zsortanyfunc.go:453
          refine WE.region ?_
          refine WO.run 5 0 [(204, .func (.func 50) #[] #[]), (203, .int .i64 (((a + bb) / 2 : Nat) : Int)), (202, .int .i64 (i : Int)), (201, .int .i64 (a : Int)), (200, .slice (some ⟨b, 0, none⟩) n cap)] (by kernel_rfl) (by kernel_rfl) ?_
          refine WO.call (SQ.E 5 (by kernel_rfl)) 205 (by kernel_rfl) (ih (((a + bb) / 2) - a) (by omega) b n cap a i ((a + bb) / 2) q _ rfl HR hn hall1 hm (by omega) (by omega) (by omega) k1 k2) ?_
          rintro _ w54 ⟨p2, rfl, hP2, hS2, HR56, F55⟩
          refine ⟨_, rfl, trivial, ?_⟩
          have HA := Fr.step HA F55 (inSL (by simp) inS0)
          refine WO.done (by kernel_rfl) ?_
          refine WQ.keep [0, 1, 2, 3, 4, 18, 19, 20, 21, 22, 24, 151, 185, 199] (e' := [(0, .slice (some ⟨b, 0, none⟩) n cap), (1, .int .i64 (a : Int)), (2, .int .i64 (m : Int)), (3, .int .i64 (bb : Int)), (4, .func (.func 50) #[] #[]), (18, .int .i64 (((a + bb) / 2 : Nat) : Int)), (19, .int .i64 ((((a + bb) / 2) + m : Nat) : Int)), (20, .int .i64 (i : Int)), (21, .int .i64 (j : Int)), (22, .int .i64 (((((a + bb) / 2) + m) - 1 : Nat) : Int)), (24, .int .i64 (((((a + bb) / 2) + m) - i : Nat) : Int)), (151, .bool false), (185, .bool false), (199, .bool true)]) (by kernel_rfl) ?_
          refine WQ.thenN ?_
          refine WE.seq ?_
          have k3' : Srt (rk p2) ((a + bb) / 2) (((a + bb) / 2) + m - i) := srt_out k3 hP2 (Nat.le_refl _)
          have k4' : Srt (rk p2) (((a + bb) / 2) + m - i) bb := srt_out k4 hP2 (by omega)
          have hall2 := hP2.allB hall1
          -- R43 zsortanyfunc.go:455
          refine WE.region ?_
          refine WO.run 2 0 [(207, .int .i64 (((((a + bb) / 2) + m) - i : Nat) : Int)), (206, .int .i64 (((a + bb) / 2 : Nat) : Int))] (by kernel_rfl) (by kernel_rfl) ?_
          refine WO.one (SQ.F 2 (by kernel_rfl)) 208 (.bool (decide (((((a + bb) / 2 : Nat) : Int) : Int) < (((((a + bb) / 2) + m) - i : Nat) : Int)))) (by kernel_rfl) ?_
          refine WO.topP (((((a + bb) / 2 : Nat) : Int) : Int) < (((((a + bb) / 2) + m) - i : Nat) : Int)) ?_ ?_
          · intro h57
            refine WO.run 3 3 [(211, .int .i64 (bb : Int)), (210, .int .i64 (((((a + bb) / 2) + m) - i : Nat) : Int)), (209, .bool true)] (by kernel_rfl) (by kernel_rfl) ?_
            refine WO.one (SQ.F 6 (by kernel_rfl)) 212 (.bool (decide (((((((a + bb) / 2) + m) - i : Nat) : Int) : Int) < (bb : Int)))) (by kernel_rfl) ?_
            refine WO.topP (((((((a + bb) / 2) + m) - i : Nat) : Int) : Int) < (bb : Int)) ?_ ?_
            · intro h58
              refine WO.run 1 7 [(213, .bool true)] (by kernel_rfl) (by kernel_rfl) ?_
              refine WO.done (by kernel_rfl) ?_
              refine WQ.keep [0, 1, 2, 3, 4, 18, 19, 20, 21, 22, 24, 151, 185, 199, 213] (e' := [(0, .slice (some ⟨b, 0, none⟩) n cap), (1, .int .i64 (a : Int)), (2, .int .i64 (m : Int)), (3, .int .i64 (bb : Int)), (4, .func (.func 50) #[] #[]), (18, .int .i64 (((a + bb) / 2 : Nat) : Int)), (19, .int .i64 ((((a + bb) / 2) + m : Nat) : Int)), (20, .int .i64 (i : Int)), (21, .int .i64 (j : Int)), (22, .int .i64 (((((a + bb) / 2) + m) - 1 : Nat) : Int)), (24, .int .i64 (((((a + bb) / 2) + m) - i : Nat) : Int)), (151, .bool false), (185, .bool false), (199, .bool true), (213, .bool true)]) (by kernel_rfl) ?_
              refine WQ.thenN ?_
              refine WE.condT (by kernel_rfl) ?_
              -- R44 zsortanyfunc.go:456
              refine WE.region ?_
              refine WO.run 5 0 [(218, .func (.func 50) #[] #[]), (217, .int .i64 (bb : Int)), (216, .int .i64 (((((a + bb) / 2) + m) - i : Nat) : Int)), (215, .int .i64 (((a + bb) / 2 : Nat) : Int)), (214, .slice (some ⟨b, 0, none⟩) n cap)] (by kernel_rfl) (by kernel_rfl) ?_
              refine WO.call (SQ.E 5 (by kernel_rfl)) 219 (by kernel_rfl) (ih (bb - ((a + bb) / 2)) (by omega) b n cap ((a + bb) / 2) ((((a + bb) / 2) + m) - i) bb p2 _ rfl HR56 (hP2.len.trans (hn)) hall2 hm (by omega) (by omega) (by omega) k3' k4') ?_
              rintro _ w59 ⟨p3, rfl, hP3, hS3, HR61, F60⟩
              refine ⟨_, rfl, trivial, ?_⟩
              have HA := Fr.step HA F60 (inSL (by simp) inS0)
              refine WO.done (by kernel_rfl) ?_
              refine WQ.keep [0, 1, 2, 3, 4, 18, 19, 20, 21, 22, 24, 151, 185, 199, 213] (e' := [(0, .slice (some ⟨b, 0, none⟩) n cap), (1, .int .i64 (a : Int)), (2, .int .i64 (m : Int)), (3, .int .i64 (bb : Int)), (4, .func (.func 50) #[] #[]), (18, .int .i64 (((a + bb) / 2 : Nat) : Int)), (19, .int .i64 ((((a + bb) / 2) + m : Nat) : Int)), (20, .int .i64 (i : Int)), (21, .int .i64 (j : Int)), (22, .int .i64 (((((a + bb) / 2) + m) - 1 : Nat) : Int)), (24, .int .i64 (((((a + bb) / 2) + m) - i : Nat) : Int)), (151, .bool false), (185, .bool false), (199, .bool true), (213, .bool true)]) (by kernel_rfl) ?_
              refine WQ.fall (v := .tuple #[]) (by kernel_rfl) ?_
              obtain ⟨t1, t2⟩ := final_srt (q := q) (p1 := q) (p2 := p2) (p3 := p3) (by omega) (by omega) (by omega) hP1 hP2 hP3 hS2 hS3 kx
              exact ⟨p3, rfl, t1, t2, HR61, HA⟩
            · intro h58
              refine WO.run 1 7 [(213, .bool false)] (by kernel_rfl) (by kernel_rfl) ?_
              refine WO.done (by kernel_rfl) ?_
              refine WQ.keep [0, 1, 2, 3, 4, 18, 19, 20, 21, 22, 24, 151, 185, 199, 213] (e' := [(0, .slice (some ⟨b, 0, none⟩) n cap), (1, .int .i64 (a : Int)), (2, .int .i64 (m : Int)), (3, .int .i64 (bb : Int)), (4, .func (.func 50) #[] #[]), (18, .int .i64 (((a + bb) / 2 : Nat) : Int)), (19, .int .i64 ((((a + bb) / 2) + m : Nat) : Int)), (20, .int .i64 (i : Int)), (21, .int .i64 (j : Int)), (22, .int .i64 (((((a + bb) / 2) + m) - 1 : Nat) : Int)), (24, .int .i64 (((((a + bb) / 2) + m) - i : Nat) : Int)), (151, .bool false), (185, .bool false), (199, .bool true), (213, .bool false)]) (by kernel_rfl) ?_
              refine WQ.thenN ?_
              refine WE.condF (by kernel_rfl) ?_
              refine WE.skip ?_
              refine WQ.fall (v := .tuple #[]) (by kernel_rfl) ?_
              have hP3 := PIn.refl ((a + bb) / 2) bb p2
              have hS3 : Srt (rk p2) ((a + bb) / 2) bb := srt_side k3' k4' (by omega)
              obtain ⟨t1, t2⟩ := final_srt (q := q) (p1 := q) (p2 := p2) (p3 := p2) (by omega) (by omega) (by omega) hP1 hP2 hP3 hS2 hS3 kx
              exact ⟨p2, rfl, t1, t2, HR56, HA⟩
          · intro h57
            refine WO.run 5 3 [(213, .bool false), (212, undef), (211, undef), (210, undef), (209, .bool false)] (by kernel_rfl) (by kernel_rfl) ?_
            refine WO.done (by kernel_rfl) ?_
            refine WQ.keep [0, 1, 2, 3, 4, 18, 19, 20, 21, 22, 24, 151, 185, 199, 213] (e' := [(0, .slice (some ⟨b, 0, none⟩) n cap), (1, .int .i64 (a : Int)), (2, .int .i64 (m : Int)), (3, .int .i64 (bb : Int)), (4, .func (.func 50) #[] #[]), (18, .int .i64 (((a + bb) / 2 : Nat) : Int)), (19, .int .i64 ((((a + bb) / 2) + m : Nat) : Int)), (20, .int .i64 (i : Int)), (21, .int .i64 (j : Int)), (22, .int .i64 (((((a + bb) / 2) + m) - 1 : Nat) : Int)), (24, .int .i64 (((((a + bb) / 2) + m) - i : Nat) : Int)), (151, .bool false), (185, .bool false), (199, .bool true), (213, .bool false)]) (by kernel_rfl) ?_
            refine WQ.thenN ?_
            refine WE.condF (by kernel_rfl) ?_
            refine WE.skip ?_
            refine WQ.fall (v := .tuple #[]) (by kernel_rfl) ?_
            have hP3 := PIn.refl ((a + bb) / 2) bb p2
            have hS3 : Srt (rk p2) ((a + bb) / 2) bb := srt_side k3' k4' (by omega)
            obtain ⟨t1, t2⟩ := final_srt (q := q) (p1 := q) (p2 := p2) (p3 := p2) (by omega) (by omega) (by omega) hP1 hP2 hP3 hS2 hS3 kx
            exact ⟨p2, rfl, t1, t2, HR56, HA⟩
        · intro h53
          refine WO.run 1 7 [(199, .bool false)] (by kernel_rfl) (by kernel_rfl) ?_
          refine WO.done (by kernel_rfl) ?_
          refine WQ.keep [0, 1, 2, 3, 4, 18, 19, 20, 21, 22, 24, 151, 185, 199] (e' := [(0, .slice (some ⟨b, 0, none⟩) n cap), (1, .int .i64 (a : Int)), (2, .int .i64 (m : Int)), (3, .int .i64 (bb : Int)), (4, .func (.func 50) #[] #[]), (18, .int .i64 (((a + bb) / 2 : Nat) : Int)), (19, .int .i64 ((((a + bb) / 2) + m : Nat) : Int)), (20, .int .i64 (i : Int)), (21, .int .i64 (j : Int)), (22, .int .i64 (((((a + bb) / 2) + m) - 1 : Nat) : Int)), (24, .int .i64 (((((a + bb) / 2) + m) - i : Nat) : Int)), (151, .bool false), (185, .bool false), (199, .bool false)]) (by kernel_rfl) ?_
          refine WQ.thenN ?_
          refine WE.condF (by kernel_rfl) ?_
          refine WE.skip ?_
          refine WQ.thenN ?_
          refine WE.seq ?_
          have hP2 := PIn.refl a ((a + bb) / 2) q
          have hS2 : Srt (rk q) a ((a + bb) / 2) := srt_side k1 k2 (by omega)
          have k3' : Srt (rk q) ((a + bb) / 2) (((a + bb) / 2) + m - i) := srt_out k3 hP2 (Nat.le_refl _)
          have k4' : Srt (rk q) (((a + bb) / 2) + m - i) bb := srt_out k4 hP2 (by omega)
          have hall2 := hP2.allB hall1
          -- R43 zsortanyfunc.go:455
          refine WE.region ?_
          refine WO.run 2 0 [(207, .int .i64 (((((a + bb) / 2) + m) - i : Nat) : Int)), (206, .int .i64 (((a + bb) / 2 : Nat) : Int))] (by kernel_rfl) (by kernel_rfl) ?_
          refine WO.one (SQ.F 2 (by kernel_rfl)) 208 (.bool (decide (((((a + bb) / 2 : Nat) : Int) : Int) < (((((a + bb) / 2) + m) - i : Nat) : Int)))) (by kernel_rfl) ?_
          refine WO.topP (((((a + bb) / 2 : Nat) : Int) : Int) < (((((a + bb) / 2) + m) - i : Nat) : Int)) ?_ ?_
          · intro h62
            refine WO.run 3 3 [(211, .int .i64 (bb : Int)), (210, .int .i64 (((((a + bb) / 2) + m) - i : Nat) : Int)), (209, .bool true)] (by kernel_rfl) (by kernel_rfl) ?_
            refine WO.one (SQ.F 6 (by kernel_rfl)) 212 (.bool (decide (((((((a + bb) / 2) + m) - i : Nat) : Int) : Int) < (bb : Int)))) (by kernel_rfl) ?_
            refine WO.topP (((((((a + bb) / 2) + m) - i : Nat) : Int) : Int) < (bb : Int)) ?_ ?_
            · intro h63
              refine WO.run 1 7 [(213, .bool true)] (by kernel_rfl) (by kernel_rfl) ?_
              refine WO.done (by kernel_rfl) ?_
              refine WQ.keep [0, 1, 2, 3, 4, 18, 19, 20, 21, 22, 24, 151, 185, 199, 213] (e' := [(0, .slice (some ⟨b, 0, none⟩) n cap), (1, .int .i64 (a : Int)), (2, .int .i64 (m : Int)), (3, .int .i64 (bb : Int)), (4, .func (.func 50) #[] #[]), (18, .int .i64 (((a + bb) / 2 : Nat) : Int)), (19, .int .i64 ((((a + bb) / 2) + m : Nat) : Int)), (20, .int .i64 (i : Int)), (21, .int .i64 (j : Int)), (22, .int .i64 (((((a + bb) / 2) + m) - 1 : Nat) : Int)), (24, .int .i64 (((((a + bb) / 2) + m) - i : Nat) : Int)), (151, .bool false), (185, .bool false), (199, .bool false), (213, .bool true)]) (by kernel_rfl) ?_
              refine WQ.thenN ?_
              refine WE.condT (by kernel_rfl) ?_
              -- R44 zsortanyfunc.go:456
              refine WE.region ?_
              refine WO.run 5 0 [(218, .func (.func 50) #[] #[]), (217, .int .i64 (bb : Int)), (216, .int .i64 (((((a + bb) / 2) + m) - i : Nat) : Int)), (215, .int .i64 (((a + bb) / 2 : Nat) : Int)), (214, .slice (some ⟨b, 0, none⟩) n cap)] (by kernel_rfl) (by kernel_rfl) ?_
              refine WO.call (SQ.E 5 (by kernel_rfl)) 219 (by kernel_rfl) (ih (bb - ((a + bb) / 2)) (by omega) b n cap ((a + bb) / 2) ((((a + bb) / 2) + m) - i) bb q _ rfl HR hn hall2 hm (by omega) (by omega) (by omega) k3' k4') ?_
              rintro _ w64 ⟨p3, rfl, hP3, hS3, HR66, F65⟩
              refine ⟨_, rfl, trivial, ?_⟩
              have HA := Fr.step HA F65 (inSL (by simp) inS0)
              refine WO.done (by kernel_rfl) ?_
              refine WQ.keep [0, 1, 2, 3, 4, 18, 19, 20, 21, 22, 24, 151, 185, 199, 213] (e' := [(0, .slice (some ⟨b, 0, none⟩) n cap), (1, .int .i64 (a : Int)), (2, .int .i64 (m : Int)), (3, .int .i64 (bb : Int)), (4, .func (.func 50) #[] #[]), (18, .int .i64 (((a + bb) / 2 : Nat) : Int)), (19, .int .i64 ((((a + bb) / 2) + m : Nat) : Int)), (20, .int .i64 (i : Int)), (21, .int .i64 (j : Int)), (22, .int .i64 (((((a + bb) / 2) + m) - 1 : Nat) : Int)), (24, .int .i64 (((((a + bb) / 2) + m) - i : Nat) : Int)), (151, .bool false), (185, .bool false), (199, .bool false), (213, .bool true)]) (by kernel_rfl) ?_
              refine WQ.fall (v := .tuple #[]) (by kernel_rfl) ?_
              obtain ⟨t1, t2⟩ := final_srt (q := q) (p1 := q) (p2 := q) (p3 := p3) (by omega) (by omega) (by omega) hP1 hP2 hP3 hS2 hS3 kx
              exact ⟨p3, rfl, t1, t2, HR66, HA⟩
            · intro h63
              refine WO.run 1 7 [(213, .bool false)] (by kernel_rfl) (by kernel_rfl) ?_
              refine WO.done (by kernel_rfl) ?_
              refine WQ.keep [0, 1, 2, 3, 4, 18, 19, 20, 21, 22, 24, 151, 185, 199, 213] (e' := [(0, .slice (some ⟨b, 0, none⟩) n cap), (1, .int .i64 (a : Int)), (2, .int .i64 (m : Int)), (3, .int .i64 (bb : Int)), (4, .func (.func 50) #[] #[]), (18, .int .i64 (((a + bb) / 2 : Nat) : Int)), (19, .int .i64 ((((a + bb) / 2) + m : Nat) : Int)), (20, .int .i64 (i : Int)), (21, .int .i64 (j : Int)), (22, .int .i64 (((((a + bb) / 2) + m) - 1 : Nat) : Int)), (24, .int .i64 (((((a + bb) / 2) + m) - i : Nat) : Int)), (151, .bool false), (185, .bool false), (199, .bool false), (213, .bool false)]) (by kernel_rfl) ?_
              refine WQ.thenN ?_
              refine WE.condF (by kernel_rfl) ?_
              refine WE.skip ?_
              refine WQ.fall (v := .tuple #[]) (by kernel_rfl) ?_
              have hP3 := PIn.refl ((a + bb) / 2) bb q
              have hS3 : Srt (rk q) ((a + bb) / 2) bb := srt_side k3' k4' (by omega)
              obtain ⟨t1, t2⟩ := final_srt (q := q) (p1 := q) (p2 := q) (p3 := q) (by omega) (by omega) (by omega) hP1 hP2 hP3 hS2 hS3 kx
              exact ⟨q, rfl, t1, t2, HR, HA⟩
          · intro h62
            refine WO.run 5 3 [(213, .bool false), (212, undef), (211, undef), (210, undef), (209, .bool false)] (by kernel_rfl) (by kernel_rfl) ?_
            refine WO.done (by kernel_rfl) ?_
            refine WQ.keep [0, 1, 2, 3, 4, 18, 19, 20, 21, 22, 24, 151, 185, 199, 213] (e' := [(0, .slice (some ⟨b, 0, none⟩) n cap), (1, .int .i64 (a : Int)), (2, .int .i64 (m : Int)), (3, .int .i64 (bb : Int)), (4, .func (.func 50) #[] #[]), (18, .int .i64 (((a + bb) / 2 : Nat) : Int)), (19, .int .i64 ((((a + bb) / 2) + m : Nat) : Int)), (20, .int .i64 (i : Int)), (21, .int .i64 (j : Int)), (22, .int .i64 (((((a + bb) / 2) + m) - 1 : Nat) : Int)), (24, .int .i64 (((((a + bb) / 2) + m) - i : Nat) : Int)), (151, .bool false), (185, .bool false), (199, .bool false), (213, .bool false)]) (by kernel_rfl) ?_
            refine WQ.thenN ?_
            refine WE.condF (by kernel_rfl) ?_
            refine WE.skip ?_
            refine WQ.fall (v := .tuple #[]) (by kernel_rfl) ?_
            have hP3 := PIn.refl ((a + bb) / 2) bb q
            have hS3 : Srt (rk q) ((a + bb) / 2) bb := srt_side k3' k4' (by omega)
            obtain ⟨t1, t2⟩ := final_srt (q := q) (p1 := q) (p2 := q) (p3 := q) (by omega) (by omega) (by omega) hP1 hP2 hP3 hS2 hS3 kx
            exact ⟨q, rfl, t1, t2, HR, HA⟩
      · intro h52
        refine WO.run 5 3 [(199, .bool false), (198, undef), (197, undef), (196, undef), (195, .bool false)] (by kernel_rfl) (by kernel_rfl) ?_
        refine WO.done (by kernel_rfl) ?_
        refine WQ.keep [0, 1, 2, 3, 4, 18, 19, 20, 21, 22, 24, 151, 185, 199] (e' := [(0, .slice (some ⟨b, 0, none⟩) n cap), (1, .int .i64 (a : Int)), (2, .int .i64 (m : Int)), (3, .int .i64 (bb : Int)), (4, .func (.func 50) #[] #[]), (18, .int .i64 (((a + bb) / 2 : Nat) : Int)), (19, .int .i64 ((((a + bb) / 2) + m : Nat) : Int)), (20, .int .i64 (i : Int)), (21, .int .i64 (j : Int)), (22, .int .i64 (((((a + bb) / 2) + m) - 1 : Nat) : Int)), (24, .int .i64 (((((a + bb) / 2) + m) - i : Nat) : Int)), (151, .bool false), (185, .bool false), (199, .bool false)]) (by kernel_rfl) ?_
        refine WQ.thenN ?_
        refine WE.condF (by kernel_rfl) ?_
        refine WE.skip ?_
        refine WQ.thenN ?_
        refine WE.seq ?_
        have hP2 := PIn.refl a ((a + bb) / 2) q
        have hS2 : Srt (rk q) a ((a + bb) / 2) := srt_side k1 k2 (by omega)
        have k3' : Srt (rk q) ((a + bb) / 2) (((a + bb) / 2) + m - i) := srt_out k3 hP2 (Nat.le_refl _)
        have k4' : Srt (rk q) (((a + bb) / 2) + m - i) bb := srt_out k4 hP2 (by omega)
        have hall2 := hP2.allB hall1
        -- R43 zsortanyfunc.go:455
        refine WE.region ?_
        refine WO.run 2 0 [(207, .int .i64 (((((a + bb) / 2) + m) - i : Nat) : Int)), (206, .int .i64 (((a + bb) / 2 : Nat) : Int))] (by kernel_rfl) (by kernel_rfl) ?_
        refine WO.one (SQ.F 2 (by kernel_rfl)) 208 (.bool (decide (((((a + bb) / 2 : Nat) : Int) : Int) < (((((a + bb) / 2) + m) - i : Nat) : Int)))) (by kernel_rfl) ?_
        refine WO.topP (((((a + bb) / 2 : Nat) : Int) : Int) < (((((a + bb) / 2) + m) - i : Nat) : Int)) ?_ ?_
        · intro h67
          refine WO.run 3 3 [(211, .int .i64 (bb : Int)), (210, .int .i64 (((((a + bb) / 2) + m) - i : Nat) : Int)), (209, .bool true)] (by kernel_rfl) (by kernel_rfl) ?_
          refine WO.one (SQ.F 6 (by kernel_rfl)) 212 (.bool (decide (((((((a + bb) / 2) + m) - i : Nat) : Int) : Int) < (bb : Int)))) (by kernel_rfl) ?_
          refine WO.topP (((((((a + bb) / 2) + m) - i : Nat) : Int) : Int) < (bb : Int)) ?_ ?_
          · intro h68
            refine WO.run 1 7 [(213, .bool true)] (by kernel_rfl) (by kernel_rfl) ?_
            refine WO.done (by kernel_rfl) ?_
            refine WQ.keep [0, 1, 2, 3, 4, 18, 19, 20, 21, 22, 24, 151, 185, 199, 213] (e' := [(0, .slice (some ⟨b, 0, none⟩) n cap), (1, .int .i64 (a : Int)), (2, .int .i64 (m : Int)), (3, .int .i64 (bb : Int)), (4, .func (.func 50) #[] #[]), (18, .int .i64 (((a + bb) / 2 : Nat) : Int)), (19, .int .i64 ((((a + bb) / 2) + m : Nat) : Int)), (20, .int .i64 (i : Int)), (21, .int .i64 (j : Int)), (22, .int .i64 (((((a + bb) / 2) + m) - 1 : Nat) : Int)), (24, .int .i64 (((((a + bb) / 2) + m) - i : Nat) : Int)), (151, .bool false), (185, .bool false), (199, .bool false), (213, .bool true)]) (by kernel_rfl) ?_
            refine WQ.thenN ?_
            refine WE.condT (by kernel_rfl) ?_
            -- R44 zsortanyfunc.go:456
            refine WE.region ?_
            refine WO.run 5 0 [(218, .func (.func 50) #[] #[]), (217, .int .i64 (bb : Int)), (216, .int .i64 (((((a + bb) / 2) + m) - i : Nat) : Int)), (215, .int .i64 (((a + bb) / 2 : Nat) : Int)), (214, .slice (some ⟨b, 0, none⟩) n cap)] (by kernel_rfl) (by kernel_rfl) ?_
            refine WO.call (SQ.E 5 (by kernel_rfl)) 219 (by kernel_rfl) (ih (bb - ((a + bb) / 2)) (by omega) b n cap ((a + bb) / 2) ((((a + bb) / 2) + m) - i) bb q _ rfl HR hn hall2 hm (by omega) (by omega) (by omega) k3' k4') ?_
            rintro _ w69 ⟨p3, rfl, hP3, hS3, HR71, F70⟩
            refine ⟨_, rfl, trivial, ?_⟩
            have HA := Fr.step HA F70 (inSL (by simp) inS0)
            refine WO.done (by kernel_rfl) ?_
            refine WQ.keep [0, 1, 2, 3, 4, 18, 19, 20, 21, 22, 24, 151, 185, 199, 213] (e' := [(0, .slice (some ⟨b, 0, none⟩) n cap), (1, .int .i64 (a : Int)), (2, .int .i64 (m : Int)), (3, .int .i64 (bb : Int)), (4, .func (.func 50) #[] #[]), (18, .int .i64 (((a + bb) / 2 : Nat) : Int)), (19, .int .i64 ((((a + bb) / 2) + m : Nat) : Int)), (20, .int .i64 (i : Int)), (21, .int .i64 (j : Int)), (22, .int .i64 (((((a + bb) / 2) + m) - 1 : Nat) : Int)), (24, .int .i64 (((((a + bb) / 2) + m) - i : Nat) : Int)), (151, .bool false), (185, .bool false), (199, .bool false), (213, .bool true)]) (by kernel_rfl) ?_
            refine WQ.fall (v := .tuple #[]) (by kernel_rfl) ?_
            obtain ⟨t1, t2⟩ := final_srt (q := q) (p1 := q) (p2 := q) (p3 := p3) (by omega) (by omega) (by omega) hP1 hP2 hP3 hS2 hS3 kx
            exact ⟨p3, rfl, t1, t2, HR71, HA⟩
          · intro h68
            refine WO.run 1 7 [(213, .bool false)] (by kernel_rfl) (by kernel_rfl) ?_
            refine WO.done (by kernel_rfl) ?_
            refine WQ.keep [0, 1, 2, 3, 4, 18, 19, 20, 21, 22, 24, 151, 185, 199, 213] (e' := [(0, .slice (some ⟨b, 0, none⟩) n cap), (1, .int .i64 (a : Int)), (2, .int .i64 (m : Int)), (3, .int .i64 (bb : Int)), (4, .func (.func 50) #[] #[]), (18, .int .i64 (((a + bb) / 2 : Nat) : Int)), (19, .int .i64 ((((a + bb) / 2) + m : Nat) : Int)), (20, .int .i64 (i : Int)), (21, .int .i64 (j : Int)), (22, .int .i64 (((((a + bb) / 2) + m) - 1 : Nat) : Int)), (24, .int .i64 (((((a + bb) / 2) + m) - i : Nat) : Int)), (151, .bool false), (185, .bool false), (199, .bool false), (213, .bool false)]) (by kernel_rfl) ?_
            refine WQ.thenN ?_
            refine WE.condF (by kernel_rfl) ?_
            refine WE.skip ?_
            refine WQ.fall (v := .tuple #[]) (by kernel_rfl) ?_
            have hP3 := PIn.refl ((a + bb) / 2) bb q
            have hS3 : Srt (rk q) ((a + bb) / 2) bb := srt_side k3' k4' (by omega)
            obtain ⟨t1, t2⟩ := final_srt (q := q) (p1 := q) (p2 := q) (p3 := q) (by omega) (by omega) (by omega) hP1 hP2 hP3 hS2 hS3 kx
            exact ⟨q, rfl, t1, t2, HR, HA⟩
        · intro h67
          refine WO.run 5 3 [(213, .bool false), (212, undef), (211, undef), (210, undef), (209, .bool false)] (by kernel_rfl) (by kernel_rfl) ?_
          refine WO.done (by kernel_rfl) ?_
          refine WQ.keep [0, 1, 2, 3, 4, 18, 19, 20, 21, 22, 24, 151, 185, 199, 213] (e' := [(0, .slice (some ⟨b, 0, none⟩) n cap), (1, .int .i64 (a : Int)), (2, .int .i64 (m : Int)), (3, .int .i64 (bb : Int)), (4, .func (.func 50) #[] #[]), (18, .int .i64 (((a + bb) / 2 : Nat) : Int)), (19, .int .i64 ((((a + bb) / 2) + m : Nat) : Int)), (20, .int .i64 (i : Int)), (21, .int .i64 (j : Int)), (22, .int .i64 (((((a + bb) / 2) + m) - 1 : Nat) : Int)), (24, .int .i64 (((((a + bb) / 2) + m) - i : Nat) : Int)), (151, .bool false), (185, .bool false), (199, .bool false), (213, .bool false)]) (by kernel_rfl) ?_
          refine WQ.thenN ?_
          refine WE.condF (by kernel_rfl) ?_
          refine WE.skip ?_
          refine WQ.fall (v := .tuple #[]) (by kernel_rfl) ?_
          have hP3 := PIn.refl ((a + bb) / 2) bb q
          have hS3 : Srt (rk q) ((a + bb) / 2) bb := srt_side k3' k4' (by omega)
          obtain ⟨t1, t2⟩ := final_srt (q := q) (p1 := q) (p2 := q) (p3 := q) (by omega) (by omega) (by omega) hP1 hP2 hP3 hS2 hS3 kx
          exact ⟨q, rfl, t1, t2, HR, HA⟩
theorem sym_all (N : Nat) : SymOk N := by
  induction N using Nat.strongRecOn with
  | _ N ih =>
    intro b n cap a m bb q w hN HR hn hall hm ham hmb hbn hs1 hs2
    by_cases e1 : m = a + 1
    · exact sym_l N ih b n cap a m bb q w hN HR hn hall hm ham hmb hbn hs1 hs2 e1
    · by_cases e2 : bb = m + 1
      · exact sym_r N ih b n cap a m bb q w hN HR hn hall hm ham hmb hbn hs1 hs2 e1 e2
      · by_cases e3 : (a + bb) / 2 < m
        · exact sym_m1 N ih b n cap a m bb q w hN HR hn hall hm ham hmb hbn hs1 hs2 e1 e2 e3
        · exact sym_m0 N ih b n cap a m bb q w hN HR hn hall hm ham hmb hbn hs1 hs2 e1 e2 (by omega)
end Go.Proofs.Ytjnjkgoofkgiiaa.Edge
