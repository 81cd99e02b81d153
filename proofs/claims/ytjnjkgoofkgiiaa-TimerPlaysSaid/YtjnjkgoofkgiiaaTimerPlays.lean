/- Layer 13's law TimerPlays: its walk. -/
import Derived.Test.YtjnjkgoofkgiiaaTimerLaw
import Derived.Test.YtjnjkgoofkgiiaaLists
import Derived.Test.YtjnjkgoofkgiiaaDeeds
set_option linter.unusedVariables false
set_option linter.unusedSimpArgs false
namespace Go.Proofs.Ytjnjkgoofkgiiaa.Timer
open Go Go.RowKit Go.Proofs.Ytjnjkgoofkgiiaa Go.Proofs.Ytjnjkgoofkgiiaa.Eng Go.Proofs.YtjnjkgoofkgiiaaW.PrintWords Go.Proofs.YtjnjkgoofkgiiaaW.PrintLast
theorem cells3 {w : World} {ad : Addr} {m : Nat} {x y z : Value} (h0 : w.cell? (ad.add m) = some x) (h1 : w.cell? (ad.add (m + 1)) = some y) (h2 : w.cell? (ad.add (m + 2)) = some z) : ∀ j, j < [x, y, z].length → w.cell? ((ad.add m).add j) = [x, y, z][j]? := by
  intro j hj
  rw [add_add_]
  rcases (by simpa using hj : j < 3) with hj
  rcases (by omega : j = 0 ∨ j = 1 ∨ j = 2) with rfl | rfl | rfl
  · exact h0
  · exact h1
  · exact h2
theorem atD_map (es : List Ent) (k : Nat) (h : k < es.length) : atD (es.map due) k = due (at0 es k) := by
  simp [atD, at0, h]
theorem fstK_congr (f g : Nat → Int) : ∀ n, (∀ k, k < n → f k = g k) → fstK f n = fstK g n
  | 0, _ => rfl
  | n + 1, h => by
    have ih := fstK_congr f g n (fun k hk => h k (by omega))
    rw [fstK_succ, fstK_succ, ih]
    by_cases h0 : n = 0
    · rw [if_pos h0, if_pos h0]
    · have := fstK_lt g n (by omega)
      rw [if_neg h0, if_neg h0, h n (by omega), h (fstK g n) (by omega)]
theorem bst_nil (es : List Ent) (h : es.length = 0) : bst (fun k => (atD (es.map due) k).u) (es.map due).length = -1 := by
  rw [List.length_map, h]
  rfl
theorem bst_pos (es : List Ent) (h : es.length ≠ 0) : bst (fun k => (atD (es.map due) k).u) (es.map due).length = ((fstK (fun k => (at0 es k).a) es.length : Nat) : Int) := by
  rw [List.length_map]
  unfold bst
  rw [if_neg h, fstK_congr _ (fun k => (at0 es k).a) es.length (fun k hk => by simp only [atD_map es k hk, due])]
set_option maxRecDepth 100000 in
set_option maxHeartbeats 4000000 in
theorem plays_some (A0 : Option Addr) (n0 cap0 : Nat) (d : List (Int × Int × Int)) (w : World) (hn0 : n0 = d.length) (hl0 : n0 ≤ 150) (hrd : ∀ k, k < d.length → ∃ ad x y z, A0 = some ad ∧ (-9223372036854775808 ≤ x ∧ x ≤ 9223372036854775807) ∧ w.cell? (ad.add (k * 3)) = some (.int .i64 x) ∧ w.cell? (ad.add (k * 3 + 1)) = some (.int .i64 y) ∧ w.cell? (ad.add (k * 3 + 2)) = some (.int .i64 z)) :
    Calls Try.prog 4 #[.slice A0 n0 cap0] w fun e w' => e = .returned (.bool true) ∧ Fr [] w w' := by
  have HA := Fr.refl [] w
  refine enter (N := 157) Try.func4 (c := _) rfl (by kernel_rfl) (by kernel_rfl) (e := [(0, .slice A0 n0 cap0)]) (by kernel_rfl) ?_
  refine WE.seq ?_
  -- R0 law.go:52
  refine WE.region ?_
  refine WO.run 1 0 [(2, .bool false)] (by kernel_rfl) (by kernel_rfl) ?_
  refine WO.done (by kernel_rfl) ?_
  refine WQ.keep [0, 2] (e' := [(0, .slice A0 n0 cap0), (2, .bool false)]) (by kernel_rfl) ?_
  refine WQ.thenN ?_
  refine WE.seq ?_
  -- R1 law.go:53
  refine WE.region ?_
  refine WO.call (SQ.E 0 (by kernel_rfl)) 15 (by kernel_rfl) (up_any _) ?_
  rintro _ w1 ⟨rfl, F2⟩
  refine ⟨_, rfl, trivial, ?_⟩
  have HA := Fr.step0 HA F2
  refine WO.run 1 1 [(3, .bool true)] (by kernel_rfl) (by kernel_rfl) ?_
  refine WO.done (by kernel_rfl) ?_
  refine WQ.keep [0, 2, 3] (e' := [(0, .slice A0 n0 cap0), (2, .bool false), (3, .bool true)]) (by kernel_rfl) ?_
  refine WQ.thenN ?_
  refine WE.seq ?_
  -- R2 law.go:54
  refine WE.region ?_
  refine WO.call (SQ.E 0 (by kernel_rfl)) 16 (by kernel_rfl) (new_q _) ?_
  rintro _ w6 ⟨g3, rfl, HQ7, F5, le8⟩
  refine ⟨_, rfl, trivial, ?_⟩
  obtain ⟨Q4, hQ4⟩ : ∃ F, F = [g3] := ⟨_, rfl⟩
  rw [← hQ4] at HQ7
  have hg9 : ∀ y ∈ Q4, y ∈ [] ∨ (World.heap w1).size ≤ y := by rw [hQ4]; intro y hy; obtain rfl : y = g3 := (by simpa using hy); exact Or.inr le8
  have ge_HA_Q4 : ∀ y ∈ Q4, (World.heap w).size ≤ y := grow_ge hg9 (by simp) HA.size
  have HA := Fr.step0 HA F5
  refine WO.run 1 1 [(4, .pointer (some ⟨g3, 0, none⟩))] (by kernel_rfl) (by kernel_rfl) ?_
  refine WO.done (by kernel_rfl) ?_
  refine WQ.keep [0, 2, 3, 4] (e' := [(0, .slice A0 n0 cap0), (2, .bool false), (3, .bool true), (4, .pointer (some ⟨g3, 0, none⟩))]) (by kernel_rfl) ?_
  refine WQ.thenN ?_
  refine WE.seq ?_
  refine WE.seq ?_
  -- R3 law.go:55
  refine WE.region ?_
  refine WO.run 5 0 [(21, .int .i64 (n0 : Int)), (20, .slice A0 n0 cap0), (19, .bool false), (18, .bool false), (17, .pointer (some ⟨g3, 0, none⟩))] (by kernel_rfl) (by kernel_rfl) ?_
  refine WO.one (SQ.F 5 (by kernel_rfl)) 22 (.bool (decide (((n0 : Int) : Int) > (150 : Int)))) (by kernel_rfl) ?_
  refine WO.topPF (((n0 : Int) : Int) > (150 : Int)) (by omega) ?_
  refine WO.run 1 6 [(23, .bool false)] (by kernel_rfl) (by kernel_rfl) ?_
  refine WO.done (by kernel_rfl) ?_
  refine WQ.keep [0, 2, 3, 4, 23] (e' := [(0, .slice A0 n0 cap0), (2, .bool false), (3, .bool true), (4, .pointer (some ⟨g3, 0, none⟩)), (23, .bool false)]) (by kernel_rfl) ?_
  refine WQ.thenN ?_
  refine WE.condF (by kernel_rfl) ?_
  refine WE.skip ?_
  refine WQ.thenN ?_
  refine WE.seq ?_
  -- R5 law.go:58
  refine WE.region ?_
  refine WO.run 1 0 [(5, .slice none 0 0)] (by kernel_rfl) (by kernel_rfl) ?_
  refine WO.done (by kernel_rfl) ?_
  refine WQ.keep [0, 2, 3, 4, 5, 23] (e' := [(0, .slice A0 n0 cap0), (2, .bool false), (3, .bool true), (4, .pointer (some ⟨g3, 0, none⟩)), (5, .slice none 0 0), (23, .bool false)]) (by kernel_rfl) ?_
  refine WQ.thenN ?_
  refine WE.seq ?_
  refine WE.seq ?_
  -- R6 law.go:59
  refine WE.region ?_
  refine WO.run 1 0 [(6, .int .i64 0)] (by kernel_rfl) (by kernel_rfl) ?_
  refine WO.done (by kernel_rfl) ?_
  refine WQ.keep [0, 2, 3, 4, 5, 6, 23] (e' := [(0, .slice A0 n0 cap0), (2, .bool false), (3, .bool true), (4, .pointer (some ⟨g3, 0, none⟩)), (5, .slice none 0 0), (6, .int .i64 0), (23, .bool false)]) (by kernel_rfl) ?_
  refine WQ.thenN ?_
  refine WE.block ?_
  refine WE.loop (α := Nat × List Nat × List Ent × Int × List Nat × List Ent × Option Addr × Nat) (E := fun ⟨i, F, q, t, Fw, es, A, cap⟩ => [(0, .slice A0 n0 cap0), (2, .bool false), (3, .bool true), (4, .pointer (some ⟨g3, 0, none⟩)), (5, .slice A ((es.map due).length) cap), (6, .int .i64 (i : Int)), (23, .bool false)]) (I := fun ⟨i, F, q, t, Fw, es, A, cap⟩ wr => i ≤ n0 ∧ IsQ wr F g3 q t ∧ OwnX 33 2 wr Fw (.slice A (es.map due).length cap) ((es.map due).map cD) ∧ (∀ y ∈ Fw, y ∉ F) ∧ (∀ y ∈ F, w.heap.size ≤ y) ∧ (∀ y ∈ Fw, w.heap.size ≤ y) ∧ Rel q es t ∧ es.length ≤ 50 ∧ 0 ≤ t ∧ t ≤ i ∧ Fr [] w wr) (m := fun ⟨i, F, q, t, Fw, es, A, cap⟩ => n0 - i) (0, Q4, [], 0, [], [], none, 0) [0, 2, 3, 4, 5, 6, 23] (by kernel_rfl) ?_ ?_
  · exact ⟨Nat.zero_le _, HQ7, OwnX.nil _ _ _, by simp, ge_HA_Q4, by simp, Rel.nil 0, by simp, Int.le_refl _, Int.le_refl _, HA⟩
  rintro ⟨i, F, q, t, Fw, es, A, cap⟩ wr ⟨hi, HQ, HD, hdj, hgF, hgw, hRel, h50, ht0, hti, HA⟩
  dsimp only at *
  have hdl : (es.map due).length = es.length := List.length_map _
  refine WE.seq ?_
  refine WE.seq ?_
  -- R7 law.go:59
  refine WE.region ?_
  refine WO.run 3 0 [(31, .int .i64 (n0 : Int)), (30, .slice A0 n0 cap0), (29, .int .i64 (i : Int))] (by kernel_rfl) (by kernel_rfl) ?_
  refine WO.one (SQ.F 3 (by kernel_rfl)) 32 (.bool (decide (((i : Int) : Int) < (n0 : Int)))) (by kernel_rfl) ?_
  refine WO.topP (((i : Int) : Int) < (n0 : Int)) ?_ ?_
  · intro h10
    refine WO.done (by kernel_rfl) ?_
    refine WQ.keep [0, 2, 3, 4, 5, 6, 23, 32] (e' := [(0, .slice A0 n0 cap0), (2, .bool false), (3, .bool true), (4, .pointer (some ⟨g3, 0, none⟩)), (5, .slice A ((es.map due).length) cap), (6, .int .i64 (i : Int)), (23, .bool false), (32, .bool true)]) (by kernel_rfl) ?_
    refine WQ.thenN ?_
    refine WE.condT (by kernel_rfl) ?_
    refine WE.skip ?_
    refine WQ.thenN ?_
    refine WE.seq ?_
    refine WE.block ?_
    refine WE.seq ?_
    -- R9 law.go:60
    refine WE.region ?_
    refine WO.run 2 0 [(36, .int .i64 (i : Int)), (35, .slice A0 n0 cap0)] (by kernel_rfl) (by kernel_rfl) ?_
    obtain ⟨ad, dx, dy, dz, hA, hx, hd0, hd1, hd2⟩ := hrd i (by omega)
    subst hA
    refine WO.ix (SQ.F 2 (by kernel_rfl)) 37 (ad.add (i * 3)) ad n0 3 (i : Int) (by kernel_rfl) (by omega) (by omega) (by congr 1 <;> omega) ?_
    refine WO.ldA (ad := (ad.add (i * 3))) (SQ.S 3 (by kernel_rfl)) 38 [.int .i64 dx, .int .i64 dy, .int .i64 dz] (by kernel_rfl) (by kernel_rfl) (same (cells3 (HA.cell0 hd0) (HA.cell0 hd1) (HA.cell0 hd2))) ?_
    refine WO.bx (SQ.E 4 (by kernel_rfl)) 7 #[.int .i64 0, .int .i64 0, .int .i64 0] 38 (fun g => .pointer (some ⟨g, 0, none⟩)) (by kernel_rfl) (fun _ _ => trivial) ?_
    intro g11 w12 HB14 F13 le15 _
    have nin_g11_F : g11 ∉ F := new_nin HQ.lt le15
    have nin_g11_Fw : g11 ∉ Fw := new_nin HD.lt le15
    have ge_HA_g11 := Nat.le_trans HA.size le15
    have HQ := HQ.keep F13 (fun _ _ => nin0 _)
    have HD := HD.keep F13 (fun _ _ => nin0 _)
    have HA := Fr.step0 HA F13
    refine WO.st (SQ.E 5 (by kernel_rfl)) g11 0 [.int .i64 dx, .int .i64 dy, .int .i64 dz] #[.int .i64 dx, .int .i64 dy, .int .i64 dz] (by kernel_rfl) HB14 (by kernel_rfl) (by kernel_rfl) (fun _ _ => trivial) ?_
    intro w16 HB18 F17 _
    have HQ := HQ.keep F17 (djB nin_g11_F)
    have HD := HD.keep F17 (djB nin_g11_Fw)
    have HA := Fr.step HA F17 (inSR ge_HA_g11 inS0)
    refine WO.done (by kernel_rfl) ?_
    refine WQ.keep [0, 2, 3, 4, 5, 6, 7, 23, 32] (e' := [(0, .slice (some ad) n0 cap0), (2, .bool false), (3, .bool true), (4, .pointer (some ⟨g3, 0, none⟩)), (5, .slice A ((es.map due).length) cap), (6, .int .i64 (i : Int)), (7, .pointer (some ⟨g11, 0, none⟩)), (23, .bool false), (32, .bool true)]) (by kernel_rfl) ?_
    refine WQ.thenN ?_
    refine WE.seq ?_
    refine WE.seq ?_
    -- R10 law.go:61
    refine WE.region ?_
    refine WO.run 1 0 [(39, .pointer (some ⟨g11, 0, none⟩))] (by kernel_rfl) (by kernel_rfl) ?_
    refine WO.ld (SQ.S 1 (by kernel_rfl)) 40 (.int .i64 dx) (by kernel_rfl) (same (HB18.at 0 (by kernel_rfl))) ?_
    have hpk19 := pk_lt dx 4 (by decide)
    refine WO.call (SQ.E 2 (by kernel_rfl)) 41 (by kernel_rfl) (pick_4 dx _ (by exact hx)) ?_
    rintro _ w20 ⟨rfl, F21⟩
    refine ⟨_, rfl, trivial, ?_⟩
    have HB18 := Blk.keep HB18 F21 (nin0 _)
    have HQ := HQ.keep F21 (fun _ _ => nin0 _)
    have HD := HD.keep F21 (fun _ _ => nin0 _)
    have HA := Fr.step0 HA F21
    refine WO.done (by kernel_rfl) ?_
    refine WQ.keep [0, 2, 3, 4, 5, 6, 7, 23, 32, 41] (e' := [(0, .slice (some ad) n0 cap0), (2, .bool false), (3, .bool true), (4, .pointer (some ⟨g3, 0, none⟩)), (5, .slice A ((es.map due).length) cap), (6, .int .i64 (i : Int)), (7, .pointer (some ⟨g11, 0, none⟩)), (23, .bool false), (32, .bool true), (41, .int .i64 ((pk dx 4 : Nat) : Int))]) (by kernel_rfl) ?_
    refine WQ.thenN ?_
    refine WE.block ?_
    refine WE.seq ?_
    refine WE.seq ?_
    -- R17 law.go:62
    refine WE.region ?_
    refine WO.one (SQ.F 0 (by kernel_rfl)) 72 (.bool (decide ((((pk dx 4) : Int) : Int) = (0 : Int)))) (by kernel_rfl) ?_
    refine WO.topP ((((pk dx 4) : Int) : Int) = (0 : Int)) ?_ ?_
    · intro h22
      refine WO.run 1 1 [(71, .bool true)] (by kernel_rfl) (by kernel_rfl) ?_
      refine WO.done (by kernel_rfl) ?_
      refine WQ.keep [0, 2, 3, 4, 5, 6, 7, 23, 32, 41, 71] (e' := [(0, .slice (some ad) n0 cap0), (2, .bool false), (3, .bool true), (4, .pointer (some ⟨g3, 0, none⟩)), (5, .slice A ((es.map due).length) cap), (6, .int .i64 (i : Int)), (7, .pointer (some ⟨g11, 0, none⟩)), (23, .bool false), (32, .bool true), (41, .int .i64 ((pk dx 4 : Nat) : Int)), (71, .bool true)]) (by kernel_rfl) ?_
      refine WQ.thenN ?_
      refine WE.condT (by kernel_rfl) ?_
      refine WE.skip ?_
      refine WQ.thenN ?_
      refine WE.condT (by kernel_rfl) ?_
      refine WE.seq ?_
      by_cases hy : dy < 0
      · skip
        -- R19 law.go:63
        refine WE.region ?_
        refine WO.run 2 0 [(75, .pointer (some ⟨g11, 1, none⟩)), (74, .pointer (some ⟨g3, 0, none⟩))] (by kernel_rfl) (by kernel_rfl) ?_
        refine WO.ld (SQ.S 2 (by kernel_rfl)) 76 (.int .i64 dy) (by kernel_rfl) (same (HB18.at 1 (by kernel_rfl))) ?_
        refine WO.run 1 3 [(77, .pointer (some ⟨g11, 2, none⟩))] (by kernel_rfl) (by kernel_rfl) ?_
        refine WO.ld (SQ.S 4 (by kernel_rfl)) 78 (.int .i64 dz) (by kernel_rfl) (same (HB18.at 2 (by kernel_rfl))) ?_
        refine WO.call (SQ.E 5 (by kernel_rfl)) 79 (by kernel_rfl) (set_neg (some ⟨g3, 0, none⟩) dy dz _ (by omega)) ?_
        rintro _ w23 ⟨rfl, F24⟩
        refine ⟨_, rfl, trivial, ?_⟩
        have HB18 := Blk.keep HB18 F24 (nin0 _)
        have HQ := HQ.keep F24 (fun _ _ => nin0 _)
        have HD := HD.keep F24 (fun _ _ => nin0 _)
        have HA := Fr.step0 HA F24
        refine WO.run 1 6 [(8, .iface 39 (.int .i64 1))] (by kernel_rfl) (by kernel_rfl) ?_
        refine WO.done (by kernel_rfl) ?_
        refine WQ.keep [0, 2, 3, 4, 5, 6, 7, 8, 23, 32, 41, 71] (e' := [(0, .slice (some ad) n0 cap0), (2, .bool false), (3, .bool true), (4, .pointer (some ⟨g3, 0, none⟩)), (5, .slice A ((es.map due).length) cap), (6, .int .i64 (i : Int)), (7, .pointer (some ⟨g11, 0, none⟩)), (8, .iface 39 (.int .i64 1)), (23, .bool false), (32, .bool true), (41, .int .i64 ((pk dx 4 : Nat) : Int)), (71, .bool true)]) (by kernel_rfl) ?_
        refine WQ.thenN ?_
        refine WE.seq ?_
        -- R20 law.go:64
        refine WE.region ?_
        refine WO.run 1 0 [(80, .pointer (some ⟨g11, 1, none⟩))] (by kernel_rfl) (by kernel_rfl) ?_
        refine WO.ld (SQ.S 1 (by kernel_rfl)) 81 (.int .i64 dy) (by kernel_rfl) (same (HB18.at 1 (by kernel_rfl))) ?_
        refine WO.one (SQ.F 2 (by kernel_rfl)) 82 (.bool (decide ((dy : Int) < 0))) (by kernel_rfl) ?_
        refine WO.topPT ((dy : Int) < 0) (by omega) ?_
        refine WO.done (by kernel_rfl) ?_
        refine WQ.keep [0, 2, 3, 4, 5, 6, 7, 8, 23, 32, 41, 71, 82] (e' := [(0, .slice (some ad) n0 cap0), (2, .bool false), (3, .bool true), (4, .pointer (some ⟨g3, 0, none⟩)), (5, .slice A ((es.map due).length) cap), (6, .int .i64 (i : Int)), (7, .pointer (some ⟨g11, 0, none⟩)), (8, .iface 39 (.int .i64 1)), (23, .bool false), (32, .bool true), (41, .int .i64 ((pk dx 4 : Nat) : Int)), (71, .bool true), (82, .bool true)]) (by kernel_rfl) ?_
        refine WQ.thenN ?_
        refine WE.condT (by kernel_rfl) ?_
        refine WE.seq ?_
        -- R21 law.go:65
        refine WE.region ?_
        refine WO.run 3 0 [(85, .bool false), (84, .iface 39 (.int .i64 1)), (83, .iface 39 (.int .i64 1))] (by kernel_rfl) (by kernel_rfl) ?_
        refine WO.done (by kernel_rfl) ?_
        refine WQ.keep [0, 2, 3, 4, 5, 6, 7, 8, 23, 32, 41, 71, 82, 85] (e' := [(0, .slice (some ad) n0 cap0), (2, .bool false), (3, .bool true), (4, .pointer (some ⟨g3, 0, none⟩)), (5, .slice A ((es.map due).length) cap), (6, .int .i64 (i : Int)), (7, .pointer (some ⟨g11, 0, none⟩)), (8, .iface 39 (.int .i64 1)), (23, .bool false), (32, .bool true), (41, .int .i64 ((pk dx 4 : Nat) : Int)), (71, .bool true), (82, .bool true), (85, .bool false)]) (by kernel_rfl) ?_
        refine WQ.thenN ?_
        refine WE.condF (by kernel_rfl) ?_
        refine WE.skip ?_
        refine WQ.blkN ?_
        refine WQ.thenN ?_
        refine WE.seq ?_
        have hqe := hRel.len
        -- R43 law.go:111
        refine WE.region ?_
        refine WO.run 1 0 [(151, .pointer (some ⟨g3, 0, none⟩))] (by kernel_rfl) (by kernel_rfl) ?_
        refine WO.call (SQ.E 1 (by kernel_rfl)) 152 (by kernel_rfl) (len_q F g3 q t _ HQ) ?_
        rintro _ w25 ⟨rfl, F26⟩
        refine ⟨_, rfl, trivial, ?_⟩
        have HB18 := Blk.keep HB18 F26 (nin0 _)
        have HQ := HQ.keep F26 (fun _ _ => nin0 _)
        have HD := HD.keep F26 (fun _ _ => nin0 _)
        have HA := Fr.step0 HA F26
        refine WO.run 2 2 [(154, .int .i64 ((es.map due).length : Int)), (153, .slice A ((es.map due).length) cap)] (by kernel_rfl) (by kernel_rfl) ?_
        refine WO.one (SQ.F 4 (by kernel_rfl)) 155 (.bool (!decide (((q.length : Int) : Int) = ((es.map due).length : Int)))) (by kernel_rfl) ?_
        refine WO.topNT (((q.length : Int) : Int) = ((es.map due).length : Int)) (by omega) ?_
        refine WO.done (by kernel_rfl) ?_
        refine WQ.keep [0, 2, 3, 4, 5, 6, 7, 8, 23, 32, 41, 71, 82, 85, 155] (e' := [(0, .slice (some ad) n0 cap0), (2, .bool false), (3, .bool true), (4, .pointer (some ⟨g3, 0, none⟩)), (5, .slice A ((es.map due).length) cap), (6, .int .i64 (i : Int)), (7, .pointer (some ⟨g11, 0, none⟩)), (8, .iface 39 (.int .i64 1)), (23, .bool false), (32, .bool true), (41, .int .i64 ((pk dx 4 : Nat) : Int)), (71, .bool true), (82, .bool true), (85, .bool false), (155, .bool false)]) (by kernel_rfl) ?_
        refine WQ.thenN ?_
        refine WE.condF (by kernel_rfl) ?_
        refine WE.skip ?_
        refine WQ.blkN ?_
        refine WQ.thenN ?_
        -- R8 law.go:59
        refine WE.region ?_
        refine WO.run 1 0 [(33, .int .i64 (i : Int))] (by kernel_rfl) (by kernel_rfl) ?_
        refine WO.one (SQ.F 1 (by kernel_rfl)) 34 (.int .i64 (IntKind.i64.wrap ((i : Int) + 1))) (by kernel_rfl) ?_
        refine WO.top (v' := .int .i64 ((i + 1 : Nat) : Int)) (wrap_i64 (by omega) (by omega)) ?_
        refine WO.run 1 2 [(6, .int .i64 ((i + 1 : Nat) : Int))] (by kernel_rfl) (by kernel_rfl) ?_
        refine WO.done (by kernel_rfl) ?_
        refine WQ.keep [0, 2, 3, 4, 5, 6, 7, 8, 23, 32, 41, 71, 82, 85, 155] (e' := [(0, .slice (some ad) n0 cap0), (2, .bool false), (3, .bool true), (4, .pointer (some ⟨g3, 0, none⟩)), (5, .slice A ((es.map due).length) cap), (6, .int .i64 ((i + 1 : Nat) : Int)), (7, .pointer (some ⟨g11, 0, none⟩)), (8, .iface 39 (.int .i64 1)), (23, .bool false), (32, .bool true), (41, .int .i64 ((pk dx 4 : Nat) : Int)), (71, .bool true), (82, .bool true), (85, .bool false), (155, .bool false)]) (by kernel_rfl) ?_
        refine WQ.round ?_
        intro a_ ha_
        refine ⟨(i + 1, F, q, t, Fw, es, A, cap), ?_, ha_.keep [0, 2, 3, 4, 5, 6, 23] (by kernel_rfl), ?_⟩
        · show n0 - (i + 1) < n0 - i; omega
        · exact ⟨by show i + 1 ≤ n0; omega, HQ, HD, hdj, hgF, hgw, hRel, h50, by show (0 : Int) ≤ t; omega, by show t ≤ ((i + 1 : Nat) : Int); omega, HA⟩
      by_cases hfull : 50 ≤ es.length
      · skip
        -- R19 law.go:63
        refine WE.region ?_
        refine WO.run 2 0 [(75, .pointer (some ⟨g11, 1, none⟩)), (74, .pointer (some ⟨g3, 0, none⟩))] (by kernel_rfl) (by kernel_rfl) ?_
        refine WO.ld (SQ.S 2 (by kernel_rfl)) 76 (.int .i64 dy) (by kernel_rfl) (same (HB18.at 1 (by kernel_rfl))) ?_
        refine WO.run 1 3 [(77, .pointer (some ⟨g11, 2, none⟩))] (by kernel_rfl) (by kernel_rfl) ?_
        refine WO.ld (SQ.S 4 (by kernel_rfl)) 78 (.int .i64 dz) (by kernel_rfl) (same (HB18.at 2 (by kernel_rfl))) ?_
        refine WO.call (SQ.E 5 (by kernel_rfl)) 79 (by kernel_rfl) (set_q_full F g3 q t dy dz _ HQ (by omega) (by have := hRel.len; omega) (by have := hRel.len; omega)) ?_
        rintro _ w27 ⟨rfl, F28⟩
        refine ⟨_, rfl, trivial, ?_⟩
        have HB18 := Blk.keep HB18 F28 (nin0 _)
        have HQ := HQ.keep F28 (fun _ _ => nin0 _)
        have HD := HD.keep F28 (fun _ _ => nin0 _)
        have HA := Fr.step0 HA F28
        refine WO.run 1 6 [(8, .iface 39 (.int .i64 6))] (by kernel_rfl) (by kernel_rfl) ?_
        refine WO.done (by kernel_rfl) ?_
        refine WQ.keep [0, 2, 3, 4, 5, 6, 7, 8, 23, 32, 41, 71] (e' := [(0, .slice (some ad) n0 cap0), (2, .bool false), (3, .bool true), (4, .pointer (some ⟨g3, 0, none⟩)), (5, .slice A ((es.map due).length) cap), (6, .int .i64 (i : Int)), (7, .pointer (some ⟨g11, 0, none⟩)), (8, .iface 39 (.int .i64 6)), (23, .bool false), (32, .bool true), (41, .int .i64 ((pk dx 4 : Nat) : Int)), (71, .bool true)]) (by kernel_rfl) ?_
        refine WQ.thenN ?_
        refine WE.seq ?_
        -- R20 law.go:64
        refine WE.region ?_
        refine WO.run 1 0 [(80, .pointer (some ⟨g11, 1, none⟩))] (by kernel_rfl) (by kernel_rfl) ?_
        refine WO.ld (SQ.S 1 (by kernel_rfl)) 81 (.int .i64 dy) (by kernel_rfl) (same (HB18.at 1 (by kernel_rfl))) ?_
        refine WO.one (SQ.F 2 (by kernel_rfl)) 82 (.bool (decide ((dy : Int) < 0))) (by kernel_rfl) ?_
        refine WO.topPF ((dy : Int) < 0) (by omega) ?_
        refine WO.done (by kernel_rfl) ?_
        refine WQ.keep [0, 2, 3, 4, 5, 6, 7, 8, 23, 32, 41, 71, 82] (e' := [(0, .slice (some ad) n0 cap0), (2, .bool false), (3, .bool true), (4, .pointer (some ⟨g3, 0, none⟩)), (5, .slice A ((es.map due).length) cap), (6, .int .i64 (i : Int)), (7, .pointer (some ⟨g11, 0, none⟩)), (8, .iface 39 (.int .i64 6)), (23, .bool false), (32, .bool true), (41, .int .i64 ((pk dx 4 : Nat) : Int)), (71, .bool true), (82, .bool false)]) (by kernel_rfl) ?_
        refine WQ.thenN ?_
        refine WE.condF (by kernel_rfl) ?_
        refine WE.seq ?_
        -- R23 law.go:68
        refine WE.region ?_
        refine WO.run 2 0 [(87, .int .i64 ((es.map due).length : Int)), (86, .slice A ((es.map due).length) cap)] (by kernel_rfl) (by kernel_rfl) ?_
        refine WO.one (SQ.F 2 (by kernel_rfl)) 88 (.bool (decide ((((es.map due).length : Int) : Int) ≥ (50 : Int)))) (by kernel_rfl) ?_
        refine WO.topPT ((((es.map due).length : Int) : Int) ≥ (50 : Int)) (by omega) ?_
        refine WO.done (by kernel_rfl) ?_
        refine WQ.keep [0, 2, 3, 4, 5, 6, 7, 8, 23, 32, 41, 71, 82, 88] (e' := [(0, .slice (some ad) n0 cap0), (2, .bool false), (3, .bool true), (4, .pointer (some ⟨g3, 0, none⟩)), (5, .slice A ((es.map due).length) cap), (6, .int .i64 (i : Int)), (7, .pointer (some ⟨g11, 0, none⟩)), (8, .iface 39 (.int .i64 6)), (23, .bool false), (32, .bool true), (41, .int .i64 ((pk dx 4 : Nat) : Int)), (71, .bool true), (82, .bool false), (88, .bool true)]) (by kernel_rfl) ?_
        refine WQ.thenN ?_
        refine WE.condT (by kernel_rfl) ?_
        refine WE.seq ?_
        -- R24 law.go:69
        refine WE.region ?_
        refine WO.run 3 0 [(91, .bool false), (90, .iface 39 (.int .i64 6)), (89, .iface 39 (.int .i64 6))] (by kernel_rfl) (by kernel_rfl) ?_
        refine WO.done (by kernel_rfl) ?_
        refine WQ.keep [0, 2, 3, 4, 5, 6, 7, 8, 23, 32, 41, 71, 82, 88, 91] (e' := [(0, .slice (some ad) n0 cap0), (2, .bool false), (3, .bool true), (4, .pointer (some ⟨g3, 0, none⟩)), (5, .slice A ((es.map due).length) cap), (6, .int .i64 (i : Int)), (7, .pointer (some ⟨g11, 0, none⟩)), (8, .iface 39 (.int .i64 6)), (23, .bool false), (32, .bool true), (41, .int .i64 ((pk dx 4 : Nat) : Int)), (71, .bool true), (82, .bool false), (88, .bool true), (91, .bool false)]) (by kernel_rfl) ?_
        refine WQ.thenN ?_
        refine WE.condF (by kernel_rfl) ?_
        refine WE.skip ?_
        refine WQ.blkN ?_
        refine WQ.thenN ?_
        refine WE.seq ?_
        have hqe := hRel.len
        -- R43 law.go:111
        refine WE.region ?_
        refine WO.run 1 0 [(151, .pointer (some ⟨g3, 0, none⟩))] (by kernel_rfl) (by kernel_rfl) ?_
        refine WO.call (SQ.E 1 (by kernel_rfl)) 152 (by kernel_rfl) (len_q F g3 q t _ HQ) ?_
        rintro _ w29 ⟨rfl, F30⟩
        refine ⟨_, rfl, trivial, ?_⟩
        have HB18 := Blk.keep HB18 F30 (nin0 _)
        have HQ := HQ.keep F30 (fun _ _ => nin0 _)
        have HD := HD.keep F30 (fun _ _ => nin0 _)
        have HA := Fr.step0 HA F30
        refine WO.run 2 2 [(154, .int .i64 ((es.map due).length : Int)), (153, .slice A ((es.map due).length) cap)] (by kernel_rfl) (by kernel_rfl) ?_
        refine WO.one (SQ.F 4 (by kernel_rfl)) 155 (.bool (!decide (((q.length : Int) : Int) = ((es.map due).length : Int)))) (by kernel_rfl) ?_
        refine WO.topNT (((q.length : Int) : Int) = ((es.map due).length : Int)) (by omega) ?_
        refine WO.done (by kernel_rfl) ?_
        refine WQ.keep [0, 2, 3, 4, 5, 6, 7, 8, 23, 32, 41, 71, 82, 88, 91, 155] (e' := [(0, .slice (some ad) n0 cap0), (2, .bool false), (3, .bool true), (4, .pointer (some ⟨g3, 0, none⟩)), (5, .slice A ((es.map due).length) cap), (6, .int .i64 (i : Int)), (7, .pointer (some ⟨g11, 0, none⟩)), (8, .iface 39 (.int .i64 6)), (23, .bool false), (32, .bool true), (41, .int .i64 ((pk dx 4 : Nat) : Int)), (71, .bool true), (82, .bool false), (88, .bool true), (91, .bool false), (155, .bool false)]) (by kernel_rfl) ?_
        refine WQ.thenN ?_
        refine WE.condF (by kernel_rfl) ?_
        refine WE.skip ?_
        refine WQ.blkN ?_
        refine WQ.thenN ?_
        -- R8 law.go:59
        refine WE.region ?_
        refine WO.run 1 0 [(33, .int .i64 (i : Int))] (by kernel_rfl) (by kernel_rfl) ?_
        refine WO.one (SQ.F 1 (by kernel_rfl)) 34 (.int .i64 (IntKind.i64.wrap ((i : Int) + 1))) (by kernel_rfl) ?_
        refine WO.top (v' := .int .i64 ((i + 1 : Nat) : Int)) (wrap_i64 (by omega) (by omega)) ?_
        refine WO.run 1 2 [(6, .int .i64 ((i + 1 : Nat) : Int))] (by kernel_rfl) (by kernel_rfl) ?_
        refine WO.done (by kernel_rfl) ?_
        refine WQ.keep [0, 2, 3, 4, 5, 6, 7, 8, 23, 32, 41, 71, 82, 88, 91, 155] (e' := [(0, .slice (some ad) n0 cap0), (2, .bool false), (3, .bool true), (4, .pointer (some ⟨g3, 0, none⟩)), (5, .slice A ((es.map due).length) cap), (6, .int .i64 ((i + 1 : Nat) : Int)), (7, .pointer (some ⟨g11, 0, none⟩)), (8, .iface 39 (.int .i64 6)), (23, .bool false), (32, .bool true), (41, .int .i64 ((pk dx 4 : Nat) : Int)), (71, .bool true), (82, .bool false), (88, .bool true), (91, .bool false), (155, .bool false)]) (by kernel_rfl) ?_
        refine WQ.round ?_
        intro a_ ha_
        refine ⟨(i + 1, F, q, t, Fw, es, A, cap), ?_, ha_.keep [0, 2, 3, 4, 5, 6, 23] (by kernel_rfl), ?_⟩
        · show n0 - (i + 1) < n0 - i; omega
        · exact ⟨by show i + 1 ≤ n0; omega, HQ, HD, hdj, hgF, hgw, hRel, h50, by show (0 : Int) ≤ t; omega, by show t ≤ ((i + 1 : Nat) : Int); omega, HA⟩
      -- R19 law.go:63
      refine WE.region ?_
      refine WO.run 2 0 [(75, .pointer (some ⟨g11, 1, none⟩)), (74, .pointer (some ⟨g3, 0, none⟩))] (by kernel_rfl) (by kernel_rfl) ?_
      refine WO.ld (SQ.S 2 (by kernel_rfl)) 76 (.int .i64 dy) (by kernel_rfl) (same (HB18.at 1 (by kernel_rfl))) ?_
      refine WO.run 1 3 [(77, .pointer (some ⟨g11, 2, none⟩))] (by kernel_rfl) (by kernel_rfl) ?_
      refine WO.ld (SQ.S 4 (by kernel_rfl)) 78 (.int .i64 dz) (by kernel_rfl) (same (HB18.at 2 (by kernel_rfl))) ?_
      refine WO.call (SQ.E 5 (by kernel_rfl)) 79 (by kernel_rfl) (set_q F g3 q t dy dz _ HQ (by omega) (by have := hRel.len; omega) (by omega) (by omega)) ?_
      rintro _ w31 ⟨rfl, Q33, HQ34, F32, hg35⟩
      refine ⟨_, rfl, trivial, ?_⟩
      have nin_g11_Q33 : g11 ∉ Q33 := grow_nin hg35 nin_g11_F HB18.lt
      have dj_Q33_Fw : ∀ y ∈ Q33, y ∉ Fw := grow_dj hg35 (dj_symm hdj) HD.lt
      have ge_HA_Q33 : ∀ y ∈ Q33, (World.heap w).size ≤ y := grow_ge hg35 hgF HA.size
      have HB18 := Blk.keep HB18 F32 nin_g11_F
      have HD := HD.keep F32 hdj
      have HA := Fr.step HA F32 (inF hgF)
      refine WO.run 1 6 [(8, .nilIface)] (by kernel_rfl) (by kernel_rfl) ?_
      refine WO.done (by kernel_rfl) ?_
      refine WQ.keep [0, 2, 3, 4, 5, 6, 7, 8, 23, 32, 41, 71] (e' := [(0, .slice (some ad) n0 cap0), (2, .bool false), (3, .bool true), (4, .pointer (some ⟨g3, 0, none⟩)), (5, .slice A ((es.map due).length) cap), (6, .int .i64 (i : Int)), (7, .pointer (some ⟨g11, 0, none⟩)), (8, .nilIface), (23, .bool false), (32, .bool true), (41, .int .i64 ((pk dx 4 : Nat) : Int)), (71, .bool true)]) (by kernel_rfl) ?_
      refine WQ.thenN ?_
      refine WE.seq ?_
      -- R20 law.go:64
      refine WE.region ?_
      refine WO.run 1 0 [(80, .pointer (some ⟨g11, 1, none⟩))] (by kernel_rfl) (by kernel_rfl) ?_
      refine WO.ld (SQ.S 1 (by kernel_rfl)) 81 (.int .i64 dy) (by kernel_rfl) (same (HB18.at 1 (by kernel_rfl))) ?_
      refine WO.one (SQ.F 2 (by kernel_rfl)) 82 (.bool (decide ((dy : Int) < 0))) (by kernel_rfl) ?_
      refine WO.topPF ((dy : Int) < 0) (by omega) ?_
      refine WO.done (by kernel_rfl) ?_
      refine WQ.keep [0, 2, 3, 4, 5, 6, 7, 8, 23, 32, 41, 71, 82] (e' := [(0, .slice (some ad) n0 cap0), (2, .bool false), (3, .bool true), (4, .pointer (some ⟨g3, 0, none⟩)), (5, .slice A ((es.map due).length) cap), (6, .int .i64 (i : Int)), (7, .pointer (some ⟨g11, 0, none⟩)), (8, .nilIface), (23, .bool false), (32, .bool true), (41, .int .i64 ((pk dx 4 : Nat) : Int)), (71, .bool true), (82, .bool false)]) (by kernel_rfl) ?_
      refine WQ.thenN ?_
      refine WE.condF (by kernel_rfl) ?_
      refine WE.seq ?_
      -- R23 law.go:68
      refine WE.region ?_
      refine WO.run 2 0 [(87, .int .i64 ((es.map due).length : Int)), (86, .slice A ((es.map due).length) cap)] (by kernel_rfl) (by kernel_rfl) ?_
      refine WO.one (SQ.F 2 (by kernel_rfl)) 88 (.bool (decide ((((es.map due).length : Int) : Int) ≥ (50 : Int)))) (by kernel_rfl) ?_
      refine WO.topPF ((((es.map due).length : Int) : Int) ≥ (50 : Int)) (by omega) ?_
      refine WO.done (by kernel_rfl) ?_
      refine WQ.keep [0, 2, 3, 4, 5, 6, 7, 8, 23, 32, 41, 71, 82, 88] (e' := [(0, .slice (some ad) n0 cap0), (2, .bool false), (3, .bool true), (4, .pointer (some ⟨g3, 0, none⟩)), (5, .slice A ((es.map due).length) cap), (6, .int .i64 (i : Int)), (7, .pointer (some ⟨g11, 0, none⟩)), (8, .nilIface), (23, .bool false), (32, .bool true), (41, .int .i64 ((pk dx 4 : Nat) : Int)), (71, .bool true), (82, .bool false), (88, .bool false)]) (by kernel_rfl) ?_
      refine WQ.thenN ?_
      refine WE.condF (by kernel_rfl) ?_
      refine WE.seq ?_
      refine WE.seq ?_
      -- R26 law.go:73
      refine WE.region ?_
      refine WO.run 2 0 [(93, .bool false), (92, .nilIface)] (by kernel_rfl) (by kernel_rfl) ?_
      refine WO.done (by kernel_rfl) ?_
      refine WQ.keep [0, 2, 3, 4, 5, 6, 7, 8, 23, 32, 41, 71, 82, 88, 93] (e' := [(0, .slice (some ad) n0 cap0), (2, .bool false), (3, .bool true), (4, .pointer (some ⟨g3, 0, none⟩)), (5, .slice A ((es.map due).length) cap), (6, .int .i64 (i : Int)), (7, .pointer (some ⟨g11, 0, none⟩)), (8, .nilIface), (23, .bool false), (32, .bool true), (41, .int .i64 ((pk dx 4 : Nat) : Int)), (71, .bool true), (82, .bool false), (88, .bool false), (93, .bool false)]) (by kernel_rfl) ?_
      refine WQ.thenN ?_
      refine WE.condF (by kernel_rfl) ?_
      refine WE.skip ?_
      refine WQ.thenN ?_
      have hz36 : (World.heap w31).size ≤ (World.heap w31).size := Nat.le_refl _
      have ltz_g11 := HB18.lt
      -- R28* law.go:76
      refine WE.draw [.effR, .free, .effR, .free, .still, .free, .still, .free, .eff, .eff, .free] (FrB (World.heap w31).size) (frBR _) (by kernel_rfl) 11 (Array.replicate 11 false) (by kernel_rfl) rfl ?_
      intro w37 F38 _
      have HB18 := Blk.keep HB18 F38 (nin0 _)
      have HD := HD.keep F38 (fun _ _ => nin0 _)
      have HQ34 := HQ34.keep F38 (fun _ _ => nin0 _)
      have hz36 := Nat.le_trans hz36 F38.size
      have HA := Fr.step0 HA F38
      refine WO.one (SA.F (frBR _) (frBT _) _ 1 _ (by kernel_rfl)) 95 (.slice A ((es.map due).length) cap) (by kernel_rfl) ?_
      refine WO.one (SA.F (frBR _) (frBT _) _ 3 _ (by kernel_rfl)) 97 (.pointer (some ⟨g11, 1, none⟩)) (by kernel_rfl) ?_
      refine WO.ld (SA.S (frBR _) (frBT _) _ 4 _ (by kernel_rfl)) 98 (.int .i64 dy) (by kernel_rfl) (fun _ k => (HB18.keepB k ltz_g11).at 1 (by kernel_rfl)) ?_
      refine WO.one (SA.F (frBR _) (frBT _) _ 5 _ (by kernel_rfl)) 99 (.pointer (some ⟨g11, 2, none⟩)) (by kernel_rfl) ?_
      refine WO.ld (SA.S (frBR _) (frBT _) _ 6 _ (by kernel_rfl)) 100 (.int .i64 dz) (by kernel_rfl) (fun _ k => (HB18.keepB k ltz_g11).at 2 (by kernel_rfl)) ?_
      refine WO.one (SA.F (frBR _) (frBT _) _ 7 _ (by kernel_rfl)) 101 (.agg #[.int .i64 dy, .int .i64 dz]) (by kernel_rfl) ?_
      refine WO.toX ?_
      refine WO.fork2 0 8 (by kernel_rfl) ?_ ?_
      · skip
        refine WO.bx (SAx.nowR _ 0 _ (by kernel_rfl) rfl) 94 #[] 33 (fun g => .slice (some ⟨g, 0, none⟩) 0 0) (by kernel_rfl) (frB_of hz36 (by simp)) ?_
        intro g39 w40 HB42 F41 le43 _
        have ne_g11_g39 : g11 ≠ g39 := Nat.ne_of_lt (Nat.lt_of_lt_of_le HB18.lt le43)
        have nin_g39_Fw : g39 ∉ Fw := new_nin HD.lt le43
        have nin_g39_Q33 : g39 ∉ Q33 := new_nin HQ34.lt le43
        have ge_HA_g39 := Nat.le_trans HA.size le43
        have gz_hz36_g39 := Nat.le_trans hz36 le43
        have HB18 := Blk.keep HB18 F41 (nin0 _)
        have HD := HD.keep F41 (fun _ _ => nin0 _)
        have HQ34 := HQ34.keep F41 (fun _ _ => nin0 _)
        have hz36 := Nat.le_trans hz36 F41.size
        have HA := Fr.step0 HA F41
        refine WO.fork2 2 8 (by kernel_rfl) ?_ ?_
        · skip
          have HR49 := RowB.of_blk (n := 0) HB42 (List.map cD []) rfl rfl (cD_len _) (cD_one _) (by omega)
          refine WO.appRow (SAx.nowR _ 2 _ (by kernel_rfl) rfl) 96 (n := 0) (m := ((es.map due).length)) (ys := List.map cD (es.map due)) et_d HR49 ((List.length_map _).trans ((rfl : List.length ([] : List Due) = 0))) (by rw [List.length_map] <;> first | rfl | omega | (simp <;> omega)) (HD.srcN (List.length_map _)) (cD_len _) (cD_one _) (by kernel_rfl) (by omega) (by omega) (frB_of hz36 (geC gz_hz36_g39 (by simp))) ?_
          intro b44 cap45 w46 HR47 F48 hb50
          have ne_g11_b44 : g11 ≠ b44 := hb50.elim (fun h => h ▸ ne_g11_g39) (fun h => Nat.ne_of_lt (Nat.lt_of_lt_of_le HB18.lt h))
          have nin_b44_Fw : b44 ∉ Fw := hb50.elim (fun h => h ▸ nin_g39_Fw) (fun h => new_nin HD.lt h)
          have nin_b44_Q33 : b44 ∉ Q33 := hb50.elim (fun h => h ▸ nin_g39_Q33) (fun h => new_nin HQ34.lt h)
          have gz_hz36_b44 := hb50.elim (fun h => (show _ ≤ b44 from h ▸ gz_hz36_g39)) (fun h => Nat.le_trans hz36 h)
          have in_HA_b44 : b44 ∈ [] ∨ (World.heap w).size ≤ b44 := hb50.elim (fun h => Or.inr (h ▸ ge_HA_g39)) (fun h => Or.inr (Nat.le_trans HA.size h))
          have HB18 := Blk.keep HB18 F48 (ninC ne_g11_g39 (nin0 _))
          have HD := HD.keep F48 (djB nin_g39_Fw)
          have HQ34 := HQ34.keep F48 (djB nin_g39_Q33)
          have hz36 := Nat.le_trans hz36 F48.size
          have HA := Fr.step HA F48 (inSR ge_HA_g39 inS0)
          have HR47 : RowB w46 b44 33 2 cap45 ((([] : List Due) ++ (es.map due)).map cD) := by rw [List.map_append]; exact HR47
          refine WO.bx (SAx.E (SA.E _ 8 _ (by kernel_rfl) rfl)) 102 #[.int .i64 dy, .int .i64 dz] 33 (fun g => .slice (some ⟨g, 0, none⟩) 1 1) (by kernel_rfl) (fun _ _ => trivial) ?_
          intro g51 w52 HB54 F53 le55 _
          have ne_g11_g51 : g11 ≠ g51 := Nat.ne_of_lt (Nat.lt_of_lt_of_le HB18.lt le55)
          have ne_b44_g51 : b44 ≠ g51 := Nat.ne_of_lt (Nat.lt_of_lt_of_le HR47.lt le55)
          have nin_g51_Fw : g51 ∉ Fw := new_nin HD.lt le55
          have nin_g51_Q33 : g51 ∉ Q33 := new_nin HQ34.lt le55
          have ge_HA_g51 := Nat.le_trans HA.size le55
          have gz_hz36_g51 := Nat.le_trans hz36 le55
          have HB18 := Blk.keep HB18 F53 (nin0 _)
          have HR47 := RowB.keep HR47 F53 (nin0 _)
          have HD := HD.keep F53 (fun _ _ => nin0 _)
          have HQ34 := HQ34.keep F53 (fun _ _ => nin0 _)
          have hz36 := Nat.le_trans hz36 F53.size
          have HA := Fr.step0 HA F53
          refine WO.appRow (SAx.E (SA.E _ 9 _ (by kernel_rfl) rfl)) 103 (n := (0 + ((es.map due).length))) (m := 1) (ys := List.map cD ([(⟨dy, dz⟩ : Due)])) et_d HR47 ((List.length_map _).trans ((show (([] : List Due) ++ (es.map due)).length = 0 + ((es.map due).length) by rw [List.length_append, (rfl : List.length ([] : List Due) = 0)]; first | rfl | (have := (rfl : List.length ([] : List Due) = 0); simp; omega)))) (by rw [List.length_map] <;> first | rfl | omega | (simp <;> omega)) (RowB.src (RowB.of_blk (n := 1) HB54 (List.map cD [(⟨dy, dz⟩ : Due)]) rfl rfl (cD_len _) (cD_one _) (by omega))) (cD_len _) (cD_one _) (by kernel_rfl) (by omega) (by omega) (fun _ _ => trivial) ?_
          intro b56 cap57 w58 HR59 F60 hb61
          have ne_g11_b56 : g11 ≠ b56 := hb61.elim (fun h => h ▸ ne_g11_b44) (fun h => Nat.ne_of_lt (Nat.lt_of_lt_of_le HB18.lt h))
          have ne_g51_b56 : g51 ≠ b56 := hb61.elim (fun h => h ▸ (Ne.symm ne_b44_g51)) (fun h => Nat.ne_of_lt (Nat.lt_of_lt_of_le HB54.lt h))
          have nin_b56_Fw : b56 ∉ Fw := hb61.elim (fun h => h ▸ nin_b44_Fw) (fun h => new_nin HD.lt h)
          have nin_b56_Q33 : b56 ∉ Q33 := hb61.elim (fun h => h ▸ nin_b44_Q33) (fun h => new_nin HQ34.lt h)
          have gz_hz36_b56 := hb61.elim (fun h => (show _ ≤ b56 from h ▸ gz_hz36_b44)) (fun h => Nat.le_trans hz36 h)
          have in_HA_b56 : b56 ∈ [] ∨ (World.heap w).size ≤ b56 := hb61.elim (fun h => (h ▸ in_HA_b44)) (fun h => Or.inr (Nat.le_trans HA.size h))
          have HB18 := Blk.keep HB18 F60 (ninC ne_g11_b44 (nin0 _))
          have HB54 := Blk.keep HB54 F60 (ninC (Ne.symm ne_b44_g51) (nin0 _))
          have HD := HD.keep F60 (djB nin_b44_Fw)
          have HQ34 := HQ34.keep F60 (djB nin_b44_Q33)
          have hz36 := Nat.le_trans hz36 F60.size
          have HA := Fr.step HA F60 (inSD in_HA_b44 inS0)
          have HR59 : RowB w58 b56 33 2 cap57 (((([] : List Due) ++ (es.map due)) ++ [(⟨dy, dz⟩ : Due)]).map cD) := by rw [List.map_append]; exact HR59
          refine WO.one (SAx.F (SA.F (frBR _) (frBT _) _ 10 _ (by kernel_rfl))) 5 (.slice (some ⟨b56, 0, none⟩) (0 + ((es.map due).length) + 1) cap57) (by kernel_rfl) ?_
          refine WO.doneX (by kernel_rfl) ?_
          refine WQ.keep [0, 2, 3, 4, 5, 6, 7, 8, 23, 32, 41, 71, 82, 88, 93] (e' := [(0, .slice (some ad) n0 cap0), (2, .bool false), (3, .bool true), (4, .pointer (some ⟨g3, 0, none⟩)), (5, .slice (some ⟨b56, 0, none⟩) (0 + ((es.map due).length) + 1) cap57), (6, .int .i64 (i : Int)), (7, .pointer (some ⟨g11, 0, none⟩)), (8, .nilIface), (23, .bool false), (32, .bool true), (41, .int .i64 ((pk dx 4 : Nat) : Int)), (71, .bool true), (82, .bool false), (88, .bool false), (93, .bool false)]) (by kernel_rfl) ?_
          refine WQ.blkN ?_
          refine WQ.thenN ?_
          refine WE.seq ?_
          have hRel2 := hRel.set dy dz
          have hql := setQ_len q ⟨dy, dz, t + 1⟩
          have hqe := hRel.len
          -- R43 law.go:111
          refine WE.region ?_
          refine WO.run 1 0 [(151, .pointer (some ⟨g3, 0, none⟩))] (by kernel_rfl) (by kernel_rfl) ?_
          refine WO.call (SQ.E 1 (by kernel_rfl)) 152 (by kernel_rfl) (len_q Q33 g3 (setQ q ⟨dy, dz, t + 1⟩) (t + 1) _ HQ34) ?_
          rintro _ w62 ⟨rfl, F63⟩
          refine ⟨_, rfl, trivial, ?_⟩
          have HB18 := Blk.keep HB18 F63 (nin0 _)
          have HB54 := Blk.keep HB54 F63 (nin0 _)
          have HR59 := RowB.keep HR59 F63 (nin0 _)
          have HD := HD.keep F63 (fun _ _ => nin0 _)
          have HQ34 := HQ34.keep F63 (fun _ _ => nin0 _)
          have HA := Fr.step0 HA F63
          refine WO.run 2 2 [(154, .int .i64 (0 + ((es.map due).length) + 1 : Int)), (153, .slice (some ⟨b56, 0, none⟩) (0 + ((es.map due).length) + 1) cap57)] (by kernel_rfl) (by kernel_rfl) ?_
          refine WO.one (SQ.F 4 (by kernel_rfl)) 155 (.bool (!decide ((((setQ q ⟨dy, dz, t + 1⟩).length : Int) : Int) = (0 + ((es.map due).length) + 1 : Int)))) (by kernel_rfl) ?_
          refine WO.topNT ((((setQ q ⟨dy, dz, t + 1⟩).length : Int) : Int) = (0 + ((es.map due).length) + 1 : Int)) (by omega) ?_
          refine WO.done (by kernel_rfl) ?_
          refine WQ.keep [0, 2, 3, 4, 5, 6, 7, 8, 23, 32, 41, 71, 82, 88, 93, 155] (e' := [(0, .slice (some ad) n0 cap0), (2, .bool false), (3, .bool true), (4, .pointer (some ⟨g3, 0, none⟩)), (5, .slice (some ⟨b56, 0, none⟩) (0 + ((es.map due).length) + 1) cap57), (6, .int .i64 (i : Int)), (7, .pointer (some ⟨g11, 0, none⟩)), (8, .nilIface), (23, .bool false), (32, .bool true), (41, .int .i64 ((pk dx 4 : Nat) : Int)), (71, .bool true), (82, .bool false), (88, .bool false), (93, .bool false), (155, .bool false)]) (by kernel_rfl) ?_
          refine WQ.thenN ?_
          refine WE.condF (by kernel_rfl) ?_
          refine WE.skip ?_
          refine WQ.blkN ?_
          refine WQ.thenN ?_
          -- R8 law.go:59
          refine WE.region ?_
          refine WO.run 1 0 [(33, .int .i64 (i : Int))] (by kernel_rfl) (by kernel_rfl) ?_
          refine WO.one (SQ.F 1 (by kernel_rfl)) 34 (.int .i64 (IntKind.i64.wrap ((i : Int) + 1))) (by kernel_rfl) ?_
          refine WO.top (v' := .int .i64 ((i + 1 : Nat) : Int)) (wrap_i64 (by omega) (by omega)) ?_
          refine WO.run 1 2 [(6, .int .i64 ((i + 1 : Nat) : Int))] (by kernel_rfl) (by kernel_rfl) ?_
          refine WO.done (by kernel_rfl) ?_
          refine WQ.keep [0, 2, 3, 4, 5, 6, 7, 8, 23, 32, 41, 71, 82, 88, 93, 155] (e' := [(0, .slice (some ad) n0 cap0), (2, .bool false), (3, .bool true), (4, .pointer (some ⟨g3, 0, none⟩)), (5, .slice (some ⟨b56, 0, none⟩) (0 + ((es.map due).length) + 1) cap57), (6, .int .i64 ((i + 1 : Nat) : Int)), (7, .pointer (some ⟨g11, 0, none⟩)), (8, .nilIface), (23, .bool false), (32, .bool true), (41, .int .i64 ((pk dx 4 : Nat) : Int)), (71, .bool true), (82, .bool false), (88, .bool false), (93, .bool false), (155, .bool false)]) (by kernel_rfl) ?_
          have hlst : ((([] : List Due) ++ (es.map due)) ++ [(⟨dy, dz⟩ : Due)]) = (es ++ [(⟨dy, dz, t + 1⟩ : Ent)]).map due := by simp [due]
          have hrow := HR59
          rw [hlst] at hrow
          have hln : 0 + ((es.map due).length) + 1 = ((es ++ [(⟨dy, dz, t + 1⟩ : Ent)]).map due).length := by rw [List.length_map]; simp <;> omega
          refine WQ.env (e' := [(0, .slice (some ad) n0 cap0), (2, .bool false), (3, .bool true), (4, .pointer (some ⟨g3, 0, none⟩)), (5, .slice (some ⟨b56, 0, none⟩) (((es ++ [(⟨dy, dz, t + 1⟩ : Ent)]).map due).length) cap57), (6, .int .i64 ((i + 1 : Nat) : Int)), (7, .pointer (some ⟨g11, 0, none⟩)), (8, .nilIface), (23, .bool false), (32, .bool true), (41, .int .i64 ((pk dx 4 : Nat) : Int)), (71, .bool true), (82, .bool false), (88, .bool false), (93, .bool false), (155, .bool false)]) (by rw [hln]) ?_
          refine WQ.round ?_
          intro a_ ha_
          refine ⟨(i + 1, Q33, (setQ q ⟨dy, dz, t + 1⟩), (t + 1), [b56], (es ++ [(⟨dy, dz, t + 1⟩ : Ent)]), (some ⟨b56, 0, none⟩), cap57), ?_, ha_.keep [0, 2, 3, 4, 5, 6, 23] (by kernel_rfl), ?_⟩
          · show n0 - (i + 1) < n0 - i; omega
          · exact ⟨by show i + 1 ≤ n0; omega, HQ34, OwnX.row hrow (List.length_map _), by intro y hy; obtain rfl : y = b56 := (by simpa using hy); exact nin_b56_Q33, ge_HA_Q33, by intro y hy; obtain rfl : y = b56 := (by simpa using hy); exact (in_HA_b56).resolve_left (by simp), hRel2, by show (es ++ [_]).length ≤ 50; rw [List.length_append]; simp; omega, by show (0 : Int) ≤ (t + 1); omega, by show (t + 1) ≤ ((i + 1 : Nat) : Int); omega, HA⟩
        · skip
          refine WO.bx (SAx.now _ 8 _ (by kernel_rfl) rfl) 102 #[.int .i64 dy, .int .i64 dz] 33 (fun g => .slice (some ⟨g, 0, none⟩) 1 1) (by kernel_rfl) (fun _ _ => trivial) ?_
          intro g64 w65 HB67 F66 le68 _
          have ne_g11_g64 : g11 ≠ g64 := Nat.ne_of_lt (Nat.lt_of_lt_of_le HB18.lt le68)
          have ne_g39_g64 : g39 ≠ g64 := Nat.ne_of_lt (Nat.lt_of_lt_of_le HB42.lt le68)
          have nin_g64_Fw : g64 ∉ Fw := new_nin HD.lt le68
          have nin_g64_Q33 : g64 ∉ Q33 := new_nin HQ34.lt le68
          have ge_HA_g64 := Nat.le_trans HA.size le68
          have gz_hz36_g64 := Nat.le_trans hz36 le68
          have HB18 := Blk.keep HB18 F66 (nin0 _)
          have HB42 := Blk.keep HB42 F66 (nin0 _)
          have HD := HD.keep F66 (fun _ _ => nin0 _)
          have HQ34 := HQ34.keep F66 (fun _ _ => nin0 _)
          have hz36 := Nat.le_trans hz36 F66.size
          have HA := Fr.step0 HA F66
          have HR74 := RowB.of_blk (n := 0) HB42 (List.map cD []) rfl rfl (cD_len _) (cD_one _) (by omega)
          refine WO.appRow (SAx.E (SA.ER _ 2 _ (by kernel_rfl) rfl)) 96 (n := 0) (m := ((es.map due).length)) (ys := List.map cD (es.map due)) et_d HR74 ((List.length_map _).trans ((rfl : List.length ([] : List Due) = 0))) (by rw [List.length_map] <;> first | rfl | omega | (simp <;> omega)) (HD.srcN (List.length_map _)) (cD_len _) (cD_one _) (by kernel_rfl) (by omega) (by omega) (frB_of hz36 (geC gz_hz36_g39 (by simp))) ?_
          intro b69 cap70 w71 HR72 F73 hb75
          have ne_g11_b69 : g11 ≠ b69 := hb75.elim (fun h => h ▸ ne_g11_g39) (fun h => Nat.ne_of_lt (Nat.lt_of_lt_of_le HB18.lt h))
          have ne_g64_b69 : g64 ≠ b69 := hb75.elim (fun h => h ▸ (Ne.symm ne_g39_g64)) (fun h => Nat.ne_of_lt (Nat.lt_of_lt_of_le HB67.lt h))
          have nin_b69_Fw : b69 ∉ Fw := hb75.elim (fun h => h ▸ nin_g39_Fw) (fun h => new_nin HD.lt h)
          have nin_b69_Q33 : b69 ∉ Q33 := hb75.elim (fun h => h ▸ nin_g39_Q33) (fun h => new_nin HQ34.lt h)
          have gz_hz36_b69 := hb75.elim (fun h => (show _ ≤ b69 from h ▸ gz_hz36_g39)) (fun h => Nat.le_trans hz36 h)
          have in_HA_b69 : b69 ∈ [] ∨ (World.heap w).size ≤ b69 := hb75.elim (fun h => Or.inr (h ▸ ge_HA_g39)) (fun h => Or.inr (Nat.le_trans HA.size h))
          have HB18 := Blk.keep HB18 F73 (ninC ne_g11_g39 (nin0 _))
          have HB67 := Blk.keep HB67 F73 (ninC (Ne.symm ne_g39_g64) (nin0 _))
          have HD := HD.keep F73 (djB nin_g39_Fw)
          have HQ34 := HQ34.keep F73 (djB nin_g39_Q33)
          have hz36 := Nat.le_trans hz36 F73.size
          have HA := Fr.step HA F73 (inSR ge_HA_g39 inS0)
          have HR72 : RowB w71 b69 33 2 cap70 ((([] : List Due) ++ (es.map due)).map cD) := by rw [List.map_append]; exact HR72
          refine WO.appRow (SAx.E (SA.E _ 9 _ (by kernel_rfl) rfl)) 103 (n := (0 + ((es.map due).length))) (m := 1) (ys := List.map cD ([(⟨dy, dz⟩ : Due)])) et_d HR72 ((List.length_map _).trans ((show (([] : List Due) ++ (es.map due)).length = 0 + ((es.map due).length) by rw [List.length_append, (rfl : List.length ([] : List Due) = 0)]; first | rfl | (have := (rfl : List.length ([] : List Due) = 0); simp; omega)))) (by rw [List.length_map] <;> first | rfl | omega | (simp <;> omega)) (RowB.src (RowB.of_blk (n := 1) HB67 (List.map cD [(⟨dy, dz⟩ : Due)]) rfl rfl (cD_len _) (cD_one _) (by omega))) (cD_len _) (cD_one _) (by kernel_rfl) (by omega) (by omega) (fun _ _ => trivial) ?_
          intro b76 cap77 w78 HR79 F80 hb81
          have ne_g11_b76 : g11 ≠ b76 := hb81.elim (fun h => h ▸ ne_g11_b69) (fun h => Nat.ne_of_lt (Nat.lt_of_lt_of_le HB18.lt h))
          have ne_g64_b76 : g64 ≠ b76 := hb81.elim (fun h => h ▸ ne_g64_b69) (fun h => Nat.ne_of_lt (Nat.lt_of_lt_of_le HB67.lt h))
          have nin_b76_Fw : b76 ∉ Fw := hb81.elim (fun h => h ▸ nin_b69_Fw) (fun h => new_nin HD.lt h)
          have nin_b76_Q33 : b76 ∉ Q33 := hb81.elim (fun h => h ▸ nin_b69_Q33) (fun h => new_nin HQ34.lt h)
          have gz_hz36_b76 := hb81.elim (fun h => (show _ ≤ b76 from h ▸ gz_hz36_b69)) (fun h => Nat.le_trans hz36 h)
          have in_HA_b76 : b76 ∈ [] ∨ (World.heap w).size ≤ b76 := hb81.elim (fun h => (h ▸ in_HA_b69)) (fun h => Or.inr (Nat.le_trans HA.size h))
          have HB18 := Blk.keep HB18 F80 (ninC ne_g11_b69 (nin0 _))
          have HB67 := Blk.keep HB67 F80 (ninC ne_g64_b69 (nin0 _))
          have HD := HD.keep F80 (djB nin_b69_Fw)
          have HQ34 := HQ34.keep F80 (djB nin_b69_Q33)
          have hz36 := Nat.le_trans hz36 F80.size
          have HA := Fr.step HA F80 (inSD in_HA_b69 inS0)
          have HR79 : RowB w78 b76 33 2 cap77 (((([] : List Due) ++ (es.map due)) ++ [(⟨dy, dz⟩ : Due)]).map cD) := by rw [List.map_append]; exact HR79
          refine WO.one (SAx.F (SA.F (frBR _) (frBT _) _ 10 _ (by kernel_rfl))) 5 (.slice (some ⟨b76, 0, none⟩) (0 + ((es.map due).length) + 1) cap77) (by kernel_rfl) ?_
          refine WO.doneX (by kernel_rfl) ?_
          refine WQ.keep [0, 2, 3, 4, 5, 6, 7, 8, 23, 32, 41, 71, 82, 88, 93] (e' := [(0, .slice (some ad) n0 cap0), (2, .bool false), (3, .bool true), (4, .pointer (some ⟨g3, 0, none⟩)), (5, .slice (some ⟨b76, 0, none⟩) (0 + ((es.map due).length) + 1) cap77), (6, .int .i64 (i : Int)), (7, .pointer (some ⟨g11, 0, none⟩)), (8, .nilIface), (23, .bool false), (32, .bool true), (41, .int .i64 ((pk dx 4 : Nat) : Int)), (71, .bool true), (82, .bool false), (88, .bool false), (93, .bool false)]) (by kernel_rfl) ?_
          refine WQ.blkN ?_
          refine WQ.thenN ?_
          refine WE.seq ?_
          have hRel2 := hRel.set dy dz
          have hql := setQ_len q ⟨dy, dz, t + 1⟩
          have hqe := hRel.len
          -- R43 law.go:111
          refine WE.region ?_
          refine WO.run 1 0 [(151, .pointer (some ⟨g3, 0, none⟩))] (by kernel_rfl) (by kernel_rfl) ?_
          refine WO.call (SQ.E 1 (by kernel_rfl)) 152 (by kernel_rfl) (len_q Q33 g3 (setQ q ⟨dy, dz, t + 1⟩) (t + 1) _ HQ34) ?_
          rintro _ w82 ⟨rfl, F83⟩
          refine ⟨_, rfl, trivial, ?_⟩
          have HB18 := Blk.keep HB18 F83 (nin0 _)
          have HB67 := Blk.keep HB67 F83 (nin0 _)
          have HR79 := RowB.keep HR79 F83 (nin0 _)
          have HD := HD.keep F83 (fun _ _ => nin0 _)
          have HQ34 := HQ34.keep F83 (fun _ _ => nin0 _)
          have HA := Fr.step0 HA F83
          refine WO.run 2 2 [(154, .int .i64 (0 + ((es.map due).length) + 1 : Int)), (153, .slice (some ⟨b76, 0, none⟩) (0 + ((es.map due).length) + 1) cap77)] (by kernel_rfl) (by kernel_rfl) ?_
          refine WO.one (SQ.F 4 (by kernel_rfl)) 155 (.bool (!decide ((((setQ q ⟨dy, dz, t + 1⟩).length : Int) : Int) = (0 + ((es.map due).length) + 1 : Int)))) (by kernel_rfl) ?_
          refine WO.topNT ((((setQ q ⟨dy, dz, t + 1⟩).length : Int) : Int) = (0 + ((es.map due).length) + 1 : Int)) (by omega) ?_
          refine WO.done (by kernel_rfl) ?_
          refine WQ.keep [0, 2, 3, 4, 5, 6, 7, 8, 23, 32, 41, 71, 82, 88, 93, 155] (e' := [(0, .slice (some ad) n0 cap0), (2, .bool false), (3, .bool true), (4, .pointer (some ⟨g3, 0, none⟩)), (5, .slice (some ⟨b76, 0, none⟩) (0 + ((es.map due).length) + 1) cap77), (6, .int .i64 (i : Int)), (7, .pointer (some ⟨g11, 0, none⟩)), (8, .nilIface), (23, .bool false), (32, .bool true), (41, .int .i64 ((pk dx 4 : Nat) : Int)), (71, .bool true), (82, .bool false), (88, .bool false), (93, .bool false), (155, .bool false)]) (by kernel_rfl) ?_
          refine WQ.thenN ?_
          refine WE.condF (by kernel_rfl) ?_
          refine WE.skip ?_
          refine WQ.blkN ?_
          refine WQ.thenN ?_
          -- R8 law.go:59
          refine WE.region ?_
          refine WO.run 1 0 [(33, .int .i64 (i : Int))] (by kernel_rfl) (by kernel_rfl) ?_
          refine WO.one (SQ.F 1 (by kernel_rfl)) 34 (.int .i64 (IntKind.i64.wrap ((i : Int) + 1))) (by kernel_rfl) ?_
          refine WO.top (v' := .int .i64 ((i + 1 : Nat) : Int)) (wrap_i64 (by omega) (by omega)) ?_
          refine WO.run 1 2 [(6, .int .i64 ((i + 1 : Nat) : Int))] (by kernel_rfl) (by kernel_rfl) ?_
          refine WO.done (by kernel_rfl) ?_
          refine WQ.keep [0, 2, 3, 4, 5, 6, 7, 8, 23, 32, 41, 71, 82, 88, 93, 155] (e' := [(0, .slice (some ad) n0 cap0), (2, .bool false), (3, .bool true), (4, .pointer (some ⟨g3, 0, none⟩)), (5, .slice (some ⟨b76, 0, none⟩) (0 + ((es.map due).length) + 1) cap77), (6, .int .i64 ((i + 1 : Nat) : Int)), (7, .pointer (some ⟨g11, 0, none⟩)), (8, .nilIface), (23, .bool false), (32, .bool true), (41, .int .i64 ((pk dx 4 : Nat) : Int)), (71, .bool true), (82, .bool false), (88, .bool false), (93, .bool false), (155, .bool false)]) (by kernel_rfl) ?_
          have hlst : ((([] : List Due) ++ (es.map due)) ++ [(⟨dy, dz⟩ : Due)]) = (es ++ [(⟨dy, dz, t + 1⟩ : Ent)]).map due := by simp [due]
          have hrow := HR79
          rw [hlst] at hrow
          have hln : 0 + ((es.map due).length) + 1 = ((es ++ [(⟨dy, dz, t + 1⟩ : Ent)]).map due).length := by rw [List.length_map]; simp <;> omega
          refine WQ.env (e' := [(0, .slice (some ad) n0 cap0), (2, .bool false), (3, .bool true), (4, .pointer (some ⟨g3, 0, none⟩)), (5, .slice (some ⟨b76, 0, none⟩) (((es ++ [(⟨dy, dz, t + 1⟩ : Ent)]).map due).length) cap77), (6, .int .i64 ((i + 1 : Nat) : Int)), (7, .pointer (some ⟨g11, 0, none⟩)), (8, .nilIface), (23, .bool false), (32, .bool true), (41, .int .i64 ((pk dx 4 : Nat) : Int)), (71, .bool true), (82, .bool false), (88, .bool false), (93, .bool false), (155, .bool false)]) (by rw [hln]) ?_
          refine WQ.round ?_
          intro a_ ha_
          refine ⟨(i + 1, Q33, (setQ q ⟨dy, dz, t + 1⟩), (t + 1), [b76], (es ++ [(⟨dy, dz, t + 1⟩ : Ent)]), (some ⟨b76, 0, none⟩), cap77), ?_, ha_.keep [0, 2, 3, 4, 5, 6, 23] (by kernel_rfl), ?_⟩
          · show n0 - (i + 1) < n0 - i; omega
          · exact ⟨by show i + 1 ≤ n0; omega, HQ34, OwnX.row hrow (List.length_map _), by intro y hy; obtain rfl : y = b76 := (by simpa using hy); exact nin_b76_Q33, ge_HA_Q33, by intro y hy; obtain rfl : y = b76 := (by simpa using hy); exact (in_HA_b76).resolve_left (by simp), hRel2, by show (es ++ [_]).length ≤ 50; rw [List.length_append]; simp; omega, by show (0 : Int) ≤ (t + 1); omega, by show (t + 1) ≤ ((i + 1 : Nat) : Int); omega, HA⟩
      · skip
        refine WO.bx (SAx.now _ 8 _ (by kernel_rfl) rfl) 102 #[.int .i64 dy, .int .i64 dz] 33 (fun g => .slice (some ⟨g, 0, none⟩) 1 1) (by kernel_rfl) (fun _ _ => trivial) ?_
        intro g84 w85 HB87 F86 le88 _
        have ne_g11_g84 : g11 ≠ g84 := Nat.ne_of_lt (Nat.lt_of_lt_of_le HB18.lt le88)
        have nin_g84_Fw : g84 ∉ Fw := new_nin HD.lt le88
        have nin_g84_Q33 : g84 ∉ Q33 := new_nin HQ34.lt le88
        have ge_HA_g84 := Nat.le_trans HA.size le88
        have gz_hz36_g84 := Nat.le_trans hz36 le88
        have HB18 := Blk.keep HB18 F86 (nin0 _)
        have HD := HD.keep F86 (fun _ _ => nin0 _)
        have HQ34 := HQ34.keep F86 (fun _ _ => nin0 _)
        have hz36 := Nat.le_trans hz36 F86.size
        have HA := Fr.step0 HA F86
        refine WO.bx (SAx.E (SA.ER _ 0 _ (by kernel_rfl) rfl)) 94 #[] 33 (fun g => .slice (some ⟨g, 0, none⟩) 0 0) (by kernel_rfl) (frB_of hz36 (by simp)) ?_
        intro g89 w90 HB92 F91 le93 _
        have ne_g11_g89 : g11 ≠ g89 := Nat.ne_of_lt (Nat.lt_of_lt_of_le HB18.lt le93)
        have ne_g84_g89 : g84 ≠ g89 := Nat.ne_of_lt (Nat.lt_of_lt_of_le HB87.lt le93)
        have nin_g89_Fw : g89 ∉ Fw := new_nin HD.lt le93
        have nin_g89_Q33 : g89 ∉ Q33 := new_nin HQ34.lt le93
        have ge_HA_g89 := Nat.le_trans HA.size le93
        have gz_hz36_g89 := Nat.le_trans hz36 le93
        have HB18 := Blk.keep HB18 F91 (nin0 _)
        have HB87 := Blk.keep HB87 F91 (nin0 _)
        have HD := HD.keep F91 (fun _ _ => nin0 _)
        have HQ34 := HQ34.keep F91 (fun _ _ => nin0 _)
        have hz36 := Nat.le_trans hz36 F91.size
        have HA := Fr.step0 HA F91
        have HR99 := RowB.of_blk (n := 0) HB92 (List.map cD []) rfl rfl (cD_len _) (cD_one _) (by omega)
        refine WO.appRow (SAx.E (SA.ER _ 2 _ (by kernel_rfl) rfl)) 96 (n := 0) (m := ((es.map due).length)) (ys := List.map cD (es.map due)) et_d HR99 ((List.length_map _).trans ((rfl : List.length ([] : List Due) = 0))) (by rw [List.length_map] <;> first | rfl | omega | (simp <;> omega)) (HD.srcN (List.length_map _)) (cD_len _) (cD_one _) (by kernel_rfl) (by omega) (by omega) (frB_of hz36 (geC gz_hz36_g89 (by simp))) ?_
        intro b94 cap95 w96 HR97 F98 hb100
        have ne_g11_b94 : g11 ≠ b94 := hb100.elim (fun h => h ▸ ne_g11_g89) (fun h => Nat.ne_of_lt (Nat.lt_of_lt_of_le HB18.lt h))
        have ne_g84_b94 : g84 ≠ b94 := hb100.elim (fun h => h ▸ ne_g84_g89) (fun h => Nat.ne_of_lt (Nat.lt_of_lt_of_le HB87.lt h))
        have nin_b94_Fw : b94 ∉ Fw := hb100.elim (fun h => h ▸ nin_g89_Fw) (fun h => new_nin HD.lt h)
        have nin_b94_Q33 : b94 ∉ Q33 := hb100.elim (fun h => h ▸ nin_g89_Q33) (fun h => new_nin HQ34.lt h)
        have gz_hz36_b94 := hb100.elim (fun h => (show _ ≤ b94 from h ▸ gz_hz36_g89)) (fun h => Nat.le_trans hz36 h)
        have in_HA_b94 : b94 ∈ [] ∨ (World.heap w).size ≤ b94 := hb100.elim (fun h => Or.inr (h ▸ ge_HA_g89)) (fun h => Or.inr (Nat.le_trans HA.size h))
        have HB18 := Blk.keep HB18 F98 (ninC ne_g11_g89 (nin0 _))
        have HB87 := Blk.keep HB87 F98 (ninC ne_g84_g89 (nin0 _))
        have HD := HD.keep F98 (djB nin_g89_Fw)
        have HQ34 := HQ34.keep F98 (djB nin_g89_Q33)
        have hz36 := Nat.le_trans hz36 F98.size
        have HA := Fr.step HA F98 (inSR ge_HA_g89 inS0)
        have HR97 : RowB w96 b94 33 2 cap95 ((([] : List Due) ++ (es.map due)).map cD) := by rw [List.map_append]; exact HR97
        refine WO.appRow (SAx.E (SA.E _ 9 _ (by kernel_rfl) rfl)) 103 (n := (0 + ((es.map due).length))) (m := 1) (ys := List.map cD ([(⟨dy, dz⟩ : Due)])) et_d HR97 ((List.length_map _).trans ((show (([] : List Due) ++ (es.map due)).length = 0 + ((es.map due).length) by rw [List.length_append, (rfl : List.length ([] : List Due) = 0)]; first | rfl | (have := (rfl : List.length ([] : List Due) = 0); simp; omega)))) (by rw [List.length_map] <;> first | rfl | omega | (simp <;> omega)) (RowB.src (RowB.of_blk (n := 1) HB87 (List.map cD [(⟨dy, dz⟩ : Due)]) rfl rfl (cD_len _) (cD_one _) (by omega))) (cD_len _) (cD_one _) (by kernel_rfl) (by omega) (by omega) (fun _ _ => trivial) ?_
        intro b101 cap102 w103 HR104 F105 hb106
        have ne_g11_b101 : g11 ≠ b101 := hb106.elim (fun h => h ▸ ne_g11_b94) (fun h => Nat.ne_of_lt (Nat.lt_of_lt_of_le HB18.lt h))
        have ne_g84_b101 : g84 ≠ b101 := hb106.elim (fun h => h ▸ ne_g84_b94) (fun h => Nat.ne_of_lt (Nat.lt_of_lt_of_le HB87.lt h))
        have nin_b101_Fw : b101 ∉ Fw := hb106.elim (fun h => h ▸ nin_b94_Fw) (fun h => new_nin HD.lt h)
        have nin_b101_Q33 : b101 ∉ Q33 := hb106.elim (fun h => h ▸ nin_b94_Q33) (fun h => new_nin HQ34.lt h)
        have gz_hz36_b101 := hb106.elim (fun h => (show _ ≤ b101 from h ▸ gz_hz36_b94)) (fun h => Nat.le_trans hz36 h)
        have in_HA_b101 : b101 ∈ [] ∨ (World.heap w).size ≤ b101 := hb106.elim (fun h => (h ▸ in_HA_b94)) (fun h => Or.inr (Nat.le_trans HA.size h))
        have HB18 := Blk.keep HB18 F105 (ninC ne_g11_b94 (nin0 _))
        have HB87 := Blk.keep HB87 F105 (ninC ne_g84_b94 (nin0 _))
        have HD := HD.keep F105 (djB nin_b94_Fw)
        have HQ34 := HQ34.keep F105 (djB nin_b94_Q33)
        have hz36 := Nat.le_trans hz36 F105.size
        have HA := Fr.step HA F105 (inSD in_HA_b94 inS0)
        have HR104 : RowB w103 b101 33 2 cap102 (((([] : List Due) ++ (es.map due)) ++ [(⟨dy, dz⟩ : Due)]).map cD) := by rw [List.map_append]; exact HR104
        refine WO.one (SAx.F (SA.F (frBR _) (frBT _) _ 10 _ (by kernel_rfl))) 5 (.slice (some ⟨b101, 0, none⟩) (0 + ((es.map due).length) + 1) cap102) (by kernel_rfl) ?_
        refine WO.doneX (by kernel_rfl) ?_
        refine WQ.keep [0, 2, 3, 4, 5, 6, 7, 8, 23, 32, 41, 71, 82, 88, 93] (e' := [(0, .slice (some ad) n0 cap0), (2, .bool false), (3, .bool true), (4, .pointer (some ⟨g3, 0, none⟩)), (5, .slice (some ⟨b101, 0, none⟩) (0 + ((es.map due).length) + 1) cap102), (6, .int .i64 (i : Int)), (7, .pointer (some ⟨g11, 0, none⟩)), (8, .nilIface), (23, .bool false), (32, .bool true), (41, .int .i64 ((pk dx 4 : Nat) : Int)), (71, .bool true), (82, .bool false), (88, .bool false), (93, .bool false)]) (by kernel_rfl) ?_
        refine WQ.blkN ?_
        refine WQ.thenN ?_
        refine WE.seq ?_
        have hRel2 := hRel.set dy dz
        have hql := setQ_len q ⟨dy, dz, t + 1⟩
        have hqe := hRel.len
        -- R43 law.go:111
        refine WE.region ?_
        refine WO.run 1 0 [(151, .pointer (some ⟨g3, 0, none⟩))] (by kernel_rfl) (by kernel_rfl) ?_
        refine WO.call (SQ.E 1 (by kernel_rfl)) 152 (by kernel_rfl) (len_q Q33 g3 (setQ q ⟨dy, dz, t + 1⟩) (t + 1) _ HQ34) ?_
        rintro _ w107 ⟨rfl, F108⟩
        refine ⟨_, rfl, trivial, ?_⟩
        have HB18 := Blk.keep HB18 F108 (nin0 _)
        have HB87 := Blk.keep HB87 F108 (nin0 _)
        have HR104 := RowB.keep HR104 F108 (nin0 _)
        have HD := HD.keep F108 (fun _ _ => nin0 _)
        have HQ34 := HQ34.keep F108 (fun _ _ => nin0 _)
        have HA := Fr.step0 HA F108
        refine WO.run 2 2 [(154, .int .i64 (0 + ((es.map due).length) + 1 : Int)), (153, .slice (some ⟨b101, 0, none⟩) (0 + ((es.map due).length) + 1) cap102)] (by kernel_rfl) (by kernel_rfl) ?_
        refine WO.one (SQ.F 4 (by kernel_rfl)) 155 (.bool (!decide ((((setQ q ⟨dy, dz, t + 1⟩).length : Int) : Int) = (0 + ((es.map due).length) + 1 : Int)))) (by kernel_rfl) ?_
        refine WO.topNT ((((setQ q ⟨dy, dz, t + 1⟩).length : Int) : Int) = (0 + ((es.map due).length) + 1 : Int)) (by omega) ?_
        refine WO.done (by kernel_rfl) ?_
        refine WQ.keep [0, 2, 3, 4, 5, 6, 7, 8, 23, 32, 41, 71, 82, 88, 93, 155] (e' := [(0, .slice (some ad) n0 cap0), (2, .bool false), (3, .bool true), (4, .pointer (some ⟨g3, 0, none⟩)), (5, .slice (some ⟨b101, 0, none⟩) (0 + ((es.map due).length) + 1) cap102), (6, .int .i64 (i : Int)), (7, .pointer (some ⟨g11, 0, none⟩)), (8, .nilIface), (23, .bool false), (32, .bool true), (41, .int .i64 ((pk dx 4 : Nat) : Int)), (71, .bool true), (82, .bool false), (88, .bool false), (93, .bool false), (155, .bool false)]) (by kernel_rfl) ?_
        refine WQ.thenN ?_
        refine WE.condF (by kernel_rfl) ?_
        refine WE.skip ?_
        refine WQ.blkN ?_
        refine WQ.thenN ?_
        -- R8 law.go:59
        refine WE.region ?_
        refine WO.run 1 0 [(33, .int .i64 (i : Int))] (by kernel_rfl) (by kernel_rfl) ?_
        refine WO.one (SQ.F 1 (by kernel_rfl)) 34 (.int .i64 (IntKind.i64.wrap ((i : Int) + 1))) (by kernel_rfl) ?_
        refine WO.top (v' := .int .i64 ((i + 1 : Nat) : Int)) (wrap_i64 (by omega) (by omega)) ?_
        refine WO.run 1 2 [(6, .int .i64 ((i + 1 : Nat) : Int))] (by kernel_rfl) (by kernel_rfl) ?_
        refine WO.done (by kernel_rfl) ?_
        refine WQ.keep [0, 2, 3, 4, 5, 6, 7, 8, 23, 32, 41, 71, 82, 88, 93, 155] (e' := [(0, .slice (some ad) n0 cap0), (2, .bool false), (3, .bool true), (4, .pointer (some ⟨g3, 0, none⟩)), (5, .slice (some ⟨b101, 0, none⟩) (0 + ((es.map due).length) + 1) cap102), (6, .int .i64 ((i + 1 : Nat) : Int)), (7, .pointer (some ⟨g11, 0, none⟩)), (8, .nilIface), (23, .bool false), (32, .bool true), (41, .int .i64 ((pk dx 4 : Nat) : Int)), (71, .bool true), (82, .bool false), (88, .bool false), (93, .bool false), (155, .bool false)]) (by kernel_rfl) ?_
        have hlst : ((([] : List Due) ++ (es.map due)) ++ [(⟨dy, dz⟩ : Due)]) = (es ++ [(⟨dy, dz, t + 1⟩ : Ent)]).map due := by simp [due]
        have hrow := HR104
        rw [hlst] at hrow
        have hln : 0 + ((es.map due).length) + 1 = ((es ++ [(⟨dy, dz, t + 1⟩ : Ent)]).map due).length := by rw [List.length_map]; simp <;> omega
        refine WQ.env (e' := [(0, .slice (some ad) n0 cap0), (2, .bool false), (3, .bool true), (4, .pointer (some ⟨g3, 0, none⟩)), (5, .slice (some ⟨b101, 0, none⟩) (((es ++ [(⟨dy, dz, t + 1⟩ : Ent)]).map due).length) cap102), (6, .int .i64 ((i + 1 : Nat) : Int)), (7, .pointer (some ⟨g11, 0, none⟩)), (8, .nilIface), (23, .bool false), (32, .bool true), (41, .int .i64 ((pk dx 4 : Nat) : Int)), (71, .bool true), (82, .bool false), (88, .bool false), (93, .bool false), (155, .bool false)]) (by rw [hln]) ?_
        refine WQ.round ?_
        intro a_ ha_
        refine ⟨(i + 1, Q33, (setQ q ⟨dy, dz, t + 1⟩), (t + 1), [b101], (es ++ [(⟨dy, dz, t + 1⟩ : Ent)]), (some ⟨b101, 0, none⟩), cap102), ?_, ha_.keep [0, 2, 3, 4, 5, 6, 23] (by kernel_rfl), ?_⟩
        · show n0 - (i + 1) < n0 - i; omega
        · exact ⟨by show i + 1 ≤ n0; omega, HQ34, OwnX.row hrow (List.length_map _), by intro y hy; obtain rfl : y = b101 := (by simpa using hy); exact nin_b101_Q33, ge_HA_Q33, by intro y hy; obtain rfl : y = b101 := (by simpa using hy); exact (in_HA_b101).resolve_left (by simp), hRel2, by show (es ++ [_]).length ≤ 50; rw [List.length_append]; simp; omega, by show (0 : Int) ≤ (t + 1); omega, by show (t + 1) ≤ ((i + 1 : Nat) : Int); omega, HA⟩
    · intro h22
      refine WO.run 1 1 [(71, .bool false)] (by kernel_rfl) (by kernel_rfl) ?_
      refine WO.done (by kernel_rfl) ?_
      refine WQ.keep [0, 2, 3, 4, 5, 6, 7, 23, 32, 41, 71] (e' := [(0, .slice (some ad) n0 cap0), (2, .bool false), (3, .bool true), (4, .pointer (some ⟨g3, 0, none⟩)), (5, .slice A ((es.map due).length) cap), (6, .int .i64 (i : Int)), (7, .pointer (some ⟨g11, 0, none⟩)), (23, .bool false), (32, .bool true), (41, .int .i64 ((pk dx 4 : Nat) : Int)), (71, .bool false)]) (by kernel_rfl) ?_
      refine WQ.thenN ?_
      refine WE.condF (by kernel_rfl) ?_
      -- R18 law.go:62
      refine WE.region ?_
      refine WO.one (SQ.F 0 (by kernel_rfl)) 73 (.bool (decide ((((pk dx 4) : Int) : Int) = (1 : Int)))) (by kernel_rfl) ?_
      refine WO.topP ((((pk dx 4) : Int) : Int) = (1 : Int)) ?_ ?_
      · intro h109
        refine WO.run 1 1 [(71, .bool true)] (by kernel_rfl) (by kernel_rfl) ?_
        refine WO.done (by kernel_rfl) ?_
        refine WQ.keep [0, 2, 3, 4, 5, 6, 7, 23, 32, 41, 71] (e' := [(0, .slice (some ad) n0 cap0), (2, .bool false), (3, .bool true), (4, .pointer (some ⟨g3, 0, none⟩)), (5, .slice A ((es.map due).length) cap), (6, .int .i64 (i : Int)), (7, .pointer (some ⟨g11, 0, none⟩)), (23, .bool false), (32, .bool true), (41, .int .i64 ((pk dx 4 : Nat) : Int)), (71, .bool true)]) (by kernel_rfl) ?_
        refine WQ.thenN ?_
        refine WE.condT (by kernel_rfl) ?_
        refine WE.seq ?_
        by_cases hy : dy < 0
        · skip
          -- R19 law.go:63
          refine WE.region ?_
          refine WO.run 2 0 [(75, .pointer (some ⟨g11, 1, none⟩)), (74, .pointer (some ⟨g3, 0, none⟩))] (by kernel_rfl) (by kernel_rfl) ?_
          refine WO.ld (SQ.S 2 (by kernel_rfl)) 76 (.int .i64 dy) (by kernel_rfl) (same (HB18.at 1 (by kernel_rfl))) ?_
          refine WO.run 1 3 [(77, .pointer (some ⟨g11, 2, none⟩))] (by kernel_rfl) (by kernel_rfl) ?_
          refine WO.ld (SQ.S 4 (by kernel_rfl)) 78 (.int .i64 dz) (by kernel_rfl) (same (HB18.at 2 (by kernel_rfl))) ?_
          refine WO.call (SQ.E 5 (by kernel_rfl)) 79 (by kernel_rfl) (set_neg (some ⟨g3, 0, none⟩) dy dz _ (by omega)) ?_
          rintro _ w110 ⟨rfl, F111⟩
          refine ⟨_, rfl, trivial, ?_⟩
          have HB18 := Blk.keep HB18 F111 (nin0 _)
          have HQ := HQ.keep F111 (fun _ _ => nin0 _)
          have HD := HD.keep F111 (fun _ _ => nin0 _)
          have HA := Fr.step0 HA F111
          refine WO.run 1 6 [(8, .iface 39 (.int .i64 1))] (by kernel_rfl) (by kernel_rfl) ?_
          refine WO.done (by kernel_rfl) ?_
          refine WQ.keep [0, 2, 3, 4, 5, 6, 7, 8, 23, 32, 41, 71] (e' := [(0, .slice (some ad) n0 cap0), (2, .bool false), (3, .bool true), (4, .pointer (some ⟨g3, 0, none⟩)), (5, .slice A ((es.map due).length) cap), (6, .int .i64 (i : Int)), (7, .pointer (some ⟨g11, 0, none⟩)), (8, .iface 39 (.int .i64 1)), (23, .bool false), (32, .bool true), (41, .int .i64 ((pk dx 4 : Nat) : Int)), (71, .bool true)]) (by kernel_rfl) ?_
          refine WQ.thenN ?_
          refine WE.seq ?_
          -- R20 law.go:64
          refine WE.region ?_
          refine WO.run 1 0 [(80, .pointer (some ⟨g11, 1, none⟩))] (by kernel_rfl) (by kernel_rfl) ?_
          refine WO.ld (SQ.S 1 (by kernel_rfl)) 81 (.int .i64 dy) (by kernel_rfl) (same (HB18.at 1 (by kernel_rfl))) ?_
          refine WO.one (SQ.F 2 (by kernel_rfl)) 82 (.bool (decide ((dy : Int) < 0))) (by kernel_rfl) ?_
          refine WO.topPT ((dy : Int) < 0) (by omega) ?_
          refine WO.done (by kernel_rfl) ?_
          refine WQ.keep [0, 2, 3, 4, 5, 6, 7, 8, 23, 32, 41, 71, 82] (e' := [(0, .slice (some ad) n0 cap0), (2, .bool false), (3, .bool true), (4, .pointer (some ⟨g3, 0, none⟩)), (5, .slice A ((es.map due).length) cap), (6, .int .i64 (i : Int)), (7, .pointer (some ⟨g11, 0, none⟩)), (8, .iface 39 (.int .i64 1)), (23, .bool false), (32, .bool true), (41, .int .i64 ((pk dx 4 : Nat) : Int)), (71, .bool true), (82, .bool true)]) (by kernel_rfl) ?_
          refine WQ.thenN ?_
          refine WE.condT (by kernel_rfl) ?_
          refine WE.seq ?_
          -- R21 law.go:65
          refine WE.region ?_
          refine WO.run 3 0 [(85, .bool false), (84, .iface 39 (.int .i64 1)), (83, .iface 39 (.int .i64 1))] (by kernel_rfl) (by kernel_rfl) ?_
          refine WO.done (by kernel_rfl) ?_
          refine WQ.keep [0, 2, 3, 4, 5, 6, 7, 8, 23, 32, 41, 71, 82, 85] (e' := [(0, .slice (some ad) n0 cap0), (2, .bool false), (3, .bool true), (4, .pointer (some ⟨g3, 0, none⟩)), (5, .slice A ((es.map due).length) cap), (6, .int .i64 (i : Int)), (7, .pointer (some ⟨g11, 0, none⟩)), (8, .iface 39 (.int .i64 1)), (23, .bool false), (32, .bool true), (41, .int .i64 ((pk dx 4 : Nat) : Int)), (71, .bool true), (82, .bool true), (85, .bool false)]) (by kernel_rfl) ?_
          refine WQ.thenN ?_
          refine WE.condF (by kernel_rfl) ?_
          refine WE.skip ?_
          refine WQ.blkN ?_
          refine WQ.thenN ?_
          refine WE.seq ?_
          have hqe := hRel.len
          -- R43 law.go:111
          refine WE.region ?_
          refine WO.run 1 0 [(151, .pointer (some ⟨g3, 0, none⟩))] (by kernel_rfl) (by kernel_rfl) ?_
          refine WO.call (SQ.E 1 (by kernel_rfl)) 152 (by kernel_rfl) (len_q F g3 q t _ HQ) ?_
          rintro _ w112 ⟨rfl, F113⟩
          refine ⟨_, rfl, trivial, ?_⟩
          have HB18 := Blk.keep HB18 F113 (nin0 _)
          have HQ := HQ.keep F113 (fun _ _ => nin0 _)
          have HD := HD.keep F113 (fun _ _ => nin0 _)
          have HA := Fr.step0 HA F113
          refine WO.run 2 2 [(154, .int .i64 ((es.map due).length : Int)), (153, .slice A ((es.map due).length) cap)] (by kernel_rfl) (by kernel_rfl) ?_
          refine WO.one (SQ.F 4 (by kernel_rfl)) 155 (.bool (!decide (((q.length : Int) : Int) = ((es.map due).length : Int)))) (by kernel_rfl) ?_
          refine WO.topNT (((q.length : Int) : Int) = ((es.map due).length : Int)) (by omega) ?_
          refine WO.done (by kernel_rfl) ?_
          refine WQ.keep [0, 2, 3, 4, 5, 6, 7, 8, 23, 32, 41, 71, 82, 85, 155] (e' := [(0, .slice (some ad) n0 cap0), (2, .bool false), (3, .bool true), (4, .pointer (some ⟨g3, 0, none⟩)), (5, .slice A ((es.map due).length) cap), (6, .int .i64 (i : Int)), (7, .pointer (some ⟨g11, 0, none⟩)), (8, .iface 39 (.int .i64 1)), (23, .bool false), (32, .bool true), (41, .int .i64 ((pk dx 4 : Nat) : Int)), (71, .bool true), (82, .bool true), (85, .bool false), (155, .bool false)]) (by kernel_rfl) ?_
          refine WQ.thenN ?_
          refine WE.condF (by kernel_rfl) ?_
          refine WE.skip ?_
          refine WQ.blkN ?_
          refine WQ.thenN ?_
          -- R8 law.go:59
          refine WE.region ?_
          refine WO.run 1 0 [(33, .int .i64 (i : Int))] (by kernel_rfl) (by kernel_rfl) ?_
          refine WO.one (SQ.F 1 (by kernel_rfl)) 34 (.int .i64 (IntKind.i64.wrap ((i : Int) + 1))) (by kernel_rfl) ?_
          refine WO.top (v' := .int .i64 ((i + 1 : Nat) : Int)) (wrap_i64 (by omega) (by omega)) ?_
          refine WO.run 1 2 [(6, .int .i64 ((i + 1 : Nat) : Int))] (by kernel_rfl) (by kernel_rfl) ?_
          refine WO.done (by kernel_rfl) ?_
          refine WQ.keep [0, 2, 3, 4, 5, 6, 7, 8, 23, 32, 41, 71, 82, 85, 155] (e' := [(0, .slice (some ad) n0 cap0), (2, .bool false), (3, .bool true), (4, .pointer (some ⟨g3, 0, none⟩)), (5, .slice A ((es.map due).length) cap), (6, .int .i64 ((i + 1 : Nat) : Int)), (7, .pointer (some ⟨g11, 0, none⟩)), (8, .iface 39 (.int .i64 1)), (23, .bool false), (32, .bool true), (41, .int .i64 ((pk dx 4 : Nat) : Int)), (71, .bool true), (82, .bool true), (85, .bool false), (155, .bool false)]) (by kernel_rfl) ?_
          refine WQ.round ?_
          intro a_ ha_
          refine ⟨(i + 1, F, q, t, Fw, es, A, cap), ?_, ha_.keep [0, 2, 3, 4, 5, 6, 23] (by kernel_rfl), ?_⟩
          · show n0 - (i + 1) < n0 - i; omega
          · exact ⟨by show i + 1 ≤ n0; omega, HQ, HD, hdj, hgF, hgw, hRel, h50, by show (0 : Int) ≤ t; omega, by show t ≤ ((i + 1 : Nat) : Int); omega, HA⟩
        by_cases hfull : 50 ≤ es.length
        · skip
          -- R19 law.go:63
          refine WE.region ?_
          refine WO.run 2 0 [(75, .pointer (some ⟨g11, 1, none⟩)), (74, .pointer (some ⟨g3, 0, none⟩))] (by kernel_rfl) (by kernel_rfl) ?_
          refine WO.ld (SQ.S 2 (by kernel_rfl)) 76 (.int .i64 dy) (by kernel_rfl) (same (HB18.at 1 (by kernel_rfl))) ?_
          refine WO.run 1 3 [(77, .pointer (some ⟨g11, 2, none⟩))] (by kernel_rfl) (by kernel_rfl) ?_
          refine WO.ld (SQ.S 4 (by kernel_rfl)) 78 (.int .i64 dz) (by kernel_rfl) (same (HB18.at 2 (by kernel_rfl))) ?_
          refine WO.call (SQ.E 5 (by kernel_rfl)) 79 (by kernel_rfl) (set_q_full F g3 q t dy dz _ HQ (by omega) (by have := hRel.len; omega) (by have := hRel.len; omega)) ?_
          rintro _ w114 ⟨rfl, F115⟩
          refine ⟨_, rfl, trivial, ?_⟩
          have HB18 := Blk.keep HB18 F115 (nin0 _)
          have HQ := HQ.keep F115 (fun _ _ => nin0 _)
          have HD := HD.keep F115 (fun _ _ => nin0 _)
          have HA := Fr.step0 HA F115
          refine WO.run 1 6 [(8, .iface 39 (.int .i64 6))] (by kernel_rfl) (by kernel_rfl) ?_
          refine WO.done (by kernel_rfl) ?_
          refine WQ.keep [0, 2, 3, 4, 5, 6, 7, 8, 23, 32, 41, 71] (e' := [(0, .slice (some ad) n0 cap0), (2, .bool false), (3, .bool true), (4, .pointer (some ⟨g3, 0, none⟩)), (5, .slice A ((es.map due).length) cap), (6, .int .i64 (i : Int)), (7, .pointer (some ⟨g11, 0, none⟩)), (8, .iface 39 (.int .i64 6)), (23, .bool false), (32, .bool true), (41, .int .i64 ((pk dx 4 : Nat) : Int)), (71, .bool true)]) (by kernel_rfl) ?_
          refine WQ.thenN ?_
          refine WE.seq ?_
          -- R20 law.go:64
          refine WE.region ?_
          refine WO.run 1 0 [(80, .pointer (some ⟨g11, 1, none⟩))] (by kernel_rfl) (by kernel_rfl) ?_
          refine WO.ld (SQ.S 1 (by kernel_rfl)) 81 (.int .i64 dy) (by kernel_rfl) (same (HB18.at 1 (by kernel_rfl))) ?_
          refine WO.one (SQ.F 2 (by kernel_rfl)) 82 (.bool (decide ((dy : Int) < 0))) (by kernel_rfl) ?_
          refine WO.topPF ((dy : Int) < 0) (by omega) ?_
          refine WO.done (by kernel_rfl) ?_
          refine WQ.keep [0, 2, 3, 4, 5, 6, 7, 8, 23, 32, 41, 71, 82] (e' := [(0, .slice (some ad) n0 cap0), (2, .bool false), (3, .bool true), (4, .pointer (some ⟨g3, 0, none⟩)), (5, .slice A ((es.map due).length) cap), (6, .int .i64 (i : Int)), (7, .pointer (some ⟨g11, 0, none⟩)), (8, .iface 39 (.int .i64 6)), (23, .bool false), (32, .bool true), (41, .int .i64 ((pk dx 4 : Nat) : Int)), (71, .bool true), (82, .bool false)]) (by kernel_rfl) ?_
          refine WQ.thenN ?_
          refine WE.condF (by kernel_rfl) ?_
          refine WE.seq ?_
          -- R23 law.go:68
          refine WE.region ?_
          refine WO.run 2 0 [(87, .int .i64 ((es.map due).length : Int)), (86, .slice A ((es.map due).length) cap)] (by kernel_rfl) (by kernel_rfl) ?_
          refine WO.one (SQ.F 2 (by kernel_rfl)) 88 (.bool (decide ((((es.map due).length : Int) : Int) ≥ (50 : Int)))) (by kernel_rfl) ?_
          refine WO.topPT ((((es.map due).length : Int) : Int) ≥ (50 : Int)) (by omega) ?_
          refine WO.done (by kernel_rfl) ?_
          refine WQ.keep [0, 2, 3, 4, 5, 6, 7, 8, 23, 32, 41, 71, 82, 88] (e' := [(0, .slice (some ad) n0 cap0), (2, .bool false), (3, .bool true), (4, .pointer (some ⟨g3, 0, none⟩)), (5, .slice A ((es.map due).length) cap), (6, .int .i64 (i : Int)), (7, .pointer (some ⟨g11, 0, none⟩)), (8, .iface 39 (.int .i64 6)), (23, .bool false), (32, .bool true), (41, .int .i64 ((pk dx 4 : Nat) : Int)), (71, .bool true), (82, .bool false), (88, .bool true)]) (by kernel_rfl) ?_
          refine WQ.thenN ?_
          refine WE.condT (by kernel_rfl) ?_
          refine WE.seq ?_
          -- R24 law.go:69
          refine WE.region ?_
          refine WO.run 3 0 [(91, .bool false), (90, .iface 39 (.int .i64 6)), (89, .iface 39 (.int .i64 6))] (by kernel_rfl) (by kernel_rfl) ?_
          refine WO.done (by kernel_rfl) ?_
          refine WQ.keep [0, 2, 3, 4, 5, 6, 7, 8, 23, 32, 41, 71, 82, 88, 91] (e' := [(0, .slice (some ad) n0 cap0), (2, .bool false), (3, .bool true), (4, .pointer (some ⟨g3, 0, none⟩)), (5, .slice A ((es.map due).length) cap), (6, .int .i64 (i : Int)), (7, .pointer (some ⟨g11, 0, none⟩)), (8, .iface 39 (.int .i64 6)), (23, .bool false), (32, .bool true), (41, .int .i64 ((pk dx 4 : Nat) : Int)), (71, .bool true), (82, .bool false), (88, .bool true), (91, .bool false)]) (by kernel_rfl) ?_
          refine WQ.thenN ?_
          refine WE.condF (by kernel_rfl) ?_
          refine WE.skip ?_
          refine WQ.blkN ?_
          refine WQ.thenN ?_
          refine WE.seq ?_
          have hqe := hRel.len
          -- R43 law.go:111
          refine WE.region ?_
          refine WO.run 1 0 [(151, .pointer (some ⟨g3, 0, none⟩))] (by kernel_rfl) (by kernel_rfl) ?_
          refine WO.call (SQ.E 1 (by kernel_rfl)) 152 (by kernel_rfl) (len_q F g3 q t _ HQ) ?_
          rintro _ w116 ⟨rfl, F117⟩
          refine ⟨_, rfl, trivial, ?_⟩
          have HB18 := Blk.keep HB18 F117 (nin0 _)
          have HQ := HQ.keep F117 (fun _ _ => nin0 _)
          have HD := HD.keep F117 (fun _ _ => nin0 _)
          have HA := Fr.step0 HA F117
          refine WO.run 2 2 [(154, .int .i64 ((es.map due).length : Int)), (153, .slice A ((es.map due).length) cap)] (by kernel_rfl) (by kernel_rfl) ?_
          refine WO.one (SQ.F 4 (by kernel_rfl)) 155 (.bool (!decide (((q.length : Int) : Int) = ((es.map due).length : Int)))) (by kernel_rfl) ?_
          refine WO.topNT (((q.length : Int) : Int) = ((es.map due).length : Int)) (by omega) ?_
          refine WO.done (by kernel_rfl) ?_
          refine WQ.keep [0, 2, 3, 4, 5, 6, 7, 8, 23, 32, 41, 71, 82, 88, 91, 155] (e' := [(0, .slice (some ad) n0 cap0), (2, .bool false), (3, .bool true), (4, .pointer (some ⟨g3, 0, none⟩)), (5, .slice A ((es.map due).length) cap), (6, .int .i64 (i : Int)), (7, .pointer (some ⟨g11, 0, none⟩)), (8, .iface 39 (.int .i64 6)), (23, .bool false), (32, .bool true), (41, .int .i64 ((pk dx 4 : Nat) : Int)), (71, .bool true), (82, .bool false), (88, .bool true), (91, .bool false), (155, .bool false)]) (by kernel_rfl) ?_
          refine WQ.thenN ?_
          refine WE.condF (by kernel_rfl) ?_
          refine WE.skip ?_
          refine WQ.blkN ?_
          refine WQ.thenN ?_
          -- R8 law.go:59
          refine WE.region ?_
          refine WO.run 1 0 [(33, .int .i64 (i : Int))] (by kernel_rfl) (by kernel_rfl) ?_
          refine WO.one (SQ.F 1 (by kernel_rfl)) 34 (.int .i64 (IntKind.i64.wrap ((i : Int) + 1))) (by kernel_rfl) ?_
          refine WO.top (v' := .int .i64 ((i + 1 : Nat) : Int)) (wrap_i64 (by omega) (by omega)) ?_
          refine WO.run 1 2 [(6, .int .i64 ((i + 1 : Nat) : Int))] (by kernel_rfl) (by kernel_rfl) ?_
          refine WO.done (by kernel_rfl) ?_
          refine WQ.keep [0, 2, 3, 4, 5, 6, 7, 8, 23, 32, 41, 71, 82, 88, 91, 155] (e' := [(0, .slice (some ad) n0 cap0), (2, .bool false), (3, .bool true), (4, .pointer (some ⟨g3, 0, none⟩)), (5, .slice A ((es.map due).length) cap), (6, .int .i64 ((i + 1 : Nat) : Int)), (7, .pointer (some ⟨g11, 0, none⟩)), (8, .iface 39 (.int .i64 6)), (23, .bool false), (32, .bool true), (41, .int .i64 ((pk dx 4 : Nat) : Int)), (71, .bool true), (82, .bool false), (88, .bool true), (91, .bool false), (155, .bool false)]) (by kernel_rfl) ?_
          refine WQ.round ?_
          intro a_ ha_
          refine ⟨(i + 1, F, q, t, Fw, es, A, cap), ?_, ha_.keep [0, 2, 3, 4, 5, 6, 23] (by kernel_rfl), ?_⟩
          · show n0 - (i + 1) < n0 - i; omega
          · exact ⟨by show i + 1 ≤ n0; omega, HQ, HD, hdj, hgF, hgw, hRel, h50, by show (0 : Int) ≤ t; omega, by show t ≤ ((i + 1 : Nat) : Int); omega, HA⟩
        -- R19 law.go:63
        refine WE.region ?_
        refine WO.run 2 0 [(75, .pointer (some ⟨g11, 1, none⟩)), (74, .pointer (some ⟨g3, 0, none⟩))] (by kernel_rfl) (by kernel_rfl) ?_
        refine WO.ld (SQ.S 2 (by kernel_rfl)) 76 (.int .i64 dy) (by kernel_rfl) (same (HB18.at 1 (by kernel_rfl))) ?_
        refine WO.run 1 3 [(77, .pointer (some ⟨g11, 2, none⟩))] (by kernel_rfl) (by kernel_rfl) ?_
        refine WO.ld (SQ.S 4 (by kernel_rfl)) 78 (.int .i64 dz) (by kernel_rfl) (same (HB18.at 2 (by kernel_rfl))) ?_
        refine WO.call (SQ.E 5 (by kernel_rfl)) 79 (by kernel_rfl) (set_q F g3 q t dy dz _ HQ (by omega) (by have := hRel.len; omega) (by omega) (by omega)) ?_
        rintro _ w118 ⟨rfl, Q120, HQ121, F119, hg122⟩
        refine ⟨_, rfl, trivial, ?_⟩
        have nin_g11_Q120 : g11 ∉ Q120 := grow_nin hg122 nin_g11_F HB18.lt
        have dj_Q120_Fw : ∀ y ∈ Q120, y ∉ Fw := grow_dj hg122 (dj_symm hdj) HD.lt
        have ge_HA_Q120 : ∀ y ∈ Q120, (World.heap w).size ≤ y := grow_ge hg122 hgF HA.size
        have HB18 := Blk.keep HB18 F119 nin_g11_F
        have HD := HD.keep F119 hdj
        have HA := Fr.step HA F119 (inF hgF)
        refine WO.run 1 6 [(8, .nilIface)] (by kernel_rfl) (by kernel_rfl) ?_
        refine WO.done (by kernel_rfl) ?_
        refine WQ.keep [0, 2, 3, 4, 5, 6, 7, 8, 23, 32, 41, 71] (e' := [(0, .slice (some ad) n0 cap0), (2, .bool false), (3, .bool true), (4, .pointer (some ⟨g3, 0, none⟩)), (5, .slice A ((es.map due).length) cap), (6, .int .i64 (i : Int)), (7, .pointer (some ⟨g11, 0, none⟩)), (8, .nilIface), (23, .bool false), (32, .bool true), (41, .int .i64 ((pk dx 4 : Nat) : Int)), (71, .bool true)]) (by kernel_rfl) ?_
        refine WQ.thenN ?_
        refine WE.seq ?_
        -- R20 law.go:64
        refine WE.region ?_
        refine WO.run 1 0 [(80, .pointer (some ⟨g11, 1, none⟩))] (by kernel_rfl) (by kernel_rfl) ?_
        refine WO.ld (SQ.S 1 (by kernel_rfl)) 81 (.int .i64 dy) (by kernel_rfl) (same (HB18.at 1 (by kernel_rfl))) ?_
        refine WO.one (SQ.F 2 (by kernel_rfl)) 82 (.bool (decide ((dy : Int) < 0))) (by kernel_rfl) ?_
        refine WO.topPF ((dy : Int) < 0) (by omega) ?_
        refine WO.done (by kernel_rfl) ?_
        refine WQ.keep [0, 2, 3, 4, 5, 6, 7, 8, 23, 32, 41, 71, 82] (e' := [(0, .slice (some ad) n0 cap0), (2, .bool false), (3, .bool true), (4, .pointer (some ⟨g3, 0, none⟩)), (5, .slice A ((es.map due).length) cap), (6, .int .i64 (i : Int)), (7, .pointer (some ⟨g11, 0, none⟩)), (8, .nilIface), (23, .bool false), (32, .bool true), (41, .int .i64 ((pk dx 4 : Nat) : Int)), (71, .bool true), (82, .bool false)]) (by kernel_rfl) ?_
        refine WQ.thenN ?_
        refine WE.condF (by kernel_rfl) ?_
        refine WE.seq ?_
        -- R23 law.go:68
        refine WE.region ?_
        refine WO.run 2 0 [(87, .int .i64 ((es.map due).length : Int)), (86, .slice A ((es.map due).length) cap)] (by kernel_rfl) (by kernel_rfl) ?_
        refine WO.one (SQ.F 2 (by kernel_rfl)) 88 (.bool (decide ((((es.map due).length : Int) : Int) ≥ (50 : Int)))) (by kernel_rfl) ?_
        refine WO.topPF ((((es.map due).length : Int) : Int) ≥ (50 : Int)) (by omega) ?_
        refine WO.done (by kernel_rfl) ?_
        refine WQ.keep [0, 2, 3, 4, 5, 6, 7, 8, 23, 32, 41, 71, 82, 88] (e' := [(0, .slice (some ad) n0 cap0), (2, .bool false), (3, .bool true), (4, .pointer (some ⟨g3, 0, none⟩)), (5, .slice A ((es.map due).length) cap), (6, .int .i64 (i : Int)), (7, .pointer (some ⟨g11, 0, none⟩)), (8, .nilIface), (23, .bool false), (32, .bool true), (41, .int .i64 ((pk dx 4 : Nat) : Int)), (71, .bool true), (82, .bool false), (88, .bool false)]) (by kernel_rfl) ?_
        refine WQ.thenN ?_
        refine WE.condF (by kernel_rfl) ?_
        refine WE.seq ?_
        refine WE.seq ?_
        -- R26 law.go:73
        refine WE.region ?_
        refine WO.run 2 0 [(93, .bool false), (92, .nilIface)] (by kernel_rfl) (by kernel_rfl) ?_
        refine WO.done (by kernel_rfl) ?_
        refine WQ.keep [0, 2, 3, 4, 5, 6, 7, 8, 23, 32, 41, 71, 82, 88, 93] (e' := [(0, .slice (some ad) n0 cap0), (2, .bool false), (3, .bool true), (4, .pointer (some ⟨g3, 0, none⟩)), (5, .slice A ((es.map due).length) cap), (6, .int .i64 (i : Int)), (7, .pointer (some ⟨g11, 0, none⟩)), (8, .nilIface), (23, .bool false), (32, .bool true), (41, .int .i64 ((pk dx 4 : Nat) : Int)), (71, .bool true), (82, .bool false), (88, .bool false), (93, .bool false)]) (by kernel_rfl) ?_
        refine WQ.thenN ?_
        refine WE.condF (by kernel_rfl) ?_
        refine WE.skip ?_
        refine WQ.thenN ?_
        have hz123 : (World.heap w118).size ≤ (World.heap w118).size := Nat.le_refl _
        have ltz_g11 := HB18.lt
        -- R28* law.go:76
        refine WE.draw [.effR, .free, .effR, .free, .still, .free, .still, .free, .eff, .eff, .free] (FrB (World.heap w118).size) (frBR _) (by kernel_rfl) 11 (Array.replicate 11 false) (by kernel_rfl) rfl ?_
        intro w124 F125 _
        have HB18 := Blk.keep HB18 F125 (nin0 _)
        have HD := HD.keep F125 (fun _ _ => nin0 _)
        have HQ121 := HQ121.keep F125 (fun _ _ => nin0 _)
        have hz123 := Nat.le_trans hz123 F125.size
        have HA := Fr.step0 HA F125
        refine WO.one (SA.F (frBR _) (frBT _) _ 1 _ (by kernel_rfl)) 95 (.slice A ((es.map due).length) cap) (by kernel_rfl) ?_
        refine WO.one (SA.F (frBR _) (frBT _) _ 3 _ (by kernel_rfl)) 97 (.pointer (some ⟨g11, 1, none⟩)) (by kernel_rfl) ?_
        refine WO.ld (SA.S (frBR _) (frBT _) _ 4 _ (by kernel_rfl)) 98 (.int .i64 dy) (by kernel_rfl) (fun _ k => (HB18.keepB k ltz_g11).at 1 (by kernel_rfl)) ?_
        refine WO.one (SA.F (frBR _) (frBT _) _ 5 _ (by kernel_rfl)) 99 (.pointer (some ⟨g11, 2, none⟩)) (by kernel_rfl) ?_
        refine WO.ld (SA.S (frBR _) (frBT _) _ 6 _ (by kernel_rfl)) 100 (.int .i64 dz) (by kernel_rfl) (fun _ k => (HB18.keepB k ltz_g11).at 2 (by kernel_rfl)) ?_
        refine WO.one (SA.F (frBR _) (frBT _) _ 7 _ (by kernel_rfl)) 101 (.agg #[.int .i64 dy, .int .i64 dz]) (by kernel_rfl) ?_
        refine WO.toX ?_
        refine WO.fork2 0 8 (by kernel_rfl) ?_ ?_
        · skip
          refine WO.bx (SAx.nowR _ 0 _ (by kernel_rfl) rfl) 94 #[] 33 (fun g => .slice (some ⟨g, 0, none⟩) 0 0) (by kernel_rfl) (frB_of hz123 (by simp)) ?_
          intro g126 w127 HB129 F128 le130 _
          have ne_g11_g126 : g11 ≠ g126 := Nat.ne_of_lt (Nat.lt_of_lt_of_le HB18.lt le130)
          have nin_g126_Fw : g126 ∉ Fw := new_nin HD.lt le130
          have nin_g126_Q120 : g126 ∉ Q120 := new_nin HQ121.lt le130
          have ge_HA_g126 := Nat.le_trans HA.size le130
          have gz_hz123_g126 := Nat.le_trans hz123 le130
          have HB18 := Blk.keep HB18 F128 (nin0 _)
          have HD := HD.keep F128 (fun _ _ => nin0 _)
          have HQ121 := HQ121.keep F128 (fun _ _ => nin0 _)
          have hz123 := Nat.le_trans hz123 F128.size
          have HA := Fr.step0 HA F128
          refine WO.fork2 2 8 (by kernel_rfl) ?_ ?_
          · skip
            have HR136 := RowB.of_blk (n := 0) HB129 (List.map cD []) rfl rfl (cD_len _) (cD_one _) (by omega)
            refine WO.appRow (SAx.nowR _ 2 _ (by kernel_rfl) rfl) 96 (n := 0) (m := ((es.map due).length)) (ys := List.map cD (es.map due)) et_d HR136 ((List.length_map _).trans ((rfl : List.length ([] : List Due) = 0))) (by rw [List.length_map] <;> first | rfl | omega | (simp <;> omega)) (HD.srcN (List.length_map _)) (cD_len _) (cD_one _) (by kernel_rfl) (by omega) (by omega) (frB_of hz123 (geC gz_hz123_g126 (by simp))) ?_
            intro b131 cap132 w133 HR134 F135 hb137
            have ne_g11_b131 : g11 ≠ b131 := hb137.elim (fun h => h ▸ ne_g11_g126) (fun h => Nat.ne_of_lt (Nat.lt_of_lt_of_le HB18.lt h))
            have nin_b131_Fw : b131 ∉ Fw := hb137.elim (fun h => h ▸ nin_g126_Fw) (fun h => new_nin HD.lt h)
            have nin_b131_Q120 : b131 ∉ Q120 := hb137.elim (fun h => h ▸ nin_g126_Q120) (fun h => new_nin HQ121.lt h)
            have gz_hz123_b131 := hb137.elim (fun h => (show _ ≤ b131 from h ▸ gz_hz123_g126)) (fun h => Nat.le_trans hz123 h)
            have in_HA_b131 : b131 ∈ [] ∨ (World.heap w).size ≤ b131 := hb137.elim (fun h => Or.inr (h ▸ ge_HA_g126)) (fun h => Or.inr (Nat.le_trans HA.size h))
            have HB18 := Blk.keep HB18 F135 (ninC ne_g11_g126 (nin0 _))
            have HD := HD.keep F135 (djB nin_g126_Fw)
            have HQ121 := HQ121.keep F135 (djB nin_g126_Q120)
            have hz123 := Nat.le_trans hz123 F135.size
            have HA := Fr.step HA F135 (inSR ge_HA_g126 inS0)
            have HR134 : RowB w133 b131 33 2 cap132 ((([] : List Due) ++ (es.map due)).map cD) := by rw [List.map_append]; exact HR134
            refine WO.bx (SAx.E (SA.E _ 8 _ (by kernel_rfl) rfl)) 102 #[.int .i64 dy, .int .i64 dz] 33 (fun g => .slice (some ⟨g, 0, none⟩) 1 1) (by kernel_rfl) (fun _ _ => trivial) ?_
            intro g138 w139 HB141 F140 le142 _
            have ne_g11_g138 : g11 ≠ g138 := Nat.ne_of_lt (Nat.lt_of_lt_of_le HB18.lt le142)
            have ne_b131_g138 : b131 ≠ g138 := Nat.ne_of_lt (Nat.lt_of_lt_of_le HR134.lt le142)
            have nin_g138_Fw : g138 ∉ Fw := new_nin HD.lt le142
            have nin_g138_Q120 : g138 ∉ Q120 := new_nin HQ121.lt le142
            have ge_HA_g138 := Nat.le_trans HA.size le142
            have gz_hz123_g138 := Nat.le_trans hz123 le142
            have HB18 := Blk.keep HB18 F140 (nin0 _)
            have HR134 := RowB.keep HR134 F140 (nin0 _)
            have HD := HD.keep F140 (fun _ _ => nin0 _)
            have HQ121 := HQ121.keep F140 (fun _ _ => nin0 _)
            have hz123 := Nat.le_trans hz123 F140.size
            have HA := Fr.step0 HA F140
            refine WO.appRow (SAx.E (SA.E _ 9 _ (by kernel_rfl) rfl)) 103 (n := (0 + ((es.map due).length))) (m := 1) (ys := List.map cD ([(⟨dy, dz⟩ : Due)])) et_d HR134 ((List.length_map _).trans ((show (([] : List Due) ++ (es.map due)).length = 0 + ((es.map due).length) by rw [List.length_append, (rfl : List.length ([] : List Due) = 0)]; first | rfl | (have := (rfl : List.length ([] : List Due) = 0); simp; omega)))) (by rw [List.length_map] <;> first | rfl | omega | (simp <;> omega)) (RowB.src (RowB.of_blk (n := 1) HB141 (List.map cD [(⟨dy, dz⟩ : Due)]) rfl rfl (cD_len _) (cD_one _) (by omega))) (cD_len _) (cD_one _) (by kernel_rfl) (by omega) (by omega) (fun _ _ => trivial) ?_
            intro b143 cap144 w145 HR146 F147 hb148
            have ne_g11_b143 : g11 ≠ b143 := hb148.elim (fun h => h ▸ ne_g11_b131) (fun h => Nat.ne_of_lt (Nat.lt_of_lt_of_le HB18.lt h))
            have ne_g138_b143 : g138 ≠ b143 := hb148.elim (fun h => h ▸ (Ne.symm ne_b131_g138)) (fun h => Nat.ne_of_lt (Nat.lt_of_lt_of_le HB141.lt h))
            have nin_b143_Fw : b143 ∉ Fw := hb148.elim (fun h => h ▸ nin_b131_Fw) (fun h => new_nin HD.lt h)
            have nin_b143_Q120 : b143 ∉ Q120 := hb148.elim (fun h => h ▸ nin_b131_Q120) (fun h => new_nin HQ121.lt h)
            have gz_hz123_b143 := hb148.elim (fun h => (show _ ≤ b143 from h ▸ gz_hz123_b131)) (fun h => Nat.le_trans hz123 h)
            have in_HA_b143 : b143 ∈ [] ∨ (World.heap w).size ≤ b143 := hb148.elim (fun h => (h ▸ in_HA_b131)) (fun h => Or.inr (Nat.le_trans HA.size h))
            have HB18 := Blk.keep HB18 F147 (ninC ne_g11_b131 (nin0 _))
            have HB141 := Blk.keep HB141 F147 (ninC (Ne.symm ne_b131_g138) (nin0 _))
            have HD := HD.keep F147 (djB nin_b131_Fw)
            have HQ121 := HQ121.keep F147 (djB nin_b131_Q120)
            have hz123 := Nat.le_trans hz123 F147.size
            have HA := Fr.step HA F147 (inSD in_HA_b131 inS0)
            have HR146 : RowB w145 b143 33 2 cap144 (((([] : List Due) ++ (es.map due)) ++ [(⟨dy, dz⟩ : Due)]).map cD) := by rw [List.map_append]; exact HR146
            refine WO.one (SAx.F (SA.F (frBR _) (frBT _) _ 10 _ (by kernel_rfl))) 5 (.slice (some ⟨b143, 0, none⟩) (0 + ((es.map due).length) + 1) cap144) (by kernel_rfl) ?_
            refine WO.doneX (by kernel_rfl) ?_
            refine WQ.keep [0, 2, 3, 4, 5, 6, 7, 8, 23, 32, 41, 71, 82, 88, 93] (e' := [(0, .slice (some ad) n0 cap0), (2, .bool false), (3, .bool true), (4, .pointer (some ⟨g3, 0, none⟩)), (5, .slice (some ⟨b143, 0, none⟩) (0 + ((es.map due).length) + 1) cap144), (6, .int .i64 (i : Int)), (7, .pointer (some ⟨g11, 0, none⟩)), (8, .nilIface), (23, .bool false), (32, .bool true), (41, .int .i64 ((pk dx 4 : Nat) : Int)), (71, .bool true), (82, .bool false), (88, .bool false), (93, .bool false)]) (by kernel_rfl) ?_
            refine WQ.blkN ?_
            refine WQ.thenN ?_
            refine WE.seq ?_
            have hRel2 := hRel.set dy dz
            have hql := setQ_len q ⟨dy, dz, t + 1⟩
            have hqe := hRel.len
            -- R43 law.go:111
            refine WE.region ?_
            refine WO.run 1 0 [(151, .pointer (some ⟨g3, 0, none⟩))] (by kernel_rfl) (by kernel_rfl) ?_
            refine WO.call (SQ.E 1 (by kernel_rfl)) 152 (by kernel_rfl) (len_q Q120 g3 (setQ q ⟨dy, dz, t + 1⟩) (t + 1) _ HQ121) ?_
            rintro _ w149 ⟨rfl, F150⟩
            refine ⟨_, rfl, trivial, ?_⟩
            have HB18 := Blk.keep HB18 F150 (nin0 _)
            have HB141 := Blk.keep HB141 F150 (nin0 _)
            have HR146 := RowB.keep HR146 F150 (nin0 _)
            have HD := HD.keep F150 (fun _ _ => nin0 _)
            have HQ121 := HQ121.keep F150 (fun _ _ => nin0 _)
            have HA := Fr.step0 HA F150
            refine WO.run 2 2 [(154, .int .i64 (0 + ((es.map due).length) + 1 : Int)), (153, .slice (some ⟨b143, 0, none⟩) (0 + ((es.map due).length) + 1) cap144)] (by kernel_rfl) (by kernel_rfl) ?_
            refine WO.one (SQ.F 4 (by kernel_rfl)) 155 (.bool (!decide ((((setQ q ⟨dy, dz, t + 1⟩).length : Int) : Int) = (0 + ((es.map due).length) + 1 : Int)))) (by kernel_rfl) ?_
            refine WO.topNT ((((setQ q ⟨dy, dz, t + 1⟩).length : Int) : Int) = (0 + ((es.map due).length) + 1 : Int)) (by omega) ?_
            refine WO.done (by kernel_rfl) ?_
            refine WQ.keep [0, 2, 3, 4, 5, 6, 7, 8, 23, 32, 41, 71, 82, 88, 93, 155] (e' := [(0, .slice (some ad) n0 cap0), (2, .bool false), (3, .bool true), (4, .pointer (some ⟨g3, 0, none⟩)), (5, .slice (some ⟨b143, 0, none⟩) (0 + ((es.map due).length) + 1) cap144), (6, .int .i64 (i : Int)), (7, .pointer (some ⟨g11, 0, none⟩)), (8, .nilIface), (23, .bool false), (32, .bool true), (41, .int .i64 ((pk dx 4 : Nat) : Int)), (71, .bool true), (82, .bool false), (88, .bool false), (93, .bool false), (155, .bool false)]) (by kernel_rfl) ?_
            refine WQ.thenN ?_
            refine WE.condF (by kernel_rfl) ?_
            refine WE.skip ?_
            refine WQ.blkN ?_
            refine WQ.thenN ?_
            -- R8 law.go:59
            refine WE.region ?_
            refine WO.run 1 0 [(33, .int .i64 (i : Int))] (by kernel_rfl) (by kernel_rfl) ?_
            refine WO.one (SQ.F 1 (by kernel_rfl)) 34 (.int .i64 (IntKind.i64.wrap ((i : Int) + 1))) (by kernel_rfl) ?_
            refine WO.top (v' := .int .i64 ((i + 1 : Nat) : Int)) (wrap_i64 (by omega) (by omega)) ?_
            refine WO.run 1 2 [(6, .int .i64 ((i + 1 : Nat) : Int))] (by kernel_rfl) (by kernel_rfl) ?_
            refine WO.done (by kernel_rfl) ?_
            refine WQ.keep [0, 2, 3, 4, 5, 6, 7, 8, 23, 32, 41, 71, 82, 88, 93, 155] (e' := [(0, .slice (some ad) n0 cap0), (2, .bool false), (3, .bool true), (4, .pointer (some ⟨g3, 0, none⟩)), (5, .slice (some ⟨b143, 0, none⟩) (0 + ((es.map due).length) + 1) cap144), (6, .int .i64 ((i + 1 : Nat) : Int)), (7, .pointer (some ⟨g11, 0, none⟩)), (8, .nilIface), (23, .bool false), (32, .bool true), (41, .int .i64 ((pk dx 4 : Nat) : Int)), (71, .bool true), (82, .bool false), (88, .bool false), (93, .bool false), (155, .bool false)]) (by kernel_rfl) ?_
            have hlst : ((([] : List Due) ++ (es.map due)) ++ [(⟨dy, dz⟩ : Due)]) = (es ++ [(⟨dy, dz, t + 1⟩ : Ent)]).map due := by simp [due]
            have hrow := HR146
            rw [hlst] at hrow
            have hln : 0 + ((es.map due).length) + 1 = ((es ++ [(⟨dy, dz, t + 1⟩ : Ent)]).map due).length := by rw [List.length_map]; simp <;> omega
            refine WQ.env (e' := [(0, .slice (some ad) n0 cap0), (2, .bool false), (3, .bool true), (4, .pointer (some ⟨g3, 0, none⟩)), (5, .slice (some ⟨b143, 0, none⟩) (((es ++ [(⟨dy, dz, t + 1⟩ : Ent)]).map due).length) cap144), (6, .int .i64 ((i + 1 : Nat) : Int)), (7, .pointer (some ⟨g11, 0, none⟩)), (8, .nilIface), (23, .bool false), (32, .bool true), (41, .int .i64 ((pk dx 4 : Nat) : Int)), (71, .bool true), (82, .bool false), (88, .bool false), (93, .bool false), (155, .bool false)]) (by rw [hln]) ?_
            refine WQ.round ?_
            intro a_ ha_
            refine ⟨(i + 1, Q120, (setQ q ⟨dy, dz, t + 1⟩), (t + 1), [b143], (es ++ [(⟨dy, dz, t + 1⟩ : Ent)]), (some ⟨b143, 0, none⟩), cap144), ?_, ha_.keep [0, 2, 3, 4, 5, 6, 23] (by kernel_rfl), ?_⟩
            · show n0 - (i + 1) < n0 - i; omega
            · exact ⟨by show i + 1 ≤ n0; omega, HQ121, OwnX.row hrow (List.length_map _), by intro y hy; obtain rfl : y = b143 := (by simpa using hy); exact nin_b143_Q120, ge_HA_Q120, by intro y hy; obtain rfl : y = b143 := (by simpa using hy); exact (in_HA_b143).resolve_left (by simp), hRel2, by show (es ++ [_]).length ≤ 50; rw [List.length_append]; simp; omega, by show (0 : Int) ≤ (t + 1); omega, by show (t + 1) ≤ ((i + 1 : Nat) : Int); omega, HA⟩
          · skip
            refine WO.bx (SAx.now _ 8 _ (by kernel_rfl) rfl) 102 #[.int .i64 dy, .int .i64 dz] 33 (fun g => .slice (some ⟨g, 0, none⟩) 1 1) (by kernel_rfl) (fun _ _ => trivial) ?_
            intro g151 w152 HB154 F153 le155 _
            have ne_g11_g151 : g11 ≠ g151 := Nat.ne_of_lt (Nat.lt_of_lt_of_le HB18.lt le155)
            have ne_g126_g151 : g126 ≠ g151 := Nat.ne_of_lt (Nat.lt_of_lt_of_le HB129.lt le155)
            have nin_g151_Fw : g151 ∉ Fw := new_nin HD.lt le155
            have nin_g151_Q120 : g151 ∉ Q120 := new_nin HQ121.lt le155
            have ge_HA_g151 := Nat.le_trans HA.size le155
            have gz_hz123_g151 := Nat.le_trans hz123 le155
            have HB18 := Blk.keep HB18 F153 (nin0 _)
            have HB129 := Blk.keep HB129 F153 (nin0 _)
            have HD := HD.keep F153 (fun _ _ => nin0 _)
            have HQ121 := HQ121.keep F153 (fun _ _ => nin0 _)
            have hz123 := Nat.le_trans hz123 F153.size
            have HA := Fr.step0 HA F153
            have HR161 := RowB.of_blk (n := 0) HB129 (List.map cD []) rfl rfl (cD_len _) (cD_one _) (by omega)
            refine WO.appRow (SAx.E (SA.ER _ 2 _ (by kernel_rfl) rfl)) 96 (n := 0) (m := ((es.map due).length)) (ys := List.map cD (es.map due)) et_d HR161 ((List.length_map _).trans ((rfl : List.length ([] : List Due) = 0))) (by rw [List.length_map] <;> first | rfl | omega | (simp <;> omega)) (HD.srcN (List.length_map _)) (cD_len _) (cD_one _) (by kernel_rfl) (by omega) (by omega) (frB_of hz123 (geC gz_hz123_g126 (by simp))) ?_
            intro b156 cap157 w158 HR159 F160 hb162
            have ne_g11_b156 : g11 ≠ b156 := hb162.elim (fun h => h ▸ ne_g11_g126) (fun h => Nat.ne_of_lt (Nat.lt_of_lt_of_le HB18.lt h))
            have ne_g151_b156 : g151 ≠ b156 := hb162.elim (fun h => h ▸ (Ne.symm ne_g126_g151)) (fun h => Nat.ne_of_lt (Nat.lt_of_lt_of_le HB154.lt h))
            have nin_b156_Fw : b156 ∉ Fw := hb162.elim (fun h => h ▸ nin_g126_Fw) (fun h => new_nin HD.lt h)
            have nin_b156_Q120 : b156 ∉ Q120 := hb162.elim (fun h => h ▸ nin_g126_Q120) (fun h => new_nin HQ121.lt h)
            have gz_hz123_b156 := hb162.elim (fun h => (show _ ≤ b156 from h ▸ gz_hz123_g126)) (fun h => Nat.le_trans hz123 h)
            have in_HA_b156 : b156 ∈ [] ∨ (World.heap w).size ≤ b156 := hb162.elim (fun h => Or.inr (h ▸ ge_HA_g126)) (fun h => Or.inr (Nat.le_trans HA.size h))
            have HB18 := Blk.keep HB18 F160 (ninC ne_g11_g126 (nin0 _))
            have HB154 := Blk.keep HB154 F160 (ninC (Ne.symm ne_g126_g151) (nin0 _))
            have HD := HD.keep F160 (djB nin_g126_Fw)
            have HQ121 := HQ121.keep F160 (djB nin_g126_Q120)
            have hz123 := Nat.le_trans hz123 F160.size
            have HA := Fr.step HA F160 (inSR ge_HA_g126 inS0)
            have HR159 : RowB w158 b156 33 2 cap157 ((([] : List Due) ++ (es.map due)).map cD) := by rw [List.map_append]; exact HR159
            refine WO.appRow (SAx.E (SA.E _ 9 _ (by kernel_rfl) rfl)) 103 (n := (0 + ((es.map due).length))) (m := 1) (ys := List.map cD ([(⟨dy, dz⟩ : Due)])) et_d HR159 ((List.length_map _).trans ((show (([] : List Due) ++ (es.map due)).length = 0 + ((es.map due).length) by rw [List.length_append, (rfl : List.length ([] : List Due) = 0)]; first | rfl | (have := (rfl : List.length ([] : List Due) = 0); simp; omega)))) (by rw [List.length_map] <;> first | rfl | omega | (simp <;> omega)) (RowB.src (RowB.of_blk (n := 1) HB154 (List.map cD [(⟨dy, dz⟩ : Due)]) rfl rfl (cD_len _) (cD_one _) (by omega))) (cD_len _) (cD_one _) (by kernel_rfl) (by omega) (by omega) (fun _ _ => trivial) ?_
            intro b163 cap164 w165 HR166 F167 hb168
            have ne_g11_b163 : g11 ≠ b163 := hb168.elim (fun h => h ▸ ne_g11_b156) (fun h => Nat.ne_of_lt (Nat.lt_of_lt_of_le HB18.lt h))
            have ne_g151_b163 : g151 ≠ b163 := hb168.elim (fun h => h ▸ ne_g151_b156) (fun h => Nat.ne_of_lt (Nat.lt_of_lt_of_le HB154.lt h))
            have nin_b163_Fw : b163 ∉ Fw := hb168.elim (fun h => h ▸ nin_b156_Fw) (fun h => new_nin HD.lt h)
            have nin_b163_Q120 : b163 ∉ Q120 := hb168.elim (fun h => h ▸ nin_b156_Q120) (fun h => new_nin HQ121.lt h)
            have gz_hz123_b163 := hb168.elim (fun h => (show _ ≤ b163 from h ▸ gz_hz123_b156)) (fun h => Nat.le_trans hz123 h)
            have in_HA_b163 : b163 ∈ [] ∨ (World.heap w).size ≤ b163 := hb168.elim (fun h => (h ▸ in_HA_b156)) (fun h => Or.inr (Nat.le_trans HA.size h))
            have HB18 := Blk.keep HB18 F167 (ninC ne_g11_b156 (nin0 _))
            have HB154 := Blk.keep HB154 F167 (ninC ne_g151_b156 (nin0 _))
            have HD := HD.keep F167 (djB nin_b156_Fw)
            have HQ121 := HQ121.keep F167 (djB nin_b156_Q120)
            have hz123 := Nat.le_trans hz123 F167.size
            have HA := Fr.step HA F167 (inSD in_HA_b156 inS0)
            have HR166 : RowB w165 b163 33 2 cap164 (((([] : List Due) ++ (es.map due)) ++ [(⟨dy, dz⟩ : Due)]).map cD) := by rw [List.map_append]; exact HR166
            refine WO.one (SAx.F (SA.F (frBR _) (frBT _) _ 10 _ (by kernel_rfl))) 5 (.slice (some ⟨b163, 0, none⟩) (0 + ((es.map due).length) + 1) cap164) (by kernel_rfl) ?_
            refine WO.doneX (by kernel_rfl) ?_
            refine WQ.keep [0, 2, 3, 4, 5, 6, 7, 8, 23, 32, 41, 71, 82, 88, 93] (e' := [(0, .slice (some ad) n0 cap0), (2, .bool false), (3, .bool true), (4, .pointer (some ⟨g3, 0, none⟩)), (5, .slice (some ⟨b163, 0, none⟩) (0 + ((es.map due).length) + 1) cap164), (6, .int .i64 (i : Int)), (7, .pointer (some ⟨g11, 0, none⟩)), (8, .nilIface), (23, .bool false), (32, .bool true), (41, .int .i64 ((pk dx 4 : Nat) : Int)), (71, .bool true), (82, .bool false), (88, .bool false), (93, .bool false)]) (by kernel_rfl) ?_
            refine WQ.blkN ?_
            refine WQ.thenN ?_
            refine WE.seq ?_
            have hRel2 := hRel.set dy dz
            have hql := setQ_len q ⟨dy, dz, t + 1⟩
            have hqe := hRel.len
            -- R43 law.go:111
            refine WE.region ?_
            refine WO.run 1 0 [(151, .pointer (some ⟨g3, 0, none⟩))] (by kernel_rfl) (by kernel_rfl) ?_
            refine WO.call (SQ.E 1 (by kernel_rfl)) 152 (by kernel_rfl) (len_q Q120 g3 (setQ q ⟨dy, dz, t + 1⟩) (t + 1) _ HQ121) ?_
            rintro _ w169 ⟨rfl, F170⟩
            refine ⟨_, rfl, trivial, ?_⟩
            have HB18 := Blk.keep HB18 F170 (nin0 _)
            have HB154 := Blk.keep HB154 F170 (nin0 _)
            have HR166 := RowB.keep HR166 F170 (nin0 _)
            have HD := HD.keep F170 (fun _ _ => nin0 _)
            have HQ121 := HQ121.keep F170 (fun _ _ => nin0 _)
            have HA := Fr.step0 HA F170
            refine WO.run 2 2 [(154, .int .i64 (0 + ((es.map due).length) + 1 : Int)), (153, .slice (some ⟨b163, 0, none⟩) (0 + ((es.map due).length) + 1) cap164)] (by kernel_rfl) (by kernel_rfl) ?_
            refine WO.one (SQ.F 4 (by kernel_rfl)) 155 (.bool (!decide ((((setQ q ⟨dy, dz, t + 1⟩).length : Int) : Int) = (0 + ((es.map due).length) + 1 : Int)))) (by kernel_rfl) ?_
            refine WO.topNT ((((setQ q ⟨dy, dz, t + 1⟩).length : Int) : Int) = (0 + ((es.map due).length) + 1 : Int)) (by omega) ?_
            refine WO.done (by kernel_rfl) ?_
            refine WQ.keep [0, 2, 3, 4, 5, 6, 7, 8, 23, 32, 41, 71, 82, 88, 93, 155] (e' := [(0, .slice (some ad) n0 cap0), (2, .bool false), (3, .bool true), (4, .pointer (some ⟨g3, 0, none⟩)), (5, .slice (some ⟨b163, 0, none⟩) (0 + ((es.map due).length) + 1) cap164), (6, .int .i64 (i : Int)), (7, .pointer (some ⟨g11, 0, none⟩)), (8, .nilIface), (23, .bool false), (32, .bool true), (41, .int .i64 ((pk dx 4 : Nat) : Int)), (71, .bool true), (82, .bool false), (88, .bool false), (93, .bool false), (155, .bool false)]) (by kernel_rfl) ?_
            refine WQ.thenN ?_
            refine WE.condF (by kernel_rfl) ?_
            refine WE.skip ?_
            refine WQ.blkN ?_
            refine WQ.thenN ?_
            -- R8 law.go:59
            refine WE.region ?_
            refine WO.run 1 0 [(33, .int .i64 (i : Int))] (by kernel_rfl) (by kernel_rfl) ?_
            refine WO.one (SQ.F 1 (by kernel_rfl)) 34 (.int .i64 (IntKind.i64.wrap ((i : Int) + 1))) (by kernel_rfl) ?_
            refine WO.top (v' := .int .i64 ((i + 1 : Nat) : Int)) (wrap_i64 (by omega) (by omega)) ?_
            refine WO.run 1 2 [(6, .int .i64 ((i + 1 : Nat) : Int))] (by kernel_rfl) (by kernel_rfl) ?_
            refine WO.done (by kernel_rfl) ?_
            refine WQ.keep [0, 2, 3, 4, 5, 6, 7, 8, 23, 32, 41, 71, 82, 88, 93, 155] (e' := [(0, .slice (some ad) n0 cap0), (2, .bool false), (3, .bool true), (4, .pointer (some ⟨g3, 0, none⟩)), (5, .slice (some ⟨b163, 0, none⟩) (0 + ((es.map due).length) + 1) cap164), (6, .int .i64 ((i + 1 : Nat) : Int)), (7, .pointer (some ⟨g11, 0, none⟩)), (8, .nilIface), (23, .bool false), (32, .bool true), (41, .int .i64 ((pk dx 4 : Nat) : Int)), (71, .bool true), (82, .bool false), (88, .bool false), (93, .bool false), (155, .bool false)]) (by kernel_rfl) ?_
            have hlst : ((([] : List Due) ++ (es.map due)) ++ [(⟨dy, dz⟩ : Due)]) = (es ++ [(⟨dy, dz, t + 1⟩ : Ent)]).map due := by simp [due]
            have hrow := HR166
            rw [hlst] at hrow
            have hln : 0 + ((es.map due).length) + 1 = ((es ++ [(⟨dy, dz, t + 1⟩ : Ent)]).map due).length := by rw [List.length_map]; simp <;> omega
            refine WQ.env (e' := [(0, .slice (some ad) n0 cap0), (2, .bool false), (3, .bool true), (4, .pointer (some ⟨g3, 0, none⟩)), (5, .slice (some ⟨b163, 0, none⟩) (((es ++ [(⟨dy, dz, t + 1⟩ : Ent)]).map due).length) cap164), (6, .int .i64 ((i + 1 : Nat) : Int)), (7, .pointer (some ⟨g11, 0, none⟩)), (8, .nilIface), (23, .bool false), (32, .bool true), (41, .int .i64 ((pk dx 4 : Nat) : Int)), (71, .bool true), (82, .bool false), (88, .bool false), (93, .bool false), (155, .bool false)]) (by rw [hln]) ?_
            refine WQ.round ?_
            intro a_ ha_
            refine ⟨(i + 1, Q120, (setQ q ⟨dy, dz, t + 1⟩), (t + 1), [b163], (es ++ [(⟨dy, dz, t + 1⟩ : Ent)]), (some ⟨b163, 0, none⟩), cap164), ?_, ha_.keep [0, 2, 3, 4, 5, 6, 23] (by kernel_rfl), ?_⟩
            · show n0 - (i + 1) < n0 - i; omega
            · exact ⟨by show i + 1 ≤ n0; omega, HQ121, OwnX.row hrow (List.length_map _), by intro y hy; obtain rfl : y = b163 := (by simpa using hy); exact nin_b163_Q120, ge_HA_Q120, by intro y hy; obtain rfl : y = b163 := (by simpa using hy); exact (in_HA_b163).resolve_left (by simp), hRel2, by show (es ++ [_]).length ≤ 50; rw [List.length_append]; simp; omega, by show (0 : Int) ≤ (t + 1); omega, by show (t + 1) ≤ ((i + 1 : Nat) : Int); omega, HA⟩
        · skip
          refine WO.bx (SAx.now _ 8 _ (by kernel_rfl) rfl) 102 #[.int .i64 dy, .int .i64 dz] 33 (fun g => .slice (some ⟨g, 0, none⟩) 1 1) (by kernel_rfl) (fun _ _ => trivial) ?_
          intro g171 w172 HB174 F173 le175 _
          have ne_g11_g171 : g11 ≠ g171 := Nat.ne_of_lt (Nat.lt_of_lt_of_le HB18.lt le175)
          have nin_g171_Fw : g171 ∉ Fw := new_nin HD.lt le175
          have nin_g171_Q120 : g171 ∉ Q120 := new_nin HQ121.lt le175
          have ge_HA_g171 := Nat.le_trans HA.size le175
          have gz_hz123_g171 := Nat.le_trans hz123 le175
          have HB18 := Blk.keep HB18 F173 (nin0 _)
          have HD := HD.keep F173 (fun _ _ => nin0 _)
          have HQ121 := HQ121.keep F173 (fun _ _ => nin0 _)
          have hz123 := Nat.le_trans hz123 F173.size
          have HA := Fr.step0 HA F173
          refine WO.bx (SAx.E (SA.ER _ 0 _ (by kernel_rfl) rfl)) 94 #[] 33 (fun g => .slice (some ⟨g, 0, none⟩) 0 0) (by kernel_rfl) (frB_of hz123 (by simp)) ?_
          intro g176 w177 HB179 F178 le180 _
          have ne_g11_g176 : g11 ≠ g176 := Nat.ne_of_lt (Nat.lt_of_lt_of_le HB18.lt le180)
          have ne_g171_g176 : g171 ≠ g176 := Nat.ne_of_lt (Nat.lt_of_lt_of_le HB174.lt le180)
          have nin_g176_Fw : g176 ∉ Fw := new_nin HD.lt le180
          have nin_g176_Q120 : g176 ∉ Q120 := new_nin HQ121.lt le180
          have ge_HA_g176 := Nat.le_trans HA.size le180
          have gz_hz123_g176 := Nat.le_trans hz123 le180
          have HB18 := Blk.keep HB18 F178 (nin0 _)
          have HB174 := Blk.keep HB174 F178 (nin0 _)
          have HD := HD.keep F178 (fun _ _ => nin0 _)
          have HQ121 := HQ121.keep F178 (fun _ _ => nin0 _)
          have hz123 := Nat.le_trans hz123 F178.size
          have HA := Fr.step0 HA F178
          have HR186 := RowB.of_blk (n := 0) HB179 (List.map cD []) rfl rfl (cD_len _) (cD_one _) (by omega)
          refine WO.appRow (SAx.E (SA.ER _ 2 _ (by kernel_rfl) rfl)) 96 (n := 0) (m := ((es.map due).length)) (ys := List.map cD (es.map due)) et_d HR186 ((List.length_map _).trans ((rfl : List.length ([] : List Due) = 0))) (by rw [List.length_map] <;> first | rfl | omega | (simp <;> omega)) (HD.srcN (List.length_map _)) (cD_len _) (cD_one _) (by kernel_rfl) (by omega) (by omega) (frB_of hz123 (geC gz_hz123_g176 (by simp))) ?_
          intro b181 cap182 w183 HR184 F185 hb187
          have ne_g11_b181 : g11 ≠ b181 := hb187.elim (fun h => h ▸ ne_g11_g176) (fun h => Nat.ne_of_lt (Nat.lt_of_lt_of_le HB18.lt h))
          have ne_g171_b181 : g171 ≠ b181 := hb187.elim (fun h => h ▸ ne_g171_g176) (fun h => Nat.ne_of_lt (Nat.lt_of_lt_of_le HB174.lt h))
          have nin_b181_Fw : b181 ∉ Fw := hb187.elim (fun h => h ▸ nin_g176_Fw) (fun h => new_nin HD.lt h)
          have nin_b181_Q120 : b181 ∉ Q120 := hb187.elim (fun h => h ▸ nin_g176_Q120) (fun h => new_nin HQ121.lt h)
          have gz_hz123_b181 := hb187.elim (fun h => (show _ ≤ b181 from h ▸ gz_hz123_g176)) (fun h => Nat.le_trans hz123 h)
          have in_HA_b181 : b181 ∈ [] ∨ (World.heap w).size ≤ b181 := hb187.elim (fun h => Or.inr (h ▸ ge_HA_g176)) (fun h => Or.inr (Nat.le_trans HA.size h))
          have HB18 := Blk.keep HB18 F185 (ninC ne_g11_g176 (nin0 _))
          have HB174 := Blk.keep HB174 F185 (ninC ne_g171_g176 (nin0 _))
          have HD := HD.keep F185 (djB nin_g176_Fw)
          have HQ121 := HQ121.keep F185 (djB nin_g176_Q120)
          have hz123 := Nat.le_trans hz123 F185.size
          have HA := Fr.step HA F185 (inSR ge_HA_g176 inS0)
          have HR184 : RowB w183 b181 33 2 cap182 ((([] : List Due) ++ (es.map due)).map cD) := by rw [List.map_append]; exact HR184
          refine WO.appRow (SAx.E (SA.E _ 9 _ (by kernel_rfl) rfl)) 103 (n := (0 + ((es.map due).length))) (m := 1) (ys := List.map cD ([(⟨dy, dz⟩ : Due)])) et_d HR184 ((List.length_map _).trans ((show (([] : List Due) ++ (es.map due)).length = 0 + ((es.map due).length) by rw [List.length_append, (rfl : List.length ([] : List Due) = 0)]; first | rfl | (have := (rfl : List.length ([] : List Due) = 0); simp; omega)))) (by rw [List.length_map] <;> first | rfl | omega | (simp <;> omega)) (RowB.src (RowB.of_blk (n := 1) HB174 (List.map cD [(⟨dy, dz⟩ : Due)]) rfl rfl (cD_len _) (cD_one _) (by omega))) (cD_len _) (cD_one _) (by kernel_rfl) (by omega) (by omega) (fun _ _ => trivial) ?_
          intro b188 cap189 w190 HR191 F192 hb193
          have ne_g11_b188 : g11 ≠ b188 := hb193.elim (fun h => h ▸ ne_g11_b181) (fun h => Nat.ne_of_lt (Nat.lt_of_lt_of_le HB18.lt h))
          have ne_g171_b188 : g171 ≠ b188 := hb193.elim (fun h => h ▸ ne_g171_b181) (fun h => Nat.ne_of_lt (Nat.lt_of_lt_of_le HB174.lt h))
          have nin_b188_Fw : b188 ∉ Fw := hb193.elim (fun h => h ▸ nin_b181_Fw) (fun h => new_nin HD.lt h)
          have nin_b188_Q120 : b188 ∉ Q120 := hb193.elim (fun h => h ▸ nin_b181_Q120) (fun h => new_nin HQ121.lt h)
          have gz_hz123_b188 := hb193.elim (fun h => (show _ ≤ b188 from h ▸ gz_hz123_b181)) (fun h => Nat.le_trans hz123 h)
          have in_HA_b188 : b188 ∈ [] ∨ (World.heap w).size ≤ b188 := hb193.elim (fun h => (h ▸ in_HA_b181)) (fun h => Or.inr (Nat.le_trans HA.size h))
          have HB18 := Blk.keep HB18 F192 (ninC ne_g11_b181 (nin0 _))
          have HB174 := Blk.keep HB174 F192 (ninC ne_g171_b181 (nin0 _))
          have HD := HD.keep F192 (djB nin_b181_Fw)
          have HQ121 := HQ121.keep F192 (djB nin_b181_Q120)
          have hz123 := Nat.le_trans hz123 F192.size
          have HA := Fr.step HA F192 (inSD in_HA_b181 inS0)
          have HR191 : RowB w190 b188 33 2 cap189 (((([] : List Due) ++ (es.map due)) ++ [(⟨dy, dz⟩ : Due)]).map cD) := by rw [List.map_append]; exact HR191
          refine WO.one (SAx.F (SA.F (frBR _) (frBT _) _ 10 _ (by kernel_rfl))) 5 (.slice (some ⟨b188, 0, none⟩) (0 + ((es.map due).length) + 1) cap189) (by kernel_rfl) ?_
          refine WO.doneX (by kernel_rfl) ?_
          refine WQ.keep [0, 2, 3, 4, 5, 6, 7, 8, 23, 32, 41, 71, 82, 88, 93] (e' := [(0, .slice (some ad) n0 cap0), (2, .bool false), (3, .bool true), (4, .pointer (some ⟨g3, 0, none⟩)), (5, .slice (some ⟨b188, 0, none⟩) (0 + ((es.map due).length) + 1) cap189), (6, .int .i64 (i : Int)), (7, .pointer (some ⟨g11, 0, none⟩)), (8, .nilIface), (23, .bool false), (32, .bool true), (41, .int .i64 ((pk dx 4 : Nat) : Int)), (71, .bool true), (82, .bool false), (88, .bool false), (93, .bool false)]) (by kernel_rfl) ?_
          refine WQ.blkN ?_
          refine WQ.thenN ?_
          refine WE.seq ?_
          have hRel2 := hRel.set dy dz
          have hql := setQ_len q ⟨dy, dz, t + 1⟩
          have hqe := hRel.len
          -- R43 law.go:111
          refine WE.region ?_
          refine WO.run 1 0 [(151, .pointer (some ⟨g3, 0, none⟩))] (by kernel_rfl) (by kernel_rfl) ?_
          refine WO.call (SQ.E 1 (by kernel_rfl)) 152 (by kernel_rfl) (len_q Q120 g3 (setQ q ⟨dy, dz, t + 1⟩) (t + 1) _ HQ121) ?_
          rintro _ w194 ⟨rfl, F195⟩
          refine ⟨_, rfl, trivial, ?_⟩
          have HB18 := Blk.keep HB18 F195 (nin0 _)
          have HB174 := Blk.keep HB174 F195 (nin0 _)
          have HR191 := RowB.keep HR191 F195 (nin0 _)
          have HD := HD.keep F195 (fun _ _ => nin0 _)
          have HQ121 := HQ121.keep F195 (fun _ _ => nin0 _)
          have HA := Fr.step0 HA F195
          refine WO.run 2 2 [(154, .int .i64 (0 + ((es.map due).length) + 1 : Int)), (153, .slice (some ⟨b188, 0, none⟩) (0 + ((es.map due).length) + 1) cap189)] (by kernel_rfl) (by kernel_rfl) ?_
          refine WO.one (SQ.F 4 (by kernel_rfl)) 155 (.bool (!decide ((((setQ q ⟨dy, dz, t + 1⟩).length : Int) : Int) = (0 + ((es.map due).length) + 1 : Int)))) (by kernel_rfl) ?_
          refine WO.topNT ((((setQ q ⟨dy, dz, t + 1⟩).length : Int) : Int) = (0 + ((es.map due).length) + 1 : Int)) (by omega) ?_
          refine WO.done (by kernel_rfl) ?_
          refine WQ.keep [0, 2, 3, 4, 5, 6, 7, 8, 23, 32, 41, 71, 82, 88, 93, 155] (e' := [(0, .slice (some ad) n0 cap0), (2, .bool false), (3, .bool true), (4, .pointer (some ⟨g3, 0, none⟩)), (5, .slice (some ⟨b188, 0, none⟩) (0 + ((es.map due).length) + 1) cap189), (6, .int .i64 (i : Int)), (7, .pointer (some ⟨g11, 0, none⟩)), (8, .nilIface), (23, .bool false), (32, .bool true), (41, .int .i64 ((pk dx 4 : Nat) : Int)), (71, .bool true), (82, .bool false), (88, .bool false), (93, .bool false), (155, .bool false)]) (by kernel_rfl) ?_
          refine WQ.thenN ?_
          refine WE.condF (by kernel_rfl) ?_
          refine WE.skip ?_
          refine WQ.blkN ?_
          refine WQ.thenN ?_
          -- R8 law.go:59
          refine WE.region ?_
          refine WO.run 1 0 [(33, .int .i64 (i : Int))] (by kernel_rfl) (by kernel_rfl) ?_
          refine WO.one (SQ.F 1 (by kernel_rfl)) 34 (.int .i64 (IntKind.i64.wrap ((i : Int) + 1))) (by kernel_rfl) ?_
          refine WO.top (v' := .int .i64 ((i + 1 : Nat) : Int)) (wrap_i64 (by omega) (by omega)) ?_
          refine WO.run 1 2 [(6, .int .i64 ((i + 1 : Nat) : Int))] (by kernel_rfl) (by kernel_rfl) ?_
          refine WO.done (by kernel_rfl) ?_
          refine WQ.keep [0, 2, 3, 4, 5, 6, 7, 8, 23, 32, 41, 71, 82, 88, 93, 155] (e' := [(0, .slice (some ad) n0 cap0), (2, .bool false), (3, .bool true), (4, .pointer (some ⟨g3, 0, none⟩)), (5, .slice (some ⟨b188, 0, none⟩) (0 + ((es.map due).length) + 1) cap189), (6, .int .i64 ((i + 1 : Nat) : Int)), (7, .pointer (some ⟨g11, 0, none⟩)), (8, .nilIface), (23, .bool false), (32, .bool true), (41, .int .i64 ((pk dx 4 : Nat) : Int)), (71, .bool true), (82, .bool false), (88, .bool false), (93, .bool false), (155, .bool false)]) (by kernel_rfl) ?_
          have hlst : ((([] : List Due) ++ (es.map due)) ++ [(⟨dy, dz⟩ : Due)]) = (es ++ [(⟨dy, dz, t + 1⟩ : Ent)]).map due := by simp [due]
          have hrow := HR191
          rw [hlst] at hrow
          have hln : 0 + ((es.map due).length) + 1 = ((es ++ [(⟨dy, dz, t + 1⟩ : Ent)]).map due).length := by rw [List.length_map]; simp <;> omega
          refine WQ.env (e' := [(0, .slice (some ad) n0 cap0), (2, .bool false), (3, .bool true), (4, .pointer (some ⟨g3, 0, none⟩)), (5, .slice (some ⟨b188, 0, none⟩) (((es ++ [(⟨dy, dz, t + 1⟩ : Ent)]).map due).length) cap189), (6, .int .i64 ((i + 1 : Nat) : Int)), (7, .pointer (some ⟨g11, 0, none⟩)), (8, .nilIface), (23, .bool false), (32, .bool true), (41, .int .i64 ((pk dx 4 : Nat) : Int)), (71, .bool true), (82, .bool false), (88, .bool false), (93, .bool false), (155, .bool false)]) (by rw [hln]) ?_
          refine WQ.round ?_
          intro a_ ha_
          refine ⟨(i + 1, Q120, (setQ q ⟨dy, dz, t + 1⟩), (t + 1), [b188], (es ++ [(⟨dy, dz, t + 1⟩ : Ent)]), (some ⟨b188, 0, none⟩), cap189), ?_, ha_.keep [0, 2, 3, 4, 5, 6, 23] (by kernel_rfl), ?_⟩
          · show n0 - (i + 1) < n0 - i; omega
          · exact ⟨by show i + 1 ≤ n0; omega, HQ121, OwnX.row hrow (List.length_map _), by intro y hy; obtain rfl : y = b188 := (by simpa using hy); exact nin_b188_Q120, ge_HA_Q120, by intro y hy; obtain rfl : y = b188 := (by simpa using hy); exact (in_HA_b188).resolve_left (by simp), hRel2, by show (es ++ [_]).length ≤ 50; rw [List.length_append]; simp; omega, by show (0 : Int) ≤ (t + 1); omega, by show (t + 1) ≤ ((i + 1 : Nat) : Int); omega, HA⟩
      · intro h109
        refine WO.run 1 1 [(71, .bool false)] (by kernel_rfl) (by kernel_rfl) ?_
        refine WO.done (by kernel_rfl) ?_
        refine WQ.keep [0, 2, 3, 4, 5, 6, 7, 23, 32, 41, 71] (e' := [(0, .slice (some ad) n0 cap0), (2, .bool false), (3, .bool true), (4, .pointer (some ⟨g3, 0, none⟩)), (5, .slice A ((es.map due).length) cap), (6, .int .i64 (i : Int)), (7, .pointer (some ⟨g11, 0, none⟩)), (23, .bool false), (32, .bool true), (41, .int .i64 ((pk dx 4 : Nat) : Int)), (71, .bool false)]) (by kernel_rfl) ?_
        refine WQ.thenN ?_
        refine WE.condF (by kernel_rfl) ?_
        refine WE.seq ?_
        -- R29 law.go:78
        refine WE.region ?_
        refine WO.one (SQ.F 0 (by kernel_rfl)) 105 (.bool (decide ((((pk dx 4) : Int) : Int) = (2 : Int)))) (by kernel_rfl) ?_
        refine WO.topP ((((pk dx 4) : Int) : Int) = (2 : Int)) ?_ ?_
        · intro h196
          refine WO.run 1 1 [(104, .bool true)] (by kernel_rfl) (by kernel_rfl) ?_
          refine WO.done (by kernel_rfl) ?_
          refine WQ.keep [0, 2, 3, 4, 5, 6, 7, 23, 32, 41, 71, 104] (e' := [(0, .slice (some ad) n0 cap0), (2, .bool false), (3, .bool true), (4, .pointer (some ⟨g3, 0, none⟩)), (5, .slice A ((es.map due).length) cap), (6, .int .i64 (i : Int)), (7, .pointer (some ⟨g11, 0, none⟩)), (23, .bool false), (32, .bool true), (41, .int .i64 ((pk dx 4 : Nat) : Int)), (71, .bool false), (104, .bool true)]) (by kernel_rfl) ?_
          refine WQ.thenN ?_
          refine WE.condT (by kernel_rfl) ?_
          refine WE.seq ?_
          -- R30 law.go:79
          refine WE.region ?_
          refine WO.run 2 0 [(107, .pointer (some ⟨g11, 1, none⟩)), (106, .pointer (some ⟨g3, 0, none⟩))] (by kernel_rfl) (by kernel_rfl) ?_
          refine WO.ld (SQ.S 2 (by kernel_rfl)) 108 (.int .i64 dy) (by kernel_rfl) (same (HB18.at 1 (by kernel_rfl))) ?_
          refine WO.call (SQ.E 3 (by kernel_rfl)) 109 (by kernel_rfl) (take_q F g3 q t dy _ HQ (by have := hRel.len; omega)) ?_
          rintro _ w197 ⟨v199, rfl, hO200, HQ201, F198⟩
          refine ⟨_, rfl, trivial, ?_⟩
          obtain ⟨D202, HD203, hg204⟩ := ownX_of hO200
          have hg204 : ∀ y ∈ D202, y ∈ [] ∨ (World.heap w20).size ≤ y := fun y hy => Or.inr (hg204 y hy)
          have htl205 := takeQ_len dy q.length q
          have htm206 : (List.map due (takeQ dy q.length q).1).length = (takeQ dy q.length q).1.length := List.length_map _
          have nin_g11_D202 : g11 ∉ D202 := grow_nin hg204 (nin0 _) HB18.lt
          have dj_D202_F : ∀ y ∈ D202, y ∉ F := grow_dj hg204 (by simp) HQ.lt
          have dj_D202_Fw : ∀ y ∈ D202, y ∉ Fw := grow_dj hg204 (by simp) HD.lt
          have ge_HA_D202 : ∀ y ∈ D202, (World.heap w).size ≤ y := grow_ge hg204 (by simp) HA.size
          have HB18 := Blk.keep HB18 F198 nin_g11_F
          have HD := HD.keep F198 hdj
          have HA := Fr.step HA F198 (inF hgF)
          obtain ⟨Av199, capv199, rfl⟩ := HD203.sliceN (List.length_map _)
          refine WO.run 1 4 [(9, .slice Av199 ((List.map due (takeQ dy q.length q).1).length) capv199)] (by kernel_rfl) (by kernel_rfl) ?_
          refine WO.done (by kernel_rfl) ?_
          refine WQ.keep [0, 2, 3, 4, 5, 6, 7, 9, 23, 32, 41, 71, 104] (e' := [(0, .slice (some ad) n0 cap0), (2, .bool false), (3, .bool true), (4, .pointer (some ⟨g3, 0, none⟩)), (5, .slice A ((es.map due).length) cap), (6, .int .i64 (i : Int)), (7, .pointer (some ⟨g11, 0, none⟩)), (9, .slice Av199 ((List.map due (takeQ dy q.length q).1).length) capv199), (23, .bool false), (32, .bool true), (41, .int .i64 ((pk dx 4 : Nat) : Int)), (71, .bool false), (104, .bool true)]) (by kernel_rfl) ?_
          refine WQ.thenN ?_
          refine WE.seq ?_
          -- R31 law.go:80
          refine WE.region ?_
          refine WO.run 1 0 [(10, .int .i64 0)] (by kernel_rfl) (by kernel_rfl) ?_
          refine WO.done (by kernel_rfl) ?_
          refine WQ.keep [0, 2, 3, 4, 5, 6, 7, 9, 10, 23, 32, 41, 71, 104] (e' := [(0, .slice (some ad) n0 cap0), (2, .bool false), (3, .bool true), (4, .pointer (some ⟨g3, 0, none⟩)), (5, .slice A ((es.map due).length) cap), (6, .int .i64 (i : Int)), (7, .pointer (some ⟨g11, 0, none⟩)), (9, .slice Av199 ((List.map due (takeQ dy q.length q).1).length) capv199), (10, .int .i64 0), (23, .bool false), (32, .bool true), (41, .int .i64 ((pk dx 4 : Nat) : Int)), (71, .bool false), (104, .bool true)]) (by kernel_rfl) ?_
          refine WQ.thenN ?_
          refine WE.seq ?_
          refine WE.block ?_
          refine WE.loop (α := Nat × List Ent × List Ent × List Nat × Option Addr × Nat) (E := fun ⟨m, qc, ec, Fc, B, capb⟩ => [(0, .slice (some ad) n0 cap0), (2, .bool false), (3, .bool true), (4, .pointer (some ⟨g3, 0, none⟩)), (5, .slice B ((ec.map due).length) capb), (6, .int .i64 (i : Int)), (7, .pointer (some ⟨g11, 0, none⟩)), (9, .slice Av199 ((List.map due (takeQ dy q.length q).1).length) capv199), (10, .int .i64 (m : Int)), (23, .bool false), (32, .bool true), (41, .int .i64 ((pk dx 4 : Nat) : Int)), (71, .bool false), (104, .bool true)]) (I := fun ⟨m, qc, ec, Fc, B, capb⟩ wt => m ≤ (takeQ dy q.length q).1.length ∧ takeQ dy qc.length qc = ((takeQ dy q.length q).1.drop m, (takeQ dy q.length q).2) ∧ Rel qc ec t ∧ ec.length ≤ 50 ∧ IsQ wt F g3 (takeQ dy q.length q).2 t ∧ OwnX 33 2 wt D202 (.slice Av199 ((List.map due (takeQ dy q.length q).1).length) capv199) (List.map cD (List.map due (takeQ dy q.length q).1)) ∧ OwnX 33 2 wt Fc (.slice B (ec.map due).length capb) ((ec.map due).map cD) ∧ (∀ y ∈ Fc, y ∉ F) ∧ (∀ y ∈ Fc, y ∉ D202) ∧ (∀ y ∈ Fc, w.heap.size ≤ y) ∧ Blk wt g11 #[.int .i64 dx, .int .i64 dy, .int .i64 dz] 38 ∧ g11 ∉ Fc ∧ Fr [] w wt) (m := fun ⟨m, qc, ec, Fc, B, capb⟩ => ec.length) (0, q, es, Fw, A, cap) [0, 2, 3, 4, 5, 6, 7, 9, 10, 23, 32, 41, 71, 104] (by kernel_rfl) ?_ ?_
          · exact ⟨Nat.zero_le _, rfl, hRel, h50, HQ201, HD203, HD, hdj, (dj_symm dj_D202_Fw), hgw, HB18, nin_g11_Fw, HA⟩
          rintro ⟨m, qc, ec, Fc, B, capb⟩ wt ⟨hm, hT, hRel3, h503, HQ, HL, HD, hdq, hdL, hgc, HX, hnx, HA⟩
          dsimp only at *
          have hdl3 : (ec.map due).length = ec.length := List.length_map _
          refine WE.block ?_
          refine WE.seq ?_
          by_cases he0 : ec.length = 0
          · skip
            -- R32 law.go:82
            refine WE.region ?_
            refine WO.run 1 0 [(110, .slice B ((ec.map due).length) capb)] (by kernel_rfl) (by kernel_rfl) ?_
            have hfi := first_x Fc B capb (ec.map due) wt HD (by omega)
            rw [bst_nil ec (by omega)] at hfi
            refine WO.call (SQ.E 1 (by kernel_rfl)) 111 (by kernel_rfl) (hfi) ?_
            rintro _ w207 ⟨rfl, F208⟩
            refine ⟨_, rfl, trivial, ?_⟩
            have HX := Blk.keep HX F208 (nin0 _)
            have HQ := HQ.keep F208 (fun _ _ => nin0 _)
            have HL := HL.keep F208 (fun _ _ => nin0 _)
            have HD := HD.keep F208 (fun _ _ => nin0 _)
            have HA := Fr.step0 HA F208
            refine WO.run 1 2 [(11, .int .i64 (-1))] (by kernel_rfl) (by kernel_rfl) ?_
            refine WO.done (by kernel_rfl) ?_
            refine WQ.keep [0, 2, 3, 4, 5, 6, 7, 9, 10, 11, 23, 32, 41, 71, 104] (e' := [(0, .slice (some ad) n0 cap0), (2, .bool false), (3, .bool true), (4, .pointer (some ⟨g3, 0, none⟩)), (5, .slice B ((ec.map due).length) capb), (6, .int .i64 (i : Int)), (7, .pointer (some ⟨g11, 0, none⟩)), (9, .slice Av199 ((List.map due (takeQ dy q.length q).1).length) capv199), (10, .int .i64 (m : Int)), (11, .int .i64 (-1)), (23, .bool false), (32, .bool true), (41, .int .i64 ((pk dx 4 : Nat) : Int)), (71, .bool false), (104, .bool true)]) (by kernel_rfl) ?_
            refine WQ.thenN ?_
            refine WE.seq ?_
            refine WE.seq ?_
            -- R33 law.go:83
            refine WE.region ?_
            refine WO.run 2 0 [(113, .bool true), (112, .int .i64 (-1))] (by kernel_rfl) (by kernel_rfl) ?_
            refine WO.done (by kernel_rfl) ?_
            refine WQ.keep [0, 2, 3, 4, 5, 6, 7, 9, 10, 11, 23, 32, 41, 71, 104, 113] (e' := [(0, .slice (some ad) n0 cap0), (2, .bool false), (3, .bool true), (4, .pointer (some ⟨g3, 0, none⟩)), (5, .slice B ((ec.map due).length) capb), (6, .int .i64 (i : Int)), (7, .pointer (some ⟨g11, 0, none⟩)), (9, .slice Av199 ((List.map due (takeQ dy q.length q).1).length) capv199), (10, .int .i64 (m : Int)), (11, .int .i64 (-1)), (23, .bool false), (32, .bool true), (41, .int .i64 ((pk dx 4 : Nat) : Int)), (71, .bool false), (104, .bool true), (113, .bool true)]) (by kernel_rfl) ?_
            refine WQ.thenN ?_
            refine WE.condT (by kernel_rfl) ?_
            refine WE.exit ?_
            refine WQ.thenE ?_
            refine WQ.blkX (by kernel_rfl) ?_
            refine WQ.thenE ?_
            refine WQ.blkE ?_
            refine WQ.thenN ?_
            refine WE.seq ?_
            have hstop := takeQ_stop dy qc (Or.inl (by have := hRel3.len; omega))
            rw [hT, Prod.mk.injEq] at hstop
            obtain ⟨hs1, hs2⟩ := hstop
            have hmm : m = (takeQ dy q.length q).1.length := by have := congrArg List.length hs1; rw [List.length_drop] at this; simp at this; omega
            have hml2 : (List.map due (takeQ dy q.length q).1).length = (takeQ dy q.length q).1.length := List.length_map _
            rw [hs2] at HQ
            -- R41 law.go:98
            refine WE.region ?_
            refine WO.run 3 0 [(149, .int .i64 ((List.map due (takeQ dy q.length q).1).length : Int)), (148, .slice Av199 ((List.map due (takeQ dy q.length q).1).length) capv199), (147, .int .i64 (m : Int))] (by kernel_rfl) (by kernel_rfl) ?_
            refine WO.one (SQ.F 3 (by kernel_rfl)) 150 (.bool (!decide (((m : Int) : Int) = ((List.map due (takeQ dy q.length q).1).length : Int)))) (by kernel_rfl) ?_
            refine WO.topNT (((m : Int) : Int) = ((List.map due (takeQ dy q.length q).1).length : Int)) (by omega) ?_
            refine WO.done (by kernel_rfl) ?_
            refine WQ.keep [0, 2, 3, 4, 5, 6, 7, 9, 10, 11, 23, 32, 41, 71, 104, 113, 150] (e' := [(0, .slice (some ad) n0 cap0), (2, .bool false), (3, .bool true), (4, .pointer (some ⟨g3, 0, none⟩)), (5, .slice B ((ec.map due).length) capb), (6, .int .i64 (i : Int)), (7, .pointer (some ⟨g11, 0, none⟩)), (9, .slice Av199 ((List.map due (takeQ dy q.length q).1).length) capv199), (10, .int .i64 (m : Int)), (11, .int .i64 (-1)), (23, .bool false), (32, .bool true), (41, .int .i64 ((pk dx 4 : Nat) : Int)), (71, .bool false), (104, .bool true), (113, .bool true), (150, .bool false)]) (by kernel_rfl) ?_
            refine WQ.thenN ?_
            refine WE.condF (by kernel_rfl) ?_
            refine WE.skip ?_
            refine WQ.blkN ?_
            refine WQ.thenN ?_
            refine WE.seq ?_
            have hqe := hRel3.len
            -- R43 law.go:111
            refine WE.region ?_
            refine WO.run 1 0 [(151, .pointer (some ⟨g3, 0, none⟩))] (by kernel_rfl) (by kernel_rfl) ?_
            refine WO.call (SQ.E 1 (by kernel_rfl)) 152 (by kernel_rfl) (len_q F g3 qc t _ HQ) ?_
            rintro _ w209 ⟨rfl, F210⟩
            refine ⟨_, rfl, trivial, ?_⟩
            have HX := Blk.keep HX F210 (nin0 _)
            have HQ := HQ.keep F210 (fun _ _ => nin0 _)
            have HD := HD.keep F210 (fun _ _ => nin0 _)
            have HA := Fr.step0 HA F210
            refine WO.run 2 2 [(154, .int .i64 ((ec.map due).length : Int)), (153, .slice B ((ec.map due).length) capb)] (by kernel_rfl) (by kernel_rfl) ?_
            refine WO.one (SQ.F 4 (by kernel_rfl)) 155 (.bool (!decide (((qc.length : Int) : Int) = ((ec.map due).length : Int)))) (by kernel_rfl) ?_
            refine WO.topNT (((qc.length : Int) : Int) = ((ec.map due).length : Int)) (by have := hRel3.len; omega) ?_
            refine WO.done (by kernel_rfl) ?_
            refine WQ.keep [0, 2, 3, 4, 5, 6, 7, 9, 10, 11, 23, 32, 41, 71, 104, 113, 150, 155] (e' := [(0, .slice (some ad) n0 cap0), (2, .bool false), (3, .bool true), (4, .pointer (some ⟨g3, 0, none⟩)), (5, .slice B ((ec.map due).length) capb), (6, .int .i64 (i : Int)), (7, .pointer (some ⟨g11, 0, none⟩)), (9, .slice Av199 ((List.map due (takeQ dy q.length q).1).length) capv199), (10, .int .i64 (m : Int)), (11, .int .i64 (-1)), (23, .bool false), (32, .bool true), (41, .int .i64 ((pk dx 4 : Nat) : Int)), (71, .bool false), (104, .bool true), (113, .bool true), (150, .bool false), (155, .bool false)]) (by kernel_rfl) ?_
            refine WQ.thenN ?_
            refine WE.condF (by kernel_rfl) ?_
            refine WE.skip ?_
            refine WQ.blkN ?_
            refine WQ.thenN ?_
            -- R8 law.go:59
            refine WE.region ?_
            refine WO.run 1 0 [(33, .int .i64 (i : Int))] (by kernel_rfl) (by kernel_rfl) ?_
            refine WO.one (SQ.F 1 (by kernel_rfl)) 34 (.int .i64 (IntKind.i64.wrap ((i : Int) + 1))) (by kernel_rfl) ?_
            refine WO.top (v' := .int .i64 ((i + 1 : Nat) : Int)) (wrap_i64 (by omega) (by omega)) ?_
            refine WO.run 1 2 [(6, .int .i64 ((i + 1 : Nat) : Int))] (by kernel_rfl) (by kernel_rfl) ?_
            refine WO.done (by kernel_rfl) ?_
            refine WQ.keep [0, 2, 3, 4, 5, 6, 7, 9, 10, 11, 23, 32, 41, 71, 104, 113, 150, 155] (e' := [(0, .slice (some ad) n0 cap0), (2, .bool false), (3, .bool true), (4, .pointer (some ⟨g3, 0, none⟩)), (5, .slice B ((ec.map due).length) capb), (6, .int .i64 ((i + 1 : Nat) : Int)), (7, .pointer (some ⟨g11, 0, none⟩)), (9, .slice Av199 ((List.map due (takeQ dy q.length q).1).length) capv199), (10, .int .i64 (m : Int)), (11, .int .i64 (-1)), (23, .bool false), (32, .bool true), (41, .int .i64 ((pk dx 4 : Nat) : Int)), (71, .bool false), (104, .bool true), (113, .bool true), (150, .bool false), (155, .bool false)]) (by kernel_rfl) ?_
            refine WQ.round ?_
            intro a_ ha_
            refine ⟨(i + 1, F, qc, t, Fc, ec, B, capb), ?_, ha_.keep [0, 2, 3, 4, 5, 6, 23] (by kernel_rfl), ?_⟩
            · show n0 - (i + 1) < n0 - i; omega
            · exact ⟨by show i + 1 ≤ n0; omega, HQ, HD, hdq, hgF, hgc, hRel3, h503, by show (0 : Int) ≤ t; omega, by show t ≤ ((i + 1 : Nat) : Int); omega, HA⟩
          · skip
            obtain ⟨fx, hfx⟩ : ∃ fx, fx = fstK (fun k => (at0 ec k).a) ec.length := ⟨_, rfl⟩
            have hfl : fx < ec.length := by rw [hfx]; exact fstK_lt _ _ (by omega)
            have hmin : at0 qc 0 = at0 ec fx := by rw [hfx]; exact hRel3.min (by omega)
            have hdf : atD (ec.map due) fx = due (at0 ec fx) := atD_map ec fx hfl
            -- R32 law.go:82
            refine WE.region ?_
            refine WO.run 1 0 [(110, .slice B ((ec.map due).length) capb)] (by kernel_rfl) (by kernel_rfl) ?_
            have hfi := first_x Fc B capb (ec.map due) wt HD (by omega)
            rw [bst_pos ec (by omega), ← hfx] at hfi
            refine WO.call (SQ.E 1 (by kernel_rfl)) 111 (by kernel_rfl) (hfi) ?_
            rintro _ w211 ⟨rfl, F212⟩
            refine ⟨_, rfl, trivial, ?_⟩
            have HX := Blk.keep HX F212 (nin0 _)
            have HQ := HQ.keep F212 (fun _ _ => nin0 _)
            have HL := HL.keep F212 (fun _ _ => nin0 _)
            have HD := HD.keep F212 (fun _ _ => nin0 _)
            have HA := Fr.step0 HA F212
            refine WO.run 1 2 [(11, .int .i64 (fx : Int))] (by kernel_rfl) (by kernel_rfl) ?_
            refine WO.done (by kernel_rfl) ?_
            refine WQ.keep [0, 2, 3, 4, 5, 6, 7, 9, 10, 11, 23, 32, 41, 71, 104] (e' := [(0, .slice (some ad) n0 cap0), (2, .bool false), (3, .bool true), (4, .pointer (some ⟨g3, 0, none⟩)), (5, .slice B ((ec.map due).length) capb), (6, .int .i64 (i : Int)), (7, .pointer (some ⟨g11, 0, none⟩)), (9, .slice Av199 ((List.map due (takeQ dy q.length q).1).length) capv199), (10, .int .i64 (m : Int)), (11, .int .i64 (fx : Int)), (23, .bool false), (32, .bool true), (41, .int .i64 ((pk dx 4 : Nat) : Int)), (71, .bool false), (104, .bool true)]) (by kernel_rfl) ?_
            refine WQ.thenN ?_
            refine WE.seq ?_
            refine WE.seq ?_
            -- R33 law.go:83
            refine WE.region ?_
            refine WO.run 1 0 [(112, .int .i64 (fx : Int))] (by kernel_rfl) (by kernel_rfl) ?_
            refine WO.one (SQ.F 1 (by kernel_rfl)) 113 (.bool (decide (((fx : Int) : Int) < (0 : Int)))) (by kernel_rfl) ?_
            refine WO.topPF (((fx : Int) : Int) < (0 : Int)) (by omega) ?_
            refine WO.done (by kernel_rfl) ?_
            refine WQ.keep [0, 2, 3, 4, 5, 6, 7, 9, 10, 11, 23, 32, 41, 71, 104, 113] (e' := [(0, .slice (some ad) n0 cap0), (2, .bool false), (3, .bool true), (4, .pointer (some ⟨g3, 0, none⟩)), (5, .slice B ((ec.map due).length) capb), (6, .int .i64 (i : Int)), (7, .pointer (some ⟨g11, 0, none⟩)), (9, .slice Av199 ((List.map due (takeQ dy q.length q).1).length) capv199), (10, .int .i64 (m : Int)), (11, .int .i64 (fx : Int)), (23, .bool false), (32, .bool true), (41, .int .i64 ((pk dx 4 : Nat) : Int)), (71, .bool false), (104, .bool true), (113, .bool false)]) (by kernel_rfl) ?_
            refine WQ.thenN ?_
            refine WE.condF (by kernel_rfl) ?_
            refine WE.skip ?_
            refine WQ.thenN ?_
            refine WE.seq ?_
            refine WE.seq ?_
            obtain ⟨b_w, hFw, hAw, HRw⟩ := HD.pos (by rw [List.length_map]; omega)
            subst hAw
            have nin_b_w_F : b_w ∉ F := fun h => hdq b_w (by rw [hFw]; simp) h
            have nin_b_w_D202 : b_w ∉ D202 := fun h => hdL b_w (by rw [hFw]; simp) h
            have ne_g11_b_w : g11 ≠ b_w := fun h => hnx (by rw [hFw, h]; simp)
            have geb_w : w.heap.size ≤ b_w := hgc b_w (by rw [hFw]; simp)
            -- R34* law.go:86
            refine WE.draw [.free, .free, .free, .free, .still, .free, .still, .free] Same sameR (by kernel_rfl) 8 (Array.replicate 8 false) (by kernel_rfl) rfl ?_
            intro w213 F214 _
            have HX := Blk.keep HX F214 (nin0 _)
            have HRw := RowB.keep HRw F214 (nin0 _)
            have HQ := HQ.keep F214 (fun _ _ => nin0 _)
            have HL := HL.keep F214 (fun _ _ => nin0 _)
            have HA := Fr.step0 HA F214
            refine WO.one (SA.F sameR sameT _ 0 _ (by kernel_rfl)) 114 (.slice (some ⟨b_w, 0, none⟩) ((ec.map due).length) capb) (by kernel_rfl) ?_
            refine WO.one (SA.F sameR sameT _ 1 _ (by kernel_rfl)) 115 (.int .i64 (fx : Int)) (by kernel_rfl) ?_
            refine WO.ixB (SA.F sameR sameT _ 2 _ (by kernel_rfl)) 116 (fx * 2) b_w 0 ((ec.map due).length) 2 (fx : Int) (by kernel_rfl) (by omega) (by omega) (by omega) ?_
            refine WO.one (SA.F sameR sameT _ 3 _ (by kernel_rfl)) 117 (.pointer (some ⟨b_w, fx * 2, none⟩)) (by kernel_rfl) ?_
            refine WO.ld (SA.S sameR sameT _ 4 _ (by kernel_rfl)) 118 (.int .i64 ((atD (ec.map due) fx).u)) (by kernel_rfl) (same (HRw.at fx 0 (fx * 2) _ (by rw [List.length_map]; have := (rfl : (ec.map due).length = (ec.map due).length); omega) (by omega) (by rw [(map_atD (ec.map due) fx (by have := (rfl : (ec.map due).length = (ec.map due).length); omega))]; rfl) (by omega))) ?_
            refine WO.one (SA.F sameR sameT _ 5 _ (by kernel_rfl)) 119 (.pointer (some ⟨g11, 1, none⟩)) (by kernel_rfl) ?_
            refine WO.ld (SA.S sameR sameT _ 6 _ (by kernel_rfl)) 120 (.int .i64 dy) (by kernel_rfl) (same (HX.at 1 (by kernel_rfl))) ?_
            refine WO.one (SA.F sameR sameT _ 7 _ (by kernel_rfl)) 121 (.bool (decide (((atD (ec.map due) fx).u : Int) > dy))) (by kernel_rfl) ?_
            refine WO.topP (((atD (ec.map due) fx).u : Int) > dy) ?_ ?_
            · intro h215
              refine WO.doneA (by kernel_rfl) ?_
              refine WQ.keep [0, 2, 3, 4, 5, 6, 7, 9, 10, 11, 23, 32, 41, 71, 104, 113, 121] (e' := [(0, .slice (some ad) n0 cap0), (2, .bool false), (3, .bool true), (4, .pointer (some ⟨g3, 0, none⟩)), (5, .slice (some ⟨b_w, 0, none⟩) ((ec.map due).length) capb), (6, .int .i64 (i : Int)), (7, .pointer (some ⟨g11, 0, none⟩)), (9, .slice Av199 ((List.map due (takeQ dy q.length q).1).length) capv199), (10, .int .i64 (m : Int)), (11, .int .i64 (fx : Int)), (23, .bool false), (32, .bool true), (41, .int .i64 ((pk dx 4 : Nat) : Int)), (71, .bool false), (104, .bool true), (113, .bool false), (121, .bool true)]) (by kernel_rfl) ?_
              refine WQ.thenN ?_
              refine WE.condT (by kernel_rfl) ?_
              refine WE.exit ?_
              refine WQ.thenE ?_
              refine WQ.blkX (by kernel_rfl) ?_
              refine WQ.thenE ?_
              refine WQ.blkE ?_
              refine WQ.thenN ?_
              refine WE.seq ?_
              have hstop := takeQ_stop dy qc (Or.inr (by rw [hmin]; have h_ := ‹((atD (ec.map due) fx).u : Int) > dy›; rw [hdf] at h_; simp only [due] at h_; omega))
              rw [hT, Prod.mk.injEq] at hstop
              obtain ⟨hs1, hs2⟩ := hstop
              have hmm : m = (takeQ dy q.length q).1.length := by have := congrArg List.length hs1; rw [List.length_drop] at this; simp at this; omega
              have hml2 : (List.map due (takeQ dy q.length q).1).length = (takeQ dy q.length q).1.length := List.length_map _
              have HD2 := OwnX.row HRw (show (List.map cD (ec.map due)).length = (ec.map due).length from List.length_map _)
              rw [← hFw] at HD2
              rw [hs2] at HQ
              -- R41 law.go:98
              refine WE.region ?_
              refine WO.run 3 0 [(149, .int .i64 ((List.map due (takeQ dy q.length q).1).length : Int)), (148, .slice Av199 ((List.map due (takeQ dy q.length q).1).length) capv199), (147, .int .i64 (m : Int))] (by kernel_rfl) (by kernel_rfl) ?_
              refine WO.one (SQ.F 3 (by kernel_rfl)) 150 (.bool (!decide (((m : Int) : Int) = ((List.map due (takeQ dy q.length q).1).length : Int)))) (by kernel_rfl) ?_
              refine WO.topNT (((m : Int) : Int) = ((List.map due (takeQ dy q.length q).1).length : Int)) (by omega) ?_
              refine WO.done (by kernel_rfl) ?_
              refine WQ.keep [0, 2, 3, 4, 5, 6, 7, 9, 10, 11, 23, 32, 41, 71, 104, 113, 121, 150] (e' := [(0, .slice (some ad) n0 cap0), (2, .bool false), (3, .bool true), (4, .pointer (some ⟨g3, 0, none⟩)), (5, .slice (some ⟨b_w, 0, none⟩) ((ec.map due).length) capb), (6, .int .i64 (i : Int)), (7, .pointer (some ⟨g11, 0, none⟩)), (9, .slice Av199 ((List.map due (takeQ dy q.length q).1).length) capv199), (10, .int .i64 (m : Int)), (11, .int .i64 (fx : Int)), (23, .bool false), (32, .bool true), (41, .int .i64 ((pk dx 4 : Nat) : Int)), (71, .bool false), (104, .bool true), (113, .bool false), (121, .bool true), (150, .bool false)]) (by kernel_rfl) ?_
              refine WQ.thenN ?_
              refine WE.condF (by kernel_rfl) ?_
              refine WE.skip ?_
              refine WQ.blkN ?_
              refine WQ.thenN ?_
              refine WE.seq ?_
              have hqe := hRel3.len
              -- R43 law.go:111
              refine WE.region ?_
              refine WO.run 1 0 [(151, .pointer (some ⟨g3, 0, none⟩))] (by kernel_rfl) (by kernel_rfl) ?_
              refine WO.call (SQ.E 1 (by kernel_rfl)) 152 (by kernel_rfl) (len_q F g3 qc t _ HQ) ?_
              rintro _ w216 ⟨rfl, F217⟩
              refine ⟨_, rfl, trivial, ?_⟩
              have HX := Blk.keep HX F217 (nin0 _)
              have HQ := HQ.keep F217 (fun _ _ => nin0 _)
              have HD2 := HD2.keep F217 (fun _ _ => nin0 _)
              have HA := Fr.step0 HA F217
              refine WO.run 2 2 [(154, .int .i64 ((ec.map due).length : Int)), (153, .slice (some ⟨b_w, 0, none⟩) ((ec.map due).length) capb)] (by kernel_rfl) (by kernel_rfl) ?_
              refine WO.one (SQ.F 4 (by kernel_rfl)) 155 (.bool (!decide (((qc.length : Int) : Int) = ((ec.map due).length : Int)))) (by kernel_rfl) ?_
              refine WO.topNT (((qc.length : Int) : Int) = ((ec.map due).length : Int)) (by have := hRel3.len; omega) ?_
              refine WO.done (by kernel_rfl) ?_
              refine WQ.keep [0, 2, 3, 4, 5, 6, 7, 9, 10, 11, 23, 32, 41, 71, 104, 113, 121, 150, 155] (e' := [(0, .slice (some ad) n0 cap0), (2, .bool false), (3, .bool true), (4, .pointer (some ⟨g3, 0, none⟩)), (5, .slice (some ⟨b_w, 0, none⟩) ((ec.map due).length) capb), (6, .int .i64 (i : Int)), (7, .pointer (some ⟨g11, 0, none⟩)), (9, .slice Av199 ((List.map due (takeQ dy q.length q).1).length) capv199), (10, .int .i64 (m : Int)), (11, .int .i64 (fx : Int)), (23, .bool false), (32, .bool true), (41, .int .i64 ((pk dx 4 : Nat) : Int)), (71, .bool false), (104, .bool true), (113, .bool false), (121, .bool true), (150, .bool false), (155, .bool false)]) (by kernel_rfl) ?_
              refine WQ.thenN ?_
              refine WE.condF (by kernel_rfl) ?_
              refine WE.skip ?_
              refine WQ.blkN ?_
              refine WQ.thenN ?_
              -- R8 law.go:59
              refine WE.region ?_
              refine WO.run 1 0 [(33, .int .i64 (i : Int))] (by kernel_rfl) (by kernel_rfl) ?_
              refine WO.one (SQ.F 1 (by kernel_rfl)) 34 (.int .i64 (IntKind.i64.wrap ((i : Int) + 1))) (by kernel_rfl) ?_
              refine WO.top (v' := .int .i64 ((i + 1 : Nat) : Int)) (wrap_i64 (by omega) (by omega)) ?_
              refine WO.run 1 2 [(6, .int .i64 ((i + 1 : Nat) : Int))] (by kernel_rfl) (by kernel_rfl) ?_
              refine WO.done (by kernel_rfl) ?_
              refine WQ.keep [0, 2, 3, 4, 5, 6, 7, 9, 10, 11, 23, 32, 41, 71, 104, 113, 121, 150, 155] (e' := [(0, .slice (some ad) n0 cap0), (2, .bool false), (3, .bool true), (4, .pointer (some ⟨g3, 0, none⟩)), (5, .slice (some ⟨b_w, 0, none⟩) ((ec.map due).length) capb), (6, .int .i64 ((i + 1 : Nat) : Int)), (7, .pointer (some ⟨g11, 0, none⟩)), (9, .slice Av199 ((List.map due (takeQ dy q.length q).1).length) capv199), (10, .int .i64 (m : Int)), (11, .int .i64 (fx : Int)), (23, .bool false), (32, .bool true), (41, .int .i64 ((pk dx 4 : Nat) : Int)), (71, .bool false), (104, .bool true), (113, .bool false), (121, .bool true), (150, .bool false), (155, .bool false)]) (by kernel_rfl) ?_
              refine WQ.round ?_
              intro a_ ha_
              refine ⟨(i + 1, F, qc, t, Fc, ec, (some ⟨b_w, 0, none⟩), capb), ?_, ha_.keep [0, 2, 3, 4, 5, 6, 23] (by kernel_rfl), ?_⟩
              · show n0 - (i + 1) < n0 - i; omega
              · exact ⟨by show i + 1 ≤ n0; omega, HQ, HD2, hdq, hgF, hgc, hRel3, h503, by show (0 : Int) ≤ t; omega, by show t ≤ ((i + 1 : Nat) : Int); omega, HA⟩
            · intro h215
              refine WO.doneA (by kernel_rfl) ?_
              refine WQ.keep [0, 2, 3, 4, 5, 6, 7, 9, 10, 11, 23, 32, 41, 71, 104, 113, 121] (e' := [(0, .slice (some ad) n0 cap0), (2, .bool false), (3, .bool true), (4, .pointer (some ⟨g3, 0, none⟩)), (5, .slice (some ⟨b_w, 0, none⟩) ((ec.map due).length) capb), (6, .int .i64 (i : Int)), (7, .pointer (some ⟨g11, 0, none⟩)), (9, .slice Av199 ((List.map due (takeQ dy q.length q).1).length) capv199), (10, .int .i64 (m : Int)), (11, .int .i64 (fx : Int)), (23, .bool false), (32, .bool true), (41, .int .i64 ((pk dx 4 : Nat) : Int)), (71, .bool false), (104, .bool true), (113, .bool false), (121, .bool false)]) (by kernel_rfl) ?_
              refine WQ.thenN ?_
              refine WE.condF (by kernel_rfl) ?_
              refine WE.skip ?_
              refine WQ.thenN ?_
              refine WE.seq ?_
              refine WE.seq ?_
              have hq0 := hRel.len
              have hle : (at0 qc 0).a ≤ dy := by rw [hmin]; have h_ := ‹¬ ((atD (ec.map due) fx).u : Int) > dy›; rw [hdf] at h_; simp only [due] at h_; omega
              obtain ⟨mq, hmq⟩ : ∃ mq, qc.length = mq + 1 := ⟨qc.length - 1, by have := hRel3.len; omega⟩
              have hst := takeQ_step dy qc mq hmq hle
              rw [hT, Prod.mk.injEq] at hst
              obtain ⟨hst1, hst2⟩ := hst
              have hml : m < (takeQ dy q.length q).1.length := by have := congrArg List.length hst1; rw [List.length_drop] at this; simp at this; omega
              have hat : at0 (takeQ dy q.length q).1 m = at0 qc 0 := by have := congrArg (fun l => at0 l 0) hst1; simp [at0] at this ⊢; exact this
              have hT2 : takeQ dy (popQ qc).length (popQ qc) = ((takeQ dy q.length q).1.drop (m + 1), (takeQ dy q.length q).2) := by rw [← List.drop_drop, hst1, hst2]; rfl
              have hdm : atD (List.map due (takeQ dy q.length q).1) m = due (at0 qc 0) := by rw [← hat]; exact atD_map _ m hml
              -- R35 law.go:89
              refine WE.region ?_
              refine WO.run 3 0 [(124, .int .i64 ((List.map due (takeQ dy q.length q).1).length : Int)), (123, .slice Av199 ((List.map due (takeQ dy q.length q).1).length) capv199), (122, .int .i64 (m : Int))] (by kernel_rfl) (by kernel_rfl) ?_
              refine WO.one (SQ.F 3 (by kernel_rfl)) 125 (.bool (decide (((m : Int) : Int) ≥ ((List.map due (takeQ dy q.length q).1).length : Int)))) (by kernel_rfl) ?_
              refine WO.topPF (((m : Int) : Int) ≥ ((List.map due (takeQ dy q.length q).1).length : Int)) (by omega) ?_
              refine WO.done (by kernel_rfl) ?_
              refine WQ.keep [0, 2, 3, 4, 5, 6, 7, 9, 10, 11, 23, 32, 41, 71, 104, 113, 121, 125] (e' := [(0, .slice (some ad) n0 cap0), (2, .bool false), (3, .bool true), (4, .pointer (some ⟨g3, 0, none⟩)), (5, .slice (some ⟨b_w, 0, none⟩) ((ec.map due).length) capb), (6, .int .i64 (i : Int)), (7, .pointer (some ⟨g11, 0, none⟩)), (9, .slice Av199 ((List.map due (takeQ dy q.length q).1).length) capv199), (10, .int .i64 (m : Int)), (11, .int .i64 (fx : Int)), (23, .bool false), (32, .bool true), (41, .int .i64 ((pk dx 4 : Nat) : Int)), (71, .bool false), (104, .bool true), (113, .bool false), (121, .bool false), (125, .bool false)]) (by kernel_rfl) ?_
              refine WQ.thenN ?_
              refine WE.condF (by kernel_rfl) ?_
              refine WE.skip ?_
              refine WQ.thenN ?_
              refine WE.seq ?_
              refine WE.seq ?_
              obtain ⟨b_l, hFl, hAl, HRl⟩ := HL.pos (by rw [List.length_map, List.length_map]; omega)
              have hml2 : (List.map due (takeQ dy q.length q).1).length = (takeQ dy q.length q).1.length := List.length_map _
              refine WE.env (e' := [(0, .slice (some ad) n0 cap0), (2, .bool false), (3, .bool true), (4, .pointer (some ⟨g3, 0, none⟩)), (5, .slice (some ⟨b_w, 0, none⟩) ((ec.map due).length) capb), (6, .int .i64 (i : Int)), (7, .pointer (some ⟨g11, 0, none⟩)), (9, .slice (some ⟨b_l, 0, none⟩) ((List.map due (takeQ dy q.length q).1).length) capv199), (10, .int .i64 (m : Int)), (11, .int .i64 (fx : Int)), (23, .bool false), (32, .bool true), (41, .int .i64 ((pk dx 4 : Nat) : Int)), (71, .bool false), (104, .bool true), (113, .bool false), (121, .bool false), (125, .bool false)]) (by rw [hAl]) ?_
              have ne_b_w_b_l : b_w ≠ b_l := fun h => nin_b_w_D202 (by rw [hFl, h]; simp)
              have ne_g11_b_l : g11 ≠ b_l := fun h => nin_g11_D202 (by rw [hFl, h]; simp)
              -- R37* law.go:92
              refine WE.draw [.free, .free, .free, .still, .free, .free, .free, .still, .free] Same sameR (by kernel_rfl) 9 (Array.replicate 9 false) (by kernel_rfl) rfl ?_
              intro w218 F219 _
              have HX := Blk.keep HX F219 (nin0 _)
              have HRw := RowB.keep HRw F219 (nin0 _)
              have HRl := RowB.keep HRl F219 (nin0 _)
              have HQ := HQ.keep F219 (fun _ _ => nin0 _)
              have HL := HL.keep F219 (fun _ _ => nin0 _)
              have HA := Fr.step0 HA F219
              refine WO.one (SA.F sameR sameT _ 0 _ (by kernel_rfl)) 126 (.slice (some ⟨b_l, 0, none⟩) ((List.map due (takeQ dy q.length q).1).length) capv199) (by kernel_rfl) ?_
              refine WO.one (SA.F sameR sameT _ 1 _ (by kernel_rfl)) 127 (.int .i64 (m : Int)) (by kernel_rfl) ?_
              refine WO.ixB (SA.F sameR sameT _ 2 _ (by kernel_rfl)) 128 (m * 2) b_l 0 ((List.map due (takeQ dy q.length q).1).length) 2 (m : Int) (by kernel_rfl) (by omega) (by omega) (by omega) ?_
              refine WO.ldR (SA.S sameR sameT _ 3 _ (by kernel_rfl)) 129 [.int .i64 ((atD (List.map due (takeQ dy q.length q).1) m).u), .int .i64 ((atD (List.map due (takeQ dy q.length q).1) m).v)] b_l m 2 (m * 2) (same HRl) (by rw [List.length_map]; have := (rfl : (List.map due (takeQ dy q.length q).1).length = (List.map due (takeQ dy q.length q).1).length); omega) (map_atD (List.map due (takeQ dy q.length q).1) m (by have := (rfl : (List.map due (takeQ dy q.length q).1).length = (List.map due (takeQ dy q.length q).1).length); omega)) rfl (by omega) (by kernel_rfl) (by kernel_rfl) ?_
              refine WO.one (SA.F sameR sameT _ 4 _ (by kernel_rfl)) 130 (.slice (some ⟨b_w, 0, none⟩) ((ec.map due).length) capb) (by kernel_rfl) ?_
              refine WO.one (SA.F sameR sameT _ 5 _ (by kernel_rfl)) 131 (.int .i64 (fx : Int)) (by kernel_rfl) ?_
              refine WO.ixB (SA.F sameR sameT _ 6 _ (by kernel_rfl)) 132 (fx * 2) b_w 0 ((ec.map due).length) 2 (fx : Int) (by kernel_rfl) (by omega) (by omega) (by omega) ?_
              refine WO.ldR (SA.S sameR sameT _ 7 _ (by kernel_rfl)) 133 [.int .i64 ((atD (ec.map due) fx).u), .int .i64 ((atD (ec.map due) fx).v)] b_w fx 2 (fx * 2) (same HRw) (by rw [List.length_map]; have := (rfl : (ec.map due).length = (ec.map due).length); omega) (map_atD (ec.map due) fx (by have := (rfl : (ec.map due).length = (ec.map due).length); omega)) rfl (by omega) (by kernel_rfl) (by kernel_rfl) ?_
              refine WO.eqS (SA.F sameR sameT _ 8 _ (by kernel_rfl)) 134 true 33 #[.int .i64 ((atD (List.map due (takeQ dy q.length q).1) m).u), .int .i64 ((atD (List.map due (takeQ dy q.length q).1) m).v)] #[.int .i64 ((atD (ec.map due) fx).u), .int .i64 ((atD (ec.map due) fx).v)] (b := ((atD (List.map due (takeQ dy q.length q).1) m).u) == ((atD (ec.map due) fx).u) && (((atD (List.map due (takeQ dy q.length q).1) m).v) == ((atD (ec.map due) fx).v))) (by kernel_rfl) (by kernel_rfl) (fun w_ => eqA33 9998 w_ _ _ _ _) ?_
              refine WO.top (v' := .bool (!(((atD (List.map due (takeQ dy q.length q).1) m).u) == ((atD (ec.map due) fx).u) && (((atD (List.map due (takeQ dy q.length q).1) m).v) == ((atD (ec.map due) fx).v))))) rfl ?_
              refine WO.top (v' := .bool false) (congrArg Value.bool (by rw [hdf, hdm, hmin]; simp)) ?_
              refine WO.doneA (by kernel_rfl) ?_
              refine WQ.keep [0, 2, 3, 4, 5, 6, 7, 9, 10, 11, 23, 32, 41, 71, 104, 113, 121, 125, 134] (e' := [(0, .slice (some ad) n0 cap0), (2, .bool false), (3, .bool true), (4, .pointer (some ⟨g3, 0, none⟩)), (5, .slice (some ⟨b_w, 0, none⟩) ((ec.map due).length) capb), (6, .int .i64 (i : Int)), (7, .pointer (some ⟨g11, 0, none⟩)), (9, .slice (some ⟨b_l, 0, none⟩) ((List.map due (takeQ dy q.length q).1).length) capv199), (10, .int .i64 (m : Int)), (11, .int .i64 (fx : Int)), (23, .bool false), (32, .bool true), (41, .int .i64 ((pk dx 4 : Nat) : Int)), (71, .bool false), (104, .bool true), (113, .bool false), (121, .bool false), (125, .bool false), (134, .bool false)]) (by kernel_rfl) ?_
              refine WQ.thenN ?_
              refine WE.condF (by kernel_rfl) ?_
              refine WE.skip ?_
              refine WQ.thenN ?_
              refine WE.seq ?_
              refine WE.env (e' := [(0, .slice (some ad) n0 cap0), (2, .bool false), (3, .bool true), (4, .pointer (some ⟨g3, 0, none⟩)), (5, .slice (some ⟨b_w, 0, none⟩) ((ec.map due).length) capb), (6, .int .i64 (i : Int)), (7, .pointer (some ⟨g11, 0, none⟩)), (9, .slice Av199 ((List.map due (takeQ dy q.length q).1).length) capv199), (10, .int .i64 (m : Int)), (11, .int .i64 (fx : Int)), (23, .bool false), (32, .bool true), (41, .int .i64 ((pk dx 4 : Nat) : Int)), (71, .bool false), (104, .bool true), (113, .bool false), (121, .bool false), (125, .bool false), (134, .bool false)]) (by rw [hAl]) ?_
              -- R39* law.go:95
              refine WE.draw [.eff, .free, .free, .free, .eff, .free, .free, .free, .free, .eff, .free] Same sameR (by kernel_rfl) 11 (Array.replicate 11 false) (by kernel_rfl) rfl ?_
              intro w220 F221 _
              have HX := Blk.keep HX F221 (nin0 _)
              have HRw := RowB.keep HRw F221 (nin0 _)
              have HQ := HQ.keep F221 (fun _ _ => nin0 _)
              have HL := HL.keep F221 (fun _ _ => nin0 _)
              have HA := Fr.step0 HA F221
              refine WO.one (SA.F sameR sameT _ 1 _ (by kernel_rfl)) 136 (.slice (some ⟨b_w, 0, none⟩) ((ec.map due).length) capb) (by kernel_rfl) ?_
              refine WO.one (SA.F sameR sameT _ 2 _ (by kernel_rfl)) 137 (.int .i64 (fx : Int)) (by kernel_rfl) ?_
              have hle222 := HRw.le
              rw [show (List.map cD (ec.map due)).length = (ec.map due).length from (List.length_map _).trans ((rfl : (ec.map due).length = (ec.map due).length))] at hle222
              refine WO.sl (SA.F sameR sameT _ 3 _ (by kernel_rfl)) 138 0 fx (some ⟨b_w, 0, none⟩) ((ec.map due).length) capb 2 none (some (fx : Int)) (by kernel_rfl) (by rfl) (by simp only [Option.getD_some] <;> omega) (by omega) (by omega) ?_
              refine WO.top (sl0 _ _ _ _) ?_
              refine WO.one (SA.F sameR sameT _ 5 _ (by kernel_rfl)) 140 (.slice (some ⟨b_w, 0, none⟩) ((ec.map due).length) capb) (by kernel_rfl) ?_
              refine WO.one (SA.F sameR sameT _ 6 _ (by kernel_rfl)) 141 (.int .i64 (fx : Int)) (by kernel_rfl) ?_
              refine WO.one (SA.F sameR sameT _ 7 _ (by kernel_rfl)) 142 (.int .i64 (IntKind.i64.wrap ((fx : Int) + 1))) (by kernel_rfl) ?_
              refine WO.top (v' := .int .i64 ((fx + 1 : Nat) : Int)) (wrap_i64 (by omega) (by omega)) ?_
              have hle223 := HRw.le
              rw [show (List.map cD (ec.map due)).length = (ec.map due).length from (List.length_map _).trans ((rfl : (ec.map due).length = (ec.map due).length))] at hle223
              refine WO.sl (SA.F sameR sameT _ 8 _ (by kernel_rfl)) 143 (fx + 1) ((ec.map due).length) (some ⟨b_w, 0, none⟩) ((ec.map due).length) capb 2 (some ((fx + 1 : Nat) : Int)) none (by kernel_rfl) (by simp only [Option.getD_some] <;> omega) (by rfl) (by omega) (by omega) ?_
              refine WO.bx (SA.E _ 0 _ (by kernel_rfl) rfl) 135 #[] 33 (fun g => .slice (some ⟨g, 0, none⟩) 0 0) (by kernel_rfl) (fun _ _ => trivial) ?_
              intro g224 w225 HB227 F226 le228 _
              have ne_g11_g224 : g11 ≠ g224 := Nat.ne_of_lt (Nat.lt_of_lt_of_le HX.lt le228)
              have ne_b_w_g224 : b_w ≠ g224 := Nat.ne_of_lt (Nat.lt_of_lt_of_le HRw.lt le228)
              have nin_g224_F : g224 ∉ F := new_nin HQ.lt le228
              have nin_g224_D202 : g224 ∉ D202 := new_nin HL.lt le228
              have ge_HA_g224 := Nat.le_trans HA.size le228
              have HX := Blk.keep HX F226 (nin0 _)
              have HRw := RowB.keep HRw F226 (nin0 _)
              have HQ := HQ.keep F226 (fun _ _ => nin0 _)
              have HL := HL.keep F226 (fun _ _ => nin0 _)
              have HA := Fr.step0 HA F226
              have HR234 := RowB.of_blk (n := 0) HB227 (List.map cD []) rfl rfl (cD_len _) (cD_one _) (by omega)
              refine WO.appRow (SA.E _ 4 _ (by kernel_rfl) rfl) 139 (n := 0) (m := fx) (ys := List.map cD ((ec.map due).take fx)) et_d HR234 ((List.length_map _).trans ((rfl : List.length ([] : List Due) = 0))) (by rw [List.length_map] <;> first | rfl | omega | (simp <;> omega)) (by rw [List.map_take]; exact srcTake HRw fx (by rw [List.length_map]; have := (rfl : (ec.map due).length = (ec.map due).length); omega)) (cD_len _) (cD_one _) (by kernel_rfl) (by omega) (by omega) (fun _ _ => trivial) ?_
              intro b229 cap230 w231 HR232 F233 hb235
              have ne_g11_b229 : g11 ≠ b229 := hb235.elim (fun h => h ▸ ne_g11_g224) (fun h => Nat.ne_of_lt (Nat.lt_of_lt_of_le HX.lt h))
              have ne_b_w_b229 : b_w ≠ b229 := hb235.elim (fun h => h ▸ ne_b_w_g224) (fun h => Nat.ne_of_lt (Nat.lt_of_lt_of_le HRw.lt h))
              have nin_b229_F : b229 ∉ F := hb235.elim (fun h => h ▸ nin_g224_F) (fun h => new_nin HQ.lt h)
              have nin_b229_D202 : b229 ∉ D202 := hb235.elim (fun h => h ▸ nin_g224_D202) (fun h => new_nin HL.lt h)
              have in_HA_b229 : b229 ∈ [] ∨ (World.heap w).size ≤ b229 := hb235.elim (fun h => Or.inr (h ▸ ge_HA_g224)) (fun h => Or.inr (Nat.le_trans HA.size h))
              have HX := Blk.keep HX F233 (ninC ne_g11_g224 (nin0 _))
              have HRw := RowB.keep HRw F233 (ninC ne_b_w_g224 (nin0 _))
              have HQ := HQ.keep F233 (djB nin_g224_F)
              have HL := HL.keep F233 (djB nin_g224_D202)
              have HA := Fr.step HA F233 (inSR ge_HA_g224 inS0)
              have HR232 : RowB w231 b229 33 2 cap230 ((([] : List Due) ++ ((ec.map due).take fx)).map cD) := by rw [List.map_append]; exact HR232
              refine WO.appRow (SA.E _ 9 _ (by kernel_rfl) rfl) 144 (n := (0 + fx)) (m := (((ec.map due).length) - (fx + 1))) (ys := List.map cD ((ec.map due).drop (fx + 1))) et_d HR232 ((List.length_map _).trans ((show (([] : List Due) ++ ((ec.map due).take fx)).length = 0 + fx by rw [List.length_append, (rfl : List.length ([] : List Due) = 0)]; first | rfl | (have := (rfl : List.length ([] : List Due) = 0); simp; omega)))) (by rw [List.length_map] <;> first | rfl | omega | (simp <;> omega)) (by rw [List.map_drop]; have h_ := srcDrop HRw (fx + 1) (by rw [List.length_map]; have := (rfl : (ec.map due).length = (ec.map due).length); omega); rw [show (List.map cD (ec.map due)).length = (ec.map due).length from (List.length_map _).trans ((rfl : (ec.map due).length = (ec.map due).length))] at h_; exact h_) (cD_len _) (cD_one _) (by kernel_rfl) (by omega) (by omega) (fun _ _ => trivial) ?_
              intro b236 cap237 w238 HR239 F240 hb241
              have ne_g11_b236 : g11 ≠ b236 := hb241.elim (fun h => h ▸ ne_g11_b229) (fun h => Nat.ne_of_lt (Nat.lt_of_lt_of_le HX.lt h))
              have ne_b_w_b236 : b_w ≠ b236 := hb241.elim (fun h => h ▸ ne_b_w_b229) (fun h => Nat.ne_of_lt (Nat.lt_of_lt_of_le HRw.lt h))
              have nin_b236_F : b236 ∉ F := hb241.elim (fun h => h ▸ nin_b229_F) (fun h => new_nin HQ.lt h)
              have nin_b236_D202 : b236 ∉ D202 := hb241.elim (fun h => h ▸ nin_b229_D202) (fun h => new_nin HL.lt h)
              have in_HA_b236 : b236 ∈ [] ∨ (World.heap w).size ≤ b236 := hb241.elim (fun h => (h ▸ in_HA_b229)) (fun h => Or.inr (Nat.le_trans HA.size h))
              have HX := Blk.keep HX F240 (ninC ne_g11_b229 (nin0 _))
              have HRw := RowB.keep HRw F240 (ninC ne_b_w_b229 (nin0 _))
              have HQ := HQ.keep F240 (djB nin_b229_F)
              have HL := HL.keep F240 (djB nin_b229_D202)
              have HA := Fr.step HA F240 (inSD in_HA_b229 inS0)
              have HR239 : RowB w238 b236 33 2 cap237 (((([] : List Due) ++ ((ec.map due).take fx)) ++ ((ec.map due).drop (fx + 1))).map cD) := by rw [List.map_append]; exact HR239
              refine WO.one (SA.F sameR sameT _ 10 _ (by kernel_rfl)) 5 (.slice (some ⟨b236, 0, none⟩) (0 + fx + (((ec.map due).length) - (fx + 1))) cap237) (by kernel_rfl) ?_
              refine WO.doneA (by kernel_rfl) ?_
              refine WQ.keep [0, 2, 3, 4, 5, 6, 7, 9, 10, 11, 23, 32, 41, 71, 104, 113, 121, 125, 134] (e' := [(0, .slice (some ad) n0 cap0), (2, .bool false), (3, .bool true), (4, .pointer (some ⟨g3, 0, none⟩)), (5, .slice (some ⟨b236, 0, none⟩) (0 + fx + (((ec.map due).length) - (fx + 1))) cap237), (6, .int .i64 (i : Int)), (7, .pointer (some ⟨g11, 0, none⟩)), (9, .slice Av199 ((List.map due (takeQ dy q.length q).1).length) capv199), (10, .int .i64 (m : Int)), (11, .int .i64 (fx : Int)), (23, .bool false), (32, .bool true), (41, .int .i64 ((pk dx 4 : Nat) : Int)), (71, .bool false), (104, .bool true), (113, .bool false), (121, .bool false), (125, .bool false), (134, .bool false)]) (by kernel_rfl) ?_
              refine WQ.thenN ?_
              -- R40 law.go:96
              refine WE.region ?_
              refine WO.run 1 0 [(145, .int .i64 (m : Int))] (by kernel_rfl) (by kernel_rfl) ?_
              refine WO.one (SQ.F 1 (by kernel_rfl)) 146 (.int .i64 (IntKind.i64.wrap ((m : Int) + 1))) (by kernel_rfl) ?_
              refine WO.top (v' := .int .i64 ((m + 1 : Nat) : Int)) (wrap_i64 (by omega) (by omega)) ?_
              refine WO.run 1 2 [(10, .int .i64 ((m + 1 : Nat) : Int))] (by kernel_rfl) (by kernel_rfl) ?_
              refine WO.done (by kernel_rfl) ?_
              refine WQ.keep [0, 2, 3, 4, 5, 6, 7, 9, 10, 11, 23, 32, 41, 71, 104, 113, 121, 125, 134] (e' := [(0, .slice (some ad) n0 cap0), (2, .bool false), (3, .bool true), (4, .pointer (some ⟨g3, 0, none⟩)), (5, .slice (some ⟨b236, 0, none⟩) (0 + fx + (((ec.map due).length) - (fx + 1))) cap237), (6, .int .i64 (i : Int)), (7, .pointer (some ⟨g11, 0, none⟩)), (9, .slice Av199 ((List.map due (takeQ dy q.length q).1).length) capv199), (10, .int .i64 ((m + 1 : Nat) : Int)), (11, .int .i64 (fx : Int)), (23, .bool false), (32, .bool true), (41, .int .i64 ((pk dx 4 : Nat) : Int)), (71, .bool false), (104, .bool true), (113, .bool false), (121, .bool false), (125, .bool false), (134, .bool false)]) (by kernel_rfl) ?_
              refine WQ.blkN ?_
              have hlst : ((([] : List Due) ++ ((ec.map due).take fx)) ++ ((ec.map due).drop (fx + 1))) = (ec.eraseIdx fx).map due := by rw [List.eraseIdx_eq_take_drop_succ]; simp
              have hrow := HR239
              rw [hlst] at hrow
              have hel : (ec.eraseIdx fx).length = ec.length - 1 := List.length_eraseIdx_of_lt hfl
              have hln : 0 + fx + (((ec.map due).length) - (fx + 1)) = ((ec.eraseIdx fx).map due).length := by have h1_ : ((ec.eraseIdx fx).map due).length = (ec.eraseIdx fx).length := List.length_map _; omega
              refine WQ.env (e' := [(0, .slice (some ad) n0 cap0), (2, .bool false), (3, .bool true), (4, .pointer (some ⟨g3, 0, none⟩)), (5, .slice (some ⟨b236, 0, none⟩) (((ec.eraseIdx fx).map due).length) cap237), (6, .int .i64 (i : Int)), (7, .pointer (some ⟨g11, 0, none⟩)), (9, .slice Av199 ((List.map due (takeQ dy q.length q).1).length) capv199), (10, .int .i64 ((m + 1 : Nat) : Int)), (11, .int .i64 (fx : Int)), (23, .bool false), (32, .bool true), (41, .int .i64 ((pk dx 4 : Nat) : Int)), (71, .bool false), (104, .bool true), (113, .bool false), (121, .bool false), (125, .bool false), (134, .bool false)]) (by rw [hln]) ?_
              refine WQ.round ?_
              intro a_ ha_
              refine ⟨(m + 1, popQ qc, ec.eraseIdx fx, [b236], some ⟨b236, 0, none⟩, cap237), ?_, ha_.keep [0, 2, 3, 4, 5, 6, 7, 9, 10, 23, 32, 41, 71, 104] (by kernel_rfl), ?_⟩
              · show (ec.eraseIdx fx).length < ec.length; omega
              · exact ⟨by show m + 1 ≤ _; omega, hT2, by rw [hfx]; exact hRel3.pop (by omega), by show (ec.eraseIdx fx).length ≤ 50; omega, HQ, HL, OwnX.row hrow (List.length_map _), by intro y hy; obtain rfl : y = b236 := (by simpa using hy); exact nin_b236_F, by intro y hy; obtain rfl : y = b236 := (by simpa using hy); exact nin_b236_D202, by intro y hy; obtain rfl : y = b236 := (by simpa using hy); exact (in_HA_b236).resolve_left (by simp), HX, by simp; exact ne_g11_b236, HA⟩
        · intro h196
          refine WO.run 1 1 [(104, .bool false)] (by kernel_rfl) (by kernel_rfl) ?_
          refine WO.done (by kernel_rfl) ?_
          refine WQ.keep [0, 2, 3, 4, 5, 6, 7, 23, 32, 41, 71, 104] (e' := [(0, .slice (some ad) n0 cap0), (2, .bool false), (3, .bool true), (4, .pointer (some ⟨g3, 0, none⟩)), (5, .slice A ((es.map due).length) cap), (6, .int .i64 (i : Int)), (7, .pointer (some ⟨g11, 0, none⟩)), (23, .bool false), (32, .bool true), (41, .int .i64 ((pk dx 4 : Nat) : Int)), (71, .bool false), (104, .bool false)]) (by kernel_rfl) ?_
          refine WQ.thenN ?_
          refine WE.condF (by kernel_rfl) ?_
          refine WE.seq ?_
          by_cases he0 : es.length = 0
          · skip
            -- R11 law.go:102
            refine WE.region ?_
            refine WO.run 1 0 [(43, .pointer (some ⟨g3, 0, none⟩))] (by kernel_rfl) (by kernel_rfl) ?_
            have hnx := next_q F g3 q t w20 HQ
            rw [show decide (0 < q.length) = false from decide_eq_false (by have := hRel.len; omega), show at0 q 0 = ⟨0, 0, 0⟩ from by rw [show q = [] from List.length_eq_zero_iff.1 (by have := hRel.len; omega)]; rfl] at hnx
            refine WO.call (SQ.E 1 (by kernel_rfl)) 44 (by kernel_rfl) (hnx) ?_
            rintro _ w242 ⟨rfl, F243⟩
            refine ⟨_, rfl, trivial, ?_⟩
            have HB18 := Blk.keep HB18 F243 (nin0 _)
            have HQ := HQ.keep F243 (fun _ _ => nin0 _)
            have HD := HD.keep F243 (fun _ _ => nin0 _)
            have HA := Fr.step0 HA F243
            refine WO.run 3 2 [(46, .bool false), (45, .agg #[.int .i64 0, .int .i64 0]), (42, .tuple #[.agg #[.int .i64 0, .int .i64 0], .bool false])] (by kernel_rfl) (by kernel_rfl) ?_
            refine WO.bx (SQ.E 5 (by kernel_rfl)) 12 #[.int .i64 0, .int .i64 0] 33 (fun g => .pointer (some ⟨g, 0, none⟩)) (by kernel_rfl) (fun _ _ => trivial) ?_
            intro g244 w245 HB247 F246 le248 _
            have ne_g11_g244 : g11 ≠ g244 := Nat.ne_of_lt (Nat.lt_of_lt_of_le HB18.lt le248)
            have nin_g244_F : g244 ∉ F := new_nin HQ.lt le248
            have nin_g244_Fw : g244 ∉ Fw := new_nin HD.lt le248
            have ge_HA_g244 := Nat.le_trans HA.size le248
            have HB18 := Blk.keep HB18 F246 (nin0 _)
            have HQ := HQ.keep F246 (fun _ _ => nin0 _)
            have HD := HD.keep F246 (fun _ _ => nin0 _)
            have HA := Fr.step0 HA F246
            refine WO.st (SQ.E 6 (by kernel_rfl)) g244 0 [.int .i64 0, .int .i64 0] #[.int .i64 0, .int .i64 0] (by kernel_rfl) HB247 (by kernel_rfl) (by kernel_rfl) (fun _ _ => trivial) ?_
            intro w249 HB251 F250 _
            have HB18 := Blk.keep HB18 F250 (ninC ne_g11_g244 (nin0 _))
            have HQ := HQ.keep F250 (djB nin_g244_F)
            have HD := HD.keep F250 (djB nin_g244_Fw)
            have HA := Fr.step HA F250 (inSR ge_HA_g244 inS0)
            refine WO.run 1 7 [(13, .bool false)] (by kernel_rfl) (by kernel_rfl) ?_
            refine WO.done (by kernel_rfl) ?_
            refine WQ.keep [0, 2, 3, 4, 5, 6, 7, 12, 13, 23, 32, 41, 71, 104] (e' := [(0, .slice (some ad) n0 cap0), (2, .bool false), (3, .bool true), (4, .pointer (some ⟨g3, 0, none⟩)), (5, .slice A ((es.map due).length) cap), (6, .int .i64 (i : Int)), (7, .pointer (some ⟨g11, 0, none⟩)), (12, .pointer (some ⟨g244, 0, none⟩)), (13, .bool false), (23, .bool false), (32, .bool true), (41, .int .i64 ((pk dx 4 : Nat) : Int)), (71, .bool false), (104, .bool false)]) (by kernel_rfl) ?_
            refine WQ.thenN ?_
            refine WE.seq ?_
            -- R12 law.go:103
            refine WE.region ?_
            refine WO.run 1 0 [(47, .slice A ((es.map due).length) cap)] (by kernel_rfl) (by kernel_rfl) ?_
            have hfi := first_x Fw A cap (es.map due) w249 HD (by omega)
            rw [bst_nil es (by omega)] at hfi
            refine WO.call (SQ.E 1 (by kernel_rfl)) 48 (by kernel_rfl) (hfi) ?_
            rintro _ w252 ⟨rfl, F253⟩
            refine ⟨_, rfl, trivial, ?_⟩
            have HB18 := Blk.keep HB18 F253 (nin0 _)
            have HB251 := Blk.keep HB251 F253 (nin0 _)
            have HQ := HQ.keep F253 (fun _ _ => nin0 _)
            have HD := HD.keep F253 (fun _ _ => nin0 _)
            have HA := Fr.step0 HA F253
            refine WO.run 1 2 [(14, .int .i64 (-1))] (by kernel_rfl) (by kernel_rfl) ?_
            refine WO.done (by kernel_rfl) ?_
            refine WQ.keep [0, 2, 3, 4, 5, 6, 7, 12, 13, 14, 23, 32, 41, 71, 104] (e' := [(0, .slice (some ad) n0 cap0), (2, .bool false), (3, .bool true), (4, .pointer (some ⟨g3, 0, none⟩)), (5, .slice A ((es.map due).length) cap), (6, .int .i64 (i : Int)), (7, .pointer (some ⟨g11, 0, none⟩)), (12, .pointer (some ⟨g244, 0, none⟩)), (13, .bool false), (14, .int .i64 (-1)), (23, .bool false), (32, .bool true), (41, .int .i64 ((pk dx 4 : Nat) : Int)), (71, .bool false), (104, .bool false)]) (by kernel_rfl) ?_
            refine WQ.thenN ?_
            refine WE.seq ?_
            refine WE.seq ?_
            -- R13 law.go:104
            refine WE.region ?_
            refine WO.run 4 0 [(52, .bool false), (51, .bool false), (50, .int .i64 (-1)), (49, .bool false)] (by kernel_rfl) (by kernel_rfl) ?_
            refine WO.done (by kernel_rfl) ?_
            refine WQ.keep [0, 2, 3, 4, 5, 6, 7, 12, 13, 14, 23, 32, 41, 52, 71, 104] (e' := [(0, .slice (some ad) n0 cap0), (2, .bool false), (3, .bool true), (4, .pointer (some ⟨g3, 0, none⟩)), (5, .slice A ((es.map due).length) cap), (6, .int .i64 (i : Int)), (7, .pointer (some ⟨g11, 0, none⟩)), (12, .pointer (some ⟨g244, 0, none⟩)), (13, .bool false), (14, .int .i64 (-1)), (23, .bool false), (32, .bool true), (41, .int .i64 ((pk dx 4 : Nat) : Int)), (52, .bool false), (71, .bool false), (104, .bool false)]) (by kernel_rfl) ?_
            refine WQ.thenN ?_
            refine WE.condF (by kernel_rfl) ?_
            refine WE.skip ?_
            refine WQ.thenN ?_
            refine WE.seq ?_
            -- R15* law.go:107
            refine WE.draw [.free, .free, .still, .free, .free, .free, .still, .free, .free, .free, .free, .free, .free, .still, .free, .free, .free, .free] Same sameR (by kernel_rfl) 18 (Array.replicate 18 false) (by kernel_rfl) rfl ?_
            intro w254 F255 _
            have HB18 := Blk.keep HB18 F255 (nin0 _)
            have HB251 := Blk.keep HB251 F255 (nin0 _)
            have HQ := HQ.keep F255 (fun _ _ => nin0 _)
            have HD := HD.keep F255 (fun _ _ => nin0 _)
            have HA := Fr.step0 HA F255
            refine WO.one (SA.F sameR sameT _ 0 _ (by kernel_rfl)) 53 (.bool false) (by kernel_rfl) ?_
            refine WO.one (SA.F sameR sameT _ 1 _ (by kernel_rfl)) 54 (.bool false) (by kernel_rfl) ?_
            refine WO.off (SA.O sameR sameT _ 2 _ (by kernel_rfl)) 55 (by kernel_rfl) ?_
            refine WO.off (SA.O sameR sameT _ 3 _ (by kernel_rfl)) 56 (by kernel_rfl) ?_
            refine WO.off (SA.O sameR sameT _ 4 _ (by kernel_rfl)) 57 (by kernel_rfl) ?_
            refine WO.off (SA.O sameR sameT _ 5 _ (by kernel_rfl)) 58 (by kernel_rfl) ?_
            refine WO.off (SA.O sameR sameT _ 6 _ (by kernel_rfl)) 59 (by kernel_rfl) ?_
            refine WO.off (SA.O sameR sameT _ 7 _ (by kernel_rfl)) 60 (by kernel_rfl) ?_
            refine WO.one (SA.F sameR sameT _ 8 _ (by kernel_rfl)) 61 (.bool false) (by kernel_rfl) ?_
            refine WO.one (SA.F sameR sameT _ 9 _ (by kernel_rfl)) 62 (.bool false) (by kernel_rfl) ?_
            refine WO.one (SA.F sameR sameT _ 10 _ (by kernel_rfl)) 63 (.bool false) (by kernel_rfl) ?_
            refine WO.one (SA.F sameR sameT _ 11 _ (by kernel_rfl)) 64 (.bool true) (by kernel_rfl) ?_
            refine WO.one (SA.F sameR sameT _ 12 _ (by kernel_rfl)) 65 (.bool true) (by kernel_rfl) ?_
            refine WO.ldB (SA.S sameR sameT _ 13 _ (by kernel_rfl)) 66 [.int .i64 0, .int .i64 0] g244 0 (by kernel_rfl) (by kernel_rfl) (same HB251) (by kernel_rfl) ?_
            refine WO.one (SA.F sameR sameT _ 14 _ (by kernel_rfl)) 67 (.agg #[.int .i64 0, .int .i64 0]) (by kernel_rfl) ?_
            refine WO.eqS (SA.F sameR sameT _ 15 _ (by kernel_rfl)) 68 true 33 #[.int .i64 0, .int .i64 0] #[.int .i64 0, .int .i64 0] (b := 0 == 0 && (0 == 0)) (by kernel_rfl) (by kernel_rfl) (fun w_ => eqA33 9998 w_ _ _ _ _) ?_
            refine WO.top (v' := .bool (!(0 == 0 && (0 == 0)))) rfl ?_
            refine WO.top (v' := .bool false) (congrArg Value.bool (by rfl)) ?_
            refine WO.one (SA.F sameR sameT _ 16 _ (by kernel_rfl)) 69 (.bool false) (by kernel_rfl) ?_
            refine WO.one (SA.F sameR sameT _ 17 _ (by kernel_rfl)) 70 (.bool false) (by kernel_rfl) ?_
            refine WO.doneA (by kernel_rfl) ?_
            refine WQ.keep [0, 2, 3, 4, 5, 6, 7, 12, 13, 14, 23, 32, 41, 52, 70, 71, 104] (e' := [(0, .slice (some ad) n0 cap0), (2, .bool false), (3, .bool true), (4, .pointer (some ⟨g3, 0, none⟩)), (5, .slice A ((es.map due).length) cap), (6, .int .i64 (i : Int)), (7, .pointer (some ⟨g11, 0, none⟩)), (12, .pointer (some ⟨g244, 0, none⟩)), (13, .bool false), (14, .int .i64 (-1)), (23, .bool false), (32, .bool true), (41, .int .i64 ((pk dx 4 : Nat) : Int)), (52, .bool false), (70, .bool false), (71, .bool false), (104, .bool false)]) (by kernel_rfl) ?_
            refine WQ.thenN ?_
            refine WE.condF (by kernel_rfl) ?_
            refine WE.skip ?_
            refine WQ.blkN ?_
            refine WQ.thenN ?_
            refine WE.seq ?_
            have hqe := hRel.len
            -- R43 law.go:111
            refine WE.region ?_
            refine WO.run 1 0 [(151, .pointer (some ⟨g3, 0, none⟩))] (by kernel_rfl) (by kernel_rfl) ?_
            refine WO.call (SQ.E 1 (by kernel_rfl)) 152 (by kernel_rfl) (len_q F g3 q t _ HQ) ?_
            rintro _ w256 ⟨rfl, F257⟩
            refine ⟨_, rfl, trivial, ?_⟩
            have HB18 := Blk.keep HB18 F257 (nin0 _)
            have HB251 := Blk.keep HB251 F257 (nin0 _)
            have HQ := HQ.keep F257 (fun _ _ => nin0 _)
            have HD := HD.keep F257 (fun _ _ => nin0 _)
            have HA := Fr.step0 HA F257
            refine WO.run 2 2 [(154, .int .i64 ((es.map due).length : Int)), (153, .slice A ((es.map due).length) cap)] (by kernel_rfl) (by kernel_rfl) ?_
            refine WO.one (SQ.F 4 (by kernel_rfl)) 155 (.bool (!decide (((q.length : Int) : Int) = ((es.map due).length : Int)))) (by kernel_rfl) ?_
            refine WO.topNT (((q.length : Int) : Int) = ((es.map due).length : Int)) (by omega) ?_
            refine WO.done (by kernel_rfl) ?_
            refine WQ.keep [0, 2, 3, 4, 5, 6, 7, 12, 13, 14, 23, 32, 41, 52, 70, 71, 104, 155] (e' := [(0, .slice (some ad) n0 cap0), (2, .bool false), (3, .bool true), (4, .pointer (some ⟨g3, 0, none⟩)), (5, .slice A ((es.map due).length) cap), (6, .int .i64 (i : Int)), (7, .pointer (some ⟨g11, 0, none⟩)), (12, .pointer (some ⟨g244, 0, none⟩)), (13, .bool false), (14, .int .i64 (-1)), (23, .bool false), (32, .bool true), (41, .int .i64 ((pk dx 4 : Nat) : Int)), (52, .bool false), (70, .bool false), (71, .bool false), (104, .bool false), (155, .bool false)]) (by kernel_rfl) ?_
            refine WQ.thenN ?_
            refine WE.condF (by kernel_rfl) ?_
            refine WE.skip ?_
            refine WQ.blkN ?_
            refine WQ.thenN ?_
            -- R8 law.go:59
            refine WE.region ?_
            refine WO.run 1 0 [(33, .int .i64 (i : Int))] (by kernel_rfl) (by kernel_rfl) ?_
            refine WO.one (SQ.F 1 (by kernel_rfl)) 34 (.int .i64 (IntKind.i64.wrap ((i : Int) + 1))) (by kernel_rfl) ?_
            refine WO.top (v' := .int .i64 ((i + 1 : Nat) : Int)) (wrap_i64 (by omega) (by omega)) ?_
            refine WO.run 1 2 [(6, .int .i64 ((i + 1 : Nat) : Int))] (by kernel_rfl) (by kernel_rfl) ?_
            refine WO.done (by kernel_rfl) ?_
            refine WQ.keep [0, 2, 3, 4, 5, 6, 7, 12, 13, 14, 23, 32, 41, 52, 70, 71, 104, 155] (e' := [(0, .slice (some ad) n0 cap0), (2, .bool false), (3, .bool true), (4, .pointer (some ⟨g3, 0, none⟩)), (5, .slice A ((es.map due).length) cap), (6, .int .i64 ((i + 1 : Nat) : Int)), (7, .pointer (some ⟨g11, 0, none⟩)), (12, .pointer (some ⟨g244, 0, none⟩)), (13, .bool false), (14, .int .i64 (-1)), (23, .bool false), (32, .bool true), (41, .int .i64 ((pk dx 4 : Nat) : Int)), (52, .bool false), (70, .bool false), (71, .bool false), (104, .bool false), (155, .bool false)]) (by kernel_rfl) ?_
            refine WQ.round ?_
            intro a_ ha_
            refine ⟨(i + 1, F, q, t, Fw, es, A, cap), ?_, ha_.keep [0, 2, 3, 4, 5, 6, 23] (by kernel_rfl), ?_⟩
            · show n0 - (i + 1) < n0 - i; omega
            · exact ⟨by show i + 1 ≤ n0; omega, HQ, HD, hdj, hgF, hgw, hRel, h50, by show (0 : Int) ≤ t; omega, by show t ≤ ((i + 1 : Nat) : Int); omega, HA⟩
          · skip
            obtain ⟨fx, hfx⟩ : ∃ fx, fx = fstK (fun k => (at0 es k).a) es.length := ⟨_, rfl⟩
            have hfl : fx < es.length := by rw [hfx]; exact fstK_lt _ _ (by omega)
            have hmin : at0 q 0 = at0 es fx := by rw [hfx]; exact hRel.min (by omega)
            have hdf : atD (es.map due) fx = due (at0 es fx) := atD_map es fx hfl
            -- R11 law.go:102
            refine WE.region ?_
            refine WO.run 1 0 [(43, .pointer (some ⟨g3, 0, none⟩))] (by kernel_rfl) (by kernel_rfl) ?_
            have hnx := next_q F g3 q t w20 HQ
            rw [show decide (0 < q.length) = true from decide_eq_true (by have := hRel.len; omega)] at hnx
            refine WO.call (SQ.E 1 (by kernel_rfl)) 44 (by kernel_rfl) (hnx) ?_
            rintro _ w258 ⟨rfl, F259⟩
            refine ⟨_, rfl, trivial, ?_⟩
            have HB18 := Blk.keep HB18 F259 (nin0 _)
            have HQ := HQ.keep F259 (fun _ _ => nin0 _)
            have HD := HD.keep F259 (fun _ _ => nin0 _)
            have HA := Fr.step0 HA F259
            refine WO.run 3 2 [(46, .bool true), (45, .agg #[.int .i64 ((at0 q 0).a), .int .i64 ((at0 q 0).b)]), (42, .tuple #[.agg #[.int .i64 ((at0 q 0).a), .int .i64 ((at0 q 0).b)], .bool true])] (by kernel_rfl) (by kernel_rfl) ?_
            refine WO.bx (SQ.E 5 (by kernel_rfl)) 12 #[.int .i64 0, .int .i64 0] 33 (fun g => .pointer (some ⟨g, 0, none⟩)) (by kernel_rfl) (fun _ _ => trivial) ?_
            intro g260 w261 HB263 F262 le264 _
            have ne_g11_g260 : g11 ≠ g260 := Nat.ne_of_lt (Nat.lt_of_lt_of_le HB18.lt le264)
            have nin_g260_F : g260 ∉ F := new_nin HQ.lt le264
            have nin_g260_Fw : g260 ∉ Fw := new_nin HD.lt le264
            have ge_HA_g260 := Nat.le_trans HA.size le264
            have HB18 := Blk.keep HB18 F262 (nin0 _)
            have HQ := HQ.keep F262 (fun _ _ => nin0 _)
            have HD := HD.keep F262 (fun _ _ => nin0 _)
            have HA := Fr.step0 HA F262
            refine WO.st (SQ.E 6 (by kernel_rfl)) g260 0 [.int .i64 ((at0 q 0).a), .int .i64 ((at0 q 0).b)] #[.int .i64 ((at0 q 0).a), .int .i64 ((at0 q 0).b)] (by kernel_rfl) HB263 (by kernel_rfl) (by kernel_rfl) (fun _ _ => trivial) ?_
            intro w265 HB267 F266 _
            have HB18 := Blk.keep HB18 F266 (ninC ne_g11_g260 (nin0 _))
            have HQ := HQ.keep F266 (djB nin_g260_F)
            have HD := HD.keep F266 (djB nin_g260_Fw)
            have HA := Fr.step HA F266 (inSR ge_HA_g260 inS0)
            refine WO.run 1 7 [(13, .bool true)] (by kernel_rfl) (by kernel_rfl) ?_
            refine WO.done (by kernel_rfl) ?_
            refine WQ.keep [0, 2, 3, 4, 5, 6, 7, 12, 13, 23, 32, 41, 71, 104] (e' := [(0, .slice (some ad) n0 cap0), (2, .bool false), (3, .bool true), (4, .pointer (some ⟨g3, 0, none⟩)), (5, .slice A ((es.map due).length) cap), (6, .int .i64 (i : Int)), (7, .pointer (some ⟨g11, 0, none⟩)), (12, .pointer (some ⟨g260, 0, none⟩)), (13, .bool true), (23, .bool false), (32, .bool true), (41, .int .i64 ((pk dx 4 : Nat) : Int)), (71, .bool false), (104, .bool false)]) (by kernel_rfl) ?_
            refine WQ.thenN ?_
            refine WE.seq ?_
            -- R12 law.go:103
            refine WE.region ?_
            refine WO.run 1 0 [(47, .slice A ((es.map due).length) cap)] (by kernel_rfl) (by kernel_rfl) ?_
            have hfi := first_x Fw A cap (es.map due) w265 HD (by omega)
            rw [bst_pos es (by omega), ← hfx] at hfi
            refine WO.call (SQ.E 1 (by kernel_rfl)) 48 (by kernel_rfl) (hfi) ?_
            rintro _ w268 ⟨rfl, F269⟩
            refine ⟨_, rfl, trivial, ?_⟩
            have HB18 := Blk.keep HB18 F269 (nin0 _)
            have HB267 := Blk.keep HB267 F269 (nin0 _)
            have HQ := HQ.keep F269 (fun _ _ => nin0 _)
            have HD := HD.keep F269 (fun _ _ => nin0 _)
            have HA := Fr.step0 HA F269
            refine WO.run 1 2 [(14, .int .i64 (fx : Int))] (by kernel_rfl) (by kernel_rfl) ?_
            refine WO.done (by kernel_rfl) ?_
            refine WQ.keep [0, 2, 3, 4, 5, 6, 7, 12, 13, 14, 23, 32, 41, 71, 104] (e' := [(0, .slice (some ad) n0 cap0), (2, .bool false), (3, .bool true), (4, .pointer (some ⟨g3, 0, none⟩)), (5, .slice A ((es.map due).length) cap), (6, .int .i64 (i : Int)), (7, .pointer (some ⟨g11, 0, none⟩)), (12, .pointer (some ⟨g260, 0, none⟩)), (13, .bool true), (14, .int .i64 (fx : Int)), (23, .bool false), (32, .bool true), (41, .int .i64 ((pk dx 4 : Nat) : Int)), (71, .bool false), (104, .bool false)]) (by kernel_rfl) ?_
            refine WQ.thenN ?_
            refine WE.seq ?_
            refine WE.seq ?_
            -- R13 law.go:104
            refine WE.region ?_
            refine WO.run 2 0 [(50, .int .i64 (fx : Int)), (49, .bool true)] (by kernel_rfl) (by kernel_rfl) ?_
            refine WO.one (SQ.F 2 (by kernel_rfl)) 51 (.bool (decide (((fx : Int) : Int) ≥ (0 : Int)))) (by kernel_rfl) ?_
            refine WO.topPT (((fx : Int) : Int) ≥ (0 : Int)) (by omega) ?_
            refine WO.run 1 3 [(52, .bool false)] (by kernel_rfl) (by kernel_rfl) ?_
            refine WO.done (by kernel_rfl) ?_
            refine WQ.keep [0, 2, 3, 4, 5, 6, 7, 12, 13, 14, 23, 32, 41, 52, 71, 104] (e' := [(0, .slice (some ad) n0 cap0), (2, .bool false), (3, .bool true), (4, .pointer (some ⟨g3, 0, none⟩)), (5, .slice A ((es.map due).length) cap), (6, .int .i64 (i : Int)), (7, .pointer (some ⟨g11, 0, none⟩)), (12, .pointer (some ⟨g260, 0, none⟩)), (13, .bool true), (14, .int .i64 (fx : Int)), (23, .bool false), (32, .bool true), (41, .int .i64 ((pk dx 4 : Nat) : Int)), (52, .bool false), (71, .bool false), (104, .bool false)]) (by kernel_rfl) ?_
            refine WQ.thenN ?_
            refine WE.condF (by kernel_rfl) ?_
            refine WE.skip ?_
            refine WQ.thenN ?_
            refine WE.seq ?_
            obtain ⟨b_w, hFw, hAw, HRw⟩ := HD.pos (by rw [List.length_map, List.length_map]; omega)
            refine WE.env (e' := [(0, .slice (some ad) n0 cap0), (2, .bool false), (3, .bool true), (4, .pointer (some ⟨g3, 0, none⟩)), (5, .slice (some ⟨b_w, 0, none⟩) ((es.map due).length) cap), (6, .int .i64 (i : Int)), (7, .pointer (some ⟨g11, 0, none⟩)), (12, .pointer (some ⟨g260, 0, none⟩)), (13, .bool true), (14, .int .i64 (fx : Int)), (23, .bool false), (32, .bool true), (41, .int .i64 ((pk dx 4 : Nat) : Int)), (52, .bool false), (71, .bool false), (104, .bool false)]) (by rw [hAw]) ?_
            -- R15* law.go:107
            refine WE.draw [.free, .free, .still, .free, .free, .free, .still, .free, .free, .free, .free, .free, .free, .still, .free, .free, .free, .free] Same sameR (by kernel_rfl) 18 (Array.replicate 18 false) (by kernel_rfl) rfl ?_
            intro w270 F271 _
            have HB18 := Blk.keep HB18 F271 (nin0 _)
            have HB267 := Blk.keep HB267 F271 (nin0 _)
            have HRw := RowB.keep HRw F271 (nin0 _)
            have HQ := HQ.keep F271 (fun _ _ => nin0 _)
            have HD := HD.keep F271 (fun _ _ => nin0 _)
            have HA := Fr.step0 HA F271
            refine WO.one (SA.F sameR sameT _ 0 _ (by kernel_rfl)) 53 (.bool true) (by kernel_rfl) ?_
            refine WO.one (SA.F sameR sameT _ 1 _ (by kernel_rfl)) 54 (.bool true) (by kernel_rfl) ?_
            refine WO.ldB (SA.S sameR sameT _ 2 _ (by kernel_rfl)) 55 [.int .i64 ((at0 q 0).a), .int .i64 ((at0 q 0).b)] g260 0 (by kernel_rfl) (by kernel_rfl) (same HB267) (by kernel_rfl) ?_
            refine WO.one (SA.F sameR sameT _ 3 _ (by kernel_rfl)) 56 (.slice (some ⟨b_w, 0, none⟩) ((es.map due).length) cap) (by kernel_rfl) ?_
            refine WO.one (SA.F sameR sameT _ 4 _ (by kernel_rfl)) 57 (.int .i64 (fx : Int)) (by kernel_rfl) ?_
            refine WO.ixB (SA.F sameR sameT _ 5 _ (by kernel_rfl)) 58 (fx * 2) b_w 0 ((es.map due).length) 2 (fx : Int) (by kernel_rfl) (by omega) (by omega) (by omega) ?_
            refine WO.ldR (SA.S sameR sameT _ 6 _ (by kernel_rfl)) 59 [.int .i64 ((atD (es.map due) fx).u), .int .i64 ((atD (es.map due) fx).v)] b_w fx 2 (fx * 2) (same HRw) (by rw [List.length_map]; have := (rfl : (es.map due).length = (es.map due).length); omega) (map_atD (es.map due) fx (by have := (rfl : (es.map due).length = (es.map due).length); omega)) rfl (by omega) (by kernel_rfl) (by kernel_rfl) ?_
            refine WO.eqS (SA.F sameR sameT _ 7 _ (by kernel_rfl)) 60 true 33 #[.int .i64 ((at0 q 0).a), .int .i64 ((at0 q 0).b)] #[.int .i64 ((atD (es.map due) fx).u), .int .i64 ((atD (es.map due) fx).v)] (b := ((at0 q 0).a) == ((atD (es.map due) fx).u) && (((at0 q 0).b) == ((atD (es.map due) fx).v))) (by kernel_rfl) (by kernel_rfl) (fun w_ => eqA33 9998 w_ _ _ _ _) ?_
            refine WO.top (v' := .bool (!(((at0 q 0).a) == ((atD (es.map due) fx).u) && (((at0 q 0).b) == ((atD (es.map due) fx).v))))) rfl ?_
            refine WO.top (v' := .bool false) (congrArg Value.bool (by rw [hdf, hmin]; simp [due])) ?_
            refine WO.one (SA.F sameR sameT _ 8 _ (by kernel_rfl)) 61 (.bool false) (by kernel_rfl) ?_
            refine WO.one (SA.F sameR sameT _ 9 _ (by kernel_rfl)) 62 (.bool false) (by kernel_rfl) ?_
            refine WO.one (SA.F sameR sameT _ 10 _ (by kernel_rfl)) 63 (.bool true) (by kernel_rfl) ?_
            refine WO.one (SA.F sameR sameT _ 11 _ (by kernel_rfl)) 64 (.bool false) (by kernel_rfl) ?_
            refine WO.one (SA.F sameR sameT _ 12 _ (by kernel_rfl)) 65 (.bool false) (by kernel_rfl) ?_
            refine WO.off (SA.O sameR sameT _ 13 _ (by kernel_rfl)) 66 (by kernel_rfl) ?_
            refine WO.off (SA.O sameR sameT _ 14 _ (by kernel_rfl)) 67 (by kernel_rfl) ?_
            refine WO.off (SA.O sameR sameT _ 15 _ (by kernel_rfl)) 68 (by kernel_rfl) ?_
            refine WO.one (SA.F sameR sameT _ 16 _ (by kernel_rfl)) 69 (.bool false) (by kernel_rfl) ?_
            refine WO.one (SA.F sameR sameT _ 17 _ (by kernel_rfl)) 70 (.bool false) (by kernel_rfl) ?_
            refine WO.doneA (by kernel_rfl) ?_
            refine WQ.keep [0, 2, 3, 4, 5, 6, 7, 12, 13, 14, 23, 32, 41, 52, 70, 71, 104] (e' := [(0, .slice (some ad) n0 cap0), (2, .bool false), (3, .bool true), (4, .pointer (some ⟨g3, 0, none⟩)), (5, .slice (some ⟨b_w, 0, none⟩) ((es.map due).length) cap), (6, .int .i64 (i : Int)), (7, .pointer (some ⟨g11, 0, none⟩)), (12, .pointer (some ⟨g260, 0, none⟩)), (13, .bool true), (14, .int .i64 (fx : Int)), (23, .bool false), (32, .bool true), (41, .int .i64 ((pk dx 4 : Nat) : Int)), (52, .bool false), (70, .bool false), (71, .bool false), (104, .bool false)]) (by kernel_rfl) ?_
            refine WQ.thenN ?_
            refine WE.condF (by kernel_rfl) ?_
            refine WE.skip ?_
            refine WQ.blkN ?_
            refine WQ.thenN ?_
            refine WE.seq ?_
            refine WE.env (e' := [(0, .slice (some ad) n0 cap0), (2, .bool false), (3, .bool true), (4, .pointer (some ⟨g3, 0, none⟩)), (5, .slice A ((es.map due).length) cap), (6, .int .i64 (i : Int)), (7, .pointer (some ⟨g11, 0, none⟩)), (12, .pointer (some ⟨g260, 0, none⟩)), (13, .bool true), (14, .int .i64 (fx : Int)), (23, .bool false), (32, .bool true), (41, .int .i64 ((pk dx 4 : Nat) : Int)), (52, .bool false), (70, .bool false), (71, .bool false), (104, .bool false)]) (by rw [hAw]) ?_
            have hqe := hRel.len
            -- R43 law.go:111
            refine WE.region ?_
            refine WO.run 1 0 [(151, .pointer (some ⟨g3, 0, none⟩))] (by kernel_rfl) (by kernel_rfl) ?_
            refine WO.call (SQ.E 1 (by kernel_rfl)) 152 (by kernel_rfl) (len_q F g3 q t _ HQ) ?_
            rintro _ w272 ⟨rfl, F273⟩
            refine ⟨_, rfl, trivial, ?_⟩
            have HB18 := Blk.keep HB18 F273 (nin0 _)
            have HB267 := Blk.keep HB267 F273 (nin0 _)
            have HQ := HQ.keep F273 (fun _ _ => nin0 _)
            have HD := HD.keep F273 (fun _ _ => nin0 _)
            have HA := Fr.step0 HA F273
            refine WO.run 2 2 [(154, .int .i64 ((es.map due).length : Int)), (153, .slice A ((es.map due).length) cap)] (by kernel_rfl) (by kernel_rfl) ?_
            refine WO.one (SQ.F 4 (by kernel_rfl)) 155 (.bool (!decide (((q.length : Int) : Int) = ((es.map due).length : Int)))) (by kernel_rfl) ?_
            refine WO.topNT (((q.length : Int) : Int) = ((es.map due).length : Int)) (by omega) ?_
            refine WO.done (by kernel_rfl) ?_
            refine WQ.keep [0, 2, 3, 4, 5, 6, 7, 12, 13, 14, 23, 32, 41, 52, 70, 71, 104, 155] (e' := [(0, .slice (some ad) n0 cap0), (2, .bool false), (3, .bool true), (4, .pointer (some ⟨g3, 0, none⟩)), (5, .slice A ((es.map due).length) cap), (6, .int .i64 (i : Int)), (7, .pointer (some ⟨g11, 0, none⟩)), (12, .pointer (some ⟨g260, 0, none⟩)), (13, .bool true), (14, .int .i64 (fx : Int)), (23, .bool false), (32, .bool true), (41, .int .i64 ((pk dx 4 : Nat) : Int)), (52, .bool false), (70, .bool false), (71, .bool false), (104, .bool false), (155, .bool false)]) (by kernel_rfl) ?_
            refine WQ.thenN ?_
            refine WE.condF (by kernel_rfl) ?_
            refine WE.skip ?_
            refine WQ.blkN ?_
            refine WQ.thenN ?_
            -- R8 law.go:59
            refine WE.region ?_
            refine WO.run 1 0 [(33, .int .i64 (i : Int))] (by kernel_rfl) (by kernel_rfl) ?_
            refine WO.one (SQ.F 1 (by kernel_rfl)) 34 (.int .i64 (IntKind.i64.wrap ((i : Int) + 1))) (by kernel_rfl) ?_
            refine WO.top (v' := .int .i64 ((i + 1 : Nat) : Int)) (wrap_i64 (by omega) (by omega)) ?_
            refine WO.run 1 2 [(6, .int .i64 ((i + 1 : Nat) : Int))] (by kernel_rfl) (by kernel_rfl) ?_
            refine WO.done (by kernel_rfl) ?_
            refine WQ.keep [0, 2, 3, 4, 5, 6, 7, 12, 13, 14, 23, 32, 41, 52, 70, 71, 104, 155] (e' := [(0, .slice (some ad) n0 cap0), (2, .bool false), (3, .bool true), (4, .pointer (some ⟨g3, 0, none⟩)), (5, .slice A ((es.map due).length) cap), (6, .int .i64 ((i + 1 : Nat) : Int)), (7, .pointer (some ⟨g11, 0, none⟩)), (12, .pointer (some ⟨g260, 0, none⟩)), (13, .bool true), (14, .int .i64 (fx : Int)), (23, .bool false), (32, .bool true), (41, .int .i64 ((pk dx 4 : Nat) : Int)), (52, .bool false), (70, .bool false), (71, .bool false), (104, .bool false), (155, .bool false)]) (by kernel_rfl) ?_
            refine WQ.round ?_
            intro a_ ha_
            refine ⟨(i + 1, F, q, t, Fw, es, A, cap), ?_, ha_.keep [0, 2, 3, 4, 5, 6, 23] (by kernel_rfl), ?_⟩
            · show n0 - (i + 1) < n0 - i; omega
            · exact ⟨by show i + 1 ≤ n0; omega, HQ, HD, hdj, hgF, hgw, hRel, h50, by show (0 : Int) ≤ t; omega, by show t ≤ ((i + 1 : Nat) : Int); omega, HA⟩
  · intro h10
    refine WO.done (by kernel_rfl) ?_
    refine WQ.keep [0, 2, 3, 4, 5, 6, 23, 32] (e' := [(0, .slice A0 n0 cap0), (2, .bool false), (3, .bool true), (4, .pointer (some ⟨g3, 0, none⟩)), (5, .slice A ((es.map due).length) cap), (6, .int .i64 (i : Int)), (23, .bool false), (32, .bool false)]) (by kernel_rfl) ?_
    refine WQ.thenN ?_
    refine WE.condF (by kernel_rfl) ?_
    refine WE.exit ?_
    refine WQ.thenE ?_
    refine WQ.thenE ?_
    refine WQ.blkE ?_
    refine WQ.thenN ?_
    refine WE.seq ?_
    -- R45 law.go:115
    refine WE.region ?_
    refine WO.run 2 0 [(2, .bool true), (156, .bool true)] (by kernel_rfl) (by kernel_rfl) ?_
    refine WO.done (by kernel_rfl) ?_
    refine WQ.keep [0, 2, 3, 4, 5, 6, 23, 32] (e' := [(0, .slice A0 n0 cap0), (2, .bool true), (3, .bool true), (4, .pointer (some ⟨g3, 0, none⟩)), (5, .slice A ((es.map due).length) cap), (6, .int .i64 (i : Int)), (23, .bool false), (32, .bool false)]) (by kernel_rfl) ?_
    refine WQ.thenN ?_
    refine WE.ret ?_
    refine WQ.ret (v := .bool true) (by kernel_rfl) ?_
    exact ⟨rfl, HA⟩

set_option maxRecDepth 100000 in
set_option maxHeartbeats 400000 in
theorem plays_off (A0 : Option Addr) (n0 cap0 : Nat) (w : World) (h : 150 < n0) :
    Calls Try.prog 4 #[.slice A0 n0 cap0] w fun e w' => e = .returned (.bool true) ∧ Fr [] w w' := by
  have HA := Fr.refl [] w
  refine enter (N := 157) Try.func4 (c := _) rfl (by kernel_rfl) (by kernel_rfl) (e := [(0, .slice A0 n0 cap0)]) (by kernel_rfl) ?_
  refine WE.seq ?_
  -- R0 law.go:52
  refine WE.region ?_
  refine WO.run 1 0 [(2, .bool false)] (by kernel_rfl) (by kernel_rfl) ?_
  refine WO.done (by kernel_rfl) ?_
  refine WQ.keep [0, 2] (e' := [(0, .slice A0 n0 cap0), (2, .bool false)]) (by kernel_rfl) ?_
  refine WQ.thenN ?_
  refine WE.seq ?_
  -- R1 law.go:53
  refine WE.region ?_
  refine WO.call (SQ.E 0 (by kernel_rfl)) 15 (by kernel_rfl) (up_any _) ?_
  rintro _ w1 ⟨rfl, F2⟩
  refine ⟨_, rfl, trivial, ?_⟩
  have HA := Fr.step0 HA F2
  refine WO.run 1 1 [(3, .bool true)] (by kernel_rfl) (by kernel_rfl) ?_
  refine WO.done (by kernel_rfl) ?_
  refine WQ.keep [0, 2, 3] (e' := [(0, .slice A0 n0 cap0), (2, .bool false), (3, .bool true)]) (by kernel_rfl) ?_
  refine WQ.thenN ?_
  refine WE.seq ?_
  -- R2 law.go:54
  refine WE.region ?_
  refine WO.call (SQ.E 0 (by kernel_rfl)) 16 (by kernel_rfl) (new_q _) ?_
  rintro _ w6 ⟨g3, rfl, HQ7, F5, le8⟩
  refine ⟨_, rfl, trivial, ?_⟩
  obtain ⟨Q4, hQ4⟩ : ∃ F, F = [g3] := ⟨_, rfl⟩
  rw [← hQ4] at HQ7
  have hg9 : ∀ y ∈ Q4, y ∈ [] ∨ (World.heap w1).size ≤ y := by rw [hQ4]; intro y hy; obtain rfl : y = g3 := (by simpa using hy); exact Or.inr le8
  have ge_HA_Q4 : ∀ y ∈ Q4, (World.heap w).size ≤ y := grow_ge hg9 (by simp) HA.size
  have HA := Fr.step0 HA F5
  refine WO.run 1 1 [(4, .pointer (some ⟨g3, 0, none⟩))] (by kernel_rfl) (by kernel_rfl) ?_
  refine WO.done (by kernel_rfl) ?_
  refine WQ.keep [0, 2, 3, 4] (e' := [(0, .slice A0 n0 cap0), (2, .bool false), (3, .bool true), (4, .pointer (some ⟨g3, 0, none⟩))]) (by kernel_rfl) ?_
  refine WQ.thenN ?_
  refine WE.seq ?_
  refine WE.seq ?_
  -- R3 law.go:55
  refine WE.region ?_
  refine WO.run 5 0 [(21, .int .i64 (n0 : Int)), (20, .slice A0 n0 cap0), (19, .bool false), (18, .bool false), (17, .pointer (some ⟨g3, 0, none⟩))] (by kernel_rfl) (by kernel_rfl) ?_
  refine WO.one (SQ.F 5 (by kernel_rfl)) 22 (.bool (decide (((n0 : Int) : Int) > (150 : Int)))) (by kernel_rfl) ?_
  refine WO.topPT (((n0 : Int) : Int) > (150 : Int)) (by omega) ?_
  refine WO.run 1 6 [(23, .bool true)] (by kernel_rfl) (by kernel_rfl) ?_
  refine WO.done (by kernel_rfl) ?_
  refine WQ.keep [0, 2, 3, 4, 23] (e' := [(0, .slice A0 n0 cap0), (2, .bool false), (3, .bool true), (4, .pointer (some ⟨g3, 0, none⟩)), (23, .bool true)]) (by kernel_rfl) ?_
  refine WQ.thenN ?_
  refine WE.condT (by kernel_rfl) ?_
  refine WE.seq ?_
  -- R4 law.go:56
  refine WE.region ?_
  refine WO.run 6 0 [(2, .bool true), (28, .bool true), (27, .bool true), (26, .pointer (some ⟨g3, 0, none⟩)), (25, .bool true), (24, .bool true)] (by kernel_rfl) (by kernel_rfl) ?_
  refine WO.done (by kernel_rfl) ?_
  refine WQ.keep [0, 2, 3, 4, 23] (e' := [(0, .slice A0 n0 cap0), (2, .bool true), (3, .bool true), (4, .pointer (some ⟨g3, 0, none⟩)), (23, .bool true)]) (by kernel_rfl) ?_
  refine WQ.thenN ?_
  refine WE.ret ?_
  refine WQ.thenR ?_
  refine WQ.ret (v := .bool true) (by kernel_rfl) ?_
  exact ⟨rfl, HA⟩

theorem plays_any (A0 : Option Addr) (c0 : Nat) (d : List (Int × Int × Int)) (hd : ∀ x ∈ d, (-9223372036854775808 ≤ x.1 ∧ x.1 ≤ 9223372036854775807)) (w : World) (hr : Kd.C Deeds.III w A0 d.length d) :
    Calls Try.prog 4 #[.slice A0 d.length c0] w fun e w' => e = .returned (.bool true) ∧ Below w.heap.size w w' := by
  by_cases h : d.length ≤ 150
  · refine (plays_some A0 d.length c0 d w rfl h fun k hk => ?_).mono fun e w' ⟨h2, h3⟩ => ⟨h2, h3.below0⟩
    rcases Deeds.C_iii hr with rfl | ⟨ad, rfl, hc⟩
    · simp at hk
    · obtain ⟨x, y, z, h1, h2, h3, h4⟩ := hc k hk
      exact ⟨ad, x, y, z, rfl, hd (x, y, z) (List.mem_of_getElem? h1), h2, h3, h4⟩
  · exact (plays_off A0 d.length c0 w (by omega)).mono fun e w' ⟨h2, h3⟩ => ⟨h2, h3.below0⟩
end Go.Proofs.Ytjnjkgoofkgiiaa.Timer
