/- Layer 13's law TimerOnce: its walk. -/
import Derived.Test.YtjnjkgoofkgiiaaTimerLaw
import Derived.Test.YtjnjkgoofkgiiaaLists
set_option linter.unusedVariables false
set_option linter.unusedSimpArgs false
namespace Go.Proofs.Ytjnjkgoofkgiiaa.Timer
open Go Go.RowKit Go.Proofs.Ytjnjkgoofkgiiaa Go.Proofs.Ytjnjkgoofkgiiaa.Eng Go.Proofs.YtjnjkgoofkgiiaaW.PrintWords Go.Proofs.YtjnjkgoofkgiiaaW.PrintLast
theorem getD_mem_ (l : List Int) {j : Nat} (h : j < l.length) : l.getD j 0 ∈ l := by
  have : l.getD j 0 = l[j] := by simp [h]
  rw [this]
  exact List.getElem_mem h
theorem due_le (now : Int) (es : List Ent) (h : ∀ e ∈ es, e.a ≤ now) (k : Nat) (hk : k < (es.map due).length) : (atD (es.map due) k).u ≤ now := by
  rw [List.length_map] at hk
  have : atD (es.map due) k = due es[k] := by simp [atD, hk]
  rw [this]
  exact h _ (List.getElem_mem hk)
set_option maxRecDepth 100000 in
set_option maxHeartbeats 4000000 in
theorem once_some (A0 A1 : Option Addr) (n0 n1 cap0 cap1 : Nat) (l0 l1 : List Int) (w : World) (hn0 : n0 = l0.length) (hn1 : n1 = l1.length) (hl0 : n0 ≤ 50) (hl1 : n1 ≤ 50) (hI0 : ∀ x ∈ l0, -9223372036854775808 ≤ x ∧ x ≤ 9223372036854775807) (hI1 : ∀ x ∈ l1, -9223372036854775808 ≤ x ∧ x ≤ 9223372036854775807) (hrd0 : ∀ k, k < l0.length → ∃ ad, A0 = some ad ∧ w.cell? (ad.add k) = some (.int .i64 (l0.getD k 0))) (hrd1 : ∀ k, k < l1.length → ∃ ad, A1 = some ad ∧ w.cell? (ad.add k) = some (.int .i64 (l1.getD k 0))) :
    Calls Try.prog 3 #[.slice A0 n0 cap0, .slice A1 n1 cap1] w fun e w' => e = .returned (.bool true) ∧ Fr [] w w' := by
  have HA := Fr.refl [] w
  refine enter (N := 143) Try.func3 (c := _) rfl (by kernel_rfl) (by kernel_rfl) (e := [(0, .slice A0 n0 cap0), (1, .slice A1 n1 cap1)]) (by kernel_rfl) ?_
  refine WE.seq ?_
  -- R0 law.go:119
  refine WE.region ?_
  refine WO.run 1 0 [(4, .bool false)] (by kernel_rfl) (by kernel_rfl) ?_
  refine WO.done (by kernel_rfl) ?_
  refine WQ.keep [0, 1, 4] (e' := [(0, .slice A0 n0 cap0), (1, .slice A1 n1 cap1), (4, .bool false)]) (by kernel_rfl) ?_
  refine WQ.thenN ?_
  refine WE.seq ?_
  -- R1 law.go:120
  refine WE.region ?_
  refine WO.call (SQ.E 0 (by kernel_rfl)) 19 (by kernel_rfl) (up_any _) ?_
  rintro _ w1 ⟨rfl, F2⟩
  refine ⟨_, rfl, trivial, ?_⟩
  have HA := Fr.step0 HA F2
  refine WO.run 1 1 [(5, .bool true)] (by kernel_rfl) (by kernel_rfl) ?_
  refine WO.done (by kernel_rfl) ?_
  refine WQ.keep [0, 1, 4, 5] (e' := [(0, .slice A0 n0 cap0), (1, .slice A1 n1 cap1), (4, .bool false), (5, .bool true)]) (by kernel_rfl) ?_
  refine WQ.thenN ?_
  refine WE.seq ?_
  -- R2 law.go:121
  refine WE.region ?_
  refine WO.call (SQ.E 0 (by kernel_rfl)) 20 (by kernel_rfl) (new_q _) ?_
  rintro _ w6 ⟨g3, rfl, HQ7, F5, le8⟩
  refine ⟨_, rfl, trivial, ?_⟩
  obtain ⟨Q4, hQ4⟩ : ∃ F, F = [g3] := ⟨_, rfl⟩
  rw [← hQ4] at HQ7
  have hg9 : ∀ y ∈ Q4, y ∈ [] ∨ (World.heap w1).size ≤ y := by rw [hQ4]; intro y hy; obtain rfl : y = g3 := (by simpa using hy); exact Or.inr le8
  have ge_HA_Q4 : ∀ y ∈ Q4, (World.heap w).size ≤ y := grow_ge hg9 (by simp) HA.size
  have HA := Fr.step0 HA F5
  refine WO.run 1 1 [(6, .pointer (some ⟨g3, 0, none⟩))] (by kernel_rfl) (by kernel_rfl) ?_
  refine WO.done (by kernel_rfl) ?_
  refine WQ.keep [0, 1, 4, 5, 6] (e' := [(0, .slice A0 n0 cap0), (1, .slice A1 n1 cap1), (4, .bool false), (5, .bool true), (6, .pointer (some ⟨g3, 0, none⟩))]) (by kernel_rfl) ?_
  refine WQ.thenN ?_
  refine WE.seq ?_
  -- R3 law.go:122
  refine WE.region ?_
  refine WO.call (SQ.E 0 (by kernel_rfl)) 21 (by kernel_rfl) (new_q _) ?_
  rintro _ w13 ⟨g10, rfl, HQ14, F12, le15⟩
  refine ⟨_, rfl, trivial, ?_⟩
  obtain ⟨Q11, hQ11⟩ : ∃ F, F = [g10] := ⟨_, rfl⟩
  rw [← hQ11] at HQ14
  have hg16 : ∀ y ∈ Q11, y ∈ [] ∨ (World.heap w6).size ≤ y := by rw [hQ11]; intro y hy; obtain rfl : y = g10 := (by simpa using hy); exact Or.inr le15
  have dj_Q11_Q4 : ∀ y ∈ Q11, y ∉ Q4 := grow_dj hg16 (by simp) HQ7.lt
  have ge_HA_Q11 : ∀ y ∈ Q11, (World.heap w).size ≤ y := grow_ge hg16 (by simp) HA.size
  have HQ7 := HQ7.keep F12 (fun _ _ => nin0 _)
  have HA := Fr.step0 HA F12
  refine WO.run 1 1 [(7, .pointer (some ⟨g10, 0, none⟩))] (by kernel_rfl) (by kernel_rfl) ?_
  refine WO.done (by kernel_rfl) ?_
  refine WQ.keep [0, 1, 4, 5, 6, 7] (e' := [(0, .slice A0 n0 cap0), (1, .slice A1 n1 cap1), (4, .bool false), (5, .bool true), (6, .pointer (some ⟨g3, 0, none⟩)), (7, .pointer (some ⟨g10, 0, none⟩))]) (by kernel_rfl) ?_
  refine WQ.thenN ?_
  refine WE.seq ?_
  refine WE.seq ?_
  -- R4 law.go:123
  refine WE.region ?_
  refine WO.run 9 0 [(30, .int .i64 (n0 : Int)), (29, .slice A0 n0 cap0), (28, .bool false), (27, .bool false), (26, .bool false), (25, .pointer (some ⟨g10, 0, none⟩)), (24, .bool false), (23, .bool false), (22, .pointer (some ⟨g3, 0, none⟩))] (by kernel_rfl) (by kernel_rfl) ?_
  refine WO.one (SQ.F 9 (by kernel_rfl)) 31 (.bool (decide (((n0 : Int) : Int) > (50 : Int)))) (by kernel_rfl) ?_
  refine WO.topPF (((n0 : Int) : Int) > (50 : Int)) (by omega) ?_
  refine WO.run 4 10 [(35, .int .i64 (n1 : Int)), (34, .slice A1 n1 cap1), (33, .bool false), (32, .bool false)] (by kernel_rfl) (by kernel_rfl) ?_
  refine WO.one (SQ.F 14 (by kernel_rfl)) 36 (.bool (decide (((n1 : Int) : Int) > (50 : Int)))) (by kernel_rfl) ?_
  refine WO.topPF (((n1 : Int) : Int) > (50 : Int)) (by omega) ?_
  refine WO.run 1 15 [(37, .bool false)] (by kernel_rfl) (by kernel_rfl) ?_
  refine WO.done (by kernel_rfl) ?_
  refine WQ.keep [0, 1, 4, 5, 6, 7, 37] (e' := [(0, .slice A0 n0 cap0), (1, .slice A1 n1 cap1), (4, .bool false), (5, .bool true), (6, .pointer (some ⟨g3, 0, none⟩)), (7, .pointer (some ⟨g10, 0, none⟩)), (37, .bool false)]) (by kernel_rfl) ?_
  refine WQ.thenN ?_
  refine WE.condF (by kernel_rfl) ?_
  refine WE.skip ?_
  refine WQ.thenN ?_
  refine WE.seq ?_
  refine WE.seq ?_
  -- R6 law.go:126
  refine WE.region ?_
  refine WO.run 1 0 [(8, .int .i64 0)] (by kernel_rfl) (by kernel_rfl) ?_
  refine WO.done (by kernel_rfl) ?_
  refine WQ.keep [0, 1, 4, 5, 6, 7, 8, 37] (e' := [(0, .slice A0 n0 cap0), (1, .slice A1 n1 cap1), (4, .bool false), (5, .bool true), (6, .pointer (some ⟨g3, 0, none⟩)), (7, .pointer (some ⟨g10, 0, none⟩)), (8, .int .i64 0), (37, .bool false)]) (by kernel_rfl) ?_
  refine WQ.thenN ?_
  refine WE.block ?_
  refine WE.loop (α := Nat × List Nat × List Nat × List Ent) (E := fun ⟨i, F1, F2, q⟩ => [(0, .slice A0 n0 cap0), (1, .slice A1 n1 cap1), (4, .bool false), (5, .bool true), (6, .pointer (some ⟨g3, 0, none⟩)), (7, .pointer (some ⟨g10, 0, none⟩)), (8, .int .i64 (i : Int)), (37, .bool false)]) (I := fun ⟨i, F1, F2, q⟩ wr => i ≤ n0 ∧ IsQ wr F1 g3 q i ∧ IsQ wr F2 g10 q i ∧ (∀ y ∈ F1, y ∉ F2) ∧ (∀ y ∈ F1, w.heap.size ≤ y) ∧ (∀ y ∈ F2, w.heap.size ≤ y) ∧ q.length = i ∧ Fr [] w wr) (m := fun ⟨i, F1, F2, q⟩ => n0 - i) (0, Q4, Q11, []) [0, 1, 4, 5, 6, 7, 8, 37] (by kernel_rfl) ?_ ?_
  · exact ⟨Nat.zero_le _, HQ7, HQ14, (dj_symm dj_Q11_Q4), ge_HA_Q4, ge_HA_Q11, rfl, HA⟩
  rintro ⟨i, F1, F2, q⟩ wr ⟨hi, HQ1, HQ2, hdj, hg1, hg2, hql, HA⟩
  dsimp only at *
  refine WE.seq ?_
  refine WE.seq ?_
  -- R7 law.go:126
  refine WE.region ?_
  refine WO.run 3 0 [(49, .int .i64 (n0 : Int)), (48, .slice A0 n0 cap0), (47, .int .i64 (i : Int))] (by kernel_rfl) (by kernel_rfl) ?_
  refine WO.one (SQ.F 3 (by kernel_rfl)) 50 (.bool (decide (((i : Int) : Int) < (n0 : Int)))) (by kernel_rfl) ?_
  refine WO.topP (((i : Int) : Int) < (n0 : Int)) ?_ ?_
  · intro h17
    refine WO.done (by kernel_rfl) ?_
    refine WQ.keep [0, 1, 4, 5, 6, 7, 8, 37, 50] (e' := [(0, .slice A0 n0 cap0), (1, .slice A1 n1 cap1), (4, .bool false), (5, .bool true), (6, .pointer (some ⟨g3, 0, none⟩)), (7, .pointer (some ⟨g10, 0, none⟩)), (8, .int .i64 (i : Int)), (37, .bool false), (50, .bool true)]) (by kernel_rfl) ?_
    refine WQ.thenN ?_
    refine WE.condT (by kernel_rfl) ?_
    refine WE.skip ?_
    refine WQ.thenN ?_
    refine WE.seq ?_
    refine WE.block ?_
    refine WE.seq ?_
    -- R9 law.go:127
    refine WE.region ?_
    refine WO.run 2 0 [(54, .int .i64 (i : Int)), (53, .slice A0 n0 cap0)] (by kernel_rfl) (by kernel_rfl) ?_
    obtain ⟨ad0, hA0, hcell0⟩ := hrd0 i (by omega)
    subst hA0
    refine WO.ix (SQ.F 2 (by kernel_rfl)) 55 (ad0.add i) ad0 n0 1 (i : Int) (by kernel_rfl) (by omega) (by omega) (by congr 1; omega) ?_
    refine WO.ld (SQ.S 3 (by kernel_rfl)) 56 (.int .i64 (l0.getD i 0)) (by kernel_rfl) (same (HA.cell0 hcell0)) ?_
    have hpk18 := pk_lt (l0.getD i 0) 1000 (by decide)
    refine WO.call (SQ.E 4 (by kernel_rfl)) 57 (by kernel_rfl) (pick_1000 (l0.getD i 0) _ (by exact hI0 _ (getD_mem_ _ (by omega)))) ?_
    rintro _ w19 ⟨rfl, F20⟩
    refine ⟨_, rfl, trivial, ?_⟩
    have HQ1 := HQ1.keep F20 (fun _ _ => nin0 _)
    have HQ2 := HQ2.keep F20 (fun _ _ => nin0 _)
    have HA := Fr.step0 HA F20
    refine WO.run 1 5 [(9, .int .i64 ((pk (l0.getD i 0) 1000 : Nat) : Int))] (by kernel_rfl) (by kernel_rfl) ?_
    refine WO.done (by kernel_rfl) ?_
    refine WQ.keep [0, 1, 4, 5, 6, 7, 8, 9, 37, 50] (e' := [(0, .slice (some ad0) n0 cap0), (1, .slice A1 n1 cap1), (4, .bool false), (5, .bool true), (6, .pointer (some ⟨g3, 0, none⟩)), (7, .pointer (some ⟨g10, 0, none⟩)), (8, .int .i64 (i : Int)), (9, .int .i64 ((pk (l0.getD i 0) 1000 : Nat) : Int)), (37, .bool false), (50, .bool true)]) (by kernel_rfl) ?_
    refine WQ.thenN ?_
    refine WE.seq ?_
    -- R10 law.go:128
    refine WE.region ?_
    refine WO.run 3 0 [(60, .int .i64 (i : Int)), (59, .int .i64 ((pk (l0.getD i 0) 1000 : Nat) : Int)), (58, .pointer (some ⟨g3, 0, none⟩))] (by kernel_rfl) (by kernel_rfl) ?_
    refine WO.call (SQ.E 3 (by kernel_rfl)) 61 (by kernel_rfl) (set_q F1 g3 q (i : Int) ((pk (l0.getD i 0) 1000 : Nat) : Int) (i : Int) _ HQ1 (by omega) (by omega) (by omega) (by omega)) ?_
    rintro _ w21 ⟨rfl, Q23, HQ24, F22, hg25⟩
    refine ⟨_, rfl, trivial, ?_⟩
    have dj_Q23_F2 : ∀ y ∈ Q23, y ∉ F2 := grow_dj hg25 hdj HQ2.lt
    have ge_HA_Q23 : ∀ y ∈ Q23, (World.heap w).size ≤ y := grow_ge hg25 hg1 HA.size
    have HQ2 := HQ2.keep F22 (dj_symm hdj)
    have HA := Fr.step HA F22 (inF hg1)
    refine WO.run 1 4 [(10, .nilIface)] (by kernel_rfl) (by kernel_rfl) ?_
    refine WO.done (by kernel_rfl) ?_
    refine WQ.keep [0, 1, 4, 5, 6, 7, 8, 9, 10, 37, 50] (e' := [(0, .slice (some ad0) n0 cap0), (1, .slice A1 n1 cap1), (4, .bool false), (5, .bool true), (6, .pointer (some ⟨g3, 0, none⟩)), (7, .pointer (some ⟨g10, 0, none⟩)), (8, .int .i64 (i : Int)), (9, .int .i64 ((pk (l0.getD i 0) 1000 : Nat) : Int)), (10, .nilIface), (37, .bool false), (50, .bool true)]) (by kernel_rfl) ?_
    refine WQ.thenN ?_
    refine WE.seq ?_
    -- R11 law.go:129
    refine WE.region ?_
    refine WO.run 3 0 [(64, .int .i64 (i : Int)), (63, .int .i64 ((pk (l0.getD i 0) 1000 : Nat) : Int)), (62, .pointer (some ⟨g10, 0, none⟩))] (by kernel_rfl) (by kernel_rfl) ?_
    refine WO.call (SQ.E 3 (by kernel_rfl)) 65 (by kernel_rfl) (set_q F2 g10 q (i : Int) ((pk (l0.getD i 0) 1000 : Nat) : Int) (i : Int) _ HQ2 (by omega) (by omega) (by omega) (by omega)) ?_
    rintro _ w26 ⟨rfl, Q28, HQ29, F27, hg30⟩
    refine ⟨_, rfl, trivial, ?_⟩
    have dj_Q28_Q23 : ∀ y ∈ Q28, y ∉ Q23 := grow_dj hg30 (dj_symm dj_Q23_F2) HQ24.lt
    have ge_HA_Q28 : ∀ y ∈ Q28, (World.heap w).size ≤ y := grow_ge hg30 hg2 HA.size
    have HQ24 := HQ24.keep F27 dj_Q23_F2
    have HA := Fr.step HA F27 (inF hg2)
    refine WO.run 1 4 [(11, .nilIface)] (by kernel_rfl) (by kernel_rfl) ?_
    refine WO.done (by kernel_rfl) ?_
    refine WQ.keep [0, 1, 4, 5, 6, 7, 8, 9, 10, 11, 37, 50] (e' := [(0, .slice (some ad0) n0 cap0), (1, .slice A1 n1 cap1), (4, .bool false), (5, .bool true), (6, .pointer (some ⟨g3, 0, none⟩)), (7, .pointer (some ⟨g10, 0, none⟩)), (8, .int .i64 (i : Int)), (9, .int .i64 ((pk (l0.getD i 0) 1000 : Nat) : Int)), (10, .nilIface), (11, .nilIface), (37, .bool false), (50, .bool true)]) (by kernel_rfl) ?_
    refine WQ.thenN ?_
    refine WE.seq ?_
    -- R12 law.go:130
    refine WE.region ?_
    refine WO.run 6 0 [(71, .bool false), (70, .bool false), (69, .nilIface), (68, .bool false), (67, .bool false), (66, .nilIface)] (by kernel_rfl) (by kernel_rfl) ?_
    refine WO.done (by kernel_rfl) ?_
    refine WQ.keep [0, 1, 4, 5, 6, 7, 8, 9, 10, 11, 37, 50, 71] (e' := [(0, .slice (some ad0) n0 cap0), (1, .slice A1 n1 cap1), (4, .bool false), (5, .bool true), (6, .pointer (some ⟨g3, 0, none⟩)), (7, .pointer (some ⟨g10, 0, none⟩)), (8, .int .i64 (i : Int)), (9, .int .i64 ((pk (l0.getD i 0) 1000 : Nat) : Int)), (10, .nilIface), (11, .nilIface), (37, .bool false), (50, .bool true), (71, .bool false)]) (by kernel_rfl) ?_
    refine WQ.thenN ?_
    refine WE.condF (by kernel_rfl) ?_
    refine WE.skip ?_
    refine WQ.blkN ?_
    refine WQ.thenN ?_
    -- R8 law.go:126
    refine WE.region ?_
    refine WO.run 1 0 [(51, .int .i64 (i : Int))] (by kernel_rfl) (by kernel_rfl) ?_
    refine WO.one (SQ.F 1 (by kernel_rfl)) 52 (.int .i64 (IntKind.i64.wrap ((i : Int) + 1))) (by kernel_rfl) ?_
    refine WO.top (v' := .int .i64 ((i + 1 : Nat) : Int)) (wrap_i64 (by omega) (by omega)) ?_
    refine WO.run 1 2 [(8, .int .i64 ((i + 1 : Nat) : Int))] (by kernel_rfl) (by kernel_rfl) ?_
    refine WO.done (by kernel_rfl) ?_
    refine WQ.keep [0, 1, 4, 5, 6, 7, 8, 9, 10, 11, 37, 50, 71] (e' := [(0, .slice (some ad0) n0 cap0), (1, .slice A1 n1 cap1), (4, .bool false), (5, .bool true), (6, .pointer (some ⟨g3, 0, none⟩)), (7, .pointer (some ⟨g10, 0, none⟩)), (8, .int .i64 ((i + 1 : Nat) : Int)), (9, .int .i64 ((pk (l0.getD i 0) 1000 : Nat) : Int)), (10, .nilIface), (11, .nilIface), (37, .bool false), (50, .bool true), (71, .bool false)]) (by kernel_rfl) ?_
    refine WQ.round ?_
    intro a_ ha_
    refine ⟨(i + 1, Q23, Q28, (setQ q ⟨((pk (l0.getD i 0) 1000 : Nat) : Int), (i : Int), (i : Int) + 1⟩)), ?_, ha_.keep [0, 1, 4, 5, 6, 7, 8, 37] (by kernel_rfl), ?_⟩
    · show n0 - (i + 1) < n0 - i; omega
    · exact ⟨by show i + 1 ≤ n0; omega, HQ24, HQ29, (dj_symm dj_Q28_Q23), ge_HA_Q23, ge_HA_Q28, by rw [setQ_len, hql], HA⟩
  · intro h17
    refine WO.done (by kernel_rfl) ?_
    refine WQ.keep [0, 1, 4, 5, 6, 7, 8, 37, 50] (e' := [(0, .slice A0 n0 cap0), (1, .slice A1 n1 cap1), (4, .bool false), (5, .bool true), (6, .pointer (some ⟨g3, 0, none⟩)), (7, .pointer (some ⟨g10, 0, none⟩)), (8, .int .i64 (i : Int)), (37, .bool false), (50, .bool false)]) (by kernel_rfl) ?_
    refine WQ.thenN ?_
    refine WE.condF (by kernel_rfl) ?_
    refine WE.exit ?_
    refine WQ.thenE ?_
    refine WQ.thenE ?_
    refine WQ.blkE ?_
    refine WQ.thenN ?_
    refine WE.seq ?_
    -- R14 law.go:134
    refine WE.region ?_
    refine WO.run 1 0 [(12, .slice none 0 0)] (by kernel_rfl) (by kernel_rfl) ?_
    refine WO.done (by kernel_rfl) ?_
    refine WQ.keep [0, 1, 4, 5, 6, 7, 8, 12, 37, 50] (e' := [(0, .slice A0 n0 cap0), (1, .slice A1 n1 cap1), (4, .bool false), (5, .bool true), (6, .pointer (some ⟨g3, 0, none⟩)), (7, .pointer (some ⟨g10, 0, none⟩)), (8, .int .i64 (i : Int)), (12, .slice none 0 0), (37, .bool false), (50, .bool false)]) (by kernel_rfl) ?_
    refine WQ.thenN ?_
    refine WE.seq ?_
    -- R15 law.go:135
    refine WE.region ?_
    refine WO.run 1 0 [(13, .int .i64 0)] (by kernel_rfl) (by kernel_rfl) ?_
    refine WO.done (by kernel_rfl) ?_
    refine WQ.keep [0, 1, 4, 5, 6, 7, 8, 12, 13, 37, 50] (e' := [(0, .slice A0 n0 cap0), (1, .slice A1 n1 cap1), (4, .bool false), (5, .bool true), (6, .pointer (some ⟨g3, 0, none⟩)), (7, .pointer (some ⟨g10, 0, none⟩)), (8, .int .i64 (i : Int)), (12, .slice none 0 0), (13, .int .i64 0), (37, .bool false), (50, .bool false)]) (by kernel_rfl) ?_
    refine WQ.thenN ?_
    refine WE.seq ?_
    refine WE.seq ?_
    -- R16 law.go:136
    refine WE.region ?_
    refine WO.run 1 0 [(14, .int .i64 0)] (by kernel_rfl) (by kernel_rfl) ?_
    refine WO.done (by kernel_rfl) ?_
    refine WQ.keep [0, 1, 4, 5, 6, 7, 8, 12, 13, 14, 37, 50] (e' := [(0, .slice A0 n0 cap0), (1, .slice A1 n1 cap1), (4, .bool false), (5, .bool true), (6, .pointer (some ⟨g3, 0, none⟩)), (7, .pointer (some ⟨g10, 0, none⟩)), (8, .int .i64 (i : Int)), (12, .slice none 0 0), (13, .int .i64 0), (14, .int .i64 0), (37, .bool false), (50, .bool false)]) (by kernel_rfl) ?_
    refine WQ.thenN ?_
    refine WE.block ?_
    have hin : i = n0 := by omega
    refine WE.loop (α := Nat × Nat × List Ent × List Ent × List Nat × List Nat × Option Addr × Nat) (E := fun ⟨j, now, es, qp, F1, Fa, A, cap⟩ => [(0, .slice A0 n0 cap0), (1, .slice A1 n1 cap1), (4, .bool false), (5, .bool true), (6, .pointer (some ⟨g3, 0, none⟩)), (7, .pointer (some ⟨g10, 0, none⟩)), (8, .int .i64 (i : Int)), (12, .slice A ((es.map due).length) cap), (13, .int .i64 (now : Int)), (14, .int .i64 (j : Int)), (37, .bool false), (50, .bool false)]) (I := fun ⟨j, now, es, qp, F1, Fa, A, cap⟩ wt => j ≤ n1 ∧ now ≤ 100 * j ∧ IsQ wt F1 g3 qp i ∧ IsQ wt F2 g10 q i ∧ OwnX 33 2 wt Fa (.slice A (es.map due).length cap) ((es.map due).map cD) ∧ (∀ y ∈ F1, y ∉ F2) ∧ (∀ y ∈ Fa, y ∉ F1) ∧ (∀ y ∈ Fa, y ∉ F2) ∧ (∀ y ∈ F1, w.heap.size ≤ y) ∧ (∀ y ∈ Fa, w.heap.size ≤ y) ∧ qp.length + es.length = n0 ∧ (∀ M : Int, (now : Int) ≤ M → takeQ M q.length q = (es ++ (takeQ M qp.length qp).1, (takeQ M qp.length qp).2)) ∧ Fr [] w wt) (m := fun ⟨j, now, es, qp, F1, Fa, A, cap⟩ => n1 - j) (0, 0, [], q, F1, [], none, 0) [0, 1, 4, 5, 6, 7, 8, 12, 13, 14, 37, 50] (by kernel_rfl) ?_ ?_
    · exact ⟨Nat.zero_le _, Nat.zero_le _, HQ1, HQ2, OwnX.nil _ _ _, hdj, by simp, by simp, hg1, by simp, by simp; omega, fun M hM => rfl, HA⟩
    rintro ⟨j, now, es, qp, F1, Fa, A, cap⟩ wt ⟨hj, hnow, HQ1, HQ2, HD, hdj, hda1, hda2, hg1, hga, hes, hM, HA⟩
    dsimp only at *
    have hdl : (es.map due).length = es.length := List.length_map _
    refine WE.seq ?_
    refine WE.seq ?_
    -- R17 law.go:136
    refine WE.region ?_
    refine WO.run 3 0 [(74, .int .i64 (n1 : Int)), (73, .slice A1 n1 cap1), (72, .int .i64 (j : Int))] (by kernel_rfl) (by kernel_rfl) ?_
    refine WO.one (SQ.F 3 (by kernel_rfl)) 75 (.bool (decide (((j : Int) : Int) < (n1 : Int)))) (by kernel_rfl) ?_
    refine WO.topP (((j : Int) : Int) < (n1 : Int)) ?_ ?_
    · intro h31
      refine WO.done (by kernel_rfl) ?_
      refine WQ.keep [0, 1, 4, 5, 6, 7, 8, 12, 13, 14, 37, 50, 75] (e' := [(0, .slice A0 n0 cap0), (1, .slice A1 n1 cap1), (4, .bool false), (5, .bool true), (6, .pointer (some ⟨g3, 0, none⟩)), (7, .pointer (some ⟨g10, 0, none⟩)), (8, .int .i64 (i : Int)), (12, .slice A ((es.map due).length) cap), (13, .int .i64 (now : Int)), (14, .int .i64 (j : Int)), (37, .bool false), (50, .bool false), (75, .bool true)]) (by kernel_rfl) ?_
      refine WQ.thenN ?_
      refine WE.condT (by kernel_rfl) ?_
      refine WE.skip ?_
      refine WQ.thenN ?_
      refine WE.seq ?_
      refine WE.block ?_
      refine WE.seq ?_
      -- R19 law.go:137
      refine WE.region ?_
      refine WO.run 3 0 [(80, .int .i64 (j : Int)), (79, .slice A1 n1 cap1), (78, .int .i64 (now : Int))] (by kernel_rfl) (by kernel_rfl) ?_
      obtain ⟨ad1, hA1, hcell1⟩ := hrd1 j (by omega)
      subst hA1
      refine WO.ix (SQ.F 3 (by kernel_rfl)) 81 (ad1.add j) ad1 n1 1 (j : Int) (by kernel_rfl) (by omega) (by omega) (by congr 1; omega) ?_
      refine WO.ld (SQ.S 4 (by kernel_rfl)) 82 (.int .i64 (l1.getD j 0)) (by kernel_rfl) (same (HA.cell0 hcell1)) ?_
      have hpk32 := pk_lt (l1.getD j 0) 100 (by decide)
      refine WO.call (SQ.E 5 (by kernel_rfl)) 83 (by kernel_rfl) (pick_100 (l1.getD j 0) _ (by exact hI1 _ (getD_mem_ _ (by omega)))) ?_
      rintro _ w33 ⟨rfl, F34⟩
      refine ⟨_, rfl, trivial, ?_⟩
      have HQ1 := HQ1.keep F34 (fun _ _ => nin0 _)
      have HQ2 := HQ2.keep F34 (fun _ _ => nin0 _)
      have HD := HD.keep F34 (fun _ _ => nin0 _)
      have HA := Fr.step0 HA F34
      refine WO.one (SQ.F 6 (by kernel_rfl)) 84 (.int .i64 (IntKind.i64.wrap ((now : Int) + ((pk (l1.getD j 0) 100 : Nat) : Int)))) (by kernel_rfl) ?_
      refine WO.top (v' := .int .i64 ((now + (pk (l1.getD j 0) 100) : Nat) : Int)) (wrap_i64 (by omega) (by omega)) ?_
      refine WO.run 1 7 [(13, .int .i64 ((now + (pk (l1.getD j 0) 100) : Nat) : Int))] (by kernel_rfl) (by kernel_rfl) ?_
      refine WO.done (by kernel_rfl) ?_
      refine WQ.keep [0, 1, 4, 5, 6, 7, 8, 12, 13, 14, 37, 50, 75] (e' := [(0, .slice A0 n0 cap0), (1, .slice (some ad1) n1 cap1), (4, .bool false), (5, .bool true), (6, .pointer (some ⟨g3, 0, none⟩)), (7, .pointer (some ⟨g10, 0, none⟩)), (8, .int .i64 (i : Int)), (12, .slice A ((es.map due).length) cap), (13, .int .i64 ((now + (pk (l1.getD j 0) 100) : Nat) : Int)), (14, .int .i64 (j : Int)), (37, .bool false), (50, .bool false), (75, .bool true)]) (by kernel_rfl) ?_
      refine WQ.thenN ?_
      refine WE.seq ?_
      -- R20 law.go:138
      refine WE.region ?_
      refine WO.run 2 0 [(86, .int .i64 ((now + (pk (l1.getD j 0) 100) : Nat) : Int)), (85, .pointer (some ⟨g3, 0, none⟩))] (by kernel_rfl) (by kernel_rfl) ?_
      refine WO.call (SQ.E 2 (by kernel_rfl)) 87 (by kernel_rfl) (take_q F1 g3 qp (i : Int) ((now + (pk (l1.getD j 0) 100) : Nat) : Int) _ HQ1 (by omega)) ?_
      rintro _ w35 ⟨v37, rfl, hO38, HQ39, F36⟩
      refine ⟨_, rfl, trivial, ?_⟩
      obtain ⟨D40, HD41, hg42⟩ := ownX_of hO38
      have hg42 : ∀ y ∈ D40, y ∈ [] ∨ (World.heap w33).size ≤ y := fun y hy => Or.inr (hg42 y hy)
      have htl43 := takeQ_len ((now + (pk (l1.getD j 0) 100) : Nat) : Int) qp.length qp
      have htm44 : (List.map due (takeQ ((now + (pk (l1.getD j 0) 100) : Nat) : Int) qp.length qp).1).length = (takeQ ((now + (pk (l1.getD j 0) 100) : Nat) : Int) qp.length qp).1.length := List.length_map _
      have dj_D40_F1 : ∀ y ∈ D40, y ∉ F1 := grow_dj hg42 (by simp) HQ1.lt
      have dj_D40_F2 : ∀ y ∈ D40, y ∉ F2 := grow_dj hg42 (by simp) HQ2.lt
      have dj_D40_Fa : ∀ y ∈ D40, y ∉ Fa := grow_dj hg42 (by simp) HD.lt
      have ge_HA_D40 : ∀ y ∈ D40, (World.heap w).size ≤ y := grow_ge hg42 (by simp) HA.size
      have HQ2 := HQ2.keep F36 (dj_symm hdj)
      have HD := HD.keep F36 hda1
      have HA := Fr.step HA F36 (inF hg1)
      obtain ⟨Av37, capv37, rfl⟩ := HD41.sliceN (List.length_map _)
      refine WO.run 1 3 [(15, .slice Av37 ((List.map due (takeQ ((now + (pk (l1.getD j 0) 100) : Nat) : Int) qp.length qp).1).length) capv37)] (by kernel_rfl) (by kernel_rfl) ?_
      refine WO.done (by kernel_rfl) ?_
      refine WQ.keep [0, 1, 4, 5, 6, 7, 8, 12, 13, 14, 15, 37, 50, 75] (e' := [(0, .slice A0 n0 cap0), (1, .slice (some ad1) n1 cap1), (4, .bool false), (5, .bool true), (6, .pointer (some ⟨g3, 0, none⟩)), (7, .pointer (some ⟨g10, 0, none⟩)), (8, .int .i64 (i : Int)), (12, .slice A ((es.map due).length) cap), (13, .int .i64 ((now + (pk (l1.getD j 0) 100) : Nat) : Int)), (14, .int .i64 (j : Int)), (15, .slice Av37 ((List.map due (takeQ ((now + (pk (l1.getD j 0) 100) : Nat) : Int) qp.length qp).1).length) capv37), (37, .bool false), (50, .bool false), (75, .bool true)]) (by kernel_rfl) ?_
      refine WQ.thenN ?_
      refine WE.seq ?_
      refine WE.seq ?_
      -- R21 law.go:139
      refine WE.region ?_
      refine WO.run 1 0 [(16, .int .i64 0)] (by kernel_rfl) (by kernel_rfl) ?_
      refine WO.done (by kernel_rfl) ?_
      refine WQ.keep [0, 1, 4, 5, 6, 7, 8, 12, 13, 14, 15, 16, 37, 50, 75] (e' := [(0, .slice A0 n0 cap0), (1, .slice (some ad1) n1 cap1), (4, .bool false), (5, .bool true), (6, .pointer (some ⟨g3, 0, none⟩)), (7, .pointer (some ⟨g10, 0, none⟩)), (8, .int .i64 (i : Int)), (12, .slice A ((es.map due).length) cap), (13, .int .i64 ((now + (pk (l1.getD j 0) 100) : Nat) : Int)), (14, .int .i64 (j : Int)), (15, .slice Av37 ((List.map due (takeQ ((now + (pk (l1.getD j 0) 100) : Nat) : Int) qp.length qp).1).length) capv37), (16, .int .i64 0), (37, .bool false), (50, .bool false), (75, .bool true)]) (by kernel_rfl) ?_
      refine WQ.thenN ?_
      refine WE.block ?_
      have hdue : ∀ k, k < (List.map due (takeQ ((now + (pk (l1.getD j 0) 100) : Nat) : Int) qp.length qp).1).length → (atD (List.map due (takeQ ((now + (pk (l1.getD j 0) 100) : Nat) : Int) qp.length qp).1) k).u ≤ ((now + (pk (l1.getD j 0) 100) : Nat) : Int) := fun k hk => due_le _ _ (takeQ_due _ _ _) k hk
      refine WE.loop (α := Nat) (E := fun k => [(0, .slice A0 n0 cap0), (1, .slice (some ad1) n1 cap1), (4, .bool false), (5, .bool true), (6, .pointer (some ⟨g3, 0, none⟩)), (7, .pointer (some ⟨g10, 0, none⟩)), (8, .int .i64 (i : Int)), (12, .slice A ((es.map due).length) cap), (13, .int .i64 ((now + (pk (l1.getD j 0) 100) : Nat) : Int)), (14, .int .i64 (j : Int)), (15, .slice Av37 ((List.map due (takeQ ((now + (pk (l1.getD j 0) 100) : Nat) : Int) qp.length qp).1).length) capv37), (16, .int .i64 (k : Int)), (37, .bool false), (50, .bool false), (75, .bool true)]) (I := fun k wk => (k ≤ (List.map due (takeQ ((now + (pk (l1.getD j 0) 100) : Nat) : Int) qp.length qp).1).length) ∧ w35 = wk) (m := fun k => (List.map due (takeQ ((now + (pk (l1.getD j 0) 100) : Nat) : Int) qp.length qp).1).length - k) 0 [0, 1, 4, 5, 6, 7, 8, 12, 13, 14, 15, 16, 37, 50, 75] (by kernel_rfl) ?_ ?_
      · exact ⟨Nat.zero_le _, rfl⟩
      intro k wk hI
      obtain ⟨hk, hw⟩ := hI
      subst hw
      refine WE.seq ?_
      refine WE.seq ?_
      -- R22 law.go:139
      refine WE.region ?_
      refine WO.run 3 0 [(90, .int .i64 ((List.map due (takeQ ((now + (pk (l1.getD j 0) 100) : Nat) : Int) qp.length qp).1).length : Int)), (89, .slice Av37 ((List.map due (takeQ ((now + (pk (l1.getD j 0) 100) : Nat) : Int) qp.length qp).1).length) capv37), (88, .int .i64 (k : Int))] (by kernel_rfl) (by kernel_rfl) ?_
      refine WO.one (SQ.F 3 (by kernel_rfl)) 91 (.bool (decide (((k : Int) : Int) < ((List.map due (takeQ ((now + (pk (l1.getD j 0) 100) : Nat) : Int) qp.length qp).1).length : Int)))) (by kernel_rfl) ?_
      refine WO.topP (((k : Int) : Int) < ((List.map due (takeQ ((now + (pk (l1.getD j 0) 100) : Nat) : Int) qp.length qp).1).length : Int)) ?_ ?_
      · intro h45
        refine WO.done (by kernel_rfl) ?_
        refine WQ.keep [0, 1, 4, 5, 6, 7, 8, 12, 13, 14, 15, 16, 37, 50, 75, 91] (e' := [(0, .slice A0 n0 cap0), (1, .slice (some ad1) n1 cap1), (4, .bool false), (5, .bool true), (6, .pointer (some ⟨g3, 0, none⟩)), (7, .pointer (some ⟨g10, 0, none⟩)), (8, .int .i64 (i : Int)), (12, .slice A ((es.map due).length) cap), (13, .int .i64 ((now + (pk (l1.getD j 0) 100) : Nat) : Int)), (14, .int .i64 (j : Int)), (15, .slice Av37 ((List.map due (takeQ ((now + (pk (l1.getD j 0) 100) : Nat) : Int) qp.length qp).1).length) capv37), (16, .int .i64 (k : Int)), (37, .bool false), (50, .bool false), (75, .bool true), (91, .bool true)]) (by kernel_rfl) ?_
        refine WQ.thenN ?_
        refine WE.condT (by kernel_rfl) ?_
        refine WE.skip ?_
        refine WQ.thenN ?_
        refine WE.seq ?_
        refine WE.block ?_
        refine WE.seq ?_
        obtain ⟨b_l, hFl, hAl, HRl⟩ := HD41.pos (by rw [List.length_map]; omega)
        subst hAl
        -- R24 law.go:140
        refine WE.region ?_
        refine WO.run 2 0 [(95, .int .i64 (k : Int)), (94, .slice (some ⟨b_l, 0, none⟩) ((List.map due (takeQ ((now + (pk (l1.getD j 0) 100) : Nat) : Int) qp.length qp).1).length) capv37)] (by kernel_rfl) (by kernel_rfl) ?_
        refine WO.ixB (SQ.F 2 (by kernel_rfl)) 96 (k * 2) b_l 0 ((List.map due (takeQ ((now + (pk (l1.getD j 0) 100) : Nat) : Int) qp.length qp).1).length) 2 (k : Int) (by kernel_rfl) (by omega) (by omega) (by omega) ?_
        refine WO.run 1 3 [(97, .pointer (some ⟨b_l, k * 2, none⟩))] (by kernel_rfl) (by kernel_rfl) ?_
        refine WO.ld (SQ.S 4 (by kernel_rfl)) 98 (.int .i64 ((atD (List.map due (takeQ ((now + (pk (l1.getD j 0) 100) : Nat) : Int) qp.length qp).1) k).u)) (by kernel_rfl) (same (HRl.at k 0 (k * 2) _ (by rw [List.length_map]; have := (rfl : (List.map due (takeQ ((now + (pk (l1.getD j 0) 100) : Nat) : Int) qp.length qp).1).length = (List.map due (takeQ ((now + (pk (l1.getD j 0) 100) : Nat) : Int) qp.length qp).1).length); omega) (by omega) (by rw [(map_atD (List.map due (takeQ ((now + (pk (l1.getD j 0) 100) : Nat) : Int) qp.length qp).1) k (by have := (rfl : (List.map due (takeQ ((now + (pk (l1.getD j 0) 100) : Nat) : Int) qp.length qp).1).length = (List.map due (takeQ ((now + (pk (l1.getD j 0) 100) : Nat) : Int) qp.length qp).1).length); omega))]; rfl) (by omega))) ?_
        refine WO.run 1 5 [(99, .int .i64 ((now + (pk (l1.getD j 0) 100) : Nat) : Int))] (by kernel_rfl) (by kernel_rfl) ?_
        refine WO.one (SQ.F 6 (by kernel_rfl)) 100 (.bool (decide (((atD (List.map due (takeQ ((now + (pk (l1.getD j 0) 100) : Nat) : Int) qp.length qp).1) k).u : Int) > ((now + (pk (l1.getD j 0) 100) : Nat) : Int)))) (by kernel_rfl) ?_
        refine WO.topPF (((atD (List.map due (takeQ ((now + (pk (l1.getD j 0) 100) : Nat) : Int) qp.length qp).1) k).u : Int) > ((now + (pk (l1.getD j 0) 100) : Nat) : Int)) (by have := hdue k (by omega); omega) ?_
        refine WO.done (by kernel_rfl) ?_
        refine WQ.keep [0, 1, 4, 5, 6, 7, 8, 12, 13, 14, 15, 16, 37, 50, 75, 91, 100] (e' := [(0, .slice A0 n0 cap0), (1, .slice (some ad1) n1 cap1), (4, .bool false), (5, .bool true), (6, .pointer (some ⟨g3, 0, none⟩)), (7, .pointer (some ⟨g10, 0, none⟩)), (8, .int .i64 (i : Int)), (12, .slice A ((es.map due).length) cap), (13, .int .i64 ((now + (pk (l1.getD j 0) 100) : Nat) : Int)), (14, .int .i64 (j : Int)), (15, .slice (some ⟨b_l, 0, none⟩) ((List.map due (takeQ ((now + (pk (l1.getD j 0) 100) : Nat) : Int) qp.length qp).1).length) capv37), (16, .int .i64 (k : Int)), (37, .bool false), (50, .bool false), (75, .bool true), (91, .bool true), (100, .bool false)]) (by kernel_rfl) ?_
        refine WQ.thenN ?_
        refine WE.condF (by kernel_rfl) ?_
        refine WE.skip ?_
        refine WQ.blkN ?_
        refine WQ.thenN ?_
        -- R23 law.go:139
        refine WE.region ?_
        refine WO.run 1 0 [(92, .int .i64 (k : Int))] (by kernel_rfl) (by kernel_rfl) ?_
        refine WO.one (SQ.F 1 (by kernel_rfl)) 93 (.int .i64 (IntKind.i64.wrap ((k : Int) + 1))) (by kernel_rfl) ?_
        refine WO.top (v' := .int .i64 ((k + 1 : Nat) : Int)) (wrap_i64 (by omega) (by omega)) ?_
        refine WO.run 1 2 [(16, .int .i64 ((k + 1 : Nat) : Int))] (by kernel_rfl) (by kernel_rfl) ?_
        refine WO.done (by kernel_rfl) ?_
        refine WQ.keep [0, 1, 4, 5, 6, 7, 8, 12, 13, 14, 15, 16, 37, 50, 75, 91, 100] (e' := [(0, .slice A0 n0 cap0), (1, .slice (some ad1) n1 cap1), (4, .bool false), (5, .bool true), (6, .pointer (some ⟨g3, 0, none⟩)), (7, .pointer (some ⟨g10, 0, none⟩)), (8, .int .i64 (i : Int)), (12, .slice A ((es.map due).length) cap), (13, .int .i64 ((now + (pk (l1.getD j 0) 100) : Nat) : Int)), (14, .int .i64 (j : Int)), (15, .slice (some ⟨b_l, 0, none⟩) ((List.map due (takeQ ((now + (pk (l1.getD j 0) 100) : Nat) : Int) qp.length qp).1).length) capv37), (16, .int .i64 ((k + 1 : Nat) : Int)), (37, .bool false), (50, .bool false), (75, .bool true), (91, .bool true), (100, .bool false)]) (by kernel_rfl) ?_
        refine WQ.round ?_
        intro a_ ha_
        refine ⟨(k + 1), ?_, ha_.keep [0, 1, 4, 5, 6, 7, 8, 12, 13, 14, 15, 16, 37, 50, 75] (by kernel_rfl), ?_⟩
        · show _ - (k + 1) < _ - k; omega
        · exact ⟨by omega, rfl⟩
      · intro h45
        refine WO.done (by kernel_rfl) ?_
        refine WQ.keep [0, 1, 4, 5, 6, 7, 8, 12, 13, 14, 15, 16, 37, 50, 75, 91] (e' := [(0, .slice A0 n0 cap0), (1, .slice (some ad1) n1 cap1), (4, .bool false), (5, .bool true), (6, .pointer (some ⟨g3, 0, none⟩)), (7, .pointer (some ⟨g10, 0, none⟩)), (8, .int .i64 (i : Int)), (12, .slice A ((es.map due).length) cap), (13, .int .i64 ((now + (pk (l1.getD j 0) 100) : Nat) : Int)), (14, .int .i64 (j : Int)), (15, .slice Av37 ((List.map due (takeQ ((now + (pk (l1.getD j 0) 100) : Nat) : Int) qp.length qp).1).length) capv37), (16, .int .i64 (k : Int)), (37, .bool false), (50, .bool false), (75, .bool true), (91, .bool false)]) (by kernel_rfl) ?_
        refine WQ.thenN ?_
        refine WE.condF (by kernel_rfl) ?_
        refine WE.exit ?_
        refine WQ.thenE ?_
        refine WQ.thenE ?_
        refine WQ.blkE ?_
        refine WQ.thenN ?_
        -- R26 law.go:144
        refine WE.region ?_
        refine WO.run 2 0 [(102, .slice Av37 ((List.map due (takeQ ((now + (pk (l1.getD j 0) 100) : Nat) : Int) qp.length qp).1).length) capv37), (101, .slice A ((es.map due).length) cap)] (by kernel_rfl) (by kernel_rfl) ?_
        refine WO.appX (SQ.E 2 (by kernel_rfl)) 103 (m := ((List.map due (takeQ ((now + (pk (l1.getD j 0) 100) : Nat) : Int) qp.length qp).1).length)) (ys := List.map cD (List.map due (takeQ ((now + (pk (l1.getD j 0) 100) : Nat) : Int) qp.length qp).1)) et_d HD (by rw [List.length_map] <;> first | rfl | omega) (HD41.srcN (List.length_map _)) (cD_len _) (cD_one _) (by kernel_rfl) (by rw [List.length_map]; omega) (by rw [List.length_map]; omega) (fun _ _ => trivial) ?_
        intro v51 w52 G53 HO54 F55 hg56
        rw [← List.map_append] at HO54
        have dj_G53_F2 : ∀ y ∈ G53, y ∉ F2 := grow_dj hg56 hda2 HQ2.lt
        have dj_G53_D40 : ∀ y ∈ G53, y ∉ D40 := grow_dj hg56 (dj_symm dj_D40_Fa) HD41.lt
        have dj_G53_F1 : ∀ y ∈ G53, y ∉ F1 := grow_dj hg56 hda1 HQ39.lt
        have ge_HA_G53 : ∀ y ∈ G53, (World.heap w).size ≤ y := grow_ge hg56 hga HA.size
        have HQ2 := HQ2.keep F55 (dj_symm hda2)
        have HD41 := HD41.keep F55 dj_D40_Fa
        have HQ39 := HQ39.keep F55 (dj_symm hda1)
        have HA := Fr.step HA F55 (inF hga)
        obtain ⟨A57, cap58, rfl⟩ := HO54.sliceN (List.length_map _)
        have := @List.length_append _ (es.map due) (List.map due (takeQ ((now + (pk (l1.getD j 0) 100) : Nat) : Int) qp.length qp).1)
        refine WO.run 1 3 [(12, .slice A57 (((es.map due) ++ (List.map due (takeQ ((now + (pk (l1.getD j 0) 100) : Nat) : Int) qp.length qp).1)).length) cap58)] (by kernel_rfl) (by kernel_rfl) ?_
        refine WO.done (by kernel_rfl) ?_
        refine WQ.keep [0, 1, 4, 5, 6, 7, 8, 12, 13, 14, 15, 16, 37, 50, 75, 91] (e' := [(0, .slice A0 n0 cap0), (1, .slice (some ad1) n1 cap1), (4, .bool false), (5, .bool true), (6, .pointer (some ⟨g3, 0, none⟩)), (7, .pointer (some ⟨g10, 0, none⟩)), (8, .int .i64 (i : Int)), (12, .slice A57 (((es.map due) ++ (List.map due (takeQ ((now + (pk (l1.getD j 0) 100) : Nat) : Int) qp.length qp).1)).length) cap58), (13, .int .i64 ((now + (pk (l1.getD j 0) 100) : Nat) : Int)), (14, .int .i64 (j : Int)), (15, .slice Av37 ((List.map due (takeQ ((now + (pk (l1.getD j 0) 100) : Nat) : Int) qp.length qp).1).length) capv37), (16, .int .i64 (k : Int)), (37, .bool false), (50, .bool false), (75, .bool true), (91, .bool false)]) (by kernel_rfl) ?_
        refine WQ.blkN ?_
        refine WQ.thenN ?_
        -- R18 law.go:136
        refine WE.region ?_
        refine WO.run 1 0 [(76, .int .i64 (j : Int))] (by kernel_rfl) (by kernel_rfl) ?_
        refine WO.one (SQ.F 1 (by kernel_rfl)) 77 (.int .i64 (IntKind.i64.wrap ((j : Int) + 1))) (by kernel_rfl) ?_
        refine WO.top (v' := .int .i64 ((j + 1 : Nat) : Int)) (wrap_i64 (by omega) (by omega)) ?_
        refine WO.run 1 2 [(14, .int .i64 ((j + 1 : Nat) : Int))] (by kernel_rfl) (by kernel_rfl) ?_
        refine WO.done (by kernel_rfl) ?_
        refine WQ.keep [0, 1, 4, 5, 6, 7, 8, 12, 13, 14, 15, 16, 37, 50, 75, 91] (e' := [(0, .slice A0 n0 cap0), (1, .slice (some ad1) n1 cap1), (4, .bool false), (5, .bool true), (6, .pointer (some ⟨g3, 0, none⟩)), (7, .pointer (some ⟨g10, 0, none⟩)), (8, .int .i64 (i : Int)), (12, .slice A57 (((es.map due) ++ (List.map due (takeQ ((now + (pk (l1.getD j 0) 100) : Nat) : Int) qp.length qp).1)).length) cap58), (13, .int .i64 ((now + (pk (l1.getD j 0) 100) : Nat) : Int)), (14, .int .i64 ((j + 1 : Nat) : Int)), (15, .slice Av37 ((List.map due (takeQ ((now + (pk (l1.getD j 0) 100) : Nat) : Int) qp.length qp).1).length) capv37), (16, .int .i64 (k : Int)), (37, .bool false), (50, .bool false), (75, .bool true), (91, .bool false)]) (by kernel_rfl) ?_
        have hml := takeQ_len ((now + (pk (l1.getD j 0) 100) : Nat) : Int) qp.length qp
        refine WQ.env (e' := [(0, .slice A0 n0 cap0), (1, .slice (some ad1) n1 cap1), (4, .bool false), (5, .bool true), (6, .pointer (some ⟨g3, 0, none⟩)), (7, .pointer (some ⟨g10, 0, none⟩)), (8, .int .i64 (i : Int)), (12, .slice A57 (((es ++ (takeQ ((now + (pk (l1.getD j 0) 100) : Nat) : Int) qp.length qp).1).map due).length) cap58), (13, .int .i64 ((now + (pk (l1.getD j 0) 100) : Nat) : Int)), (14, .int .i64 ((j + 1 : Nat) : Int)), (15, .slice Av37 ((List.map due (takeQ ((now + (pk (l1.getD j 0) 100) : Nat) : Int) qp.length qp).1).length) capv37), (16, .int .i64 (k : Int)), (37, .bool false), (50, .bool false), (75, .bool true), (91, .bool false)]) (by rw [List.map_append]) ?_
        refine WQ.round ?_
        intro a_ ha_
        refine ⟨(j + 1, now + (pk (l1.getD j 0) 100), es ++ (takeQ ((now + (pk (l1.getD j 0) 100) : Nat) : Int) qp.length qp).1, (takeQ ((now + (pk (l1.getD j 0) 100) : Nat) : Int) qp.length qp).2, F1, G53, A57, cap58), ?_, ha_.keep [0, 1, 4, 5, 6, 7, 8, 12, 13, 14, 37, 50] (by kernel_rfl), ?_⟩
        · show n1 - (j + 1) < n1 - j; omega
        · exact ⟨by show j + 1 ≤ n1; omega, by show now + (pk (l1.getD j 0) 100) ≤ 100 * (j + 1); omega, HQ39, HQ2, by rw [List.map_append]; exact HO54, hdj, dj_G53_F1, dj_G53_F2, hg1, ge_HA_G53, by show (takeQ ((now + (pk (l1.getD j 0) 100) : Nat) : Int) qp.length qp).2.length + (es ++ (takeQ ((now + (pk (l1.getD j 0) 100) : Nat) : Int) qp.length qp).1).length = n0; rw [List.length_append]; omega, fun M h => by have h' : ((now + (pk (l1.getD j 0) 100) : Nat) : Int) ≤ M := h; have h1 := hM M (by omega); have h2 := takeQ_more ((now + (pk (l1.getD j 0) 100) : Nat) : Int) M h'  qp.length qp (Nat.le_refl _); rw [h1, h2.1, h2.2, List.append_assoc], HA⟩
    · intro h31
      refine WO.done (by kernel_rfl) ?_
      refine WQ.keep [0, 1, 4, 5, 6, 7, 8, 12, 13, 14, 37, 50, 75] (e' := [(0, .slice A0 n0 cap0), (1, .slice A1 n1 cap1), (4, .bool false), (5, .bool true), (6, .pointer (some ⟨g3, 0, none⟩)), (7, .pointer (some ⟨g10, 0, none⟩)), (8, .int .i64 (i : Int)), (12, .slice A ((es.map due).length) cap), (13, .int .i64 (now : Int)), (14, .int .i64 (j : Int)), (37, .bool false), (50, .bool false), (75, .bool false)]) (by kernel_rfl) ?_
      refine WQ.thenN ?_
      refine WE.condF (by kernel_rfl) ?_
      refine WE.exit ?_
      refine WQ.thenE ?_
      refine WQ.thenE ?_
      refine WQ.blkE ?_
      refine WQ.thenN ?_
      refine WE.seq ?_
      -- R27 law.go:146
      refine WE.region ?_
      refine WO.run 3 0 [(106, .int .i64 (now : Int)), (105, .pointer (some ⟨g3, 0, none⟩)), (104, .slice A ((es.map due).length) cap)] (by kernel_rfl) (by kernel_rfl) ?_
      refine WO.call (SQ.E 3 (by kernel_rfl)) 107 (by kernel_rfl) (take_q F1 g3 qp (i : Int) (now : Int) _ HQ1 (by omega)) ?_
      rintro _ w59 ⟨v61, rfl, hO62, HQ63, F60⟩
      refine ⟨_, rfl, trivial, ?_⟩
      obtain ⟨D64, HD65, hg66⟩ := ownX_of hO62
      have hg66 : ∀ y ∈ D64, y ∈ [] ∨ (World.heap wt).size ≤ y := fun y hy => Or.inr (hg66 y hy)
      have htl67 := takeQ_len (now : Int) qp.length qp
      have htm68 : (List.map due (takeQ (now : Int) qp.length qp).1).length = (takeQ (now : Int) qp.length qp).1.length := List.length_map _
      have dj_D64_F1 : ∀ y ∈ D64, y ∉ F1 := grow_dj hg66 (by simp) HQ1.lt
      have dj_D64_F2 : ∀ y ∈ D64, y ∉ F2 := grow_dj hg66 (by simp) HQ2.lt
      have dj_D64_Fa : ∀ y ∈ D64, y ∉ Fa := grow_dj hg66 (by simp) HD.lt
      have ge_HA_D64 : ∀ y ∈ D64, (World.heap w).size ≤ y := grow_ge hg66 (by simp) HA.size
      have HQ2 := HQ2.keep F60 (dj_symm hdj)
      have HD := HD.keep F60 hda1
      have HA := Fr.step HA F60 (inF hg1)
      obtain ⟨Av61, capv61, rfl⟩ := HD65.sliceN (List.length_map _)
      refine WO.appX (SQ.E 4 (by kernel_rfl)) 108 (m := ((List.map due (takeQ (now : Int) qp.length qp).1).length)) (ys := List.map cD (List.map due (takeQ (now : Int) qp.length qp).1)) et_d HD (by rw [List.length_map] <;> first | rfl | omega) (HD65.srcN (List.length_map _)) (cD_len _) (cD_one _) (by kernel_rfl) (by rw [List.length_map]; omega) (by rw [List.length_map]; omega) (fun _ _ => trivial) ?_
      intro v74 w75 G76 HO77 F78 hg79
      rw [← List.map_append] at HO77
      have dj_G76_F2 : ∀ y ∈ G76, y ∉ F2 := grow_dj hg79 hda2 HQ2.lt
      have dj_G76_D64 : ∀ y ∈ G76, y ∉ D64 := grow_dj hg79 (dj_symm dj_D64_Fa) HD65.lt
      have dj_G76_F1 : ∀ y ∈ G76, y ∉ F1 := grow_dj hg79 hda1 HQ63.lt
      have ge_HA_G76 : ∀ y ∈ G76, (World.heap w).size ≤ y := grow_ge hg79 hga HA.size
      have HQ2 := HQ2.keep F78 (dj_symm hda2)
      have HD65 := HD65.keep F78 dj_D64_Fa
      have HQ63 := HQ63.keep F78 (dj_symm hda1)
      have HA := Fr.step HA F78 (inF hga)
      obtain ⟨A80, cap81, rfl⟩ := HO77.sliceN (List.length_map _)
      have := @List.length_append _ (es.map due) (List.map due (takeQ (now : Int) qp.length qp).1)
      refine WO.run 1 5 [(12, .slice A80 (((es.map due) ++ (List.map due (takeQ (now : Int) qp.length qp).1)).length) cap81)] (by kernel_rfl) (by kernel_rfl) ?_
      refine WO.done (by kernel_rfl) ?_
      refine WQ.keep [0, 1, 4, 5, 6, 7, 8, 12, 13, 14, 37, 50, 75] (e' := [(0, .slice A0 n0 cap0), (1, .slice A1 n1 cap1), (4, .bool false), (5, .bool true), (6, .pointer (some ⟨g3, 0, none⟩)), (7, .pointer (some ⟨g10, 0, none⟩)), (8, .int .i64 (i : Int)), (12, .slice A80 (((es.map due) ++ (List.map due (takeQ (now : Int) qp.length qp).1)).length) cap81), (13, .int .i64 (now : Int)), (14, .int .i64 (j : Int)), (37, .bool false), (50, .bool false), (75, .bool false)]) (by kernel_rfl) ?_
      refine WQ.thenN ?_
      refine WE.seq ?_
      -- R28 law.go:147
      refine WE.region ?_
      refine WO.run 2 0 [(110, .int .i64 (now : Int)), (109, .pointer (some ⟨g10, 0, none⟩))] (by kernel_rfl) (by kernel_rfl) ?_
      refine WO.call (SQ.E 2 (by kernel_rfl)) 111 (by kernel_rfl) (take_q F2 g10 q (i : Int) (now : Int) _ HQ2 (by omega)) ?_
      rintro _ w82 ⟨v84, rfl, hO85, HQ86, F83⟩
      refine ⟨_, rfl, trivial, ?_⟩
      obtain ⟨D87, HD88, hg89⟩ := ownX_of hO85
      have hg89 : ∀ y ∈ D87, y ∈ [] ∨ (World.heap w75).size ≤ y := fun y hy => Or.inr (hg89 y hy)
      have htl90 := takeQ_len (now : Int) q.length q
      have htm91 : (List.map due (takeQ (now : Int) q.length q).1).length = (takeQ (now : Int) q.length q).1.length := List.length_map _
      have dj_D87_F2 : ∀ y ∈ D87, y ∉ F2 := grow_dj hg89 (by simp) HQ2.lt
      have dj_D87_D64 : ∀ y ∈ D87, y ∉ D64 := grow_dj hg89 (by simp) HD65.lt
      have dj_D87_F1 : ∀ y ∈ D87, y ∉ F1 := grow_dj hg89 (by simp) HQ63.lt
      have dj_D87_G76 : ∀ y ∈ D87, y ∉ G76 := grow_dj hg89 (by simp) HO77.lt
      have ge_HA_D87 : ∀ y ∈ D87, (World.heap w).size ≤ y := grow_ge hg89 (by simp) HA.size
      have HD65 := HD65.keep F83 dj_D64_F2
      have HQ63 := HQ63.keep F83 hdj
      have HO77 := HO77.keep F83 dj_G76_F2
      have HA := Fr.step HA F83 (inF hg2)
      obtain ⟨Av84, capv84, rfl⟩ := HD88.sliceN (List.length_map _)
      refine WO.run 1 3 [(17, .slice Av84 ((List.map due (takeQ (now : Int) q.length q).1).length) capv84)] (by kernel_rfl) (by kernel_rfl) ?_
      refine WO.done (by kernel_rfl) ?_
      refine WQ.keep [0, 1, 4, 5, 6, 7, 8, 12, 13, 14, 17, 37, 50, 75] (e' := [(0, .slice A0 n0 cap0), (1, .slice A1 n1 cap1), (4, .bool false), (5, .bool true), (6, .pointer (some ⟨g3, 0, none⟩)), (7, .pointer (some ⟨g10, 0, none⟩)), (8, .int .i64 (i : Int)), (12, .slice A80 (((es.map due) ++ (List.map due (takeQ (now : Int) qp.length qp).1)).length) cap81), (13, .int .i64 (now : Int)), (14, .int .i64 (j : Int)), (17, .slice Av84 ((List.map due (takeQ (now : Int) q.length q).1).length) capv84), (37, .bool false), (50, .bool false), (75, .bool false)]) (by kernel_rfl) ?_
      refine WQ.thenN ?_
      refine WE.seq ?_
      refine WE.seq ?_
      have hMn := hM (now : Int) (Int.le_refl _)
      have hsame : (List.map due (takeQ (now : Int) q.length q).1) = ((es.map due) ++ (List.map due (takeQ (now : Int) qp.length qp).1)) := by rw [hMn, List.map_append]
      have htl := takeQ_len (now : Int) q.length q
      have hsl : ((List.map due (takeQ (now : Int) q.length q).1)).length = (((es.map due) ++ (List.map due (takeQ (now : Int) qp.length qp).1))).length := by rw [hsame]
      have hml2 : ((List.map due (takeQ (now : Int) q.length q).1)).length = (takeQ (now : Int) q.length q).1.length := List.length_map _
      -- R29 law.go:148
      refine WE.region ?_
      refine WO.run 4 0 [(115, .int .i64 (((es.map due) ++ (List.map due (takeQ (now : Int) qp.length qp).1)).length : Int)), (114, .slice A80 (((es.map due) ++ (List.map due (takeQ (now : Int) qp.length qp).1)).length) cap81), (113, .int .i64 ((List.map due (takeQ (now : Int) q.length q).1).length : Int)), (112, .slice Av84 ((List.map due (takeQ (now : Int) q.length q).1).length) capv84)] (by kernel_rfl) (by kernel_rfl) ?_
      refine WO.one (SQ.F 4 (by kernel_rfl)) 116 (.bool (!decide ((((List.map due (takeQ (now : Int) q.length q).1).length : Int) : Int) = (((es.map due) ++ (List.map due (takeQ (now : Int) qp.length qp).1)).length : Int)))) (by kernel_rfl) ?_
      refine WO.topNT ((((List.map due (takeQ (now : Int) q.length q).1).length : Int) : Int) = (((es.map due) ++ (List.map due (takeQ (now : Int) qp.length qp).1)).length : Int)) (by omega) ?_
      refine WO.run 4 5 [(120, .pointer (some ⟨g10, 0, none⟩)), (119, .int .i64 ((List.map due (takeQ (now : Int) q.length q).1).length : Int)), (118, .slice Av84 ((List.map due (takeQ (now : Int) q.length q).1).length) capv84), (117, .bool false)] (by kernel_rfl) (by kernel_rfl) ?_
      refine WO.call (SQ.E 9 (by kernel_rfl)) 121 (by kernel_rfl) (len_q F2 g10 ((takeQ (now : Int) q.length q).2) (i : Int) _ HQ86) ?_
      rintro _ w92 ⟨rfl, F93⟩
      refine ⟨_, rfl, trivial, ?_⟩
      have HO77 := HO77.keep F93 (fun _ _ => nin0 _)
      have HD88 := HD88.keep F93 (fun _ _ => nin0 _)
      have HQ86 := HQ86.keep F93 (fun _ _ => nin0 _)
      have HA := Fr.step0 HA F93
      refine WO.one (SQ.F 10 (by kernel_rfl)) 122 (.int .i64 (IntKind.i64.wrap (((List.map due (takeQ (now : Int) q.length q).1).length : Int) + (((takeQ (now : Int) q.length q).2).length : Int)))) (by kernel_rfl) ?_
      refine WO.top (v' := .int .i64 ((((List.map due (takeQ (now : Int) q.length q).1).length) + (((takeQ (now : Int) q.length q).2).length) : Nat) : Int)) (wrap_i64 (by omega) (by omega)) ?_
      refine WO.run 2 11 [(124, .int .i64 (n0 : Int)), (123, .slice A0 n0 cap0)] (by kernel_rfl) (by kernel_rfl) ?_
      refine WO.one (SQ.F 13 (by kernel_rfl)) 125 (.bool (!decide (((((List.map due (takeQ (now : Int) q.length q).1).length) + (((takeQ (now : Int) q.length q).2).length) : Int) : Int) = (n0 : Int)))) (by kernel_rfl) ?_
      refine WO.topNT (((((List.map due (takeQ (now : Int) q.length q).1).length) + (((takeQ (now : Int) q.length q).2).length) : Int) : Int) = (n0 : Int)) (by omega) ?_
      refine WO.run 1 14 [(126, .bool false)] (by kernel_rfl) (by kernel_rfl) ?_
      refine WO.done (by kernel_rfl) ?_
      refine WQ.keep [0, 1, 4, 5, 6, 7, 8, 12, 13, 14, 17, 37, 50, 75, 126] (e' := [(0, .slice A0 n0 cap0), (1, .slice A1 n1 cap1), (4, .bool false), (5, .bool true), (6, .pointer (some ⟨g3, 0, none⟩)), (7, .pointer (some ⟨g10, 0, none⟩)), (8, .int .i64 (i : Int)), (12, .slice A80 (((es.map due) ++ (List.map due (takeQ (now : Int) qp.length qp).1)).length) cap81), (13, .int .i64 (now : Int)), (14, .int .i64 (j : Int)), (17, .slice Av84 ((List.map due (takeQ (now : Int) q.length q).1).length) capv84), (37, .bool false), (50, .bool false), (75, .bool false), (126, .bool false)]) (by kernel_rfl) ?_
      refine WQ.thenN ?_
      refine WE.condF (by kernel_rfl) ?_
      refine WE.skip ?_
      refine WQ.thenN ?_
      refine WE.seq ?_
      refine WE.seq ?_
      -- R31 law.go:151
      refine WE.region ?_
      refine WO.run 1 0 [(18, .int .i64 0)] (by kernel_rfl) (by kernel_rfl) ?_
      refine WO.done (by kernel_rfl) ?_
      refine WQ.keep [0, 1, 4, 5, 6, 7, 8, 12, 13, 14, 17, 18, 37, 50, 75, 126] (e' := [(0, .slice A0 n0 cap0), (1, .slice A1 n1 cap1), (4, .bool false), (5, .bool true), (6, .pointer (some ⟨g3, 0, none⟩)), (7, .pointer (some ⟨g10, 0, none⟩)), (8, .int .i64 (i : Int)), (12, .slice A80 (((es.map due) ++ (List.map due (takeQ (now : Int) qp.length qp).1)).length) cap81), (13, .int .i64 (now : Int)), (14, .int .i64 (j : Int)), (17, .slice Av84 ((List.map due (takeQ (now : Int) q.length q).1).length) capv84), (18, .int .i64 0), (37, .bool false), (50, .bool false), (75, .bool false), (126, .bool false)]) (by kernel_rfl) ?_
      refine WQ.thenN ?_
      refine WE.block ?_
      refine WE.loop (α := Nat) (E := fun k => [(0, .slice A0 n0 cap0), (1, .slice A1 n1 cap1), (4, .bool false), (5, .bool true), (6, .pointer (some ⟨g3, 0, none⟩)), (7, .pointer (some ⟨g10, 0, none⟩)), (8, .int .i64 (i : Int)), (12, .slice A80 (((es.map due) ++ (List.map due (takeQ (now : Int) qp.length qp).1)).length) cap81), (13, .int .i64 (now : Int)), (14, .int .i64 (j : Int)), (17, .slice Av84 ((List.map due (takeQ (now : Int) q.length q).1).length) capv84), (18, .int .i64 (k : Int)), (37, .bool false), (50, .bool false), (75, .bool false), (126, .bool false)]) (I := fun k wk => k ≤ (List.map due (takeQ (now : Int) q.length q).1).length ∧ OwnX 33 2 wk D87 (.slice Av84 ((List.map due (takeQ (now : Int) q.length q).1).length) capv84) (List.map cD (List.map due (takeQ (now : Int) q.length q).1)) ∧ OwnX 33 2 wk G76 (.slice A80 (((es.map due) ++ (List.map due (takeQ (now : Int) qp.length qp).1)).length) cap81) (List.map cD ((es.map due) ++ (List.map due (takeQ (now : Int) qp.length qp).1))) ∧ Fr [] w wk) (m := fun k => (List.map due (takeQ (now : Int) q.length q).1).length - k) 0 [0, 1, 4, 5, 6, 7, 8, 12, 13, 14, 17, 18, 37, 50, 75, 126] (by kernel_rfl) ?_ ?_
      · exact ⟨Nat.zero_le _, HD88, HO77, HA⟩
      rintro k wk ⟨hk, HX, HY, HA⟩
      refine WE.seq ?_
      refine WE.seq ?_
      -- R32 law.go:151
      refine WE.region ?_
      refine WO.run 3 0 [(129, .int .i64 ((List.map due (takeQ (now : Int) q.length q).1).length : Int)), (128, .slice Av84 ((List.map due (takeQ (now : Int) q.length q).1).length) capv84), (127, .int .i64 (k : Int))] (by kernel_rfl) (by kernel_rfl) ?_
      refine WO.one (SQ.F 3 (by kernel_rfl)) 130 (.bool (decide (((k : Int) : Int) < ((List.map due (takeQ (now : Int) q.length q).1).length : Int)))) (by kernel_rfl) ?_
      refine WO.topP (((k : Int) : Int) < ((List.map due (takeQ (now : Int) q.length q).1).length : Int)) ?_ ?_
      · intro h94
        refine WO.done (by kernel_rfl) ?_
        refine WQ.keep [0, 1, 4, 5, 6, 7, 8, 12, 13, 14, 17, 18, 37, 50, 75, 126, 130] (e' := [(0, .slice A0 n0 cap0), (1, .slice A1 n1 cap1), (4, .bool false), (5, .bool true), (6, .pointer (some ⟨g3, 0, none⟩)), (7, .pointer (some ⟨g10, 0, none⟩)), (8, .int .i64 (i : Int)), (12, .slice A80 (((es.map due) ++ (List.map due (takeQ (now : Int) qp.length qp).1)).length) cap81), (13, .int .i64 (now : Int)), (14, .int .i64 (j : Int)), (17, .slice Av84 ((List.map due (takeQ (now : Int) q.length q).1).length) capv84), (18, .int .i64 (k : Int)), (37, .bool false), (50, .bool false), (75, .bool false), (126, .bool false), (130, .bool true)]) (by kernel_rfl) ?_
        refine WQ.thenN ?_
        refine WE.condT (by kernel_rfl) ?_
        refine WE.skip ?_
        refine WQ.thenN ?_
        refine WE.seq ?_
        refine WE.block ?_
        refine WE.seq ?_
        skip
        have hsl : ((List.map due (takeQ (now : Int) q.length q).1)).length = (((es.map due) ++ (List.map due (takeQ (now : Int) qp.length qp).1))).length := by rw [hsame]
        obtain ⟨b_x, hFx, hAx, HRx⟩ := HX.pos (by rw [List.length_map]; omega)
        subst hAx
        obtain ⟨b_y, hFy, hAy, HRy⟩ := HY.pos (by rw [List.length_map]; omega)
        subst hAy
        -- R34* law.go:152
        refine WE.draw [.free, .free, .free, .still, .free, .free, .free, .still, .free] Same sameR (by kernel_rfl) 9 (Array.replicate 9 false) (by kernel_rfl) rfl ?_
        intro w95 F96 _
        have HRx := RowB.keep HRx F96 (nin0 _)
        have HRy := RowB.keep HRy F96 (nin0 _)
        have HX := HX.keep F96 (fun _ _ => nin0 _)
        have HY := HY.keep F96 (fun _ _ => nin0 _)
        have HA := Fr.step0 HA F96
        refine WO.one (SA.F sameR sameT _ 0 _ (by kernel_rfl)) 133 (.slice (some ⟨b_x, 0, none⟩) ((List.map due (takeQ (now : Int) q.length q).1).length) capv84) (by kernel_rfl) ?_
        refine WO.one (SA.F sameR sameT _ 1 _ (by kernel_rfl)) 134 (.int .i64 (k : Int)) (by kernel_rfl) ?_
        refine WO.ixB (SA.F sameR sameT _ 2 _ (by kernel_rfl)) 135 (k * 2) b_x 0 ((List.map due (takeQ (now : Int) q.length q).1).length) 2 (k : Int) (by kernel_rfl) (by omega) (by omega) (by omega) ?_
        refine WO.ldR (SA.S sameR sameT _ 3 _ (by kernel_rfl)) 136 [.int .i64 ((atD (List.map due (takeQ (now : Int) q.length q).1) k).u), .int .i64 ((atD (List.map due (takeQ (now : Int) q.length q).1) k).v)] b_x k 2 (k * 2) (same HRx) (by rw [List.length_map]; have := (rfl : (List.map due (takeQ (now : Int) q.length q).1).length = (List.map due (takeQ (now : Int) q.length q).1).length); omega) (map_atD (List.map due (takeQ (now : Int) q.length q).1) k (by have := (rfl : (List.map due (takeQ (now : Int) q.length q).1).length = (List.map due (takeQ (now : Int) q.length q).1).length); omega)) rfl (by omega) (by kernel_rfl) (by kernel_rfl) ?_
        refine WO.one (SA.F sameR sameT _ 4 _ (by kernel_rfl)) 137 (.slice (some ⟨b_y, 0, none⟩) (((es.map due) ++ (List.map due (takeQ (now : Int) qp.length qp).1)).length) cap81) (by kernel_rfl) ?_
        refine WO.one (SA.F sameR sameT _ 5 _ (by kernel_rfl)) 138 (.int .i64 (k : Int)) (by kernel_rfl) ?_
        refine WO.ixB (SA.F sameR sameT _ 6 _ (by kernel_rfl)) 139 (k * 2) b_y 0 (((es.map due) ++ (List.map due (takeQ (now : Int) qp.length qp).1)).length) 2 (k : Int) (by kernel_rfl) (by omega) (by omega) (by omega) ?_
        refine WO.ldR (SA.S sameR sameT _ 7 _ (by kernel_rfl)) 140 [.int .i64 ((atD ((es.map due) ++ (List.map due (takeQ (now : Int) qp.length qp).1)) k).u), .int .i64 ((atD ((es.map due) ++ (List.map due (takeQ (now : Int) qp.length qp).1)) k).v)] b_y k 2 (k * 2) (same HRy) (by rw [List.length_map]; have := (rfl : ((es.map due) ++ (List.map due (takeQ (now : Int) qp.length qp).1)).length = ((es.map due) ++ (List.map due (takeQ (now : Int) qp.length qp).1)).length); omega) (map_atD ((es.map due) ++ (List.map due (takeQ (now : Int) qp.length qp).1)) k (by have := (rfl : ((es.map due) ++ (List.map due (takeQ (now : Int) qp.length qp).1)).length = ((es.map due) ++ (List.map due (takeQ (now : Int) qp.length qp).1)).length); omega)) rfl (by omega) (by kernel_rfl) (by kernel_rfl) ?_
        refine WO.eqS (SA.F sameR sameT _ 8 _ (by kernel_rfl)) 141 true 33 #[.int .i64 ((atD (List.map due (takeQ (now : Int) q.length q).1) k).u), .int .i64 ((atD (List.map due (takeQ (now : Int) q.length q).1) k).v)] #[.int .i64 ((atD ((es.map due) ++ (List.map due (takeQ (now : Int) qp.length qp).1)) k).u), .int .i64 ((atD ((es.map due) ++ (List.map due (takeQ (now : Int) qp.length qp).1)) k).v)] (b := ((atD (List.map due (takeQ (now : Int) q.length q).1) k).u) == ((atD ((es.map due) ++ (List.map due (takeQ (now : Int) qp.length qp).1)) k).u) && (((atD (List.map due (takeQ (now : Int) q.length q).1) k).v) == ((atD ((es.map due) ++ (List.map due (takeQ (now : Int) qp.length qp).1)) k).v))) (by kernel_rfl) (by kernel_rfl) (fun w_ => eqA33 9998 w_ _ _ _ _) ?_
        refine WO.top (v' := .bool (!(((atD (List.map due (takeQ (now : Int) q.length q).1) k).u) == ((atD ((es.map due) ++ (List.map due (takeQ (now : Int) qp.length qp).1)) k).u) && (((atD (List.map due (takeQ (now : Int) q.length q).1) k).v) == ((atD ((es.map due) ++ (List.map due (takeQ (now : Int) qp.length qp).1)) k).v))))) rfl ?_
        refine WO.top (v' := .bool false) (congrArg Value.bool (by rw [hsame]; simp)) ?_
        refine WO.doneA (by kernel_rfl) ?_
        refine WQ.keep [0, 1, 4, 5, 6, 7, 8, 12, 13, 14, 17, 18, 37, 50, 75, 126, 130, 141] (e' := [(0, .slice A0 n0 cap0), (1, .slice A1 n1 cap1), (4, .bool false), (5, .bool true), (6, .pointer (some ⟨g3, 0, none⟩)), (7, .pointer (some ⟨g10, 0, none⟩)), (8, .int .i64 (i : Int)), (12, .slice (some ⟨b_y, 0, none⟩) (((es.map due) ++ (List.map due (takeQ (now : Int) qp.length qp).1)).length) cap81), (13, .int .i64 (now : Int)), (14, .int .i64 (j : Int)), (17, .slice (some ⟨b_x, 0, none⟩) ((List.map due (takeQ (now : Int) q.length q).1).length) capv84), (18, .int .i64 (k : Int)), (37, .bool false), (50, .bool false), (75, .bool false), (126, .bool false), (130, .bool true), (141, .bool false)]) (by kernel_rfl) ?_
        refine WQ.thenN ?_
        refine WE.condF (by kernel_rfl) ?_
        refine WE.skip ?_
        refine WQ.blkN ?_
        refine WQ.thenN ?_
        -- R33 law.go:151
        refine WE.region ?_
        refine WO.run 1 0 [(131, .int .i64 (k : Int))] (by kernel_rfl) (by kernel_rfl) ?_
        refine WO.one (SQ.F 1 (by kernel_rfl)) 132 (.int .i64 (IntKind.i64.wrap ((k : Int) + 1))) (by kernel_rfl) ?_
        refine WO.top (v' := .int .i64 ((k + 1 : Nat) : Int)) (wrap_i64 (by omega) (by omega)) ?_
        refine WO.run 1 2 [(18, .int .i64 ((k + 1 : Nat) : Int))] (by kernel_rfl) (by kernel_rfl) ?_
        refine WO.done (by kernel_rfl) ?_
        refine WQ.keep [0, 1, 4, 5, 6, 7, 8, 12, 13, 14, 17, 18, 37, 50, 75, 126, 130, 141] (e' := [(0, .slice A0 n0 cap0), (1, .slice A1 n1 cap1), (4, .bool false), (5, .bool true), (6, .pointer (some ⟨g3, 0, none⟩)), (7, .pointer (some ⟨g10, 0, none⟩)), (8, .int .i64 (i : Int)), (12, .slice (some ⟨b_y, 0, none⟩) (((es.map due) ++ (List.map due (takeQ (now : Int) qp.length qp).1)).length) cap81), (13, .int .i64 (now : Int)), (14, .int .i64 (j : Int)), (17, .slice (some ⟨b_x, 0, none⟩) ((List.map due (takeQ (now : Int) q.length q).1).length) capv84), (18, .int .i64 ((k + 1 : Nat) : Int)), (37, .bool false), (50, .bool false), (75, .bool false), (126, .bool false), (130, .bool true), (141, .bool false)]) (by kernel_rfl) ?_
        refine WQ.round ?_
        intro a_ ha_
        refine ⟨k + 1, ?_, ha_.keep [0, 1, 4, 5, 6, 7, 8, 12, 13, 14, 17, 18, 37, 50, 75, 126] (by kernel_rfl), ?_⟩
        · show _ - (k + 1) < _ - k; omega
        · exact ⟨by omega, HX, HY, HA⟩
      · intro h94
        refine WO.done (by kernel_rfl) ?_
        refine WQ.keep [0, 1, 4, 5, 6, 7, 8, 12, 13, 14, 17, 18, 37, 50, 75, 126, 130] (e' := [(0, .slice A0 n0 cap0), (1, .slice A1 n1 cap1), (4, .bool false), (5, .bool true), (6, .pointer (some ⟨g3, 0, none⟩)), (7, .pointer (some ⟨g10, 0, none⟩)), (8, .int .i64 (i : Int)), (12, .slice A80 (((es.map due) ++ (List.map due (takeQ (now : Int) qp.length qp).1)).length) cap81), (13, .int .i64 (now : Int)), (14, .int .i64 (j : Int)), (17, .slice Av84 ((List.map due (takeQ (now : Int) q.length q).1).length) capv84), (18, .int .i64 (k : Int)), (37, .bool false), (50, .bool false), (75, .bool false), (126, .bool false), (130, .bool false)]) (by kernel_rfl) ?_
        refine WQ.thenN ?_
        refine WE.condF (by kernel_rfl) ?_
        refine WE.exit ?_
        refine WQ.thenE ?_
        refine WQ.thenE ?_
        refine WQ.blkE ?_
        refine WQ.thenN ?_
        refine WE.seq ?_
        -- R36 law.go:156
        refine WE.region ?_
        refine WO.run 2 0 [(4, .bool true), (142, .bool true)] (by kernel_rfl) (by kernel_rfl) ?_
        refine WO.done (by kernel_rfl) ?_
        refine WQ.keep [0, 1, 4, 5, 6, 7, 8, 12, 13, 14, 17, 18, 37, 50, 75, 126, 130] (e' := [(0, .slice A0 n0 cap0), (1, .slice A1 n1 cap1), (4, .bool true), (5, .bool true), (6, .pointer (some ⟨g3, 0, none⟩)), (7, .pointer (some ⟨g10, 0, none⟩)), (8, .int .i64 (i : Int)), (12, .slice A80 (((es.map due) ++ (List.map due (takeQ (now : Int) qp.length qp).1)).length) cap81), (13, .int .i64 (now : Int)), (14, .int .i64 (j : Int)), (17, .slice Av84 ((List.map due (takeQ (now : Int) q.length q).1).length) capv84), (18, .int .i64 (k : Int)), (37, .bool false), (50, .bool false), (75, .bool false), (126, .bool false), (130, .bool false)]) (by kernel_rfl) ?_
        refine WQ.thenN ?_
        refine WE.ret ?_
        refine WQ.ret (v := .bool true) (by kernel_rfl) ?_
        exact ⟨rfl, HA⟩

set_option maxRecDepth 100000 in
set_option maxHeartbeats 400000 in
theorem once_off (A0 A1 : Option Addr) (n0 n1 cap0 cap1 : Nat) (w : World) (h : 50 < n0 ∨ 50 < n1) :
    Calls Try.prog 3 #[.slice A0 n0 cap0, .slice A1 n1 cap1] w fun e w' => e = .returned (.bool true) ∧ Fr [] w w' := by
  have HA := Fr.refl [] w
  refine enter (N := 143) Try.func3 (c := _) rfl (by kernel_rfl) (by kernel_rfl) (e := [(0, .slice A0 n0 cap0), (1, .slice A1 n1 cap1)]) (by kernel_rfl) ?_
  refine WE.seq ?_
  -- R0 law.go:119
  refine WE.region ?_
  refine WO.run 1 0 [(4, .bool false)] (by kernel_rfl) (by kernel_rfl) ?_
  refine WO.done (by kernel_rfl) ?_
  refine WQ.keep [0, 1, 4] (e' := [(0, .slice A0 n0 cap0), (1, .slice A1 n1 cap1), (4, .bool false)]) (by kernel_rfl) ?_
  refine WQ.thenN ?_
  refine WE.seq ?_
  -- R1 law.go:120
  refine WE.region ?_
  refine WO.call (SQ.E 0 (by kernel_rfl)) 19 (by kernel_rfl) (up_any _) ?_
  rintro _ w1 ⟨rfl, F2⟩
  refine ⟨_, rfl, trivial, ?_⟩
  have HA := Fr.step0 HA F2
  refine WO.run 1 1 [(5, .bool true)] (by kernel_rfl) (by kernel_rfl) ?_
  refine WO.done (by kernel_rfl) ?_
  refine WQ.keep [0, 1, 4, 5] (e' := [(0, .slice A0 n0 cap0), (1, .slice A1 n1 cap1), (4, .bool false), (5, .bool true)]) (by kernel_rfl) ?_
  refine WQ.thenN ?_
  refine WE.seq ?_
  -- R2 law.go:121
  refine WE.region ?_
  refine WO.call (SQ.E 0 (by kernel_rfl)) 20 (by kernel_rfl) (new_q _) ?_
  rintro _ w6 ⟨g3, rfl, HQ7, F5, le8⟩
  refine ⟨_, rfl, trivial, ?_⟩
  obtain ⟨Q4, hQ4⟩ : ∃ F, F = [g3] := ⟨_, rfl⟩
  rw [← hQ4] at HQ7
  have hg9 : ∀ y ∈ Q4, y ∈ [] ∨ (World.heap w1).size ≤ y := by rw [hQ4]; intro y hy; obtain rfl : y = g3 := (by simpa using hy); exact Or.inr le8
  have ge_HA_Q4 : ∀ y ∈ Q4, (World.heap w).size ≤ y := grow_ge hg9 (by simp) HA.size
  have HA := Fr.step0 HA F5
  refine WO.run 1 1 [(6, .pointer (some ⟨g3, 0, none⟩))] (by kernel_rfl) (by kernel_rfl) ?_
  refine WO.done (by kernel_rfl) ?_
  refine WQ.keep [0, 1, 4, 5, 6] (e' := [(0, .slice A0 n0 cap0), (1, .slice A1 n1 cap1), (4, .bool false), (5, .bool true), (6, .pointer (some ⟨g3, 0, none⟩))]) (by kernel_rfl) ?_
  refine WQ.thenN ?_
  refine WE.seq ?_
  -- R3 law.go:122
  refine WE.region ?_
  refine WO.call (SQ.E 0 (by kernel_rfl)) 21 (by kernel_rfl) (new_q _) ?_
  rintro _ w13 ⟨g10, rfl, HQ14, F12, le15⟩
  refine ⟨_, rfl, trivial, ?_⟩
  obtain ⟨Q11, hQ11⟩ : ∃ F, F = [g10] := ⟨_, rfl⟩
  rw [← hQ11] at HQ14
  have hg16 : ∀ y ∈ Q11, y ∈ [] ∨ (World.heap w6).size ≤ y := by rw [hQ11]; intro y hy; obtain rfl : y = g10 := (by simpa using hy); exact Or.inr le15
  have dj_Q11_Q4 : ∀ y ∈ Q11, y ∉ Q4 := grow_dj hg16 (by simp) HQ7.lt
  have ge_HA_Q11 : ∀ y ∈ Q11, (World.heap w).size ≤ y := grow_ge hg16 (by simp) HA.size
  have HQ7 := HQ7.keep F12 (fun _ _ => nin0 _)
  have HA := Fr.step0 HA F12
  refine WO.run 1 1 [(7, .pointer (some ⟨g10, 0, none⟩))] (by kernel_rfl) (by kernel_rfl) ?_
  refine WO.done (by kernel_rfl) ?_
  refine WQ.keep [0, 1, 4, 5, 6, 7] (e' := [(0, .slice A0 n0 cap0), (1, .slice A1 n1 cap1), (4, .bool false), (5, .bool true), (6, .pointer (some ⟨g3, 0, none⟩)), (7, .pointer (some ⟨g10, 0, none⟩))]) (by kernel_rfl) ?_
  refine WQ.thenN ?_
  refine WE.seq ?_
  refine WE.seq ?_
  -- R4 law.go:123
  refine WE.region ?_
  refine WO.run 9 0 [(30, .int .i64 (n0 : Int)), (29, .slice A0 n0 cap0), (28, .bool false), (27, .bool false), (26, .bool false), (25, .pointer (some ⟨g10, 0, none⟩)), (24, .bool false), (23, .bool false), (22, .pointer (some ⟨g3, 0, none⟩))] (by kernel_rfl) (by kernel_rfl) ?_
  refine WO.one (SQ.F 9 (by kernel_rfl)) 31 (.bool (decide (((n0 : Int) : Int) > (50 : Int)))) (by kernel_rfl) ?_
  refine WO.topP (((n0 : Int) : Int) > (50 : Int)) ?_ ?_
  · intro h17
    refine WO.run 6 10 [(37, .bool true), (36, undef), (35, undef), (34, undef), (33, .bool true), (32, .bool true)] (by kernel_rfl) (by kernel_rfl) ?_
    refine WO.done (by kernel_rfl) ?_
    refine WQ.keep [0, 1, 4, 5, 6, 7, 37] (e' := [(0, .slice A0 n0 cap0), (1, .slice A1 n1 cap1), (4, .bool false), (5, .bool true), (6, .pointer (some ⟨g3, 0, none⟩)), (7, .pointer (some ⟨g10, 0, none⟩)), (37, .bool true)]) (by kernel_rfl) ?_
    refine WQ.thenN ?_
    refine WE.condT (by kernel_rfl) ?_
    refine WE.seq ?_
    -- R5 law.go:124
    refine WE.region ?_
    refine WO.run 10 0 [(4, .bool true), (46, .bool true), (45, .bool true), (44, .pointer (some ⟨g10, 0, none⟩)), (43, .bool true), (42, .bool true), (41, .bool true), (40, .pointer (some ⟨g3, 0, none⟩)), (39, .bool true), (38, .bool true)] (by kernel_rfl) (by kernel_rfl) ?_
    refine WO.done (by kernel_rfl) ?_
    refine WQ.keep [0, 1, 4, 5, 6, 7, 37] (e' := [(0, .slice A0 n0 cap0), (1, .slice A1 n1 cap1), (4, .bool true), (5, .bool true), (6, .pointer (some ⟨g3, 0, none⟩)), (7, .pointer (some ⟨g10, 0, none⟩)), (37, .bool true)]) (by kernel_rfl) ?_
    refine WQ.thenN ?_
    refine WE.ret ?_
    refine WQ.thenR ?_
    refine WQ.ret (v := .bool true) (by kernel_rfl) ?_
    exact ⟨rfl, HA⟩
  · intro h17
    refine WO.run 4 10 [(35, .int .i64 (n1 : Int)), (34, .slice A1 n1 cap1), (33, .bool false), (32, .bool false)] (by kernel_rfl) (by kernel_rfl) ?_
    refine WO.one (SQ.F 14 (by kernel_rfl)) 36 (.bool (decide (((n1 : Int) : Int) > (50 : Int)))) (by kernel_rfl) ?_
    refine WO.topPT (((n1 : Int) : Int) > (50 : Int)) (by omega) ?_
    refine WO.run 1 15 [(37, .bool true)] (by kernel_rfl) (by kernel_rfl) ?_
    refine WO.done (by kernel_rfl) ?_
    refine WQ.keep [0, 1, 4, 5, 6, 7, 37] (e' := [(0, .slice A0 n0 cap0), (1, .slice A1 n1 cap1), (4, .bool false), (5, .bool true), (6, .pointer (some ⟨g3, 0, none⟩)), (7, .pointer (some ⟨g10, 0, none⟩)), (37, .bool true)]) (by kernel_rfl) ?_
    refine WQ.thenN ?_
    refine WE.condT (by kernel_rfl) ?_
    refine WE.seq ?_
    -- R5 law.go:124
    refine WE.region ?_
    refine WO.run 10 0 [(4, .bool true), (46, .bool true), (45, .bool true), (44, .pointer (some ⟨g10, 0, none⟩)), (43, .bool true), (42, .bool true), (41, .bool true), (40, .pointer (some ⟨g3, 0, none⟩)), (39, .bool true), (38, .bool true)] (by kernel_rfl) (by kernel_rfl) ?_
    refine WO.done (by kernel_rfl) ?_
    refine WQ.keep [0, 1, 4, 5, 6, 7, 37] (e' := [(0, .slice A0 n0 cap0), (1, .slice A1 n1 cap1), (4, .bool true), (5, .bool true), (6, .pointer (some ⟨g3, 0, none⟩)), (7, .pointer (some ⟨g10, 0, none⟩)), (37, .bool true)]) (by kernel_rfl) ?_
    refine WQ.thenN ?_
    refine WE.ret ?_
    refine WQ.thenR ?_
    refine WQ.ret (v := .bool true) (by kernel_rfl) ?_
    exact ⟨rfl, HA⟩

theorem rd_of {w : World} {A : Option Addr} {l : List Int} (h : Kd.C (Kd.int .i64) w A l.length l) : ∀ k, k < l.length → ∃ ad, A = some ad ∧ w.cell? (ad.add k) = some (.int .i64 (l.getD k 0)) := by
  intro k hk
  rcases Lists.C_ints h with rfl | ⟨ad, rfl, hc⟩
  · simp at hk
  · exact ⟨ad, rfl, hc k hk⟩
theorem once_any (A0 A1 : Option Addr) (c0 c1 : Nat) (l0 l1 : List Int) (w : World) (hI0 : ∀ x ∈ l0, -9223372036854775808 ≤ x ∧ x ≤ 9223372036854775807) (hI1 : ∀ x ∈ l1, -9223372036854775808 ≤ x ∧ x ≤ 9223372036854775807)
    (h0 : Kd.C (Kd.int .i64) w A0 l0.length l0) (h1 : Kd.C (Kd.int .i64) w A1 l1.length l1) :
    Calls Try.prog 3 #[.slice A0 l0.length c0, .slice A1 l1.length c1] w fun e w' => e = .returned (.bool true) ∧ Below w.heap.size w w' := by
  by_cases h : l0.length ≤ 50 ∧ l1.length ≤ 50
  · exact (once_some A0 A1 l0.length l1.length c0 c1 l0 l1 w rfl rfl h.1 h.2 hI0 hI1 (rd_of h0) (rd_of h1)).mono fun e w' ⟨h2, h3⟩ => ⟨h2, h3.below0⟩
  · exact (once_off A0 A1 l0.length l1.length c0 c1 w (by omega)).mono fun e w' ⟨h2, h3⟩ => ⟨h2, h3.below0⟩
end Go.Proofs.Ytjnjkgoofkgiiaa.Timer
