/- Layer 12's walks: the like. -/
import Derived.Test.YtjkaldnhfenbhaaDeficitP
set_option linter.unusedVariables false
set_option linter.unusedSimpArgs false
namespace Go.Proofs.Ytjkaldnhfenbhaa.Deficit
open Go Go.RowKit Go.Proofs.Ytjkaldnhfenbhaa Go.Proofs.Ytjkaldnhfenbhaa.Eng Go.Proofs.YtjkaldnhfenbhaaW.PrintWords
def rightQ (l : List Int) : Bool := !(l.any oddQ) && (decide (1 ≤ l.length) && decide (l.length ≤ 4))
theorem cells_lt {w : World} {a : Addr} {n : Nat} {V : Nat → Value} (h : ∀ k, k < n → w.cell? (a.add k) = some (V k)) (hn : 1 ≤ n) : a.block < w.heap.size := by
  have := World.block_lt_of_cell? w _ (h 0 hn)
  rwa [add_block] at this
set_option maxRecDepth 100000 in
set_option maxHeartbeats 400000 in
theorem ref_none (g bc cb : Nat) (ad_q ad_co : Addr) (qcap ccap : Nat) (qs co : List Int) (s : St) (w : World) (HB : Blk w g #[.slice (some ad_q) qs.length qcap, .slice (some ⟨bc, 0, none⟩) qs.length cb, .int .i64 (s.pos : Int), .bool s.vis] 112) (HC : RowB w bc 3 1 cb (s.cs.map cI)) (hgd : Good qs s) (hq : GoodQ qs) (hql : ∀ k, k < qs.length → w.cell? (ad_q.add k) = some (.int .i64 (g0 qs k))) (hcl : ∀ k, k < qs.length → w.cell? (ad_co.add k) = some (.int .i64 (g0 co k))) (haq : ad_q.block ≠ g) (hac : ad_co.block ≠ g) (hlen : co.length = qs.length) (hsome : co.any someC = false) :
    Calls Try.prog 69 #[.pointer (some ⟨g, 0, none⟩), .slice (some ad_co) qs.length ccap] w fun e w' => ∃ b' cb', e = .returned (.int .i64 (-1)) ∧ Blk w' g #[.slice (some ad_q) qs.length qcap, .slice (some ⟨b', 0, none⟩) qs.length cb', .int .i64 (s.pos : Int), .bool s.vis] 112 ∧ RowB w' b' 3 1 cb' ((List.replicate qs.length 0).map cI) ∧ Fr [g] w w' ∧ w.heap.size ≤ b' := by
  have hqn := hq.n4
  have hqn1 := hq.n1
  have HA := Fr.refl [g] w
  refine enter (N := 157) Try.func69 (c := _) rfl (by kernel_rfl) (by kernel_rfl) (e := [(0, .pointer (some ⟨g, 0, none⟩)), (1, .slice (some ad_co) qs.length ccap)]) (by kernel_rfl) ?_
  refine WE.seq ?_
  -- R0 ref.go:78
  refine WE.region ?_
  refine WO.run 1 0 [(4, .int .i64 0)] (by kernel_rfl) (by kernel_rfl) ?_
  refine WO.done (by kernel_rfl) ?_
  refine WQ.keep [0, 1, 4] (e' := [(0, .pointer (some ⟨g, 0, none⟩)), (1, .slice (some ad_co) qs.length ccap), (4, .int .i64 0)]) (by kernel_rfl) ?_
  refine WQ.thenN ?_
  refine WE.seq ?_
  -- R1 ref.go:79
  refine WE.region ?_
  refine WO.run 3 0 [(11, .pointer (some ⟨g, 0, none⟩)), (10, .pointer (some ⟨g, 0, none⟩)), (9, .pointer (some ⟨g, 0, none⟩))] (by kernel_rfl) (by kernel_rfl) ?_
  refine WO.ld (SQ.S 3 (by kernel_rfl)) 12 (.slice (some ad_q) qs.length qcap) (by kernel_rfl) (same (HB.at 0 (by kernel_rfl))) ?_
  refine WO.run 2 4 [(5, .int .i64 (qs.length : Int)), (13, .int .i64 (qs.length : Int))] (by kernel_rfl) (by kernel_rfl) ?_
  refine WO.done (by kernel_rfl) ?_
  refine WQ.keep [0, 1, 4, 5] (e' := [(0, .pointer (some ⟨g, 0, none⟩)), (1, .slice (some ad_co) qs.length ccap), (4, .int .i64 0), (5, .int .i64 (qs.length : Int))]) (by kernel_rfl) ?_
  refine WQ.thenN ?_
  refine WE.seq ?_
  -- R2 ref.go:80
  refine WE.region ?_
  refine WO.run 1 0 [(6, .bool false)] (by kernel_rfl) (by kernel_rfl) ?_
  refine WO.done (by kernel_rfl) ?_
  refine WQ.keep [0, 1, 4, 5, 6] (e' := [(0, .pointer (some ⟨g, 0, none⟩)), (1, .slice (some ad_co) qs.length ccap), (4, .int .i64 0), (5, .int .i64 (qs.length : Int)), (6, .bool false)]) (by kernel_rfl) ?_
  refine WQ.thenN ?_
  refine WE.seq ?_
  refine WE.seq ?_
  -- R3 ref.go:81
  refine WE.region ?_
  refine WO.run 1 0 [(7, .int .i64 0)] (by kernel_rfl) (by kernel_rfl) ?_
  refine WO.done (by kernel_rfl) ?_
  refine WQ.keep [0, 1, 4, 5, 6, 7] (e' := [(0, .pointer (some ⟨g, 0, none⟩)), (1, .slice (some ad_co) qs.length ccap), (4, .int .i64 0), (5, .int .i64 (qs.length : Int)), (6, .bool false), (7, .int .i64 0)]) (by kernel_rfl) ?_
  refine WQ.thenN ?_
  refine WE.block ?_
  refine WE.loop (α := Nat × Bool) (E := fun z => [(0, .pointer (some ⟨g, 0, none⟩)), (1, .slice (some ad_co) qs.length ccap), (4, .int .i64 0), (5, .int .i64 (qs.length : Int)), (6, .bool z.2), (7, .int .i64 (z.1 : Int))]) (I := fun z wr => z.1 ≤ qs.length ∧ z.2 = (co.take z.1).any someC ∧ w = wr) (m := fun z => qs.length - z.1) (0, false) [0, 1, 4, 5, 6, 7] (by kernel_rfl) ?_ ?_
  · exact ⟨Nat.zero_le _, rfl, rfl⟩
  rintro ⟨k, b⟩ wr ⟨hk, hb, hw⟩
  subst hw
  dsimp only at hk hb
  refine WE.seq ?_
  refine WE.seq ?_
  -- R4 ref.go:81
  refine WE.region ?_
  refine WO.run 2 0 [(15, .int .i64 (qs.length : Int)), (14, .int .i64 (k : Int))] (by kernel_rfl) (by kernel_rfl) ?_
  refine WO.one (SQ.F 2 (by kernel_rfl)) 16 (.bool (decide (((k : Int) : Int) < (qs.length : Int)))) (by kernel_rfl) ?_
  refine WO.topP (((k : Int) : Int) < (qs.length : Int)) ?_ ?_
  · intro h1
    refine WO.done (by kernel_rfl) ?_
    refine WQ.keep [0, 1, 4, 5, 6, 7, 16] (e' := [(0, .pointer (some ⟨g, 0, none⟩)), (1, .slice (some ad_co) qs.length ccap), (4, .int .i64 0), (5, .int .i64 (qs.length : Int)), (6, .bool b), (7, .int .i64 (k : Int)), (16, .bool true)]) (by kernel_rfl) ?_
    refine WQ.thenN ?_
    refine WE.condT (by kernel_rfl) ?_
    refine WE.skip ?_
    refine WQ.thenN ?_
    refine WE.seq ?_
    refine WE.block ?_
    -- R6 ref.go:82
    refine WE.region ?_
    refine WO.one (SQ.F 0 (by kernel_rfl)) 19 (.bool b) (by kernel_rfl) ?_
    refine WO.topB (b) ?_ ?_
    · intro h2
      refine WO.run 8 1 [(6, .bool true), (26, .bool true), (25, undef), (24, undef), (23, undef), (22, undef), (21, undef), (20, .bool true)] (by kernel_rfl) (by kernel_rfl) ?_
      refine WO.done (by kernel_rfl) ?_
      refine WQ.keep [0, 1, 4, 5, 6, 7, 16] (e' := [(0, .pointer (some ⟨g, 0, none⟩)), (1, .slice (some ad_co) qs.length ccap), (4, .int .i64 0), (5, .int .i64 (qs.length : Int)), (6, .bool true), (7, .int .i64 (k : Int)), (16, .bool true)]) (by kernel_rfl) ?_
      refine WQ.blkN ?_
      refine WQ.thenN ?_
      -- R5 ref.go:81
      refine WE.region ?_
      refine WO.run 1 0 [(17, .int .i64 (k : Int))] (by kernel_rfl) (by kernel_rfl) ?_
      refine WO.one (SQ.F 1 (by kernel_rfl)) 18 (.int .i64 (IntKind.i64.wrap ((k : Int) + 1))) (by kernel_rfl) ?_
      refine WO.top (v' := .int .i64 ((k + 1 : Nat) : Int)) (wrap_i64 (by omega) (by omega)) ?_
      refine WO.run 1 2 [(7, .int .i64 ((k + 1 : Nat) : Int))] (by kernel_rfl) (by kernel_rfl) ?_
      refine WO.done (by kernel_rfl) ?_
      refine WQ.keep [0, 1, 4, 5, 6, 7, 16] (e' := [(0, .pointer (some ⟨g, 0, none⟩)), (1, .slice (some ad_co) qs.length ccap), (4, .int .i64 0), (5, .int .i64 (qs.length : Int)), (6, .bool true), (7, .int .i64 ((k + 1 : Nat) : Int)), (16, .bool true)]) (by kernel_rfl) ?_
      refine WQ.round ?_
      intro a_ ha_
      refine ⟨(k + 1, true), ?_, ha_.keep [0, 1, 4, 5, 6, 7] (by kernel_rfl), ?_⟩
      · show qs.length - (k + 1) < qs.length - k; omega
      · exact ⟨by show k + 1 ≤ _; omega, by show _ = (co.take (k + 1)).any someC; rw [any_step _ _ _ (by omega), ← hb, h2]; simp [someC], rfl⟩
    · intro h2
      refine WO.run 3 1 [(22, .int .i64 (k : Int)), (21, .slice (some ad_co) qs.length ccap), (20, .bool false)] (by kernel_rfl) (by kernel_rfl) ?_
      refine WO.ix (SQ.F 4 (by kernel_rfl)) 23 (ad_co.add k) ad_co qs.length 1 (k : Int) (by kernel_rfl) (by omega) (by omega) (by congr 1 <;> omega) ?_
      refine WO.ld (SQ.S 5 (by kernel_rfl)) 24 (.int .i64 (g0 co k)) (by kernel_rfl) (same (hcl k (by omega))) ?_
      refine WO.one (SQ.F 6 (by kernel_rfl)) 25 (.bool (decide ((g0 co k : Int) > 0))) (by kernel_rfl) ?_
      refine WO.topP ((g0 co k : Int) > 0) ?_ ?_
      · intro h3
        refine WO.run 2 7 [(6, .bool true), (26, .bool true)] (by kernel_rfl) (by kernel_rfl) ?_
        refine WO.done (by kernel_rfl) ?_
        refine WQ.keep [0, 1, 4, 5, 6, 7, 16] (e' := [(0, .pointer (some ⟨g, 0, none⟩)), (1, .slice (some ad_co) qs.length ccap), (4, .int .i64 0), (5, .int .i64 (qs.length : Int)), (6, .bool true), (7, .int .i64 (k : Int)), (16, .bool true)]) (by kernel_rfl) ?_
        refine WQ.blkN ?_
        refine WQ.thenN ?_
        -- R5 ref.go:81
        refine WE.region ?_
        refine WO.run 1 0 [(17, .int .i64 (k : Int))] (by kernel_rfl) (by kernel_rfl) ?_
        refine WO.one (SQ.F 1 (by kernel_rfl)) 18 (.int .i64 (IntKind.i64.wrap ((k : Int) + 1))) (by kernel_rfl) ?_
        refine WO.top (v' := .int .i64 ((k + 1 : Nat) : Int)) (wrap_i64 (by omega) (by omega)) ?_
        refine WO.run 1 2 [(7, .int .i64 ((k + 1 : Nat) : Int))] (by kernel_rfl) (by kernel_rfl) ?_
        refine WO.done (by kernel_rfl) ?_
        refine WQ.keep [0, 1, 4, 5, 6, 7, 16] (e' := [(0, .pointer (some ⟨g, 0, none⟩)), (1, .slice (some ad_co) qs.length ccap), (4, .int .i64 0), (5, .int .i64 (qs.length : Int)), (6, .bool true), (7, .int .i64 ((k + 1 : Nat) : Int)), (16, .bool true)]) (by kernel_rfl) ?_
        refine WQ.round ?_
        intro a_ ha_
        refine ⟨(k + 1, true), ?_, ha_.keep [0, 1, 4, 5, 6, 7] (by kernel_rfl), ?_⟩
        · show qs.length - (k + 1) < qs.length - k; omega
        · exact ⟨by show k + 1 ≤ _; omega, by show _ = (co.take (k + 1)).any someC; rw [any_step _ _ _ (by omega), ← hb, h2]; simp [someC, h3], rfl⟩
      · intro h3
        refine WO.run 2 7 [(6, .bool false), (26, .bool false)] (by kernel_rfl) (by kernel_rfl) ?_
        refine WO.done (by kernel_rfl) ?_
        refine WQ.keep [0, 1, 4, 5, 6, 7, 16] (e' := [(0, .pointer (some ⟨g, 0, none⟩)), (1, .slice (some ad_co) qs.length ccap), (4, .int .i64 0), (5, .int .i64 (qs.length : Int)), (6, .bool false), (7, .int .i64 (k : Int)), (16, .bool true)]) (by kernel_rfl) ?_
        refine WQ.blkN ?_
        refine WQ.thenN ?_
        -- R5 ref.go:81
        refine WE.region ?_
        refine WO.run 1 0 [(17, .int .i64 (k : Int))] (by kernel_rfl) (by kernel_rfl) ?_
        refine WO.one (SQ.F 1 (by kernel_rfl)) 18 (.int .i64 (IntKind.i64.wrap ((k : Int) + 1))) (by kernel_rfl) ?_
        refine WO.top (v' := .int .i64 ((k + 1 : Nat) : Int)) (wrap_i64 (by omega) (by omega)) ?_
        refine WO.run 1 2 [(7, .int .i64 ((k + 1 : Nat) : Int))] (by kernel_rfl) (by kernel_rfl) ?_
        refine WO.done (by kernel_rfl) ?_
        refine WQ.keep [0, 1, 4, 5, 6, 7, 16] (e' := [(0, .pointer (some ⟨g, 0, none⟩)), (1, .slice (some ad_co) qs.length ccap), (4, .int .i64 0), (5, .int .i64 (qs.length : Int)), (6, .bool false), (7, .int .i64 ((k + 1 : Nat) : Int)), (16, .bool true)]) (by kernel_rfl) ?_
        refine WQ.round ?_
        intro a_ ha_
        refine ⟨(k + 1, false), ?_, ha_.keep [0, 1, 4, 5, 6, 7] (by kernel_rfl), ?_⟩
        · show qs.length - (k + 1) < qs.length - k; omega
        · exact ⟨by show k + 1 ≤ _; omega, by show _ = (co.take (k + 1)).any someC; rw [any_step _ _ _ (by omega), ← hb, h2]; simp [someC, h3], rfl⟩
  · intro h1
    refine WO.done (by kernel_rfl) ?_
    refine WQ.keep [0, 1, 4, 5, 6, 7, 16] (e' := [(0, .pointer (some ⟨g, 0, none⟩)), (1, .slice (some ad_co) qs.length ccap), (4, .int .i64 0), (5, .int .i64 (qs.length : Int)), (6, .bool b), (7, .int .i64 (k : Int)), (16, .bool false)]) (by kernel_rfl) ?_
    refine WQ.thenN ?_
    refine WE.condF (by kernel_rfl) ?_
    refine WE.exit ?_
    refine WQ.thenE ?_
    refine WQ.thenE ?_
    refine WQ.blkE ?_
    refine WQ.thenN ?_
    refine WE.seq ?_
    refine WE.seq ?_
    have hbv : b = co.any someC := by rw [hb, List.take_of_length_le (by omega)]
    -- R7 ref.go:84
    refine WE.region ?_
    refine WO.one (SQ.F 0 (by kernel_rfl)) 27 (.bool b) (by kernel_rfl) ?_
    refine WO.top (v' := .bool false) (congrArg Value.bool (by exact hbv.trans hsome)) ?_
    refine WO.run 1 1 [(28, .bool true)] (by kernel_rfl) (by kernel_rfl) ?_
    refine WO.done (by kernel_rfl) ?_
    refine WQ.keep [0, 1, 4, 5, 6, 7, 16, 28] (e' := [(0, .pointer (some ⟨g, 0, none⟩)), (1, .slice (some ad_co) qs.length ccap), (4, .int .i64 0), (5, .int .i64 (qs.length : Int)), (6, .bool b), (7, .int .i64 (k : Int)), (16, .bool false), (28, .bool true)]) (by kernel_rfl) ?_
    refine WQ.thenN ?_
    refine WE.condT (by kernel_rfl) ?_
    refine WE.seq ?_
    -- R8 ref.go:85
    refine WE.region ?_
    refine WO.run 2 0 [(30, .int .i64 (qs.length : Int)), (29, .pointer (some ⟨g, 0, none⟩))] (by kernel_rfl) (by kernel_rfl) ?_
    refine WO.mk (SQ.E 2 (by kernel_rfl)) 31 qs.length (.int .i64 0) (by kernel_rfl) (make_int qs.length (by omega)) rfl (by omega) (fun _ _ => trivial) ?_
    intro g4 w5 HR7 F6 le8 _
    have ne_g_g4 : g ≠ g4 := Nat.ne_of_lt (Nat.lt_of_lt_of_le HB.lt le8)
    have ne_ad_q_block_g4 : ad_q.block ≠ g4 := Nat.ne_of_lt (Nat.lt_of_lt_of_le (cells_lt hql (by omega)) le8)
    have ne_ad_co_block_g4 : ad_co.block ≠ g4 := Nat.ne_of_lt (Nat.lt_of_lt_of_le (cells_lt hcl (by omega)) le8)
    have ge_HA_g4 := Nat.le_trans HA.size le8
    have HB := Blk.keep HB F6 (nin0 _)
    have hql := fun k hk => Fr.cellN F6 (hql k hk) (nin0 _)
    have hcl := fun k hk => Fr.cellN F6 (hcl k hk) (nin0 _)
    have HA := Fr.step0 HA F6
    have HR7 : RowB w5 g4 3 1 qs.length ((List.replicate qs.length 0).map cI) := by rw [List.map_replicate]; exact HR7
    refine WO.run 2 3 [(33, .pointer (some ⟨g, 1, none⟩)), (32, .pointer (some ⟨g, 0, none⟩))] (by kernel_rfl) (by kernel_rfl) ?_
    refine WO.st (SQ.E 5 (by kernel_rfl)) g 1 [.slice (some ⟨g4, 0, none⟩) qs.length qs.length] #[.slice (some ad_q) qs.length qcap, .slice (some ⟨g4, 0, none⟩) qs.length qs.length, .int .i64 (s.pos : Int), .bool s.vis] (by kernel_rfl) HB (by kernel_rfl) (by kernel_rfl) (fun _ _ => trivial) ?_
    intro w9 HB11 F10 _
    have HR7 := RowB.keep HR7 F10 (ninC (Ne.symm ne_g_g4) (nin0 _))
    have hql := fun k hk => Fr.cellN F10 (hql k hk) (ninC haq (nin0 _))
    have hcl := fun k hk => Fr.cellN F10 (hcl k hk) (ninC hac (nin0 _))
    have HA := Fr.step HA F10 (inSL (by simp) inS0)
    refine WO.done (by kernel_rfl) ?_
    refine WQ.keep [0, 1, 4, 5, 6, 7, 16, 28] (e' := [(0, .pointer (some ⟨g, 0, none⟩)), (1, .slice (some ad_co) qs.length ccap), (4, .int .i64 0), (5, .int .i64 (qs.length : Int)), (6, .bool b), (7, .int .i64 (k : Int)), (16, .bool false), (28, .bool true)]) (by kernel_rfl) ?_
    refine WQ.thenN ?_
    refine WE.seq ?_
    -- R9 ref.go:86
    refine WE.region ?_
    refine WO.run 1 0 [(4, .int .i64 (-1))] (by kernel_rfl) (by kernel_rfl) ?_
    refine WO.done (by kernel_rfl) ?_
    refine WQ.keep [0, 1, 4, 5, 6, 7, 16, 28] (e' := [(0, .pointer (some ⟨g, 0, none⟩)), (1, .slice (some ad_co) qs.length ccap), (4, .int .i64 (-1)), (5, .int .i64 (qs.length : Int)), (6, .bool b), (7, .int .i64 (k : Int)), (16, .bool false), (28, .bool true)]) (by kernel_rfl) ?_
    refine WQ.thenN ?_
    refine WE.ret ?_
    refine WQ.thenR ?_
    refine WQ.ret (v := .int .i64 (-1)) (by kernel_rfl) ?_
    exact ⟨_, _, rfl, HB11, HR7, HA, ge_HA_g4⟩

set_option maxRecDepth 100000 in
set_option maxHeartbeats 2000000 in
theorem ref_run (g bc cb : Nat) (ad_q ad_co : Addr) (qcap ccap : Nat) (qs co : List Int) (s : St) (w : World) (HB : Blk w g #[.slice (some ad_q) qs.length qcap, .slice (some ⟨bc, 0, none⟩) qs.length cb, .int .i64 (s.pos : Int), .bool s.vis] 112) (HC : RowB w bc 3 1 cb (s.cs.map cI)) (hgd : Good qs s) (hq : GoodQ qs) (hql : ∀ k, k < qs.length → w.cell? (ad_q.add k) = some (.int .i64 (g0 qs k))) (hcl : ∀ k, k < qs.length → w.cell? (ad_co.add k) = some (.int .i64 (g0 co k))) (haq : ad_q.block ≠ g) (hac : ad_co.block ≠ g) (hlen : co.length = qs.length) (hc : GoodC qs co) (hsome : co.any someC = true) (f : Nat) (r : St × Nat) (hrun : run qs co f s = some r) :
    Calls Try.prog 69 #[.pointer (some ⟨g, 0, none⟩), .slice (some ad_co) qs.length ccap] w fun e w' => ∃ b' cb', e = .returned (.int .i64 (r.2 : Int)) ∧ Blk w' g #[.slice (some ad_q) qs.length qcap, .slice (some ⟨b', 0, none⟩) qs.length cb', .int .i64 (r.1.pos : Int), .bool r.1.vis] 112 ∧ RowB w' b' 3 1 cb' (r.1.cs.map cI) ∧ Fr [g] w w' ∧ w.heap.size ≤ b' := by
  have hqn := hq.n4
  have hqn1 := hq.n1
  have HA := Fr.refl [g] w
  refine enter (N := 157) Try.func69 (c := _) rfl (by kernel_rfl) (by kernel_rfl) (e := [(0, .pointer (some ⟨g, 0, none⟩)), (1, .slice (some ad_co) qs.length ccap)]) (by kernel_rfl) ?_
  refine WE.seq ?_
  -- R0 ref.go:78
  refine WE.region ?_
  refine WO.run 1 0 [(4, .int .i64 0)] (by kernel_rfl) (by kernel_rfl) ?_
  refine WO.done (by kernel_rfl) ?_
  refine WQ.keep [0, 1, 4] (e' := [(0, .pointer (some ⟨g, 0, none⟩)), (1, .slice (some ad_co) qs.length ccap), (4, .int .i64 0)]) (by kernel_rfl) ?_
  refine WQ.thenN ?_
  refine WE.seq ?_
  -- R1 ref.go:79
  refine WE.region ?_
  refine WO.run 3 0 [(11, .pointer (some ⟨g, 0, none⟩)), (10, .pointer (some ⟨g, 0, none⟩)), (9, .pointer (some ⟨g, 0, none⟩))] (by kernel_rfl) (by kernel_rfl) ?_
  refine WO.ld (SQ.S 3 (by kernel_rfl)) 12 (.slice (some ad_q) qs.length qcap) (by kernel_rfl) (same (HB.at 0 (by kernel_rfl))) ?_
  refine WO.run 2 4 [(5, .int .i64 (qs.length : Int)), (13, .int .i64 (qs.length : Int))] (by kernel_rfl) (by kernel_rfl) ?_
  refine WO.done (by kernel_rfl) ?_
  refine WQ.keep [0, 1, 4, 5] (e' := [(0, .pointer (some ⟨g, 0, none⟩)), (1, .slice (some ad_co) qs.length ccap), (4, .int .i64 0), (5, .int .i64 (qs.length : Int))]) (by kernel_rfl) ?_
  refine WQ.thenN ?_
  refine WE.seq ?_
  -- R2 ref.go:80
  refine WE.region ?_
  refine WO.run 1 0 [(6, .bool false)] (by kernel_rfl) (by kernel_rfl) ?_
  refine WO.done (by kernel_rfl) ?_
  refine WQ.keep [0, 1, 4, 5, 6] (e' := [(0, .pointer (some ⟨g, 0, none⟩)), (1, .slice (some ad_co) qs.length ccap), (4, .int .i64 0), (5, .int .i64 (qs.length : Int)), (6, .bool false)]) (by kernel_rfl) ?_
  refine WQ.thenN ?_
  refine WE.seq ?_
  refine WE.seq ?_
  -- R3 ref.go:81
  refine WE.region ?_
  refine WO.run 1 0 [(7, .int .i64 0)] (by kernel_rfl) (by kernel_rfl) ?_
  refine WO.done (by kernel_rfl) ?_
  refine WQ.keep [0, 1, 4, 5, 6, 7] (e' := [(0, .pointer (some ⟨g, 0, none⟩)), (1, .slice (some ad_co) qs.length ccap), (4, .int .i64 0), (5, .int .i64 (qs.length : Int)), (6, .bool false), (7, .int .i64 0)]) (by kernel_rfl) ?_
  refine WQ.thenN ?_
  refine WE.block ?_
  refine WE.loop (α := Nat × Bool) (E := fun z => [(0, .pointer (some ⟨g, 0, none⟩)), (1, .slice (some ad_co) qs.length ccap), (4, .int .i64 0), (5, .int .i64 (qs.length : Int)), (6, .bool z.2), (7, .int .i64 (z.1 : Int))]) (I := fun z wr => z.1 ≤ qs.length ∧ z.2 = (co.take z.1).any someC ∧ w = wr) (m := fun z => qs.length - z.1) (0, false) [0, 1, 4, 5, 6, 7] (by kernel_rfl) ?_ ?_
  · exact ⟨Nat.zero_le _, rfl, rfl⟩
  rintro ⟨k, b⟩ wr ⟨hk, hb, hw⟩
  subst hw
  dsimp only at hk hb
  refine WE.seq ?_
  refine WE.seq ?_
  -- R4 ref.go:81
  refine WE.region ?_
  refine WO.run 2 0 [(15, .int .i64 (qs.length : Int)), (14, .int .i64 (k : Int))] (by kernel_rfl) (by kernel_rfl) ?_
  refine WO.one (SQ.F 2 (by kernel_rfl)) 16 (.bool (decide (((k : Int) : Int) < (qs.length : Int)))) (by kernel_rfl) ?_
  refine WO.topP (((k : Int) : Int) < (qs.length : Int)) ?_ ?_
  · intro h1
    refine WO.done (by kernel_rfl) ?_
    refine WQ.keep [0, 1, 4, 5, 6, 7, 16] (e' := [(0, .pointer (some ⟨g, 0, none⟩)), (1, .slice (some ad_co) qs.length ccap), (4, .int .i64 0), (5, .int .i64 (qs.length : Int)), (6, .bool b), (7, .int .i64 (k : Int)), (16, .bool true)]) (by kernel_rfl) ?_
    refine WQ.thenN ?_
    refine WE.condT (by kernel_rfl) ?_
    refine WE.skip ?_
    refine WQ.thenN ?_
    refine WE.seq ?_
    refine WE.block ?_
    -- R6 ref.go:82
    refine WE.region ?_
    refine WO.one (SQ.F 0 (by kernel_rfl)) 19 (.bool b) (by kernel_rfl) ?_
    refine WO.topB (b) ?_ ?_
    · intro h2
      refine WO.run 8 1 [(6, .bool true), (26, .bool true), (25, undef), (24, undef), (23, undef), (22, undef), (21, undef), (20, .bool true)] (by kernel_rfl) (by kernel_rfl) ?_
      refine WO.done (by kernel_rfl) ?_
      refine WQ.keep [0, 1, 4, 5, 6, 7, 16] (e' := [(0, .pointer (some ⟨g, 0, none⟩)), (1, .slice (some ad_co) qs.length ccap), (4, .int .i64 0), (5, .int .i64 (qs.length : Int)), (6, .bool true), (7, .int .i64 (k : Int)), (16, .bool true)]) (by kernel_rfl) ?_
      refine WQ.blkN ?_
      refine WQ.thenN ?_
      -- R5 ref.go:81
      refine WE.region ?_
      refine WO.run 1 0 [(17, .int .i64 (k : Int))] (by kernel_rfl) (by kernel_rfl) ?_
      refine WO.one (SQ.F 1 (by kernel_rfl)) 18 (.int .i64 (IntKind.i64.wrap ((k : Int) + 1))) (by kernel_rfl) ?_
      refine WO.top (v' := .int .i64 ((k + 1 : Nat) : Int)) (wrap_i64 (by omega) (by omega)) ?_
      refine WO.run 1 2 [(7, .int .i64 ((k + 1 : Nat) : Int))] (by kernel_rfl) (by kernel_rfl) ?_
      refine WO.done (by kernel_rfl) ?_
      refine WQ.keep [0, 1, 4, 5, 6, 7, 16] (e' := [(0, .pointer (some ⟨g, 0, none⟩)), (1, .slice (some ad_co) qs.length ccap), (4, .int .i64 0), (5, .int .i64 (qs.length : Int)), (6, .bool true), (7, .int .i64 ((k + 1 : Nat) : Int)), (16, .bool true)]) (by kernel_rfl) ?_
      refine WQ.round ?_
      intro a_ ha_
      refine ⟨(k + 1, true), ?_, ha_.keep [0, 1, 4, 5, 6, 7] (by kernel_rfl), ?_⟩
      · show qs.length - (k + 1) < qs.length - k; omega
      · exact ⟨by show k + 1 ≤ _; omega, by show _ = (co.take (k + 1)).any someC; rw [any_step _ _ _ (by omega), ← hb, h2]; simp [someC], rfl⟩
    · intro h2
      refine WO.run 3 1 [(22, .int .i64 (k : Int)), (21, .slice (some ad_co) qs.length ccap), (20, .bool false)] (by kernel_rfl) (by kernel_rfl) ?_
      refine WO.ix (SQ.F 4 (by kernel_rfl)) 23 (ad_co.add k) ad_co qs.length 1 (k : Int) (by kernel_rfl) (by omega) (by omega) (by congr 1 <;> omega) ?_
      refine WO.ld (SQ.S 5 (by kernel_rfl)) 24 (.int .i64 (g0 co k)) (by kernel_rfl) (same (hcl k (by omega))) ?_
      refine WO.one (SQ.F 6 (by kernel_rfl)) 25 (.bool (decide ((g0 co k : Int) > 0))) (by kernel_rfl) ?_
      refine WO.topP ((g0 co k : Int) > 0) ?_ ?_
      · intro h3
        refine WO.run 2 7 [(6, .bool true), (26, .bool true)] (by kernel_rfl) (by kernel_rfl) ?_
        refine WO.done (by kernel_rfl) ?_
        refine WQ.keep [0, 1, 4, 5, 6, 7, 16] (e' := [(0, .pointer (some ⟨g, 0, none⟩)), (1, .slice (some ad_co) qs.length ccap), (4, .int .i64 0), (5, .int .i64 (qs.length : Int)), (6, .bool true), (7, .int .i64 (k : Int)), (16, .bool true)]) (by kernel_rfl) ?_
        refine WQ.blkN ?_
        refine WQ.thenN ?_
        -- R5 ref.go:81
        refine WE.region ?_
        refine WO.run 1 0 [(17, .int .i64 (k : Int))] (by kernel_rfl) (by kernel_rfl) ?_
        refine WO.one (SQ.F 1 (by kernel_rfl)) 18 (.int .i64 (IntKind.i64.wrap ((k : Int) + 1))) (by kernel_rfl) ?_
        refine WO.top (v' := .int .i64 ((k + 1 : Nat) : Int)) (wrap_i64 (by omega) (by omega)) ?_
        refine WO.run 1 2 [(7, .int .i64 ((k + 1 : Nat) : Int))] (by kernel_rfl) (by kernel_rfl) ?_
        refine WO.done (by kernel_rfl) ?_
        refine WQ.keep [0, 1, 4, 5, 6, 7, 16] (e' := [(0, .pointer (some ⟨g, 0, none⟩)), (1, .slice (some ad_co) qs.length ccap), (4, .int .i64 0), (5, .int .i64 (qs.length : Int)), (6, .bool true), (7, .int .i64 ((k + 1 : Nat) : Int)), (16, .bool true)]) (by kernel_rfl) ?_
        refine WQ.round ?_
        intro a_ ha_
        refine ⟨(k + 1, true), ?_, ha_.keep [0, 1, 4, 5, 6, 7] (by kernel_rfl), ?_⟩
        · show qs.length - (k + 1) < qs.length - k; omega
        · exact ⟨by show k + 1 ≤ _; omega, by show _ = (co.take (k + 1)).any someC; rw [any_step _ _ _ (by omega), ← hb, h2]; simp [someC, h3], rfl⟩
      · intro h3
        refine WO.run 2 7 [(6, .bool false), (26, .bool false)] (by kernel_rfl) (by kernel_rfl) ?_
        refine WO.done (by kernel_rfl) ?_
        refine WQ.keep [0, 1, 4, 5, 6, 7, 16] (e' := [(0, .pointer (some ⟨g, 0, none⟩)), (1, .slice (some ad_co) qs.length ccap), (4, .int .i64 0), (5, .int .i64 (qs.length : Int)), (6, .bool false), (7, .int .i64 (k : Int)), (16, .bool true)]) (by kernel_rfl) ?_
        refine WQ.blkN ?_
        refine WQ.thenN ?_
        -- R5 ref.go:81
        refine WE.region ?_
        refine WO.run 1 0 [(17, .int .i64 (k : Int))] (by kernel_rfl) (by kernel_rfl) ?_
        refine WO.one (SQ.F 1 (by kernel_rfl)) 18 (.int .i64 (IntKind.i64.wrap ((k : Int) + 1))) (by kernel_rfl) ?_
        refine WO.top (v' := .int .i64 ((k + 1 : Nat) : Int)) (wrap_i64 (by omega) (by omega)) ?_
        refine WO.run 1 2 [(7, .int .i64 ((k + 1 : Nat) : Int))] (by kernel_rfl) (by kernel_rfl) ?_
        refine WO.done (by kernel_rfl) ?_
        refine WQ.keep [0, 1, 4, 5, 6, 7, 16] (e' := [(0, .pointer (some ⟨g, 0, none⟩)), (1, .slice (some ad_co) qs.length ccap), (4, .int .i64 0), (5, .int .i64 (qs.length : Int)), (6, .bool false), (7, .int .i64 ((k + 1 : Nat) : Int)), (16, .bool true)]) (by kernel_rfl) ?_
        refine WQ.round ?_
        intro a_ ha_
        refine ⟨(k + 1, false), ?_, ha_.keep [0, 1, 4, 5, 6, 7] (by kernel_rfl), ?_⟩
        · show qs.length - (k + 1) < qs.length - k; omega
        · exact ⟨by show k + 1 ≤ _; omega, by show _ = (co.take (k + 1)).any someC; rw [any_step _ _ _ (by omega), ← hb, h2]; simp [someC, h3], rfl⟩
  · intro h1
    refine WO.done (by kernel_rfl) ?_
    refine WQ.keep [0, 1, 4, 5, 6, 7, 16] (e' := [(0, .pointer (some ⟨g, 0, none⟩)), (1, .slice (some ad_co) qs.length ccap), (4, .int .i64 0), (5, .int .i64 (qs.length : Int)), (6, .bool b), (7, .int .i64 (k : Int)), (16, .bool false)]) (by kernel_rfl) ?_
    refine WQ.thenN ?_
    refine WE.condF (by kernel_rfl) ?_
    refine WE.exit ?_
    refine WQ.thenE ?_
    refine WQ.thenE ?_
    refine WQ.blkE ?_
    refine WQ.thenN ?_
    refine WE.seq ?_
    refine WE.seq ?_
    have hbv : b = co.any someC := by rw [hb, List.take_of_length_le (by omega)]
    -- R7 ref.go:84
    refine WE.region ?_
    refine WO.one (SQ.F 0 (by kernel_rfl)) 27 (.bool b) (by kernel_rfl) ?_
    refine WO.top (v' := .bool true) (congrArg Value.bool (by exact hbv.trans hsome)) ?_
    refine WO.run 1 1 [(28, .bool false)] (by kernel_rfl) (by kernel_rfl) ?_
    refine WO.done (by kernel_rfl) ?_
    refine WQ.keep [0, 1, 4, 5, 6, 7, 16, 28] (e' := [(0, .pointer (some ⟨g, 0, none⟩)), (1, .slice (some ad_co) qs.length ccap), (4, .int .i64 0), (5, .int .i64 (qs.length : Int)), (6, .bool b), (7, .int .i64 (k : Int)), (16, .bool false), (28, .bool false)]) (by kernel_rfl) ?_
    refine WQ.thenN ?_
    refine WE.condF (by kernel_rfl) ?_
    refine WE.skip ?_
    refine WQ.thenN ?_
    refine WE.block ?_
    refine WE.loop (α := Nat × St × Nat × Nat) (E := fun z => [(0, .pointer (some ⟨g, 0, none⟩)), (1, .slice (some ad_co) qs.length ccap), (5, .int .i64 (qs.length : Int))]) (I := fun z wr => run qs co z.1 z.2.1 = some r ∧ Good qs z.2.1 ∧ Blk wr g #[.slice (some ad_q) qs.length qcap, .slice (some ⟨z.2.2.1, 0, none⟩) qs.length z.2.2.2, .int .i64 (z.2.1.pos : Int), .bool z.2.1.vis] 112 ∧ RowB wr z.2.2.1 3 1 z.2.2.2 (z.2.1.cs.map cI) ∧ (∀ k, k < qs.length → wr.cell? (ad_q.add k) = some (.int .i64 (g0 qs k))) ∧ (∀ k, k < qs.length → wr.cell? (ad_co.add k) = some (.int .i64 (g0 co k))) ∧ Fr [g] w wr) (m := fun z => z.1) (f, s, bc, cb) [0, 1, 5] (by kernel_rfl) ?_ ?_
    · exact ⟨hrun, hgd, HB, HC, hql, hcl, HA⟩
    rintro ⟨f, s, bc, cb⟩ wr ⟨hrun, hgd, HB, HC, hql, hcl, HA⟩
    obtain ⟨f, rfl⟩ : ∃ f', f = f' + 1 := by cases f with | zero => cases hrun | succ f => exact ⟨f, rfl⟩
    dsimp only at hrun hgd HB HC
    rw [run] at hrun
    have hgl := hgd.len
    have hp := hgd.pos
    have hb1 := vst_bd hq hgd s.pos hgd.pos
    have hb2 := hq.q s.pos hgd.pos
    have hb3 := hc.c s.pos hgd.pos
    have hb4 := hgd.lo s.pos hgd.pos
    have hb5 := hgd.hi s.pos hgd.pos
    refine WE.block ?_
    refine WE.seq ?_
    -- R10 ref.go:89
    refine WE.region ?_
    refine WO.bx (SQ.E 0 (by kernel_rfl)) 34 #[] 3 (fun g => .slice (some ⟨g, 0, none⟩) 0 0) (by kernel_rfl) (fun _ _ => trivial) ?_
    intro g4 w5 HB7 F6 le8 _
    have ne_g_g4 : g ≠ g4 := Nat.ne_of_lt (Nat.lt_of_lt_of_le HB.lt le8)
    have ne_bc_g4 : bc ≠ g4 := Nat.ne_of_lt (Nat.lt_of_lt_of_le HC.lt le8)
    have ne_ad_q_block_g4 : ad_q.block ≠ g4 := Nat.ne_of_lt (Nat.lt_of_lt_of_le (cells_lt hql (by omega)) le8)
    have ne_ad_co_block_g4 : ad_co.block ≠ g4 := Nat.ne_of_lt (Nat.lt_of_lt_of_le (cells_lt hcl (by omega)) le8)
    have ge_HA_g4 := Nat.le_trans HA.size le8
    have HB := Blk.keep HB F6 (nin0 _)
    have HC := RowB.keep HC F6 (nin0 _)
    have hql := fun k hk => Fr.cellN F6 (hql k hk) (nin0 _)
    have hcl := fun k hk => Fr.cellN F6 (hcl k hk) (nin0 _)
    have HA := Fr.step0 HA F6
    refine WO.run 3 1 [(37, .pointer (some ⟨g, 1, none⟩)), (36, .pointer (some ⟨g, 0, none⟩)), (35, .pointer (some ⟨g, 0, none⟩))] (by kernel_rfl) (by kernel_rfl) ?_
    refine WO.ld (SQ.S 4 (by kernel_rfl)) 38 (.slice (some ⟨bc, 0, none⟩) qs.length cb) (by kernel_rfl) (same (HB.at 1 (by kernel_rfl))) ?_
    have HR14 := RowB.of_blk (n := 0) HB7 (List.map cI []) rfl rfl (cI_len _) (cI_one _) (by omega)
    refine WO.appRow (SQ.E 5 (by kernel_rfl)) 39 (n := 0) (m := qs.length) (ys := List.map cI s.cs) et_i HR14 ((List.length_map _).trans ((rfl : List.length ([] : List Int) = 0))) (by rw [List.length_map] <;> first | rfl | omega | (simp <;> omega)) (by have := HC.src; rw [List.length_map, hgd.len] at this; exact this) (cI_len _) (cI_one _) (by kernel_rfl) (by omega) (by omega) (fun _ _ => trivial) ?_
    intro b9 cap10 w11 HR12 F13 hb15
    have ne_g_b9 : g ≠ b9 := hb15.elim (fun h => h ▸ ne_g_g4) (fun h => Nat.ne_of_lt (Nat.lt_of_lt_of_le HB.lt h))
    have ne_bc_b9 : bc ≠ b9 := hb15.elim (fun h => h ▸ ne_bc_g4) (fun h => Nat.ne_of_lt (Nat.lt_of_lt_of_le HC.lt h))
    have ne_ad_q_block_b9 : ad_q.block ≠ b9 := hb15.elim (fun h => h ▸ ne_ad_q_block_g4) (fun h => Nat.ne_of_lt (Nat.lt_of_lt_of_le (cells_lt hql (by omega)) h))
    have ne_ad_co_block_b9 : ad_co.block ≠ b9 := hb15.elim (fun h => h ▸ ne_ad_co_block_g4) (fun h => Nat.ne_of_lt (Nat.lt_of_lt_of_le (cells_lt hcl (by omega)) h))
    have in_HA_b9 : b9 ∈ [g] ∨ (World.heap w).size ≤ b9 := hb15.elim (fun h => Or.inr (h ▸ ge_HA_g4)) (fun h => Or.inr (Nat.le_trans HA.size h))
    have HB := Blk.keep HB F13 (ninC ne_g_g4 (nin0 _))
    have HC := RowB.keep HC F13 (ninC ne_bc_g4 (nin0 _))
    have hql := fun k hk => Fr.cellN F13 (hql k hk) (ninC ne_ad_q_block_g4 (nin0 _))
    have hcl := fun k hk => Fr.cellN F13 (hcl k hk) (ninC ne_ad_co_block_g4 (nin0 _))
    have HA := Fr.step HA F13 (inSR ge_HA_g4 inS0)
    have HR12 : RowB w11 b9 3 1 cap10 ((([] : List Int) ++ s.cs).map cI) := by rw [List.map_append]; exact HR12
    refine WO.run 1 6 [(8, .slice (some ⟨b9, 0, none⟩) (0 + qs.length) cap10)] (by kernel_rfl) (by kernel_rfl) ?_
    refine WO.done (by kernel_rfl) ?_
    refine WQ.keep [0, 1, 5, 8] (e' := [(0, .pointer (some ⟨g, 0, none⟩)), (1, .slice (some ad_co) qs.length ccap), (5, .int .i64 (qs.length : Int)), (8, .slice (some ⟨b9, 0, none⟩) (0 + qs.length) cap10)]) (by kernel_rfl) ?_
    refine WQ.thenN ?_
    refine WE.seq ?_
    refine WE.seq ?_
    rw [List.nil_append] at HR12
    refine WE.env (e' := [(0, .pointer (some ⟨g, 0, none⟩)), (1, .slice (some ad_co) qs.length ccap), (5, .int .i64 (qs.length : Int)), (8, .slice (some ⟨b9, 0, none⟩) qs.length cap10)]) (by rw [Nat.zero_add]) ?_
    -- R11 ref.go:90
    refine WE.region ?_
    refine WO.run 4 0 [(43, .pointer (some ⟨g, 2, none⟩)), (42, .pointer (some ⟨g, 0, none⟩)), (41, .pointer (some ⟨g, 0, none⟩)), (40, .slice (some ad_co) qs.length ccap)] (by kernel_rfl) (by kernel_rfl) ?_
    refine WO.ld (SQ.S 4 (by kernel_rfl)) 44 (.int .i64 (s.pos : Int)) (by kernel_rfl) (same (HB.at 2 (by kernel_rfl))) ?_
    refine WO.ix (SQ.F 5 (by kernel_rfl)) 45 (ad_co.add s.pos) ad_co qs.length 1 (s.pos : Int) (by kernel_rfl) (by omega) (by omega) (by congr 1 <;> omega) ?_
    refine WO.ld (SQ.S 6 (by kernel_rfl)) 46 (.int .i64 (g0 co s.pos)) (by kernel_rfl) (same (hcl s.pos (by omega))) ?_
    refine WO.one (SQ.F 7 (by kernel_rfl)) 47 (.bool (decide ((g0 co s.pos : Int) = 0))) (by kernel_rfl) ?_
    refine WO.topP ((g0 co s.pos : Int) = 0) ?_ ?_
    · intro h16
      refine WO.done (by kernel_rfl) ?_
      refine WQ.keep [0, 1, 5, 8, 47] (e' := [(0, .pointer (some ⟨g, 0, none⟩)), (1, .slice (some ad_co) qs.length ccap), (5, .int .i64 (qs.length : Int)), (8, .slice (some ⟨b9, 0, none⟩) qs.length cap10), (47, .bool true)]) (by kernel_rfl) ?_
      refine WQ.thenN ?_
      refine WE.condT (by kernel_rfl) ?_
      -- R12 ref.go:91
      refine WE.region ?_
      refine WO.run 4 0 [(51, .pointer (some ⟨g, 2, none⟩)), (50, .pointer (some ⟨g, 0, none⟩)), (49, .pointer (some ⟨g, 0, none⟩)), (48, .slice (some ⟨b9, 0, none⟩) qs.length cap10)] (by kernel_rfl) (by kernel_rfl) ?_
      refine WO.ld (SQ.S 4 (by kernel_rfl)) 52 (.int .i64 (s.pos : Int)) (by kernel_rfl) (same (HB.at 2 (by kernel_rfl))) ?_
      refine WO.ixB (SQ.F 5 (by kernel_rfl)) 53 s.pos b9 0 qs.length 1 (s.pos : Int) (by kernel_rfl) (by omega) (by omega) (by omega) ?_
      refine WO.stR (SQ.E 6 (by kernel_rfl)) b9 s.pos s.pos [.int .i64 0] HR12 (by rw [List.length_map]; have := hgd.len; omega) rfl (by omega) rfl (by kernel_rfl) (fun _ _ => trivial) ?_
      intro w17 HR19 F18 _
      have HB := Blk.keep HB F18 (ninC ne_g_b9 (nin0 _))
      have hql := fun k hk => Fr.cellN F18 (hql k hk) (ninC ne_ad_q_block_b9 (nin0 _))
      have hcl := fun k hk => Fr.cellN F18 (hcl k hk) (ninC ne_ad_co_block_b9 (nin0 _))
      have HA := Fr.step HA F18 (inSD in_HA_b9 inS0)
      have HR19 : RowB w17 b9 3 1 cap10 ((s.cs.set s.pos 0).map cI) := by rw [List.map_set]; exact HR19
      refine WO.done (by kernel_rfl) ?_
      refine WQ.keep [0, 1, 5, 8, 47] (e' := [(0, .pointer (some ⟨g, 0, none⟩)), (1, .slice (some ad_co) qs.length ccap), (5, .int .i64 (qs.length : Int)), (8, .slice (some ⟨b9, 0, none⟩) qs.length cap10), (47, .bool true)]) (by kernel_rfl) ?_
      refine WQ.thenN ?_
      refine WE.seq ?_
      refine WE.seq ?_
      -- R16* ref.go:96
      refine WE.draw [.free, .free, .free, .free, .still, .free, .still, .free, .free, .free, .free, .free, .free, .still, .free, .still, .free, .free, .free, .free, .still, .free, .still, .free, .free] Same sameR (by kernel_rfl) 25 (Array.replicate 25 false) (by kernel_rfl) rfl ?_
      intro w20 F21 _
      have HB := Blk.keep HB F21 (nin0 _)
      have HR19 := RowB.keep HR19 F21 (nin0 _)
      have hql := fun k hk => Fr.cellN F21 (hql k hk) (nin0 _)
      have hcl := fun k hk => Fr.cellN F21 (hcl k hk) (nin0 _)
      have HA := Fr.step0 HA F21
      refine WO.one (SA.F sameR sameT _ 0 _ (by kernel_rfl)) 86 (.slice (some ad_co) qs.length ccap) (by kernel_rfl) ?_
      refine WO.one (SA.F sameR sameT _ 1 _ (by kernel_rfl)) 87 (.pointer (some ⟨g, 0, none⟩)) (by kernel_rfl) ?_
      refine WO.one (SA.F sameR sameT _ 2 _ (by kernel_rfl)) 88 (.pointer (some ⟨g, 0, none⟩)) (by kernel_rfl) ?_
      refine WO.one (SA.F sameR sameT _ 3 _ (by kernel_rfl)) 89 (.pointer (some ⟨g, 2, none⟩)) (by kernel_rfl) ?_
      refine WO.ld (SA.S sameR sameT _ 4 _ (by kernel_rfl)) 90 (.int .i64 (s.pos : Int)) (by kernel_rfl) (same (HB.at 2 (by kernel_rfl))) ?_
      refine WO.ix (SA.F sameR sameT _ 5 _ (by kernel_rfl)) 91 (ad_co.add s.pos) ad_co qs.length 1 (s.pos : Int) (by kernel_rfl) (by omega) (by omega) (by congr 1 <;> omega) ?_
      refine WO.ld (SA.S sameR sameT _ 6 _ (by kernel_rfl)) 92 (.int .i64 (g0 co s.pos)) (by kernel_rfl) (same (hcl s.pos (by omega))) ?_
      refine WO.one (SA.F sameR sameT _ 7 _ (by kernel_rfl)) 93 (.bool (decide ((g0 co s.pos : Int) > 0))) (by kernel_rfl) ?_
      refine WO.topPF ((g0 co s.pos : Int) > 0) (by omega) ?_
      refine WO.one (SA.F sameR sameT _ 8 _ (by kernel_rfl)) 94 (.bool false) (by kernel_rfl) ?_
      refine WO.off (SA.O sameR sameT _ 9 _ (by kernel_rfl)) 95 (by kernel_rfl) ?_
      refine WO.off (SA.O sameR sameT _ 10 _ (by kernel_rfl)) 96 (by kernel_rfl) ?_
      refine WO.off (SA.O sameR sameT _ 11 _ (by kernel_rfl)) 97 (by kernel_rfl) ?_
      refine WO.off (SA.O sameR sameT _ 12 _ (by kernel_rfl)) 98 (by kernel_rfl) ?_
      refine WO.off (SA.O sameR sameT _ 13 _ (by kernel_rfl)) 99 (by kernel_rfl) ?_
      refine WO.off (SA.O sameR sameT _ 14 _ (by kernel_rfl)) 100 (by kernel_rfl) ?_
      refine WO.off (SA.O sameR sameT _ 15 _ (by kernel_rfl)) 101 (by kernel_rfl) ?_
      refine WO.off (SA.O sameR sameT _ 16 _ (by kernel_rfl)) 102 (by kernel_rfl) ?_
      refine WO.off (SA.O sameR sameT _ 17 _ (by kernel_rfl)) 103 (by kernel_rfl) ?_
      refine WO.off (SA.O sameR sameT _ 18 _ (by kernel_rfl)) 104 (by kernel_rfl) ?_
      refine WO.off (SA.O sameR sameT _ 19 _ (by kernel_rfl)) 105 (by kernel_rfl) ?_
      refine WO.off (SA.O sameR sameT _ 20 _ (by kernel_rfl)) 106 (by kernel_rfl) ?_
      refine WO.off (SA.O sameR sameT _ 21 _ (by kernel_rfl)) 107 (by kernel_rfl) ?_
      refine WO.off (SA.O sameR sameT _ 22 _ (by kernel_rfl)) 108 (by kernel_rfl) ?_
      refine WO.off (SA.O sameR sameT _ 23 _ (by kernel_rfl)) 109 (by kernel_rfl) ?_
      refine WO.one (SA.F sameR sameT _ 24 _ (by kernel_rfl)) 110 (.bool false) (by kernel_rfl) ?_
      refine WO.doneA (by kernel_rfl) ?_
      refine WQ.keep [0, 1, 5, 8, 47, 110] (e' := [(0, .pointer (some ⟨g, 0, none⟩)), (1, .slice (some ad_co) qs.length ccap), (5, .int .i64 (qs.length : Int)), (8, .slice (some ⟨b9, 0, none⟩) qs.length cap10), (47, .bool true), (110, .bool false)]) (by kernel_rfl) ?_
      refine WQ.thenN ?_
      refine WE.condF (by kernel_rfl) ?_
      refine WE.skip ?_
      refine WQ.thenN ?_
      refine WE.seq ?_
      -- R20 ref.go:101
      refine WE.region ?_
      refine WO.run 4 0 [(143, .pointer (some ⟨g, 1, none⟩)), (142, .pointer (some ⟨g, 0, none⟩)), (141, .slice (some ⟨b9, 0, none⟩) qs.length cap10), (140, .pointer (some ⟨g, 0, none⟩))] (by kernel_rfl) (by kernel_rfl) ?_
      refine WO.st (SQ.E 4 (by kernel_rfl)) g 1 [.slice (some ⟨b9, 0, none⟩) qs.length cap10] #[.slice (some ad_q) qs.length qcap, .slice (some ⟨b9, 0, none⟩) qs.length cap10, .int .i64 (s.pos : Int), .bool s.vis] (by kernel_rfl) HB (by kernel_rfl) (by kernel_rfl) (fun _ _ => trivial) ?_
      intro w22 HB24 F23 _
      have HR19 := RowB.keep HR19 F23 (ninC (Ne.symm ne_g_b9) (nin0 _))
      have hql := fun k hk => Fr.cellN F23 (hql k hk) (ninC haq (nin0 _))
      have hcl := fun k hk => Fr.cellN F23 (hcl k hk) (ninC hac (nin0 _))
      have HA := Fr.step HA F23 (inSL (by simp) inS0)
      refine WO.done (by kernel_rfl) ?_
      refine WQ.keep [0, 1, 5, 8, 47, 110] (e' := [(0, .pointer (some ⟨g, 0, none⟩)), (1, .slice (some ad_co) qs.length ccap), (5, .int .i64 (qs.length : Int)), (8, .slice (some ⟨b9, 0, none⟩) qs.length cap10), (47, .bool true), (110, .bool false)]) (by kernel_rfl) ?_
      refine WQ.thenN ?_
      refine WE.seq ?_
      -- R21 ref.go:102
      refine WE.region ?_
      refine WO.run 4 0 [(147, .pointer (some ⟨g, 2, none⟩)), (146, .pointer (some ⟨g, 0, none⟩)), (145, .pointer (some ⟨g, 0, none⟩)), (144, .pointer (some ⟨g, 0, none⟩))] (by kernel_rfl) (by kernel_rfl) ?_
      refine WO.ld (SQ.S 4 (by kernel_rfl)) 148 (.int .i64 (s.pos : Int)) (by kernel_rfl) (same (HB24.at 2 (by kernel_rfl))) ?_
      refine WO.one (SQ.F 5 (by kernel_rfl)) 149 (.int .i64 (IntKind.i64.wrap ((s.pos : Int) + 1))) (by kernel_rfl) ?_
      refine WO.top (v' := .int .i64 ((s.pos + 1 : Nat) : Int)) (wrap_i64 (by omega) (by omega)) ?_
      refine WO.run 1 6 [(150, .int .i64 (qs.length : Int))] (by kernel_rfl) (by kernel_rfl) ?_
      refine WO.rem (SQ.F 7 (by kernel_rfl)) 151 .i64 (s.pos + 1 : Int) (qs.length : Int) (by kernel_rfl) (by omega) ?_
      refine WO.top (v' := .int .i64 (((s.pos + 1) % qs.length : Nat) : Int)) rfl ?_
      refine WO.run 2 8 [(153, .pointer (some ⟨g, 2, none⟩)), (152, .pointer (some ⟨g, 0, none⟩))] (by kernel_rfl) (by kernel_rfl) ?_
      refine WO.st (SQ.E 10 (by kernel_rfl)) g 2 [.int .i64 (((s.pos + 1) % qs.length : Nat) : Int)] #[.slice (some ad_q) qs.length qcap, .slice (some ⟨b9, 0, none⟩) qs.length cap10, .int .i64 (((s.pos + 1) % qs.length : Nat) : Int), .bool s.vis] (by kernel_rfl) HB24 (by kernel_rfl) (by kernel_rfl) (fun _ _ => trivial) ?_
      intro w25 HB27 F26 _
      have HR19 := RowB.keep HR19 F26 (ninC (Ne.symm ne_g_b9) (nin0 _))
      have hql := fun k hk => Fr.cellN F26 (hql k hk) (ninC haq (nin0 _))
      have hcl := fun k hk => Fr.cellN F26 (hcl k hk) (ninC hac (nin0 _))
      have HA := Fr.step HA F26 (inSL (by simp) inS0)
      refine WO.done (by kernel_rfl) ?_
      refine WQ.keep [0, 1, 5, 8, 47, 110] (e' := [(0, .pointer (some ⟨g, 0, none⟩)), (1, .slice (some ad_co) qs.length ccap), (5, .int .i64 (qs.length : Int)), (8, .slice (some ⟨b9, 0, none⟩) qs.length cap10), (47, .bool true), (110, .bool false)]) (by kernel_rfl) ?_
      refine WQ.thenN ?_
      -- R22 ref.go:103
      refine WE.region ?_
      refine WO.run 3 0 [(156, .pointer (some ⟨g, 3, none⟩)), (155, .pointer (some ⟨g, 0, none⟩)), (154, .pointer (some ⟨g, 0, none⟩))] (by kernel_rfl) (by kernel_rfl) ?_
      refine WO.st (SQ.E 3 (by kernel_rfl)) g 3 [.bool false] #[.slice (some ad_q) qs.length qcap, .slice (some ⟨b9, 0, none⟩) qs.length cap10, .int .i64 (((s.pos + 1) % qs.length : Nat) : Int), .bool false] (by kernel_rfl) HB27 (by kernel_rfl) (by kernel_rfl) (fun _ _ => trivial) ?_
      intro w28 HB30 F29 _
      have HR19 := RowB.keep HR19 F29 (ninC (Ne.symm ne_g_b9) (nin0 _))
      have hql := fun k hk => Fr.cellN F29 (hql k hk) (ninC haq (nin0 _))
      have hcl := fun k hk => Fr.cellN F29 (hcl k hk) (ninC hac (nin0 _))
      have HA := Fr.step HA F29 (inSL (by simp) inS0)
      refine WO.done (by kernel_rfl) ?_
      refine WQ.keep [0, 1, 5, 8, 47, 110] (e' := [(0, .pointer (some ⟨g, 0, none⟩)), (1, .slice (some ad_co) qs.length ccap), (5, .int .i64 (qs.length : Int)), (8, .slice (some ⟨b9, 0, none⟩) qs.length cap10), (47, .bool true), (110, .bool false)]) (by kernel_rfl) ?_
      refine WQ.blkN ?_
      refine WQ.round ?_
      intro a_ ha_
      refine ⟨(f, ⟨s.cs.set s.pos 0, (s.pos + 1) % qs.length, false⟩, b9, cap10), ?_, ha_.keep [0, 1, 5] (by kernel_rfl), ?_⟩
      · show f < f + 1; omega
      · exact ⟨by rw [if_pos h16] at hrun; exact hrun, hgd.zero hq (co := co), HB30, HR19, hql, hcl, HA⟩
    · intro h16
      refine WO.done (by kernel_rfl) ?_
      refine WQ.keep [0, 1, 5, 8, 47] (e' := [(0, .pointer (some ⟨g, 0, none⟩)), (1, .slice (some ad_co) qs.length ccap), (5, .int .i64 (qs.length : Int)), (8, .slice (some ⟨b9, 0, none⟩) qs.length cap10), (47, .bool false)]) (by kernel_rfl) ?_
      refine WQ.thenN ?_
      refine WE.condF (by kernel_rfl) ?_
      refine WE.seq ?_
      -- R13 ref.go:92
      refine WE.region ?_
      refine WO.run 3 0 [(56, .pointer (some ⟨g, 3, none⟩)), (55, .pointer (some ⟨g, 0, none⟩)), (54, .pointer (some ⟨g, 0, none⟩))] (by kernel_rfl) (by kernel_rfl) ?_
      refine WO.ld (SQ.S 3 (by kernel_rfl)) 57 (.bool s.vis) (by kernel_rfl) (same (HB.at 3 (by kernel_rfl))) ?_
      refine WO.one (SQ.F 4 (by kernel_rfl)) 58 (.bool (!s.vis)) (by kernel_rfl) ?_
      refine WO.topNB (s.vis) ?_ ?_
      · intro h31
        refine WO.done (by kernel_rfl) ?_
        refine WQ.keep [0, 1, 5, 8, 47, 58] (e' := [(0, .pointer (some ⟨g, 0, none⟩)), (1, .slice (some ad_co) qs.length ccap), (5, .int .i64 (qs.length : Int)), (8, .slice (some ⟨b9, 0, none⟩) qs.length cap10), (47, .bool false), (58, .bool false)]) (by kernel_rfl) ?_
        refine WQ.thenN ?_
        refine WE.condF (by kernel_rfl) ?_
        refine WE.skip ?_
        refine WQ.thenN ?_
        refine WE.seq ?_
        refine WE.seq ?_
        have hvs : vst qs s = s.cs := by unfold vst; rw [h31]; rfl
        rw [h31] at HB
        rw [← hvs] at HR12
        -- R16* ref.go:96
        refine WE.draw [.free, .free, .free, .free, .still, .free, .still, .free, .free, .free, .free, .free, .free, .still, .free, .still, .free, .free, .free, .free, .still, .free, .still, .free, .free] Same sameR (by kernel_rfl) 25 (Array.replicate 25 false) (by kernel_rfl) rfl ?_
        intro w32 F33 _
        have HB := Blk.keep HB F33 (nin0 _)
        have HR12 := RowB.keep HR12 F33 (nin0 _)
        have hql := fun k hk => Fr.cellN F33 (hql k hk) (nin0 _)
        have hcl := fun k hk => Fr.cellN F33 (hcl k hk) (nin0 _)
        have HA := Fr.step0 HA F33
        refine WO.one (SA.F sameR sameT _ 0 _ (by kernel_rfl)) 86 (.slice (some ad_co) qs.length ccap) (by kernel_rfl) ?_
        refine WO.one (SA.F sameR sameT _ 1 _ (by kernel_rfl)) 87 (.pointer (some ⟨g, 0, none⟩)) (by kernel_rfl) ?_
        refine WO.one (SA.F sameR sameT _ 2 _ (by kernel_rfl)) 88 (.pointer (some ⟨g, 0, none⟩)) (by kernel_rfl) ?_
        refine WO.one (SA.F sameR sameT _ 3 _ (by kernel_rfl)) 89 (.pointer (some ⟨g, 2, none⟩)) (by kernel_rfl) ?_
        refine WO.ld (SA.S sameR sameT _ 4 _ (by kernel_rfl)) 90 (.int .i64 (s.pos : Int)) (by kernel_rfl) (same (HB.at 2 (by kernel_rfl))) ?_
        refine WO.ix (SA.F sameR sameT _ 5 _ (by kernel_rfl)) 91 (ad_co.add s.pos) ad_co qs.length 1 (s.pos : Int) (by kernel_rfl) (by omega) (by omega) (by congr 1 <;> omega) ?_
        refine WO.ld (SA.S sameR sameT _ 6 _ (by kernel_rfl)) 92 (.int .i64 (g0 co s.pos)) (by kernel_rfl) (same (hcl s.pos (by omega))) ?_
        refine WO.one (SA.F sameR sameT _ 7 _ (by kernel_rfl)) 93 (.bool (decide ((g0 co s.pos : Int) > 0))) (by kernel_rfl) ?_
        refine WO.topPT ((g0 co s.pos : Int) > 0) (by omega) ?_
        refine WO.one (SA.F sameR sameT _ 8 _ (by kernel_rfl)) 94 (.bool true) (by kernel_rfl) ?_
        refine WO.one (SA.F sameR sameT _ 9 _ (by kernel_rfl)) 95 (.slice (some ⟨b9, 0, none⟩) qs.length cap10) (by kernel_rfl) ?_
        refine WO.one (SA.F sameR sameT _ 10 _ (by kernel_rfl)) 96 (.pointer (some ⟨g, 0, none⟩)) (by kernel_rfl) ?_
        refine WO.one (SA.F sameR sameT _ 11 _ (by kernel_rfl)) 97 (.pointer (some ⟨g, 0, none⟩)) (by kernel_rfl) ?_
        refine WO.one (SA.F sameR sameT _ 12 _ (by kernel_rfl)) 98 (.pointer (some ⟨g, 2, none⟩)) (by kernel_rfl) ?_
        refine WO.ld (SA.S sameR sameT _ 13 _ (by kernel_rfl)) 99 (.int .i64 (s.pos : Int)) (by kernel_rfl) (same (HB.at 2 (by kernel_rfl))) ?_
        refine WO.ixB (SA.F sameR sameT _ 14 _ (by kernel_rfl)) 100 s.pos b9 0 qs.length 1 (s.pos : Int) (by kernel_rfl) (by omega) (by omega) (by omega) ?_
        refine WO.ld (SA.S sameR sameT _ 15 _ (by kernel_rfl)) 101 (.int .i64 (g0 (vst qs s) s.pos)) (by kernel_rfl) (same (HR12.at s.pos 0 s.pos _ (by rw [List.length_map]; have := ((vst_len qs s).trans hgd.len); omega) (by omega) (by rw [(map_atI (vst qs s) s.pos (by have := ((vst_len qs s).trans hgd.len); omega))]; rfl) (by omega))) ?_
        refine WO.one (SA.F sameR sameT _ 16 _ (by kernel_rfl)) 102 (.slice (some ad_co) qs.length ccap) (by kernel_rfl) ?_
        refine WO.one (SA.F sameR sameT _ 17 _ (by kernel_rfl)) 103 (.pointer (some ⟨g, 0, none⟩)) (by kernel_rfl) ?_
        refine WO.one (SA.F sameR sameT _ 18 _ (by kernel_rfl)) 104 (.pointer (some ⟨g, 0, none⟩)) (by kernel_rfl) ?_
        refine WO.one (SA.F sameR sameT _ 19 _ (by kernel_rfl)) 105 (.pointer (some ⟨g, 2, none⟩)) (by kernel_rfl) ?_
        refine WO.ld (SA.S sameR sameT _ 20 _ (by kernel_rfl)) 106 (.int .i64 (s.pos : Int)) (by kernel_rfl) (same (HB.at 2 (by kernel_rfl))) ?_
        refine WO.ix (SA.F sameR sameT _ 21 _ (by kernel_rfl)) 107 (ad_co.add s.pos) ad_co qs.length 1 (s.pos : Int) (by kernel_rfl) (by omega) (by omega) (by congr 1 <;> omega) ?_
        refine WO.ld (SA.S sameR sameT _ 22 _ (by kernel_rfl)) 108 (.int .i64 (g0 co s.pos)) (by kernel_rfl) (same (hcl s.pos (by omega))) ?_
        refine WO.one (SA.F sameR sameT _ 23 _ (by kernel_rfl)) 109 (.bool (decide ((g0 (vst qs s) s.pos : Int) ≥ (g0 co s.pos)))) (by kernel_rfl) ?_
        refine WO.topP ((g0 (vst qs s) s.pos : Int) ≥ (g0 co s.pos)) ?_ ?_
        · intro h34
          refine WO.one (SA.F sameR sameT _ 24 _ (by kernel_rfl)) 110 (.bool true) (by kernel_rfl) ?_
          refine WO.doneA (by kernel_rfl) ?_
          refine WQ.keep [0, 1, 5, 8, 47, 58, 110] (e' := [(0, .pointer (some ⟨g, 0, none⟩)), (1, .slice (some ad_co) qs.length ccap), (5, .int .i64 (qs.length : Int)), (8, .slice (some ⟨b9, 0, none⟩) qs.length cap10), (47, .bool false), (58, .bool false), (110, .bool true)]) (by kernel_rfl) ?_
          refine WQ.thenN ?_
          refine WE.condT (by kernel_rfl) ?_
          refine WE.seq ?_
          -- R17* ref.go:97
          refine WE.draw [.free, .free, .free, .free, .still, .free, .free, .free, .free, .still, .free, .still, .free, .free, .free, .free, .still, .free, .still, .free, .free, .eff] Same sameR (by kernel_rfl) 22 (Array.replicate 22 false) (by kernel_rfl) rfl ?_
          intro w35 F36 _
          have HB := Blk.keep HB F36 (nin0 _)
          have HR12 := RowB.keep HR12 F36 (nin0 _)
          have hql := fun k hk => Fr.cellN F36 (hql k hk) (nin0 _)
          have hcl := fun k hk => Fr.cellN F36 (hcl k hk) (nin0 _)
          have HA := Fr.step0 HA F36
          refine WO.one (SA.F sameR sameT _ 0 _ (by kernel_rfl)) 111 (.slice (some ⟨b9, 0, none⟩) qs.length cap10) (by kernel_rfl) ?_
          refine WO.one (SA.F sameR sameT _ 1 _ (by kernel_rfl)) 112 (.pointer (some ⟨g, 0, none⟩)) (by kernel_rfl) ?_
          refine WO.one (SA.F sameR sameT _ 2 _ (by kernel_rfl)) 113 (.pointer (some ⟨g, 0, none⟩)) (by kernel_rfl) ?_
          refine WO.one (SA.F sameR sameT _ 3 _ (by kernel_rfl)) 114 (.pointer (some ⟨g, 2, none⟩)) (by kernel_rfl) ?_
          refine WO.ld (SA.S sameR sameT _ 4 _ (by kernel_rfl)) 115 (.int .i64 (s.pos : Int)) (by kernel_rfl) (same (HB.at 2 (by kernel_rfl))) ?_
          refine WO.one (SA.F sameR sameT _ 5 _ (by kernel_rfl)) 116 (.slice (some ⟨b9, 0, none⟩) qs.length cap10) (by kernel_rfl) ?_
          refine WO.one (SA.F sameR sameT _ 6 _ (by kernel_rfl)) 117 (.pointer (some ⟨g, 0, none⟩)) (by kernel_rfl) ?_
          refine WO.one (SA.F sameR sameT _ 7 _ (by kernel_rfl)) 118 (.pointer (some ⟨g, 0, none⟩)) (by kernel_rfl) ?_
          refine WO.one (SA.F sameR sameT _ 8 _ (by kernel_rfl)) 119 (.pointer (some ⟨g, 2, none⟩)) (by kernel_rfl) ?_
          refine WO.ld (SA.S sameR sameT _ 9 _ (by kernel_rfl)) 120 (.int .i64 (s.pos : Int)) (by kernel_rfl) (same (HB.at 2 (by kernel_rfl))) ?_
          refine WO.ixB (SA.F sameR sameT _ 10 _ (by kernel_rfl)) 121 s.pos b9 0 qs.length 1 (s.pos : Int) (by kernel_rfl) (by omega) (by omega) (by omega) ?_
          refine WO.ld (SA.S sameR sameT _ 11 _ (by kernel_rfl)) 122 (.int .i64 (g0 (vst qs s) s.pos)) (by kernel_rfl) (same (HR12.at s.pos 0 s.pos _ (by rw [List.length_map]; have := ((vst_len qs s).trans hgd.len); omega) (by omega) (by rw [(map_atI (vst qs s) s.pos (by have := ((vst_len qs s).trans hgd.len); omega))]; rfl) (by omega))) ?_
          refine WO.one (SA.F sameR sameT _ 12 _ (by kernel_rfl)) 123 (.slice (some ad_co) qs.length ccap) (by kernel_rfl) ?_
          refine WO.one (SA.F sameR sameT _ 13 _ (by kernel_rfl)) 124 (.pointer (some ⟨g, 0, none⟩)) (by kernel_rfl) ?_
          refine WO.one (SA.F sameR sameT _ 14 _ (by kernel_rfl)) 125 (.pointer (some ⟨g, 0, none⟩)) (by kernel_rfl) ?_
          refine WO.one (SA.F sameR sameT _ 15 _ (by kernel_rfl)) 126 (.pointer (some ⟨g, 2, none⟩)) (by kernel_rfl) ?_
          refine WO.ld (SA.S sameR sameT _ 16 _ (by kernel_rfl)) 127 (.int .i64 (s.pos : Int)) (by kernel_rfl) (same (HB.at 2 (by kernel_rfl))) ?_
          refine WO.ix (SA.F sameR sameT _ 17 _ (by kernel_rfl)) 128 (ad_co.add s.pos) ad_co qs.length 1 (s.pos : Int) (by kernel_rfl) (by omega) (by omega) (by congr 1 <;> omega) ?_
          refine WO.ld (SA.S sameR sameT _ 18 _ (by kernel_rfl)) 129 (.int .i64 (g0 co s.pos)) (by kernel_rfl) (same (hcl s.pos (by omega))) ?_
          refine WO.one (SA.F sameR sameT _ 19 _ (by kernel_rfl)) 130 (.int .i64 (IntKind.i64.wrap ((g0 (vst qs s) s.pos) - (g0 co s.pos)))) (by kernel_rfl) ?_
          refine WO.top (v' := .int .i64 ((g0 (vst qs s) s.pos) - (g0 co s.pos))) (wrap_i64 (by omega) (by omega)) ?_
          refine WO.ixB (SA.F sameR sameT _ 20 _ (by kernel_rfl)) 131 s.pos b9 0 qs.length 1 (s.pos : Int) (by kernel_rfl) (by omega) (by omega) (by omega) ?_
          refine WO.stR (SA.E _ 21 _ (by kernel_rfl) rfl) b9 s.pos s.pos [.int .i64 ((g0 (vst qs s) s.pos) - (g0 co s.pos))] HR12 (by rw [List.length_map]; have := ((vst_len qs s).trans hgd.len); omega) rfl (by omega) rfl (by kernel_rfl) (fun _ _ => trivial) ?_
          intro w37 HR39 F38 _
          have HB := Blk.keep HB F38 (ninC ne_g_b9 (nin0 _))
          have hql := fun k hk => Fr.cellN F38 (hql k hk) (ninC ne_ad_q_block_b9 (nin0 _))
          have hcl := fun k hk => Fr.cellN F38 (hcl k hk) (ninC ne_ad_co_block_b9 (nin0 _))
          have HA := Fr.step HA F38 (inSD in_HA_b9 inS0)
          have HR39 : RowB w37 b9 3 1 cap10 (((vst qs s).set s.pos ((g0 (vst qs s) s.pos) - (g0 co s.pos))).map cI) := by rw [List.map_set]; exact HR39
          refine WO.doneA (by kernel_rfl) ?_
          refine WQ.keep [0, 1, 5, 8, 47, 58, 110] (e' := [(0, .pointer (some ⟨g, 0, none⟩)), (1, .slice (some ad_co) qs.length ccap), (5, .int .i64 (qs.length : Int)), (8, .slice (some ⟨b9, 0, none⟩) qs.length cap10), (47, .bool false), (58, .bool false), (110, .bool true)]) (by kernel_rfl) ?_
          refine WQ.thenN ?_
          refine WE.seq ?_
          -- R18 ref.go:98
          refine WE.region ?_
          refine WO.run 4 0 [(135, .pointer (some ⟨g, 1, none⟩)), (134, .pointer (some ⟨g, 0, none⟩)), (133, .slice (some ⟨b9, 0, none⟩) qs.length cap10), (132, .pointer (some ⟨g, 0, none⟩))] (by kernel_rfl) (by kernel_rfl) ?_
          refine WO.st (SQ.E 4 (by kernel_rfl)) g 1 [.slice (some ⟨b9, 0, none⟩) qs.length cap10] #[.slice (some ad_q) qs.length qcap, .slice (some ⟨b9, 0, none⟩) qs.length cap10, .int .i64 (s.pos : Int), .bool true] (by kernel_rfl) HB (by kernel_rfl) (by kernel_rfl) (fun _ _ => trivial) ?_
          intro w40 HB42 F41 _
          have HR39 := RowB.keep HR39 F41 (ninC (Ne.symm ne_g_b9) (nin0 _))
          have hql := fun k hk => Fr.cellN F41 (hql k hk) (ninC haq (nin0 _))
          have hcl := fun k hk => Fr.cellN F41 (hcl k hk) (ninC hac (nin0 _))
          have HA := Fr.step HA F41 (inSL (by simp) inS0)
          refine WO.done (by kernel_rfl) ?_
          refine WQ.keep [0, 1, 5, 8, 47, 58, 110] (e' := [(0, .pointer (some ⟨g, 0, none⟩)), (1, .slice (some ad_co) qs.length ccap), (5, .int .i64 (qs.length : Int)), (8, .slice (some ⟨b9, 0, none⟩) qs.length cap10), (47, .bool false), (58, .bool false), (110, .bool true)]) (by kernel_rfl) ?_
          refine WQ.thenN ?_
          refine WE.seq ?_
          -- R19 ref.go:99
          refine WE.region ?_
          refine WO.run 3 0 [(138, .pointer (some ⟨g, 2, none⟩)), (137, .pointer (some ⟨g, 0, none⟩)), (136, .pointer (some ⟨g, 0, none⟩))] (by kernel_rfl) (by kernel_rfl) ?_
          refine WO.ld (SQ.S 3 (by kernel_rfl)) 139 (.int .i64 (s.pos : Int)) (by kernel_rfl) (same (HB42.at 2 (by kernel_rfl))) ?_
          refine WO.run 1 4 [(4, .int .i64 (s.pos : Int))] (by kernel_rfl) (by kernel_rfl) ?_
          refine WO.done (by kernel_rfl) ?_
          refine WQ.keep [0, 1, 4, 5, 8, 47, 58, 110] (e' := [(0, .pointer (some ⟨g, 0, none⟩)), (1, .slice (some ad_co) qs.length ccap), (4, .int .i64 (s.pos : Int)), (5, .int .i64 (qs.length : Int)), (8, .slice (some ⟨b9, 0, none⟩) qs.length cap10), (47, .bool false), (58, .bool false), (110, .bool true)]) (by kernel_rfl) ?_
          refine WQ.thenN ?_
          refine WE.ret ?_
          refine WQ.thenR ?_
          refine WQ.blkR ?_
          refine WQ.thenR ?_
          refine WQ.blkR ?_
          refine WQ.ret (v := .int .i64 (s.pos : Int)) (by kernel_rfl) ?_
          rw [if_neg h16, if_pos h34] at hrun
          obtain rfl := Option.some.inj hrun
          exact ⟨_, _, rfl, HB42, HR39, HA, (in_HA_b9).resolve_left (by simpa using (Ne.symm ne_g_b9))⟩
        · intro h34
          refine WO.one (SA.F sameR sameT _ 24 _ (by kernel_rfl)) 110 (.bool false) (by kernel_rfl) ?_
          refine WO.doneA (by kernel_rfl) ?_
          refine WQ.keep [0, 1, 5, 8, 47, 58, 110] (e' := [(0, .pointer (some ⟨g, 0, none⟩)), (1, .slice (some ad_co) qs.length ccap), (5, .int .i64 (qs.length : Int)), (8, .slice (some ⟨b9, 0, none⟩) qs.length cap10), (47, .bool false), (58, .bool false), (110, .bool false)]) (by kernel_rfl) ?_
          refine WQ.thenN ?_
          refine WE.condF (by kernel_rfl) ?_
          refine WE.skip ?_
          refine WQ.thenN ?_
          refine WE.seq ?_
          -- R20 ref.go:101
          refine WE.region ?_
          refine WO.run 4 0 [(143, .pointer (some ⟨g, 1, none⟩)), (142, .pointer (some ⟨g, 0, none⟩)), (141, .slice (some ⟨b9, 0, none⟩) qs.length cap10), (140, .pointer (some ⟨g, 0, none⟩))] (by kernel_rfl) (by kernel_rfl) ?_
          refine WO.st (SQ.E 4 (by kernel_rfl)) g 1 [.slice (some ⟨b9, 0, none⟩) qs.length cap10] #[.slice (some ad_q) qs.length qcap, .slice (some ⟨b9, 0, none⟩) qs.length cap10, .int .i64 (s.pos : Int), .bool true] (by kernel_rfl) HB (by kernel_rfl) (by kernel_rfl) (fun _ _ => trivial) ?_
          intro w43 HB45 F44 _
          have HR12 := RowB.keep HR12 F44 (ninC (Ne.symm ne_g_b9) (nin0 _))
          have hql := fun k hk => Fr.cellN F44 (hql k hk) (ninC haq (nin0 _))
          have hcl := fun k hk => Fr.cellN F44 (hcl k hk) (ninC hac (nin0 _))
          have HA := Fr.step HA F44 (inSL (by simp) inS0)
          refine WO.done (by kernel_rfl) ?_
          refine WQ.keep [0, 1, 5, 8, 47, 58, 110] (e' := [(0, .pointer (some ⟨g, 0, none⟩)), (1, .slice (some ad_co) qs.length ccap), (5, .int .i64 (qs.length : Int)), (8, .slice (some ⟨b9, 0, none⟩) qs.length cap10), (47, .bool false), (58, .bool false), (110, .bool false)]) (by kernel_rfl) ?_
          refine WQ.thenN ?_
          refine WE.seq ?_
          -- R21 ref.go:102
          refine WE.region ?_
          refine WO.run 4 0 [(147, .pointer (some ⟨g, 2, none⟩)), (146, .pointer (some ⟨g, 0, none⟩)), (145, .pointer (some ⟨g, 0, none⟩)), (144, .pointer (some ⟨g, 0, none⟩))] (by kernel_rfl) (by kernel_rfl) ?_
          refine WO.ld (SQ.S 4 (by kernel_rfl)) 148 (.int .i64 (s.pos : Int)) (by kernel_rfl) (same (HB45.at 2 (by kernel_rfl))) ?_
          refine WO.one (SQ.F 5 (by kernel_rfl)) 149 (.int .i64 (IntKind.i64.wrap ((s.pos : Int) + 1))) (by kernel_rfl) ?_
          refine WO.top (v' := .int .i64 ((s.pos + 1 : Nat) : Int)) (wrap_i64 (by omega) (by omega)) ?_
          refine WO.run 1 6 [(150, .int .i64 (qs.length : Int))] (by kernel_rfl) (by kernel_rfl) ?_
          refine WO.rem (SQ.F 7 (by kernel_rfl)) 151 .i64 (s.pos + 1 : Int) (qs.length : Int) (by kernel_rfl) (by omega) ?_
          refine WO.top (v' := .int .i64 (((s.pos + 1) % qs.length : Nat) : Int)) rfl ?_
          refine WO.run 2 8 [(153, .pointer (some ⟨g, 2, none⟩)), (152, .pointer (some ⟨g, 0, none⟩))] (by kernel_rfl) (by kernel_rfl) ?_
          refine WO.st (SQ.E 10 (by kernel_rfl)) g 2 [.int .i64 (((s.pos + 1) % qs.length : Nat) : Int)] #[.slice (some ad_q) qs.length qcap, .slice (some ⟨b9, 0, none⟩) qs.length cap10, .int .i64 (((s.pos + 1) % qs.length : Nat) : Int), .bool true] (by kernel_rfl) HB45 (by kernel_rfl) (by kernel_rfl) (fun _ _ => trivial) ?_
          intro w46 HB48 F47 _
          have HR12 := RowB.keep HR12 F47 (ninC (Ne.symm ne_g_b9) (nin0 _))
          have hql := fun k hk => Fr.cellN F47 (hql k hk) (ninC haq (nin0 _))
          have hcl := fun k hk => Fr.cellN F47 (hcl k hk) (ninC hac (nin0 _))
          have HA := Fr.step HA F47 (inSL (by simp) inS0)
          refine WO.done (by kernel_rfl) ?_
          refine WQ.keep [0, 1, 5, 8, 47, 58, 110] (e' := [(0, .pointer (some ⟨g, 0, none⟩)), (1, .slice (some ad_co) qs.length ccap), (5, .int .i64 (qs.length : Int)), (8, .slice (some ⟨b9, 0, none⟩) qs.length cap10), (47, .bool false), (58, .bool false), (110, .bool false)]) (by kernel_rfl) ?_
          refine WQ.thenN ?_
          -- R22 ref.go:103
          refine WE.region ?_
          refine WO.run 3 0 [(156, .pointer (some ⟨g, 3, none⟩)), (155, .pointer (some ⟨g, 0, none⟩)), (154, .pointer (some ⟨g, 0, none⟩))] (by kernel_rfl) (by kernel_rfl) ?_
          refine WO.st (SQ.E 3 (by kernel_rfl)) g 3 [.bool false] #[.slice (some ad_q) qs.length qcap, .slice (some ⟨b9, 0, none⟩) qs.length cap10, .int .i64 (((s.pos + 1) % qs.length : Nat) : Int), .bool false] (by kernel_rfl) HB48 (by kernel_rfl) (by kernel_rfl) (fun _ _ => trivial) ?_
          intro w49 HB51 F50 _
          have HR12 := RowB.keep HR12 F50 (ninC (Ne.symm ne_g_b9) (nin0 _))
          have hql := fun k hk => Fr.cellN F50 (hql k hk) (ninC haq (nin0 _))
          have hcl := fun k hk => Fr.cellN F50 (hcl k hk) (ninC hac (nin0 _))
          have HA := Fr.step HA F50 (inSL (by simp) inS0)
          refine WO.done (by kernel_rfl) ?_
          refine WQ.keep [0, 1, 5, 8, 47, 58, 110] (e' := [(0, .pointer (some ⟨g, 0, none⟩)), (1, .slice (some ad_co) qs.length ccap), (5, .int .i64 (qs.length : Int)), (8, .slice (some ⟨b9, 0, none⟩) qs.length cap10), (47, .bool false), (58, .bool false), (110, .bool false)]) (by kernel_rfl) ?_
          refine WQ.blkN ?_
          refine WQ.round ?_
          intro a_ ha_
          refine ⟨(f, ⟨vst qs s, (s.pos + 1) % qs.length, false⟩, b9, cap10), ?_, ha_.keep [0, 1, 5] (by kernel_rfl), ?_⟩
          · show f < f + 1; omega
          · exact ⟨by rw [if_neg h16, if_neg h34] at hrun; exact hrun, hgd.on hq hc h34, HB51, HR12, hql, hcl, HA⟩
      · intro h31
        refine WO.done (by kernel_rfl) ?_
        refine WQ.keep [0, 1, 5, 8, 47, 58] (e' := [(0, .pointer (some ⟨g, 0, none⟩)), (1, .slice (some ad_co) qs.length ccap), (5, .int .i64 (qs.length : Int)), (8, .slice (some ⟨b9, 0, none⟩) qs.length cap10), (47, .bool false), (58, .bool true)]) (by kernel_rfl) ?_
        refine WQ.thenN ?_
        refine WE.condT (by kernel_rfl) ?_
        refine WE.seq ?_
        -- R14* ref.go:93
        refine WE.draw [.free, .free, .free, .free, .still, .free, .free, .free, .free, .still, .free, .still, .free, .free, .free, .still, .free, .free, .free, .still, .free, .still, .free, .free, .eff] Same sameR (by kernel_rfl) 25 (Array.replicate 25 false) (by kernel_rfl) rfl ?_
        intro w52 F53 _
        have HB := Blk.keep HB F53 (nin0 _)
        have HR12 := RowB.keep HR12 F53 (nin0 _)
        have hql := fun k hk => Fr.cellN F53 (hql k hk) (nin0 _)
        have hcl := fun k hk => Fr.cellN F53 (hcl k hk) (nin0 _)
        have HA := Fr.step0 HA F53
        refine WO.one (SA.F sameR sameT _ 0 _ (by kernel_rfl)) 59 (.slice (some ⟨b9, 0, none⟩) qs.length cap10) (by kernel_rfl) ?_
        refine WO.one (SA.F sameR sameT _ 1 _ (by kernel_rfl)) 60 (.pointer (some ⟨g, 0, none⟩)) (by kernel_rfl) ?_
        refine WO.one (SA.F sameR sameT _ 2 _ (by kernel_rfl)) 61 (.pointer (some ⟨g, 0, none⟩)) (by kernel_rfl) ?_
        refine WO.one (SA.F sameR sameT _ 3 _ (by kernel_rfl)) 62 (.pointer (some ⟨g, 2, none⟩)) (by kernel_rfl) ?_
        refine WO.ld (SA.S sameR sameT _ 4 _ (by kernel_rfl)) 63 (.int .i64 (s.pos : Int)) (by kernel_rfl) (same (HB.at 2 (by kernel_rfl))) ?_
        refine WO.one (SA.F sameR sameT _ 5 _ (by kernel_rfl)) 64 (.slice (some ⟨b9, 0, none⟩) qs.length cap10) (by kernel_rfl) ?_
        refine WO.one (SA.F sameR sameT _ 6 _ (by kernel_rfl)) 65 (.pointer (some ⟨g, 0, none⟩)) (by kernel_rfl) ?_
        refine WO.one (SA.F sameR sameT _ 7 _ (by kernel_rfl)) 66 (.pointer (some ⟨g, 0, none⟩)) (by kernel_rfl) ?_
        refine WO.one (SA.F sameR sameT _ 8 _ (by kernel_rfl)) 67 (.pointer (some ⟨g, 2, none⟩)) (by kernel_rfl) ?_
        refine WO.ld (SA.S sameR sameT _ 9 _ (by kernel_rfl)) 68 (.int .i64 (s.pos : Int)) (by kernel_rfl) (same (HB.at 2 (by kernel_rfl))) ?_
        refine WO.ixB (SA.F sameR sameT _ 10 _ (by kernel_rfl)) 69 s.pos b9 0 qs.length 1 (s.pos : Int) (by kernel_rfl) (by omega) (by omega) (by omega) ?_
        refine WO.ld (SA.S sameR sameT _ 11 _ (by kernel_rfl)) 70 (.int .i64 (g0 s.cs s.pos)) (by kernel_rfl) (same (HR12.at s.pos 0 s.pos _ (by rw [List.length_map]; have := hgd.len; omega) (by omega) (by rw [(map_atI s.cs s.pos (by have := hgd.len; omega))]; rfl) (by omega))) ?_
        refine WO.one (SA.F sameR sameT _ 12 _ (by kernel_rfl)) 71 (.pointer (some ⟨g, 0, none⟩)) (by kernel_rfl) ?_
        refine WO.one (SA.F sameR sameT _ 13 _ (by kernel_rfl)) 72 (.pointer (some ⟨g, 0, none⟩)) (by kernel_rfl) ?_
        refine WO.one (SA.F sameR sameT _ 14 _ (by kernel_rfl)) 73 (.pointer (some ⟨g, 0, none⟩)) (by kernel_rfl) ?_
        refine WO.ld (SA.S sameR sameT _ 15 _ (by kernel_rfl)) 74 (.slice (some ad_q) qs.length qcap) (by kernel_rfl) (same (HB.at 0 (by kernel_rfl))) ?_
        refine WO.one (SA.F sameR sameT _ 16 _ (by kernel_rfl)) 75 (.pointer (some ⟨g, 0, none⟩)) (by kernel_rfl) ?_
        refine WO.one (SA.F sameR sameT _ 17 _ (by kernel_rfl)) 76 (.pointer (some ⟨g, 0, none⟩)) (by kernel_rfl) ?_
        refine WO.one (SA.F sameR sameT _ 18 _ (by kernel_rfl)) 77 (.pointer (some ⟨g, 2, none⟩)) (by kernel_rfl) ?_
        refine WO.ld (SA.S sameR sameT _ 19 _ (by kernel_rfl)) 78 (.int .i64 (s.pos : Int)) (by kernel_rfl) (same (HB.at 2 (by kernel_rfl))) ?_
        refine WO.ix (SA.F sameR sameT _ 20 _ (by kernel_rfl)) 79 (ad_q.add s.pos) ad_q qs.length 1 (s.pos : Int) (by kernel_rfl) (by omega) (by omega) (by congr 1 <;> omega) ?_
        refine WO.ld (SA.S sameR sameT _ 21 _ (by kernel_rfl)) 80 (.int .i64 (g0 qs s.pos)) (by kernel_rfl) (same (hql s.pos (by omega))) ?_
        refine WO.one (SA.F sameR sameT _ 22 _ (by kernel_rfl)) 81 (.int .i64 (IntKind.i64.wrap ((g0 s.cs s.pos) + (g0 qs s.pos)))) (by kernel_rfl) ?_
        refine WO.top (v' := .int .i64 ((g0 s.cs s.pos) + (g0 qs s.pos))) (wrap_i64 (by omega) (by omega)) ?_
        refine WO.ixB (SA.F sameR sameT _ 23 _ (by kernel_rfl)) 82 s.pos b9 0 qs.length 1 (s.pos : Int) (by kernel_rfl) (by omega) (by omega) (by omega) ?_
        refine WO.stR (SA.E _ 24 _ (by kernel_rfl) rfl) b9 s.pos s.pos [.int .i64 ((g0 s.cs s.pos) + (g0 qs s.pos))] HR12 (by rw [List.length_map]; have := hgd.len; omega) rfl (by omega) rfl (by kernel_rfl) (fun _ _ => trivial) ?_
        intro w54 HR56 F55 _
        have HB := Blk.keep HB F55 (ninC ne_g_b9 (nin0 _))
        have hql := fun k hk => Fr.cellN F55 (hql k hk) (ninC ne_ad_q_block_b9 (nin0 _))
        have hcl := fun k hk => Fr.cellN F55 (hcl k hk) (ninC ne_ad_co_block_b9 (nin0 _))
        have HA := Fr.step HA F55 (inSD in_HA_b9 inS0)
        have HR56 : RowB w54 b9 3 1 cap10 ((s.cs.set s.pos ((g0 s.cs s.pos) + (g0 qs s.pos))).map cI) := by rw [List.map_set]; exact HR56
        refine WO.doneA (by kernel_rfl) ?_
        refine WQ.keep [0, 1, 5, 8, 47, 58] (e' := [(0, .pointer (some ⟨g, 0, none⟩)), (1, .slice (some ad_co) qs.length ccap), (5, .int .i64 (qs.length : Int)), (8, .slice (some ⟨b9, 0, none⟩) qs.length cap10), (47, .bool false), (58, .bool true)]) (by kernel_rfl) ?_
        refine WQ.thenN ?_
        -- R15 ref.go:94
        refine WE.region ?_
        refine WO.run 3 0 [(85, .pointer (some ⟨g, 3, none⟩)), (84, .pointer (some ⟨g, 0, none⟩)), (83, .pointer (some ⟨g, 0, none⟩))] (by kernel_rfl) (by kernel_rfl) ?_
        refine WO.st (SQ.E 3 (by kernel_rfl)) g 3 [.bool true] #[.slice (some ad_q) qs.length qcap, .slice (some ⟨bc, 0, none⟩) qs.length cb, .int .i64 (s.pos : Int), .bool true] (by kernel_rfl) HB (by kernel_rfl) (by kernel_rfl) (fun _ _ => trivial) ?_
        intro w57 HB59 F58 _
        have HR56 := RowB.keep HR56 F58 (ninC (Ne.symm ne_g_b9) (nin0 _))
        have hql := fun k hk => Fr.cellN F58 (hql k hk) (ninC haq (nin0 _))
        have hcl := fun k hk => Fr.cellN F58 (hcl k hk) (ninC hac (nin0 _))
        have HA := Fr.step HA F58 (inSL (by simp) inS0)
        refine WO.done (by kernel_rfl) ?_
        refine WQ.keep [0, 1, 5, 8, 47, 58] (e' := [(0, .pointer (some ⟨g, 0, none⟩)), (1, .slice (some ad_co) qs.length ccap), (5, .int .i64 (qs.length : Int)), (8, .slice (some ⟨b9, 0, none⟩) qs.length cap10), (47, .bool false), (58, .bool true)]) (by kernel_rfl) ?_
        refine WQ.thenN ?_
        refine WE.seq ?_
        refine WE.seq ?_
        have hvs : vst qs s = (s.cs.set s.pos ((g0 s.cs s.pos) + (g0 qs s.pos))) := by unfold vst; rw [h31]; rfl
        rw [← hvs] at HR56
        -- R16* ref.go:96
        refine WE.draw [.free, .free, .free, .free, .still, .free, .still, .free, .free, .free, .free, .free, .free, .still, .free, .still, .free, .free, .free, .free, .still, .free, .still, .free, .free] Same sameR (by kernel_rfl) 25 (Array.replicate 25 false) (by kernel_rfl) rfl ?_
        intro w60 F61 _
        have HB59 := Blk.keep HB59 F61 (nin0 _)
        have HR56 := RowB.keep HR56 F61 (nin0 _)
        have hql := fun k hk => Fr.cellN F61 (hql k hk) (nin0 _)
        have hcl := fun k hk => Fr.cellN F61 (hcl k hk) (nin0 _)
        have HA := Fr.step0 HA F61
        refine WO.one (SA.F sameR sameT _ 0 _ (by kernel_rfl)) 86 (.slice (some ad_co) qs.length ccap) (by kernel_rfl) ?_
        refine WO.one (SA.F sameR sameT _ 1 _ (by kernel_rfl)) 87 (.pointer (some ⟨g, 0, none⟩)) (by kernel_rfl) ?_
        refine WO.one (SA.F sameR sameT _ 2 _ (by kernel_rfl)) 88 (.pointer (some ⟨g, 0, none⟩)) (by kernel_rfl) ?_
        refine WO.one (SA.F sameR sameT _ 3 _ (by kernel_rfl)) 89 (.pointer (some ⟨g, 2, none⟩)) (by kernel_rfl) ?_
        refine WO.ld (SA.S sameR sameT _ 4 _ (by kernel_rfl)) 90 (.int .i64 (s.pos : Int)) (by kernel_rfl) (same (HB59.at 2 (by kernel_rfl))) ?_
        refine WO.ix (SA.F sameR sameT _ 5 _ (by kernel_rfl)) 91 (ad_co.add s.pos) ad_co qs.length 1 (s.pos : Int) (by kernel_rfl) (by omega) (by omega) (by congr 1 <;> omega) ?_
        refine WO.ld (SA.S sameR sameT _ 6 _ (by kernel_rfl)) 92 (.int .i64 (g0 co s.pos)) (by kernel_rfl) (same (hcl s.pos (by omega))) ?_
        refine WO.one (SA.F sameR sameT _ 7 _ (by kernel_rfl)) 93 (.bool (decide ((g0 co s.pos : Int) > 0))) (by kernel_rfl) ?_
        refine WO.topPT ((g0 co s.pos : Int) > 0) (by omega) ?_
        refine WO.one (SA.F sameR sameT _ 8 _ (by kernel_rfl)) 94 (.bool true) (by kernel_rfl) ?_
        refine WO.one (SA.F sameR sameT _ 9 _ (by kernel_rfl)) 95 (.slice (some ⟨b9, 0, none⟩) qs.length cap10) (by kernel_rfl) ?_
        refine WO.one (SA.F sameR sameT _ 10 _ (by kernel_rfl)) 96 (.pointer (some ⟨g, 0, none⟩)) (by kernel_rfl) ?_
        refine WO.one (SA.F sameR sameT _ 11 _ (by kernel_rfl)) 97 (.pointer (some ⟨g, 0, none⟩)) (by kernel_rfl) ?_
        refine WO.one (SA.F sameR sameT _ 12 _ (by kernel_rfl)) 98 (.pointer (some ⟨g, 2, none⟩)) (by kernel_rfl) ?_
        refine WO.ld (SA.S sameR sameT _ 13 _ (by kernel_rfl)) 99 (.int .i64 (s.pos : Int)) (by kernel_rfl) (same (HB59.at 2 (by kernel_rfl))) ?_
        refine WO.ixB (SA.F sameR sameT _ 14 _ (by kernel_rfl)) 100 s.pos b9 0 qs.length 1 (s.pos : Int) (by kernel_rfl) (by omega) (by omega) (by omega) ?_
        refine WO.ld (SA.S sameR sameT _ 15 _ (by kernel_rfl)) 101 (.int .i64 (g0 (vst qs s) s.pos)) (by kernel_rfl) (same (HR56.at s.pos 0 s.pos _ (by rw [List.length_map]; have := ((vst_len qs s).trans hgd.len); omega) (by omega) (by rw [(map_atI (vst qs s) s.pos (by have := ((vst_len qs s).trans hgd.len); omega))]; rfl) (by omega))) ?_
        refine WO.one (SA.F sameR sameT _ 16 _ (by kernel_rfl)) 102 (.slice (some ad_co) qs.length ccap) (by kernel_rfl) ?_
        refine WO.one (SA.F sameR sameT _ 17 _ (by kernel_rfl)) 103 (.pointer (some ⟨g, 0, none⟩)) (by kernel_rfl) ?_
        refine WO.one (SA.F sameR sameT _ 18 _ (by kernel_rfl)) 104 (.pointer (some ⟨g, 0, none⟩)) (by kernel_rfl) ?_
        refine WO.one (SA.F sameR sameT _ 19 _ (by kernel_rfl)) 105 (.pointer (some ⟨g, 2, none⟩)) (by kernel_rfl) ?_
        refine WO.ld (SA.S sameR sameT _ 20 _ (by kernel_rfl)) 106 (.int .i64 (s.pos : Int)) (by kernel_rfl) (same (HB59.at 2 (by kernel_rfl))) ?_
        refine WO.ix (SA.F sameR sameT _ 21 _ (by kernel_rfl)) 107 (ad_co.add s.pos) ad_co qs.length 1 (s.pos : Int) (by kernel_rfl) (by omega) (by omega) (by congr 1 <;> omega) ?_
        refine WO.ld (SA.S sameR sameT _ 22 _ (by kernel_rfl)) 108 (.int .i64 (g0 co s.pos)) (by kernel_rfl) (same (hcl s.pos (by omega))) ?_
        refine WO.one (SA.F sameR sameT _ 23 _ (by kernel_rfl)) 109 (.bool (decide ((g0 (vst qs s) s.pos : Int) ≥ (g0 co s.pos)))) (by kernel_rfl) ?_
        refine WO.topP ((g0 (vst qs s) s.pos : Int) ≥ (g0 co s.pos)) ?_ ?_
        · intro h62
          refine WO.one (SA.F sameR sameT _ 24 _ (by kernel_rfl)) 110 (.bool true) (by kernel_rfl) ?_
          refine WO.doneA (by kernel_rfl) ?_
          refine WQ.keep [0, 1, 5, 8, 47, 58, 110] (e' := [(0, .pointer (some ⟨g, 0, none⟩)), (1, .slice (some ad_co) qs.length ccap), (5, .int .i64 (qs.length : Int)), (8, .slice (some ⟨b9, 0, none⟩) qs.length cap10), (47, .bool false), (58, .bool true), (110, .bool true)]) (by kernel_rfl) ?_
          refine WQ.thenN ?_
          refine WE.condT (by kernel_rfl) ?_
          refine WE.seq ?_
          -- R17* ref.go:97
          refine WE.draw [.free, .free, .free, .free, .still, .free, .free, .free, .free, .still, .free, .still, .free, .free, .free, .free, .still, .free, .still, .free, .free, .eff] Same sameR (by kernel_rfl) 22 (Array.replicate 22 false) (by kernel_rfl) rfl ?_
          intro w63 F64 _
          have HB59 := Blk.keep HB59 F64 (nin0 _)
          have HR56 := RowB.keep HR56 F64 (nin0 _)
          have hql := fun k hk => Fr.cellN F64 (hql k hk) (nin0 _)
          have hcl := fun k hk => Fr.cellN F64 (hcl k hk) (nin0 _)
          have HA := Fr.step0 HA F64
          refine WO.one (SA.F sameR sameT _ 0 _ (by kernel_rfl)) 111 (.slice (some ⟨b9, 0, none⟩) qs.length cap10) (by kernel_rfl) ?_
          refine WO.one (SA.F sameR sameT _ 1 _ (by kernel_rfl)) 112 (.pointer (some ⟨g, 0, none⟩)) (by kernel_rfl) ?_
          refine WO.one (SA.F sameR sameT _ 2 _ (by kernel_rfl)) 113 (.pointer (some ⟨g, 0, none⟩)) (by kernel_rfl) ?_
          refine WO.one (SA.F sameR sameT _ 3 _ (by kernel_rfl)) 114 (.pointer (some ⟨g, 2, none⟩)) (by kernel_rfl) ?_
          refine WO.ld (SA.S sameR sameT _ 4 _ (by kernel_rfl)) 115 (.int .i64 (s.pos : Int)) (by kernel_rfl) (same (HB59.at 2 (by kernel_rfl))) ?_
          refine WO.one (SA.F sameR sameT _ 5 _ (by kernel_rfl)) 116 (.slice (some ⟨b9, 0, none⟩) qs.length cap10) (by kernel_rfl) ?_
          refine WO.one (SA.F sameR sameT _ 6 _ (by kernel_rfl)) 117 (.pointer (some ⟨g, 0, none⟩)) (by kernel_rfl) ?_
          refine WO.one (SA.F sameR sameT _ 7 _ (by kernel_rfl)) 118 (.pointer (some ⟨g, 0, none⟩)) (by kernel_rfl) ?_
          refine WO.one (SA.F sameR sameT _ 8 _ (by kernel_rfl)) 119 (.pointer (some ⟨g, 2, none⟩)) (by kernel_rfl) ?_
          refine WO.ld (SA.S sameR sameT _ 9 _ (by kernel_rfl)) 120 (.int .i64 (s.pos : Int)) (by kernel_rfl) (same (HB59.at 2 (by kernel_rfl))) ?_
          refine WO.ixB (SA.F sameR sameT _ 10 _ (by kernel_rfl)) 121 s.pos b9 0 qs.length 1 (s.pos : Int) (by kernel_rfl) (by omega) (by omega) (by omega) ?_
          refine WO.ld (SA.S sameR sameT _ 11 _ (by kernel_rfl)) 122 (.int .i64 (g0 (vst qs s) s.pos)) (by kernel_rfl) (same (HR56.at s.pos 0 s.pos _ (by rw [List.length_map]; have := ((vst_len qs s).trans hgd.len); omega) (by omega) (by rw [(map_atI (vst qs s) s.pos (by have := ((vst_len qs s).trans hgd.len); omega))]; rfl) (by omega))) ?_
          refine WO.one (SA.F sameR sameT _ 12 _ (by kernel_rfl)) 123 (.slice (some ad_co) qs.length ccap) (by kernel_rfl) ?_
          refine WO.one (SA.F sameR sameT _ 13 _ (by kernel_rfl)) 124 (.pointer (some ⟨g, 0, none⟩)) (by kernel_rfl) ?_
          refine WO.one (SA.F sameR sameT _ 14 _ (by kernel_rfl)) 125 (.pointer (some ⟨g, 0, none⟩)) (by kernel_rfl) ?_
          refine WO.one (SA.F sameR sameT _ 15 _ (by kernel_rfl)) 126 (.pointer (some ⟨g, 2, none⟩)) (by kernel_rfl) ?_
          refine WO.ld (SA.S sameR sameT _ 16 _ (by kernel_rfl)) 127 (.int .i64 (s.pos : Int)) (by kernel_rfl) (same (HB59.at 2 (by kernel_rfl))) ?_
          refine WO.ix (SA.F sameR sameT _ 17 _ (by kernel_rfl)) 128 (ad_co.add s.pos) ad_co qs.length 1 (s.pos : Int) (by kernel_rfl) (by omega) (by omega) (by congr 1 <;> omega) ?_
          refine WO.ld (SA.S sameR sameT _ 18 _ (by kernel_rfl)) 129 (.int .i64 (g0 co s.pos)) (by kernel_rfl) (same (hcl s.pos (by omega))) ?_
          refine WO.one (SA.F sameR sameT _ 19 _ (by kernel_rfl)) 130 (.int .i64 (IntKind.i64.wrap ((g0 (vst qs s) s.pos) - (g0 co s.pos)))) (by kernel_rfl) ?_
          refine WO.top (v' := .int .i64 ((g0 (vst qs s) s.pos) - (g0 co s.pos))) (wrap_i64 (by omega) (by omega)) ?_
          refine WO.ixB (SA.F sameR sameT _ 20 _ (by kernel_rfl)) 131 s.pos b9 0 qs.length 1 (s.pos : Int) (by kernel_rfl) (by omega) (by omega) (by omega) ?_
          refine WO.stR (SA.E _ 21 _ (by kernel_rfl) rfl) b9 s.pos s.pos [.int .i64 ((g0 (vst qs s) s.pos) - (g0 co s.pos))] HR56 (by rw [List.length_map]; have := ((vst_len qs s).trans hgd.len); omega) rfl (by omega) rfl (by kernel_rfl) (fun _ _ => trivial) ?_
          intro w65 HR67 F66 _
          have HB59 := Blk.keep HB59 F66 (ninC ne_g_b9 (nin0 _))
          have hql := fun k hk => Fr.cellN F66 (hql k hk) (ninC ne_ad_q_block_b9 (nin0 _))
          have hcl := fun k hk => Fr.cellN F66 (hcl k hk) (ninC ne_ad_co_block_b9 (nin0 _))
          have HA := Fr.step HA F66 (inSD in_HA_b9 inS0)
          have HR67 : RowB w65 b9 3 1 cap10 (((vst qs s).set s.pos ((g0 (vst qs s) s.pos) - (g0 co s.pos))).map cI) := by rw [List.map_set]; exact HR67
          refine WO.doneA (by kernel_rfl) ?_
          refine WQ.keep [0, 1, 5, 8, 47, 58, 110] (e' := [(0, .pointer (some ⟨g, 0, none⟩)), (1, .slice (some ad_co) qs.length ccap), (5, .int .i64 (qs.length : Int)), (8, .slice (some ⟨b9, 0, none⟩) qs.length cap10), (47, .bool false), (58, .bool true), (110, .bool true)]) (by kernel_rfl) ?_
          refine WQ.thenN ?_
          refine WE.seq ?_
          -- R18 ref.go:98
          refine WE.region ?_
          refine WO.run 4 0 [(135, .pointer (some ⟨g, 1, none⟩)), (134, .pointer (some ⟨g, 0, none⟩)), (133, .slice (some ⟨b9, 0, none⟩) qs.length cap10), (132, .pointer (some ⟨g, 0, none⟩))] (by kernel_rfl) (by kernel_rfl) ?_
          refine WO.st (SQ.E 4 (by kernel_rfl)) g 1 [.slice (some ⟨b9, 0, none⟩) qs.length cap10] #[.slice (some ad_q) qs.length qcap, .slice (some ⟨b9, 0, none⟩) qs.length cap10, .int .i64 (s.pos : Int), .bool true] (by kernel_rfl) HB59 (by kernel_rfl) (by kernel_rfl) (fun _ _ => trivial) ?_
          intro w68 HB70 F69 _
          have HR67 := RowB.keep HR67 F69 (ninC (Ne.symm ne_g_b9) (nin0 _))
          have hql := fun k hk => Fr.cellN F69 (hql k hk) (ninC haq (nin0 _))
          have hcl := fun k hk => Fr.cellN F69 (hcl k hk) (ninC hac (nin0 _))
          have HA := Fr.step HA F69 (inSL (by simp) inS0)
          refine WO.done (by kernel_rfl) ?_
          refine WQ.keep [0, 1, 5, 8, 47, 58, 110] (e' := [(0, .pointer (some ⟨g, 0, none⟩)), (1, .slice (some ad_co) qs.length ccap), (5, .int .i64 (qs.length : Int)), (8, .slice (some ⟨b9, 0, none⟩) qs.length cap10), (47, .bool false), (58, .bool true), (110, .bool true)]) (by kernel_rfl) ?_
          refine WQ.thenN ?_
          refine WE.seq ?_
          -- R19 ref.go:99
          refine WE.region ?_
          refine WO.run 3 0 [(138, .pointer (some ⟨g, 2, none⟩)), (137, .pointer (some ⟨g, 0, none⟩)), (136, .pointer (some ⟨g, 0, none⟩))] (by kernel_rfl) (by kernel_rfl) ?_
          refine WO.ld (SQ.S 3 (by kernel_rfl)) 139 (.int .i64 (s.pos : Int)) (by kernel_rfl) (same (HB70.at 2 (by kernel_rfl))) ?_
          refine WO.run 1 4 [(4, .int .i64 (s.pos : Int))] (by kernel_rfl) (by kernel_rfl) ?_
          refine WO.done (by kernel_rfl) ?_
          refine WQ.keep [0, 1, 4, 5, 8, 47, 58, 110] (e' := [(0, .pointer (some ⟨g, 0, none⟩)), (1, .slice (some ad_co) qs.length ccap), (4, .int .i64 (s.pos : Int)), (5, .int .i64 (qs.length : Int)), (8, .slice (some ⟨b9, 0, none⟩) qs.length cap10), (47, .bool false), (58, .bool true), (110, .bool true)]) (by kernel_rfl) ?_
          refine WQ.thenN ?_
          refine WE.ret ?_
          refine WQ.thenR ?_
          refine WQ.blkR ?_
          refine WQ.thenR ?_
          refine WQ.blkR ?_
          refine WQ.ret (v := .int .i64 (s.pos : Int)) (by kernel_rfl) ?_
          rw [if_neg h16, if_pos h62] at hrun
          obtain rfl := Option.some.inj hrun
          exact ⟨_, _, rfl, HB70, HR67, HA, (in_HA_b9).resolve_left (by simpa using (Ne.symm ne_g_b9))⟩
        · intro h62
          refine WO.one (SA.F sameR sameT _ 24 _ (by kernel_rfl)) 110 (.bool false) (by kernel_rfl) ?_
          refine WO.doneA (by kernel_rfl) ?_
          refine WQ.keep [0, 1, 5, 8, 47, 58, 110] (e' := [(0, .pointer (some ⟨g, 0, none⟩)), (1, .slice (some ad_co) qs.length ccap), (5, .int .i64 (qs.length : Int)), (8, .slice (some ⟨b9, 0, none⟩) qs.length cap10), (47, .bool false), (58, .bool true), (110, .bool false)]) (by kernel_rfl) ?_
          refine WQ.thenN ?_
          refine WE.condF (by kernel_rfl) ?_
          refine WE.skip ?_
          refine WQ.thenN ?_
          refine WE.seq ?_
          -- R20 ref.go:101
          refine WE.region ?_
          refine WO.run 4 0 [(143, .pointer (some ⟨g, 1, none⟩)), (142, .pointer (some ⟨g, 0, none⟩)), (141, .slice (some ⟨b9, 0, none⟩) qs.length cap10), (140, .pointer (some ⟨g, 0, none⟩))] (by kernel_rfl) (by kernel_rfl) ?_
          refine WO.st (SQ.E 4 (by kernel_rfl)) g 1 [.slice (some ⟨b9, 0, none⟩) qs.length cap10] #[.slice (some ad_q) qs.length qcap, .slice (some ⟨b9, 0, none⟩) qs.length cap10, .int .i64 (s.pos : Int), .bool true] (by kernel_rfl) HB59 (by kernel_rfl) (by kernel_rfl) (fun _ _ => trivial) ?_
          intro w71 HB73 F72 _
          have HR56 := RowB.keep HR56 F72 (ninC (Ne.symm ne_g_b9) (nin0 _))
          have hql := fun k hk => Fr.cellN F72 (hql k hk) (ninC haq (nin0 _))
          have hcl := fun k hk => Fr.cellN F72 (hcl k hk) (ninC hac (nin0 _))
          have HA := Fr.step HA F72 (inSL (by simp) inS0)
          refine WO.done (by kernel_rfl) ?_
          refine WQ.keep [0, 1, 5, 8, 47, 58, 110] (e' := [(0, .pointer (some ⟨g, 0, none⟩)), (1, .slice (some ad_co) qs.length ccap), (5, .int .i64 (qs.length : Int)), (8, .slice (some ⟨b9, 0, none⟩) qs.length cap10), (47, .bool false), (58, .bool true), (110, .bool false)]) (by kernel_rfl) ?_
          refine WQ.thenN ?_
          refine WE.seq ?_
          -- R21 ref.go:102
          refine WE.region ?_
          refine WO.run 4 0 [(147, .pointer (some ⟨g, 2, none⟩)), (146, .pointer (some ⟨g, 0, none⟩)), (145, .pointer (some ⟨g, 0, none⟩)), (144, .pointer (some ⟨g, 0, none⟩))] (by kernel_rfl) (by kernel_rfl) ?_
          refine WO.ld (SQ.S 4 (by kernel_rfl)) 148 (.int .i64 (s.pos : Int)) (by kernel_rfl) (same (HB73.at 2 (by kernel_rfl))) ?_
          refine WO.one (SQ.F 5 (by kernel_rfl)) 149 (.int .i64 (IntKind.i64.wrap ((s.pos : Int) + 1))) (by kernel_rfl) ?_
          refine WO.top (v' := .int .i64 ((s.pos + 1 : Nat) : Int)) (wrap_i64 (by omega) (by omega)) ?_
          refine WO.run 1 6 [(150, .int .i64 (qs.length : Int))] (by kernel_rfl) (by kernel_rfl) ?_
          refine WO.rem (SQ.F 7 (by kernel_rfl)) 151 .i64 (s.pos + 1 : Int) (qs.length : Int) (by kernel_rfl) (by omega) ?_
          refine WO.top (v' := .int .i64 (((s.pos + 1) % qs.length : Nat) : Int)) rfl ?_
          refine WO.run 2 8 [(153, .pointer (some ⟨g, 2, none⟩)), (152, .pointer (some ⟨g, 0, none⟩))] (by kernel_rfl) (by kernel_rfl) ?_
          refine WO.st (SQ.E 10 (by kernel_rfl)) g 2 [.int .i64 (((s.pos + 1) % qs.length : Nat) : Int)] #[.slice (some ad_q) qs.length qcap, .slice (some ⟨b9, 0, none⟩) qs.length cap10, .int .i64 (((s.pos + 1) % qs.length : Nat) : Int), .bool true] (by kernel_rfl) HB73 (by kernel_rfl) (by kernel_rfl) (fun _ _ => trivial) ?_
          intro w74 HB76 F75 _
          have HR56 := RowB.keep HR56 F75 (ninC (Ne.symm ne_g_b9) (nin0 _))
          have hql := fun k hk => Fr.cellN F75 (hql k hk) (ninC haq (nin0 _))
          have hcl := fun k hk => Fr.cellN F75 (hcl k hk) (ninC hac (nin0 _))
          have HA := Fr.step HA F75 (inSL (by simp) inS0)
          refine WO.done (by kernel_rfl) ?_
          refine WQ.keep [0, 1, 5, 8, 47, 58, 110] (e' := [(0, .pointer (some ⟨g, 0, none⟩)), (1, .slice (some ad_co) qs.length ccap), (5, .int .i64 (qs.length : Int)), (8, .slice (some ⟨b9, 0, none⟩) qs.length cap10), (47, .bool false), (58, .bool true), (110, .bool false)]) (by kernel_rfl) ?_
          refine WQ.thenN ?_
          -- R22 ref.go:103
          refine WE.region ?_
          refine WO.run 3 0 [(156, .pointer (some ⟨g, 3, none⟩)), (155, .pointer (some ⟨g, 0, none⟩)), (154, .pointer (some ⟨g, 0, none⟩))] (by kernel_rfl) (by kernel_rfl) ?_
          refine WO.st (SQ.E 3 (by kernel_rfl)) g 3 [.bool false] #[.slice (some ad_q) qs.length qcap, .slice (some ⟨b9, 0, none⟩) qs.length cap10, .int .i64 (((s.pos + 1) % qs.length : Nat) : Int), .bool false] (by kernel_rfl) HB76 (by kernel_rfl) (by kernel_rfl) (fun _ _ => trivial) ?_
          intro w77 HB79 F78 _
          have HR56 := RowB.keep HR56 F78 (ninC (Ne.symm ne_g_b9) (nin0 _))
          have hql := fun k hk => Fr.cellN F78 (hql k hk) (ninC haq (nin0 _))
          have hcl := fun k hk => Fr.cellN F78 (hcl k hk) (ninC hac (nin0 _))
          have HA := Fr.step HA F78 (inSL (by simp) inS0)
          refine WO.done (by kernel_rfl) ?_
          refine WQ.keep [0, 1, 5, 8, 47, 58, 110] (e' := [(0, .pointer (some ⟨g, 0, none⟩)), (1, .slice (some ad_co) qs.length ccap), (5, .int .i64 (qs.length : Int)), (8, .slice (some ⟨b9, 0, none⟩) qs.length cap10), (47, .bool false), (58, .bool true), (110, .bool false)]) (by kernel_rfl) ?_
          refine WQ.blkN ?_
          refine WQ.round ?_
          intro a_ ha_
          refine ⟨(f, ⟨vst qs s, (s.pos + 1) % qs.length, false⟩, b9, cap10), ?_, ha_.keep [0, 1, 5] (by kernel_rfl), ?_⟩
          · show f < f + 1; omega
          · exact ⟨by rw [if_neg h16, if_neg h62] at hrun; exact hrun, hgd.on hq hc h62, HB79, HR56, hql, hcl, HA⟩

set_option maxRecDepth 100000 in
set_option maxHeartbeats 400000 in
theorem ints_same (b1 b2 c1 c2 n : Nat) (l : List Int) (w : World) (H1 : RowB w b1 3 1 c1 (l.map cI)) (H2 : RowB w b2 3 1 c2 (l.map cI)) (hn : l.length = n) (hm : n ≤ 4) :
    Calls Try.prog 70 #[.slice (some ⟨b1, 0, none⟩) n c1, .slice (some ⟨b2, 0, none⟩) n c2] w fun e w' => e = .returned (.bool true) ∧ Fr [] w w' := by
  have HA := Fr.refl [] w
  refine enter (N := 26) Try.func70 (c := _) rfl (by kernel_rfl) (by kernel_rfl) (e := [(0, .slice (some ⟨b1, 0, none⟩) n c1), (1, .slice (some ⟨b2, 0, none⟩) n c2)]) (by kernel_rfl) ?_
  refine WE.seq ?_
  -- R0 ref.go:108
  refine WE.region ?_
  refine WO.run 1 0 [(4, .bool false)] (by kernel_rfl) (by kernel_rfl) ?_
  refine WO.done (by kernel_rfl) ?_
  refine WQ.keep [0, 1, 4] (e' := [(0, .slice (some ⟨b1, 0, none⟩) n c1), (1, .slice (some ⟨b2, 0, none⟩) n c2), (4, .bool false)]) (by kernel_rfl) ?_
  refine WQ.thenN ?_
  refine WE.seq ?_
  refine WE.seq ?_
  -- R1 ref.go:109
  refine WE.region ?_
  refine WO.run 4 0 [(9, .int .i64 (n : Int)), (8, .slice (some ⟨b2, 0, none⟩) n c2), (7, .int .i64 (n : Int)), (6, .slice (some ⟨b1, 0, none⟩) n c1)] (by kernel_rfl) (by kernel_rfl) ?_
  refine WO.one (SQ.F 4 (by kernel_rfl)) 10 (.bool (!decide (((n : Int) : Int) = (n : Int)))) (by kernel_rfl) ?_
  refine WO.topNT (((n : Int) : Int) = (n : Int)) (by rfl) ?_
  refine WO.done (by kernel_rfl) ?_
  refine WQ.keep [0, 1, 4, 10] (e' := [(0, .slice (some ⟨b1, 0, none⟩) n c1), (1, .slice (some ⟨b2, 0, none⟩) n c2), (4, .bool false), (10, .bool false)]) (by kernel_rfl) ?_
  refine WQ.thenN ?_
  refine WE.condF (by kernel_rfl) ?_
  refine WE.skip ?_
  refine WQ.thenN ?_
  refine WE.seq ?_
  refine WE.seq ?_
  -- R3 ref.go:112
  refine WE.region ?_
  refine WO.run 1 0 [(5, .int .i64 0)] (by kernel_rfl) (by kernel_rfl) ?_
  refine WO.done (by kernel_rfl) ?_
  refine WQ.keep [0, 1, 4, 5, 10] (e' := [(0, .slice (some ⟨b1, 0, none⟩) n c1), (1, .slice (some ⟨b2, 0, none⟩) n c2), (4, .bool false), (5, .int .i64 0), (10, .bool false)]) (by kernel_rfl) ?_
  refine WQ.thenN ?_
  refine WE.block ?_
  refine WE.loop (α := Nat) (E := fun k => [(0, .slice (some ⟨b1, 0, none⟩) n c1), (1, .slice (some ⟨b2, 0, none⟩) n c2), (4, .bool false), (5, .int .i64 (k : Int)), (10, .bool false)]) (I := fun k wr => k ≤ n ∧ RowB wr b1 3 1 c1 (l.map cI) ∧ RowB wr b2 3 1 c2 (l.map cI) ∧ Fr [] w wr) (m := fun k => n - k) 0 [0, 1, 4, 5, 10] (by kernel_rfl) ?_ ?_
  · exact ⟨Nat.zero_le _, H1, H2, HA⟩
  rintro k wr ⟨hk, H1, H2, HA⟩
  refine WE.seq ?_
  refine WE.seq ?_
  -- R4 ref.go:112
  refine WE.region ?_
  refine WO.run 3 0 [(13, .int .i64 (n : Int)), (12, .slice (some ⟨b1, 0, none⟩) n c1), (11, .int .i64 (k : Int))] (by kernel_rfl) (by kernel_rfl) ?_
  refine WO.one (SQ.F 3 (by kernel_rfl)) 14 (.bool (decide (((k : Int) : Int) < (n : Int)))) (by kernel_rfl) ?_
  refine WO.topP (((k : Int) : Int) < (n : Int)) ?_ ?_
  · intro h1
    refine WO.done (by kernel_rfl) ?_
    refine WQ.keep [0, 1, 4, 5, 10, 14] (e' := [(0, .slice (some ⟨b1, 0, none⟩) n c1), (1, .slice (some ⟨b2, 0, none⟩) n c2), (4, .bool false), (5, .int .i64 (k : Int)), (10, .bool false), (14, .bool true)]) (by kernel_rfl) ?_
    refine WQ.thenN ?_
    refine WE.condT (by kernel_rfl) ?_
    refine WE.skip ?_
    refine WQ.thenN ?_
    refine WE.seq ?_
    refine WE.block ?_
    refine WE.seq ?_
    -- R6* ref.go:113
    refine WE.draw [.free, .free, .free, .still, .free, .free, .free, .still, .free] Same sameR (by kernel_rfl) 9 (Array.replicate 9 false) (by kernel_rfl) rfl ?_
    intro w2 F3 _
    have H1 := RowB.keep H1 F3 (nin0 _)
    have H2 := RowB.keep H2 F3 (nin0 _)
    have HA := Fr.step0 HA F3
    refine WO.one (SA.F sameR sameT _ 0 _ (by kernel_rfl)) 17 (.slice (some ⟨b1, 0, none⟩) n c1) (by kernel_rfl) ?_
    refine WO.one (SA.F sameR sameT _ 1 _ (by kernel_rfl)) 18 (.int .i64 (k : Int)) (by kernel_rfl) ?_
    refine WO.ixB (SA.F sameR sameT _ 2 _ (by kernel_rfl)) 19 k b1 0 n 1 (k : Int) (by kernel_rfl) (by omega) (by omega) (by omega) ?_
    refine WO.ld (SA.S sameR sameT _ 3 _ (by kernel_rfl)) 20 (.int .i64 (g0 l k)) (by kernel_rfl) (same (H1.at k 0 k _ (by rw [List.length_map]; have := hn; omega) (by omega) (by rw [(map_atI l k (by have := hn; omega))]; rfl) (by omega))) ?_
    refine WO.one (SA.F sameR sameT _ 4 _ (by kernel_rfl)) 21 (.slice (some ⟨b2, 0, none⟩) n c2) (by kernel_rfl) ?_
    refine WO.one (SA.F sameR sameT _ 5 _ (by kernel_rfl)) 22 (.int .i64 (k : Int)) (by kernel_rfl) ?_
    refine WO.ixB (SA.F sameR sameT _ 6 _ (by kernel_rfl)) 23 k b2 0 n 1 (k : Int) (by kernel_rfl) (by omega) (by omega) (by omega) ?_
    refine WO.ld (SA.S sameR sameT _ 7 _ (by kernel_rfl)) 24 (.int .i64 (g0 l k)) (by kernel_rfl) (same (H2.at k 0 k _ (by rw [List.length_map]; have := hn; omega) (by omega) (by rw [(map_atI l k (by have := hn; omega))]; rfl) (by omega))) ?_
    refine WO.one (SA.F sameR sameT _ 8 _ (by kernel_rfl)) 25 (.bool (!decide ((g0 l k : Int) = (g0 l k)))) (by kernel_rfl) ?_
    refine WO.topNT ((g0 l k : Int) = (g0 l k)) (by rfl) ?_
    refine WO.doneA (by kernel_rfl) ?_
    refine WQ.keep [0, 1, 4, 5, 10, 14, 25] (e' := [(0, .slice (some ⟨b1, 0, none⟩) n c1), (1, .slice (some ⟨b2, 0, none⟩) n c2), (4, .bool false), (5, .int .i64 (k : Int)), (10, .bool false), (14, .bool true), (25, .bool false)]) (by kernel_rfl) ?_
    refine WQ.thenN ?_
    refine WE.condF (by kernel_rfl) ?_
    refine WE.skip ?_
    refine WQ.blkN ?_
    refine WQ.thenN ?_
    -- R5 ref.go:112
    refine WE.region ?_
    refine WO.run 1 0 [(15, .int .i64 (k : Int))] (by kernel_rfl) (by kernel_rfl) ?_
    refine WO.one (SQ.F 1 (by kernel_rfl)) 16 (.int .i64 (IntKind.i64.wrap ((k : Int) + 1))) (by kernel_rfl) ?_
    refine WO.top (v' := .int .i64 ((k + 1 : Nat) : Int)) (wrap_i64 (by omega) (by omega)) ?_
    refine WO.run 1 2 [(5, .int .i64 ((k + 1 : Nat) : Int))] (by kernel_rfl) (by kernel_rfl) ?_
    refine WO.done (by kernel_rfl) ?_
    refine WQ.keep [0, 1, 4, 5, 10, 14, 25] (e' := [(0, .slice (some ⟨b1, 0, none⟩) n c1), (1, .slice (some ⟨b2, 0, none⟩) n c2), (4, .bool false), (5, .int .i64 ((k + 1 : Nat) : Int)), (10, .bool false), (14, .bool true), (25, .bool false)]) (by kernel_rfl) ?_
    refine WQ.round ?_
    intro a_ ha_
    refine ⟨k + 1, ?_, ha_.keep [0, 1, 4, 5, 10] (by kernel_rfl), ?_⟩
    · show n - (k + 1) < n - k; omega
    · exact ⟨by omega, H1, H2, HA⟩
  · intro h1
    refine WO.done (by kernel_rfl) ?_
    refine WQ.keep [0, 1, 4, 5, 10, 14] (e' := [(0, .slice (some ⟨b1, 0, none⟩) n c1), (1, .slice (some ⟨b2, 0, none⟩) n c2), (4, .bool false), (5, .int .i64 (k : Int)), (10, .bool false), (14, .bool false)]) (by kernel_rfl) ?_
    refine WQ.thenN ?_
    refine WE.condF (by kernel_rfl) ?_
    refine WE.exit ?_
    refine WQ.thenE ?_
    refine WQ.thenE ?_
    refine WQ.blkE ?_
    refine WQ.thenN ?_
    refine WE.seq ?_
    -- R8 ref.go:117
    refine WE.region ?_
    refine WO.run 1 0 [(4, .bool true)] (by kernel_rfl) (by kernel_rfl) ?_
    refine WO.done (by kernel_rfl) ?_
    refine WQ.keep [0, 1, 4, 5, 10, 14] (e' := [(0, .slice (some ⟨b1, 0, none⟩) n c1), (1, .slice (some ⟨b2, 0, none⟩) n c2), (4, .bool true), (5, .int .i64 (k : Int)), (10, .bool false), (14, .bool false)]) (by kernel_rfl) ?_
    refine WQ.thenN ?_
    refine WE.ret ?_
    refine WQ.ret (v := .bool true) (by kernel_rfl) ?_
    exact ⟨rfl, HA⟩

set_option maxRecDepth 100000 in
set_option maxHeartbeats 400000 in
theorem right_any (A : Option Addr) (n cap : Nat) (l : List Int) (w : World) (hn : l.length = n) (hm : n ≤ 9223372036854775807) (hrd : Rd w A l) :
    Calls Try.prog 67 #[.slice A n cap] w fun e w' => e = .returned (.bool (rightQ l)) ∧ Fr [] w w' := by
  have HA := Fr.refl [] w
  refine enter (N := 30) Try.func67 (c := _) rfl (by kernel_rfl) (by kernel_rfl) (e := [(0, .slice A n cap)]) (by kernel_rfl) ?_
  refine WE.seq ?_
  -- R0 law.go:24
  refine WE.region ?_
  refine WO.run 1 0 [(2, .bool false)] (by kernel_rfl) (by kernel_rfl) ?_
  refine WO.done (by kernel_rfl) ?_
  refine WQ.keep [0, 2] (e' := [(0, .slice A n cap), (2, .bool false)]) (by kernel_rfl) ?_
  refine WQ.thenN ?_
  refine WE.seq ?_
  refine WE.seq ?_
  -- R1 law.go:25
  refine WE.region ?_
  refine WO.run 1 0 [(3, .int .i64 0)] (by kernel_rfl) (by kernel_rfl) ?_
  refine WO.done (by kernel_rfl) ?_
  refine WQ.keep [0, 2, 3] (e' := [(0, .slice A n cap), (2, .bool false), (3, .int .i64 0)]) (by kernel_rfl) ?_
  refine WQ.thenN ?_
  refine WE.block ?_
  refine WE.loop (α := Nat) (E := fun k => [(0, .slice A n cap), (2, .bool false), (3, .int .i64 (k : Int))]) (I := fun k wr => k ≤ n ∧ (l.take k).any oddQ = false ∧ Fr [] w wr) (m := fun k => n - k) 0 [0, 2, 3] (by kernel_rfl) ?_ ?_
  · exact ⟨Nat.zero_le _, rfl, HA⟩
  rintro k wr ⟨hk, hany, HA⟩
  refine WE.seq ?_
  refine WE.seq ?_
  -- R2 law.go:25
  refine WE.region ?_
  refine WO.run 3 0 [(6, .int .i64 (n : Int)), (5, .slice A n cap), (4, .int .i64 (k : Int))] (by kernel_rfl) (by kernel_rfl) ?_
  refine WO.one (SQ.F 3 (by kernel_rfl)) 7 (.bool (decide (((k : Int) : Int) < (n : Int)))) (by kernel_rfl) ?_
  refine WO.topP (((k : Int) : Int) < (n : Int)) ?_ ?_
  · intro h1
    refine WO.done (by kernel_rfl) ?_
    refine WQ.keep [0, 2, 3, 7] (e' := [(0, .slice A n cap), (2, .bool false), (3, .int .i64 (k : Int)), (7, .bool true)]) (by kernel_rfl) ?_
    refine WQ.thenN ?_
    refine WE.condT (by kernel_rfl) ?_
    refine WE.skip ?_
    refine WQ.thenN ?_
    refine WE.seq ?_
    refine WE.block ?_
    refine WE.seq ?_
    -- R4 law.go:26
    refine WE.region ?_
    refine WO.run 2 0 [(11, .int .i64 (k : Int)), (10, .slice A n cap)] (by kernel_rfl) (by kernel_rfl) ?_
    obtain ⟨ad_l, hA_l, hcl_l⟩ := hrd k (by omega)
    subst hA_l
    refine WO.ix (SQ.F 2 (by kernel_rfl)) 12 (ad_l.add k) ad_l n 1 (k : Int) (by kernel_rfl) (by omega) (by omega) (by congr 1 <;> omega) ?_
    refine WO.ld (SQ.S 3 (by kernel_rfl)) 13 (.int .i64 (g0 l k)) (by kernel_rfl) (same (HA.cell0 hcl_l)) ?_
    refine WO.one (SQ.F 4 (by kernel_rfl)) 14 (.bool (decide ((g0 l k : Int) < 1))) (by kernel_rfl) ?_
    refine WO.topP ((g0 l k : Int) < 1) ?_ ?_
    · intro h2
      refine WO.run 3 5 [(17, undef), (16, undef), (15, .bool true)] (by kernel_rfl) (by kernel_rfl) ?_
      refine WO.off (SQ.O 8 (by kernel_rfl)) 18 (by kernel_rfl) ?_
      refine WO.run 3 9 [(21, .bool true), (20, undef), (19, undef)] (by kernel_rfl) (by kernel_rfl) ?_
      refine WO.done (by kernel_rfl) ?_
      refine WQ.keep [0, 2, 3, 7, 21] (e' := [(0, .slice (some ad_l) n cap), (2, .bool false), (3, .int .i64 (k : Int)), (7, .bool true), (21, .bool true)]) (by kernel_rfl) ?_
      refine WQ.thenN ?_
      refine WE.condT (by kernel_rfl) ?_
      refine WE.seq ?_
      -- R5 law.go:27
      refine WE.region ?_
      refine WO.run 1 0 [(2, .bool false)] (by kernel_rfl) (by kernel_rfl) ?_
      refine WO.done (by kernel_rfl) ?_
      refine WQ.keep [0, 2, 3, 7, 21] (e' := [(0, .slice (some ad_l) n cap), (2, .bool false), (3, .int .i64 (k : Int)), (7, .bool true), (21, .bool true)]) (by kernel_rfl) ?_
      refine WQ.thenN ?_
      refine WE.ret ?_
      refine WQ.blkR ?_
      refine WQ.thenR ?_
      refine WQ.thenR ?_
      refine WQ.blkR ?_
      refine WQ.thenR ?_
      refine WQ.ret (v := .bool false) (by kernel_rfl) ?_
      have hod : oddQ (g0 l k) = true := by unfold oddQ; simp; omega
      have han : l.any oddQ = true := List.any_eq_true.2 ⟨_, g0_mem l (show k < l.length by omega), hod⟩
      exact ⟨by rw [rightQ, han]; rfl, HA⟩
    · intro h2
      refine WO.run 3 5 [(17, .int .i64 (k : Int)), (16, .slice (some ad_l) n cap), (15, .bool false)] (by kernel_rfl) (by kernel_rfl) ?_
      refine WO.ix (SQ.F 8 (by kernel_rfl)) 18 (ad_l.add k) ad_l n 1 (k : Int) (by kernel_rfl) (by omega) (by omega) (by congr 1 <;> omega) ?_
      refine WO.ld (SQ.S 9 (by kernel_rfl)) 19 (.int .i64 (g0 l k)) (by kernel_rfl) (same (HA.cell0 hcl_l)) ?_
      refine WO.one (SQ.F 10 (by kernel_rfl)) 20 (.bool (decide ((g0 l k : Int) > 1000))) (by kernel_rfl) ?_
      refine WO.topP ((g0 l k : Int) > 1000) ?_ ?_
      · intro h3
        refine WO.run 1 11 [(21, .bool true)] (by kernel_rfl) (by kernel_rfl) ?_
        refine WO.done (by kernel_rfl) ?_
        refine WQ.keep [0, 2, 3, 7, 21] (e' := [(0, .slice (some ad_l) n cap), (2, .bool false), (3, .int .i64 (k : Int)), (7, .bool true), (21, .bool true)]) (by kernel_rfl) ?_
        refine WQ.thenN ?_
        refine WE.condT (by kernel_rfl) ?_
        refine WE.seq ?_
        -- R5 law.go:27
        refine WE.region ?_
        refine WO.run 1 0 [(2, .bool false)] (by kernel_rfl) (by kernel_rfl) ?_
        refine WO.done (by kernel_rfl) ?_
        refine WQ.keep [0, 2, 3, 7, 21] (e' := [(0, .slice (some ad_l) n cap), (2, .bool false), (3, .int .i64 (k : Int)), (7, .bool true), (21, .bool true)]) (by kernel_rfl) ?_
        refine WQ.thenN ?_
        refine WE.ret ?_
        refine WQ.blkR ?_
        refine WQ.thenR ?_
        refine WQ.thenR ?_
        refine WQ.blkR ?_
        refine WQ.thenR ?_
        refine WQ.ret (v := .bool false) (by kernel_rfl) ?_
        have hod : oddQ (g0 l k) = true := by unfold oddQ; simp; omega
        have han : l.any oddQ = true := List.any_eq_true.2 ⟨_, g0_mem l (show k < l.length by omega), hod⟩
        exact ⟨by rw [rightQ, han]; rfl, HA⟩
      · intro h3
        refine WO.run 1 11 [(21, .bool false)] (by kernel_rfl) (by kernel_rfl) ?_
        refine WO.done (by kernel_rfl) ?_
        refine WQ.keep [0, 2, 3, 7, 21] (e' := [(0, .slice (some ad_l) n cap), (2, .bool false), (3, .int .i64 (k : Int)), (7, .bool true), (21, .bool false)]) (by kernel_rfl) ?_
        refine WQ.thenN ?_
        refine WE.condF (by kernel_rfl) ?_
        refine WE.skip ?_
        refine WQ.blkN ?_
        refine WQ.thenN ?_
        -- R3 law.go:25
        refine WE.region ?_
        refine WO.run 1 0 [(8, .int .i64 (k : Int))] (by kernel_rfl) (by kernel_rfl) ?_
        refine WO.one (SQ.F 1 (by kernel_rfl)) 9 (.int .i64 (IntKind.i64.wrap ((k : Int) + 1))) (by kernel_rfl) ?_
        refine WO.top (v' := .int .i64 ((k + 1 : Nat) : Int)) (wrap_i64 (by omega) (by omega)) ?_
        refine WO.run 1 2 [(3, .int .i64 ((k + 1 : Nat) : Int))] (by kernel_rfl) (by kernel_rfl) ?_
        refine WO.done (by kernel_rfl) ?_
        refine WQ.keep [0, 2, 3, 7, 21] (e' := [(0, .slice (some ad_l) n cap), (2, .bool false), (3, .int .i64 ((k + 1 : Nat) : Int)), (7, .bool true), (21, .bool false)]) (by kernel_rfl) ?_
        refine WQ.round ?_
        intro a_ ha_
        refine ⟨k + 1, ?_, ha_.keep [0, 2, 3] (by kernel_rfl), ?_⟩
        · show n - (k + 1) < n - k; omega
        · exact ⟨by omega, by rw [any_step _ _ _ (by omega), hany]; simp [oddQ]; omega, HA⟩
  · intro h1
    refine WO.done (by kernel_rfl) ?_
    refine WQ.keep [0, 2, 3, 7] (e' := [(0, .slice A n cap), (2, .bool false), (3, .int .i64 (k : Int)), (7, .bool false)]) (by kernel_rfl) ?_
    refine WQ.thenN ?_
    refine WE.condF (by kernel_rfl) ?_
    refine WE.exit ?_
    refine WQ.thenE ?_
    refine WQ.thenE ?_
    refine WQ.blkE ?_
    refine WQ.thenN ?_
    refine WE.seq ?_
    -- R6 law.go:30
    refine WE.region ?_
    refine WO.run 2 0 [(23, .int .i64 (n : Int)), (22, .slice A n cap)] (by kernel_rfl) (by kernel_rfl) ?_
    refine WO.one (SQ.F 2 (by kernel_rfl)) 24 (.bool (decide (((n : Int) : Int) ≥ (1 : Int)))) (by kernel_rfl) ?_
    refine WO.topP (((n : Int) : Int) ≥ (1 : Int)) ?_ ?_
    · intro h4
      refine WO.run 6 3 [(2, .bool (decide (((n : Int) : Int) ≤ (4 : Int)))), (29, .bool (decide (((n : Int) : Int) ≤ (4 : Int)))), (28, .bool (decide (((n : Int) : Int) ≤ (4 : Int)))), (27, .int .i64 (n : Int)), (26, .slice A n cap), (25, .bool true)] (by kernel_rfl) (by kernel_rfl) ?_
      refine WO.done (by kernel_rfl) ?_
      refine WQ.keep [0, 2, 3, 7] (e' := [(0, .slice A n cap), (2, .bool (decide (((n : Int) : Int) ≤ (4 : Int)))), (3, .int .i64 (k : Int)), (7, .bool false)]) (by kernel_rfl) ?_
      refine WQ.thenN ?_
      refine WE.ret ?_
      refine WQ.ret (v := .bool (decide (((n : Int) : Int) ≤ (4 : Int)))) (by kernel_rfl) ?_
      have han : l.any oddQ = false := by rw [List.take_of_length_le (show l.length ≤ k by omega)] at hany; exact hany
      exact ⟨congrArg (fun b => Ending.returned (Value.bool b)) (by rw [rightQ, han, Bool.eq_iff_iff]; simp <;> omega), HA⟩
    · intro h4
      refine WO.run 6 3 [(2, .bool false), (29, .bool false), (28, undef), (27, undef), (26, undef), (25, .bool false)] (by kernel_rfl) (by kernel_rfl) ?_
      refine WO.done (by kernel_rfl) ?_
      refine WQ.keep [0, 2, 3, 7] (e' := [(0, .slice A n cap), (2, .bool false), (3, .int .i64 (k : Int)), (7, .bool false)]) (by kernel_rfl) ?_
      refine WQ.thenN ?_
      refine WE.ret ?_
      refine WQ.ret (v := .bool false) (by kernel_rfl) ?_
      have han : l.any oddQ = false := by rw [List.take_of_length_le (show l.length ≤ k by omega)] at hany; exact hany
      exact ⟨congrArg (fun b => Ending.returned (Value.bool b)) (by rw [rightQ, han, Bool.eq_iff_iff]; simp <;> omega), HA⟩
end Go.Proofs.Ytjkaldnhfenbhaa.Deficit
