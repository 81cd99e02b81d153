/- Layer 12's walks: Pick. -/
import Derived.Test.YtjkaldnhfenbhaaDeficitW
set_option linter.unusedVariables false
set_option linter.unusedSimpArgs false
namespace Go.Proofs.Ytjkaldnhfenbhaa.Deficit
open Go Go.RowKit Go.Proofs.Ytjkaldnhfenbhaa Go.Proofs.Ytjkaldnhfenbhaa.Eng Go.Proofs.YtjkaldnhfenbhaaW.PrintWords
theorem add_block (a : Addr) (k : Nat) : (a.add k).block = a.block := by
  unfold Addr.add
  split <;> rfl
theorem _root_.Go.Proofs.Ytjkaldnhfenbhaa.Fr.cellN {S : List Nat} {w w1 : World} (h : Fr S w w1) {a : Addr} {k : Nat} {v : Value} (hc : w.cell? (a.add k) = some v) (hn : a.block ∉ S) : w1.cell? (a.add k) = some v := by
  have h1 := World.block_lt_of_cell? w _ hc
  have h2 := h.block (a.add k).block h1 (by rw [add_block]; exact hn)
  rw [← hc]
  unfold World.cell?
  rw [h2]
set_option maxRecDepth 100000 in
set_option maxHeartbeats 400000 in
theorem pick_bad (g bq bc cq cc : Nat) (qs : List Int) (s : St) (w : World) (HB : Blk w g #[.slice (some ⟨bq, 0, none⟩) qs.length cq, .slice (some ⟨bc, 0, none⟩) qs.length cc, .int .i64 (s.pos : Int), .bool s.vis] 144) (HQ : RowB w bq 3 1 cq (qs.map cI)) (HC : RowB w bc 3 1 cc (s.cs.map cI)) (hgd : Good qs s) (n1 : g ≠ bq) (n2 : g ≠ bc) (n3 : bq ≠ bc) (hq : GoodQ qs)(A : Option Addr) (cn ccap : Nat) (co : List Int) (hcn : co.length = cn) (hrd : Rd w A co) (hm : cn ≤ 9223372036854775807) (hbad : cn ≠ qs.length ∨ co.any oddC = true) :
    Calls Try.prog 68 #[.pointer (some ⟨g, 0, none⟩), .slice A cn ccap] w fun e w' => e = .returned (.tuple #[.int .i64 0, .iface 29 (.int .i64 1)]) ∧ Fr [] w w' := by
  have hqn := hq.n4
  have HA := Fr.refl [] w
  refine enter (N := 111) Try.func68 (c := _) rfl (by kernel_rfl) (by kernel_rfl) (e := [(0, .pointer (some ⟨g, 0, none⟩)), (1, .slice A cn ccap)]) (by kernel_rfl) ?_
  refine WE.seq ?_
  -- R0 deficit.go:33
  refine WE.region ?_
  refine WO.run 2 0 [(5, .nilIface), (4, .int .i64 0)] (by kernel_rfl) (by kernel_rfl) ?_
  refine WO.done (by kernel_rfl) ?_
  refine WQ.keep [0, 1, 4, 5] (e' := [(0, .pointer (some ⟨g, 0, none⟩)), (1, .slice A cn ccap), (4, .int .i64 0), (5, .nilIface)]) (by kernel_rfl) ?_
  refine WQ.thenN ?_
  refine WE.scope ?_
  refine WE.seq ?_
  -- R1 deficit.go:34
  refine WE.region ?_
  refine WO.run 1 0 [(6, .func (.func 85) #[] #[])] (by kernel_rfl) (by kernel_rfl) ?_
  refine WO.done (by kernel_rfl) ?_
  refine WQ.keep [0, 1, 4, 5, 6] (e' := [(0, .pointer (some ⟨g, 0, none⟩)), (1, .slice A cn ccap), (4, .int .i64 0), (5, .nilIface), (6, .func (.func 85) #[] #[])]) (by kernel_rfl) ?_
  refine WQ.thenN ?_
  refine WE.seq ?_
  -- R2 deficit.go:35
  refine WE.region ?_
  refine WO.run 1 0 [(7, .func (.func 86) #[] #[])] (by kernel_rfl) (by kernel_rfl) ?_
  refine WO.done (by kernel_rfl) ?_
  refine WQ.keep [0, 1, 4, 5, 6, 7] (e' := [(0, .pointer (some ⟨g, 0, none⟩)), (1, .slice A cn ccap), (4, .int .i64 0), (5, .nilIface), (6, .func (.func 85) #[] #[]), (7, .func (.func 86) #[] #[])]) (by kernel_rfl) ?_
  refine WQ.thenN ?_
  refine WE.seq ?_
  refine WE.block ?_
  refine WE.seq ?_
  -- R3 deficit.go:37
  refine WE.region ?_
  refine WO.run 5 0 [(14, .pointer (some ⟨g, 0, none⟩)), (13, .pointer (some ⟨g, 0, none⟩)), (12, .pointer (some ⟨g, 0, none⟩)), (11, .int .i64 (cn : Int)), (10, .slice A cn ccap)] (by kernel_rfl) (by kernel_rfl) ?_
  refine WO.ld (SQ.S 5 (by kernel_rfl)) 15 (.slice (some ⟨bq, 0, none⟩) qs.length cq) (by kernel_rfl) (same (HB.at 0 (by kernel_rfl))) ?_
  refine WO.run 1 6 [(16, .int .i64 (qs.length : Int))] (by kernel_rfl) (by kernel_rfl) ?_
  refine WO.one (SQ.F 7 (by kernel_rfl)) 17 (.bool (!decide (((cn : Int) : Int) = (qs.length : Int)))) (by kernel_rfl) ?_
  refine WO.topN (((cn : Int) : Int) = (qs.length : Int)) ?_ ?_
  · intro h1
    refine WO.run 3 8 [(20, .func (.func 85) #[] #[]), (19, .slice A cn ccap), (18, .bool false)] (by kernel_rfl) (by kernel_rfl) ?_
    refine WO.call (SQ.E 11 (by kernel_rfl)) 21 (by kernel_rfl) (contains_85 A cn ccap co _ hcn (by omega) (hrd.keep HA)) ?_
    rintro _ w2 ⟨rfl, F3⟩
    refine ⟨_, rfl, trivial, ?_⟩
    have HB := Blk.keep HB F3 (nin0 _)
    have HQ := RowB.keep HQ F3 (nin0 _)
    have HC := RowB.keep HC F3 (nin0 _)
    have HA := Fr.step0 HA F3
    refine WO.top (v' := .bool true) (congrArg Value.bool (by exact hbad.resolve_left (fun h_ => by omega))) ?_
    refine WO.run 2 12 [(9, .bool true), (22, .bool true)] (by kernel_rfl) (by kernel_rfl) ?_
    refine WO.done (by kernel_rfl) ?_
    refine WQ.keep [0, 1, 4, 5, 6, 7, 9] (e' := [(0, .pointer (some ⟨g, 0, none⟩)), (1, .slice A cn ccap), (4, .int .i64 0), (5, .nilIface), (6, .func (.func 85) #[] #[]), (7, .func (.func 86) #[] #[]), (9, .bool true)]) (by kernel_rfl) ?_
    refine WQ.thenN ?_
    refine WE.condT (by kernel_rfl) ?_
    refine WE.seq ?_
    -- R4 deficit.go:38
    refine WE.region ?_
    refine WO.run 3 0 [(5, .iface 29 (.int .i64 1)), (4, .int .i64 0), (23, .iface 29 (.int .i64 1))] (by kernel_rfl) (by kernel_rfl) ?_
    refine WO.done (by kernel_rfl) ?_
    refine WQ.keep [0, 1, 4, 5, 6, 7, 9] (e' := [(0, .pointer (some ⟨g, 0, none⟩)), (1, .slice A cn ccap), (4, .int .i64 0), (5, .iface 29 (.int .i64 1)), (6, .func (.func 85) #[] #[]), (7, .func (.func 86) #[] #[]), (9, .bool true)]) (by kernel_rfl) ?_
    refine WQ.thenN ?_
    refine WE.ret ?_
    refine WQ.blkR ?_
    refine WQ.thenR ?_
    refine WQ.scR ?_
    refine WQ.ret (v := .tuple #[.int .i64 0, .iface 29 (.int .i64 1)]) (by kernel_rfl) ?_
    exact ⟨rfl, HA⟩
  · intro h1
    refine WO.run 6 8 [(9, .bool true), (22, .bool true), (21, undef), (20, undef), (19, undef), (18, .bool true)] (by kernel_rfl) (by kernel_rfl) ?_
    refine WO.done (by kernel_rfl) ?_
    refine WQ.keep [0, 1, 4, 5, 6, 7, 9] (e' := [(0, .pointer (some ⟨g, 0, none⟩)), (1, .slice A cn ccap), (4, .int .i64 0), (5, .nilIface), (6, .func (.func 85) #[] #[]), (7, .func (.func 86) #[] #[]), (9, .bool true)]) (by kernel_rfl) ?_
    refine WQ.thenN ?_
    refine WE.condT (by kernel_rfl) ?_
    refine WE.seq ?_
    -- R4 deficit.go:38
    refine WE.region ?_
    refine WO.run 3 0 [(5, .iface 29 (.int .i64 1)), (4, .int .i64 0), (23, .iface 29 (.int .i64 1))] (by kernel_rfl) (by kernel_rfl) ?_
    refine WO.done (by kernel_rfl) ?_
    refine WQ.keep [0, 1, 4, 5, 6, 7, 9] (e' := [(0, .pointer (some ⟨g, 0, none⟩)), (1, .slice A cn ccap), (4, .int .i64 0), (5, .iface 29 (.int .i64 1)), (6, .func (.func 85) #[] #[]), (7, .func (.func 86) #[] #[]), (9, .bool true)]) (by kernel_rfl) ?_
    refine WQ.thenN ?_
    refine WE.ret ?_
    refine WQ.blkR ?_
    refine WQ.thenR ?_
    refine WQ.scR ?_
    refine WQ.ret (v := .tuple #[.int .i64 0, .iface 29 (.int .i64 1)]) (by kernel_rfl) ?_
    exact ⟨rfl, HA⟩

set_option maxRecDepth 100000 in
set_option maxHeartbeats 400000 in
theorem pick_none (g bq bc cq cc : Nat) (qs : List Int) (s : St) (w : World) (HB : Blk w g #[.slice (some ⟨bq, 0, none⟩) qs.length cq, .slice (some ⟨bc, 0, none⟩) qs.length cc, .int .i64 (s.pos : Int), .bool s.vis] 144) (HQ : RowB w bq 3 1 cq (qs.map cI)) (HC : RowB w bc 3 1 cc (s.cs.map cI)) (hgd : Good qs s) (n1 : g ≠ bq) (n2 : g ≠ bc) (n3 : bq ≠ bc) (hq : GoodQ qs)(A : Option Addr) (ccap : Nat) (co : List Int) (hcn : co.length = qs.length) (hrd : Rd w A co) (hbad : co.any oddC = false) (hsome : co.any someC = false) :
    Calls Try.prog 68 #[.pointer (some ⟨g, 0, none⟩), .slice A qs.length ccap] w fun e w' => e = .returned (.tuple #[.int .i64 (-1), .nilIface]) ∧ Blk w' g #[.slice (some ⟨bq, 0, none⟩) qs.length cq, .slice (some ⟨bc, 0, none⟩) qs.length cc, .int .i64 (s.pos : Int), .bool s.vis] 144 ∧ RowB w' bq 3 1 cq (qs.map cI) ∧ RowB w' bc 3 1 cc ((List.replicate qs.length 0).map cI) ∧ Fr [bc] w w' := by
  have hqn := hq.n4
  have hqn1 := hq.n1
  have HZ := Fr.refl [] w
  have HA := Fr.refl [bc] w
  refine enter (N := 111) Try.func68 (c := _) rfl (by kernel_rfl) (by kernel_rfl) (e := [(0, .pointer (some ⟨g, 0, none⟩)), (1, .slice A qs.length ccap)]) (by kernel_rfl) ?_
  refine WE.seq ?_
  -- R0 deficit.go:33
  refine WE.region ?_
  refine WO.run 2 0 [(5, .nilIface), (4, .int .i64 0)] (by kernel_rfl) (by kernel_rfl) ?_
  refine WO.done (by kernel_rfl) ?_
  refine WQ.keep [0, 1, 4, 5] (e' := [(0, .pointer (some ⟨g, 0, none⟩)), (1, .slice A qs.length ccap), (4, .int .i64 0), (5, .nilIface)]) (by kernel_rfl) ?_
  refine WQ.thenN ?_
  refine WE.scope ?_
  refine WE.seq ?_
  -- R1 deficit.go:34
  refine WE.region ?_
  refine WO.run 1 0 [(6, .func (.func 85) #[] #[])] (by kernel_rfl) (by kernel_rfl) ?_
  refine WO.done (by kernel_rfl) ?_
  refine WQ.keep [0, 1, 4, 5, 6] (e' := [(0, .pointer (some ⟨g, 0, none⟩)), (1, .slice A qs.length ccap), (4, .int .i64 0), (5, .nilIface), (6, .func (.func 85) #[] #[])]) (by kernel_rfl) ?_
  refine WQ.thenN ?_
  refine WE.seq ?_
  -- R2 deficit.go:35
  refine WE.region ?_
  refine WO.run 1 0 [(7, .func (.func 86) #[] #[])] (by kernel_rfl) (by kernel_rfl) ?_
  refine WO.done (by kernel_rfl) ?_
  refine WQ.keep [0, 1, 4, 5, 6, 7] (e' := [(0, .pointer (some ⟨g, 0, none⟩)), (1, .slice A qs.length ccap), (4, .int .i64 0), (5, .nilIface), (6, .func (.func 85) #[] #[]), (7, .func (.func 86) #[] #[])]) (by kernel_rfl) ?_
  refine WQ.thenN ?_
  refine WE.seq ?_
  refine WE.block ?_
  refine WE.seq ?_
  -- R3 deficit.go:37
  refine WE.region ?_
  refine WO.run 5 0 [(14, .pointer (some ⟨g, 0, none⟩)), (13, .pointer (some ⟨g, 0, none⟩)), (12, .pointer (some ⟨g, 0, none⟩)), (11, .int .i64 (qs.length : Int)), (10, .slice A qs.length ccap)] (by kernel_rfl) (by kernel_rfl) ?_
  refine WO.ld (SQ.S 5 (by kernel_rfl)) 15 (.slice (some ⟨bq, 0, none⟩) qs.length cq) (by kernel_rfl) (same (HB.at 0 (by kernel_rfl))) ?_
  refine WO.run 1 6 [(16, .int .i64 (qs.length : Int))] (by kernel_rfl) (by kernel_rfl) ?_
  refine WO.one (SQ.F 7 (by kernel_rfl)) 17 (.bool (!decide (((qs.length : Int) : Int) = (qs.length : Int)))) (by kernel_rfl) ?_
  refine WO.topNT (((qs.length : Int) : Int) = (qs.length : Int)) (by rfl) ?_
  refine WO.run 3 8 [(20, .func (.func 85) #[] #[]), (19, .slice A qs.length ccap), (18, .bool false)] (by kernel_rfl) (by kernel_rfl) ?_
  refine WO.call (SQ.E 11 (by kernel_rfl)) 21 (by kernel_rfl) (contains_85 A qs.length ccap co _ hcn (by omega) (hrd.keep HZ)) ?_
  rintro _ w1 ⟨rfl, F2⟩
  refine ⟨_, rfl, trivial, ?_⟩
  have HB := Blk.keep HB F2 (nin0 _)
  have HQ := RowB.keep HQ F2 (nin0 _)
  have HC := RowB.keep HC F2 (nin0 _)
  have HA := Fr.step0 HA F2
  have HZ := Fr.step0 HZ F2
  refine WO.top (v' := .bool false) (congrArg Value.bool (by exact hbad)) ?_
  refine WO.run 2 12 [(9, .bool false), (22, .bool false)] (by kernel_rfl) (by kernel_rfl) ?_
  refine WO.done (by kernel_rfl) ?_
  refine WQ.keep [0, 1, 4, 5, 6, 7, 9] (e' := [(0, .pointer (some ⟨g, 0, none⟩)), (1, .slice A qs.length ccap), (4, .int .i64 0), (5, .nilIface), (6, .func (.func 85) #[] #[]), (7, .func (.func 86) #[] #[]), (9, .bool false)]) (by kernel_rfl) ?_
  refine WQ.thenN ?_
  refine WE.condF (by kernel_rfl) ?_
  refine WE.seq ?_
  -- R5 deficit.go:39
  refine WE.region ?_
  refine WO.run 2 0 [(26, .func (.func 86) #[] #[]), (25, .slice A qs.length ccap)] (by kernel_rfl) (by kernel_rfl) ?_
  refine WO.call (SQ.E 2 (by kernel_rfl)) 27 (by kernel_rfl) (contains_86 A qs.length ccap co _ hcn (by omega) (hrd.keep HZ)) ?_
  rintro _ w3 ⟨rfl, F4⟩
  refine ⟨_, rfl, trivial, ?_⟩
  have HB := Blk.keep HB F4 (nin0 _)
  have HQ := RowB.keep HQ F4 (nin0 _)
  have HC := RowB.keep HC F4 (nin0 _)
  have HA := Fr.step0 HA F4
  have HZ := Fr.step0 HZ F4
  refine WO.top (v' := .bool false) (congrArg Value.bool (by exact hsome)) ?_
  refine WO.run 2 3 [(24, .bool true), (28, .bool true)] (by kernel_rfl) (by kernel_rfl) ?_
  refine WO.done (by kernel_rfl) ?_
  refine WQ.keep [0, 1, 4, 5, 6, 7, 9, 24] (e' := [(0, .pointer (some ⟨g, 0, none⟩)), (1, .slice A qs.length ccap), (4, .int .i64 0), (5, .nilIface), (6, .func (.func 85) #[] #[]), (7, .func (.func 86) #[] #[]), (9, .bool false), (24, .bool true)]) (by kernel_rfl) ?_
  refine WQ.thenN ?_
  refine WE.condT (by kernel_rfl) ?_
  refine WE.seq ?_
  -- R6 deficit.go:40
  refine WE.region ?_
  refine WO.run 3 0 [(31, .pointer (some ⟨g, 1, none⟩)), (30, .pointer (some ⟨g, 0, none⟩)), (29, .pointer (some ⟨g, 0, none⟩))] (by kernel_rfl) (by kernel_rfl) ?_
  refine WO.ld (SQ.S 3 (by kernel_rfl)) 32 (.slice (some ⟨bc, 0, none⟩) qs.length cc) (by kernel_rfl) (same (HB.at 1 (by kernel_rfl))) ?_
  refine WO.clr (SQ.E 4 (by kernel_rfl)) bc qs.length cc (.int .i64 0) HC ((List.length_map _).trans (hgd.len)) (by omega) rfl rfl (by kernel_rfl) (fun _ _ => trivial) ?_
  intro w5 HR7 F6 _
  have HB := Blk.keep HB F6 (ninC n2 (nin0 _))
  have HQ := RowB.keep HQ F6 (ninC n3 (nin0 _))
  have HA := Fr.step HA F6 (inSL (by simp) inS0)
  have HR7 : RowB w5 bc 3 1 cc ((List.replicate qs.length 0).map cI) := by rw [List.map_replicate]; exact HR7
  refine WO.done (by kernel_rfl) ?_
  refine WQ.keep [0, 1, 4, 5, 6, 7, 9, 24] (e' := [(0, .pointer (some ⟨g, 0, none⟩)), (1, .slice A qs.length ccap), (4, .int .i64 0), (5, .nilIface), (6, .func (.func 85) #[] #[]), (7, .func (.func 86) #[] #[]), (9, .bool false), (24, .bool true)]) (by kernel_rfl) ?_
  refine WQ.thenN ?_
  refine WE.seq ?_
  -- R7 deficit.go:41
  refine WE.region ?_
  refine WO.run 2 0 [(5, .nilIface), (4, .int .i64 (-1))] (by kernel_rfl) (by kernel_rfl) ?_
  refine WO.done (by kernel_rfl) ?_
  refine WQ.keep [0, 1, 4, 5, 6, 7, 9, 24] (e' := [(0, .pointer (some ⟨g, 0, none⟩)), (1, .slice A qs.length ccap), (4, .int .i64 (-1)), (5, .nilIface), (6, .func (.func 85) #[] #[]), (7, .func (.func 86) #[] #[]), (9, .bool false), (24, .bool true)]) (by kernel_rfl) ?_
  refine WQ.thenN ?_
  refine WE.ret ?_
  refine WQ.blkR ?_
  refine WQ.thenR ?_
  refine WQ.scR ?_
  refine WQ.ret (v := .tuple #[.int .i64 (-1), .nilIface]) (by kernel_rfl) ?_
  exact ⟨rfl, HB, HQ, HR7, HA⟩

set_option maxRecDepth 100000 in
set_option maxHeartbeats 2000000 in
theorem pick_run (g bq bc cq cc : Nat) (qs : List Int) (s : St) (w : World) (HB : Blk w g #[.slice (some ⟨bq, 0, none⟩) qs.length cq, .slice (some ⟨bc, 0, none⟩) qs.length cc, .int .i64 (s.pos : Int), .bool s.vis] 144) (HQ : RowB w bq 3 1 cq (qs.map cI)) (HC : RowB w bc 3 1 cc (s.cs.map cI)) (hgd : Good qs s) (n1 : g ≠ bq) (n2 : g ≠ bc) (n3 : bq ≠ bc) (hq : GoodQ qs)(ad_co : Addr) (ccap : Nat) (co : List Int) (hc : GoodC qs co) (hcl : ∀ k, k < qs.length → w.cell? (ad_co.add k) = some (.int .i64 (g0 co k))) (hag : ad_co.block ≠ g) (hac : ad_co.block ≠ bc) (hbad : co.any oddC = false) (hsome : co.any someC = true) (f : Nat) (r : St × Nat) (hrun : run qs co f s = some r) :
    Calls Try.prog 68 #[.pointer (some ⟨g, 0, none⟩), .slice (some ad_co) qs.length ccap] w fun e w' => e = .returned (.tuple #[.int .i64 (r.2 : Int), .nilIface]) ∧ Blk w' g #[.slice (some ⟨bq, 0, none⟩) qs.length cq, .slice (some ⟨bc, 0, none⟩) qs.length cc, .int .i64 (r.1.pos : Int), .bool r.1.vis] 144 ∧ RowB w' bq 3 1 cq (qs.map cI) ∧ RowB w' bc 3 1 cc (r.1.cs.map cI) ∧ Fr [g, bc] w w' := by
  have hqn := hq.n4
  have hqn1 := hq.n1
  have HA := Fr.refl [g, bc] w
  refine enter (N := 111) Try.func68 (c := _) rfl (by kernel_rfl) (by kernel_rfl) (e := [(0, .pointer (some ⟨g, 0, none⟩)), (1, .slice (some ad_co) qs.length ccap)]) (by kernel_rfl) ?_
  refine WE.seq ?_
  -- R0 deficit.go:33
  refine WE.region ?_
  refine WO.run 2 0 [(5, .nilIface), (4, .int .i64 0)] (by kernel_rfl) (by kernel_rfl) ?_
  refine WO.done (by kernel_rfl) ?_
  refine WQ.keep [0, 1, 4, 5] (e' := [(0, .pointer (some ⟨g, 0, none⟩)), (1, .slice (some ad_co) qs.length ccap), (4, .int .i64 0), (5, .nilIface)]) (by kernel_rfl) ?_
  refine WQ.thenN ?_
  refine WE.scope ?_
  refine WE.seq ?_
  -- R1 deficit.go:34
  refine WE.region ?_
  refine WO.run 1 0 [(6, .func (.func 85) #[] #[])] (by kernel_rfl) (by kernel_rfl) ?_
  refine WO.done (by kernel_rfl) ?_
  refine WQ.keep [0, 1, 4, 5, 6] (e' := [(0, .pointer (some ⟨g, 0, none⟩)), (1, .slice (some ad_co) qs.length ccap), (4, .int .i64 0), (5, .nilIface), (6, .func (.func 85) #[] #[])]) (by kernel_rfl) ?_
  refine WQ.thenN ?_
  refine WE.seq ?_
  -- R2 deficit.go:35
  refine WE.region ?_
  refine WO.run 1 0 [(7, .func (.func 86) #[] #[])] (by kernel_rfl) (by kernel_rfl) ?_
  refine WO.done (by kernel_rfl) ?_
  refine WQ.keep [0, 1, 4, 5, 6, 7] (e' := [(0, .pointer (some ⟨g, 0, none⟩)), (1, .slice (some ad_co) qs.length ccap), (4, .int .i64 0), (5, .nilIface), (6, .func (.func 85) #[] #[]), (7, .func (.func 86) #[] #[])]) (by kernel_rfl) ?_
  refine WQ.thenN ?_
  refine WE.seq ?_
  refine WE.block ?_
  refine WE.seq ?_
  -- R3 deficit.go:37
  refine WE.region ?_
  refine WO.run 5 0 [(14, .pointer (some ⟨g, 0, none⟩)), (13, .pointer (some ⟨g, 0, none⟩)), (12, .pointer (some ⟨g, 0, none⟩)), (11, .int .i64 (qs.length : Int)), (10, .slice (some ad_co) qs.length ccap)] (by kernel_rfl) (by kernel_rfl) ?_
  refine WO.ld (SQ.S 5 (by kernel_rfl)) 15 (.slice (some ⟨bq, 0, none⟩) qs.length cq) (by kernel_rfl) (same (HB.at 0 (by kernel_rfl))) ?_
  refine WO.run 1 6 [(16, .int .i64 (qs.length : Int))] (by kernel_rfl) (by kernel_rfl) ?_
  refine WO.one (SQ.F 7 (by kernel_rfl)) 17 (.bool (!decide (((qs.length : Int) : Int) = (qs.length : Int)))) (by kernel_rfl) ?_
  refine WO.topNT (((qs.length : Int) : Int) = (qs.length : Int)) (by rfl) ?_
  refine WO.run 3 8 [(20, .func (.func 85) #[] #[]), (19, .slice (some ad_co) qs.length ccap), (18, .bool false)] (by kernel_rfl) (by kernel_rfl) ?_
  refine WO.call (SQ.E 11 (by kernel_rfl)) 21 (by kernel_rfl) (contains_85 (some ad_co) qs.length ccap co _ hc.len (by omega) (fun k hk => ⟨ad_co, rfl, hcl k (by have := hc.len; omega)⟩)) ?_
  rintro _ w1 ⟨rfl, F2⟩
  refine ⟨_, rfl, trivial, ?_⟩
  have HB := Blk.keep HB F2 (nin0 _)
  have HQ := RowB.keep HQ F2 (nin0 _)
  have HC := RowB.keep HC F2 (nin0 _)
  have hcl := fun k hk => Fr.cellN F2 (hcl k hk) (nin0 _)
  have HA := Fr.step0 HA F2
  refine WO.top (v' := .bool false) (congrArg Value.bool (by exact hbad)) ?_
  refine WO.run 2 12 [(9, .bool false), (22, .bool false)] (by kernel_rfl) (by kernel_rfl) ?_
  refine WO.done (by kernel_rfl) ?_
  refine WQ.keep [0, 1, 4, 5, 6, 7, 9] (e' := [(0, .pointer (some ⟨g, 0, none⟩)), (1, .slice (some ad_co) qs.length ccap), (4, .int .i64 0), (5, .nilIface), (6, .func (.func 85) #[] #[]), (7, .func (.func 86) #[] #[]), (9, .bool false)]) (by kernel_rfl) ?_
  refine WQ.thenN ?_
  refine WE.condF (by kernel_rfl) ?_
  refine WE.seq ?_
  -- R5 deficit.go:39
  refine WE.region ?_
  refine WO.run 2 0 [(26, .func (.func 86) #[] #[]), (25, .slice (some ad_co) qs.length ccap)] (by kernel_rfl) (by kernel_rfl) ?_
  refine WO.call (SQ.E 2 (by kernel_rfl)) 27 (by kernel_rfl) (contains_86 (some ad_co) qs.length ccap co _ hc.len (by omega) (fun k hk => ⟨ad_co, rfl, hcl k (by have := hc.len; omega)⟩)) ?_
  rintro _ w3 ⟨rfl, F4⟩
  refine ⟨_, rfl, trivial, ?_⟩
  have HB := Blk.keep HB F4 (nin0 _)
  have HQ := RowB.keep HQ F4 (nin0 _)
  have HC := RowB.keep HC F4 (nin0 _)
  have hcl := fun k hk => Fr.cellN F4 (hcl k hk) (nin0 _)
  have HA := Fr.step0 HA F4
  refine WO.top (v' := .bool true) (congrArg Value.bool (by exact hsome)) ?_
  refine WO.run 2 3 [(24, .bool false), (28, .bool false)] (by kernel_rfl) (by kernel_rfl) ?_
  refine WO.done (by kernel_rfl) ?_
  refine WQ.keep [0, 1, 4, 5, 6, 7, 9, 24] (e' := [(0, .pointer (some ⟨g, 0, none⟩)), (1, .slice (some ad_co) qs.length ccap), (4, .int .i64 0), (5, .nilIface), (6, .func (.func 85) #[] #[]), (7, .func (.func 86) #[] #[]), (9, .bool false), (24, .bool false)]) (by kernel_rfl) ?_
  refine WQ.thenN ?_
  refine WE.condF (by kernel_rfl) ?_
  refine WE.skip ?_
  refine WQ.blkN ?_
  refine WQ.thenN ?_
  refine WE.seq ?_
  refine WE.label ?_
  refine WQ.thenN ?_
  refine WE.seq ?_
  refine WE.block ?_
  refine WE.loop (α := Nat × St) (E := fun z => [(0, .pointer (some ⟨g, 0, none⟩)), (1, .slice (some ad_co) qs.length ccap)]) (I := fun z wr => run qs co z.1 z.2 = some r ∧ Good qs z.2 ∧ Blk wr g #[.slice (some ⟨bq, 0, none⟩) qs.length cq, .slice (some ⟨bc, 0, none⟩) qs.length cc, .int .i64 (z.2.pos : Int), .bool z.2.vis] 144 ∧ RowB wr bq 3 1 cq (qs.map cI) ∧ RowB wr bc 3 1 cc (z.2.cs.map cI) ∧ (∀ k, k < qs.length → wr.cell? (ad_co.add k) = some (.int .i64 (g0 co k))) ∧ Fr [g, bc] w wr) (m := fun z => z.1) (f, s) [0, 1] (by kernel_rfl) ?_ ?_
  · exact ⟨hrun, hgd, HB, HQ, HC, hcl, HA⟩
  rintro ⟨f, s⟩ wr ⟨hrun, hgd, HB, HQ, HC, hcl, HA⟩
  obtain ⟨f, rfl⟩ : ∃ f', f = f' + 1 := by cases f with | zero => cases hrun | succ f => exact ⟨f, rfl⟩
  dsimp only at hrun hgd HB HC
  rw [run] at hrun
  have hp := hgd.pos
  have hb1 := vst_bd hq hgd s.pos hgd.pos
  have hb2 := hq.q s.pos hgd.pos
  have hb3 := hc.c s.pos hgd.pos
  have hb4 := hgd.lo s.pos hgd.pos
  have hb5 := hgd.hi s.pos hgd.pos
  refine WE.block ?_
  refine WE.seq ?_
  -- R8 deficit.go:45
  refine WE.region ?_
  refine WO.run 3 0 [(35, .pointer (some ⟨g, 2, none⟩)), (34, .pointer (some ⟨g, 0, none⟩)), (33, .pointer (some ⟨g, 0, none⟩))] (by kernel_rfl) (by kernel_rfl) ?_
  refine WO.ld (SQ.S 3 (by kernel_rfl)) 36 (.int .i64 (s.pos : Int)) (by kernel_rfl) (same (HB.at 2 (by kernel_rfl))) ?_
  refine WO.run 1 4 [(8, .int .i64 (s.pos : Int))] (by kernel_rfl) (by kernel_rfl) ?_
  refine WO.done (by kernel_rfl) ?_
  refine WQ.keep [0, 1, 8] (e' := [(0, .pointer (some ⟨g, 0, none⟩)), (1, .slice (some ad_co) qs.length ccap), (8, .int .i64 (s.pos : Int))]) (by kernel_rfl) ?_
  refine WQ.thenN ?_
  refine WE.seq ?_
  refine WE.seq ?_
  -- R9 deficit.go:46
  refine WE.region ?_
  refine WO.run 2 0 [(38, .int .i64 (s.pos : Int)), (37, .slice (some ad_co) qs.length ccap)] (by kernel_rfl) (by kernel_rfl) ?_
  refine WO.ix (SQ.F 2 (by kernel_rfl)) 39 (ad_co.add s.pos) ad_co qs.length 1 (s.pos : Int) (by kernel_rfl) (by omega) (by omega) (by congr 1 <;> omega) ?_
  refine WO.ld (SQ.S 3 (by kernel_rfl)) 40 (.int .i64 (g0 co s.pos)) (by kernel_rfl) (same (hcl s.pos (by omega))) ?_
  refine WO.one (SQ.F 4 (by kernel_rfl)) 41 (.bool (decide ((g0 co s.pos : Int) = 0))) (by kernel_rfl) ?_
  refine WO.topP ((g0 co s.pos : Int) = 0) ?_ ?_
  · intro h5
    refine WO.done (by kernel_rfl) ?_
    refine WQ.keep [0, 1, 8, 41] (e' := [(0, .pointer (some ⟨g, 0, none⟩)), (1, .slice (some ad_co) qs.length ccap), (8, .int .i64 (s.pos : Int)), (41, .bool true)]) (by kernel_rfl) ?_
    refine WQ.thenN ?_
    refine WE.condT (by kernel_rfl) ?_
    refine WE.seq ?_
    -- R10 deficit.go:47
    refine WE.region ?_
    refine WO.run 3 0 [(44, .pointer (some ⟨g, 1, none⟩)), (43, .pointer (some ⟨g, 0, none⟩)), (42, .pointer (some ⟨g, 0, none⟩))] (by kernel_rfl) (by kernel_rfl) ?_
    refine WO.ld (SQ.S 3 (by kernel_rfl)) 45 (.slice (some ⟨bc, 0, none⟩) qs.length cc) (by kernel_rfl) (same (HB.at 1 (by kernel_rfl))) ?_
    refine WO.run 1 4 [(46, .int .i64 (s.pos : Int))] (by kernel_rfl) (by kernel_rfl) ?_
    refine WO.ixB (SQ.F 5 (by kernel_rfl)) 47 s.pos bc 0 qs.length 1 (s.pos : Int) (by kernel_rfl) (by omega) (by omega) (by omega) ?_
    refine WO.stR (SQ.E 6 (by kernel_rfl)) bc s.pos s.pos [.int .i64 0] HC (by rw [List.length_map]; have := hgd.len; omega) rfl (by omega) rfl (by kernel_rfl) (fun _ _ => trivial) ?_
    intro w6 HR8 F7 _
    have HB := Blk.keep HB F7 (ninC n2 (nin0 _))
    have HQ := RowB.keep HQ F7 (ninC n3 (nin0 _))
    have hcl := fun k hk => Fr.cellN F7 (hcl k hk) (ninC (Ne.symm (Ne.symm hac)) (nin0 _))
    have HA := Fr.step HA F7 (inSL (by simp) inS0)
    have HR8 : RowB w6 bc 3 1 cc ((s.cs.set s.pos 0).map cI) := by rw [List.map_set]; exact HR8
    refine WO.done (by kernel_rfl) ?_
    refine WQ.keep [0, 1, 8, 41] (e' := [(0, .pointer (some ⟨g, 0, none⟩)), (1, .slice (some ad_co) qs.length ccap), (8, .int .i64 (s.pos : Int)), (41, .bool true)]) (by kernel_rfl) ?_
    refine WQ.thenN ?_
    refine WE.seq ?_
    -- R11 deficit.go:48
    refine WE.region ?_
    refine WO.run 1 0 [(48, .pointer (some ⟨g, 0, none⟩))] (by kernel_rfl) (by kernel_rfl) ?_
    refine WO.call (SQ.E 1 (by kernel_rfl)) 49 (by kernel_rfl) (on_any g bq bc cq cc qs.length s.pos s.vis _ HB (by omega) (by omega)) ?_
    rintro _ w9 ⟨rfl, HB11, F10⟩
    refine ⟨_, rfl, trivial, ?_⟩
    have HQ := RowB.keep HQ F10 (ninC (Ne.symm n1) (nin0 _))
    have HR8 := RowB.keep HR8 F10 (ninC (Ne.symm n2) (nin0 _))
    have hcl := fun k hk => Fr.cellN F10 (hcl k hk) (ninC (Ne.symm (Ne.symm hag)) (nin0 _))
    have HA := Fr.step HA F10 (inSL (by simp) inS0)
    refine WO.done (by kernel_rfl) ?_
    refine WQ.keep [0, 1, 8, 41] (e' := [(0, .pointer (some ⟨g, 0, none⟩)), (1, .slice (some ad_co) qs.length ccap), (8, .int .i64 (s.pos : Int)), (41, .bool true)]) (by kernel_rfl) ?_
    refine WQ.thenN ?_
    refine WE.exit ?_
    refine WQ.thenE ?_
    refine WQ.blkE ?_
    refine WQ.round ?_
    intro a_ ha_
    refine ⟨(f, ⟨s.cs.set s.pos 0, (s.pos + 1) % qs.length, false⟩), ?_, ha_.keep [0, 1] (by kernel_rfl), ?_⟩
    · show f < f + 1; omega
    · exact ⟨by rw [if_pos h5] at hrun; exact hrun, hgd.zero hq (co := co), HB11, HQ, HR8, hcl, HA⟩
  · intro h5
    refine WO.done (by kernel_rfl) ?_
    refine WQ.keep [0, 1, 8, 41] (e' := [(0, .pointer (some ⟨g, 0, none⟩)), (1, .slice (some ad_co) qs.length ccap), (8, .int .i64 (s.pos : Int)), (41, .bool false)]) (by kernel_rfl) ?_
    refine WQ.thenN ?_
    refine WE.condF (by kernel_rfl) ?_
    refine WE.skip ?_
    refine WQ.thenN ?_
    refine WE.seq ?_
    refine WE.seq ?_
    -- R12 deficit.go:51
    refine WE.region ?_
    refine WO.run 3 0 [(52, .pointer (some ⟨g, 3, none⟩)), (51, .pointer (some ⟨g, 0, none⟩)), (50, .pointer (some ⟨g, 0, none⟩))] (by kernel_rfl) (by kernel_rfl) ?_
    refine WO.ld (SQ.S 3 (by kernel_rfl)) 53 (.bool s.vis) (by kernel_rfl) (same (HB.at 3 (by kernel_rfl))) ?_
    refine WO.one (SQ.F 4 (by kernel_rfl)) 54 (.bool (!s.vis)) (by kernel_rfl) ?_
    refine WO.topNB (s.vis) ?_ ?_
    · intro h12
      refine WO.done (by kernel_rfl) ?_
      refine WQ.keep [0, 1, 8, 41, 54] (e' := [(0, .pointer (some ⟨g, 0, none⟩)), (1, .slice (some ad_co) qs.length ccap), (8, .int .i64 (s.pos : Int)), (41, .bool false), (54, .bool false)]) (by kernel_rfl) ?_
      refine WQ.thenN ?_
      refine WE.condF (by kernel_rfl) ?_
      refine WE.skip ?_
      refine WQ.thenN ?_
      refine WE.seq ?_
      refine WE.seq ?_
      have hvs : vst qs s = s.cs := by unfold vst; rw [h12]; rfl
      rw [h12] at HB
      rw [← hvs] at HC
      -- R15* deficit.go:55
      refine WE.draw [.free, .free, .free, .still, .free, .free, .still, .free, .free, .free, .still, .free] Same sameR (by kernel_rfl) 12 (Array.replicate 12 false) (by kernel_rfl) rfl ?_
      intro w13 F14 _
      have HB := Blk.keep HB F14 (nin0 _)
      have HQ := RowB.keep HQ F14 (nin0 _)
      have HC := RowB.keep HC F14 (nin0 _)
      have hcl := fun k hk => Fr.cellN F14 (hcl k hk) (nin0 _)
      have HA := Fr.step0 HA F14
      refine WO.one (SA.F sameR sameT _ 0 _ (by kernel_rfl)) 74 (.pointer (some ⟨g, 0, none⟩)) (by kernel_rfl) ?_
      refine WO.one (SA.F sameR sameT _ 1 _ (by kernel_rfl)) 75 (.pointer (some ⟨g, 0, none⟩)) (by kernel_rfl) ?_
      refine WO.one (SA.F sameR sameT _ 2 _ (by kernel_rfl)) 76 (.pointer (some ⟨g, 1, none⟩)) (by kernel_rfl) ?_
      refine WO.ld (SA.S sameR sameT _ 3 _ (by kernel_rfl)) 77 (.slice (some ⟨bc, 0, none⟩) qs.length cc) (by kernel_rfl) (same (HB.at 1 (by kernel_rfl))) ?_
      refine WO.one (SA.F sameR sameT _ 4 _ (by kernel_rfl)) 78 (.int .i64 (s.pos : Int)) (by kernel_rfl) ?_
      refine WO.ixB (SA.F sameR sameT _ 5 _ (by kernel_rfl)) 79 s.pos bc 0 qs.length 1 (s.pos : Int) (by kernel_rfl) (by omega) (by omega) (by omega) ?_
      refine WO.ld (SA.S sameR sameT _ 6 _ (by kernel_rfl)) 80 (.int .i64 (g0 (vst qs s) s.pos)) (by kernel_rfl) (same (HC.at s.pos 0 s.pos _ (by rw [List.length_map]; have := ((vst_len qs s).trans hgd.len); omega) (by omega) (by rw [(map_atI (vst qs s) s.pos (by have := ((vst_len qs s).trans hgd.len); omega))]; rfl) (by omega))) ?_
      refine WO.one (SA.F sameR sameT _ 7 _ (by kernel_rfl)) 81 (.slice (some ad_co) qs.length ccap) (by kernel_rfl) ?_
      refine WO.one (SA.F sameR sameT _ 8 _ (by kernel_rfl)) 82 (.int .i64 (s.pos : Int)) (by kernel_rfl) ?_
      refine WO.ix (SA.F sameR sameT _ 9 _ (by kernel_rfl)) 83 (ad_co.add s.pos) ad_co qs.length 1 (s.pos : Int) (by kernel_rfl) (by omega) (by omega) (by congr 1 <;> omega) ?_
      refine WO.ld (SA.S sameR sameT _ 10 _ (by kernel_rfl)) 84 (.int .i64 (g0 co s.pos)) (by kernel_rfl) (same (hcl s.pos (by omega))) ?_
      refine WO.one (SA.F sameR sameT _ 11 _ (by kernel_rfl)) 85 (.bool (decide ((g0 (vst qs s) s.pos : Int) ≥ (g0 co s.pos)))) (by kernel_rfl) ?_
      refine WO.topP ((g0 (vst qs s) s.pos : Int) ≥ (g0 co s.pos)) ?_ ?_
      · intro h15
        refine WO.doneA (by kernel_rfl) ?_
        refine WQ.keep [0, 1, 8, 41, 54, 85] (e' := [(0, .pointer (some ⟨g, 0, none⟩)), (1, .slice (some ad_co) qs.length ccap), (8, .int .i64 (s.pos : Int)), (41, .bool false), (54, .bool false), (85, .bool true)]) (by kernel_rfl) ?_
        refine WQ.thenN ?_
        refine WE.condT (by kernel_rfl) ?_
        refine WE.exit ?_
        refine WQ.thenE ?_
        refine WQ.blkX (by kernel_rfl) ?_
        refine WQ.thenE ?_
        refine WQ.blkE ?_
        refine WQ.thenN ?_
        refine WE.seq ?_
        -- R17* deficit.go:60
        refine WE.draw [.free, .free, .free, .still, .free, .free, .free, .still, .free, .still, .free, .free, .free, .free, .still, .free, .still, .free, .free, .eff] Same sameR (by kernel_rfl) 20 (Array.replicate 20 false) (by kernel_rfl) rfl ?_
        intro w16 F17 _
        have HB := Blk.keep HB F17 (nin0 _)
        have HQ := RowB.keep HQ F17 (nin0 _)
        have HC := RowB.keep HC F17 (nin0 _)
        have hcl := fun k hk => Fr.cellN F17 (hcl k hk) (nin0 _)
        have HA := Fr.step0 HA F17
        refine WO.one (SA.F sameR sameT _ 0 _ (by kernel_rfl)) 88 (.pointer (some ⟨g, 0, none⟩)) (by kernel_rfl) ?_
        refine WO.one (SA.F sameR sameT _ 1 _ (by kernel_rfl)) 89 (.pointer (some ⟨g, 0, none⟩)) (by kernel_rfl) ?_
        refine WO.one (SA.F sameR sameT _ 2 _ (by kernel_rfl)) 90 (.pointer (some ⟨g, 1, none⟩)) (by kernel_rfl) ?_
        refine WO.ld (SA.S sameR sameT _ 3 _ (by kernel_rfl)) 91 (.slice (some ⟨bc, 0, none⟩) qs.length cc) (by kernel_rfl) (same (HB.at 1 (by kernel_rfl))) ?_
        refine WO.one (SA.F sameR sameT _ 4 _ (by kernel_rfl)) 92 (.pointer (some ⟨g, 0, none⟩)) (by kernel_rfl) ?_
        refine WO.one (SA.F sameR sameT _ 5 _ (by kernel_rfl)) 93 (.pointer (some ⟨g, 0, none⟩)) (by kernel_rfl) ?_
        refine WO.one (SA.F sameR sameT _ 6 _ (by kernel_rfl)) 94 (.pointer (some ⟨g, 2, none⟩)) (by kernel_rfl) ?_
        refine WO.ld (SA.S sameR sameT _ 7 _ (by kernel_rfl)) 95 (.int .i64 (s.pos : Int)) (by kernel_rfl) (same (HB.at 2 (by kernel_rfl))) ?_
        refine WO.ixB (SA.F sameR sameT _ 8 _ (by kernel_rfl)) 96 s.pos bc 0 qs.length 1 (s.pos : Int) (by kernel_rfl) (by omega) (by omega) (by omega) ?_
        refine WO.ld (SA.S sameR sameT _ 9 _ (by kernel_rfl)) 97 (.int .i64 (g0 (vst qs s) s.pos)) (by kernel_rfl) (same (HC.at s.pos 0 s.pos _ (by rw [List.length_map]; have := ((vst_len qs s).trans hgd.len); omega) (by omega) (by rw [(map_atI (vst qs s) s.pos (by have := ((vst_len qs s).trans hgd.len); omega))]; rfl) (by omega))) ?_
        refine WO.one (SA.F sameR sameT _ 10 _ (by kernel_rfl)) 98 (.slice (some ad_co) qs.length ccap) (by kernel_rfl) ?_
        refine WO.one (SA.F sameR sameT _ 11 _ (by kernel_rfl)) 99 (.pointer (some ⟨g, 0, none⟩)) (by kernel_rfl) ?_
        refine WO.one (SA.F sameR sameT _ 12 _ (by kernel_rfl)) 100 (.pointer (some ⟨g, 0, none⟩)) (by kernel_rfl) ?_
        refine WO.one (SA.F sameR sameT _ 13 _ (by kernel_rfl)) 101 (.pointer (some ⟨g, 2, none⟩)) (by kernel_rfl) ?_
        refine WO.ld (SA.S sameR sameT _ 14 _ (by kernel_rfl)) 102 (.int .i64 (s.pos : Int)) (by kernel_rfl) (same (HB.at 2 (by kernel_rfl))) ?_
        refine WO.ix (SA.F sameR sameT _ 15 _ (by kernel_rfl)) 103 (ad_co.add s.pos) ad_co qs.length 1 (s.pos : Int) (by kernel_rfl) (by omega) (by omega) (by congr 1 <;> omega) ?_
        refine WO.ld (SA.S sameR sameT _ 16 _ (by kernel_rfl)) 104 (.int .i64 (g0 co s.pos)) (by kernel_rfl) (same (hcl s.pos (by omega))) ?_
        refine WO.one (SA.F sameR sameT _ 17 _ (by kernel_rfl)) 105 (.int .i64 (IntKind.i64.wrap ((g0 (vst qs s) s.pos) - (g0 co s.pos)))) (by kernel_rfl) ?_
        refine WO.top (v' := .int .i64 ((g0 (vst qs s) s.pos) - (g0 co s.pos))) (wrap_i64 (by omega) (by omega)) ?_
        refine WO.ixB (SA.F sameR sameT _ 18 _ (by kernel_rfl)) 106 s.pos bc 0 qs.length 1 (s.pos : Int) (by kernel_rfl) (by omega) (by omega) (by omega) ?_
        refine WO.stR (SA.E _ 19 _ (by kernel_rfl) rfl) bc s.pos s.pos [.int .i64 ((g0 (vst qs s) s.pos) - (g0 co s.pos))] HC (by rw [List.length_map]; have := ((vst_len qs s).trans hgd.len); omega) rfl (by omega) rfl (by kernel_rfl) (fun _ _ => trivial) ?_
        intro w18 HR20 F19 _
        have HB := Blk.keep HB F19 (ninC n2 (nin0 _))
        have HQ := RowB.keep HQ F19 (ninC n3 (nin0 _))
        have hcl := fun k hk => Fr.cellN F19 (hcl k hk) (ninC (Ne.symm (Ne.symm hac)) (nin0 _))
        have HA := Fr.step HA F19 (inSL (by simp) inS0)
        have HR20 : RowB w18 bc 3 1 cc (((vst qs s).set s.pos ((g0 (vst qs s) s.pos) - (g0 co s.pos))).map cI) := by rw [List.map_set]; exact HR20
        refine WO.doneA (by kernel_rfl) ?_
        refine WQ.keep [0, 1, 8, 41, 54, 85] (e' := [(0, .pointer (some ⟨g, 0, none⟩)), (1, .slice (some ad_co) qs.length ccap), (8, .int .i64 (s.pos : Int)), (41, .bool false), (54, .bool false), (85, .bool true)]) (by kernel_rfl) ?_
        refine WQ.thenN ?_
        refine WE.seq ?_
        -- R18 deficit.go:61
        refine WE.region ?_
        refine WO.run 3 0 [(109, .pointer (some ⟨g, 2, none⟩)), (108, .pointer (some ⟨g, 0, none⟩)), (107, .pointer (some ⟨g, 0, none⟩))] (by kernel_rfl) (by kernel_rfl) ?_
        refine WO.ld (SQ.S 3 (by kernel_rfl)) 110 (.int .i64 (s.pos : Int)) (by kernel_rfl) (same (HB.at 2 (by kernel_rfl))) ?_
        refine WO.run 2 4 [(5, .nilIface), (4, .int .i64 (s.pos : Int))] (by kernel_rfl) (by kernel_rfl) ?_
        refine WO.done (by kernel_rfl) ?_
        refine WQ.keep [0, 1, 4, 5, 8, 41, 54, 85] (e' := [(0, .pointer (some ⟨g, 0, none⟩)), (1, .slice (some ad_co) qs.length ccap), (4, .int .i64 (s.pos : Int)), (5, .nilIface), (8, .int .i64 (s.pos : Int)), (41, .bool false), (54, .bool false), (85, .bool true)]) (by kernel_rfl) ?_
        refine WQ.thenN ?_
        refine WE.ret ?_
        refine WQ.scR ?_
        refine WQ.ret (v := .tuple #[.int .i64 (s.pos : Int), .nilIface]) (by kernel_rfl) ?_
        rw [if_neg h5, if_pos h15] at hrun
        obtain rfl := Option.some.inj hrun
        exact ⟨rfl, HB, HQ, HR20, HA⟩
      · intro h15
        refine WO.doneA (by kernel_rfl) ?_
        refine WQ.keep [0, 1, 8, 41, 54, 85] (e' := [(0, .pointer (some ⟨g, 0, none⟩)), (1, .slice (some ad_co) qs.length ccap), (8, .int .i64 (s.pos : Int)), (41, .bool false), (54, .bool false), (85, .bool false)]) (by kernel_rfl) ?_
        refine WQ.thenN ?_
        refine WE.condF (by kernel_rfl) ?_
        refine WE.skip ?_
        refine WQ.thenN ?_
        -- R16 deficit.go:58
        refine WE.region ?_
        refine WO.run 1 0 [(86, .pointer (some ⟨g, 0, none⟩))] (by kernel_rfl) (by kernel_rfl) ?_
        refine WO.call (SQ.E 1 (by kernel_rfl)) 87 (by kernel_rfl) (on_any g bq bc cq cc qs.length s.pos true _ HB (by omega) (by omega)) ?_
        rintro _ w21 ⟨rfl, HB23, F22⟩
        refine ⟨_, rfl, trivial, ?_⟩
        have HQ := RowB.keep HQ F22 (ninC (Ne.symm n1) (nin0 _))
        have HC := RowB.keep HC F22 (ninC (Ne.symm n2) (nin0 _))
        have hcl := fun k hk => Fr.cellN F22 (hcl k hk) (ninC (Ne.symm (Ne.symm hag)) (nin0 _))
        have HA := Fr.step HA F22 (inSL (by simp) inS0)
        refine WO.done (by kernel_rfl) ?_
        refine WQ.keep [0, 1, 8, 41, 54, 85] (e' := [(0, .pointer (some ⟨g, 0, none⟩)), (1, .slice (some ad_co) qs.length ccap), (8, .int .i64 (s.pos : Int)), (41, .bool false), (54, .bool false), (85, .bool false)]) (by kernel_rfl) ?_
        refine WQ.blkN ?_
        refine WQ.round ?_
        intro a_ ha_
        refine ⟨(f, ⟨vst qs s, (s.pos + 1) % qs.length, false⟩), ?_, ha_.keep [0, 1] (by kernel_rfl), ?_⟩
        · show f < f + 1; omega
        · exact ⟨by rw [if_neg h5, if_neg h15] at hrun; exact hrun, hgd.on hq hc h15, HB23, HQ, HC, hcl, HA⟩
    · intro h12
      refine WO.done (by kernel_rfl) ?_
      refine WQ.keep [0, 1, 8, 41, 54] (e' := [(0, .pointer (some ⟨g, 0, none⟩)), (1, .slice (some ad_co) qs.length ccap), (8, .int .i64 (s.pos : Int)), (41, .bool false), (54, .bool true)]) (by kernel_rfl) ?_
      refine WQ.thenN ?_
      refine WE.condT (by kernel_rfl) ?_
      refine WE.seq ?_
      -- R13* deficit.go:52
      refine WE.draw [.free, .free, .free, .still, .free, .free, .still, .free, .free, .free, .still, .free, .free, .still, .free, .free, .eff] Same sameR (by kernel_rfl) 17 (Array.replicate 17 false) (by kernel_rfl) rfl ?_
      intro w24 F25 _
      have HB := Blk.keep HB F25 (nin0 _)
      have HQ := RowB.keep HQ F25 (nin0 _)
      have HC := RowB.keep HC F25 (nin0 _)
      have hcl := fun k hk => Fr.cellN F25 (hcl k hk) (nin0 _)
      have HA := Fr.step0 HA F25
      refine WO.one (SA.F sameR sameT _ 0 _ (by kernel_rfl)) 55 (.pointer (some ⟨g, 0, none⟩)) (by kernel_rfl) ?_
      refine WO.one (SA.F sameR sameT _ 1 _ (by kernel_rfl)) 56 (.pointer (some ⟨g, 0, none⟩)) (by kernel_rfl) ?_
      refine WO.one (SA.F sameR sameT _ 2 _ (by kernel_rfl)) 57 (.pointer (some ⟨g, 1, none⟩)) (by kernel_rfl) ?_
      refine WO.ld (SA.S sameR sameT _ 3 _ (by kernel_rfl)) 58 (.slice (some ⟨bc, 0, none⟩) qs.length cc) (by kernel_rfl) (same (HB.at 1 (by kernel_rfl))) ?_
      refine WO.one (SA.F sameR sameT _ 4 _ (by kernel_rfl)) 59 (.int .i64 (s.pos : Int)) (by kernel_rfl) ?_
      refine WO.ixB (SA.F sameR sameT _ 5 _ (by kernel_rfl)) 60 s.pos bc 0 qs.length 1 (s.pos : Int) (by kernel_rfl) (by omega) (by omega) (by omega) ?_
      refine WO.ld (SA.S sameR sameT _ 6 _ (by kernel_rfl)) 61 (.int .i64 (g0 s.cs s.pos)) (by kernel_rfl) (same (HC.at s.pos 0 s.pos _ (by rw [List.length_map]; have := hgd.len; omega) (by omega) (by rw [(map_atI s.cs s.pos (by have := hgd.len; omega))]; rfl) (by omega))) ?_
      refine WO.one (SA.F sameR sameT _ 7 _ (by kernel_rfl)) 62 (.pointer (some ⟨g, 0, none⟩)) (by kernel_rfl) ?_
      refine WO.one (SA.F sameR sameT _ 8 _ (by kernel_rfl)) 63 (.pointer (some ⟨g, 0, none⟩)) (by kernel_rfl) ?_
      refine WO.one (SA.F sameR sameT _ 9 _ (by kernel_rfl)) 64 (.pointer (some ⟨g, 0, none⟩)) (by kernel_rfl) ?_
      refine WO.ld (SA.S sameR sameT _ 10 _ (by kernel_rfl)) 65 (.slice (some ⟨bq, 0, none⟩) qs.length cq) (by kernel_rfl) (same (HB.at 0 (by kernel_rfl))) ?_
      refine WO.one (SA.F sameR sameT _ 11 _ (by kernel_rfl)) 66 (.int .i64 (s.pos : Int)) (by kernel_rfl) ?_
      refine WO.ixB (SA.F sameR sameT _ 12 _ (by kernel_rfl)) 67 s.pos bq 0 qs.length 1 (s.pos : Int) (by kernel_rfl) (by omega) (by omega) (by omega) ?_
      refine WO.ld (SA.S sameR sameT _ 13 _ (by kernel_rfl)) 68 (.int .i64 (g0 qs s.pos)) (by kernel_rfl) (same (HQ.at s.pos 0 s.pos _ (by rw [List.length_map]; have := (rfl : qs.length = qs.length); omega) (by omega) (by rw [(map_atI qs s.pos (by have := (rfl : qs.length = qs.length); omega))]; rfl) (by omega))) ?_
      refine WO.one (SA.F sameR sameT _ 14 _ (by kernel_rfl)) 69 (.int .i64 (IntKind.i64.wrap ((g0 s.cs s.pos) + (g0 qs s.pos)))) (by kernel_rfl) ?_
      refine WO.top (v' := .int .i64 ((g0 s.cs s.pos) + (g0 qs s.pos))) (wrap_i64 (by omega) (by omega)) ?_
      refine WO.ixB (SA.F sameR sameT _ 15 _ (by kernel_rfl)) 70 s.pos bc 0 qs.length 1 (s.pos : Int) (by kernel_rfl) (by omega) (by omega) (by omega) ?_
      refine WO.stR (SA.E _ 16 _ (by kernel_rfl) rfl) bc s.pos s.pos [.int .i64 ((g0 s.cs s.pos) + (g0 qs s.pos))] HC (by rw [List.length_map]; have := hgd.len; omega) rfl (by omega) rfl (by kernel_rfl) (fun _ _ => trivial) ?_
      intro w26 HR28 F27 _
      have HB := Blk.keep HB F27 (ninC n2 (nin0 _))
      have HQ := RowB.keep HQ F27 (ninC n3 (nin0 _))
      have hcl := fun k hk => Fr.cellN F27 (hcl k hk) (ninC (Ne.symm (Ne.symm hac)) (nin0 _))
      have HA := Fr.step HA F27 (inSL (by simp) inS0)
      have HR28 : RowB w26 bc 3 1 cc ((s.cs.set s.pos ((g0 s.cs s.pos) + (g0 qs s.pos))).map cI) := by rw [List.map_set]; exact HR28
      refine WO.doneA (by kernel_rfl) ?_
      refine WQ.keep [0, 1, 8, 41, 54] (e' := [(0, .pointer (some ⟨g, 0, none⟩)), (1, .slice (some ad_co) qs.length ccap), (8, .int .i64 (s.pos : Int)), (41, .bool false), (54, .bool true)]) (by kernel_rfl) ?_
      refine WQ.thenN ?_
      -- R14 deficit.go:53
      refine WE.region ?_
      refine WO.run 3 0 [(73, .pointer (some ⟨g, 3, none⟩)), (72, .pointer (some ⟨g, 0, none⟩)), (71, .pointer (some ⟨g, 0, none⟩))] (by kernel_rfl) (by kernel_rfl) ?_
      refine WO.st (SQ.E 3 (by kernel_rfl)) g 3 [.bool true] #[.slice (some ⟨bq, 0, none⟩) qs.length cq, .slice (some ⟨bc, 0, none⟩) qs.length cc, .int .i64 (s.pos : Int), .bool true] (by kernel_rfl) HB (by kernel_rfl) (by kernel_rfl) (fun _ _ => trivial) ?_
      intro w29 HB31 F30 _
      have HQ := RowB.keep HQ F30 (ninC (Ne.symm n1) (nin0 _))
      have HR28 := RowB.keep HR28 F30 (ninC (Ne.symm n2) (nin0 _))
      have hcl := fun k hk => Fr.cellN F30 (hcl k hk) (ninC (Ne.symm (Ne.symm hag)) (nin0 _))
      have HA := Fr.step HA F30 (inSL (by simp) inS0)
      refine WO.done (by kernel_rfl) ?_
      refine WQ.keep [0, 1, 8, 41, 54] (e' := [(0, .pointer (some ⟨g, 0, none⟩)), (1, .slice (some ad_co) qs.length ccap), (8, .int .i64 (s.pos : Int)), (41, .bool false), (54, .bool true)]) (by kernel_rfl) ?_
      refine WQ.thenN ?_
      refine WE.seq ?_
      refine WE.seq ?_
      have hvs : vst qs s = (s.cs.set s.pos ((g0 s.cs s.pos) + (g0 qs s.pos))) := by unfold vst; rw [h12]; rfl
      rw [← hvs] at HR28
      -- R15* deficit.go:55
      refine WE.draw [.free, .free, .free, .still, .free, .free, .still, .free, .free, .free, .still, .free] Same sameR (by kernel_rfl) 12 (Array.replicate 12 false) (by kernel_rfl) rfl ?_
      intro w32 F33 _
      have HB31 := Blk.keep HB31 F33 (nin0 _)
      have HQ := RowB.keep HQ F33 (nin0 _)
      have HR28 := RowB.keep HR28 F33 (nin0 _)
      have hcl := fun k hk => Fr.cellN F33 (hcl k hk) (nin0 _)
      have HA := Fr.step0 HA F33
      refine WO.one (SA.F sameR sameT _ 0 _ (by kernel_rfl)) 74 (.pointer (some ⟨g, 0, none⟩)) (by kernel_rfl) ?_
      refine WO.one (SA.F sameR sameT _ 1 _ (by kernel_rfl)) 75 (.pointer (some ⟨g, 0, none⟩)) (by kernel_rfl) ?_
      refine WO.one (SA.F sameR sameT _ 2 _ (by kernel_rfl)) 76 (.pointer (some ⟨g, 1, none⟩)) (by kernel_rfl) ?_
      refine WO.ld (SA.S sameR sameT _ 3 _ (by kernel_rfl)) 77 (.slice (some ⟨bc, 0, none⟩) qs.length cc) (by kernel_rfl) (same (HB31.at 1 (by kernel_rfl))) ?_
      refine WO.one (SA.F sameR sameT _ 4 _ (by kernel_rfl)) 78 (.int .i64 (s.pos : Int)) (by kernel_rfl) ?_
      refine WO.ixB (SA.F sameR sameT _ 5 _ (by kernel_rfl)) 79 s.pos bc 0 qs.length 1 (s.pos : Int) (by kernel_rfl) (by omega) (by omega) (by omega) ?_
      refine WO.ld (SA.S sameR sameT _ 6 _ (by kernel_rfl)) 80 (.int .i64 (g0 (vst qs s) s.pos)) (by kernel_rfl) (same (HR28.at s.pos 0 s.pos _ (by rw [List.length_map]; have := ((vst_len qs s).trans hgd.len); omega) (by omega) (by rw [(map_atI (vst qs s) s.pos (by have := ((vst_len qs s).trans hgd.len); omega))]; rfl) (by omega))) ?_
      refine WO.one (SA.F sameR sameT _ 7 _ (by kernel_rfl)) 81 (.slice (some ad_co) qs.length ccap) (by kernel_rfl) ?_
      refine WO.one (SA.F sameR sameT _ 8 _ (by kernel_rfl)) 82 (.int .i64 (s.pos : Int)) (by kernel_rfl) ?_
      refine WO.ix (SA.F sameR sameT _ 9 _ (by kernel_rfl)) 83 (ad_co.add s.pos) ad_co qs.length 1 (s.pos : Int) (by kernel_rfl) (by omega) (by omega) (by congr 1 <;> omega) ?_
      refine WO.ld (SA.S sameR sameT _ 10 _ (by kernel_rfl)) 84 (.int .i64 (g0 co s.pos)) (by kernel_rfl) (same (hcl s.pos (by omega))) ?_
      refine WO.one (SA.F sameR sameT _ 11 _ (by kernel_rfl)) 85 (.bool (decide ((g0 (vst qs s) s.pos : Int) ≥ (g0 co s.pos)))) (by kernel_rfl) ?_
      refine WO.topP ((g0 (vst qs s) s.pos : Int) ≥ (g0 co s.pos)) ?_ ?_
      · intro h34
        refine WO.doneA (by kernel_rfl) ?_
        refine WQ.keep [0, 1, 8, 41, 54, 85] (e' := [(0, .pointer (some ⟨g, 0, none⟩)), (1, .slice (some ad_co) qs.length ccap), (8, .int .i64 (s.pos : Int)), (41, .bool false), (54, .bool true), (85, .bool true)]) (by kernel_rfl) ?_
        refine WQ.thenN ?_
        refine WE.condT (by kernel_rfl) ?_
        refine WE.exit ?_
        refine WQ.thenE ?_
        refine WQ.blkX (by kernel_rfl) ?_
        refine WQ.thenE ?_
        refine WQ.blkE ?_
        refine WQ.thenN ?_
        refine WE.seq ?_
        -- R17* deficit.go:60
        refine WE.draw [.free, .free, .free, .still, .free, .free, .free, .still, .free, .still, .free, .free, .free, .free, .still, .free, .still, .free, .free, .eff] Same sameR (by kernel_rfl) 20 (Array.replicate 20 false) (by kernel_rfl) rfl ?_
        intro w35 F36 _
        have HB31 := Blk.keep HB31 F36 (nin0 _)
        have HQ := RowB.keep HQ F36 (nin0 _)
        have HR28 := RowB.keep HR28 F36 (nin0 _)
        have hcl := fun k hk => Fr.cellN F36 (hcl k hk) (nin0 _)
        have HA := Fr.step0 HA F36
        refine WO.one (SA.F sameR sameT _ 0 _ (by kernel_rfl)) 88 (.pointer (some ⟨g, 0, none⟩)) (by kernel_rfl) ?_
        refine WO.one (SA.F sameR sameT _ 1 _ (by kernel_rfl)) 89 (.pointer (some ⟨g, 0, none⟩)) (by kernel_rfl) ?_
        refine WO.one (SA.F sameR sameT _ 2 _ (by kernel_rfl)) 90 (.pointer (some ⟨g, 1, none⟩)) (by kernel_rfl) ?_
        refine WO.ld (SA.S sameR sameT _ 3 _ (by kernel_rfl)) 91 (.slice (some ⟨bc, 0, none⟩) qs.length cc) (by kernel_rfl) (same (HB31.at 1 (by kernel_rfl))) ?_
        refine WO.one (SA.F sameR sameT _ 4 _ (by kernel_rfl)) 92 (.pointer (some ⟨g, 0, none⟩)) (by kernel_rfl) ?_
        refine WO.one (SA.F sameR sameT _ 5 _ (by kernel_rfl)) 93 (.pointer (some ⟨g, 0, none⟩)) (by kernel_rfl) ?_
        refine WO.one (SA.F sameR sameT _ 6 _ (by kernel_rfl)) 94 (.pointer (some ⟨g, 2, none⟩)) (by kernel_rfl) ?_
        refine WO.ld (SA.S sameR sameT _ 7 _ (by kernel_rfl)) 95 (.int .i64 (s.pos : Int)) (by kernel_rfl) (same (HB31.at 2 (by kernel_rfl))) ?_
        refine WO.ixB (SA.F sameR sameT _ 8 _ (by kernel_rfl)) 96 s.pos bc 0 qs.length 1 (s.pos : Int) (by kernel_rfl) (by omega) (by omega) (by omega) ?_
        refine WO.ld (SA.S sameR sameT _ 9 _ (by kernel_rfl)) 97 (.int .i64 (g0 (vst qs s) s.pos)) (by kernel_rfl) (same (HR28.at s.pos 0 s.pos _ (by rw [List.length_map]; have := ((vst_len qs s).trans hgd.len); omega) (by omega) (by rw [(map_atI (vst qs s) s.pos (by have := ((vst_len qs s).trans hgd.len); omega))]; rfl) (by omega))) ?_
        refine WO.one (SA.F sameR sameT _ 10 _ (by kernel_rfl)) 98 (.slice (some ad_co) qs.length ccap) (by kernel_rfl) ?_
        refine WO.one (SA.F sameR sameT _ 11 _ (by kernel_rfl)) 99 (.pointer (some ⟨g, 0, none⟩)) (by kernel_rfl) ?_
        refine WO.one (SA.F sameR sameT _ 12 _ (by kernel_rfl)) 100 (.pointer (some ⟨g, 0, none⟩)) (by kernel_rfl) ?_
        refine WO.one (SA.F sameR sameT _ 13 _ (by kernel_rfl)) 101 (.pointer (some ⟨g, 2, none⟩)) (by kernel_rfl) ?_
        refine WO.ld (SA.S sameR sameT _ 14 _ (by kernel_rfl)) 102 (.int .i64 (s.pos : Int)) (by kernel_rfl) (same (HB31.at 2 (by kernel_rfl))) ?_
        refine WO.ix (SA.F sameR sameT _ 15 _ (by kernel_rfl)) 103 (ad_co.add s.pos) ad_co qs.length 1 (s.pos : Int) (by kernel_rfl) (by omega) (by omega) (by congr 1 <;> omega) ?_
        refine WO.ld (SA.S sameR sameT _ 16 _ (by kernel_rfl)) 104 (.int .i64 (g0 co s.pos)) (by kernel_rfl) (same (hcl s.pos (by omega))) ?_
        refine WO.one (SA.F sameR sameT _ 17 _ (by kernel_rfl)) 105 (.int .i64 (IntKind.i64.wrap ((g0 (vst qs s) s.pos) - (g0 co s.pos)))) (by kernel_rfl) ?_
        refine WO.top (v' := .int .i64 ((g0 (vst qs s) s.pos) - (g0 co s.pos))) (wrap_i64 (by omega) (by omega)) ?_
        refine WO.ixB (SA.F sameR sameT _ 18 _ (by kernel_rfl)) 106 s.pos bc 0 qs.length 1 (s.pos : Int) (by kernel_rfl) (by omega) (by omega) (by omega) ?_
        refine WO.stR (SA.E _ 19 _ (by kernel_rfl) rfl) bc s.pos s.pos [.int .i64 ((g0 (vst qs s) s.pos) - (g0 co s.pos))] HR28 (by rw [List.length_map]; have := ((vst_len qs s).trans hgd.len); omega) rfl (by omega) rfl (by kernel_rfl) (fun _ _ => trivial) ?_
        intro w37 HR39 F38 _
        have HB31 := Blk.keep HB31 F38 (ninC n2 (nin0 _))
        have HQ := RowB.keep HQ F38 (ninC n3 (nin0 _))
        have hcl := fun k hk => Fr.cellN F38 (hcl k hk) (ninC (Ne.symm (Ne.symm hac)) (nin0 _))
        have HA := Fr.step HA F38 (inSL (by simp) inS0)
        have HR39 : RowB w37 bc 3 1 cc (((vst qs s).set s.pos ((g0 (vst qs s) s.pos) - (g0 co s.pos))).map cI) := by rw [List.map_set]; exact HR39
        refine WO.doneA (by kernel_rfl) ?_
        refine WQ.keep [0, 1, 8, 41, 54, 85] (e' := [(0, .pointer (some ⟨g, 0, none⟩)), (1, .slice (some ad_co) qs.length ccap), (8, .int .i64 (s.pos : Int)), (41, .bool false), (54, .bool true), (85, .bool true)]) (by kernel_rfl) ?_
        refine WQ.thenN ?_
        refine WE.seq ?_
        -- R18 deficit.go:61
        refine WE.region ?_
        refine WO.run 3 0 [(109, .pointer (some ⟨g, 2, none⟩)), (108, .pointer (some ⟨g, 0, none⟩)), (107, .pointer (some ⟨g, 0, none⟩))] (by kernel_rfl) (by kernel_rfl) ?_
        refine WO.ld (SQ.S 3 (by kernel_rfl)) 110 (.int .i64 (s.pos : Int)) (by kernel_rfl) (same (HB31.at 2 (by kernel_rfl))) ?_
        refine WO.run 2 4 [(5, .nilIface), (4, .int .i64 (s.pos : Int))] (by kernel_rfl) (by kernel_rfl) ?_
        refine WO.done (by kernel_rfl) ?_
        refine WQ.keep [0, 1, 4, 5, 8, 41, 54, 85] (e' := [(0, .pointer (some ⟨g, 0, none⟩)), (1, .slice (some ad_co) qs.length ccap), (4, .int .i64 (s.pos : Int)), (5, .nilIface), (8, .int .i64 (s.pos : Int)), (41, .bool false), (54, .bool true), (85, .bool true)]) (by kernel_rfl) ?_
        refine WQ.thenN ?_
        refine WE.ret ?_
        refine WQ.scR ?_
        refine WQ.ret (v := .tuple #[.int .i64 (s.pos : Int), .nilIface]) (by kernel_rfl) ?_
        rw [if_neg h5, if_pos h34] at hrun
        obtain rfl := Option.some.inj hrun
        exact ⟨rfl, HB31, HQ, HR39, HA⟩
      · intro h34
        refine WO.doneA (by kernel_rfl) ?_
        refine WQ.keep [0, 1, 8, 41, 54, 85] (e' := [(0, .pointer (some ⟨g, 0, none⟩)), (1, .slice (some ad_co) qs.length ccap), (8, .int .i64 (s.pos : Int)), (41, .bool false), (54, .bool true), (85, .bool false)]) (by kernel_rfl) ?_
        refine WQ.thenN ?_
        refine WE.condF (by kernel_rfl) ?_
        refine WE.skip ?_
        refine WQ.thenN ?_
        -- R16 deficit.go:58
        refine WE.region ?_
        refine WO.run 1 0 [(86, .pointer (some ⟨g, 0, none⟩))] (by kernel_rfl) (by kernel_rfl) ?_
        refine WO.call (SQ.E 1 (by kernel_rfl)) 87 (by kernel_rfl) (on_any g bq bc cq cc qs.length s.pos true _ HB31 (by omega) (by omega)) ?_
        rintro _ w40 ⟨rfl, HB42, F41⟩
        refine ⟨_, rfl, trivial, ?_⟩
        have HQ := RowB.keep HQ F41 (ninC (Ne.symm n1) (nin0 _))
        have HR28 := RowB.keep HR28 F41 (ninC (Ne.symm n2) (nin0 _))
        have hcl := fun k hk => Fr.cellN F41 (hcl k hk) (ninC (Ne.symm (Ne.symm hag)) (nin0 _))
        have HA := Fr.step HA F41 (inSL (by simp) inS0)
        refine WO.done (by kernel_rfl) ?_
        refine WQ.keep [0, 1, 8, 41, 54, 85] (e' := [(0, .pointer (some ⟨g, 0, none⟩)), (1, .slice (some ad_co) qs.length ccap), (8, .int .i64 (s.pos : Int)), (41, .bool false), (54, .bool true), (85, .bool false)]) (by kernel_rfl) ?_
        refine WQ.blkN ?_
        refine WQ.round ?_
        intro a_ ha_
        refine ⟨(f, ⟨vst qs s, (s.pos + 1) % qs.length, false⟩), ?_, ha_.keep [0, 1] (by kernel_rfl), ?_⟩
        · show f < f + 1; omega
        · exact ⟨by rw [if_neg h5, if_neg h34] at hrun; exact hrun, hgd.on hq hc h34, HB42, HQ, HR28, hcl, HA⟩
end Go.Proofs.Ytjkaldnhfenbhaa.Deficit
