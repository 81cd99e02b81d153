/- Layer 12's law: its walk. -/
import Derived.Test.YtjkaldnhfenbhaaDeficitO
import Derived.Test.YtjkaldnhfenbhaaLists
set_option linter.unusedVariables false
set_option linter.unusedSimpArgs false
namespace Go.Proofs.Ytjkaldnhfenbhaa.Deficit
open Go Go.RowKit Go.Proofs.Ytjkaldnhfenbhaa Go.Proofs.Ytjkaldnhfenbhaa.Eng Go.Proofs.YtjkaldnhfenbhaaW.PrintWords Go.Proofs.YtjkaldnhfenbhaaW.PrintLast
/-- a slice reads as lists of ints -/
def RdL (w : World) (A : Option Addr) (L : List (List Int)) : Prop := ∀ i, i < L.length → ∃ ad Ai ci, A = some ad ∧ w.cell? (ad.add i) = some (.slice Ai (L.getD i []).length ci) ∧ (L.getD i []).length ≤ 9223372036854775807 ∧ Rd w Ai (L.getD i [])
theorem rd_of {w : World} {A : Option Addr} {l : List Int} (h : Kd.C (Kd.int .i64) w A l.length l) : Rd w A l := by
  intro k hk
  rcases Lists.C_ints h with rfl | ⟨ad, rfl, hc⟩
  · simp at hk
  · exact ⟨ad, rfl, hc k hk⟩
theorem rdL_of {w : World} {A : Option Addr} {L : List (List Int)} (h : Kd.C (Kd.slice 3 (Kd.int .i64)) w A L.length L) : RdL w A L := by
  intro i hi
  obtain ⟨_, _, h3⟩ := h
  obtain ⟨ad, e, hc⟩ := h3 (by omega)
  obtain ⟨cs, _, hk, hcell⟩ := hc i (L.getD i []) (by simp [List.getD, hi])
  obtain ⟨Ai, ci, rfl, hle, hC⟩ := hk
  have := hcell 0 _ rfl
  rw [show i * (Kd.slice 3 (Kd.int .i64)).sz + 0 = i from Nat.mul_one i] at this
  exact ⟨ad, Ai, ci, e, this, hC.2.1, rd_of hC⟩
theorem rd_lt {w : World} {a : Addr} {l : List Int} (h : Rd w (some a) l) (hn : 1 ≤ l.length) : a.block < w.heap.size := by
  obtain ⟨b, hb, hc⟩ := h 0 hn
  obtain rfl := Option.some.inj hb
  have := World.block_lt_of_cell? w _ hc
  rwa [add_block] at this
theorem rd_blk2 {w : World} {b : Nat} {x y : Int} {T : TypeId} (h : Blk w b #[.int .i64 x, .int .i64 y] T) : Rd w (some ⟨b, 0, none⟩) [x, y] := by
  intro k hk
  refine ⟨_, rfl, ?_⟩
  rw [add_blk, Nat.zero_add]
  match k, hk with
  | 0, _ => exact h.at 0 rfl
  | 1, _ => exact h.at 1 rfl
  | k + 2, hk => exact absurd hk (by simp)
theorem cellB {B : Nat} {w w1 : World} {p : Addr} {v : Value} (k : FrB B w w1) (hb : p.block < B) (h : w.cell? p = some v) : w1.cell? p = some v := by
  rw [← h]
  unfold World.cell?
  rw [k _ hb]
theorem gq11 : GoodQ [1, 1] := (goodQ_of (by decide)).1
theorem gd11 (s : St) (h : s.cs = [0, 0]) (hp : s.pos < 2) : Good [1, 1] s := by
  refine ⟨by rw [h]; rfl, hp, fun i hi => ?_, fun i hi => .inl ?_⟩ <;>
  · rw [h]
    match i, hi with
    | 0, _ => decide
    | 1, _ => decide
    | i + 2, hi => exact absurd hi (by simp)
/-- what a turn with costs that are right comes to -/
def Turn (qs co : List Int) (s s' : St) (x : Int) : Prop := (co.any someC = false ∧ x = -1 ∧ s' = ⟨List.replicate qs.length 0, s.pos, s.vis⟩) ∨ (GoodC qs co ∧ co.any someC = true ∧ ∃ f n, run qs co f s = some (s', n) ∧ x = (n : Int))
theorem turn_of {qs co : List Int} {s : St} (hq : GoodQ qs) (hc : GoodC qs co) (hgd : Good qs s) : ∃ s' x, Turn qs co s s' x ∧ Good qs s' := by
  cases h : co.any someC with
  | false => exact ⟨_, _, .inl ⟨h, rfl, rfl⟩, goodZ hgd⟩
  | true =>
    obtain ⟨f, r, hr, hg, _⟩ := run_of hq hc hgd h
    exact ⟨r.1, _, .inr ⟨hc, h, f, r.2, hr, rfl⟩, hg⟩
theorem pickT_ok {w : World} {F : List Nat} {g : Nat} {qs : List Int} {s s' : St} {x : Int} (h : IsT w F g qs s) (hgd : Good qs s) (hq : GoodQ qs) (ad : Addr) (ccap : Nat) (co : List Int) (hc : GoodC qs co) (hrd : Rd w (some ad) co) (had : ad.block ∉ F) (hbad : co.any oddC = false) (hs : Turn qs co s s' x) :
    Calls Try.prog 68 #[.pointer (some ⟨g, 0, none⟩), .slice (some ad) co.length ccap] w fun e w' => e = .returned (.tuple #[.int .i64 x, .nilIface]) ∧ IsT w' F g qs s' ∧ Fr F w w' := by
  rw [hc.len]
  rcases hs with ⟨h1, rfl, rfl⟩ | ⟨hc', h1, f, n, hr, rfl⟩
  · exact pickT_none h hgd hq (some ad) ccap co hc.len hrd hbad h1
  · exact pickT_run h hgd hq ad ccap co hc hrd had hbad h1 f _ hr
theorem refM_ok {w : World} {F : List Nat} {g : Nat} {ad_q ad_co : Addr} {qcap ccap : Nat} {qs co : List Int} {s s' : St} {x : Int} (h : IsM w F g ad_q qcap qs s) (hgd : Good qs s) (hq : GoodQ qs) (hrq : Rd w (some ad_q) qs) (hrd : Rd w (some ad_co) co) (haq : ad_q.block ∉ F) (had : ad_co.block ∉ F) (hc : GoodC qs co) (hs : Turn qs co s s' x) :
    Calls Try.prog 69 #[.pointer (some ⟨g, 0, none⟩), .slice (some ad_co) co.length ccap] w fun e w' => ∃ F', e = .returned (.int .i64 x) ∧ IsM w' F' g ad_q qcap qs s' ∧ Fr F w w' ∧ (∀ y ∈ F', y ∈ F ∨ w.heap.size ≤ y) := by
  rw [hc.len]
  exact refM h hgd hq hrq hrd haq had hc.len hs
set_option maxRecDepth 100000 in
set_option maxHeartbeats 2000000 in
theorem up_any (w : World) :
    Calls Try.prog 65 #[] w fun e w' => e = .returned (.bool true) ∧ Fr [] w w' := by
  have HA := Fr.refl [] w
  refine enter (N := 71) Try.func65 (c := _) rfl (by kernel_rfl) (by kernel_rfl) (e := []) (by kernel_rfl) ?_
  refine WE.seq ?_
  -- R0 law.go:11
  refine WE.region ?_
  refine WO.run 1 0 [(0, .bool false)] (by kernel_rfl) (by kernel_rfl) ?_
  refine WO.done (by kernel_rfl) ?_
  refine WQ.thenN ?_
  refine WE.seq ?_
  -- R1 law.go:12
  refine WE.region ?_
  refine WO.bx (SQ.E 0 (by kernel_rfl)) 12 #[.int .i64 1, .int .i64 1] 3 (fun g => .slice (some ⟨g, 0, none⟩) 2 2) (by kernel_rfl) (fun _ _ => trivial) ?_
  intro g1 w2 HB4 F3 le5 _
  have ge_HA_g1 := Nat.le_trans HA.size le5
  have HA := Fr.step0 HA F3
  refine WO.call (SQ.E 1 (by kernel_rfl)) 13 (by kernel_rfl) (new_t ⟨g1, 0, none⟩ 2 2 [1, 1] _ rfl (rd_blk2 HB4) (RowB.src (RowB.of_blk (n := 2) HB4 (List.map cI [1, 1]) rfl rfl (cI_len _) (cI_one _) (by omega))) (by decide) (by decide) (by decide)) ?_
  rintro _ w6 ⟨T8, g9, rfl, HT10, F7, hg11⟩
  refine ⟨_, rfl, trivial, ?_⟩
  have hg11x : ∀ y ∈ T8, y ∈ [] ∨ (World.heap w2).size ≤ y := fun y hy => Or.inr (hg11 y hy)
  have nin_g1_T8 : g1 ∉ T8 := grow_nin hg11x (nin0 _) HB4.lt
  have ge_HA_T8 : ∀ y ∈ T8, (World.heap w).size ≤ y := grow_ge hg11x (by simp) HA.size
  have HB4 := Blk.keep HB4 F7 (nin0 _)
  have HA := Fr.step0 HA F7
  refine WO.run 5 2 [(2, .nilIface), (1, .pointer (some ⟨g9, 0, none⟩)), (15, .nilIface), (14, .pointer (some ⟨g9, 0, none⟩)), (11, .tuple #[.pointer (some ⟨g9, 0, none⟩), .nilIface])] (by kernel_rfl) (by kernel_rfl) ?_
  refine WO.done (by kernel_rfl) ?_
  refine WQ.keep [0, 1, 2] (e' := [(0, .bool false), (1, .pointer (some ⟨g9, 0, none⟩)), (2, .nilIface)]) (by kernel_rfl) ?_
  refine WQ.thenN ?_
  refine WE.seq ?_
  -- R2 law.go:13
  refine WE.region ?_
  refine WO.call (SQ.E 0 (by kernel_rfl)) 17 (by kernel_rfl) (new_bad none 0 0 [] _ rfl (fun k hk => absurd hk (Nat.not_lt_zero _)) (fun h => absurd h (by decide))) ?_
  rintro _ w12 ⟨rfl, F13⟩
  refine ⟨_, rfl, trivial, ?_⟩
  have HB4 := Blk.keep HB4 F13 (nin0 _)
  have HT10 := HT10.keep F13 (fun _ _ => nin0 _)
  have HA := Fr.step0 HA F13
  refine WO.run 5 1 [(4, .iface 29 (.int .i64 1)), (3, .pointer none), (19, .iface 29 (.int .i64 1)), (18, .pointer none), (16, .tuple #[.pointer none, .iface 29 (.int .i64 1)])] (by kernel_rfl) (by kernel_rfl) ?_
  refine WO.done (by kernel_rfl) ?_
  refine WQ.keep [0, 1, 2, 4] (e' := [(0, .bool false), (1, .pointer (some ⟨g9, 0, none⟩)), (2, .nilIface), (4, .iface 29 (.int .i64 1))]) (by kernel_rfl) ?_
  refine WQ.thenN ?_
  refine WE.seq ?_
  refine WE.seq ?_
  -- R3 law.go:14
  refine WE.region ?_
  refine WO.run 6 0 [(25, .bool false), (24, .bool false), (23, .nilIface), (22, .bool false), (21, .bool false), (20, .pointer (some ⟨g9, 0, none⟩))] (by kernel_rfl) (by kernel_rfl) ?_
  refine WO.done (by kernel_rfl) ?_
  refine WQ.keep [0, 1, 2, 4, 25] (e' := [(0, .bool false), (1, .pointer (some ⟨g9, 0, none⟩)), (2, .nilIface), (4, .iface 29 (.int .i64 1)), (25, .bool false)]) (by kernel_rfl) ?_
  refine WQ.thenN ?_
  refine WE.condF (by kernel_rfl) ?_
  refine WE.skip ?_
  refine WQ.thenN ?_
  refine WE.seq ?_
  -- R5 law.go:17
  refine WE.region ?_
  refine WO.run 1 0 [(27, .pointer (some ⟨g9, 0, none⟩))] (by kernel_rfl) (by kernel_rfl) ?_
  refine WO.bx (SQ.E 1 (by kernel_rfl)) 28 #[.int .i64 1, .int .i64 1] 3 (fun g => .slice (some ⟨g, 0, none⟩) 2 2) (by kernel_rfl) (fun _ _ => trivial) ?_
  intro g14 w15 HB17 F16 le18 _
  have ne_g1_g14 : g1 ≠ g14 := Nat.ne_of_lt (Nat.lt_of_lt_of_le HB4.lt le18)
  have nin_g14_T8 : g14 ∉ T8 := new_nin HT10.lt le18
  have ge_HA_g14 := Nat.le_trans HA.size le18
  have HB4 := Blk.keep HB4 F16 (nin0 _)
  have HT10 := HT10.keep F16 (fun _ _ => nin0 _)
  have HA := Fr.step0 HA F16
  refine WO.call (SQ.E 2 (by kernel_rfl)) 29 (by kernel_rfl) (pickT_run HT10 (by exact good0 gq11) gq11 ⟨g14, 0, none⟩ 2 [1, 1] (goodC_of rfl (by decide)) (rd_blk2 HB17) nin_g14_T8 (by decide) (by decide) 1 (⟨[0, 0], 0, true⟩, 0) (by rfl)) ?_
  rintro _ w19 ⟨rfl, HT21, F20⟩
  refine ⟨_, rfl, trivial, ?_⟩
  have HB4 := Blk.keep HB4 F20 nin_g1_T8
  have HB17 := Blk.keep HB17 F20 nin_g14_T8
  have HA := Fr.step HA F20 (inF ge_HA_T8)
  refine WO.run 5 3 [(6, .nilIface), (5, .int .i64 0), (31, .nilIface), (30, .int .i64 0), (26, .tuple #[.int .i64 0, .nilIface])] (by kernel_rfl) (by kernel_rfl) ?_
  refine WO.done (by kernel_rfl) ?_
  refine WQ.keep [0, 1, 2, 4, 5, 6, 25] (e' := [(0, .bool false), (1, .pointer (some ⟨g9, 0, none⟩)), (2, .nilIface), (4, .iface 29 (.int .i64 1)), (5, .int .i64 0), (6, .nilIface), (25, .bool false)]) (by kernel_rfl) ?_
  refine WQ.thenN ?_
  refine WE.seq ?_
  -- R6 law.go:18
  refine WE.region ?_
  refine WO.run 1 0 [(33, .pointer (some ⟨g9, 0, none⟩))] (by kernel_rfl) (by kernel_rfl) ?_
  refine WO.bx (SQ.E 1 (by kernel_rfl)) 34 #[.int .i64 1, .int .i64 1] 3 (fun g => .slice (some ⟨g, 0, none⟩) 2 2) (by kernel_rfl) (fun _ _ => trivial) ?_
  intro g22 w23 HB25 F24 le26 _
  have ne_g1_g22 : g1 ≠ g22 := Nat.ne_of_lt (Nat.lt_of_lt_of_le HB4.lt le26)
  have ne_g14_g22 : g14 ≠ g22 := Nat.ne_of_lt (Nat.lt_of_lt_of_le HB17.lt le26)
  have nin_g22_T8 : g22 ∉ T8 := new_nin HT21.lt le26
  have ge_HA_g22 := Nat.le_trans HA.size le26
  have HB4 := Blk.keep HB4 F24 (nin0 _)
  have HB17 := Blk.keep HB17 F24 (nin0 _)
  have HT21 := HT21.keep F24 (fun _ _ => nin0 _)
  have HA := Fr.step0 HA F24
  refine WO.call (SQ.E 2 (by kernel_rfl)) 35 (by kernel_rfl) (pickT_run HT21 (by exact gd11 _ (by decide) (by decide)) gq11 ⟨g22, 0, none⟩ 2 [1, 1] (goodC_of rfl (by decide)) (rd_blk2 HB25) nin_g22_T8 (by decide) (by decide) 2 (⟨[0, 0], 1, true⟩, 1) (by rfl)) ?_
  rintro _ w27 ⟨rfl, HT29, F28⟩
  refine ⟨_, rfl, trivial, ?_⟩
  have HB4 := Blk.keep HB4 F28 nin_g1_T8
  have HB17 := Blk.keep HB17 F28 nin_g14_T8
  have HB25 := Blk.keep HB25 F28 nin_g22_T8
  have HA := Fr.step HA F28 (inF ge_HA_T8)
  refine WO.run 5 3 [(8, .nilIface), (7, .int .i64 1), (37, .nilIface), (36, .int .i64 1), (32, .tuple #[.int .i64 1, .nilIface])] (by kernel_rfl) (by kernel_rfl) ?_
  refine WO.done (by kernel_rfl) ?_
  refine WQ.keep [0, 1, 2, 4, 5, 6, 7, 8, 25] (e' := [(0, .bool false), (1, .pointer (some ⟨g9, 0, none⟩)), (2, .nilIface), (4, .iface 29 (.int .i64 1)), (5, .int .i64 0), (6, .nilIface), (7, .int .i64 1), (8, .nilIface), (25, .bool false)]) (by kernel_rfl) ?_
  refine WQ.thenN ?_
  refine WE.seq ?_
  -- R7 law.go:19
  refine WE.region ?_
  refine WO.run 1 0 [(39, .pointer (some ⟨g9, 0, none⟩))] (by kernel_rfl) (by kernel_rfl) ?_
  refine WO.bx (SQ.E 1 (by kernel_rfl)) 40 #[.int .i64 0, .int .i64 0] 3 (fun g => .slice (some ⟨g, 0, none⟩) 2 2) (by kernel_rfl) (fun _ _ => trivial) ?_
  intro g30 w31 HB33 F32 le34 _
  have ne_g1_g30 : g1 ≠ g30 := Nat.ne_of_lt (Nat.lt_of_lt_of_le HB4.lt le34)
  have ne_g14_g30 : g14 ≠ g30 := Nat.ne_of_lt (Nat.lt_of_lt_of_le HB17.lt le34)
  have ne_g22_g30 : g22 ≠ g30 := Nat.ne_of_lt (Nat.lt_of_lt_of_le HB25.lt le34)
  have nin_g30_T8 : g30 ∉ T8 := new_nin HT29.lt le34
  have ge_HA_g30 := Nat.le_trans HA.size le34
  have HB4 := Blk.keep HB4 F32 (nin0 _)
  have HB17 := Blk.keep HB17 F32 (nin0 _)
  have HB25 := Blk.keep HB25 F32 (nin0 _)
  have HT29 := HT29.keep F32 (fun _ _ => nin0 _)
  have HA := Fr.step0 HA F32
  refine WO.call (SQ.E 2 (by kernel_rfl)) 41 (by kernel_rfl) (pickT_none HT29 (by exact gd11 _ (by decide) (by decide)) gq11 (some ⟨g30, 0, none⟩) 2 [0, 0] rfl (rd_blk2 HB33) (by decide) (by decide)) ?_
  rintro _ w35 ⟨rfl, HT37, F36⟩
  refine ⟨_, rfl, trivial, ?_⟩
  have HB4 := Blk.keep HB4 F36 nin_g1_T8
  have HB17 := Blk.keep HB17 F36 nin_g14_T8
  have HB25 := Blk.keep HB25 F36 nin_g22_T8
  have HB33 := Blk.keep HB33 F36 nin_g30_T8
  have HA := Fr.step HA F36 (inF ge_HA_T8)
  refine WO.run 5 3 [(10, .nilIface), (9, .int .i64 (-1)), (43, .nilIface), (42, .int .i64 (-1)), (38, .tuple #[.int .i64 (-1), .nilIface])] (by kernel_rfl) (by kernel_rfl) ?_
  refine WO.done (by kernel_rfl) ?_
  refine WQ.keep [0, 1, 2, 4, 5, 6, 7, 8, 9, 10, 25] (e' := [(0, .bool false), (1, .pointer (some ⟨g9, 0, none⟩)), (2, .nilIface), (4, .iface 29 (.int .i64 1)), (5, .int .i64 0), (6, .nilIface), (7, .int .i64 1), (8, .nilIface), (9, .int .i64 (-1)), (10, .nilIface), (25, .bool false)]) (by kernel_rfl) ?_
  refine WQ.thenN ?_
  refine WE.seq ?_
  -- R8 law.go:20
  refine WE.region ?_
  refine WO.run 28 0 [(0, .bool true), (70, .bool true), (69, .bool true), (68, .nilIface), (67, .bool true), (66, .bool true), (65, .bool true), (64, .int .i64 (-1)), (63, .bool true), (62, .bool true), (61, .bool true), (60, .nilIface), (59, .bool true), (58, .bool true), (57, .bool true), (56, .int .i64 1), (55, .bool true), (54, .bool true), (53, .bool true), (52, .nilIface), (51, .bool true), (50, .bool true), (49, .bool true), (48, .int .i64 0), (47, .bool true), (46, .bool true), (45, .iface 29 (.int .i64 1)), (44, .iface 29 (.int .i64 1))] (by kernel_rfl) (by kernel_rfl) ?_
  refine WO.done (by kernel_rfl) ?_
  refine WQ.keep [0, 1, 2, 4, 5, 6, 7, 8, 9, 10, 25] (e' := [(0, .bool true), (1, .pointer (some ⟨g9, 0, none⟩)), (2, .nilIface), (4, .iface 29 (.int .i64 1)), (5, .int .i64 0), (6, .nilIface), (7, .int .i64 1), (8, .nilIface), (9, .int .i64 (-1)), (10, .nilIface), (25, .bool false)]) (by kernel_rfl) ?_
  refine WQ.thenN ?_
  refine WE.ret ?_
  refine WQ.ret (v := .bool true) (by kernel_rfl) ?_
  exact ⟨rfl, HA⟩

set_option maxRecDepth 100000 in
set_option maxHeartbeats 400000 in
theorem law_bad (A0 A1 : Option Addr) (cap0 cap1 : Nat) (l0 : List Int) (L : List (List Int)) (w : World) (hm : l0.length ≤ 9223372036854775807) (hrd0 : Rd w A0 l0) (hR : rightQ l0 = false) :
    Calls Try.prog 14 #[.slice A0 l0.length cap0, .slice A1 L.length cap1] w fun e w' => e = .returned (.bool true) ∧ Fr [] w w' := by
  have hany : 1 ≤ l0.length → l0.length ≤ 4 → l0.any oddQ = true := fun h1 h4 => by
    cases h : l0.any oddQ with
    | true => rfl
    | false => rw [rightQ, h, decide_eq_true h1, decide_eq_true h4] at hR; cases hR
  have HA := Fr.refl [] w
  refine enter (N := 145) Try.func14 (c := _) rfl (by kernel_rfl) (by kernel_rfl) (e := [(0, .slice A0 l0.length cap0), (1, .slice A1 L.length cap1)]) (by kernel_rfl) ?_
  refine WE.seq ?_
  -- R0 law.go:34
  refine WE.region ?_
  refine WO.run 1 0 [(4, .bool false)] (by kernel_rfl) (by kernel_rfl) ?_
  refine WO.done (by kernel_rfl) ?_
  refine WQ.keep [0, 1, 4] (e' := [(0, .slice A0 l0.length cap0), (1, .slice A1 L.length cap1), (4, .bool false)]) (by kernel_rfl) ?_
  refine WQ.thenN ?_
  refine WE.seq ?_
  -- R1 law.go:35
  refine WE.region ?_
  refine WO.call (SQ.E 0 (by kernel_rfl)) 15 (by kernel_rfl) (up_any _) ?_
  rintro _ w1 ⟨rfl, F2⟩
  refine ⟨_, rfl, trivial, ?_⟩
  have HA := Fr.step0 HA F2
  refine WO.run 1 1 [(5, .bool true)] (by kernel_rfl) (by kernel_rfl) ?_
  refine WO.done (by kernel_rfl) ?_
  refine WQ.keep [0, 1, 4, 5] (e' := [(0, .slice A0 l0.length cap0), (1, .slice A1 L.length cap1), (4, .bool false), (5, .bool true)]) (by kernel_rfl) ?_
  refine WQ.thenN ?_
  refine WE.seq ?_
  -- R2 law.go:36
  refine WE.region ?_
  refine WO.run 1 0 [(17, .slice A0 l0.length cap0)] (by kernel_rfl) (by kernel_rfl) ?_
  refine WO.call (SQ.E 1 (by kernel_rfl)) 18 (by kernel_rfl) (new_bad A0 l0.length cap0 l0 _ rfl (hrd0.keep HA) hany) ?_
  rintro _ w3 ⟨rfl, F4⟩
  refine ⟨_, rfl, trivial, ?_⟩
  have HA := Fr.step0 HA F4
  refine WO.run 5 2 [(7, .iface 29 (.int .i64 1)), (6, .pointer none), (20, .iface 29 (.int .i64 1)), (19, .pointer none), (16, .tuple #[.pointer none, .iface 29 (.int .i64 1)])] (by kernel_rfl) (by kernel_rfl) ?_
  refine WO.done (by kernel_rfl) ?_
  refine WQ.keep [0, 1, 4, 5, 6, 7] (e' := [(0, .slice A0 l0.length cap0), (1, .slice A1 L.length cap1), (4, .bool false), (5, .bool true), (6, .pointer none), (7, .iface 29 (.int .i64 1))]) (by kernel_rfl) ?_
  refine WQ.thenN ?_
  refine WE.seq ?_
  -- R3 law.go:37
  refine WE.region ?_
  refine WO.run 1 0 [(21, .slice A0 l0.length cap0)] (by kernel_rfl) (by kernel_rfl) ?_
  refine WO.call (SQ.E 1 (by kernel_rfl)) 22 (by kernel_rfl) (right_any A0 l0.length cap0 l0 _ rfl (by omega) (hrd0.keep HA)) ?_
  rintro _ w5 ⟨rfl, F6⟩
  refine ⟨_, rfl, trivial, ?_⟩
  have HA := Fr.step0 HA F6
  refine WO.one (SQ.F 2 (by kernel_rfl)) 8 (.bool (rightQ l0)) (by kernel_rfl) ?_
  refine WO.top (v' := .bool false) (congrArg Value.bool (by exact hR)) ?_
  refine WO.done (by kernel_rfl) ?_
  refine WQ.keep [0, 1, 4, 5, 6, 7, 8] (e' := [(0, .slice A0 l0.length cap0), (1, .slice A1 L.length cap1), (4, .bool false), (5, .bool true), (6, .pointer none), (7, .iface 29 (.int .i64 1)), (8, .bool false)]) (by kernel_rfl) ?_
  refine WQ.thenN ?_
  refine WE.seq ?_
  refine WE.seq ?_
  -- R4 law.go:38
  refine WE.region ?_
  refine WO.run 2 0 [(24, .bool true), (23, .bool false)] (by kernel_rfl) (by kernel_rfl) ?_
  refine WO.done (by kernel_rfl) ?_
  refine WQ.keep [0, 1, 4, 5, 6, 7, 8, 24] (e' := [(0, .slice A0 l0.length cap0), (1, .slice A1 L.length cap1), (4, .bool false), (5, .bool true), (6, .pointer none), (7, .iface 29 (.int .i64 1)), (8, .bool false), (24, .bool true)]) (by kernel_rfl) ?_
  refine WQ.thenN ?_
  refine WE.condT (by kernel_rfl) ?_
  refine WE.seq ?_
  -- R5 law.go:39
  refine WE.region ?_
  refine WO.run 11 0 [(4, .bool true), (34, .bool true), (33, .bool true), (32, .iface 29 (.int .i64 1)), (31, .iface 29 (.int .i64 1)), (30, .bool true), (29, .bool true), (28, .bool true), (27, .pointer none), (26, .bool true), (25, .bool true)] (by kernel_rfl) (by kernel_rfl) ?_
  refine WO.done (by kernel_rfl) ?_
  refine WQ.keep [0, 1, 4, 5, 6, 7, 8, 24] (e' := [(0, .slice A0 l0.length cap0), (1, .slice A1 L.length cap1), (4, .bool true), (5, .bool true), (6, .pointer none), (7, .iface 29 (.int .i64 1)), (8, .bool false), (24, .bool true)]) (by kernel_rfl) ?_
  refine WQ.thenN ?_
  refine WE.ret ?_
  refine WQ.thenR ?_
  refine WQ.ret (v := .bool true) (by kernel_rfl) ?_
  exact ⟨rfl, HA⟩

set_option maxRecDepth 100000 in
set_option maxHeartbeats 400000 in
theorem law_long (ad0 : Addr) (A1 : Option Addr) (cap0 cap1 : Nat) (l0 : List Int) (L : List (List Int)) (w : World) (hrd0 : Rd w (some ad0) l0) (hsrc0 : Src w (.slice (some ad0) l0.length cap0) l0.length (l0.map cI).flatten 1) (hR : rightQ l0 = true) (hq : GoodQ l0) (hnq : l0.any oddQ = false) (hL : 100 < L.length) (hLm : L.length ≤ 9223372036854775807) :
    Calls Try.prog 14 #[.slice (some ad0) l0.length cap0, .slice A1 L.length cap1] w fun e w' => e = .returned (.bool true) ∧ Fr [] w w' := by
  have hn4 := hq.n4
  have HA := Fr.refl [] w
  refine enter (N := 145) Try.func14 (c := _) rfl (by kernel_rfl) (by kernel_rfl) (e := [(0, .slice (some ad0) l0.length cap0), (1, .slice A1 L.length cap1)]) (by kernel_rfl) ?_
  refine WE.seq ?_
  -- R0 law.go:34
  refine WE.region ?_
  refine WO.run 1 0 [(4, .bool false)] (by kernel_rfl) (by kernel_rfl) ?_
  refine WO.done (by kernel_rfl) ?_
  refine WQ.keep [0, 1, 4] (e' := [(0, .slice (some ad0) l0.length cap0), (1, .slice A1 L.length cap1), (4, .bool false)]) (by kernel_rfl) ?_
  refine WQ.thenN ?_
  refine WE.seq ?_
  -- R1 law.go:35
  refine WE.region ?_
  refine WO.call (SQ.E 0 (by kernel_rfl)) 15 (by kernel_rfl) (up_any _) ?_
  rintro _ w1 ⟨rfl, F2⟩
  refine ⟨_, rfl, trivial, ?_⟩
  have HA := Fr.step0 HA F2
  refine WO.run 1 1 [(5, .bool true)] (by kernel_rfl) (by kernel_rfl) ?_
  refine WO.done (by kernel_rfl) ?_
  refine WQ.keep [0, 1, 4, 5] (e' := [(0, .slice (some ad0) l0.length cap0), (1, .slice A1 L.length cap1), (4, .bool false), (5, .bool true)]) (by kernel_rfl) ?_
  refine WQ.thenN ?_
  refine WE.seq ?_
  -- R2 law.go:36
  refine WE.region ?_
  refine WO.run 1 0 [(17, .slice (some ad0) l0.length cap0)] (by kernel_rfl) (by kernel_rfl) ?_
  refine WO.call (SQ.E 1 (by kernel_rfl)) 18 (by kernel_rfl) (new_t ad0 l0.length cap0 l0 _ rfl (hrd0.keep HA) (hsrc0.mono HA) hq.n1 hq.n4 hnq) ?_
  rintro _ w3 ⟨T5, g6, rfl, HT7, F4, hg8⟩
  refine ⟨_, rfl, trivial, ?_⟩
  have hg8x : ∀ y ∈ T5, y ∈ [] ∨ (World.heap w1).size ≤ y := fun y hy => Or.inr (hg8 y hy)
  have ge_HA_T5 : ∀ y ∈ T5, (World.heap w).size ≤ y := grow_ge hg8x (by simp) HA.size
  have HA := Fr.step0 HA F4
  refine WO.run 5 2 [(7, .nilIface), (6, .pointer (some ⟨g6, 0, none⟩)), (20, .nilIface), (19, .pointer (some ⟨g6, 0, none⟩)), (16, .tuple #[.pointer (some ⟨g6, 0, none⟩), .nilIface])] (by kernel_rfl) (by kernel_rfl) ?_
  refine WO.done (by kernel_rfl) ?_
  refine WQ.keep [0, 1, 4, 5, 6, 7] (e' := [(0, .slice (some ad0) l0.length cap0), (1, .slice A1 L.length cap1), (4, .bool false), (5, .bool true), (6, .pointer (some ⟨g6, 0, none⟩)), (7, .nilIface)]) (by kernel_rfl) ?_
  refine WQ.thenN ?_
  refine WE.seq ?_
  -- R3 law.go:37
  refine WE.region ?_
  refine WO.run 1 0 [(21, .slice (some ad0) l0.length cap0)] (by kernel_rfl) (by kernel_rfl) ?_
  refine WO.call (SQ.E 1 (by kernel_rfl)) 22 (by kernel_rfl) (right_any (some ad0) l0.length cap0 l0 _ rfl (by omega) (hrd0.keep HA)) ?_
  rintro _ w9 ⟨rfl, F10⟩
  refine ⟨_, rfl, trivial, ?_⟩
  have HT7 := HT7.keep F10 (fun _ _ => nin0 _)
  have HA := Fr.step0 HA F10
  refine WO.one (SQ.F 2 (by kernel_rfl)) 8 (.bool (rightQ l0)) (by kernel_rfl) ?_
  refine WO.top (v' := .bool true) (congrArg Value.bool (by exact hR)) ?_
  refine WO.done (by kernel_rfl) ?_
  refine WQ.keep [0, 1, 4, 5, 6, 7, 8] (e' := [(0, .slice (some ad0) l0.length cap0), (1, .slice A1 L.length cap1), (4, .bool false), (5, .bool true), (6, .pointer (some ⟨g6, 0, none⟩)), (7, .nilIface), (8, .bool true)]) (by kernel_rfl) ?_
  refine WQ.thenN ?_
  refine WE.seq ?_
  refine WE.seq ?_
  -- R4 law.go:38
  refine WE.region ?_
  refine WO.run 2 0 [(24, .bool false), (23, .bool true)] (by kernel_rfl) (by kernel_rfl) ?_
  refine WO.done (by kernel_rfl) ?_
  refine WQ.keep [0, 1, 4, 5, 6, 7, 8, 24] (e' := [(0, .slice (some ad0) l0.length cap0), (1, .slice A1 L.length cap1), (4, .bool false), (5, .bool true), (6, .pointer (some ⟨g6, 0, none⟩)), (7, .nilIface), (8, .bool true), (24, .bool false)]) (by kernel_rfl) ?_
  refine WQ.thenN ?_
  refine WE.condF (by kernel_rfl) ?_
  refine WE.skip ?_
  refine WQ.thenN ?_
  refine WE.seq ?_
  refine WE.seq ?_
  -- R6 law.go:41
  refine WE.region ?_
  refine WO.run 9 0 [(43, .int .i64 (L.length : Int)), (42, .slice A1 L.length cap1), (41, .bool false), (40, .bool false), (39, .bool false), (38, .nilIface), (37, .bool false), (36, .bool false), (35, .pointer (some ⟨g6, 0, none⟩))] (by kernel_rfl) (by kernel_rfl) ?_
  refine WO.one (SQ.F 9 (by kernel_rfl)) 44 (.bool (decide (((L.length : Int) : Int) > (100 : Int)))) (by kernel_rfl) ?_
  refine WO.topPT (((L.length : Int) : Int) > (100 : Int)) (by omega) ?_
  refine WO.run 1 10 [(45, .bool true)] (by kernel_rfl) (by kernel_rfl) ?_
  refine WO.done (by kernel_rfl) ?_
  refine WQ.keep [0, 1, 4, 5, 6, 7, 8, 24, 45] (e' := [(0, .slice (some ad0) l0.length cap0), (1, .slice A1 L.length cap1), (4, .bool false), (5, .bool true), (6, .pointer (some ⟨g6, 0, none⟩)), (7, .nilIface), (8, .bool true), (24, .bool false), (45, .bool true)]) (by kernel_rfl) ?_
  refine WQ.thenN ?_
  refine WE.condT (by kernel_rfl) ?_
  refine WE.seq ?_
  -- R7 law.go:42
  refine WE.region ?_
  refine WO.run 10 0 [(4, .bool true), (54, .bool true), (53, .bool true), (52, .nilIface), (51, .bool true), (50, .bool true), (49, .bool true), (48, .pointer (some ⟨g6, 0, none⟩)), (47, .bool true), (46, .bool true)] (by kernel_rfl) (by kernel_rfl) ?_
  refine WO.done (by kernel_rfl) ?_
  refine WQ.keep [0, 1, 4, 5, 6, 7, 8, 24, 45] (e' := [(0, .slice (some ad0) l0.length cap0), (1, .slice A1 L.length cap1), (4, .bool true), (5, .bool true), (6, .pointer (some ⟨g6, 0, none⟩)), (7, .nilIface), (8, .bool true), (24, .bool false), (45, .bool true)]) (by kernel_rfl) ?_
  refine WQ.thenN ?_
  refine WE.ret ?_
  refine WQ.thenR ?_
  refine WQ.ret (v := .bool true) (by kernel_rfl) ?_
  exact ⟨rfl, HA⟩

set_option maxRecDepth 100000 in
set_option maxHeartbeats 4000000 in
theorem law_main (ad0 : Addr) (A1 : Option Addr) (cap0 cap1 : Nat) (l0 : List Int) (L : List (List Int)) (w : World) (hrd0 : Rd w (some ad0) l0) (hsrc0 : Src w (.slice (some ad0) l0.length cap0) l0.length (l0.map cI).flatten 1) (hR : rightQ l0 = true) (hq : GoodQ l0) (hnq : l0.any oddQ = false) (hrdL : RdL w A1 L) (hL : L.length ≤ 100) :
    Calls Try.prog 14 #[.slice (some ad0) l0.length cap0, .slice A1 L.length cap1] w fun e w' => e = .returned (.bool true) ∧ Fr [] w w' := by
  have hn4 := hq.n4
  have HA := Fr.refl [] w
  refine enter (N := 145) Try.func14 (c := _) rfl (by kernel_rfl) (by kernel_rfl) (e := [(0, .slice (some ad0) l0.length cap0), (1, .slice A1 L.length cap1)]) (by kernel_rfl) ?_
  refine WE.seq ?_
  -- R0 law.go:34
  refine WE.region ?_
  refine WO.run 1 0 [(4, .bool false)] (by kernel_rfl) (by kernel_rfl) ?_
  refine WO.done (by kernel_rfl) ?_
  refine WQ.keep [0, 1, 4] (e' := [(0, .slice (some ad0) l0.length cap0), (1, .slice A1 L.length cap1), (4, .bool false)]) (by kernel_rfl) ?_
  refine WQ.thenN ?_
  refine WE.seq ?_
  -- R1 law.go:35
  refine WE.region ?_
  refine WO.call (SQ.E 0 (by kernel_rfl)) 15 (by kernel_rfl) (up_any _) ?_
  rintro _ w1 ⟨rfl, F2⟩
  refine ⟨_, rfl, trivial, ?_⟩
  have HA := Fr.step0 HA F2
  refine WO.run 1 1 [(5, .bool true)] (by kernel_rfl) (by kernel_rfl) ?_
  refine WO.done (by kernel_rfl) ?_
  refine WQ.keep [0, 1, 4, 5] (e' := [(0, .slice (some ad0) l0.length cap0), (1, .slice A1 L.length cap1), (4, .bool false), (5, .bool true)]) (by kernel_rfl) ?_
  refine WQ.thenN ?_
  refine WE.seq ?_
  -- R2 law.go:36
  refine WE.region ?_
  refine WO.run 1 0 [(17, .slice (some ad0) l0.length cap0)] (by kernel_rfl) (by kernel_rfl) ?_
  refine WO.call (SQ.E 1 (by kernel_rfl)) 18 (by kernel_rfl) (new_t ad0 l0.length cap0 l0 _ rfl (hrd0.keep HA) (hsrc0.mono HA) hq.n1 hq.n4 hnq) ?_
  rintro _ w3 ⟨T5, g6, rfl, HT7, F4, hg8⟩
  refine ⟨_, rfl, trivial, ?_⟩
  have hg8x : ∀ y ∈ T5, y ∈ [] ∨ (World.heap w1).size ≤ y := fun y hy => Or.inr (hg8 y hy)
  have ge_HA_T5 : ∀ y ∈ T5, (World.heap w).size ≤ y := grow_ge hg8x (by simp) HA.size
  have HA := Fr.step0 HA F4
  refine WO.run 5 2 [(7, .nilIface), (6, .pointer (some ⟨g6, 0, none⟩)), (20, .nilIface), (19, .pointer (some ⟨g6, 0, none⟩)), (16, .tuple #[.pointer (some ⟨g6, 0, none⟩), .nilIface])] (by kernel_rfl) (by kernel_rfl) ?_
  refine WO.done (by kernel_rfl) ?_
  refine WQ.keep [0, 1, 4, 5, 6, 7] (e' := [(0, .slice (some ad0) l0.length cap0), (1, .slice A1 L.length cap1), (4, .bool false), (5, .bool true), (6, .pointer (some ⟨g6, 0, none⟩)), (7, .nilIface)]) (by kernel_rfl) ?_
  refine WQ.thenN ?_
  refine WE.seq ?_
  -- R3 law.go:37
  refine WE.region ?_
  refine WO.run 1 0 [(21, .slice (some ad0) l0.length cap0)] (by kernel_rfl) (by kernel_rfl) ?_
  refine WO.call (SQ.E 1 (by kernel_rfl)) 22 (by kernel_rfl) (right_any (some ad0) l0.length cap0 l0 _ rfl (by omega) (hrd0.keep HA)) ?_
  rintro _ w9 ⟨rfl, F10⟩
  refine ⟨_, rfl, trivial, ?_⟩
  have HT7 := HT7.keep F10 (fun _ _ => nin0 _)
  have HA := Fr.step0 HA F10
  refine WO.one (SQ.F 2 (by kernel_rfl)) 8 (.bool (rightQ l0)) (by kernel_rfl) ?_
  refine WO.top (v' := .bool true) (congrArg Value.bool (by exact hR)) ?_
  refine WO.done (by kernel_rfl) ?_
  refine WQ.keep [0, 1, 4, 5, 6, 7, 8] (e' := [(0, .slice (some ad0) l0.length cap0), (1, .slice A1 L.length cap1), (4, .bool false), (5, .bool true), (6, .pointer (some ⟨g6, 0, none⟩)), (7, .nilIface), (8, .bool true)]) (by kernel_rfl) ?_
  refine WQ.thenN ?_
  refine WE.seq ?_
  refine WE.seq ?_
  -- R4 law.go:38
  refine WE.region ?_
  refine WO.run 2 0 [(24, .bool false), (23, .bool true)] (by kernel_rfl) (by kernel_rfl) ?_
  refine WO.done (by kernel_rfl) ?_
  refine WQ.keep [0, 1, 4, 5, 6, 7, 8, 24] (e' := [(0, .slice (some ad0) l0.length cap0), (1, .slice A1 L.length cap1), (4, .bool false), (5, .bool true), (6, .pointer (some ⟨g6, 0, none⟩)), (7, .nilIface), (8, .bool true), (24, .bool false)]) (by kernel_rfl) ?_
  refine WQ.thenN ?_
  refine WE.condF (by kernel_rfl) ?_
  refine WE.skip ?_
  refine WQ.thenN ?_
  refine WE.seq ?_
  refine WE.seq ?_
  -- R6 law.go:41
  refine WE.region ?_
  refine WO.run 9 0 [(43, .int .i64 (L.length : Int)), (42, .slice A1 L.length cap1), (41, .bool false), (40, .bool false), (39, .bool false), (38, .nilIface), (37, .bool false), (36, .bool false), (35, .pointer (some ⟨g6, 0, none⟩))] (by kernel_rfl) (by kernel_rfl) ?_
  refine WO.one (SQ.F 9 (by kernel_rfl)) 44 (.bool (decide (((L.length : Int) : Int) > (100 : Int)))) (by kernel_rfl) ?_
  refine WO.topPF (((L.length : Int) : Int) > (100 : Int)) (by omega) ?_
  refine WO.run 1 10 [(45, .bool false)] (by kernel_rfl) (by kernel_rfl) ?_
  refine WO.done (by kernel_rfl) ?_
  refine WQ.keep [0, 1, 4, 5, 6, 7, 8, 24, 45] (e' := [(0, .slice (some ad0) l0.length cap0), (1, .slice A1 L.length cap1), (4, .bool false), (5, .bool true), (6, .pointer (some ⟨g6, 0, none⟩)), (7, .nilIface), (8, .bool true), (24, .bool false), (45, .bool false)]) (by kernel_rfl) ?_
  refine WQ.thenN ?_
  refine WE.condF (by kernel_rfl) ?_
  refine WE.skip ?_
  refine WQ.thenN ?_
  refine WE.seq ?_
  -- R8 law.go:44
  refine WE.region ?_
  refine WO.run 3 0 [(57, .int .i64 (l0.length : Int)), (56, .slice (some ad0) l0.length cap0), (55, .slice (some ad0) l0.length cap0)] (by kernel_rfl) (by kernel_rfl) ?_
  refine WO.mk (SQ.E 3 (by kernel_rfl)) 58 l0.length (.int .i64 0) (by kernel_rfl) (make_int l0.length (by omega)) rfl (by omega) (fun _ _ => trivial) ?_
  intro g11 w12 HR14 F13 le15 _
  have nin_g11_T5 : g11 ∉ T5 := new_nin HT7.lt le15
  have ge_HA_g11 := Nat.le_trans HA.size le15
  have HT7 := HT7.keep F13 (fun _ _ => nin0 _)
  have HA := Fr.step0 HA F13
  have HR14 : RowB w12 g11 3 1 l0.length ((List.replicate l0.length 0).map cI) := by rw [List.map_replicate]; exact HR14
  refine WO.run 1 4 [(59, .agg #[.slice (some ad0) l0.length cap0, .slice (some ⟨g11, 0, none⟩) l0.length l0.length, .int .i64 0, .bool false])] (by kernel_rfl) (by kernel_rfl) ?_
  refine WO.bx (SQ.E 5 (by kernel_rfl)) 60 #[.slice (some ad0) l0.length cap0, .slice (some ⟨g11, 0, none⟩) l0.length l0.length, .int .i64 0, .bool false] 112 (fun g => .pointer (some ⟨g, 0, none⟩)) (by kernel_rfl) (fun _ _ => trivial) ?_
  intro g16 w17 HB19 F18 le20 _
  have ne_g11_g16 : g11 ≠ g16 := Nat.ne_of_lt (Nat.lt_of_lt_of_le HR14.lt le20)
  have nin_g16_T5 : g16 ∉ T5 := new_nin HT7.lt le20
  have ge_HA_g16 := Nat.le_trans HA.size le20
  have HR14 := RowB.keep HR14 F18 (nin0 _)
  have HT7 := HT7.keep F18 (fun _ _ => nin0 _)
  have HA := Fr.step0 HA F18
  refine WO.run 1 6 [(9, .pointer (some ⟨g16, 0, none⟩))] (by kernel_rfl) (by kernel_rfl) ?_
  refine WO.done (by kernel_rfl) ?_
  refine WQ.keep [0, 1, 4, 5, 6, 7, 8, 9, 24, 45] (e' := [(0, .slice (some ad0) l0.length cap0), (1, .slice A1 L.length cap1), (4, .bool false), (5, .bool true), (6, .pointer (some ⟨g6, 0, none⟩)), (7, .nilIface), (8, .bool true), (9, .pointer (some ⟨g16, 0, none⟩)), (24, .bool false), (45, .bool false)]) (by kernel_rfl) ?_
  refine WQ.thenN ?_
  refine WE.seq ?_
  refine WE.seq ?_
  obtain ⟨F2, hF2⟩ : ∃ F2, F2 = [g16, g11] := ⟨_, rfl⟩
  have HM : IsM w17 F2 g16 ad0 cap0 l0 ⟨List.replicate l0.length 0, 0, false⟩ := ⟨_, _, hF2, (Ne.symm ne_g11_g16), HB19, HR14⟩
  have hdj : ∀ y ∈ T5, y ∉ F2 := by rw [hF2]; intro y hy hm; simp only [List.mem_cons, List.not_mem_nil, or_false] at hm; rcases hm with rfl | rfl <;> first | exact nin_g16_T5 hy | exact nin_g11_T5 hy
  have hge2 : ∀ y ∈ F2, (World.heap w).size ≤ y := by rw [hF2]; intro y hm; simp only [List.mem_cons, List.not_mem_nil, or_false] at hm; rcases hm with rfl | rfl <;> first | exact ge_HA_g16 | exact ge_HA_g11
  -- R9 law.go:45
  refine WE.region ?_
  refine WO.run 1 0 [(10, .int .i64 0)] (by kernel_rfl) (by kernel_rfl) ?_
  refine WO.done (by kernel_rfl) ?_
  refine WQ.keep [0, 1, 4, 5, 6, 7, 8, 9, 10, 24, 45] (e' := [(0, .slice (some ad0) l0.length cap0), (1, .slice A1 L.length cap1), (4, .bool false), (5, .bool true), (6, .pointer (some ⟨g6, 0, none⟩)), (7, .nilIface), (8, .bool true), (9, .pointer (some ⟨g16, 0, none⟩)), (10, .int .i64 0), (24, .bool false), (45, .bool false)]) (by kernel_rfl) ?_
  refine WQ.thenN ?_
  refine WE.block ?_
  refine WE.loop (α := Nat × St × List Nat) (E := fun ⟨k, s, F2⟩ => [(0, .slice (some ad0) l0.length cap0), (1, .slice A1 L.length cap1), (4, .bool false), (5, .bool true), (6, .pointer (some ⟨g6, 0, none⟩)), (7, .nilIface), (8, .bool true), (9, .pointer (some ⟨g16, 0, none⟩)), (10, .int .i64 (k : Int)), (24, .bool false), (45, .bool false)]) (I := fun ⟨k, s, F2⟩ wr => k ≤ L.length ∧ Good l0 s ∧ IsT wr T5 g6 l0 s ∧ IsM wr F2 g16 ad0 cap0 l0 s ∧ (∀ y ∈ T5, y ∉ F2) ∧ (∀ y ∈ F2, (World.heap w).size ≤ y) ∧ Fr [] w wr) (m := fun ⟨k, s, F2⟩ => L.length - k) (0, ⟨List.replicate l0.length 0, 0, false⟩, F2) [0, 1, 4, 5, 6, 7, 8, 9, 10, 24, 45] (by kernel_rfl) ?_ ?_
  · exact ⟨Nat.zero_le _, good0 hq, HT7, HM, hdj, hge2, HA⟩
  rintro ⟨k, s, F2⟩ wr ⟨hk, hgd, HT, HM, hdj, hge2, HA⟩
  dsimp only at *
  refine WE.seq ?_
  refine WE.seq ?_
  -- R10 law.go:45
  refine WE.region ?_
  refine WO.run 3 0 [(63, .int .i64 (L.length : Int)), (62, .slice A1 L.length cap1), (61, .int .i64 (k : Int))] (by kernel_rfl) (by kernel_rfl) ?_
  refine WO.one (SQ.F 3 (by kernel_rfl)) 64 (.bool (decide (((k : Int) : Int) < (L.length : Int)))) (by kernel_rfl) ?_
  refine WO.topP (((k : Int) : Int) < (L.length : Int)) ?_ ?_
  · intro h21
    refine WO.done (by kernel_rfl) ?_
    refine WQ.keep [0, 1, 4, 5, 6, 7, 8, 9, 10, 24, 45, 64] (e' := [(0, .slice (some ad0) l0.length cap0), (1, .slice A1 L.length cap1), (4, .bool false), (5, .bool true), (6, .pointer (some ⟨g6, 0, none⟩)), (7, .nilIface), (8, .bool true), (9, .pointer (some ⟨g16, 0, none⟩)), (10, .int .i64 (k : Int)), (24, .bool false), (45, .bool false), (64, .bool true)]) (by kernel_rfl) ?_
    refine WQ.thenN ?_
    refine WE.condT (by kernel_rfl) ?_
    refine WE.skip ?_
    refine WQ.thenN ?_
    refine WE.seq ?_
    refine WE.block ?_
    refine WE.seq ?_
    obtain ⟨adL, Ak, ck, hAL, hcL, hmk, hrk⟩ := hrdL k (by omega)
    subst hAL
    obtain ⟨co, hco⟩ : ∃ co, co = L.getD k [] := ⟨_, rfl⟩
    rw [← hco] at hcL hmk hrk
    by_cases hbad : co.length ≠ l0.length ∨ co.any oddC = true
    · skip
      -- R12 law.go:46
      refine WE.region ?_
      refine WO.run 3 0 [(70, .int .i64 (k : Int)), (69, .slice (some adL) L.length cap1), (68, .pointer (some ⟨g6, 0, none⟩))] (by kernel_rfl) (by kernel_rfl) ?_
      refine WO.ix (SQ.F 3 (by kernel_rfl)) 71 (adL.add k) adL L.length 1 (k : Int) (by kernel_rfl) (by omega) (by omega) (by congr 1 <;> omega) ?_
      refine WO.ld (SQ.S 4 (by kernel_rfl)) 72 (.slice Ak co.length ck) (by kernel_rfl) (same (HA.cell0 hcL)) ?_
      refine WO.call (SQ.E 5 (by kernel_rfl)) 73 (by kernel_rfl) (pickT_bad HT hgd hq Ak co.length ck co rfl (hrk.keep HA) hmk hbad) ?_
      rintro _ w22 ⟨rfl, F23⟩
      refine ⟨_, rfl, trivial, ?_⟩
      have HT := HT.keep F23 (fun _ _ => nin0 _)
      have HM := HM.keep F23 (fun _ _ => nin0 _)
      have HA := Fr.step0 HA F23
      refine WO.run 5 6 [(12, .iface 29 (.int .i64 1)), (11, .int .i64 0), (75, .iface 29 (.int .i64 1)), (74, .int .i64 0), (67, .tuple #[.int .i64 0, .iface 29 (.int .i64 1)])] (by kernel_rfl) (by kernel_rfl) ?_
      refine WO.done (by kernel_rfl) ?_
      refine WQ.keep [0, 1, 4, 5, 6, 7, 8, 9, 10, 11, 12, 24, 45, 64] (e' := [(0, .slice (some ad0) l0.length cap0), (1, .slice (some adL) L.length cap1), (4, .bool false), (5, .bool true), (6, .pointer (some ⟨g6, 0, none⟩)), (7, .nilIface), (8, .bool true), (9, .pointer (some ⟨g16, 0, none⟩)), (10, .int .i64 (k : Int)), (11, .int .i64 0), (12, .iface 29 (.int .i64 1)), (24, .bool false), (45, .bool false), (64, .bool true)]) (by kernel_rfl) ?_
      refine WQ.thenN ?_
      refine WE.seq ?_
      -- R13 law.go:47
      refine WE.region ?_
      refine WO.run 2 0 [(77, .int .i64 (k : Int)), (76, .slice (some adL) L.length cap1)] (by kernel_rfl) (by kernel_rfl) ?_
      refine WO.ix (SQ.F 2 (by kernel_rfl)) 78 (adL.add k) adL L.length 1 (k : Int) (by kernel_rfl) (by omega) (by omega) (by congr 1 <;> omega) ?_
      refine WO.ld (SQ.S 3 (by kernel_rfl)) 79 (.slice Ak co.length ck) (by kernel_rfl) (same (HA.cell0 hcL)) ?_
      refine WO.run 3 4 [(82, .int .i64 (l0.length : Int)), (81, .slice (some ad0) l0.length cap0), (80, .int .i64 (co.length : Int))] (by kernel_rfl) (by kernel_rfl) ?_
      refine WO.one (SQ.F 7 (by kernel_rfl)) 83 (.bool (!decide (((co.length : Int) : Int) = (l0.length : Int)))) (by kernel_rfl) ?_
      refine WO.topN (((co.length : Int) : Int) = (l0.length : Int)) ?_ ?_
      · intro h24
        refine WO.run 1 8 [(13, .bool false)] (by kernel_rfl) (by kernel_rfl) ?_
        refine WO.done (by kernel_rfl) ?_
        refine WQ.keep [0, 1, 4, 5, 6, 7, 8, 9, 10, 11, 12, 13, 24, 45, 64] (e' := [(0, .slice (some ad0) l0.length cap0), (1, .slice (some adL) L.length cap1), (4, .bool false), (5, .bool true), (6, .pointer (some ⟨g6, 0, none⟩)), (7, .nilIface), (8, .bool true), (9, .pointer (some ⟨g16, 0, none⟩)), (10, .int .i64 (k : Int)), (11, .int .i64 0), (12, .iface 29 (.int .i64 1)), (13, .bool false), (24, .bool false), (45, .bool false), (64, .bool true)]) (by kernel_rfl) ?_
        refine WQ.thenN ?_
        refine WE.seq ?_
        refine WE.seq ?_
        -- R14 law.go:48
        refine WE.region ?_
        refine WO.run 1 0 [(14, .int .i64 0)] (by kernel_rfl) (by kernel_rfl) ?_
        refine WO.done (by kernel_rfl) ?_
        refine WQ.keep [0, 1, 4, 5, 6, 7, 8, 9, 10, 11, 12, 13, 14, 24, 45, 64] (e' := [(0, .slice (some ad0) l0.length cap0), (1, .slice (some adL) L.length cap1), (4, .bool false), (5, .bool true), (6, .pointer (some ⟨g6, 0, none⟩)), (7, .nilIface), (8, .bool true), (9, .pointer (some ⟨g16, 0, none⟩)), (10, .int .i64 (k : Int)), (11, .int .i64 0), (12, .iface 29 (.int .i64 1)), (13, .bool false), (14, .int .i64 0), (24, .bool false), (45, .bool false), (64, .bool true)]) (by kernel_rfl) ?_
        refine WQ.thenN ?_
        refine WE.block ?_
        refine WE.loop (α := Nat × Bool) (E := fun z => [(0, .slice (some ad0) l0.length cap0), (1, .slice (some adL) L.length cap1), (4, .bool false), (5, .bool true), (6, .pointer (some ⟨g6, 0, none⟩)), (7, .nilIface), (8, .bool true), (9, .pointer (some ⟨g16, 0, none⟩)), (10, .int .i64 (k : Int)), (11, .int .i64 0), (12, .iface 29 (.int .i64 1)), (13, .bool z.2), (14, .int .i64 (z.1 : Int)), (24, .bool false), (45, .bool false), (64, .bool true)]) (I := fun z wi => z.1 ≤ co.length ∧ z.2 = (!decide (co.length = l0.length) || (co.take z.1).any oddC) ∧ w22 = wi) (m := fun z => co.length - z.1) (0, false) [0, 1, 4, 5, 6, 7, 8, 9, 10, 11, 12, 13, 14, 24, 45, 64] (by kernel_rfl) ?_ ?_
        · exact ⟨Nat.zero_le _, by simp [(show co.length = l0.length by omega)], rfl⟩
        rintro ⟨j, b⟩ wi ⟨hj, hb, hw⟩
        subst hw
        dsimp only at hj hb
        refine WE.seq ?_
        refine WE.seq ?_
        -- R15 law.go:48
        refine WE.region ?_
        refine WO.run 3 0 [(86, .int .i64 (k : Int)), (85, .slice (some adL) L.length cap1), (84, .int .i64 (j : Int))] (by kernel_rfl) (by kernel_rfl) ?_
        refine WO.ix (SQ.F 3 (by kernel_rfl)) 87 (adL.add k) adL L.length 1 (k : Int) (by kernel_rfl) (by omega) (by omega) (by congr 1 <;> omega) ?_
        refine WO.ld (SQ.S 4 (by kernel_rfl)) 88 (.slice Ak co.length ck) (by kernel_rfl) (same (HA.cell0 hcL)) ?_
        refine WO.run 1 5 [(89, .int .i64 (co.length : Int))] (by kernel_rfl) (by kernel_rfl) ?_
        refine WO.one (SQ.F 6 (by kernel_rfl)) 90 (.bool (decide (((j : Int) : Int) < (co.length : Int)))) (by kernel_rfl) ?_
        refine WO.topP (((j : Int) : Int) < (co.length : Int)) ?_ ?_
        · intro h25
          refine WO.done (by kernel_rfl) ?_
          refine WQ.keep [0, 1, 4, 5, 6, 7, 8, 9, 10, 11, 12, 13, 14, 24, 45, 64, 90] (e' := [(0, .slice (some ad0) l0.length cap0), (1, .slice (some adL) L.length cap1), (4, .bool false), (5, .bool true), (6, .pointer (some ⟨g6, 0, none⟩)), (7, .nilIface), (8, .bool true), (9, .pointer (some ⟨g16, 0, none⟩)), (10, .int .i64 (k : Int)), (11, .int .i64 0), (12, .iface 29 (.int .i64 1)), (13, .bool b), (14, .int .i64 (j : Int)), (24, .bool false), (45, .bool false), (64, .bool true), (90, .bool true)]) (by kernel_rfl) ?_
          refine WQ.thenN ?_
          refine WE.condT (by kernel_rfl) ?_
          refine WE.skip ?_
          refine WQ.thenN ?_
          refine WE.seq ?_
          refine WE.block ?_
          -- R17 law.go:49
          refine WE.region ?_
          refine WO.one (SQ.F 0 (by kernel_rfl)) 93 (.bool b) (by kernel_rfl) ?_
          refine WO.topB (b) ?_ ?_
          · intro h26
            refine WO.run 6 1 [(99, undef), (98, undef), (97, undef), (96, undef), (95, undef), (94, .bool true)] (by kernel_rfl) (by kernel_rfl) ?_
            obtain ⟨adk, hAk, hclk⟩ := hrk j (by omega)
            subst hAk
            refine WO.off (SQ.O 7 (by kernel_rfl)) 100 (by kernel_rfl) ?_
            refine WO.run 9 8 [(109, undef), (108, undef), (107, undef), (106, undef), (105, undef), (104, .bool true), (103, .bool true), (102, undef), (101, undef)] (by kernel_rfl) (by kernel_rfl) ?_
            refine WO.off (SQ.O 17 (by kernel_rfl)) 110 (by kernel_rfl) ?_
            refine WO.run 4 18 [(13, .bool true), (113, .bool true), (112, undef), (111, undef)] (by kernel_rfl) (by kernel_rfl) ?_
            refine WO.done (by kernel_rfl) ?_
            refine WQ.keep [0, 1, 4, 5, 6, 7, 8, 9, 10, 11, 12, 13, 14, 24, 45, 64, 90] (e' := [(0, .slice (some ad0) l0.length cap0), (1, .slice (some adL) L.length cap1), (4, .bool false), (5, .bool true), (6, .pointer (some ⟨g6, 0, none⟩)), (7, .nilIface), (8, .bool true), (9, .pointer (some ⟨g16, 0, none⟩)), (10, .int .i64 (k : Int)), (11, .int .i64 0), (12, .iface 29 (.int .i64 1)), (13, .bool true), (14, .int .i64 (j : Int)), (24, .bool false), (45, .bool false), (64, .bool true), (90, .bool true)]) (by kernel_rfl) ?_
            refine WQ.blkN ?_
            refine WQ.thenN ?_
            -- R16 law.go:48
            refine WE.region ?_
            refine WO.run 1 0 [(91, .int .i64 (j : Int))] (by kernel_rfl) (by kernel_rfl) ?_
            refine WO.one (SQ.F 1 (by kernel_rfl)) 92 (.int .i64 (IntKind.i64.wrap ((j : Int) + 1))) (by kernel_rfl) ?_
            refine WO.top (v' := .int .i64 ((j + 1 : Nat) : Int)) (wrap_i64 (by omega) (by omega)) ?_
            refine WO.run 1 2 [(14, .int .i64 ((j + 1 : Nat) : Int))] (by kernel_rfl) (by kernel_rfl) ?_
            refine WO.done (by kernel_rfl) ?_
            refine WQ.keep [0, 1, 4, 5, 6, 7, 8, 9, 10, 11, 12, 13, 14, 24, 45, 64, 90] (e' := [(0, .slice (some ad0) l0.length cap0), (1, .slice (some adL) L.length cap1), (4, .bool false), (5, .bool true), (6, .pointer (some ⟨g6, 0, none⟩)), (7, .nilIface), (8, .bool true), (9, .pointer (some ⟨g16, 0, none⟩)), (10, .int .i64 (k : Int)), (11, .int .i64 0), (12, .iface 29 (.int .i64 1)), (13, .bool true), (14, .int .i64 ((j + 1 : Nat) : Int)), (24, .bool false), (45, .bool false), (64, .bool true), (90, .bool true)]) (by kernel_rfl) ?_
            refine WQ.round ?_
            intro a_ ha_
            refine ⟨(j + 1, true), ?_, ha_.keep [0, 1, 4, 5, 6, 7, 8, 9, 10, 11, 12, 13, 14, 24, 45, 64] (by kernel_rfl), ?_⟩
            · show co.length - (j + 1) < co.length - j; omega
            · exact ⟨by show j + 1 ≤ co.length; omega, by show _ = (_ || (co.take (j + 1)).any oddC); rw [any_step _ _ _ (by omega), ← Bool.or_assoc, ← hb, h26]; simp [oddC] <;> omega, rfl⟩
          · intro h26
            refine WO.run 3 1 [(96, .int .i64 (k : Int)), (95, .slice (some adL) L.length cap1), (94, .bool false)] (by kernel_rfl) (by kernel_rfl) ?_
            refine WO.ix (SQ.F 4 (by kernel_rfl)) 97 (adL.add k) adL L.length 1 (k : Int) (by kernel_rfl) (by omega) (by omega) (by congr 1 <;> omega) ?_
            refine WO.ld (SQ.S 5 (by kernel_rfl)) 98 (.slice Ak co.length ck) (by kernel_rfl) (same (HA.cell0 hcL)) ?_
            refine WO.run 1 6 [(99, .int .i64 (j : Int))] (by kernel_rfl) (by kernel_rfl) ?_
            obtain ⟨adk, hAk, hclk⟩ := hrk j (by omega)
            subst hAk
            refine WO.ix (SQ.F 7 (by kernel_rfl)) 100 (adk.add j) adk co.length 1 (j : Int) (by kernel_rfl) (by omega) (by omega) (by congr 1 <;> omega) ?_
            refine WO.ld (SQ.S 8 (by kernel_rfl)) 101 (.int .i64 (g0 co j)) (by kernel_rfl) (same (HA.cell0 hclk)) ?_
            refine WO.one (SQ.F 9 (by kernel_rfl)) 102 (.bool (decide ((g0 co j : Int) < 0))) (by kernel_rfl) ?_
            refine WO.topP ((g0 co j : Int) < 0) ?_ ?_
            · intro h27
              refine WO.run 7 10 [(109, undef), (108, undef), (107, undef), (106, undef), (105, undef), (104, .bool true), (103, .bool true)] (by kernel_rfl) (by kernel_rfl) ?_
              refine WO.off (SQ.O 17 (by kernel_rfl)) 110 (by kernel_rfl) ?_
              refine WO.run 4 18 [(13, .bool true), (113, .bool true), (112, undef), (111, undef)] (by kernel_rfl) (by kernel_rfl) ?_
              refine WO.done (by kernel_rfl) ?_
              refine WQ.keep [0, 1, 4, 5, 6, 7, 8, 9, 10, 11, 12, 13, 14, 24, 45, 64, 90] (e' := [(0, .slice (some ad0) l0.length cap0), (1, .slice (some adL) L.length cap1), (4, .bool false), (5, .bool true), (6, .pointer (some ⟨g6, 0, none⟩)), (7, .nilIface), (8, .bool true), (9, .pointer (some ⟨g16, 0, none⟩)), (10, .int .i64 (k : Int)), (11, .int .i64 0), (12, .iface 29 (.int .i64 1)), (13, .bool true), (14, .int .i64 (j : Int)), (24, .bool false), (45, .bool false), (64, .bool true), (90, .bool true)]) (by kernel_rfl) ?_
              refine WQ.blkN ?_
              refine WQ.thenN ?_
              -- R16 law.go:48
              refine WE.region ?_
              refine WO.run 1 0 [(91, .int .i64 (j : Int))] (by kernel_rfl) (by kernel_rfl) ?_
              refine WO.one (SQ.F 1 (by kernel_rfl)) 92 (.int .i64 (IntKind.i64.wrap ((j : Int) + 1))) (by kernel_rfl) ?_
              refine WO.top (v' := .int .i64 ((j + 1 : Nat) : Int)) (wrap_i64 (by omega) (by omega)) ?_
              refine WO.run 1 2 [(14, .int .i64 ((j + 1 : Nat) : Int))] (by kernel_rfl) (by kernel_rfl) ?_
              refine WO.done (by kernel_rfl) ?_
              refine WQ.keep [0, 1, 4, 5, 6, 7, 8, 9, 10, 11, 12, 13, 14, 24, 45, 64, 90] (e' := [(0, .slice (some ad0) l0.length cap0), (1, .slice (some adL) L.length cap1), (4, .bool false), (5, .bool true), (6, .pointer (some ⟨g6, 0, none⟩)), (7, .nilIface), (8, .bool true), (9, .pointer (some ⟨g16, 0, none⟩)), (10, .int .i64 (k : Int)), (11, .int .i64 0), (12, .iface 29 (.int .i64 1)), (13, .bool true), (14, .int .i64 ((j + 1 : Nat) : Int)), (24, .bool false), (45, .bool false), (64, .bool true), (90, .bool true)]) (by kernel_rfl) ?_
              refine WQ.round ?_
              intro a_ ha_
              refine ⟨(j + 1, true), ?_, ha_.keep [0, 1, 4, 5, 6, 7, 8, 9, 10, 11, 12, 13, 14, 24, 45, 64] (by kernel_rfl), ?_⟩
              · show co.length - (j + 1) < co.length - j; omega
              · exact ⟨by show j + 1 ≤ co.length; omega, by show _ = (_ || (co.take (j + 1)).any oddC); rw [any_step _ _ _ (by omega), ← Bool.or_assoc, ← hb, h26]; simp [oddC] <;> omega, rfl⟩
            · intro h27
              refine WO.run 4 10 [(106, .int .i64 (k : Int)), (105, .slice (some adL) L.length cap1), (104, .bool false), (103, .bool false)] (by kernel_rfl) (by kernel_rfl) ?_
              refine WO.ix (SQ.F 14 (by kernel_rfl)) 107 (adL.add k) adL L.length 1 (k : Int) (by kernel_rfl) (by omega) (by omega) (by congr 1 <;> omega) ?_
              refine WO.ld (SQ.S 15 (by kernel_rfl)) 108 (.slice (some adk) co.length ck) (by kernel_rfl) (same (HA.cell0 hcL)) ?_
              refine WO.run 1 16 [(109, .int .i64 (j : Int))] (by kernel_rfl) (by kernel_rfl) ?_
              refine WO.ix (SQ.F 17 (by kernel_rfl)) 110 (adk.add j) adk co.length 1 (j : Int) (by kernel_rfl) (by omega) (by omega) (by congr 1 <;> omega) ?_
              refine WO.ld (SQ.S 18 (by kernel_rfl)) 111 (.int .i64 (g0 co j)) (by kernel_rfl) (same (HA.cell0 hclk)) ?_
              refine WO.one (SQ.F 19 (by kernel_rfl)) 112 (.bool (decide ((g0 co j : Int) > 1000))) (by kernel_rfl) ?_
              refine WO.topP ((g0 co j : Int) > 1000) ?_ ?_
              · intro h28
                refine WO.run 2 20 [(13, .bool true), (113, .bool true)] (by kernel_rfl) (by kernel_rfl) ?_
                refine WO.done (by kernel_rfl) ?_
                refine WQ.keep [0, 1, 4, 5, 6, 7, 8, 9, 10, 11, 12, 13, 14, 24, 45, 64, 90] (e' := [(0, .slice (some ad0) l0.length cap0), (1, .slice (some adL) L.length cap1), (4, .bool false), (5, .bool true), (6, .pointer (some ⟨g6, 0, none⟩)), (7, .nilIface), (8, .bool true), (9, .pointer (some ⟨g16, 0, none⟩)), (10, .int .i64 (k : Int)), (11, .int .i64 0), (12, .iface 29 (.int .i64 1)), (13, .bool true), (14, .int .i64 (j : Int)), (24, .bool false), (45, .bool false), (64, .bool true), (90, .bool true)]) (by kernel_rfl) ?_
                refine WQ.blkN ?_
                refine WQ.thenN ?_
                -- R16 law.go:48
                refine WE.region ?_
                refine WO.run 1 0 [(91, .int .i64 (j : Int))] (by kernel_rfl) (by kernel_rfl) ?_
                refine WO.one (SQ.F 1 (by kernel_rfl)) 92 (.int .i64 (IntKind.i64.wrap ((j : Int) + 1))) (by kernel_rfl) ?_
                refine WO.top (v' := .int .i64 ((j + 1 : Nat) : Int)) (wrap_i64 (by omega) (by omega)) ?_
                refine WO.run 1 2 [(14, .int .i64 ((j + 1 : Nat) : Int))] (by kernel_rfl) (by kernel_rfl) ?_
                refine WO.done (by kernel_rfl) ?_
                refine WQ.keep [0, 1, 4, 5, 6, 7, 8, 9, 10, 11, 12, 13, 14, 24, 45, 64, 90] (e' := [(0, .slice (some ad0) l0.length cap0), (1, .slice (some adL) L.length cap1), (4, .bool false), (5, .bool true), (6, .pointer (some ⟨g6, 0, none⟩)), (7, .nilIface), (8, .bool true), (9, .pointer (some ⟨g16, 0, none⟩)), (10, .int .i64 (k : Int)), (11, .int .i64 0), (12, .iface 29 (.int .i64 1)), (13, .bool true), (14, .int .i64 ((j + 1 : Nat) : Int)), (24, .bool false), (45, .bool false), (64, .bool true), (90, .bool true)]) (by kernel_rfl) ?_
                refine WQ.round ?_
                intro a_ ha_
                refine ⟨(j + 1, true), ?_, ha_.keep [0, 1, 4, 5, 6, 7, 8, 9, 10, 11, 12, 13, 14, 24, 45, 64] (by kernel_rfl), ?_⟩
                · show co.length - (j + 1) < co.length - j; omega
                · exact ⟨by show j + 1 ≤ co.length; omega, by show _ = (_ || (co.take (j + 1)).any oddC); rw [any_step _ _ _ (by omega), ← Bool.or_assoc, ← hb, h26]; simp [oddC] <;> omega, rfl⟩
              · intro h28
                refine WO.run 2 20 [(13, .bool false), (113, .bool false)] (by kernel_rfl) (by kernel_rfl) ?_
                refine WO.done (by kernel_rfl) ?_
                refine WQ.keep [0, 1, 4, 5, 6, 7, 8, 9, 10, 11, 12, 13, 14, 24, 45, 64, 90] (e' := [(0, .slice (some ad0) l0.length cap0), (1, .slice (some adL) L.length cap1), (4, .bool false), (5, .bool true), (6, .pointer (some ⟨g6, 0, none⟩)), (7, .nilIface), (8, .bool true), (9, .pointer (some ⟨g16, 0, none⟩)), (10, .int .i64 (k : Int)), (11, .int .i64 0), (12, .iface 29 (.int .i64 1)), (13, .bool false), (14, .int .i64 (j : Int)), (24, .bool false), (45, .bool false), (64, .bool true), (90, .bool true)]) (by kernel_rfl) ?_
                refine WQ.blkN ?_
                refine WQ.thenN ?_
                -- R16 law.go:48
                refine WE.region ?_
                refine WO.run 1 0 [(91, .int .i64 (j : Int))] (by kernel_rfl) (by kernel_rfl) ?_
                refine WO.one (SQ.F 1 (by kernel_rfl)) 92 (.int .i64 (IntKind.i64.wrap ((j : Int) + 1))) (by kernel_rfl) ?_
                refine WO.top (v' := .int .i64 ((j + 1 : Nat) : Int)) (wrap_i64 (by omega) (by omega)) ?_
                refine WO.run 1 2 [(14, .int .i64 ((j + 1 : Nat) : Int))] (by kernel_rfl) (by kernel_rfl) ?_
                refine WO.done (by kernel_rfl) ?_
                refine WQ.keep [0, 1, 4, 5, 6, 7, 8, 9, 10, 11, 12, 13, 14, 24, 45, 64, 90] (e' := [(0, .slice (some ad0) l0.length cap0), (1, .slice (some adL) L.length cap1), (4, .bool false), (5, .bool true), (6, .pointer (some ⟨g6, 0, none⟩)), (7, .nilIface), (8, .bool true), (9, .pointer (some ⟨g16, 0, none⟩)), (10, .int .i64 (k : Int)), (11, .int .i64 0), (12, .iface 29 (.int .i64 1)), (13, .bool false), (14, .int .i64 ((j + 1 : Nat) : Int)), (24, .bool false), (45, .bool false), (64, .bool true), (90, .bool true)]) (by kernel_rfl) ?_
                refine WQ.round ?_
                intro a_ ha_
                refine ⟨(j + 1, false), ?_, ha_.keep [0, 1, 4, 5, 6, 7, 8, 9, 10, 11, 12, 13, 14, 24, 45, 64] (by kernel_rfl), ?_⟩
                · show co.length - (j + 1) < co.length - j; omega
                · exact ⟨by show j + 1 ≤ co.length; omega, by show _ = (_ || (co.take (j + 1)).any oddC); rw [any_step _ _ _ (by omega), ← Bool.or_assoc, ← hb, h26]; simp [oddC] <;> omega, rfl⟩
        · intro h25
          refine WO.done (by kernel_rfl) ?_
          refine WQ.keep [0, 1, 4, 5, 6, 7, 8, 9, 10, 11, 12, 13, 14, 24, 45, 64, 90] (e' := [(0, .slice (some ad0) l0.length cap0), (1, .slice (some adL) L.length cap1), (4, .bool false), (5, .bool true), (6, .pointer (some ⟨g6, 0, none⟩)), (7, .nilIface), (8, .bool true), (9, .pointer (some ⟨g16, 0, none⟩)), (10, .int .i64 (k : Int)), (11, .int .i64 0), (12, .iface 29 (.int .i64 1)), (13, .bool b), (14, .int .i64 (j : Int)), (24, .bool false), (45, .bool false), (64, .bool true), (90, .bool false)]) (by kernel_rfl) ?_
          refine WQ.thenN ?_
          refine WE.condF (by kernel_rfl) ?_
          refine WE.exit ?_
          refine WQ.thenE ?_
          refine WQ.thenE ?_
          refine WQ.blkE ?_
          refine WQ.thenN ?_
          refine WE.seq ?_
          refine WE.seq ?_
          have hbv : b = true := by rw [hb, List.take_of_length_le (by omega)]; simpa [or_comm] using hbad
          -- R18 law.go:51
          refine WE.region ?_
          refine WO.one (SQ.F 0 (by kernel_rfl)) 114 (.bool b) (by kernel_rfl) ?_
          refine WO.top (v' := .bool true) (congrArg Value.bool (by exact hbv)) ?_
          refine WO.done (by kernel_rfl) ?_
          refine WQ.keep [0, 1, 4, 5, 6, 7, 8, 9, 10, 11, 12, 13, 14, 24, 45, 64, 90, 114] (e' := [(0, .slice (some ad0) l0.length cap0), (1, .slice (some adL) L.length cap1), (4, .bool false), (5, .bool true), (6, .pointer (some ⟨g6, 0, none⟩)), (7, .nilIface), (8, .bool true), (9, .pointer (some ⟨g16, 0, none⟩)), (10, .int .i64 (k : Int)), (11, .int .i64 0), (12, .iface 29 (.int .i64 1)), (13, .bool b), (14, .int .i64 (j : Int)), (24, .bool false), (45, .bool false), (64, .bool true), (90, .bool false), (114, .bool true)]) (by kernel_rfl) ?_
          refine WQ.thenN ?_
          refine WE.condT (by kernel_rfl) ?_
          refine WE.seq ?_
          refine WE.seq ?_
          -- R19 law.go:52
          refine WE.region ?_
          refine WO.run 7 0 [(121, .bool false), (120, .bool false), (119, .int .i64 0), (118, .bool false), (117, .bool false), (116, .iface 29 (.int .i64 1)), (115, .iface 29 (.int .i64 1))] (by kernel_rfl) (by kernel_rfl) ?_
          refine WO.done (by kernel_rfl) ?_
          refine WQ.keep [0, 1, 4, 5, 6, 7, 8, 9, 10, 11, 12, 13, 14, 24, 45, 64, 90, 114, 121] (e' := [(0, .slice (some ad0) l0.length cap0), (1, .slice (some adL) L.length cap1), (4, .bool false), (5, .bool true), (6, .pointer (some ⟨g6, 0, none⟩)), (7, .nilIface), (8, .bool true), (9, .pointer (some ⟨g16, 0, none⟩)), (10, .int .i64 (k : Int)), (11, .int .i64 0), (12, .iface 29 (.int .i64 1)), (13, .bool b), (14, .int .i64 (j : Int)), (24, .bool false), (45, .bool false), (64, .bool true), (90, .bool false), (114, .bool true), (121, .bool false)]) (by kernel_rfl) ?_
          refine WQ.thenN ?_
          refine WE.condF (by kernel_rfl) ?_
          refine WE.skip ?_
          refine WQ.thenN ?_
          refine WE.exit ?_
          refine WQ.thenE ?_
          refine WQ.blkE ?_
          refine WQ.thenN ?_
          -- R11 law.go:45
          refine WE.region ?_
          refine WO.run 1 0 [(65, .int .i64 (k : Int))] (by kernel_rfl) (by kernel_rfl) ?_
          refine WO.one (SQ.F 1 (by kernel_rfl)) 66 (.int .i64 (IntKind.i64.wrap ((k : Int) + 1))) (by kernel_rfl) ?_
          refine WO.top (v' := .int .i64 ((k + 1 : Nat) : Int)) (wrap_i64 (by omega) (by omega)) ?_
          refine WO.run 1 2 [(10, .int .i64 ((k + 1 : Nat) : Int))] (by kernel_rfl) (by kernel_rfl) ?_
          refine WO.done (by kernel_rfl) ?_
          refine WQ.keep [0, 1, 4, 5, 6, 7, 8, 9, 10, 11, 12, 13, 14, 24, 45, 64, 90, 114, 121] (e' := [(0, .slice (some ad0) l0.length cap0), (1, .slice (some adL) L.length cap1), (4, .bool false), (5, .bool true), (6, .pointer (some ⟨g6, 0, none⟩)), (7, .nilIface), (8, .bool true), (9, .pointer (some ⟨g16, 0, none⟩)), (10, .int .i64 ((k + 1 : Nat) : Int)), (11, .int .i64 0), (12, .iface 29 (.int .i64 1)), (13, .bool b), (14, .int .i64 (j : Int)), (24, .bool false), (45, .bool false), (64, .bool true), (90, .bool false), (114, .bool true), (121, .bool false)]) (by kernel_rfl) ?_
          refine WQ.round ?_
          intro a_ ha_
          refine ⟨(k + 1, s, F2), ?_, ha_.keep [0, 1, 4, 5, 6, 7, 8, 9, 10, 24, 45] (by kernel_rfl), ?_⟩
          · show L.length - (k + 1) < L.length - k; omega
          · exact ⟨by show k + 1 ≤ L.length; omega, hgd, HT, HM, hdj, hge2, HA⟩
      · intro h24
        refine WO.run 1 8 [(13, .bool true)] (by kernel_rfl) (by kernel_rfl) ?_
        refine WO.done (by kernel_rfl) ?_
        refine WQ.keep [0, 1, 4, 5, 6, 7, 8, 9, 10, 11, 12, 13, 24, 45, 64] (e' := [(0, .slice (some ad0) l0.length cap0), (1, .slice (some adL) L.length cap1), (4, .bool false), (5, .bool true), (6, .pointer (some ⟨g6, 0, none⟩)), (7, .nilIface), (8, .bool true), (9, .pointer (some ⟨g16, 0, none⟩)), (10, .int .i64 (k : Int)), (11, .int .i64 0), (12, .iface 29 (.int .i64 1)), (13, .bool true), (24, .bool false), (45, .bool false), (64, .bool true)]) (by kernel_rfl) ?_
        refine WQ.thenN ?_
        refine WE.seq ?_
        refine WE.seq ?_
        -- R14 law.go:48
        refine WE.region ?_
        refine WO.run 1 0 [(14, .int .i64 0)] (by kernel_rfl) (by kernel_rfl) ?_
        refine WO.done (by kernel_rfl) ?_
        refine WQ.keep [0, 1, 4, 5, 6, 7, 8, 9, 10, 11, 12, 13, 14, 24, 45, 64] (e' := [(0, .slice (some ad0) l0.length cap0), (1, .slice (some adL) L.length cap1), (4, .bool false), (5, .bool true), (6, .pointer (some ⟨g6, 0, none⟩)), (7, .nilIface), (8, .bool true), (9, .pointer (some ⟨g16, 0, none⟩)), (10, .int .i64 (k : Int)), (11, .int .i64 0), (12, .iface 29 (.int .i64 1)), (13, .bool true), (14, .int .i64 0), (24, .bool false), (45, .bool false), (64, .bool true)]) (by kernel_rfl) ?_
        refine WQ.thenN ?_
        refine WE.block ?_
        refine WE.loop (α := Nat × Bool) (E := fun z => [(0, .slice (some ad0) l0.length cap0), (1, .slice (some adL) L.length cap1), (4, .bool false), (5, .bool true), (6, .pointer (some ⟨g6, 0, none⟩)), (7, .nilIface), (8, .bool true), (9, .pointer (some ⟨g16, 0, none⟩)), (10, .int .i64 (k : Int)), (11, .int .i64 0), (12, .iface 29 (.int .i64 1)), (13, .bool z.2), (14, .int .i64 (z.1 : Int)), (24, .bool false), (45, .bool false), (64, .bool true)]) (I := fun z wi => z.1 ≤ co.length ∧ z.2 = (!decide (co.length = l0.length) || (co.take z.1).any oddC) ∧ w22 = wi) (m := fun z => co.length - z.1) (0, true) [0, 1, 4, 5, 6, 7, 8, 9, 10, 11, 12, 13, 14, 24, 45, 64] (by kernel_rfl) ?_ ?_
        · exact ⟨Nat.zero_le _, by simp [(show ¬ co.length = l0.length by omega)], rfl⟩
        rintro ⟨j, b⟩ wi ⟨hj, hb, hw⟩
        subst hw
        dsimp only at hj hb
        refine WE.seq ?_
        refine WE.seq ?_
        -- R15 law.go:48
        refine WE.region ?_
        refine WO.run 3 0 [(86, .int .i64 (k : Int)), (85, .slice (some adL) L.length cap1), (84, .int .i64 (j : Int))] (by kernel_rfl) (by kernel_rfl) ?_
        refine WO.ix (SQ.F 3 (by kernel_rfl)) 87 (adL.add k) adL L.length 1 (k : Int) (by kernel_rfl) (by omega) (by omega) (by congr 1 <;> omega) ?_
        refine WO.ld (SQ.S 4 (by kernel_rfl)) 88 (.slice Ak co.length ck) (by kernel_rfl) (same (HA.cell0 hcL)) ?_
        refine WO.run 1 5 [(89, .int .i64 (co.length : Int))] (by kernel_rfl) (by kernel_rfl) ?_
        refine WO.one (SQ.F 6 (by kernel_rfl)) 90 (.bool (decide (((j : Int) : Int) < (co.length : Int)))) (by kernel_rfl) ?_
        refine WO.topP (((j : Int) : Int) < (co.length : Int)) ?_ ?_
        · intro h29
          refine WO.done (by kernel_rfl) ?_
          refine WQ.keep [0, 1, 4, 5, 6, 7, 8, 9, 10, 11, 12, 13, 14, 24, 45, 64, 90] (e' := [(0, .slice (some ad0) l0.length cap0), (1, .slice (some adL) L.length cap1), (4, .bool false), (5, .bool true), (6, .pointer (some ⟨g6, 0, none⟩)), (7, .nilIface), (8, .bool true), (9, .pointer (some ⟨g16, 0, none⟩)), (10, .int .i64 (k : Int)), (11, .int .i64 0), (12, .iface 29 (.int .i64 1)), (13, .bool b), (14, .int .i64 (j : Int)), (24, .bool false), (45, .bool false), (64, .bool true), (90, .bool true)]) (by kernel_rfl) ?_
          refine WQ.thenN ?_
          refine WE.condT (by kernel_rfl) ?_
          refine WE.skip ?_
          refine WQ.thenN ?_
          refine WE.seq ?_
          refine WE.block ?_
          -- R17 law.go:49
          refine WE.region ?_
          refine WO.one (SQ.F 0 (by kernel_rfl)) 93 (.bool b) (by kernel_rfl) ?_
          refine WO.topB (b) ?_ ?_
          · intro h30
            refine WO.run 6 1 [(99, undef), (98, undef), (97, undef), (96, undef), (95, undef), (94, .bool true)] (by kernel_rfl) (by kernel_rfl) ?_
            obtain ⟨adk, hAk, hclk⟩ := hrk j (by omega)
            subst hAk
            refine WO.off (SQ.O 7 (by kernel_rfl)) 100 (by kernel_rfl) ?_
            refine WO.run 9 8 [(109, undef), (108, undef), (107, undef), (106, undef), (105, undef), (104, .bool true), (103, .bool true), (102, undef), (101, undef)] (by kernel_rfl) (by kernel_rfl) ?_
            refine WO.off (SQ.O 17 (by kernel_rfl)) 110 (by kernel_rfl) ?_
            refine WO.run 4 18 [(13, .bool true), (113, .bool true), (112, undef), (111, undef)] (by kernel_rfl) (by kernel_rfl) ?_
            refine WO.done (by kernel_rfl) ?_
            refine WQ.keep [0, 1, 4, 5, 6, 7, 8, 9, 10, 11, 12, 13, 14, 24, 45, 64, 90] (e' := [(0, .slice (some ad0) l0.length cap0), (1, .slice (some adL) L.length cap1), (4, .bool false), (5, .bool true), (6, .pointer (some ⟨g6, 0, none⟩)), (7, .nilIface), (8, .bool true), (9, .pointer (some ⟨g16, 0, none⟩)), (10, .int .i64 (k : Int)), (11, .int .i64 0), (12, .iface 29 (.int .i64 1)), (13, .bool true), (14, .int .i64 (j : Int)), (24, .bool false), (45, .bool false), (64, .bool true), (90, .bool true)]) (by kernel_rfl) ?_
            refine WQ.blkN ?_
            refine WQ.thenN ?_
            -- R16 law.go:48
            refine WE.region ?_
            refine WO.run 1 0 [(91, .int .i64 (j : Int))] (by kernel_rfl) (by kernel_rfl) ?_
            refine WO.one (SQ.F 1 (by kernel_rfl)) 92 (.int .i64 (IntKind.i64.wrap ((j : Int) + 1))) (by kernel_rfl) ?_
            refine WO.top (v' := .int .i64 ((j + 1 : Nat) : Int)) (wrap_i64 (by omega) (by omega)) ?_
            refine WO.run 1 2 [(14, .int .i64 ((j + 1 : Nat) : Int))] (by kernel_rfl) (by kernel_rfl) ?_
            refine WO.done (by kernel_rfl) ?_
            refine WQ.keep [0, 1, 4, 5, 6, 7, 8, 9, 10, 11, 12, 13, 14, 24, 45, 64, 90] (e' := [(0, .slice (some ad0) l0.length cap0), (1, .slice (some adL) L.length cap1), (4, .bool false), (5, .bool true), (6, .pointer (some ⟨g6, 0, none⟩)), (7, .nilIface), (8, .bool true), (9, .pointer (some ⟨g16, 0, none⟩)), (10, .int .i64 (k : Int)), (11, .int .i64 0), (12, .iface 29 (.int .i64 1)), (13, .bool true), (14, .int .i64 ((j + 1 : Nat) : Int)), (24, .bool false), (45, .bool false), (64, .bool true), (90, .bool true)]) (by kernel_rfl) ?_
            refine WQ.round ?_
            intro a_ ha_
            refine ⟨(j + 1, true), ?_, ha_.keep [0, 1, 4, 5, 6, 7, 8, 9, 10, 11, 12, 13, 14, 24, 45, 64] (by kernel_rfl), ?_⟩
            · show co.length - (j + 1) < co.length - j; omega
            · exact ⟨by show j + 1 ≤ co.length; omega, by show _ = (_ || (co.take (j + 1)).any oddC); rw [any_step _ _ _ (by omega), ← Bool.or_assoc, ← hb, h30]; simp [oddC] <;> omega, rfl⟩
          · intro h30
            refine WO.run 3 1 [(96, .int .i64 (k : Int)), (95, .slice (some adL) L.length cap1), (94, .bool false)] (by kernel_rfl) (by kernel_rfl) ?_
            refine WO.ix (SQ.F 4 (by kernel_rfl)) 97 (adL.add k) adL L.length 1 (k : Int) (by kernel_rfl) (by omega) (by omega) (by congr 1 <;> omega) ?_
            refine WO.ld (SQ.S 5 (by kernel_rfl)) 98 (.slice Ak co.length ck) (by kernel_rfl) (same (HA.cell0 hcL)) ?_
            refine WO.run 1 6 [(99, .int .i64 (j : Int))] (by kernel_rfl) (by kernel_rfl) ?_
            obtain ⟨adk, hAk, hclk⟩ := hrk j (by omega)
            subst hAk
            refine WO.ix (SQ.F 7 (by kernel_rfl)) 100 (adk.add j) adk co.length 1 (j : Int) (by kernel_rfl) (by omega) (by omega) (by congr 1 <;> omega) ?_
            refine WO.ld (SQ.S 8 (by kernel_rfl)) 101 (.int .i64 (g0 co j)) (by kernel_rfl) (same (HA.cell0 hclk)) ?_
            refine WO.one (SQ.F 9 (by kernel_rfl)) 102 (.bool (decide ((g0 co j : Int) < 0))) (by kernel_rfl) ?_
            refine WO.topP ((g0 co j : Int) < 0) ?_ ?_
            · intro h31
              refine WO.run 7 10 [(109, undef), (108, undef), (107, undef), (106, undef), (105, undef), (104, .bool true), (103, .bool true)] (by kernel_rfl) (by kernel_rfl) ?_
              refine WO.off (SQ.O 17 (by kernel_rfl)) 110 (by kernel_rfl) ?_
              refine WO.run 4 18 [(13, .bool true), (113, .bool true), (112, undef), (111, undef)] (by kernel_rfl) (by kernel_rfl) ?_
              refine WO.done (by kernel_rfl) ?_
              refine WQ.keep [0, 1, 4, 5, 6, 7, 8, 9, 10, 11, 12, 13, 14, 24, 45, 64, 90] (e' := [(0, .slice (some ad0) l0.length cap0), (1, .slice (some adL) L.length cap1), (4, .bool false), (5, .bool true), (6, .pointer (some ⟨g6, 0, none⟩)), (7, .nilIface), (8, .bool true), (9, .pointer (some ⟨g16, 0, none⟩)), (10, .int .i64 (k : Int)), (11, .int .i64 0), (12, .iface 29 (.int .i64 1)), (13, .bool true), (14, .int .i64 (j : Int)), (24, .bool false), (45, .bool false), (64, .bool true), (90, .bool true)]) (by kernel_rfl) ?_
              refine WQ.blkN ?_
              refine WQ.thenN ?_
              -- R16 law.go:48
              refine WE.region ?_
              refine WO.run 1 0 [(91, .int .i64 (j : Int))] (by kernel_rfl) (by kernel_rfl) ?_
              refine WO.one (SQ.F 1 (by kernel_rfl)) 92 (.int .i64 (IntKind.i64.wrap ((j : Int) + 1))) (by kernel_rfl) ?_
              refine WO.top (v' := .int .i64 ((j + 1 : Nat) : Int)) (wrap_i64 (by omega) (by omega)) ?_
              refine WO.run 1 2 [(14, .int .i64 ((j + 1 : Nat) : Int))] (by kernel_rfl) (by kernel_rfl) ?_
              refine WO.done (by kernel_rfl) ?_
              refine WQ.keep [0, 1, 4, 5, 6, 7, 8, 9, 10, 11, 12, 13, 14, 24, 45, 64, 90] (e' := [(0, .slice (some ad0) l0.length cap0), (1, .slice (some adL) L.length cap1), (4, .bool false), (5, .bool true), (6, .pointer (some ⟨g6, 0, none⟩)), (7, .nilIface), (8, .bool true), (9, .pointer (some ⟨g16, 0, none⟩)), (10, .int .i64 (k : Int)), (11, .int .i64 0), (12, .iface 29 (.int .i64 1)), (13, .bool true), (14, .int .i64 ((j + 1 : Nat) : Int)), (24, .bool false), (45, .bool false), (64, .bool true), (90, .bool true)]) (by kernel_rfl) ?_
              refine WQ.round ?_
              intro a_ ha_
              refine ⟨(j + 1, true), ?_, ha_.keep [0, 1, 4, 5, 6, 7, 8, 9, 10, 11, 12, 13, 14, 24, 45, 64] (by kernel_rfl), ?_⟩
              · show co.length - (j + 1) < co.length - j; omega
              · exact ⟨by show j + 1 ≤ co.length; omega, by show _ = (_ || (co.take (j + 1)).any oddC); rw [any_step _ _ _ (by omega), ← Bool.or_assoc, ← hb, h30]; simp [oddC] <;> omega, rfl⟩
            · intro h31
              refine WO.run 4 10 [(106, .int .i64 (k : Int)), (105, .slice (some adL) L.length cap1), (104, .bool false), (103, .bool false)] (by kernel_rfl) (by kernel_rfl) ?_
              refine WO.ix (SQ.F 14 (by kernel_rfl)) 107 (adL.add k) adL L.length 1 (k : Int) (by kernel_rfl) (by omega) (by omega) (by congr 1 <;> omega) ?_
              refine WO.ld (SQ.S 15 (by kernel_rfl)) 108 (.slice (some adk) co.length ck) (by kernel_rfl) (same (HA.cell0 hcL)) ?_
              refine WO.run 1 16 [(109, .int .i64 (j : Int))] (by kernel_rfl) (by kernel_rfl) ?_
              refine WO.ix (SQ.F 17 (by kernel_rfl)) 110 (adk.add j) adk co.length 1 (j : Int) (by kernel_rfl) (by omega) (by omega) (by congr 1 <;> omega) ?_
              refine WO.ld (SQ.S 18 (by kernel_rfl)) 111 (.int .i64 (g0 co j)) (by kernel_rfl) (same (HA.cell0 hclk)) ?_
              refine WO.one (SQ.F 19 (by kernel_rfl)) 112 (.bool (decide ((g0 co j : Int) > 1000))) (by kernel_rfl) ?_
              refine WO.topP ((g0 co j : Int) > 1000) ?_ ?_
              · intro h32
                refine WO.run 2 20 [(13, .bool true), (113, .bool true)] (by kernel_rfl) (by kernel_rfl) ?_
                refine WO.done (by kernel_rfl) ?_
                refine WQ.keep [0, 1, 4, 5, 6, 7, 8, 9, 10, 11, 12, 13, 14, 24, 45, 64, 90] (e' := [(0, .slice (some ad0) l0.length cap0), (1, .slice (some adL) L.length cap1), (4, .bool false), (5, .bool true), (6, .pointer (some ⟨g6, 0, none⟩)), (7, .nilIface), (8, .bool true), (9, .pointer (some ⟨g16, 0, none⟩)), (10, .int .i64 (k : Int)), (11, .int .i64 0), (12, .iface 29 (.int .i64 1)), (13, .bool true), (14, .int .i64 (j : Int)), (24, .bool false), (45, .bool false), (64, .bool true), (90, .bool true)]) (by kernel_rfl) ?_
                refine WQ.blkN ?_
                refine WQ.thenN ?_
                -- R16 law.go:48
                refine WE.region ?_
                refine WO.run 1 0 [(91, .int .i64 (j : Int))] (by kernel_rfl) (by kernel_rfl) ?_
                refine WO.one (SQ.F 1 (by kernel_rfl)) 92 (.int .i64 (IntKind.i64.wrap ((j : Int) + 1))) (by kernel_rfl) ?_
                refine WO.top (v' := .int .i64 ((j + 1 : Nat) : Int)) (wrap_i64 (by omega) (by omega)) ?_
                refine WO.run 1 2 [(14, .int .i64 ((j + 1 : Nat) : Int))] (by kernel_rfl) (by kernel_rfl) ?_
                refine WO.done (by kernel_rfl) ?_
                refine WQ.keep [0, 1, 4, 5, 6, 7, 8, 9, 10, 11, 12, 13, 14, 24, 45, 64, 90] (e' := [(0, .slice (some ad0) l0.length cap0), (1, .slice (some adL) L.length cap1), (4, .bool false), (5, .bool true), (6, .pointer (some ⟨g6, 0, none⟩)), (7, .nilIface), (8, .bool true), (9, .pointer (some ⟨g16, 0, none⟩)), (10, .int .i64 (k : Int)), (11, .int .i64 0), (12, .iface 29 (.int .i64 1)), (13, .bool true), (14, .int .i64 ((j + 1 : Nat) : Int)), (24, .bool false), (45, .bool false), (64, .bool true), (90, .bool true)]) (by kernel_rfl) ?_
                refine WQ.round ?_
                intro a_ ha_
                refine ⟨(j + 1, true), ?_, ha_.keep [0, 1, 4, 5, 6, 7, 8, 9, 10, 11, 12, 13, 14, 24, 45, 64] (by kernel_rfl), ?_⟩
                · show co.length - (j + 1) < co.length - j; omega
                · exact ⟨by show j + 1 ≤ co.length; omega, by show _ = (_ || (co.take (j + 1)).any oddC); rw [any_step _ _ _ (by omega), ← Bool.or_assoc, ← hb, h30]; simp [oddC] <;> omega, rfl⟩
              · intro h32
                refine WO.run 2 20 [(13, .bool false), (113, .bool false)] (by kernel_rfl) (by kernel_rfl) ?_
                refine WO.done (by kernel_rfl) ?_
                refine WQ.keep [0, 1, 4, 5, 6, 7, 8, 9, 10, 11, 12, 13, 14, 24, 45, 64, 90] (e' := [(0, .slice (some ad0) l0.length cap0), (1, .slice (some adL) L.length cap1), (4, .bool false), (5, .bool true), (6, .pointer (some ⟨g6, 0, none⟩)), (7, .nilIface), (8, .bool true), (9, .pointer (some ⟨g16, 0, none⟩)), (10, .int .i64 (k : Int)), (11, .int .i64 0), (12, .iface 29 (.int .i64 1)), (13, .bool false), (14, .int .i64 (j : Int)), (24, .bool false), (45, .bool false), (64, .bool true), (90, .bool true)]) (by kernel_rfl) ?_
                refine WQ.blkN ?_
                refine WQ.thenN ?_
                -- R16 law.go:48
                refine WE.region ?_
                refine WO.run 1 0 [(91, .int .i64 (j : Int))] (by kernel_rfl) (by kernel_rfl) ?_
                refine WO.one (SQ.F 1 (by kernel_rfl)) 92 (.int .i64 (IntKind.i64.wrap ((j : Int) + 1))) (by kernel_rfl) ?_
                refine WO.top (v' := .int .i64 ((j + 1 : Nat) : Int)) (wrap_i64 (by omega) (by omega)) ?_
                refine WO.run 1 2 [(14, .int .i64 ((j + 1 : Nat) : Int))] (by kernel_rfl) (by kernel_rfl) ?_
                refine WO.done (by kernel_rfl) ?_
                refine WQ.keep [0, 1, 4, 5, 6, 7, 8, 9, 10, 11, 12, 13, 14, 24, 45, 64, 90] (e' := [(0, .slice (some ad0) l0.length cap0), (1, .slice (some adL) L.length cap1), (4, .bool false), (5, .bool true), (6, .pointer (some ⟨g6, 0, none⟩)), (7, .nilIface), (8, .bool true), (9, .pointer (some ⟨g16, 0, none⟩)), (10, .int .i64 (k : Int)), (11, .int .i64 0), (12, .iface 29 (.int .i64 1)), (13, .bool false), (14, .int .i64 ((j + 1 : Nat) : Int)), (24, .bool false), (45, .bool false), (64, .bool true), (90, .bool true)]) (by kernel_rfl) ?_
                refine WQ.round ?_
                intro a_ ha_
                refine ⟨(j + 1, false), ?_, ha_.keep [0, 1, 4, 5, 6, 7, 8, 9, 10, 11, 12, 13, 14, 24, 45, 64] (by kernel_rfl), ?_⟩
                · show co.length - (j + 1) < co.length - j; omega
                · exact ⟨by show j + 1 ≤ co.length; omega, by show _ = (_ || (co.take (j + 1)).any oddC); rw [any_step _ _ _ (by omega), ← Bool.or_assoc, ← hb, h30]; simp [oddC] <;> omega, rfl⟩
        · intro h29
          refine WO.done (by kernel_rfl) ?_
          refine WQ.keep [0, 1, 4, 5, 6, 7, 8, 9, 10, 11, 12, 13, 14, 24, 45, 64, 90] (e' := [(0, .slice (some ad0) l0.length cap0), (1, .slice (some adL) L.length cap1), (4, .bool false), (5, .bool true), (6, .pointer (some ⟨g6, 0, none⟩)), (7, .nilIface), (8, .bool true), (9, .pointer (some ⟨g16, 0, none⟩)), (10, .int .i64 (k : Int)), (11, .int .i64 0), (12, .iface 29 (.int .i64 1)), (13, .bool b), (14, .int .i64 (j : Int)), (24, .bool false), (45, .bool false), (64, .bool true), (90, .bool false)]) (by kernel_rfl) ?_
          refine WQ.thenN ?_
          refine WE.condF (by kernel_rfl) ?_
          refine WE.exit ?_
          refine WQ.thenE ?_
          refine WQ.thenE ?_
          refine WQ.blkE ?_
          refine WQ.thenN ?_
          refine WE.seq ?_
          refine WE.seq ?_
          have hbv : b = true := by rw [hb, List.take_of_length_le (by omega)]; simpa [or_comm] using hbad
          -- R18 law.go:51
          refine WE.region ?_
          refine WO.one (SQ.F 0 (by kernel_rfl)) 114 (.bool b) (by kernel_rfl) ?_
          refine WO.top (v' := .bool true) (congrArg Value.bool (by exact hbv)) ?_
          refine WO.done (by kernel_rfl) ?_
          refine WQ.keep [0, 1, 4, 5, 6, 7, 8, 9, 10, 11, 12, 13, 14, 24, 45, 64, 90, 114] (e' := [(0, .slice (some ad0) l0.length cap0), (1, .slice (some adL) L.length cap1), (4, .bool false), (5, .bool true), (6, .pointer (some ⟨g6, 0, none⟩)), (7, .nilIface), (8, .bool true), (9, .pointer (some ⟨g16, 0, none⟩)), (10, .int .i64 (k : Int)), (11, .int .i64 0), (12, .iface 29 (.int .i64 1)), (13, .bool b), (14, .int .i64 (j : Int)), (24, .bool false), (45, .bool false), (64, .bool true), (90, .bool false), (114, .bool true)]) (by kernel_rfl) ?_
          refine WQ.thenN ?_
          refine WE.condT (by kernel_rfl) ?_
          refine WE.seq ?_
          refine WE.seq ?_
          -- R19 law.go:52
          refine WE.region ?_
          refine WO.run 7 0 [(121, .bool false), (120, .bool false), (119, .int .i64 0), (118, .bool false), (117, .bool false), (116, .iface 29 (.int .i64 1)), (115, .iface 29 (.int .i64 1))] (by kernel_rfl) (by kernel_rfl) ?_
          refine WO.done (by kernel_rfl) ?_
          refine WQ.keep [0, 1, 4, 5, 6, 7, 8, 9, 10, 11, 12, 13, 14, 24, 45, 64, 90, 114, 121] (e' := [(0, .slice (some ad0) l0.length cap0), (1, .slice (some adL) L.length cap1), (4, .bool false), (5, .bool true), (6, .pointer (some ⟨g6, 0, none⟩)), (7, .nilIface), (8, .bool true), (9, .pointer (some ⟨g16, 0, none⟩)), (10, .int .i64 (k : Int)), (11, .int .i64 0), (12, .iface 29 (.int .i64 1)), (13, .bool b), (14, .int .i64 (j : Int)), (24, .bool false), (45, .bool false), (64, .bool true), (90, .bool false), (114, .bool true), (121, .bool false)]) (by kernel_rfl) ?_
          refine WQ.thenN ?_
          refine WE.condF (by kernel_rfl) ?_
          refine WE.skip ?_
          refine WQ.thenN ?_
          refine WE.exit ?_
          refine WQ.thenE ?_
          refine WQ.blkE ?_
          refine WQ.thenN ?_
          -- R11 law.go:45
          refine WE.region ?_
          refine WO.run 1 0 [(65, .int .i64 (k : Int))] (by kernel_rfl) (by kernel_rfl) ?_
          refine WO.one (SQ.F 1 (by kernel_rfl)) 66 (.int .i64 (IntKind.i64.wrap ((k : Int) + 1))) (by kernel_rfl) ?_
          refine WO.top (v' := .int .i64 ((k + 1 : Nat) : Int)) (wrap_i64 (by omega) (by omega)) ?_
          refine WO.run 1 2 [(10, .int .i64 ((k + 1 : Nat) : Int))] (by kernel_rfl) (by kernel_rfl) ?_
          refine WO.done (by kernel_rfl) ?_
          refine WQ.keep [0, 1, 4, 5, 6, 7, 8, 9, 10, 11, 12, 13, 14, 24, 45, 64, 90, 114, 121] (e' := [(0, .slice (some ad0) l0.length cap0), (1, .slice (some adL) L.length cap1), (4, .bool false), (5, .bool true), (6, .pointer (some ⟨g6, 0, none⟩)), (7, .nilIface), (8, .bool true), (9, .pointer (some ⟨g16, 0, none⟩)), (10, .int .i64 ((k + 1 : Nat) : Int)), (11, .int .i64 0), (12, .iface 29 (.int .i64 1)), (13, .bool b), (14, .int .i64 (j : Int)), (24, .bool false), (45, .bool false), (64, .bool true), (90, .bool false), (114, .bool true), (121, .bool false)]) (by kernel_rfl) ?_
          refine WQ.round ?_
          intro a_ ha_
          refine ⟨(k + 1, s, F2), ?_, ha_.keep [0, 1, 4, 5, 6, 7, 8, 9, 10, 24, 45] (by kernel_rfl), ?_⟩
          · show L.length - (k + 1) < L.length - k; omega
          · exact ⟨by show k + 1 ≤ L.length; omega, hgd, HT, HM, hdj, hge2, HA⟩
    · skip
      have hlen : co.length = l0.length := Decidable.byContradiction fun h => hbad (.inl h)
      have hodd : co.any oddC = false := by
        cases h : co.any oddC with
        | true => exact absurd (.inr h) hbad
        | false => rfl
      have hn1 := hq.n1
      obtain ⟨adk, hAk, _⟩ := hrk 0 (by omega)
      subst hAk
      have hclk : ∀ j, j < co.length → w.cell? (adk.add j) = some (.int .i64 (g0 co j)) := fun j hj => by
        obtain ⟨a, ha, hc'⟩ := hrk j hj
        obtain rfl := Option.some.inj ha
        exact hc'
      have hltk : adk.block < (World.heap w).size := cells_lt hclk (by omega)
      have hcC := goodC_of hlen hodd
      obtain ⟨s', x, hs, hgd'⟩ := turn_of hq hcC hgd
      -- R12 law.go:46
      refine WE.region ?_
      refine WO.run 3 0 [(70, .int .i64 (k : Int)), (69, .slice (some adL) L.length cap1), (68, .pointer (some ⟨g6, 0, none⟩))] (by kernel_rfl) (by kernel_rfl) ?_
      refine WO.ix (SQ.F 3 (by kernel_rfl)) 71 (adL.add k) adL L.length 1 (k : Int) (by kernel_rfl) (by omega) (by omega) (by congr 1 <;> omega) ?_
      refine WO.ld (SQ.S 4 (by kernel_rfl)) 72 (.slice (some adk) co.length ck) (by kernel_rfl) (same (HA.cell0 hcL)) ?_
      refine WO.call (SQ.E 5 (by kernel_rfl)) 73 (by kernel_rfl) (pickT_ok HT hgd hq adk ck co hcC (hrk.keep HA) (fun hm => absurd hltk (Nat.not_lt.2 (ge_HA_T5 _ hm))) hodd hs) ?_
      rintro _ w33 ⟨rfl, HT35, F34⟩
      refine ⟨_, rfl, trivial, ?_⟩
      have HM := HM.keep F34 (dj_symm hdj)
      have HA := Fr.step HA F34 (inF ge_HA_T5)
      refine WO.run 5 6 [(12, .nilIface), (11, .int .i64 x), (75, .nilIface), (74, .int .i64 x), (67, .tuple #[.int .i64 x, .nilIface])] (by kernel_rfl) (by kernel_rfl) ?_
      refine WO.done (by kernel_rfl) ?_
      refine WQ.keep [0, 1, 4, 5, 6, 7, 8, 9, 10, 11, 12, 24, 45, 64] (e' := [(0, .slice (some ad0) l0.length cap0), (1, .slice (some adL) L.length cap1), (4, .bool false), (5, .bool true), (6, .pointer (some ⟨g6, 0, none⟩)), (7, .nilIface), (8, .bool true), (9, .pointer (some ⟨g16, 0, none⟩)), (10, .int .i64 (k : Int)), (11, .int .i64 x), (12, .nilIface), (24, .bool false), (45, .bool false), (64, .bool true)]) (by kernel_rfl) ?_
      refine WQ.thenN ?_
      refine WE.seq ?_
      -- R13 law.go:47
      refine WE.region ?_
      refine WO.run 2 0 [(77, .int .i64 (k : Int)), (76, .slice (some adL) L.length cap1)] (by kernel_rfl) (by kernel_rfl) ?_
      refine WO.ix (SQ.F 2 (by kernel_rfl)) 78 (adL.add k) adL L.length 1 (k : Int) (by kernel_rfl) (by omega) (by omega) (by congr 1 <;> omega) ?_
      refine WO.ld (SQ.S 3 (by kernel_rfl)) 79 (.slice (some adk) co.length ck) (by kernel_rfl) (same (HA.cell0 hcL)) ?_
      refine WO.run 3 4 [(82, .int .i64 (l0.length : Int)), (81, .slice (some ad0) l0.length cap0), (80, .int .i64 (co.length : Int))] (by kernel_rfl) (by kernel_rfl) ?_
      refine WO.one (SQ.F 7 (by kernel_rfl)) 83 (.bool (!decide (((co.length : Int) : Int) = (l0.length : Int)))) (by kernel_rfl) ?_
      refine WO.topNT (((co.length : Int) : Int) = (l0.length : Int)) (by omega) ?_
      refine WO.run 1 8 [(13, .bool false)] (by kernel_rfl) (by kernel_rfl) ?_
      refine WO.done (by kernel_rfl) ?_
      refine WQ.keep [0, 1, 4, 5, 6, 7, 8, 9, 10, 11, 12, 13, 24, 45, 64] (e' := [(0, .slice (some ad0) l0.length cap0), (1, .slice (some adL) L.length cap1), (4, .bool false), (5, .bool true), (6, .pointer (some ⟨g6, 0, none⟩)), (7, .nilIface), (8, .bool true), (9, .pointer (some ⟨g16, 0, none⟩)), (10, .int .i64 (k : Int)), (11, .int .i64 x), (12, .nilIface), (13, .bool false), (24, .bool false), (45, .bool false), (64, .bool true)]) (by kernel_rfl) ?_
      refine WQ.thenN ?_
      refine WE.seq ?_
      refine WE.seq ?_
      -- R14 law.go:48
      refine WE.region ?_
      refine WO.run 1 0 [(14, .int .i64 0)] (by kernel_rfl) (by kernel_rfl) ?_
      refine WO.done (by kernel_rfl) ?_
      refine WQ.keep [0, 1, 4, 5, 6, 7, 8, 9, 10, 11, 12, 13, 14, 24, 45, 64] (e' := [(0, .slice (some ad0) l0.length cap0), (1, .slice (some adL) L.length cap1), (4, .bool false), (5, .bool true), (6, .pointer (some ⟨g6, 0, none⟩)), (7, .nilIface), (8, .bool true), (9, .pointer (some ⟨g16, 0, none⟩)), (10, .int .i64 (k : Int)), (11, .int .i64 x), (12, .nilIface), (13, .bool false), (14, .int .i64 0), (24, .bool false), (45, .bool false), (64, .bool true)]) (by kernel_rfl) ?_
      refine WQ.thenN ?_
      refine WE.block ?_
      refine WE.loop (α := Nat × Bool) (E := fun z => [(0, .slice (some ad0) l0.length cap0), (1, .slice (some adL) L.length cap1), (4, .bool false), (5, .bool true), (6, .pointer (some ⟨g6, 0, none⟩)), (7, .nilIface), (8, .bool true), (9, .pointer (some ⟨g16, 0, none⟩)), (10, .int .i64 (k : Int)), (11, .int .i64 x), (12, .nilIface), (13, .bool z.2), (14, .int .i64 (z.1 : Int)), (24, .bool false), (45, .bool false), (64, .bool true)]) (I := fun z wi => z.1 ≤ co.length ∧ z.2 = (!decide (co.length = l0.length) || (co.take z.1).any oddC) ∧ w33 = wi) (m := fun z => co.length - z.1) (0, false) [0, 1, 4, 5, 6, 7, 8, 9, 10, 11, 12, 13, 14, 24, 45, 64] (by kernel_rfl) ?_ ?_
      · exact ⟨Nat.zero_le _, by simp [(show co.length = l0.length by omega)], rfl⟩
      rintro ⟨j, b⟩ wi ⟨hj, hb, hw⟩
      subst hw
      dsimp only at hj hb
      refine WE.seq ?_
      refine WE.seq ?_
      -- R15 law.go:48
      refine WE.region ?_
      refine WO.run 3 0 [(86, .int .i64 (k : Int)), (85, .slice (some adL) L.length cap1), (84, .int .i64 (j : Int))] (by kernel_rfl) (by kernel_rfl) ?_
      refine WO.ix (SQ.F 3 (by kernel_rfl)) 87 (adL.add k) adL L.length 1 (k : Int) (by kernel_rfl) (by omega) (by omega) (by congr 1 <;> omega) ?_
      refine WO.ld (SQ.S 4 (by kernel_rfl)) 88 (.slice (some adk) co.length ck) (by kernel_rfl) (same (HA.cell0 hcL)) ?_
      refine WO.run 1 5 [(89, .int .i64 (co.length : Int))] (by kernel_rfl) (by kernel_rfl) ?_
      refine WO.one (SQ.F 6 (by kernel_rfl)) 90 (.bool (decide (((j : Int) : Int) < (co.length : Int)))) (by kernel_rfl) ?_
      refine WO.topP (((j : Int) : Int) < (co.length : Int)) ?_ ?_
      · intro h36
        refine WO.done (by kernel_rfl) ?_
        refine WQ.keep [0, 1, 4, 5, 6, 7, 8, 9, 10, 11, 12, 13, 14, 24, 45, 64, 90] (e' := [(0, .slice (some ad0) l0.length cap0), (1, .slice (some adL) L.length cap1), (4, .bool false), (5, .bool true), (6, .pointer (some ⟨g6, 0, none⟩)), (7, .nilIface), (8, .bool true), (9, .pointer (some ⟨g16, 0, none⟩)), (10, .int .i64 (k : Int)), (11, .int .i64 x), (12, .nilIface), (13, .bool b), (14, .int .i64 (j : Int)), (24, .bool false), (45, .bool false), (64, .bool true), (90, .bool true)]) (by kernel_rfl) ?_
        refine WQ.thenN ?_
        refine WE.condT (by kernel_rfl) ?_
        refine WE.skip ?_
        refine WQ.thenN ?_
        refine WE.seq ?_
        refine WE.block ?_
        -- R17 law.go:49
        refine WE.region ?_
        refine WO.one (SQ.F 0 (by kernel_rfl)) 93 (.bool b) (by kernel_rfl) ?_
        refine WO.topB (b) ?_ ?_
        · intro h37
          refine WO.run 6 1 [(99, undef), (98, undef), (97, undef), (96, undef), (95, undef), (94, .bool true)] (by kernel_rfl) (by kernel_rfl) ?_
          refine WO.off (SQ.O 7 (by kernel_rfl)) 100 (by kernel_rfl) ?_
          refine WO.run 9 8 [(109, undef), (108, undef), (107, undef), (106, undef), (105, undef), (104, .bool true), (103, .bool true), (102, undef), (101, undef)] (by kernel_rfl) (by kernel_rfl) ?_
          refine WO.off (SQ.O 17 (by kernel_rfl)) 110 (by kernel_rfl) ?_
          refine WO.run 4 18 [(13, .bool true), (113, .bool true), (112, undef), (111, undef)] (by kernel_rfl) (by kernel_rfl) ?_
          refine WO.done (by kernel_rfl) ?_
          refine WQ.keep [0, 1, 4, 5, 6, 7, 8, 9, 10, 11, 12, 13, 14, 24, 45, 64, 90] (e' := [(0, .slice (some ad0) l0.length cap0), (1, .slice (some adL) L.length cap1), (4, .bool false), (5, .bool true), (6, .pointer (some ⟨g6, 0, none⟩)), (7, .nilIface), (8, .bool true), (9, .pointer (some ⟨g16, 0, none⟩)), (10, .int .i64 (k : Int)), (11, .int .i64 x), (12, .nilIface), (13, .bool true), (14, .int .i64 (j : Int)), (24, .bool false), (45, .bool false), (64, .bool true), (90, .bool true)]) (by kernel_rfl) ?_
          refine WQ.blkN ?_
          refine WQ.thenN ?_
          -- R16 law.go:48
          refine WE.region ?_
          refine WO.run 1 0 [(91, .int .i64 (j : Int))] (by kernel_rfl) (by kernel_rfl) ?_
          refine WO.one (SQ.F 1 (by kernel_rfl)) 92 (.int .i64 (IntKind.i64.wrap ((j : Int) + 1))) (by kernel_rfl) ?_
          refine WO.top (v' := .int .i64 ((j + 1 : Nat) : Int)) (wrap_i64 (by omega) (by omega)) ?_
          refine WO.run 1 2 [(14, .int .i64 ((j + 1 : Nat) : Int))] (by kernel_rfl) (by kernel_rfl) ?_
          refine WO.done (by kernel_rfl) ?_
          refine WQ.keep [0, 1, 4, 5, 6, 7, 8, 9, 10, 11, 12, 13, 14, 24, 45, 64, 90] (e' := [(0, .slice (some ad0) l0.length cap0), (1, .slice (some adL) L.length cap1), (4, .bool false), (5, .bool true), (6, .pointer (some ⟨g6, 0, none⟩)), (7, .nilIface), (8, .bool true), (9, .pointer (some ⟨g16, 0, none⟩)), (10, .int .i64 (k : Int)), (11, .int .i64 x), (12, .nilIface), (13, .bool true), (14, .int .i64 ((j + 1 : Nat) : Int)), (24, .bool false), (45, .bool false), (64, .bool true), (90, .bool true)]) (by kernel_rfl) ?_
          refine WQ.round ?_
          intro a_ ha_
          refine ⟨(j + 1, true), ?_, ha_.keep [0, 1, 4, 5, 6, 7, 8, 9, 10, 11, 12, 13, 14, 24, 45, 64] (by kernel_rfl), ?_⟩
          · show co.length - (j + 1) < co.length - j; omega
          · exact ⟨by show j + 1 ≤ co.length; omega, by show _ = (_ || (co.take (j + 1)).any oddC); rw [any_step _ _ _ (by omega), ← Bool.or_assoc, ← hb, h37]; simp [oddC] <;> omega, rfl⟩
        · intro h37
          refine WO.run 3 1 [(96, .int .i64 (k : Int)), (95, .slice (some adL) L.length cap1), (94, .bool false)] (by kernel_rfl) (by kernel_rfl) ?_
          refine WO.ix (SQ.F 4 (by kernel_rfl)) 97 (adL.add k) adL L.length 1 (k : Int) (by kernel_rfl) (by omega) (by omega) (by congr 1 <;> omega) ?_
          refine WO.ld (SQ.S 5 (by kernel_rfl)) 98 (.slice (some adk) co.length ck) (by kernel_rfl) (same (HA.cell0 hcL)) ?_
          refine WO.run 1 6 [(99, .int .i64 (j : Int))] (by kernel_rfl) (by kernel_rfl) ?_
          refine WO.ix (SQ.F 7 (by kernel_rfl)) 100 (adk.add j) adk co.length 1 (j : Int) (by kernel_rfl) (by omega) (by omega) (by congr 1 <;> omega) ?_
          refine WO.ld (SQ.S 8 (by kernel_rfl)) 101 (.int .i64 (g0 co j)) (by kernel_rfl) (same (HA.cell0 (hclk j (by omega)))) ?_
          refine WO.one (SQ.F 9 (by kernel_rfl)) 102 (.bool (decide ((g0 co j : Int) < 0))) (by kernel_rfl) ?_
          refine WO.topP ((g0 co j : Int) < 0) ?_ ?_
          · intro h38
            refine WO.run 7 10 [(109, undef), (108, undef), (107, undef), (106, undef), (105, undef), (104, .bool true), (103, .bool true)] (by kernel_rfl) (by kernel_rfl) ?_
            refine WO.off (SQ.O 17 (by kernel_rfl)) 110 (by kernel_rfl) ?_
            refine WO.run 4 18 [(13, .bool true), (113, .bool true), (112, undef), (111, undef)] (by kernel_rfl) (by kernel_rfl) ?_
            refine WO.done (by kernel_rfl) ?_
            refine WQ.keep [0, 1, 4, 5, 6, 7, 8, 9, 10, 11, 12, 13, 14, 24, 45, 64, 90] (e' := [(0, .slice (some ad0) l0.length cap0), (1, .slice (some adL) L.length cap1), (4, .bool false), (5, .bool true), (6, .pointer (some ⟨g6, 0, none⟩)), (7, .nilIface), (8, .bool true), (9, .pointer (some ⟨g16, 0, none⟩)), (10, .int .i64 (k : Int)), (11, .int .i64 x), (12, .nilIface), (13, .bool true), (14, .int .i64 (j : Int)), (24, .bool false), (45, .bool false), (64, .bool true), (90, .bool true)]) (by kernel_rfl) ?_
            refine WQ.blkN ?_
            refine WQ.thenN ?_
            -- R16 law.go:48
            refine WE.region ?_
            refine WO.run 1 0 [(91, .int .i64 (j : Int))] (by kernel_rfl) (by kernel_rfl) ?_
            refine WO.one (SQ.F 1 (by kernel_rfl)) 92 (.int .i64 (IntKind.i64.wrap ((j : Int) + 1))) (by kernel_rfl) ?_
            refine WO.top (v' := .int .i64 ((j + 1 : Nat) : Int)) (wrap_i64 (by omega) (by omega)) ?_
            refine WO.run 1 2 [(14, .int .i64 ((j + 1 : Nat) : Int))] (by kernel_rfl) (by kernel_rfl) ?_
            refine WO.done (by kernel_rfl) ?_
            refine WQ.keep [0, 1, 4, 5, 6, 7, 8, 9, 10, 11, 12, 13, 14, 24, 45, 64, 90] (e' := [(0, .slice (some ad0) l0.length cap0), (1, .slice (some adL) L.length cap1), (4, .bool false), (5, .bool true), (6, .pointer (some ⟨g6, 0, none⟩)), (7, .nilIface), (8, .bool true), (9, .pointer (some ⟨g16, 0, none⟩)), (10, .int .i64 (k : Int)), (11, .int .i64 x), (12, .nilIface), (13, .bool true), (14, .int .i64 ((j + 1 : Nat) : Int)), (24, .bool false), (45, .bool false), (64, .bool true), (90, .bool true)]) (by kernel_rfl) ?_
            refine WQ.round ?_
            intro a_ ha_
            refine ⟨(j + 1, true), ?_, ha_.keep [0, 1, 4, 5, 6, 7, 8, 9, 10, 11, 12, 13, 14, 24, 45, 64] (by kernel_rfl), ?_⟩
            · show co.length - (j + 1) < co.length - j; omega
            · exact ⟨by show j + 1 ≤ co.length; omega, by show _ = (_ || (co.take (j + 1)).any oddC); rw [any_step _ _ _ (by omega), ← Bool.or_assoc, ← hb, h37]; simp [oddC] <;> omega, rfl⟩
          · intro h38
            refine WO.run 4 10 [(106, .int .i64 (k : Int)), (105, .slice (some adL) L.length cap1), (104, .bool false), (103, .bool false)] (by kernel_rfl) (by kernel_rfl) ?_
            refine WO.ix (SQ.F 14 (by kernel_rfl)) 107 (adL.add k) adL L.length 1 (k : Int) (by kernel_rfl) (by omega) (by omega) (by congr 1 <;> omega) ?_
            refine WO.ld (SQ.S 15 (by kernel_rfl)) 108 (.slice (some adk) co.length ck) (by kernel_rfl) (same (HA.cell0 hcL)) ?_
            refine WO.run 1 16 [(109, .int .i64 (j : Int))] (by kernel_rfl) (by kernel_rfl) ?_
            refine WO.ix (SQ.F 17 (by kernel_rfl)) 110 (adk.add j) adk co.length 1 (j : Int) (by kernel_rfl) (by omega) (by omega) (by congr 1 <;> omega) ?_
            refine WO.ld (SQ.S 18 (by kernel_rfl)) 111 (.int .i64 (g0 co j)) (by kernel_rfl) (same (HA.cell0 (hclk j (by omega)))) ?_
            refine WO.one (SQ.F 19 (by kernel_rfl)) 112 (.bool (decide ((g0 co j : Int) > 1000))) (by kernel_rfl) ?_
            refine WO.topP ((g0 co j : Int) > 1000) ?_ ?_
            · intro h39
              refine WO.run 2 20 [(13, .bool true), (113, .bool true)] (by kernel_rfl) (by kernel_rfl) ?_
              refine WO.done (by kernel_rfl) ?_
              refine WQ.keep [0, 1, 4, 5, 6, 7, 8, 9, 10, 11, 12, 13, 14, 24, 45, 64, 90] (e' := [(0, .slice (some ad0) l0.length cap0), (1, .slice (some adL) L.length cap1), (4, .bool false), (5, .bool true), (6, .pointer (some ⟨g6, 0, none⟩)), (7, .nilIface), (8, .bool true), (9, .pointer (some ⟨g16, 0, none⟩)), (10, .int .i64 (k : Int)), (11, .int .i64 x), (12, .nilIface), (13, .bool true), (14, .int .i64 (j : Int)), (24, .bool false), (45, .bool false), (64, .bool true), (90, .bool true)]) (by kernel_rfl) ?_
              refine WQ.blkN ?_
              refine WQ.thenN ?_
              -- R16 law.go:48
              refine WE.region ?_
              refine WO.run 1 0 [(91, .int .i64 (j : Int))] (by kernel_rfl) (by kernel_rfl) ?_
              refine WO.one (SQ.F 1 (by kernel_rfl)) 92 (.int .i64 (IntKind.i64.wrap ((j : Int) + 1))) (by kernel_rfl) ?_
              refine WO.top (v' := .int .i64 ((j + 1 : Nat) : Int)) (wrap_i64 (by omega) (by omega)) ?_
              refine WO.run 1 2 [(14, .int .i64 ((j + 1 : Nat) : Int))] (by kernel_rfl) (by kernel_rfl) ?_
              refine WO.done (by kernel_rfl) ?_
              refine WQ.keep [0, 1, 4, 5, 6, 7, 8, 9, 10, 11, 12, 13, 14, 24, 45, 64, 90] (e' := [(0, .slice (some ad0) l0.length cap0), (1, .slice (some adL) L.length cap1), (4, .bool false), (5, .bool true), (6, .pointer (some ⟨g6, 0, none⟩)), (7, .nilIface), (8, .bool true), (9, .pointer (some ⟨g16, 0, none⟩)), (10, .int .i64 (k : Int)), (11, .int .i64 x), (12, .nilIface), (13, .bool true), (14, .int .i64 ((j + 1 : Nat) : Int)), (24, .bool false), (45, .bool false), (64, .bool true), (90, .bool true)]) (by kernel_rfl) ?_
              refine WQ.round ?_
              intro a_ ha_
              refine ⟨(j + 1, true), ?_, ha_.keep [0, 1, 4, 5, 6, 7, 8, 9, 10, 11, 12, 13, 14, 24, 45, 64] (by kernel_rfl), ?_⟩
              · show co.length - (j + 1) < co.length - j; omega
              · exact ⟨by show j + 1 ≤ co.length; omega, by show _ = (_ || (co.take (j + 1)).any oddC); rw [any_step _ _ _ (by omega), ← Bool.or_assoc, ← hb, h37]; simp [oddC] <;> omega, rfl⟩
            · intro h39
              refine WO.run 2 20 [(13, .bool false), (113, .bool false)] (by kernel_rfl) (by kernel_rfl) ?_
              refine WO.done (by kernel_rfl) ?_
              refine WQ.keep [0, 1, 4, 5, 6, 7, 8, 9, 10, 11, 12, 13, 14, 24, 45, 64, 90] (e' := [(0, .slice (some ad0) l0.length cap0), (1, .slice (some adL) L.length cap1), (4, .bool false), (5, .bool true), (6, .pointer (some ⟨g6, 0, none⟩)), (7, .nilIface), (8, .bool true), (9, .pointer (some ⟨g16, 0, none⟩)), (10, .int .i64 (k : Int)), (11, .int .i64 x), (12, .nilIface), (13, .bool false), (14, .int .i64 (j : Int)), (24, .bool false), (45, .bool false), (64, .bool true), (90, .bool true)]) (by kernel_rfl) ?_
              refine WQ.blkN ?_
              refine WQ.thenN ?_
              -- R16 law.go:48
              refine WE.region ?_
              refine WO.run 1 0 [(91, .int .i64 (j : Int))] (by kernel_rfl) (by kernel_rfl) ?_
              refine WO.one (SQ.F 1 (by kernel_rfl)) 92 (.int .i64 (IntKind.i64.wrap ((j : Int) + 1))) (by kernel_rfl) ?_
              refine WO.top (v' := .int .i64 ((j + 1 : Nat) : Int)) (wrap_i64 (by omega) (by omega)) ?_
              refine WO.run 1 2 [(14, .int .i64 ((j + 1 : Nat) : Int))] (by kernel_rfl) (by kernel_rfl) ?_
              refine WO.done (by kernel_rfl) ?_
              refine WQ.keep [0, 1, 4, 5, 6, 7, 8, 9, 10, 11, 12, 13, 14, 24, 45, 64, 90] (e' := [(0, .slice (some ad0) l0.length cap0), (1, .slice (some adL) L.length cap1), (4, .bool false), (5, .bool true), (6, .pointer (some ⟨g6, 0, none⟩)), (7, .nilIface), (8, .bool true), (9, .pointer (some ⟨g16, 0, none⟩)), (10, .int .i64 (k : Int)), (11, .int .i64 x), (12, .nilIface), (13, .bool false), (14, .int .i64 ((j + 1 : Nat) : Int)), (24, .bool false), (45, .bool false), (64, .bool true), (90, .bool true)]) (by kernel_rfl) ?_
              refine WQ.round ?_
              intro a_ ha_
              refine ⟨(j + 1, false), ?_, ha_.keep [0, 1, 4, 5, 6, 7, 8, 9, 10, 11, 12, 13, 14, 24, 45, 64] (by kernel_rfl), ?_⟩
              · show co.length - (j + 1) < co.length - j; omega
              · exact ⟨by show j + 1 ≤ co.length; omega, by show _ = (_ || (co.take (j + 1)).any oddC); rw [any_step _ _ _ (by omega), ← Bool.or_assoc, ← hb, h37]; simp [oddC] <;> omega, rfl⟩
      · intro h36
        refine WO.done (by kernel_rfl) ?_
        refine WQ.keep [0, 1, 4, 5, 6, 7, 8, 9, 10, 11, 12, 13, 14, 24, 45, 64, 90] (e' := [(0, .slice (some ad0) l0.length cap0), (1, .slice (some adL) L.length cap1), (4, .bool false), (5, .bool true), (6, .pointer (some ⟨g6, 0, none⟩)), (7, .nilIface), (8, .bool true), (9, .pointer (some ⟨g16, 0, none⟩)), (10, .int .i64 (k : Int)), (11, .int .i64 x), (12, .nilIface), (13, .bool b), (14, .int .i64 (j : Int)), (24, .bool false), (45, .bool false), (64, .bool true), (90, .bool false)]) (by kernel_rfl) ?_
        refine WQ.thenN ?_
        refine WE.condF (by kernel_rfl) ?_
        refine WE.exit ?_
        refine WQ.thenE ?_
        refine WQ.thenE ?_
        refine WQ.blkE ?_
        refine WQ.thenN ?_
        refine WE.seq ?_
        refine WE.seq ?_
        have hbv : b = false := by rw [hb, List.take_of_length_le (by omega), hodd]; simp [hlen]
        -- R18 law.go:51
        refine WE.region ?_
        refine WO.one (SQ.F 0 (by kernel_rfl)) 114 (.bool b) (by kernel_rfl) ?_
        refine WO.top (v' := .bool false) (congrArg Value.bool (by exact hbv)) ?_
        refine WO.done (by kernel_rfl) ?_
        refine WQ.keep [0, 1, 4, 5, 6, 7, 8, 9, 10, 11, 12, 13, 14, 24, 45, 64, 90, 114] (e' := [(0, .slice (some ad0) l0.length cap0), (1, .slice (some adL) L.length cap1), (4, .bool false), (5, .bool true), (6, .pointer (some ⟨g6, 0, none⟩)), (7, .nilIface), (8, .bool true), (9, .pointer (some ⟨g16, 0, none⟩)), (10, .int .i64 (k : Int)), (11, .int .i64 x), (12, .nilIface), (13, .bool b), (14, .int .i64 (j : Int)), (24, .bool false), (45, .bool false), (64, .bool true), (90, .bool false), (114, .bool false)]) (by kernel_rfl) ?_
        refine WQ.thenN ?_
        refine WE.condF (by kernel_rfl) ?_
        refine WE.skip ?_
        refine WQ.thenN ?_
        refine WE.seq ?_
        have ltz_g16 : g16 < (World.heap w33).size := by
          obtain ⟨_, _, _, _, HB_, _⟩ := HM
          exact HB_.lt
        have ltL : (adL.add k).block < (World.heap w33).size := World.block_lt_of_cell? _ _ (HA.cell0 hcL)
        have hz40 : (World.heap w33).size ≤ (World.heap w33).size := Nat.le_refl _
        -- R21* law.go:57
        refine WE.draw [.free, .free, .free, .free, .free, .free, .free, .free, .still, .eff, .free, .free, .free, .free, .effR, .free, .free, .free, .still, .eff, .free, .free] (FrB (World.heap w33).size) (frBR _) (by kernel_rfl) 22 (Array.replicate 22 false) (by kernel_rfl) rfl ?_
        intro w41 F42 _
        have HM := HM.keep F42 (fun _ _ => nin0 _)
        have HT35 := HT35.keep F42 (fun _ _ => nin0 _)
        have hz40 := Nat.le_trans hz40 F42.size
        have HA := Fr.step0 HA F42
        refine WO.one (SA.F (frBR _) (frBT _) _ 0 _ (by kernel_rfl)) 122 (.nilIface) (by kernel_rfl) ?_
        refine WO.one (SA.F (frBR _) (frBT _) _ 1 _ (by kernel_rfl)) 123 (.bool false) (by kernel_rfl) ?_
        refine WO.one (SA.F (frBR _) (frBT _) _ 2 _ (by kernel_rfl)) 124 (.bool false) (by kernel_rfl) ?_
        refine WO.one (SA.F (frBR _) (frBT _) _ 3 _ (by kernel_rfl)) 125 (.int .i64 x) (by kernel_rfl) ?_
        refine WO.one (SA.F (frBR _) (frBT _) _ 4 _ (by kernel_rfl)) 126 (.pointer (some ⟨g16, 0, none⟩)) (by kernel_rfl) ?_
        refine WO.one (SA.F (frBR _) (frBT _) _ 5 _ (by kernel_rfl)) 127 (.slice (some adL) L.length cap1) (by kernel_rfl) ?_
        refine WO.one (SA.F (frBR _) (frBT _) _ 6 _ (by kernel_rfl)) 128 (.int .i64 (k : Int)) (by kernel_rfl) ?_
        refine WO.ix (SA.F (frBR _) (frBT _) _ 7 _ (by kernel_rfl)) 129 (adL.add k) adL L.length 1 (k : Int) (by kernel_rfl) (by omega) (by omega) (by congr 1 <;> omega) ?_
        refine WO.ld (SA.S (frBR _) (frBT _) _ 8 _ (by kernel_rfl)) 130 (.slice (some adk) co.length ck) (by kernel_rfl) (fun _ k_ => cellB k_ ltL (HA.cell0 hcL)) ?_
        have hlt0 : ad0.block < (World.heap w).size := rd_lt hrd0 (by omega)
        refine WO.call (SA.E _ 9 _ (by kernel_rfl) rfl) 131 (by kernel_rfl) (refM_ok (ccap := ck) HM hgd hq (hrd0.keep HA) (hrk.keep HA) (fun hm => absurd hlt0 (Nat.not_lt.2 (hge2 _ hm))) (fun hm => absurd hltk (Nat.not_lt.2 (hge2 _ hm))) hcC hs) ?_
        rintro _ w43 ⟨M45, rfl, HM46, F44, hg47⟩
        refine ⟨_, rfl, trivial, ?_⟩
        have dj_M45_T5 : ∀ y ∈ M45, y ∉ T5 := grow_dj hg47 (dj_symm hdj) HT35.lt
        have ge_HA_M45 : ∀ y ∈ M45, (World.heap w).size ≤ y := grow_ge hg47 hge2 HA.size
        have HT35 := HT35.keep F44 hdj
        have hz40 := Nat.le_trans hz40 F44.size
        have HA := Fr.step HA F44 (inF hge2)
        obtain ⟨bm, cbm, hFm, nm, HBm, HRm⟩ := HM46
        have nin_g : g16 ∉ T5 := fun hm => (dj_symm dj_M45_T5) _ hm (by rw [hFm]; simp)
        have nin_b : bm ∉ T5 := fun hm => (dj_symm dj_M45_T5) _ hm (by rw [hFm]; simp)
        have ge_HA_g16 : (World.heap w).size ≤ g16 := ge_HA_M45 _ (by rw [hFm]; simp)
        have ge_HA_bm : (World.heap w).size ≤ bm := ge_HA_M45 _ (by rw [hFm]; simp)
        refine WO.one (SA.F (frBR _) (frBT _) _ 10 _ (by kernel_rfl)) 132 (.bool (!decide ((x : Int) = x))) (by kernel_rfl) ?_
        refine WO.topNT ((x : Int) = x) (by rfl) ?_
        refine WO.one (SA.F (frBR _) (frBT _) _ 11 _ (by kernel_rfl)) 133 (.bool false) (by kernel_rfl) ?_
        refine WO.one (SA.F (frBR _) (frBT _) _ 12 _ (by kernel_rfl)) 134 (.bool false) (by kernel_rfl) ?_
        refine WO.one (SA.F (frBR _) (frBT _) _ 13 _ (by kernel_rfl)) 135 (.pointer (some ⟨g6, 0, none⟩)) (by kernel_rfl) ?_
        refine WO.one (SA.F (frBR _) (frBT _) _ 15 _ (by kernel_rfl)) 137 (.pointer (some ⟨g16, 0, none⟩)) (by kernel_rfl) ?_
        refine WO.one (SA.F (frBR _) (frBT _) _ 16 _ (by kernel_rfl)) 138 (.pointer (some ⟨g16, 0, none⟩)) (by kernel_rfl) ?_
        refine WO.one (SA.F (frBR _) (frBT _) _ 17 _ (by kernel_rfl)) 139 (.pointer (some ⟨g16, 1, none⟩)) (by kernel_rfl) ?_
        refine WO.ld (SA.S (frBR _) (frBT _) _ 18 _ (by kernel_rfl)) 140 (.slice (some ⟨bm, 0, none⟩) l0.length cbm) (by kernel_rfl) (fun _ k => (HBm.keepB k ltz_g16).at 1 (by kernel_rfl)) ?_
        refine WO.call (SA.ER _ 14 _ (by kernel_rfl) rfl) 136 (by kernel_rfl) (creditsT HT35 hgd' hq) ?_
        rintro _ w48 ⟨b50, cap51, rfl, HR52, F49, le53⟩
        refine ⟨_, rfl, frB_of hz40 (by simp) _ F49, ?_⟩
        have ne_g16_b50 : g16 ≠ b50 := Nat.ne_of_lt (Nat.lt_of_lt_of_le HBm.lt le53)
        have ne_bm_b50 : bm ≠ b50 := Nat.ne_of_lt (Nat.lt_of_lt_of_le HRm.lt le53)
        have nin_b50_T5 : b50 ∉ T5 := new_nin HT35.lt le53
        have ge_HA_b50 := Nat.le_trans HA.size le53
        have gz_hz40_b50 := Nat.le_trans hz40 le53
        have HBm := Blk.keep HBm F49 (nin0 _)
        have HRm := RowB.keep HRm F49 (nin0 _)
        have HT35 := HT35.keep F49 (fun _ _ => nin0 _)
        have hz40 := Nat.le_trans hz40 F49.size
        have HA := Fr.step0 HA F49
        refine WO.call (SA.E _ 19 _ (by kernel_rfl) rfl) 141 (by kernel_rfl) (ints_same b50 bm cap51 cbm l0.length s'.cs _ HR52 HRm hgd'.len hq.n4) ?_
        rintro _ w54 ⟨rfl, F55⟩
        refine ⟨_, rfl, trivial, ?_⟩
        have HBm := Blk.keep HBm F55 (nin0 _)
        have HRm := RowB.keep HRm F55 (nin0 _)
        have HR52 := RowB.keep HR52 F55 (nin0 _)
        have HT35 := HT35.keep F55 (fun _ _ => nin0 _)
        have hz40 := Nat.le_trans hz40 F55.size
        have HA := Fr.step0 HA F55
        refine WO.one (SA.F (frBR _) (frBT _) _ 20 _ (by kernel_rfl)) 142 (.bool false) (by kernel_rfl) ?_
        refine WO.one (SA.F (frBR _) (frBT _) _ 21 _ (by kernel_rfl)) 143 (.bool false) (by kernel_rfl) ?_
        refine WO.doneA (by kernel_rfl) ?_
        refine WQ.keep [0, 1, 4, 5, 6, 7, 8, 9, 10, 11, 12, 13, 14, 24, 45, 64, 90, 114, 143] (e' := [(0, .slice (some ad0) l0.length cap0), (1, .slice (some adL) L.length cap1), (4, .bool false), (5, .bool true), (6, .pointer (some ⟨g6, 0, none⟩)), (7, .nilIface), (8, .bool true), (9, .pointer (some ⟨g16, 0, none⟩)), (10, .int .i64 (k : Int)), (11, .int .i64 x), (12, .nilIface), (13, .bool b), (14, .int .i64 (j : Int)), (24, .bool false), (45, .bool false), (64, .bool true), (90, .bool false), (114, .bool false), (143, .bool false)]) (by kernel_rfl) ?_
        refine WQ.thenN ?_
        refine WE.condF (by kernel_rfl) ?_
        refine WE.skip ?_
        refine WQ.blkN ?_
        refine WQ.thenN ?_
        -- R11 law.go:45
        refine WE.region ?_
        refine WO.run 1 0 [(65, .int .i64 (k : Int))] (by kernel_rfl) (by kernel_rfl) ?_
        refine WO.one (SQ.F 1 (by kernel_rfl)) 66 (.int .i64 (IntKind.i64.wrap ((k : Int) + 1))) (by kernel_rfl) ?_
        refine WO.top (v' := .int .i64 ((k + 1 : Nat) : Int)) (wrap_i64 (by omega) (by omega)) ?_
        refine WO.run 1 2 [(10, .int .i64 ((k + 1 : Nat) : Int))] (by kernel_rfl) (by kernel_rfl) ?_
        refine WO.done (by kernel_rfl) ?_
        refine WQ.keep [0, 1, 4, 5, 6, 7, 8, 9, 10, 11, 12, 13, 14, 24, 45, 64, 90, 114, 143] (e' := [(0, .slice (some ad0) l0.length cap0), (1, .slice (some adL) L.length cap1), (4, .bool false), (5, .bool true), (6, .pointer (some ⟨g6, 0, none⟩)), (7, .nilIface), (8, .bool true), (9, .pointer (some ⟨g16, 0, none⟩)), (10, .int .i64 ((k + 1 : Nat) : Int)), (11, .int .i64 x), (12, .nilIface), (13, .bool b), (14, .int .i64 (j : Int)), (24, .bool false), (45, .bool false), (64, .bool true), (90, .bool false), (114, .bool false), (143, .bool false)]) (by kernel_rfl) ?_
        refine WQ.round ?_
        intro a_ ha_
        refine ⟨(k + 1, s', M45), ?_, ha_.keep [0, 1, 4, 5, 6, 7, 8, 9, 10, 24, 45] (by kernel_rfl), ?_⟩
        · show L.length - (k + 1) < L.length - k; omega
        · exact ⟨by show k + 1 ≤ L.length; omega, hgd', HT35, ⟨bm, cbm, hFm, nm, HBm, HRm⟩, (dj_symm dj_M45_T5), ge_HA_M45, HA⟩
  · intro h21
    refine WO.done (by kernel_rfl) ?_
    refine WQ.keep [0, 1, 4, 5, 6, 7, 8, 9, 10, 24, 45, 64] (e' := [(0, .slice (some ad0) l0.length cap0), (1, .slice A1 L.length cap1), (4, .bool false), (5, .bool true), (6, .pointer (some ⟨g6, 0, none⟩)), (7, .nilIface), (8, .bool true), (9, .pointer (some ⟨g16, 0, none⟩)), (10, .int .i64 (k : Int)), (24, .bool false), (45, .bool false), (64, .bool false)]) (by kernel_rfl) ?_
    refine WQ.thenN ?_
    refine WE.condF (by kernel_rfl) ?_
    refine WE.exit ?_
    refine WQ.thenE ?_
    refine WQ.thenE ?_
    refine WQ.blkE ?_
    refine WQ.thenN ?_
    refine WE.seq ?_
    -- R23 law.go:61
    refine WE.region ?_
    refine WO.run 2 0 [(4, .bool true), (144, .bool true)] (by kernel_rfl) (by kernel_rfl) ?_
    refine WO.done (by kernel_rfl) ?_
    refine WQ.keep [0, 1, 4, 5, 6, 7, 8, 9, 10, 24, 45, 64] (e' := [(0, .slice (some ad0) l0.length cap0), (1, .slice A1 L.length cap1), (4, .bool true), (5, .bool true), (6, .pointer (some ⟨g6, 0, none⟩)), (7, .nilIface), (8, .bool true), (9, .pointer (some ⟨g16, 0, none⟩)), (10, .int .i64 (k : Int)), (24, .bool false), (45, .bool false), (64, .bool false)]) (by kernel_rfl) ?_
    refine WQ.thenN ?_
    refine WE.ret ?_
    refine WQ.ret (v := .bool true) (by kernel_rfl) ?_
    exact ⟨rfl, HA⟩
theorem flat_cI (l : List Int) : (l.map cI).flatten = l.map (fun x => (.int .i64 x : Value)) := by
  induction l with
  | nil => rfl
  | cons x l ih => simp [cI, ih]
theorem picks_any (A0 A1 : Option Addr) (cap0 cap1 : Nat) (l0 : List Int) (L : List (List Int)) (w : World) (h0 : Kd.C (Kd.int .i64) w A0 l0.length l0) (h1 : Kd.C (Kd.slice 3 (Kd.int .i64)) w A1 L.length L) :
    Calls Try.prog 14 #[.slice A0 l0.length cap0, .slice A1 L.length cap1] w fun e w' => e = .returned (.bool true) ∧ Below w.heap.size w w' := by
  cases hR : rightQ l0 with
  | false => exact (law_bad A0 A1 cap0 cap1 l0 L w h0.2.1 (rd_of h0) hR).mono fun e w' ⟨h2, h3⟩ => ⟨h2, h3.below0⟩
  | true =>
    obtain ⟨hq, hnq⟩ := goodQ_of hR
    have hn1 := hq.n1
    have hrd := rd_of h0
    rcases Lists.C_ints h0 with rfl | ⟨ad, rfl, hc⟩
    · exact absurd hn1 (by simp)
    · have hsrc : Src w (.slice (some ad) l0.length cap0) l0.length (l0.map cI).flatten 1 := by
        refine ⟨_, _, rfl, by rw [flat_len _ (cI_len l0), List.length_map], fun _ => ⟨ad, rfl, fun j u hu => ?_⟩, flat_one (cI_one l0)⟩
        rw [flat_cI, List.getElem?_map] at hu
        by_cases hj : j < l0.length
        · rw [List.getElem?_eq_getElem hj] at hu
          obtain rfl := Option.some.inj hu
          have := hc j hj
          simpa [hj] using this
        · rw [List.getElem?_eq_none (by omega)] at hu
          cases hu
      by_cases hL : L.length ≤ 100
      · exact (law_main ad A1 cap0 cap1 l0 L w hrd hsrc hR hq hnq (rdL_of h1) hL).mono fun e w' ⟨h2, h3⟩ => ⟨h2, h3.below0⟩
      · exact (law_long ad A1 cap0 cap1 l0 L w hrd hsrc hR hq hnq (by omega) h1.2.1).mono fun e w' ⟨h2, h3⟩ => ⟨h2, h3.below0⟩
end Go.Proofs.Ytjkaldnhfenbhaa.Deficit
