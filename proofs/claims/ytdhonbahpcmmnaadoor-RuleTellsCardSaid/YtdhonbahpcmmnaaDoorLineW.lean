/- Layer 4's walks: words, events. -/
import Derived.Test.YtdhonbahpcmmnaaDoorLinePure
import Derived.Test.YtdhonbahpcmmnaaDoorProg
set_option linter.unusedVariables false
set_option linter.unusedSimpArgs false
namespace Go.Proofs.YtdhonbahpcmmnaaDoor.Line
open Go Go.RowKit Go.Proofs.YtdhonbahpcmmnaaDoor Go.Proofs.YtdhonbahpcmmnaaDoor.Eng Go.Proofs.YtdhonbahpcmmnaaDoorW.PrintWords
theorem byt : BT Tryd.prog 77 5 9 := ⟨by kernel_rfl, by kernel_rfl, by kernel_rfl⟩
theorem et_b : ET Tryd.prog 77 5 1 1 := by
 obtain ⟨i, h1, h2, h3, h4⟩ := info_parts (P := Tryd.prog) (e := 5) (z := .int .u8 0) (size := 1) (bytes := 1) (by kernel_rfl)
 exact ⟨by kernel_rfl, ⟨i, _, h1, h2, h3, h4, rfl⟩, by decide⟩
theorem hz_b : ∃ i, Tryd.prog.info? 5 = some i ∧ i.zero = some (.int .u8 0) := by
 obtain ⟨i, h1, h2, h3, h4⟩ := info_parts (P := Tryd.prog) (e := 5) (z := .int .u8 0) (size := 1) (bytes := 1) (by kernel_rfl)
 exact ⟨i, h1, h2⟩
def cT (t : L × L) : List Value := [.string (str t.1), .string (str t.2)]
theorem map_gT (q : List (L × L)) (k : Nat) (h : k < q.length) : (q.map cT).getD k [] = cT (gT q k) := by
 rw [List.getD_eq_getElem?_getD, List.getElem?_map, gT_some q k h]
 rfl
theorem cT_len (l : List (L × L)) : ∀ x ∈ l.map cT, x.length = 2 := by
 intro x hx
 obtain ⟨b, _, rfl⟩ := List.mem_map.1 hx
 rfl
theorem cT_one (l : List (L × L)) : ∀ x ∈ l.map cT, x.all oneB = true := by
 intro x hx
 obtain ⟨b, _, rfl⟩ := List.mem_map.1 hx
 rfl
theorem few_no {ev : Ev} {i : Nat} (h : i < ev.tags.length) (hb : 100 < (gT ev.tags i).1.length ∨ 100 < (gT ev.tags i).2.length) : fewE ev = false := by
 unfold fewE
 rw [all_no h (by simp; omega)]
 rfl
theorem few_all {ev : Ev} (h : ∀ j, j < ev.tags.length → (fun t : L × L => decide (t.1.length ≤ 100) && decide (t.2.length ≤ 100)) (gT ev.tags j) = true) : fewE ev = (decide (ev.name.length ≤ 100) && decide (ev.tags.length ≤ 20)) := by
 unfold fewE
 rw [all_gT.2 h]
 rfl
theorem may_no {ev : Ev} {i : Nat} (h : i < ev.tags.length) (hb : (isWord (gT ev.tags i).1 && isWord (gT ev.tags i).2) = false) : mayE ev = false := by
 unfold mayE
 rw [all_no h hb]
 rfl
theorem may_all {ev : Ev} (h : ∀ j, j < ev.tags.length → (fun t : L × L => isWord t.1 && isWord t.2) (gT ev.tags j) = true) : mayE ev = (isWord ev.name && decide (ev.tags.length ≤ 6) && decide (1 ≤ ev.kind) && decide (ev.kind ≤ 3) && decide (0 ≤ ev.time) && decide (ev.time ≤ 1099511627776)) := by
 unfold mayE
 rw [all_gT.2 h]
 rfl
set_option maxRecDepth 100000 in
set_option maxHeartbeats 400000 in
theorem within_l (c : UInt8) (w : World) :
  Calls Tryd.prog 54 #[.int .u8 (c.toNat : Int)] w fun e w' => e = .returned (.bool (inW c)) ∧ Fr [] w w' := by
 have HA := Fr.refl [] w
 refine enter (N := 25) Tryd.func54 (c := _) rfl (by kernel_rfl) (by kernel_rfl) (e := [(0, .int .u8 (c.toNat : Int))]) (by kernel_rfl) ?_
 refine WE.seq ?_
 refine WE.region ?_
 refine WO.run 1 0 [(2, .bool false)] (by kernel_rfl) (by kernel_rfl) ?_
 refine WO.done (by kernel_rfl) ?_
 refine WQ.keep [0, 2] (e' := [(0, .int .u8 (c.toNat : Int)), (2, .bool false)]) (by kernel_rfl) ?_
 refine WQ.thenN ?_
 refine WE.seq ?_
 refine WE.region ?_
 refine WO.run 1 0 [(3, .int .u8 (c.toNat : Int))] (by kernel_rfl) (by kernel_rfl) ?_
 refine WO.one (SQ.F 1 (by kernel_rfl)) 4 (.bool (decide (((c.toNat : Int) : Int) ≥ (97 : Int)))) (by kernel_rfl) ?_
 refine WO.topP (((c.toNat : Int) : Int) ≥ (97 : Int)) ?_ ?_
 ·
  intro h1
  refine WO.run 2 2 [(6, .int .u8 (c.toNat : Int)), (5, .bool true)] (by kernel_rfl) (by kernel_rfl) ?_
  refine WO.one (SQ.F 4 (by kernel_rfl)) 7 (.bool (decide (((c.toNat : Int) : Int) ≤ (122 : Int)))) (by kernel_rfl) ?_
  refine WO.topP (((c.toNat : Int) : Int) ≤ (122 : Int)) ?_ ?_
  ·
   intro h2
   refine WO.run 18 5 [(2, .bool true), (24, .bool true), (23, undef), (22, undef), (21, .bool true), (20, .bool true), (19, undef), (18, undef), (17, .bool true), (16, .bool true), (15, undef), (14, undef), (13, undef), (12, undef), (11, undef), (10, undef), (9, .bool true), (8, .bool true)] (by kernel_rfl) (by kernel_rfl) ?_
   refine WO.done (by kernel_rfl) ?_
   refine WQ.keep [0, 2] (e' := [(0, .int .u8 (c.toNat : Int)), (2, .bool true)]) (by kernel_rfl) ?_
   refine WQ.thenN ?_
   refine WE.ret ?_
   refine WQ.ret (v := .bool true) (by kernel_rfl) ?_
   exact ⟨by rw [inW_t (by omega)], HA⟩
  intro h2
  refine WO.run 3 5 [(10, .int .u8 (c.toNat : Int)), (9, .bool false), (8, .bool false)] (by kernel_rfl) (by kernel_rfl) ?_
  refine WO.one (SQ.F 8 (by kernel_rfl)) 11 (.bool (decide (((c.toNat : Int) : Int) ≥ (48 : Int)))) (by kernel_rfl) ?_
  refine WO.topP (((c.toNat : Int) : Int) ≥ (48 : Int)) ?_ ?_
  ·
   intro h3
   refine WO.run 2 9 [(13, .int .u8 (c.toNat : Int)), (12, .bool true)] (by kernel_rfl) (by kernel_rfl) ?_
   refine WO.one (SQ.F 11 (by kernel_rfl)) 14 (.bool (decide (((c.toNat : Int) : Int) ≤ (57 : Int)))) (by kernel_rfl) ?_
   refine WO.topP (((c.toNat : Int) : Int) ≤ (57 : Int)) ?_ ?_
   ·
    intro h4
    refine WO.run 11 12 [(2, .bool true), (24, .bool true), (23, undef), (22, undef), (21, .bool true), (20, .bool true), (19, undef), (18, undef), (17, .bool true), (16, .bool true), (15, .bool true)] (by kernel_rfl) (by kernel_rfl) ?_
    refine WO.done (by kernel_rfl) ?_
    refine WQ.keep [0, 2] (e' := [(0, .int .u8 (c.toNat : Int)), (2, .bool true)]) (by kernel_rfl) ?_
    refine WQ.thenN ?_
    refine WE.ret ?_
    refine WQ.ret (v := .bool true) (by kernel_rfl) ?_
    exact ⟨by rw [inW_t (by omega)], HA⟩
   intro h4
   refine WO.run 4 12 [(18, .int .u8 (c.toNat : Int)), (17, .bool false), (16, .bool false), (15, .bool false)] (by kernel_rfl) (by kernel_rfl) ?_
   refine WO.one (SQ.F 16 (by kernel_rfl)) 19 (.bool (decide (((c.toNat : Int) : Int) = (95 : Int)))) (by kernel_rfl) ?_
   refine WO.topP (((c.toNat : Int) : Int) = (95 : Int)) ?_ ?_
   ·
    intro h5
    refine WO.run 6 17 [(2, .bool true), (24, .bool true), (23, undef), (22, undef), (21, .bool true), (20, .bool true)] (by kernel_rfl) (by kernel_rfl) ?_
    refine WO.done (by kernel_rfl) ?_
    refine WQ.keep [0, 2] (e' := [(0, .int .u8 (c.toNat : Int)), (2, .bool true)]) (by kernel_rfl) ?_
    refine WQ.thenN ?_
    refine WE.ret ?_
    refine WQ.ret (v := .bool true) (by kernel_rfl) ?_
    exact ⟨by rw [inW_t (by omega)], HA⟩
   intro h5
   refine WO.run 6 17 [(2, .bool (decide (((c.toNat : Int) : Int) = (46 : Int)))), (24, .bool (decide (((c.toNat : Int) : Int) = (46 : Int)))), (23, .bool (decide (((c.toNat : Int) : Int) = (46 : Int)))), (22, .int .u8 (c.toNat : Int)), (21, .bool false), (20, .bool false)] (by kernel_rfl) (by kernel_rfl) ?_
   refine WO.done (by kernel_rfl) ?_
   refine WQ.keep [0, 2] (e' := [(0, .int .u8 (c.toNat : Int)), (2, .bool (decide (((c.toNat : Int) : Int) = (46 : Int))))]) (by kernel_rfl) ?_
   refine WQ.thenN ?_
   refine WE.ret ?_
   refine WQ.ret (v := .bool (decide (((c.toNat : Int) : Int) = (46 : Int)))) (by kernel_rfl) ?_
   exact ⟨by rw [inW_46 (by omega)], HA⟩
  intro h3
  refine WO.run 7 9 [(18, .int .u8 (c.toNat : Int)), (17, .bool false), (16, .bool false), (15, .bool false), (14, undef), (13, undef), (12, .bool false)] (by kernel_rfl) (by kernel_rfl) ?_
  refine WO.one (SQ.F 16 (by kernel_rfl)) 19 (.bool (decide (((c.toNat : Int) : Int) = (95 : Int)))) (by kernel_rfl) ?_
  refine WO.topP (((c.toNat : Int) : Int) = (95 : Int)) ?_ ?_
  ·
   intro h6
   refine WO.run 6 17 [(2, .bool true), (24, .bool true), (23, undef), (22, undef), (21, .bool true), (20, .bool true)] (by kernel_rfl) (by kernel_rfl) ?_
   refine WO.done (by kernel_rfl) ?_
   refine WQ.keep [0, 2] (e' := [(0, .int .u8 (c.toNat : Int)), (2, .bool true)]) (by kernel_rfl) ?_
   refine WQ.thenN ?_
   refine WE.ret ?_
   refine WQ.ret (v := .bool true) (by kernel_rfl) ?_
   exact ⟨by rw [inW_t (by omega)], HA⟩
  intro h6
  refine WO.run 6 17 [(2, .bool (decide (((c.toNat : Int) : Int) = (46 : Int)))), (24, .bool (decide (((c.toNat : Int) : Int) = (46 : Int)))), (23, .bool (decide (((c.toNat : Int) : Int) = (46 : Int)))), (22, .int .u8 (c.toNat : Int)), (21, .bool false), (20, .bool false)] (by kernel_rfl) (by kernel_rfl) ?_
  refine WO.done (by kernel_rfl) ?_
  refine WQ.keep [0, 2] (e' := [(0, .int .u8 (c.toNat : Int)), (2, .bool (decide (((c.toNat : Int) : Int) = (46 : Int))))]) (by kernel_rfl) ?_
  refine WQ.thenN ?_
  refine WE.ret ?_
  refine WQ.ret (v := .bool (decide (((c.toNat : Int) : Int) = (46 : Int)))) (by kernel_rfl) ?_
  exact ⟨by rw [inW_46 (by omega)], HA⟩
 intro h1
 refine WO.run 6 2 [(10, .int .u8 (c.toNat : Int)), (9, .bool false), (8, .bool false), (7, undef), (6, undef), (5, .bool false)] (by kernel_rfl) (by kernel_rfl) ?_
 refine WO.one (SQ.F 8 (by kernel_rfl)) 11 (.bool (decide (((c.toNat : Int) : Int) ≥ (48 : Int)))) (by kernel_rfl) ?_
 refine WO.topP (((c.toNat : Int) : Int) ≥ (48 : Int)) ?_ ?_
 ·
  intro h7
  refine WO.run 2 9 [(13, .int .u8 (c.toNat : Int)), (12, .bool true)] (by kernel_rfl) (by kernel_rfl) ?_
  refine WO.one (SQ.F 11 (by kernel_rfl)) 14 (.bool (decide (((c.toNat : Int) : Int) ≤ (57 : Int)))) (by kernel_rfl) ?_
  refine WO.topP (((c.toNat : Int) : Int) ≤ (57 : Int)) ?_ ?_
  ·
   intro h8
   refine WO.run 11 12 [(2, .bool true), (24, .bool true), (23, undef), (22, undef), (21, .bool true), (20, .bool true), (19, undef), (18, undef), (17, .bool true), (16, .bool true), (15, .bool true)] (by kernel_rfl) (by kernel_rfl) ?_
   refine WO.done (by kernel_rfl) ?_
   refine WQ.keep [0, 2] (e' := [(0, .int .u8 (c.toNat : Int)), (2, .bool true)]) (by kernel_rfl) ?_
   refine WQ.thenN ?_
   refine WE.ret ?_
   refine WQ.ret (v := .bool true) (by kernel_rfl) ?_
   exact ⟨by rw [inW_t (by omega)], HA⟩
  intro h8
  refine WO.run 4 12 [(18, .int .u8 (c.toNat : Int)), (17, .bool false), (16, .bool false), (15, .bool false)] (by kernel_rfl) (by kernel_rfl) ?_
  refine WO.one (SQ.F 16 (by kernel_rfl)) 19 (.bool (decide (((c.toNat : Int) : Int) = (95 : Int)))) (by kernel_rfl) ?_
  refine WO.topP (((c.toNat : Int) : Int) = (95 : Int)) ?_ ?_
  ·
   intro h9
   refine WO.run 6 17 [(2, .bool true), (24, .bool true), (23, undef), (22, undef), (21, .bool true), (20, .bool true)] (by kernel_rfl) (by kernel_rfl) ?_
   refine WO.done (by kernel_rfl) ?_
   refine WQ.keep [0, 2] (e' := [(0, .int .u8 (c.toNat : Int)), (2, .bool true)]) (by kernel_rfl) ?_
   refine WQ.thenN ?_
   refine WE.ret ?_
   refine WQ.ret (v := .bool true) (by kernel_rfl) ?_
   exact ⟨by rw [inW_t (by omega)], HA⟩
  intro h9
  refine WO.run 6 17 [(2, .bool (decide (((c.toNat : Int) : Int) = (46 : Int)))), (24, .bool (decide (((c.toNat : Int) : Int) = (46 : Int)))), (23, .bool (decide (((c.toNat : Int) : Int) = (46 : Int)))), (22, .int .u8 (c.toNat : Int)), (21, .bool false), (20, .bool false)] (by kernel_rfl) (by kernel_rfl) ?_
  refine WO.done (by kernel_rfl) ?_
  refine WQ.keep [0, 2] (e' := [(0, .int .u8 (c.toNat : Int)), (2, .bool (decide (((c.toNat : Int) : Int) = (46 : Int))))]) (by kernel_rfl) ?_
  refine WQ.thenN ?_
  refine WE.ret ?_
  refine WQ.ret (v := .bool (decide (((c.toNat : Int) : Int) = (46 : Int)))) (by kernel_rfl) ?_
  exact ⟨by rw [inW_46 (by omega)], HA⟩
 intro h7
 refine WO.run 7 9 [(18, .int .u8 (c.toNat : Int)), (17, .bool false), (16, .bool false), (15, .bool false), (14, undef), (13, undef), (12, .bool false)] (by kernel_rfl) (by kernel_rfl) ?_
 refine WO.one (SQ.F 16 (by kernel_rfl)) 19 (.bool (decide (((c.toNat : Int) : Int) = (95 : Int)))) (by kernel_rfl) ?_
 refine WO.topP (((c.toNat : Int) : Int) = (95 : Int)) ?_ ?_
 ·
  intro h10
  refine WO.run 6 17 [(2, .bool true), (24, .bool true), (23, undef), (22, undef), (21, .bool true), (20, .bool true)] (by kernel_rfl) (by kernel_rfl) ?_
  refine WO.done (by kernel_rfl) ?_
  refine WQ.keep [0, 2] (e' := [(0, .int .u8 (c.toNat : Int)), (2, .bool true)]) (by kernel_rfl) ?_
  refine WQ.thenN ?_
  refine WE.ret ?_
  refine WQ.ret (v := .bool true) (by kernel_rfl) ?_
  exact ⟨by rw [inW_t (by omega)], HA⟩
 intro h10
 refine WO.run 6 17 [(2, .bool (decide (((c.toNat : Int) : Int) = (46 : Int)))), (24, .bool (decide (((c.toNat : Int) : Int) = (46 : Int)))), (23, .bool (decide (((c.toNat : Int) : Int) = (46 : Int)))), (22, .int .u8 (c.toNat : Int)), (21, .bool false), (20, .bool false)] (by kernel_rfl) (by kernel_rfl) ?_
 refine WO.done (by kernel_rfl) ?_
 refine WQ.keep [0, 2] (e' := [(0, .int .u8 (c.toNat : Int)), (2, .bool (decide (((c.toNat : Int) : Int) = (46 : Int))))]) (by kernel_rfl) ?_
 refine WQ.thenN ?_
 refine WE.ret ?_
 refine WQ.ret (v := .bool (decide (((c.toNat : Int) : Int) = (46 : Int)))) (by kernel_rfl) ?_
 exact ⟨by rw [inW_46 (by omega)], HA⟩
set_option maxRecDepth 100000 in
set_option maxHeartbeats 400000 in
theorem within_r (c : UInt8) (w : World) :
  Calls Tryd.prog 58 #[.int .u8 (c.toNat : Int)] w fun e w' => e = .returned (.bool (inW c)) ∧ Fr [] w w' := by
 have HA := Fr.refl [] w
 refine enter (N := 25) Tryd.func58 (c := _) rfl (by kernel_rfl) (by kernel_rfl) (e := [(0, .int .u8 (c.toNat : Int))]) (by kernel_rfl) ?_
 refine WE.seq ?_
 refine WE.region ?_
 refine WO.run 1 0 [(2, .bool false)] (by kernel_rfl) (by kernel_rfl) ?_
 refine WO.done (by kernel_rfl) ?_
 refine WQ.keep [0, 2] (e' := [(0, .int .u8 (c.toNat : Int)), (2, .bool false)]) (by kernel_rfl) ?_
 refine WQ.thenN ?_
 refine WE.seq ?_
 refine WE.region ?_
 refine WO.run 1 0 [(3, .int .u8 (c.toNat : Int))] (by kernel_rfl) (by kernel_rfl) ?_
 refine WO.one (SQ.F 1 (by kernel_rfl)) 4 (.bool (decide (((c.toNat : Int) : Int) ≥ (97 : Int)))) (by kernel_rfl) ?_
 refine WO.topP (((c.toNat : Int) : Int) ≥ (97 : Int)) ?_ ?_
 ·
  intro h1
  refine WO.run 2 2 [(6, .int .u8 (c.toNat : Int)), (5, .bool true)] (by kernel_rfl) (by kernel_rfl) ?_
  refine WO.one (SQ.F 4 (by kernel_rfl)) 7 (.bool (decide (((c.toNat : Int) : Int) ≤ (122 : Int)))) (by kernel_rfl) ?_
  refine WO.topP (((c.toNat : Int) : Int) ≤ (122 : Int)) ?_ ?_
  ·
   intro h2
   refine WO.run 18 5 [(2, .bool true), (24, .bool true), (23, undef), (22, undef), (21, .bool true), (20, .bool true), (19, undef), (18, undef), (17, .bool true), (16, .bool true), (15, undef), (14, undef), (13, undef), (12, undef), (11, undef), (10, undef), (9, .bool true), (8, .bool true)] (by kernel_rfl) (by kernel_rfl) ?_
   refine WO.done (by kernel_rfl) ?_
   refine WQ.keep [0, 2] (e' := [(0, .int .u8 (c.toNat : Int)), (2, .bool true)]) (by kernel_rfl) ?_
   refine WQ.thenN ?_
   refine WE.ret ?_
   refine WQ.ret (v := .bool true) (by kernel_rfl) ?_
   exact ⟨by rw [inW_t (by omega)], HA⟩
  intro h2
  refine WO.run 3 5 [(10, .int .u8 (c.toNat : Int)), (9, .bool false), (8, .bool false)] (by kernel_rfl) (by kernel_rfl) ?_
  refine WO.one (SQ.F 8 (by kernel_rfl)) 11 (.bool (decide (((c.toNat : Int) : Int) ≥ (48 : Int)))) (by kernel_rfl) ?_
  refine WO.topP (((c.toNat : Int) : Int) ≥ (48 : Int)) ?_ ?_
  ·
   intro h3
   refine WO.run 2 9 [(13, .int .u8 (c.toNat : Int)), (12, .bool true)] (by kernel_rfl) (by kernel_rfl) ?_
   refine WO.one (SQ.F 11 (by kernel_rfl)) 14 (.bool (decide (((c.toNat : Int) : Int) ≤ (57 : Int)))) (by kernel_rfl) ?_
   refine WO.topP (((c.toNat : Int) : Int) ≤ (57 : Int)) ?_ ?_
   ·
    intro h4
    refine WO.run 11 12 [(2, .bool true), (24, .bool true), (23, undef), (22, undef), (21, .bool true), (20, .bool true), (19, undef), (18, undef), (17, .bool true), (16, .bool true), (15, .bool true)] (by kernel_rfl) (by kernel_rfl) ?_
    refine WO.done (by kernel_rfl) ?_
    refine WQ.keep [0, 2] (e' := [(0, .int .u8 (c.toNat : Int)), (2, .bool true)]) (by kernel_rfl) ?_
    refine WQ.thenN ?_
    refine WE.ret ?_
    refine WQ.ret (v := .bool true) (by kernel_rfl) ?_
    exact ⟨by rw [inW_t (by omega)], HA⟩
   intro h4
   refine WO.run 4 12 [(18, .int .u8 (c.toNat : Int)), (17, .bool false), (16, .bool false), (15, .bool false)] (by kernel_rfl) (by kernel_rfl) ?_
   refine WO.one (SQ.F 16 (by kernel_rfl)) 19 (.bool (decide (((c.toNat : Int) : Int) = (95 : Int)))) (by kernel_rfl) ?_
   refine WO.topP (((c.toNat : Int) : Int) = (95 : Int)) ?_ ?_
   ·
    intro h5
    refine WO.run 6 17 [(2, .bool true), (24, .bool true), (23, undef), (22, undef), (21, .bool true), (20, .bool true)] (by kernel_rfl) (by kernel_rfl) ?_
    refine WO.done (by kernel_rfl) ?_
    refine WQ.keep [0, 2] (e' := [(0, .int .u8 (c.toNat : Int)), (2, .bool true)]) (by kernel_rfl) ?_
    refine WQ.thenN ?_
    refine WE.ret ?_
    refine WQ.ret (v := .bool true) (by kernel_rfl) ?_
    exact ⟨by rw [inW_t (by omega)], HA⟩
   intro h5
   refine WO.run 6 17 [(2, .bool (decide (((c.toNat : Int) : Int) = (46 : Int)))), (24, .bool (decide (((c.toNat : Int) : Int) = (46 : Int)))), (23, .bool (decide (((c.toNat : Int) : Int) = (46 : Int)))), (22, .int .u8 (c.toNat : Int)), (21, .bool false), (20, .bool false)] (by kernel_rfl) (by kernel_rfl) ?_
   refine WO.done (by kernel_rfl) ?_
   refine WQ.keep [0, 2] (e' := [(0, .int .u8 (c.toNat : Int)), (2, .bool (decide (((c.toNat : Int) : Int) = (46 : Int))))]) (by kernel_rfl) ?_
   refine WQ.thenN ?_
   refine WE.ret ?_
   refine WQ.ret (v := .bool (decide (((c.toNat : Int) : Int) = (46 : Int)))) (by kernel_rfl) ?_
   exact ⟨by rw [inW_46 (by omega)], HA⟩
  intro h3
  refine WO.run 7 9 [(18, .int .u8 (c.toNat : Int)), (17, .bool false), (16, .bool false), (15, .bool false), (14, undef), (13, undef), (12, .bool false)] (by kernel_rfl) (by kernel_rfl) ?_
  refine WO.one (SQ.F 16 (by kernel_rfl)) 19 (.bool (decide (((c.toNat : Int) : Int) = (95 : Int)))) (by kernel_rfl) ?_
  refine WO.topP (((c.toNat : Int) : Int) = (95 : Int)) ?_ ?_
  ·
   intro h6
   refine WO.run 6 17 [(2, .bool true), (24, .bool true), (23, undef), (22, undef), (21, .bool true), (20, .bool true)] (by kernel_rfl) (by kernel_rfl) ?_
   refine WO.done (by kernel_rfl) ?_
   refine WQ.keep [0, 2] (e' := [(0, .int .u8 (c.toNat : Int)), (2, .bool true)]) (by kernel_rfl) ?_
   refine WQ.thenN ?_
   refine WE.ret ?_
   refine WQ.ret (v := .bool true) (by kernel_rfl) ?_
   exact ⟨by rw [inW_t (by omega)], HA⟩
  intro h6
  refine WO.run 6 17 [(2, .bool (decide (((c.toNat : Int) : Int) = (46 : Int)))), (24, .bool (decide (((c.toNat : Int) : Int) = (46 : Int)))), (23, .bool (decide (((c.toNat : Int) : Int) = (46 : Int)))), (22, .int .u8 (c.toNat : Int)), (21, .bool false), (20, .bool false)] (by kernel_rfl) (by kernel_rfl) ?_
  refine WO.done (by kernel_rfl) ?_
  refine WQ.keep [0, 2] (e' := [(0, .int .u8 (c.toNat : Int)), (2, .bool (decide (((c.toNat : Int) : Int) = (46 : Int))))]) (by kernel_rfl) ?_
  refine WQ.thenN ?_
  refine WE.ret ?_
  refine WQ.ret (v := .bool (decide (((c.toNat : Int) : Int) = (46 : Int)))) (by kernel_rfl) ?_
  exact ⟨by rw [inW_46 (by omega)], HA⟩
 intro h1
 refine WO.run 6 2 [(10, .int .u8 (c.toNat : Int)), (9, .bool false), (8, .bool false), (7, undef), (6, undef), (5, .bool false)] (by kernel_rfl) (by kernel_rfl) ?_
 refine WO.one (SQ.F 8 (by kernel_rfl)) 11 (.bool (decide (((c.toNat : Int) : Int) ≥ (48 : Int)))) (by kernel_rfl) ?_
 refine WO.topP (((c.toNat : Int) : Int) ≥ (48 : Int)) ?_ ?_
 ·
  intro h7
  refine WO.run 2 9 [(13, .int .u8 (c.toNat : Int)), (12, .bool true)] (by kernel_rfl) (by kernel_rfl) ?_
  refine WO.one (SQ.F 11 (by kernel_rfl)) 14 (.bool (decide (((c.toNat : Int) : Int) ≤ (57 : Int)))) (by kernel_rfl) ?_
  refine WO.topP (((c.toNat : Int) : Int) ≤ (57 : Int)) ?_ ?_
  ·
   intro h8
   refine WO.run 11 12 [(2, .bool true), (24, .bool true), (23, undef), (22, undef), (21, .bool true), (20, .bool true), (19, undef), (18, undef), (17, .bool true), (16, .bool true), (15, .bool true)] (by kernel_rfl) (by kernel_rfl) ?_
   refine WO.done (by kernel_rfl) ?_
   refine WQ.keep [0, 2] (e' := [(0, .int .u8 (c.toNat : Int)), (2, .bool true)]) (by kernel_rfl) ?_
   refine WQ.thenN ?_
   refine WE.ret ?_
   refine WQ.ret (v := .bool true) (by kernel_rfl) ?_
   exact ⟨by rw [inW_t (by omega)], HA⟩
  intro h8
  refine WO.run 4 12 [(18, .int .u8 (c.toNat : Int)), (17, .bool false), (16, .bool false), (15, .bool false)] (by kernel_rfl) (by kernel_rfl) ?_
  refine WO.one (SQ.F 16 (by kernel_rfl)) 19 (.bool (decide (((c.toNat : Int) : Int) = (95 : Int)))) (by kernel_rfl) ?_
  refine WO.topP (((c.toNat : Int) : Int) = (95 : Int)) ?_ ?_
  ·
   intro h9
   refine WO.run 6 17 [(2, .bool true), (24, .bool true), (23, undef), (22, undef), (21, .bool true), (20, .bool true)] (by kernel_rfl) (by kernel_rfl) ?_
   refine WO.done (by kernel_rfl) ?_
   refine WQ.keep [0, 2] (e' := [(0, .int .u8 (c.toNat : Int)), (2, .bool true)]) (by kernel_rfl) ?_
   refine WQ.thenN ?_
   refine WE.ret ?_
   refine WQ.ret (v := .bool true) (by kernel_rfl) ?_
   exact ⟨by rw [inW_t (by omega)], HA⟩
  intro h9
  refine WO.run 6 17 [(2, .bool (decide (((c.toNat : Int) : Int) = (46 : Int)))), (24, .bool (decide (((c.toNat : Int) : Int) = (46 : Int)))), (23, .bool (decide (((c.toNat : Int) : Int) = (46 : Int)))), (22, .int .u8 (c.toNat : Int)), (21, .bool false), (20, .bool false)] (by kernel_rfl) (by kernel_rfl) ?_
  refine WO.done (by kernel_rfl) ?_
  refine WQ.keep [0, 2] (e' := [(0, .int .u8 (c.toNat : Int)), (2, .bool (decide (((c.toNat : Int) : Int) = (46 : Int))))]) (by kernel_rfl) ?_
  refine WQ.thenN ?_
  refine WE.ret ?_
  refine WQ.ret (v := .bool (decide (((c.toNat : Int) : Int) = (46 : Int)))) (by kernel_rfl) ?_
  exact ⟨by rw [inW_46 (by omega)], HA⟩
 intro h7
 refine WO.run 7 9 [(18, .int .u8 (c.toNat : Int)), (17, .bool false), (16, .bool false), (15, .bool false), (14, undef), (13, undef), (12, .bool false)] (by kernel_rfl) (by kernel_rfl) ?_
 refine WO.one (SQ.F 16 (by kernel_rfl)) 19 (.bool (decide (((c.toNat : Int) : Int) = (95 : Int)))) (by kernel_rfl) ?_
 refine WO.topP (((c.toNat : Int) : Int) = (95 : Int)) ?_ ?_
 ·
  intro h10
  refine WO.run 6 17 [(2, .bool true), (24, .bool true), (23, undef), (22, undef), (21, .bool true), (20, .bool true)] (by kernel_rfl) (by kernel_rfl) ?_
  refine WO.done (by kernel_rfl) ?_
  refine WQ.keep [0, 2] (e' := [(0, .int .u8 (c.toNat : Int)), (2, .bool true)]) (by kernel_rfl) ?_
  refine WQ.thenN ?_
  refine WE.ret ?_
  refine WQ.ret (v := .bool true) (by kernel_rfl) ?_
  exact ⟨by rw [inW_t (by omega)], HA⟩
 intro h10
 refine WO.run 6 17 [(2, .bool (decide (((c.toNat : Int) : Int) = (46 : Int)))), (24, .bool (decide (((c.toNat : Int) : Int) = (46 : Int)))), (23, .bool (decide (((c.toNat : Int) : Int) = (46 : Int)))), (22, .int .u8 (c.toNat : Int)), (21, .bool false), (20, .bool false)] (by kernel_rfl) (by kernel_rfl) ?_
 refine WO.done (by kernel_rfl) ?_
 refine WQ.keep [0, 2] (e' := [(0, .int .u8 (c.toNat : Int)), (2, .bool (decide (((c.toNat : Int) : Int) = (46 : Int))))]) (by kernel_rfl) ?_
 refine WQ.thenN ?_
 refine WE.ret ?_
 refine WQ.ret (v := .bool (decide (((c.toNat : Int) : Int) = (46 : Int)))) (by kernel_rfl) ?_
 exact ⟨by rw [inW_46 (by omega)], HA⟩
set_option maxRecDepth 100000 in
set_option maxHeartbeats 400000 in
theorem word_l (s : L) (w : World) (hs : s.length ≤ 9223372036854775807) :
  Calls Tryd.prog 48 #[.string (str s)] w fun e w' => e = .returned (.bool (isWord s)) ∧ Fr [] w w' := by
 have HA := Fr.refl [] w
 refine enter (N := 23) Tryd.func48 (c := _) rfl (by kernel_rfl) (by kernel_rfl) (e := [(0, .string (str s))]) (by kernel_rfl) ?_
 refine WE.seq ?_
 refine WE.region ?_
 refine WO.run 1 0 [(2, .bool false)] (by kernel_rfl) (by kernel_rfl) ?_
 refine WO.done (by kernel_rfl) ?_
 refine WQ.keep [0, 2] (e' := [(0, .string (str s)), (2, .bool false)]) (by kernel_rfl) ?_
 refine WQ.thenN ?_
 refine WE.seq ?_
 refine WE.seq ?_
 refine WE.region ?_
 refine WO.run 3 0 [(6, .int .i64 0), (5, .int .i64 (s.length : Int)), (4, .string (str s))] (by kernel_rfl) (by kernel_rfl) ?_
 refine WO.done (by kernel_rfl) ?_
 refine WQ.keep [0, 2, 5, 6] (e' := [(0, .string (str s)), (2, .bool false), (5, .int .i64 (s.length : Int)), (6, .int .i64 0)]) (by kernel_rfl) ?_
 refine WQ.thenN ?_
 refine WE.block ?_
 refine WE.loop (α := Nat) (E := fun i => [(0, .string (str s)), (2, .bool false), (5, .int .i64 (s.length : Int)), (6, .int .i64 (i : Int))]) (I := fun i wr => i ≤ s.length ∧ (∀ j, j < i → inW (gb s j) = true) ∧ Fr [] w wr) (m := fun i => s.length - i) 0 [0, 2, 5, 6] (by kernel_rfl) ?_ ?_
 ·
  exact ⟨Nat.zero_le _, fun j hj => absurd hj (Nat.not_lt_zero j), HA⟩
 rintro i wr ⟨hi, hbe, HA⟩
 refine WE.seq ?_
 refine WE.region ?_
 refine WO.one (SQ.F 0 (by kernel_rfl)) 7 (.bool (decide (((i : Int) : Int) < (s.length : Int)))) (by kernel_rfl) ?_
 refine WO.topP (((i : Int) : Int) < (s.length : Int)) ?_ ?_
 ·
  intro h1
  refine WO.done (by kernel_rfl) ?_
  refine WQ.keep [0, 2, 5, 6, 7] (e' := [(0, .string (str s)), (2, .bool false), (5, .int .i64 (s.length : Int)), (6, .int .i64 (i : Int)), (7, .bool true)]) (by kernel_rfl) ?_
  refine WQ.thenN ?_
  refine WE.seq ?_
  refine WE.condT (by kernel_rfl) ?_
  refine WE.skip ?_
  refine WQ.thenN ?_
  refine WE.seq ?_
  refine WE.block ?_
  refine WE.seq ?_
  refine WE.region ?_
  refine WO.run 2 0 [(3, .int .i64 (i : Int)), (8, .int .i64 (i : Int))] (by kernel_rfl) (by kernel_rfl) ?_
  refine WO.done (by kernel_rfl) ?_
  refine WQ.keep [0, 2, 3, 5, 6, 7] (e' := [(0, .string (str s)), (2, .bool false), (3, .int .i64 (i : Int)), (5, .int .i64 (s.length : Int)), (6, .int .i64 (i : Int)), (7, .bool true)]) (by kernel_rfl) ?_
  refine WQ.thenN ?_
  refine WE.seq ?_
  refine WE.region ?_
  refine WO.run 2 0 [(10, .int .i64 (i : Int)), (9, .string (str s))] (by kernel_rfl) (by kernel_rfl) ?_
  refine WO.ixS (i := (i : Int)) (SQ.F 2 (by kernel_rfl)) 11 i s (by kernel_rfl) (by rfl) (by omega) ?_
  refine WO.call (SQ.E 3 (by kernel_rfl)) 12 (by kernel_rfl) (within_l (gB s i) _) ?_
  rintro _ w2 ⟨rfl, F3⟩
  refine ⟨_, rfl, trivial, ?_⟩
  have HA := Fr.step0 HA F3
  rcases Bool.eq_false_or_eq_true (inW (gB s i)) with h4 | h4
  ·
   rw [h4]
   refine WO.run 1 4 [(13, .bool false)] (by kernel_rfl) (by kernel_rfl) ?_
   refine WO.done (by kernel_rfl) ?_
   refine WQ.keep [0, 2, 3, 5, 6, 7, 13] (e' := [(0, .string (str s)), (2, .bool false), (3, .int .i64 (i : Int)), (5, .int .i64 (s.length : Int)), (6, .int .i64 (i : Int)), (7, .bool true), (13, .bool false)]) (by kernel_rfl) ?_
   refine WQ.thenN ?_
   refine WE.condF (by kernel_rfl) ?_
   refine WE.skip ?_
   refine WQ.blkN ?_
   refine WQ.thenN ?_
   refine WE.region ?_
   refine WO.one (SQ.F 0 (by kernel_rfl)) 14 (.int .i64 (IntKind.i64.wrap ((i : Int) + 1))) (by kernel_rfl) ?_
   refine WO.top (v' := .int .i64 ((i + 1 : Nat) : Int)) (wrap_i64 (by omega) (by omega)) ?_
   refine WO.run 1 1 [(6, .int .i64 ((i + 1 : Nat) : Int))] (by kernel_rfl) (by kernel_rfl) ?_
   refine WO.done (by kernel_rfl) ?_
   refine WQ.keep [0, 2, 3, 5, 6, 7, 13] (e' := [(0, .string (str s)), (2, .bool false), (3, .int .i64 (i : Int)), (5, .int .i64 (s.length : Int)), (6, .int .i64 ((i + 1 : Nat) : Int)), (7, .bool true), (13, .bool false)]) (by kernel_rfl) ?_
   refine WQ.round ?_
   intro a_ ha_
   refine ⟨i + 1, ?_, ha_.keep [0, 2, 5, 6] (by kernel_rfl), ?_⟩
   ·
    omega
   ·
    exact ⟨by omega, fun j hj => (Nat.lt_succ_iff_lt_or_eq.1 hj).elim (hbe j) (fun h_ => by rw [h_]; assumption), HA⟩
  ·
   rw [h4]
   refine WO.run 1 4 [(13, .bool true)] (by kernel_rfl) (by kernel_rfl) ?_
   refine WO.done (by kernel_rfl) ?_
   refine WQ.keep [0, 2, 3, 5, 6, 7, 13] (e' := [(0, .string (str s)), (2, .bool false), (3, .int .i64 (i : Int)), (5, .int .i64 (s.length : Int)), (6, .int .i64 (i : Int)), (7, .bool true), (13, .bool true)]) (by kernel_rfl) ?_
   refine WQ.thenN ?_
   refine WE.condT (by kernel_rfl) ?_
   refine WE.seq ?_
   refine WE.region ?_
   refine WO.run 1 0 [(2, .bool false)] (by kernel_rfl) (by kernel_rfl) ?_
   refine WO.done (by kernel_rfl) ?_
   refine WQ.keep [0, 2, 3, 5, 6, 7, 13] (e' := [(0, .string (str s)), (2, .bool false), (3, .int .i64 (i : Int)), (5, .int .i64 (s.length : Int)), (6, .int .i64 (i : Int)), (7, .bool true), (13, .bool true)]) (by kernel_rfl) ?_
   refine WQ.thenN ?_
   refine WE.ret ?_
   refine WQ.blkR ?_
   refine WQ.thenR ?_
   refine WQ.thenR ?_
   refine WQ.blkR ?_
   refine WQ.thenR ?_
   refine WQ.ret (v := .bool false) (by kernel_rfl) ?_
   first | exact ⟨congrArg (fun b => Ending.returned (Value.bool b)) (by rw [word_bad (i := i) (by omega) (by assumption)]), HA⟩ | exact ⟨congrArg (fun b => Ending.returned (Value.bool b)) (by rw [word_all (fun j hj => hbe j (by omega))]; rw [Bool.eq_iff_iff]; simp only [Bool.and_eq_true, decide_eq_true_eq, Bool.false_eq_true, true_iff, false_iff, true_and, and_true]; omega), HA⟩
 intro h1
 refine WO.done (by kernel_rfl) ?_
 refine WQ.keep [0, 2, 5, 6, 7] (e' := [(0, .string (str s)), (2, .bool false), (5, .int .i64 (s.length : Int)), (6, .int .i64 (i : Int)), (7, .bool false)]) (by kernel_rfl) ?_
 refine WQ.thenN ?_
 refine WE.seq ?_
 refine WE.condF (by kernel_rfl) ?_
 refine WE.exit ?_
 refine WQ.thenE ?_
 refine WQ.thenE ?_
 refine WQ.blkE ?_
 refine WQ.thenN ?_
 refine WE.seq ?_
 refine WE.region ?_
 refine WO.run 2 0 [(16, .int .i64 (s.length : Int)), (15, .string (str s))] (by kernel_rfl) (by kernel_rfl) ?_
 refine WO.one (SQ.F 2 (by kernel_rfl)) 17 (.bool (decide (((s.length : Int) : Int) ≥ (1 : Int)))) (by kernel_rfl) ?_
 refine WO.topP (((s.length : Int) : Int) ≥ (1 : Int)) ?_ ?_
 ·
  intro h5
  refine WO.run 6 3 [(2, .bool (decide (((s.length : Int) : Int) ≤ (16 : Int)))), (22, .bool (decide (((s.length : Int) : Int) ≤ (16 : Int)))), (21, .bool (decide (((s.length : Int) : Int) ≤ (16 : Int)))), (20, .int .i64 (s.length : Int)), (19, .string (str s)), (18, .bool true)] (by kernel_rfl) (by kernel_rfl) ?_
  refine WO.done (by kernel_rfl) ?_
  refine WQ.keep [0, 2, 5, 6, 7] (e' := [(0, .string (str s)), (2, .bool (decide (((s.length : Int) : Int) ≤ (16 : Int)))), (5, .int .i64 (s.length : Int)), (6, .int .i64 (i : Int)), (7, .bool false)]) (by kernel_rfl) ?_
  refine WQ.thenN ?_
  refine WE.ret ?_
  refine WQ.ret (v := .bool (decide (((s.length : Int) : Int) ≤ (16 : Int)))) (by kernel_rfl) ?_
  exact ⟨congrArg (fun b => Ending.returned (Value.bool b)) (by rw [word_all (fun j hj => hbe j (by omega))]; rw [Bool.eq_iff_iff]; simp only [Bool.and_eq_true, decide_eq_true_eq, Bool.false_eq_true, true_iff, false_iff, true_and, and_true]; omega), HA⟩
 intro h5
 refine WO.run 6 3 [(2, .bool false), (22, .bool false), (21, undef), (20, undef), (19, undef), (18, .bool false)] (by kernel_rfl) (by kernel_rfl) ?_
 refine WO.done (by kernel_rfl) ?_
 refine WQ.keep [0, 2, 5, 6, 7] (e' := [(0, .string (str s)), (2, .bool false), (5, .int .i64 (s.length : Int)), (6, .int .i64 (i : Int)), (7, .bool false)]) (by kernel_rfl) ?_
 refine WQ.thenN ?_
 refine WE.ret ?_
 refine WQ.ret (v := .bool false) (by kernel_rfl) ?_
 first | exact ⟨congrArg (fun b => Ending.returned (Value.bool b)) (by rw [word_bad (i := i) (by omega) (by assumption)]), HA⟩ | exact ⟨congrArg (fun b => Ending.returned (Value.bool b)) (by rw [word_all (fun j hj => hbe j (by omega))]; rw [Bool.eq_iff_iff]; simp only [Bool.and_eq_true, decide_eq_true_eq, Bool.false_eq_true, true_iff, false_iff, true_and, and_true]; omega), HA⟩
set_option maxRecDepth 100000 in
set_option maxHeartbeats 400000 in
theorem word_r (s : L) (w : World) (hs : s.length ≤ 9223372036854775807) :
  Calls Tryd.prog 41 #[.string (str s)] w fun e w' => e = .returned (.bool (isWord s)) ∧ Fr [] w w' := by
 have HA := Fr.refl [] w
 refine enter (N := 25) Tryd.func41 (c := _) rfl (by kernel_rfl) (by kernel_rfl) (e := [(0, .string (str s))]) (by kernel_rfl) ?_
 refine WE.seq ?_
 refine WE.region ?_
 refine WO.run 1 0 [(2, .bool false)] (by kernel_rfl) (by kernel_rfl) ?_
 refine WO.done (by kernel_rfl) ?_
 refine WQ.keep [0, 2] (e' := [(0, .string (str s)), (2, .bool false)]) (by kernel_rfl) ?_
 refine WQ.thenN ?_
 refine WE.seq ?_
 refine WE.seq ?_
 refine WE.region ?_
 refine WO.run 1 0 [(3, .int .i64 0)] (by kernel_rfl) (by kernel_rfl) ?_
 refine WO.done (by kernel_rfl) ?_
 refine WQ.keep [0, 2, 3] (e' := [(0, .string (str s)), (2, .bool false), (3, .int .i64 0)]) (by kernel_rfl) ?_
 refine WQ.thenN ?_
 refine WE.block ?_
 refine WE.loop (α := Nat) (E := fun i => [(0, .string (str s)), (2, .bool false), (3, .int .i64 (i : Int))]) (I := fun i wr => i ≤ s.length ∧ (∀ j, j < i → inW (gb s j) = true) ∧ Fr [] w wr) (m := fun i => s.length - i) 0 [0, 2, 3] (by kernel_rfl) ?_ ?_
 ·
  exact ⟨Nat.zero_le _, fun j hj => absurd hj (Nat.not_lt_zero j), HA⟩
 rintro i wr ⟨hi, hbe, HA⟩
 refine WE.seq ?_
 refine WE.seq ?_
 refine WE.region ?_
 refine WO.run 3 0 [(7, .int .i64 (s.length : Int)), (6, .string (str s)), (5, .int .i64 (i : Int))] (by kernel_rfl) (by kernel_rfl) ?_
 refine WO.one (SQ.F 3 (by kernel_rfl)) 8 (.bool (decide (((i : Int) : Int) < (s.length : Int)))) (by kernel_rfl) ?_
 refine WO.topP (((i : Int) : Int) < (s.length : Int)) ?_ ?_
 ·
  intro h1
  refine WO.done (by kernel_rfl) ?_
  refine WQ.keep [0, 2, 3, 8] (e' := [(0, .string (str s)), (2, .bool false), (3, .int .i64 (i : Int)), (8, .bool true)]) (by kernel_rfl) ?_
  refine WQ.thenN ?_
  refine WE.condT (by kernel_rfl) ?_
  refine WE.skip ?_
  refine WQ.thenN ?_
  refine WE.seq ?_
  refine WE.block ?_
  refine WE.seq ?_
  refine WE.region ?_
  refine WO.run 2 0 [(12, .int .i64 (i : Int)), (11, .string (str s))] (by kernel_rfl) (by kernel_rfl) ?_
  refine WO.ixS (i := (i : Int)) (SQ.F 2 (by kernel_rfl)) 13 i s (by kernel_rfl) (by rfl) (by omega) ?_
  refine WO.call (SQ.E 3 (by kernel_rfl)) 14 (by kernel_rfl) (within_r (gB s i) _) ?_
  rintro _ w2 ⟨rfl, F3⟩
  refine ⟨_, rfl, trivial, ?_⟩
  have HA := Fr.step0 HA F3
  rcases Bool.eq_false_or_eq_true (inW (gB s i)) with h4 | h4
  ·
   rw [h4]
   refine WO.run 1 4 [(4, .bool true)] (by kernel_rfl) (by kernel_rfl) ?_
   refine WO.done (by kernel_rfl) ?_
   refine WQ.keep [0, 2, 3, 4, 8] (e' := [(0, .string (str s)), (2, .bool false), (3, .int .i64 (i : Int)), (4, .bool true), (8, .bool true)]) (by kernel_rfl) ?_
   refine WQ.thenN ?_
   refine WE.seq ?_
   refine WE.region ?_
   refine WO.run 2 0 [(16, .bool false), (15, .bool true)] (by kernel_rfl) (by kernel_rfl) ?_
   refine WO.done (by kernel_rfl) ?_
   refine WQ.keep [0, 2, 3, 4, 8, 16] (e' := [(0, .string (str s)), (2, .bool false), (3, .int .i64 (i : Int)), (4, .bool true), (8, .bool true), (16, .bool false)]) (by kernel_rfl) ?_
   refine WQ.thenN ?_
   refine WE.condF (by kernel_rfl) ?_
   refine WE.skip ?_
   refine WQ.blkN ?_
   refine WQ.thenN ?_
   refine WE.region ?_
   refine WO.run 1 0 [(9, .int .i64 (i : Int))] (by kernel_rfl) (by kernel_rfl) ?_
   refine WO.one (SQ.F 1 (by kernel_rfl)) 10 (.int .i64 (IntKind.i64.wrap ((i : Int) + 1))) (by kernel_rfl) ?_
   refine WO.top (v' := .int .i64 ((i + 1 : Nat) : Int)) (wrap_i64 (by omega) (by omega)) ?_
   refine WO.run 1 2 [(3, .int .i64 ((i + 1 : Nat) : Int))] (by kernel_rfl) (by kernel_rfl) ?_
   refine WO.done (by kernel_rfl) ?_
   refine WQ.keep [0, 2, 3, 4, 8, 16] (e' := [(0, .string (str s)), (2, .bool false), (3, .int .i64 ((i + 1 : Nat) : Int)), (4, .bool true), (8, .bool true), (16, .bool false)]) (by kernel_rfl) ?_
   refine WQ.round ?_
   intro a_ ha_
   refine ⟨i + 1, ?_, ha_.keep [0, 2, 3] (by kernel_rfl), ?_⟩
   ·
    omega
   ·
    exact ⟨by omega, fun j hj => (Nat.lt_succ_iff_lt_or_eq.1 hj).elim (hbe j) (fun h_ => by rw [h_]; assumption), HA⟩
  ·
   rw [h4]
   refine WO.run 1 4 [(4, .bool false)] (by kernel_rfl) (by kernel_rfl) ?_
   refine WO.done (by kernel_rfl) ?_
   refine WQ.keep [0, 2, 3, 4, 8] (e' := [(0, .string (str s)), (2, .bool false), (3, .int .i64 (i : Int)), (4, .bool false), (8, .bool true)]) (by kernel_rfl) ?_
   refine WQ.thenN ?_
   refine WE.seq ?_
   refine WE.region ?_
   refine WO.run 2 0 [(16, .bool true), (15, .bool false)] (by kernel_rfl) (by kernel_rfl) ?_
   refine WO.done (by kernel_rfl) ?_
   refine WQ.keep [0, 2, 3, 4, 8, 16] (e' := [(0, .string (str s)), (2, .bool false), (3, .int .i64 (i : Int)), (4, .bool false), (8, .bool true), (16, .bool true)]) (by kernel_rfl) ?_
   refine WQ.thenN ?_
   refine WE.condT (by kernel_rfl) ?_
   refine WE.seq ?_
   refine WE.region ?_
   refine WO.run 1 0 [(2, .bool false)] (by kernel_rfl) (by kernel_rfl) ?_
   refine WO.done (by kernel_rfl) ?_
   refine WQ.keep [0, 2, 3, 4, 8, 16] (e' := [(0, .string (str s)), (2, .bool false), (3, .int .i64 (i : Int)), (4, .bool false), (8, .bool true), (16, .bool true)]) (by kernel_rfl) ?_
   refine WQ.thenN ?_
   refine WE.ret ?_
   refine WQ.blkR ?_
   refine WQ.thenR ?_
   refine WQ.thenR ?_
   refine WQ.blkR ?_
   refine WQ.thenR ?_
   refine WQ.ret (v := .bool false) (by kernel_rfl) ?_
   first | exact ⟨congrArg (fun b => Ending.returned (Value.bool b)) (by rw [word_bad (i := i) (by omega) (by assumption)]), HA⟩ | exact ⟨congrArg (fun b => Ending.returned (Value.bool b)) (by rw [word_all (fun j hj => hbe j (by omega))]; rw [Bool.eq_iff_iff]; simp only [Bool.and_eq_true, decide_eq_true_eq, Bool.false_eq_true, true_iff, false_iff, true_and, and_true]; omega), HA⟩
 intro h1
 refine WO.done (by kernel_rfl) ?_
 refine WQ.keep [0, 2, 3, 8] (e' := [(0, .string (str s)), (2, .bool false), (3, .int .i64 (i : Int)), (8, .bool false)]) (by kernel_rfl) ?_
 refine WQ.thenN ?_
 refine WE.condF (by kernel_rfl) ?_
 refine WE.exit ?_
 refine WQ.thenE ?_
 refine WQ.thenE ?_
 refine WQ.blkE ?_
 refine WQ.thenN ?_
 refine WE.seq ?_
 refine WE.region ?_
 refine WO.run 2 0 [(18, .int .i64 (s.length : Int)), (17, .string (str s))] (by kernel_rfl) (by kernel_rfl) ?_
 refine WO.one (SQ.F 2 (by kernel_rfl)) 19 (.bool (decide (((s.length : Int) : Int) > (0 : Int)))) (by kernel_rfl) ?_
 refine WO.topP (((s.length : Int) : Int) > (0 : Int)) ?_ ?_
 ·
  intro h5
  refine WO.run 6 3 [(2, .bool (decide (((s.length : Int) : Int) ≤ (16 : Int)))), (24, .bool (decide (((s.length : Int) : Int) ≤ (16 : Int)))), (23, .bool (decide (((s.length : Int) : Int) ≤ (16 : Int)))), (22, .int .i64 (s.length : Int)), (21, .string (str s)), (20, .bool true)] (by kernel_rfl) (by kernel_rfl) ?_
  refine WO.done (by kernel_rfl) ?_
  refine WQ.keep [0, 2, 3, 8] (e' := [(0, .string (str s)), (2, .bool (decide (((s.length : Int) : Int) ≤ (16 : Int)))), (3, .int .i64 (i : Int)), (8, .bool false)]) (by kernel_rfl) ?_
  refine WQ.thenN ?_
  refine WE.ret ?_
  refine WQ.ret (v := .bool (decide (((s.length : Int) : Int) ≤ (16 : Int)))) (by kernel_rfl) ?_
  exact ⟨congrArg (fun b => Ending.returned (Value.bool b)) (by rw [word_all (fun j hj => hbe j (by omega))]; rw [Bool.eq_iff_iff]; simp only [Bool.and_eq_true, decide_eq_true_eq, Bool.false_eq_true, true_iff, false_iff, true_and, and_true]; omega), HA⟩
 intro h5
 refine WO.run 6 3 [(2, .bool false), (24, .bool false), (23, undef), (22, undef), (21, undef), (20, .bool false)] (by kernel_rfl) (by kernel_rfl) ?_
 refine WO.done (by kernel_rfl) ?_
 refine WQ.keep [0, 2, 3, 8] (e' := [(0, .string (str s)), (2, .bool false), (3, .int .i64 (i : Int)), (8, .bool false)]) (by kernel_rfl) ?_
 refine WQ.thenN ?_
 refine WE.ret ?_
 refine WQ.ret (v := .bool false) (by kernel_rfl) ?_
 first | exact ⟨congrArg (fun b => Ending.returned (Value.bool b)) (by rw [word_bad (i := i) (by omega) (by assumption)]), HA⟩ | exact ⟨congrArg (fun b => Ending.returned (Value.bool b)) (by rw [word_all (fun j hj => hbe j (by omega))]; rw [Bool.eq_iff_iff]; simp only [Bool.and_eq_true, decide_eq_true_eq, Bool.false_eq_true, true_iff, false_iff, true_and, and_true]; omega), HA⟩
set_option maxRecDepth 100000 in
set_option maxHeartbeats 400000 in
theorem few_f (ev : Ev) (A : Option Addr) (n cp : Nat) (F : List Nat) (w : World) (HT : VX cT 2 w F A ev.tags) (hn : ev.tags.length = n) (hnn : n ≤ 9223372036854775807) (hln : ev.name.length ≤ 9223372036854775807) (hlt : ∀ t ∈ ev.tags, t.1.length ≤ 9223372036854775807 ∧ t.2.length ≤ 9223372036854775807) :
  Calls Tryd.prog 9 #[.agg #[.string (str ev.name), .slice A n cp, .int .i64 ev.kind, .int .i64 ev.value, .int .i64 ev.time]] w fun e w' => e = .returned (.bool (fewE ev)) ∧ Fr [] w w' := by
 have HA := Fr.refl [] w
 refine enter (N := 39) Tryd.func9 (c := _) rfl (by kernel_rfl) (by kernel_rfl) (e := [(0, .agg #[.string (str ev.name), .slice A n cp, .int .i64 ev.kind, .int .i64 ev.value, .int .i64 ev.time])]) (by kernel_rfl) ?_
 refine WE.seq ?_
 refine WE.region ?_
 refine WO.bx (SQ.E 0 (by kernel_rfl)) 1 #[.string (str ev.name), .slice A n cp, .int .i64 ev.kind, .int .i64 ev.value, .int .i64 ev.time] 25 (fun g => .pointer (some ⟨g, 0, none⟩)) (by kernel_rfl) (fun _ _ => trivial) ?_
 intro g1 w2 HB4 F3 le5 _
 have nin_g1_F : g1 ∉ F := new_nin HT.lt le5
 have ge_HA_g1 := Nat.le_trans HA.size le5
 have HT := HT.keep F3 (fun _ _ => nin0 _)
 have HA := Fr.step0 HA F3
 refine WO.run 1 1 [(2, .bool false)] (by kernel_rfl) (by kernel_rfl) ?_
 refine WO.done (by kernel_rfl) ?_
 refine WQ.keep [0, 1, 2] (e' := [(0, .agg #[.string (str ev.name), .slice A n cp, .int .i64 ev.kind, .int .i64 ev.value, .int .i64 ev.time]), (1, .pointer (some ⟨g1, 0, none⟩)), (2, .bool false)]) (by kernel_rfl) ?_
 refine WQ.thenN ?_
 refine WE.seq ?_
 refine WE.seq ?_
 refine WE.region ?_
 refine WO.run 1 0 [(3, .int .i64 0)] (by kernel_rfl) (by kernel_rfl) ?_
 refine WO.done (by kernel_rfl) ?_
 refine WQ.keep [0, 1, 2, 3] (e' := [(0, .agg #[.string (str ev.name), .slice A n cp, .int .i64 ev.kind, .int .i64 ev.value, .int .i64 ev.time]), (1, .pointer (some ⟨g1, 0, none⟩)), (2, .bool false), (3, .int .i64 0)]) (by kernel_rfl) ?_
 refine WQ.thenN ?_
 refine WE.block ?_
 refine WE.loop (α := Nat) (E := fun i => [(0, .agg #[.string (str ev.name), .slice A n cp, .int .i64 ev.kind, .int .i64 ev.value, .int .i64 ev.time]), (1, .pointer (some ⟨g1, 0, none⟩)), (2, .bool false), (3, .int .i64 (i : Int))]) (I := fun i wr => i ≤ n ∧ (∀ j, j < i → (fun t : L × L => decide (t.1.length ≤ 100) && decide (t.2.length ≤ 100)) (gT ev.tags j) = true) ∧ Blk wr g1 #[.string (str ev.name), .slice A n cp, .int .i64 ev.kind, .int .i64 ev.value, .int .i64 ev.time] 25 ∧ VX cT 2 wr F A ev.tags ∧ Fr [] w wr) (m := fun i => n - i) 0 [0, 1, 2, 3] (by kernel_rfl) ?_ ?_
 ·
  exact ⟨Nat.zero_le _, fun j hj => absurd hj (Nat.not_lt_zero j), HB4, HT, HA⟩
 rintro i wr ⟨hi, hbe, HB, HT, HA⟩
 refine WE.seq ?_
 refine WE.seq ?_
 refine WE.region ?_
 refine WO.run 2 0 [(5, .pointer (some ⟨g1, 1, none⟩)), (4, .int .i64 (i : Int))] (by kernel_rfl) (by kernel_rfl) ?_
 refine WO.ld (SQ.S 2 (by kernel_rfl)) 6 (.slice A n cp) (by kernel_rfl) (same (HB.at 1 (by kernel_rfl))) ?_
 refine WO.run 1 3 [(7, .int .i64 (n : Int))] (by kernel_rfl) (by kernel_rfl) ?_
 refine WO.one (SQ.F 4 (by kernel_rfl)) 8 (.bool (decide (((i : Int) : Int) < (n : Int)))) (by kernel_rfl) ?_
 refine WO.topP (((i : Int) : Int) < (n : Int)) ?_ ?_
 ·
  intro h6
  refine WO.done (by kernel_rfl) ?_
  refine WQ.keep [0, 1, 2, 3, 8] (e' := [(0, .agg #[.string (str ev.name), .slice A n cp, .int .i64 ev.kind, .int .i64 ev.value, .int .i64 ev.time]), (1, .pointer (some ⟨g1, 0, none⟩)), (2, .bool false), (3, .int .i64 (i : Int)), (8, .bool true)]) (by kernel_rfl) ?_
  refine WQ.thenN ?_
  refine WE.condT (by kernel_rfl) ?_
  refine WE.skip ?_
  refine WQ.thenN ?_
  refine WE.seq ?_
  refine WE.block ?_
  refine WE.seq ?_
  refine WE.region ?_
  refine WO.run 1 0 [(11, .pointer (some ⟨g1, 1, none⟩))] (by kernel_rfl) (by kernel_rfl) ?_
  refine WO.ld (SQ.S 1 (by kernel_rfl)) 12 (.slice A n cp) (by kernel_rfl) (same (HB.at 1 (by kernel_rfl))) ?_
  refine WO.run 1 2 [(13, .int .i64 (i : Int))] (by kernel_rfl) (by kernel_rfl) ?_
  obtain ⟨ad7, hA8⟩ := HT.addr (i := i) (by have := hn; omega)
  refine WO.ixo (SQ.F 3 (by kernel_rfl)) 14 n 2 i (i : Int) hA8 (by kernel_rfl) rfl (by omega) ?_
  refine WO.run 1 4 [(15, .pointer (some (ad7.add (i * 2))))] (by kernel_rfl) (by kernel_rfl) ?_
  refine WO.ld (SQ.S 5 (by kernel_rfl)) 16 (.string (str (gT ev.tags i).1)) (by kernel_rfl) (same (HT.at0 hA8 (gT_some ev.tags i (by have := hn; omega)) (by kernel_rfl))) ?_
  refine WO.run 1 6 [(17, .int .i64 (((gT ev.tags i).1).length : Int))] (by kernel_rfl) (by kernel_rfl) ?_
  refine WO.one (SQ.F 7 (by kernel_rfl)) 18 (.bool (decide (((((gT ev.tags i).1).length : Int) : Int) > (100 : Int)))) (by kernel_rfl) ?_
  refine WO.topP (((((gT ev.tags i).1).length : Int) : Int) > (100 : Int)) ?_ ?_
  ·
   intro h9
   refine WO.run 10 8 [(28, .bool true), (27, undef), (26, undef), (25, undef), (24, undef), (23, undef), (22, undef), (21, undef), (20, undef), (19, .bool true)] (by kernel_rfl) (by kernel_rfl) ?_
   refine WO.done (by kernel_rfl) ?_
   refine WQ.keep [0, 1, 2, 3, 8, 28] (e' := [(0, .agg #[.string (str ev.name), .slice A n cp, .int .i64 ev.kind, .int .i64 ev.value, .int .i64 ev.time]), (1, .pointer (some ⟨g1, 0, none⟩)), (2, .bool false), (3, .int .i64 (i : Int)), (8, .bool true), (28, .bool true)]) (by kernel_rfl) ?_
   refine WQ.thenN ?_
   refine WE.condT (by kernel_rfl) ?_
   refine WE.seq ?_
   refine WE.region ?_
   refine WO.run 1 0 [(2, .bool false)] (by kernel_rfl) (by kernel_rfl) ?_
   refine WO.done (by kernel_rfl) ?_
   refine WQ.keep [0, 1, 2, 3, 8, 28] (e' := [(0, .agg #[.string (str ev.name), .slice A n cp, .int .i64 ev.kind, .int .i64 ev.value, .int .i64 ev.time]), (1, .pointer (some ⟨g1, 0, none⟩)), (2, .bool false), (3, .int .i64 (i : Int)), (8, .bool true), (28, .bool true)]) (by kernel_rfl) ?_
   refine WQ.thenN ?_
   refine WE.ret ?_
   refine WQ.blkR ?_
   refine WQ.thenR ?_
   refine WQ.thenR ?_
   refine WQ.blkR ?_
   refine WQ.thenR ?_
   refine WQ.ret (v := .bool false) (by kernel_rfl) ?_
   first | exact ⟨congrArg (fun b => Ending.returned (Value.bool b)) (by rw [few_no (i := i) (by omega) (by omega)]), HA⟩ | exact ⟨congrArg (fun b => Ending.returned (Value.bool b)) (by rw [few_all (fun j hj => hbe j (by omega))]; rw [Bool.eq_iff_iff]; simp only [Bool.and_eq_true, decide_eq_true_eq, Bool.false_eq_true, true_iff, false_iff, true_and, and_true]; omega), HA⟩
  intro h9
  refine WO.run 2 8 [(20, .pointer (some ⟨g1, 1, none⟩)), (19, .bool false)] (by kernel_rfl) (by kernel_rfl) ?_
  refine WO.ld (SQ.S 10 (by kernel_rfl)) 21 (.slice A n cp) (by kernel_rfl) (same (HB.at 1 (by kernel_rfl))) ?_
  refine WO.run 1 11 [(22, .int .i64 (i : Int))] (by kernel_rfl) (by kernel_rfl) ?_
  obtain ⟨ad10, hA11⟩ := HT.addr (i := i) (by have := hn; omega)
  refine WO.ixo (SQ.F 12 (by kernel_rfl)) 23 n 2 i (i : Int) hA11 (by kernel_rfl) rfl (by omega) ?_
  refine WO.run 1 13 [(24, .pointer (some ((ad10.add (i * 2)).add 1)))] (by kernel_rfl) (by kernel_rfl) ?_
  refine WO.ld (SQ.S 14 (by kernel_rfl)) 25 (.string (str (gT ev.tags i).2)) (by kernel_rfl) (same (HT.at hA11 (gT_some ev.tags i (by have := hn; omega)) 1 (by kernel_rfl))) ?_
  refine WO.run 1 15 [(26, .int .i64 (((gT ev.tags i).2).length : Int))] (by kernel_rfl) (by kernel_rfl) ?_
  refine WO.one (SQ.F 16 (by kernel_rfl)) 27 (.bool (decide (((((gT ev.tags i).2).length : Int) : Int) > (100 : Int)))) (by kernel_rfl) ?_
  refine WO.topP (((((gT ev.tags i).2).length : Int) : Int) > (100 : Int)) ?_ ?_
  ·
   intro h12
   refine WO.run 1 17 [(28, .bool true)] (by kernel_rfl) (by kernel_rfl) ?_
   refine WO.done (by kernel_rfl) ?_
   refine WQ.keep [0, 1, 2, 3, 8, 28] (e' := [(0, .agg #[.string (str ev.name), .slice A n cp, .int .i64 ev.kind, .int .i64 ev.value, .int .i64 ev.time]), (1, .pointer (some ⟨g1, 0, none⟩)), (2, .bool false), (3, .int .i64 (i : Int)), (8, .bool true), (28, .bool true)]) (by kernel_rfl) ?_
   refine WQ.thenN ?_
   refine WE.condT (by kernel_rfl) ?_
   refine WE.seq ?_
   refine WE.region ?_
   refine WO.run 1 0 [(2, .bool false)] (by kernel_rfl) (by kernel_rfl) ?_
   refine WO.done (by kernel_rfl) ?_
   refine WQ.keep [0, 1, 2, 3, 8, 28] (e' := [(0, .agg #[.string (str ev.name), .slice A n cp, .int .i64 ev.kind, .int .i64 ev.value, .int .i64 ev.time]), (1, .pointer (some ⟨g1, 0, none⟩)), (2, .bool false), (3, .int .i64 (i : Int)), (8, .bool true), (28, .bool true)]) (by kernel_rfl) ?_
   refine WQ.thenN ?_
   refine WE.ret ?_
   refine WQ.blkR ?_
   refine WQ.thenR ?_
   refine WQ.thenR ?_
   refine WQ.blkR ?_
   refine WQ.thenR ?_
   refine WQ.ret (v := .bool false) (by kernel_rfl) ?_
   first | exact ⟨congrArg (fun b => Ending.returned (Value.bool b)) (by rw [few_no (i := i) (by omega) (by omega)]), HA⟩ | exact ⟨congrArg (fun b => Ending.returned (Value.bool b)) (by rw [few_all (fun j hj => hbe j (by omega))]; rw [Bool.eq_iff_iff]; simp only [Bool.and_eq_true, decide_eq_true_eq, Bool.false_eq_true, true_iff, false_iff, true_and, and_true]; omega), HA⟩
  intro h12
  refine WO.run 1 17 [(28, .bool false)] (by kernel_rfl) (by kernel_rfl) ?_
  refine WO.done (by kernel_rfl) ?_
  refine WQ.keep [0, 1, 2, 3, 8, 28] (e' := [(0, .agg #[.string (str ev.name), .slice A n cp, .int .i64 ev.kind, .int .i64 ev.value, .int .i64 ev.time]), (1, .pointer (some ⟨g1, 0, none⟩)), (2, .bool false), (3, .int .i64 (i : Int)), (8, .bool true), (28, .bool false)]) (by kernel_rfl) ?_
  refine WQ.thenN ?_
  refine WE.condF (by kernel_rfl) ?_
  refine WE.skip ?_
  refine WQ.blkN ?_
  refine WQ.thenN ?_
  refine WE.region ?_
  refine WO.run 1 0 [(9, .int .i64 (i : Int))] (by kernel_rfl) (by kernel_rfl) ?_
  refine WO.one (SQ.F 1 (by kernel_rfl)) 10 (.int .i64 (IntKind.i64.wrap ((i : Int) + 1))) (by kernel_rfl) ?_
  refine WO.top (v' := .int .i64 ((i + 1 : Nat) : Int)) (wrap_i64 (by omega) (by omega)) ?_
  refine WO.run 1 2 [(3, .int .i64 ((i + 1 : Nat) : Int))] (by kernel_rfl) (by kernel_rfl) ?_
  refine WO.done (by kernel_rfl) ?_
  refine WQ.keep [0, 1, 2, 3, 8, 28] (e' := [(0, .agg #[.string (str ev.name), .slice A n cp, .int .i64 ev.kind, .int .i64 ev.value, .int .i64 ev.time]), (1, .pointer (some ⟨g1, 0, none⟩)), (2, .bool false), (3, .int .i64 ((i + 1 : Nat) : Int)), (8, .bool true), (28, .bool false)]) (by kernel_rfl) ?_
  refine WQ.round ?_
  intro a_ ha_
  refine ⟨i + 1, ?_, ha_.keep [0, 1, 2, 3] (by kernel_rfl), ?_⟩
  ·
   omega
  ·
   exact ⟨by omega, fun j hj => (Nat.lt_succ_iff_lt_or_eq.1 hj).elim (hbe j) (fun h_ => by rw [h_]; simp; omega), HB, HT, HA⟩
 intro h6
 refine WO.done (by kernel_rfl) ?_
 refine WQ.keep [0, 1, 2, 3, 8] (e' := [(0, .agg #[.string (str ev.name), .slice A n cp, .int .i64 ev.kind, .int .i64 ev.value, .int .i64 ev.time]), (1, .pointer (some ⟨g1, 0, none⟩)), (2, .bool false), (3, .int .i64 (i : Int)), (8, .bool false)]) (by kernel_rfl) ?_
 refine WQ.thenN ?_
 refine WE.condF (by kernel_rfl) ?_
 refine WE.exit ?_
 refine WQ.thenE ?_
 refine WQ.thenE ?_
 refine WQ.blkE ?_
 refine WQ.thenN ?_
 refine WE.seq ?_
 refine WE.region ?_
 refine WO.run 1 0 [(29, .pointer (some ⟨g1, 0, none⟩))] (by kernel_rfl) (by kernel_rfl) ?_
 refine WO.ld (SQ.S 1 (by kernel_rfl)) 30 (.string (str ev.name)) (by kernel_rfl) (same (HB.at 0 (by kernel_rfl))) ?_
 refine WO.run 1 2 [(31, .int .i64 (ev.name.length : Int))] (by kernel_rfl) (by kernel_rfl) ?_
 refine WO.one (SQ.F 3 (by kernel_rfl)) 32 (.bool (decide (((ev.name.length : Int) : Int) ≤ (100 : Int)))) (by kernel_rfl) ?_
 refine WO.topP (((ev.name.length : Int) : Int) ≤ (100 : Int)) ?_ ?_
 ·
  intro h13
  refine WO.run 2 4 [(34, .pointer (some ⟨g1, 1, none⟩)), (33, .bool true)] (by kernel_rfl) (by kernel_rfl) ?_
  refine WO.ld (SQ.S 6 (by kernel_rfl)) 35 (.slice A n cp) (by kernel_rfl) (same (HB.at 1 (by kernel_rfl))) ?_
  refine WO.run 4 7 [(2, .bool (decide (((n : Int) : Int) ≤ (20 : Int)))), (38, .bool (decide (((n : Int) : Int) ≤ (20 : Int)))), (37, .bool (decide (((n : Int) : Int) ≤ (20 : Int)))), (36, .int .i64 (n : Int))] (by kernel_rfl) (by kernel_rfl) ?_
  refine WO.done (by kernel_rfl) ?_
  refine WQ.keep [0, 1, 2, 3, 8] (e' := [(0, .agg #[.string (str ev.name), .slice A n cp, .int .i64 ev.kind, .int .i64 ev.value, .int .i64 ev.time]), (1, .pointer (some ⟨g1, 0, none⟩)), (2, .bool (decide (((n : Int) : Int) ≤ (20 : Int)))), (3, .int .i64 (i : Int)), (8, .bool false)]) (by kernel_rfl) ?_
  refine WQ.thenN ?_
  refine WE.ret ?_
  refine WQ.ret (v := .bool (decide (((n : Int) : Int) ≤ (20 : Int)))) (by kernel_rfl) ?_
  first | exact ⟨congrArg (fun b => Ending.returned (Value.bool b)) (by rw [few_no (i := i) (by omega) (by omega)]), HA⟩ | exact ⟨congrArg (fun b => Ending.returned (Value.bool b)) (by rw [few_all (fun j hj => hbe j (by omega))]; rw [Bool.eq_iff_iff]; simp only [Bool.and_eq_true, decide_eq_true_eq, Bool.false_eq_true, true_iff, false_iff, true_and, and_true]; omega), HA⟩
 intro h13
 refine WO.run 7 4 [(2, .bool false), (38, .bool false), (37, undef), (36, undef), (35, undef), (34, undef), (33, .bool false)] (by kernel_rfl) (by kernel_rfl) ?_
 refine WO.done (by kernel_rfl) ?_
 refine WQ.keep [0, 1, 2, 3, 8] (e' := [(0, .agg #[.string (str ev.name), .slice A n cp, .int .i64 ev.kind, .int .i64 ev.value, .int .i64 ev.time]), (1, .pointer (some ⟨g1, 0, none⟩)), (2, .bool false), (3, .int .i64 (i : Int)), (8, .bool false)]) (by kernel_rfl) ?_
 refine WQ.thenN ?_
 refine WE.ret ?_
 refine WQ.ret (v := .bool false) (by kernel_rfl) ?_
 first | exact ⟨congrArg (fun b => Ending.returned (Value.bool b)) (by rw [few_no (i := i) (by omega) (by omega)]), HA⟩ | exact ⟨congrArg (fun b => Ending.returned (Value.bool b)) (by rw [few_all (fun j hj => hbe j (by omega))]; rw [Bool.eq_iff_iff]; simp only [Bool.and_eq_true, decide_eq_true_eq, Bool.false_eq_true, true_iff, false_iff, true_and, and_true]; omega), HA⟩
set_option maxRecDepth 100000 in
set_option maxHeartbeats 1000000 in
theorem may_l (ev : Ev) (A : Option Addr) (n cp : Nat) (F : List Nat) (w : World) (HT : VX cT 2 w F A ev.tags) (hn : ev.tags.length = n) (hnn : n ≤ 9223372036854775807) (hln : ev.name.length ≤ 9223372036854775807) (hlt : ∀ t ∈ ev.tags, t.1.length ≤ 9223372036854775807 ∧ t.2.length ≤ 9223372036854775807) :
  Calls Tryd.prog 25 #[.agg #[.string (str ev.name), .slice A n cp, .int .i64 ev.kind, .int .i64 ev.value, .int .i64 ev.time]] w fun e w' => e = .returned (.bool (mayE ev)) ∧ Fr [] w w' := by
 have HA := Fr.refl [] w
 refine enter (N := 52) Tryd.func25 (c := _) rfl (by kernel_rfl) (by kernel_rfl) (e := [(0, .agg #[.string (str ev.name), .slice A n cp, .int .i64 ev.kind, .int .i64 ev.value, .int .i64 ev.time])]) (by kernel_rfl) ?_
 refine WE.seq ?_
 refine WE.region ?_
 refine WO.bx (SQ.E 0 (by kernel_rfl)) 1 #[.string (str ev.name), .slice A n cp, .int .i64 ev.kind, .int .i64 ev.value, .int .i64 ev.time] 25 (fun g => .pointer (some ⟨g, 0, none⟩)) (by kernel_rfl) (fun _ _ => trivial) ?_
 intro g1 w2 HB4 F3 le5 _
 have nin_g1_F : g1 ∉ F := new_nin HT.lt le5
 have ge_HA_g1 := Nat.le_trans HA.size le5
 have HT := HT.keep F3 (fun _ _ => nin0 _)
 have HA := Fr.step0 HA F3
 refine WO.run 1 1 [(2, .bool false)] (by kernel_rfl) (by kernel_rfl) ?_
 refine WO.done (by kernel_rfl) ?_
 refine WQ.keep [0, 1, 2] (e' := [(0, .agg #[.string (str ev.name), .slice A n cp, .int .i64 ev.kind, .int .i64 ev.value, .int .i64 ev.time]), (1, .pointer (some ⟨g1, 0, none⟩)), (2, .bool false)]) (by kernel_rfl) ?_
 refine WQ.thenN ?_
 refine WE.seq ?_
 refine WE.seq ?_
 refine WE.region ?_
 refine WO.run 1 0 [(5, .pointer (some ⟨g1, 1, none⟩))] (by kernel_rfl) (by kernel_rfl) ?_
 refine WO.ld (SQ.S 1 (by kernel_rfl)) 6 (.slice A n cp) (by kernel_rfl) (same (HB4.at 1 (by kernel_rfl))) ?_
 refine WO.run 2 2 [(8, .int .i64 0), (7, .int .i64 (n : Int))] (by kernel_rfl) (by kernel_rfl) ?_
 refine WO.done (by kernel_rfl) ?_
 refine WQ.keep [0, 1, 2, 6, 7, 8] (e' := [(0, .agg #[.string (str ev.name), .slice A n cp, .int .i64 ev.kind, .int .i64 ev.value, .int .i64 ev.time]), (1, .pointer (some ⟨g1, 0, none⟩)), (2, .bool false), (6, .slice A n cp), (7, .int .i64 (n : Int)), (8, .int .i64 0)]) (by kernel_rfl) ?_
 refine WQ.thenN ?_
 refine WE.block ?_
 refine WE.loop (α := Nat) (E := fun i => [(0, .agg #[.string (str ev.name), .slice A n cp, .int .i64 ev.kind, .int .i64 ev.value, .int .i64 ev.time]), (1, .pointer (some ⟨g1, 0, none⟩)), (2, .bool false), (6, .slice A n cp), (7, .int .i64 (n : Int)), (8, .int .i64 (i : Int))]) (I := fun i wr => i ≤ n ∧ (∀ j, j < i → (fun t : L × L => isWord t.1 && isWord t.2) (gT ev.tags j) = true) ∧ Blk wr g1 #[.string (str ev.name), .slice A n cp, .int .i64 ev.kind, .int .i64 ev.value, .int .i64 ev.time] 25 ∧ VX cT 2 wr F A ev.tags ∧ Fr [] w wr) (m := fun i => n - i) 0 [0, 1, 2, 6, 7, 8] (by kernel_rfl) ?_ ?_
 ·
  exact ⟨Nat.zero_le _, fun j hj => absurd hj (Nat.not_lt_zero j), HB4, HT, HA⟩
 rintro i wr ⟨hi, hbe, HB, HT, HA⟩
 refine WE.seq ?_
 refine WE.region ?_
 refine WO.one (SQ.F 0 (by kernel_rfl)) 9 (.bool (decide (((i : Int) : Int) < (n : Int)))) (by kernel_rfl) ?_
 refine WO.topP (((i : Int) : Int) < (n : Int)) ?_ ?_
 ·
  intro h6
  refine WO.done (by kernel_rfl) ?_
  refine WQ.keep [0, 1, 2, 6, 7, 8, 9] (e' := [(0, .agg #[.string (str ev.name), .slice A n cp, .int .i64 ev.kind, .int .i64 ev.value, .int .i64 ev.time]), (1, .pointer (some ⟨g1, 0, none⟩)), (2, .bool false), (6, .slice A n cp), (7, .int .i64 (n : Int)), (8, .int .i64 (i : Int)), (9, .bool true)]) (by kernel_rfl) ?_
  refine WQ.thenN ?_
  refine WE.seq ?_
  refine WE.condT (by kernel_rfl) ?_
  refine WE.skip ?_
  refine WQ.thenN ?_
  refine WE.seq ?_
  refine WE.block ?_
  refine WE.seq ?_
  refine WE.region ?_
  obtain ⟨ad7, hA8⟩ := HT.addr (i := i) (by have := hn; omega)
  refine WO.ixo (SQ.F 0 (by kernel_rfl)) 10 n 2 i (i : Int) hA8 (by kernel_rfl) rfl (by omega) ?_
  refine WO.ldA (ad := (ad7.add (i * 2))) (SQ.S 1 (by kernel_rfl)) 11 [.string (str (gT ev.tags i).1), .string (str (gT ev.tags i).2)] (by kernel_rfl) (by kernel_rfl) (fun _ hw_ _ hj_ => by subst hw_; exact HT.part0 hA8 (gT_some ev.tags i (by have := hn; omega)) [.string (str (gT ev.tags i).1), .string (str (gT ev.tags i).2)] (by kernel_rfl) _ hj_) ?_
  refine WO.bx (SQ.E 2 (by kernel_rfl)) 4 #[.string (⟨#[]⟩), .string (⟨#[]⟩)] 53 (fun g => .pointer (some ⟨g, 0, none⟩)) (by kernel_rfl) (fun _ _ => trivial) ?_
  intro g9 w10 HB12 F11 le13 _
  have ne_g1_g9 : g1 ≠ g9 := Nat.ne_of_lt (Nat.lt_of_lt_of_le HB.lt le13)
  have nin_g9_F : g9 ∉ F := new_nin HT.lt le13
  have ge_HA_g9 := Nat.le_trans HA.size le13
  have HB := Blk.keep HB F11 (nin0 _)
  have HT := HT.keep F11 (fun _ _ => nin0 _)
  have HA := Fr.step0 HA F11
  refine WO.st (SQ.E 3 (by kernel_rfl)) g9 0 [.string (str (gT ev.tags i).1), .string (str (gT ev.tags i).2)] #[.string (str (gT ev.tags i).1), .string (str (gT ev.tags i).2)] (by kernel_rfl) HB12 (by kernel_rfl) (by kernel_rfl) (fun _ _ => trivial) ?_
  intro w14 HB16 F15 _
  have HB := Blk.keep HB F15 (ninC ne_g1_g9 (nin0 _))
  have HT := HT.keep F15 (djB nin_g9_F)
  have HA := Fr.step HA F15 (inSR ge_HA_g9 inS0)
  refine WO.done (by kernel_rfl) ?_
  refine WQ.keep [0, 1, 2, 4, 6, 7, 8, 9] (e' := [(0, .agg #[.string (str ev.name), .slice A n cp, .int .i64 ev.kind, .int .i64 ev.value, .int .i64 ev.time]), (1, .pointer (some ⟨g1, 0, none⟩)), (2, .bool false), (4, .pointer (some ⟨g9, 0, none⟩)), (6, .slice A n cp), (7, .int .i64 (n : Int)), (8, .int .i64 (i : Int)), (9, .bool true)]) (by kernel_rfl) ?_
  refine WQ.thenN ?_
  refine WE.seq ?_
  refine WE.region ?_
  refine WO.run 1 0 [(12, .pointer (some ⟨g9, 0, none⟩))] (by kernel_rfl) (by kernel_rfl) ?_
  refine WO.ld (SQ.S 1 (by kernel_rfl)) 13 (.string (str (gT ev.tags i).1)) (by kernel_rfl) (same (HB16.at 0 (by kernel_rfl))) ?_
  refine WO.call (SQ.E 2 (by kernel_rfl)) 14 (by kernel_rfl) (word_l ((gT ev.tags i).1) _ (by first | exact hln | exact (hlt _ (gT_mem (by omega))).1 | exact (hlt _ (gT_mem (by omega))).2)) ?_
  rintro _ w17 ⟨rfl, F18⟩
  refine ⟨_, rfl, trivial, ?_⟩
  have HB := Blk.keep HB F18 (nin0 _)
  have HB16 := Blk.keep HB16 F18 (nin0 _)
  have HT := HT.keep F18 (fun _ _ => nin0 _)
  have HA := Fr.step0 HA F18
  rcases Bool.eq_false_or_eq_true (isWord ((gT ev.tags i).1)) with h19 | h19
  ·
   rw [h19]
   refine WO.run 3 3 [(17, .pointer (some ⟨g9, 1, none⟩)), (16, .bool false), (15, .bool false)] (by kernel_rfl) (by kernel_rfl) ?_
   refine WO.ld (SQ.S 6 (by kernel_rfl)) 18 (.string (str (gT ev.tags i).2)) (by kernel_rfl) (same (HB16.at 1 (by kernel_rfl))) ?_
   refine WO.call (SQ.E 7 (by kernel_rfl)) 19 (by kernel_rfl) (word_l ((gT ev.tags i).2) _ (by first | exact hln | exact (hlt _ (gT_mem (by omega))).1 | exact (hlt _ (gT_mem (by omega))).2)) ?_
   rintro _ w20 ⟨rfl, F21⟩
   refine ⟨_, rfl, trivial, ?_⟩
   have HB := Blk.keep HB F21 (nin0 _)
   have HB16 := Blk.keep HB16 F21 (nin0 _)
   have HT := HT.keep F21 (fun _ _ => nin0 _)
   have HA := Fr.step0 HA F21
   rcases Bool.eq_false_or_eq_true (isWord ((gT ev.tags i).2)) with h22 | h22
   ·
    rw [h22]
    refine WO.run 2 8 [(21, .bool false), (20, .bool false)] (by kernel_rfl) (by kernel_rfl) ?_
    refine WO.done (by kernel_rfl) ?_
    refine WQ.keep [0, 1, 2, 4, 6, 7, 8, 9, 21] (e' := [(0, .agg #[.string (str ev.name), .slice A n cp, .int .i64 ev.kind, .int .i64 ev.value, .int .i64 ev.time]), (1, .pointer (some ⟨g1, 0, none⟩)), (2, .bool false), (4, .pointer (some ⟨g9, 0, none⟩)), (6, .slice A n cp), (7, .int .i64 (n : Int)), (8, .int .i64 (i : Int)), (9, .bool true), (21, .bool false)]) (by kernel_rfl) ?_
    refine WQ.thenN ?_
    refine WE.condF (by kernel_rfl) ?_
    refine WE.skip ?_
    refine WQ.blkN ?_
    refine WQ.thenN ?_
    refine WE.region ?_
    refine WO.one (SQ.F 0 (by kernel_rfl)) 22 (.int .i64 (IntKind.i64.wrap ((i : Int) + 1))) (by kernel_rfl) ?_
    refine WO.top (v' := .int .i64 ((i + 1 : Nat) : Int)) (wrap_i64 (by omega) (by omega)) ?_
    refine WO.run 1 1 [(8, .int .i64 ((i + 1 : Nat) : Int))] (by kernel_rfl) (by kernel_rfl) ?_
    refine WO.done (by kernel_rfl) ?_
    refine WQ.keep [0, 1, 2, 4, 6, 7, 8, 9, 21] (e' := [(0, .agg #[.string (str ev.name), .slice A n cp, .int .i64 ev.kind, .int .i64 ev.value, .int .i64 ev.time]), (1, .pointer (some ⟨g1, 0, none⟩)), (2, .bool false), (4, .pointer (some ⟨g9, 0, none⟩)), (6, .slice A n cp), (7, .int .i64 (n : Int)), (8, .int .i64 ((i + 1 : Nat) : Int)), (9, .bool true), (21, .bool false)]) (by kernel_rfl) ?_
    refine WQ.round ?_
    intro a_ ha_
    refine ⟨i + 1, ?_, ha_.keep [0, 1, 2, 6, 7, 8] (by kernel_rfl), ?_⟩
    ·
     omega
    ·
     exact ⟨by omega, fun j hj => (Nat.lt_succ_iff_lt_or_eq.1 hj).elim (hbe j) (fun h_ => by rw [h_]; simp [*]), HB, HT, HA⟩
   ·
    rw [h22]
    refine WO.run 2 8 [(21, .bool true), (20, .bool true)] (by kernel_rfl) (by kernel_rfl) ?_
    refine WO.done (by kernel_rfl) ?_
    refine WQ.keep [0, 1, 2, 4, 6, 7, 8, 9, 21] (e' := [(0, .agg #[.string (str ev.name), .slice A n cp, .int .i64 ev.kind, .int .i64 ev.value, .int .i64 ev.time]), (1, .pointer (some ⟨g1, 0, none⟩)), (2, .bool false), (4, .pointer (some ⟨g9, 0, none⟩)), (6, .slice A n cp), (7, .int .i64 (n : Int)), (8, .int .i64 (i : Int)), (9, .bool true), (21, .bool true)]) (by kernel_rfl) ?_
    refine WQ.thenN ?_
    refine WE.condT (by kernel_rfl) ?_
    refine WE.seq ?_
    refine WE.region ?_
    refine WO.run 1 0 [(2, .bool false)] (by kernel_rfl) (by kernel_rfl) ?_
    refine WO.done (by kernel_rfl) ?_
    refine WQ.keep [0, 1, 2, 4, 6, 7, 8, 9, 21] (e' := [(0, .agg #[.string (str ev.name), .slice A n cp, .int .i64 ev.kind, .int .i64 ev.value, .int .i64 ev.time]), (1, .pointer (some ⟨g1, 0, none⟩)), (2, .bool false), (4, .pointer (some ⟨g9, 0, none⟩)), (6, .slice A n cp), (7, .int .i64 (n : Int)), (8, .int .i64 (i : Int)), (9, .bool true), (21, .bool true)]) (by kernel_rfl) ?_
    refine WQ.thenN ?_
    refine WE.ret ?_
    refine WQ.blkR ?_
    refine WQ.thenR ?_
    refine WQ.thenR ?_
    refine WQ.blkR ?_
    refine WQ.thenR ?_
    refine WQ.ret (v := .bool false) (by kernel_rfl) ?_
    first | exact ⟨congrArg (fun b => Ending.returned (Value.bool b)) (by rw [may_no (i := i) (by omega) (by simp [*])]), HA⟩ | exact ⟨congrArg (fun b => Ending.returned (Value.bool b)) (by rw [may_all (fun j hj => hbe j (by omega))]; rw [Bool.eq_iff_iff]; first | (simp only [show isWord ev.name = true from by assumption, Bool.and_eq_true, decide_eq_true_eq, Bool.false_eq_true, true_iff, false_iff, true_and, and_true, false_and, not_false_eq_true]; omega) | (simp only [show isWord ev.name = false from by assumption, Bool.and_eq_true, decide_eq_true_eq, Bool.false_eq_true, true_iff, false_iff, true_and, and_true, false_and, not_false_eq_true]; done)), HA⟩
  ·
   rw [h19]
   refine WO.run 7 3 [(21, .bool true), (20, undef), (19, undef), (18, undef), (17, undef), (16, .bool true), (15, .bool true)] (by kernel_rfl) (by kernel_rfl) ?_
   refine WO.done (by kernel_rfl) ?_
   refine WQ.keep [0, 1, 2, 4, 6, 7, 8, 9, 21] (e' := [(0, .agg #[.string (str ev.name), .slice A n cp, .int .i64 ev.kind, .int .i64 ev.value, .int .i64 ev.time]), (1, .pointer (some ⟨g1, 0, none⟩)), (2, .bool false), (4, .pointer (some ⟨g9, 0, none⟩)), (6, .slice A n cp), (7, .int .i64 (n : Int)), (8, .int .i64 (i : Int)), (9, .bool true), (21, .bool true)]) (by kernel_rfl) ?_
   refine WQ.thenN ?_
   refine WE.condT (by kernel_rfl) ?_
   refine WE.seq ?_
   refine WE.region ?_
   refine WO.run 1 0 [(2, .bool false)] (by kernel_rfl) (by kernel_rfl) ?_
   refine WO.done (by kernel_rfl) ?_
   refine WQ.keep [0, 1, 2, 4, 6, 7, 8, 9, 21] (e' := [(0, .agg #[.string (str ev.name), .slice A n cp, .int .i64 ev.kind, .int .i64 ev.value, .int .i64 ev.time]), (1, .pointer (some ⟨g1, 0, none⟩)), (2, .bool false), (4, .pointer (some ⟨g9, 0, none⟩)), (6, .slice A n cp), (7, .int .i64 (n : Int)), (8, .int .i64 (i : Int)), (9, .bool true), (21, .bool true)]) (by kernel_rfl) ?_
   refine WQ.thenN ?_
   refine WE.ret ?_
   refine WQ.blkR ?_
   refine WQ.thenR ?_
   refine WQ.thenR ?_
   refine WQ.blkR ?_
   refine WQ.thenR ?_
   refine WQ.ret (v := .bool false) (by kernel_rfl) ?_
   first | exact ⟨congrArg (fun b => Ending.returned (Value.bool b)) (by rw [may_no (i := i) (by omega) (by simp [*])]), HA⟩ | exact ⟨congrArg (fun b => Ending.returned (Value.bool b)) (by rw [may_all (fun j hj => hbe j (by omega))]; rw [Bool.eq_iff_iff]; first | (simp only [show isWord ev.name = true from by assumption, Bool.and_eq_true, decide_eq_true_eq, Bool.false_eq_true, true_iff, false_iff, true_and, and_true, false_and, not_false_eq_true]; omega) | (simp only [show isWord ev.name = false from by assumption, Bool.and_eq_true, decide_eq_true_eq, Bool.false_eq_true, true_iff, false_iff, true_and, and_true, false_and, not_false_eq_true]; done)), HA⟩
 intro h6
 refine WO.done (by kernel_rfl) ?_
 refine WQ.keep [0, 1, 2, 6, 7, 8, 9] (e' := [(0, .agg #[.string (str ev.name), .slice A n cp, .int .i64 ev.kind, .int .i64 ev.value, .int .i64 ev.time]), (1, .pointer (some ⟨g1, 0, none⟩)), (2, .bool false), (6, .slice A n cp), (7, .int .i64 (n : Int)), (8, .int .i64 (i : Int)), (9, .bool false)]) (by kernel_rfl) ?_
 refine WQ.thenN ?_
 refine WE.seq ?_
 refine WE.condF (by kernel_rfl) ?_
 refine WE.exit ?_
 refine WQ.thenE ?_
 refine WQ.thenE ?_
 refine WQ.blkE ?_
 refine WQ.thenN ?_
 refine WE.seq ?_
 refine WE.region ?_
 refine WO.run 1 0 [(23, .pointer (some ⟨g1, 0, none⟩))] (by kernel_rfl) (by kernel_rfl) ?_
 refine WO.ld (SQ.S 1 (by kernel_rfl)) 24 (.string (str ev.name)) (by kernel_rfl) (same (HB.at 0 (by kernel_rfl))) ?_
 refine WO.call (SQ.E 2 (by kernel_rfl)) 25 (by kernel_rfl) (word_l ev.name _ (by first | exact hln | exact (hlt _ (gT_mem (by omega))).1 | exact (hlt _ (gT_mem (by omega))).2)) ?_
 rintro _ w23 ⟨rfl, F24⟩
 refine ⟨_, rfl, trivial, ?_⟩
 have HB := Blk.keep HB F24 (nin0 _)
 have HT := HT.keep F24 (fun _ _ => nin0 _)
 have HA := Fr.step0 HA F24
 rcases Bool.eq_false_or_eq_true (isWord ev.name) with h25 | h25
 ·
  rw [h25]
  refine WO.run 2 3 [(27, .pointer (some ⟨g1, 1, none⟩)), (26, .bool true)] (by kernel_rfl) (by kernel_rfl) ?_
  refine WO.ld (SQ.S 5 (by kernel_rfl)) 28 (.slice A n cp) (by kernel_rfl) (same (HB.at 1 (by kernel_rfl))) ?_
  refine WO.run 1 6 [(29, .int .i64 (n : Int))] (by kernel_rfl) (by kernel_rfl) ?_
  refine WO.one (SQ.F 7 (by kernel_rfl)) 30 (.bool (decide (((n : Int) : Int) ≤ (6 : Int)))) (by kernel_rfl) ?_
  refine WO.topP (((n : Int) : Int) ≤ (6 : Int)) ?_ ?_
  ·
   intro h26
   refine WO.run 3 8 [(33, .pointer (some ⟨g1, 2, none⟩)), (32, .bool true), (31, .bool true)] (by kernel_rfl) (by kernel_rfl) ?_
   refine WO.ld (SQ.S 11 (by kernel_rfl)) 34 (.int .i64 ev.kind) (by kernel_rfl) (same (HB.at 2 (by kernel_rfl))) ?_
   refine WO.one (SQ.F 12 (by kernel_rfl)) 35 (.bool (decide ((ev.kind : Int) ≥ 1))) (by kernel_rfl) ?_
   refine WO.topP ((ev.kind : Int) ≥ 1) ?_ ?_
   ·
    intro h27
    refine WO.run 3 13 [(38, .pointer (some ⟨g1, 2, none⟩)), (37, .bool true), (36, .bool true)] (by kernel_rfl) (by kernel_rfl) ?_
    refine WO.ld (SQ.S 16 (by kernel_rfl)) 39 (.int .i64 ev.kind) (by kernel_rfl) (same (HB.at 2 (by kernel_rfl))) ?_
    refine WO.one (SQ.F 17 (by kernel_rfl)) 40 (.bool (decide ((ev.kind : Int) ≤ 3))) (by kernel_rfl) ?_
    refine WO.topP ((ev.kind : Int) ≤ 3) ?_ ?_
    ·
     intro h28
     refine WO.run 3 18 [(43, .pointer (some ⟨g1, 4, none⟩)), (42, .bool true), (41, .bool true)] (by kernel_rfl) (by kernel_rfl) ?_
     refine WO.ld (SQ.S 21 (by kernel_rfl)) 44 (.int .i64 ev.time) (by kernel_rfl) (same (HB.at 4 (by kernel_rfl))) ?_
     refine WO.one (SQ.F 22 (by kernel_rfl)) 45 (.bool (decide ((ev.time : Int) ≥ 0))) (by kernel_rfl) ?_
     refine WO.topP ((ev.time : Int) ≥ 0) ?_ ?_
     ·
      intro h29
      refine WO.run 3 23 [(48, .pointer (some ⟨g1, 4, none⟩)), (47, .bool true), (46, .bool true)] (by kernel_rfl) (by kernel_rfl) ?_
      refine WO.ld (SQ.S 26 (by kernel_rfl)) 49 (.int .i64 ev.time) (by kernel_rfl) (same (HB.at 4 (by kernel_rfl))) ?_
      refine WO.run 3 27 [(2, .bool (decide ((ev.time : Int) ≤ 1099511627776))), (51, .bool (decide ((ev.time : Int) ≤ 1099511627776))), (50, .bool (decide ((ev.time : Int) ≤ 1099511627776)))] (by kernel_rfl) (by kernel_rfl) ?_
      refine WO.done (by kernel_rfl) ?_
      refine WQ.keep [0, 1, 2, 6, 7, 8, 9] (e' := [(0, .agg #[.string (str ev.name), .slice A n cp, .int .i64 ev.kind, .int .i64 ev.value, .int .i64 ev.time]), (1, .pointer (some ⟨g1, 0, none⟩)), (2, .bool (decide ((ev.time : Int) ≤ 1099511627776))), (6, .slice A n cp), (7, .int .i64 (n : Int)), (8, .int .i64 (i : Int)), (9, .bool false)]) (by kernel_rfl) ?_
      refine WQ.thenN ?_
      refine WE.ret ?_
      refine WQ.ret (v := .bool (decide ((ev.time : Int) ≤ 1099511627776))) (by kernel_rfl) ?_
      first | exact ⟨congrArg (fun b => Ending.returned (Value.bool b)) (by rw [may_no (i := i) (by omega) (by simp [*])]), HA⟩ | exact ⟨congrArg (fun b => Ending.returned (Value.bool b)) (by rw [may_all (fun j hj => hbe j (by omega))]; rw [Bool.eq_iff_iff]; first | (simp only [show isWord ev.name = true from by assumption, Bool.and_eq_true, decide_eq_true_eq, Bool.false_eq_true, true_iff, false_iff, true_and, and_true, false_and, not_false_eq_true]; omega) | (simp only [show isWord ev.name = false from by assumption, Bool.and_eq_true, decide_eq_true_eq, Bool.false_eq_true, true_iff, false_iff, true_and, and_true, false_and, not_false_eq_true]; done)), HA⟩
     intro h29
     refine WO.run 7 23 [(2, .bool false), (51, .bool false), (50, undef), (49, undef), (48, undef), (47, .bool false), (46, .bool false)] (by kernel_rfl) (by kernel_rfl) ?_
     refine WO.done (by kernel_rfl) ?_
     refine WQ.keep [0, 1, 2, 6, 7, 8, 9] (e' := [(0, .agg #[.string (str ev.name), .slice A n cp, .int .i64 ev.kind, .int .i64 ev.value, .int .i64 ev.time]), (1, .pointer (some ⟨g1, 0, none⟩)), (2, .bool false), (6, .slice A n cp), (7, .int .i64 (n : Int)), (8, .int .i64 (i : Int)), (9, .bool false)]) (by kernel_rfl) ?_
     refine WQ.thenN ?_
     refine WE.ret ?_
     refine WQ.ret (v := .bool false) (by kernel_rfl) ?_
     first | exact ⟨congrArg (fun b => Ending.returned (Value.bool b)) (by rw [may_no (i := i) (by omega) (by simp [*])]), HA⟩ | exact ⟨congrArg (fun b => Ending.returned (Value.bool b)) (by rw [may_all (fun j hj => hbe j (by omega))]; rw [Bool.eq_iff_iff]; first | (simp only [show isWord ev.name = true from by assumption, Bool.and_eq_true, decide_eq_true_eq, Bool.false_eq_true, true_iff, false_iff, true_and, and_true, false_and, not_false_eq_true]; omega) | (simp only [show isWord ev.name = false from by assumption, Bool.and_eq_true, decide_eq_true_eq, Bool.false_eq_true, true_iff, false_iff, true_and, and_true, false_and, not_false_eq_true]; done)), HA⟩
    intro h28
    refine WO.run 12 18 [(2, .bool false), (51, .bool false), (50, undef), (49, undef), (48, undef), (47, .bool false), (46, .bool false), (45, undef), (44, undef), (43, undef), (42, .bool false), (41, .bool false)] (by kernel_rfl) (by kernel_rfl) ?_
    refine WO.done (by kernel_rfl) ?_
    refine WQ.keep [0, 1, 2, 6, 7, 8, 9] (e' := [(0, .agg #[.string (str ev.name), .slice A n cp, .int .i64 ev.kind, .int .i64 ev.value, .int .i64 ev.time]), (1, .pointer (some ⟨g1, 0, none⟩)), (2, .bool false), (6, .slice A n cp), (7, .int .i64 (n : Int)), (8, .int .i64 (i : Int)), (9, .bool false)]) (by kernel_rfl) ?_
    refine WQ.thenN ?_
    refine WE.ret ?_
    refine WQ.ret (v := .bool false) (by kernel_rfl) ?_
    first | exact ⟨congrArg (fun b => Ending.returned (Value.bool b)) (by rw [may_no (i := i) (by omega) (by simp [*])]), HA⟩ | exact ⟨congrArg (fun b => Ending.returned (Value.bool b)) (by rw [may_all (fun j hj => hbe j (by omega))]; rw [Bool.eq_iff_iff]; first | (simp only [show isWord ev.name = true from by assumption, Bool.and_eq_true, decide_eq_true_eq, Bool.false_eq_true, true_iff, false_iff, true_and, and_true, false_and, not_false_eq_true]; omega) | (simp only [show isWord ev.name = false from by assumption, Bool.and_eq_true, decide_eq_true_eq, Bool.false_eq_true, true_iff, false_iff, true_and, and_true, false_and, not_false_eq_true]; done)), HA⟩
   intro h27
   refine WO.run 17 13 [(2, .bool false), (51, .bool false), (50, undef), (49, undef), (48, undef), (47, .bool false), (46, .bool false), (45, undef), (44, undef), (43, undef), (42, .bool false), (41, .bool false), (40, undef), (39, undef), (38, undef), (37, .bool false), (36, .bool false)] (by kernel_rfl) (by kernel_rfl) ?_
   refine WO.done (by kernel_rfl) ?_
   refine WQ.keep [0, 1, 2, 6, 7, 8, 9] (e' := [(0, .agg #[.string (str ev.name), .slice A n cp, .int .i64 ev.kind, .int .i64 ev.value, .int .i64 ev.time]), (1, .pointer (some ⟨g1, 0, none⟩)), (2, .bool false), (6, .slice A n cp), (7, .int .i64 (n : Int)), (8, .int .i64 (i : Int)), (9, .bool false)]) (by kernel_rfl) ?_
   refine WQ.thenN ?_
   refine WE.ret ?_
   refine WQ.ret (v := .bool false) (by kernel_rfl) ?_
   first | exact ⟨congrArg (fun b => Ending.returned (Value.bool b)) (by rw [may_no (i := i) (by omega) (by simp [*])]), HA⟩ | exact ⟨congrArg (fun b => Ending.returned (Value.bool b)) (by rw [may_all (fun j hj => hbe j (by omega))]; rw [Bool.eq_iff_iff]; first | (simp only [show isWord ev.name = true from by assumption, Bool.and_eq_true, decide_eq_true_eq, Bool.false_eq_true, true_iff, false_iff, true_and, and_true, false_and, not_false_eq_true]; omega) | (simp only [show isWord ev.name = false from by assumption, Bool.and_eq_true, decide_eq_true_eq, Bool.false_eq_true, true_iff, false_iff, true_and, and_true, false_and, not_false_eq_true]; done)), HA⟩
  intro h26
  refine WO.run 22 8 [(2, .bool false), (51, .bool false), (50, undef), (49, undef), (48, undef), (47, .bool false), (46, .bool false), (45, undef), (44, undef), (43, undef), (42, .bool false), (41, .bool false), (40, undef), (39, undef), (38, undef), (37, .bool false), (36, .bool false), (35, undef), (34, undef), (33, undef), (32, .bool false), (31, .bool false)] (by kernel_rfl) (by kernel_rfl) ?_
  refine WO.done (by kernel_rfl) ?_
  refine WQ.keep [0, 1, 2, 6, 7, 8, 9] (e' := [(0, .agg #[.string (str ev.name), .slice A n cp, .int .i64 ev.kind, .int .i64 ev.value, .int .i64 ev.time]), (1, .pointer (some ⟨g1, 0, none⟩)), (2, .bool false), (6, .slice A n cp), (7, .int .i64 (n : Int)), (8, .int .i64 (i : Int)), (9, .bool false)]) (by kernel_rfl) ?_
  refine WQ.thenN ?_
  refine WE.ret ?_
  refine WQ.ret (v := .bool false) (by kernel_rfl) ?_
  first | exact ⟨congrArg (fun b => Ending.returned (Value.bool b)) (by rw [may_no (i := i) (by omega) (by simp [*])]), HA⟩ | exact ⟨congrArg (fun b => Ending.returned (Value.bool b)) (by rw [may_all (fun j hj => hbe j (by omega))]; rw [Bool.eq_iff_iff]; first | (simp only [show isWord ev.name = true from by assumption, Bool.and_eq_true, decide_eq_true_eq, Bool.false_eq_true, true_iff, false_iff, true_and, and_true, false_and, not_false_eq_true]; omega) | (simp only [show isWord ev.name = false from by assumption, Bool.and_eq_true, decide_eq_true_eq, Bool.false_eq_true, true_iff, false_iff, true_and, and_true, false_and, not_false_eq_true]; done)), HA⟩
 ·
  rw [h25]
  refine WO.run 27 3 [(2, .bool false), (51, .bool false), (50, undef), (49, undef), (48, undef), (47, .bool false), (46, .bool false), (45, undef), (44, undef), (43, undef), (42, .bool false), (41, .bool false), (40, undef), (39, undef), (38, undef), (37, .bool false), (36, .bool false), (35, undef), (34, undef), (33, undef), (32, .bool false), (31, .bool false), (30, undef), (29, undef), (28, undef), (27, undef), (26, .bool false)] (by kernel_rfl) (by kernel_rfl) ?_
  refine WO.done (by kernel_rfl) ?_
  refine WQ.keep [0, 1, 2, 6, 7, 8, 9] (e' := [(0, .agg #[.string (str ev.name), .slice A n cp, .int .i64 ev.kind, .int .i64 ev.value, .int .i64 ev.time]), (1, .pointer (some ⟨g1, 0, none⟩)), (2, .bool false), (6, .slice A n cp), (7, .int .i64 (n : Int)), (8, .int .i64 (i : Int)), (9, .bool false)]) (by kernel_rfl) ?_
  refine WQ.thenN ?_
  refine WE.ret ?_
  refine WQ.ret (v := .bool false) (by kernel_rfl) ?_
  first | exact ⟨congrArg (fun b => Ending.returned (Value.bool b)) (by rw [may_no (i := i) (by omega) (by simp [*])]), HA⟩ | exact ⟨congrArg (fun b => Ending.returned (Value.bool b)) (by rw [may_all (fun j hj => hbe j (by omega))]; rw [Bool.eq_iff_iff]; first | (simp only [show isWord ev.name = true from by assumption, Bool.and_eq_true, decide_eq_true_eq, Bool.false_eq_true, true_iff, false_iff, true_and, and_true, false_and, not_false_eq_true]; omega) | (simp only [show isWord ev.name = false from by assumption, Bool.and_eq_true, decide_eq_true_eq, Bool.false_eq_true, true_iff, false_iff, true_and, and_true, false_and, not_false_eq_true]; done)), HA⟩
set_option maxRecDepth 100000 in
set_option maxHeartbeats 1000000 in
theorem may_r (ev : Ev) (A : Option Addr) (n cp : Nat) (F : List Nat) (w : World) (HT : VX cT 2 w F A ev.tags) (hn : ev.tags.length = n) (hnn : n ≤ 9223372036854775807) (hln : ev.name.length ≤ 9223372036854775807) (hlt : ∀ t ∈ ev.tags, t.1.length ≤ 9223372036854775807 ∧ t.2.length ≤ 9223372036854775807) :
  Calls Tryd.prog 24 #[.agg #[.string (str ev.name), .slice A n cp, .int .i64 ev.kind, .int .i64 ev.value, .int .i64 ev.time]] w fun e w' => e = .returned (.bool (mayE ev)) ∧ Fr [] w w' := by
 have HA := Fr.refl [] w
 refine enter (N := 64) Tryd.func24 (c := _) rfl (by kernel_rfl) (by kernel_rfl) (e := [(0, .agg #[.string (str ev.name), .slice A n cp, .int .i64 ev.kind, .int .i64 ev.value, .int .i64 ev.time])]) (by kernel_rfl) ?_
 refine WE.seq ?_
 refine WE.region ?_
 refine WO.bx (SQ.E 0 (by kernel_rfl)) 1 #[.string (str ev.name), .slice A n cp, .int .i64 ev.kind, .int .i64 ev.value, .int .i64 ev.time] 25 (fun g => .pointer (some ⟨g, 0, none⟩)) (by kernel_rfl) (fun _ _ => trivial) ?_
 intro g1 w2 HB4 F3 le5 _
 have nin_g1_F : g1 ∉ F := new_nin HT.lt le5
 have ge_HA_g1 := Nat.le_trans HA.size le5
 have HT := HT.keep F3 (fun _ _ => nin0 _)
 have HA := Fr.step0 HA F3
 refine WO.run 1 1 [(2, .bool false)] (by kernel_rfl) (by kernel_rfl) ?_
 refine WO.done (by kernel_rfl) ?_
 refine WQ.keep [0, 1, 2] (e' := [(0, .agg #[.string (str ev.name), .slice A n cp, .int .i64 ev.kind, .int .i64 ev.value, .int .i64 ev.time]), (1, .pointer (some ⟨g1, 0, none⟩)), (2, .bool false)]) (by kernel_rfl) ?_
 refine WQ.thenN ?_
 refine WE.seq ?_
 refine WE.seq ?_
 refine WE.region ?_
 refine WO.run 1 0 [(3, .int .i64 0)] (by kernel_rfl) (by kernel_rfl) ?_
 refine WO.done (by kernel_rfl) ?_
 refine WQ.keep [0, 1, 2, 3] (e' := [(0, .agg #[.string (str ev.name), .slice A n cp, .int .i64 ev.kind, .int .i64 ev.value, .int .i64 ev.time]), (1, .pointer (some ⟨g1, 0, none⟩)), (2, .bool false), (3, .int .i64 0)]) (by kernel_rfl) ?_
 refine WQ.thenN ?_
 refine WE.block ?_
 refine WE.loop (α := Nat) (E := fun i => [(0, .agg #[.string (str ev.name), .slice A n cp, .int .i64 ev.kind, .int .i64 ev.value, .int .i64 ev.time]), (1, .pointer (some ⟨g1, 0, none⟩)), (2, .bool false), (3, .int .i64 (i : Int))]) (I := fun i wr => i ≤ n ∧ (∀ j, j < i → (fun t : L × L => isWord t.1 && isWord t.2) (gT ev.tags j) = true) ∧ Blk wr g1 #[.string (str ev.name), .slice A n cp, .int .i64 ev.kind, .int .i64 ev.value, .int .i64 ev.time] 25 ∧ VX cT 2 wr F A ev.tags ∧ Fr [] w wr) (m := fun i => n - i) 0 [0, 1, 2, 3] (by kernel_rfl) ?_ ?_
 ·
  exact ⟨Nat.zero_le _, fun j hj => absurd hj (Nat.not_lt_zero j), HB4, HT, HA⟩
 rintro i wr ⟨hi, hbe, HB, HT, HA⟩
 refine WE.seq ?_
 refine WE.seq ?_
 refine WE.region ?_
 refine WO.run 2 0 [(8, .pointer (some ⟨g1, 1, none⟩)), (7, .int .i64 (i : Int))] (by kernel_rfl) (by kernel_rfl) ?_
 refine WO.ld (SQ.S 2 (by kernel_rfl)) 9 (.slice A n cp) (by kernel_rfl) (same (HB.at 1 (by kernel_rfl))) ?_
 refine WO.run 1 3 [(10, .int .i64 (n : Int))] (by kernel_rfl) (by kernel_rfl) ?_
 refine WO.one (SQ.F 4 (by kernel_rfl)) 11 (.bool (decide (((i : Int) : Int) < (n : Int)))) (by kernel_rfl) ?_
 refine WO.topP (((i : Int) : Int) < (n : Int)) ?_ ?_
 ·
  intro h6
  refine WO.done (by kernel_rfl) ?_
  refine WQ.keep [0, 1, 2, 3, 11] (e' := [(0, .agg #[.string (str ev.name), .slice A n cp, .int .i64 ev.kind, .int .i64 ev.value, .int .i64 ev.time]), (1, .pointer (some ⟨g1, 0, none⟩)), (2, .bool false), (3, .int .i64 (i : Int)), (11, .bool true)]) (by kernel_rfl) ?_
  refine WQ.thenN ?_
  refine WE.condT (by kernel_rfl) ?_
  refine WE.skip ?_
  refine WQ.thenN ?_
  refine WE.seq ?_
  refine WE.block ?_
  refine WE.seq ?_
  refine WE.region ?_
  refine WO.run 1 0 [(14, .pointer (some ⟨g1, 1, none⟩))] (by kernel_rfl) (by kernel_rfl) ?_
  refine WO.ld (SQ.S 1 (by kernel_rfl)) 15 (.slice A n cp) (by kernel_rfl) (same (HB.at 1 (by kernel_rfl))) ?_
  refine WO.run 1 2 [(16, .int .i64 (i : Int))] (by kernel_rfl) (by kernel_rfl) ?_
  obtain ⟨ad7, hA8⟩ := HT.addr (i := i) (by have := hn; omega)
  refine WO.ixo (SQ.F 3 (by kernel_rfl)) 17 n 2 i (i : Int) hA8 (by kernel_rfl) rfl (by omega) ?_
  refine WO.run 1 4 [(18, .pointer (some (ad7.add (i * 2))))] (by kernel_rfl) (by kernel_rfl) ?_
  refine WO.ld (SQ.S 5 (by kernel_rfl)) 19 (.string (str (gT ev.tags i).1)) (by kernel_rfl) (same (HT.at0 hA8 (gT_some ev.tags i (by have := hn; omega)) (by kernel_rfl))) ?_
  refine WO.call (SQ.E 6 (by kernel_rfl)) 20 (by kernel_rfl) (word_r ((gT ev.tags i).1) _ (by first | exact hln | exact (hlt _ (gT_mem (by omega))).1 | exact (hlt _ (gT_mem (by omega))).2)) ?_
  rintro _ w9 ⟨rfl, F10⟩
  refine ⟨_, rfl, trivial, ?_⟩
  have HB := Blk.keep HB F10 (nin0 _)
  have HT := HT.keep F10 (fun _ _ => nin0 _)
  have HA := Fr.step0 HA F10
  rcases Bool.eq_false_or_eq_true (isWord ((gT ev.tags i).1)) with h11 | h11
  ·
   rw [h11]
   refine WO.run 1 7 [(4, .bool true)] (by kernel_rfl) (by kernel_rfl) ?_
   refine WO.done (by kernel_rfl) ?_
   refine WQ.keep [0, 1, 2, 3, 4, 11] (e' := [(0, .agg #[.string (str ev.name), .slice A n cp, .int .i64 ev.kind, .int .i64 ev.value, .int .i64 ev.time]), (1, .pointer (some ⟨g1, 0, none⟩)), (2, .bool false), (3, .int .i64 (i : Int)), (4, .bool true), (11, .bool true)]) (by kernel_rfl) ?_
   refine WQ.thenN ?_
   refine WE.seq ?_
   refine WE.region ?_
   refine WO.run 1 0 [(21, .pointer (some ⟨g1, 1, none⟩))] (by kernel_rfl) (by kernel_rfl) ?_
   refine WO.ld (SQ.S 1 (by kernel_rfl)) 22 (.slice A n cp) (by kernel_rfl) (same (HB.at 1 (by kernel_rfl))) ?_
   refine WO.run 1 2 [(23, .int .i64 (i : Int))] (by kernel_rfl) (by kernel_rfl) ?_
   obtain ⟨ad12, hA13⟩ := HT.addr (i := i) (by have := hn; omega)
   refine WO.ixo (SQ.F 3 (by kernel_rfl)) 24 n 2 i (i : Int) hA13 (by kernel_rfl) rfl (by omega) ?_
   refine WO.run 1 4 [(25, .pointer (some ((ad12.add (i * 2)).add 1)))] (by kernel_rfl) (by kernel_rfl) ?_
   refine WO.ld (SQ.S 5 (by kernel_rfl)) 26 (.string (str (gT ev.tags i).2)) (by kernel_rfl) (same (HT.at hA13 (gT_some ev.tags i (by have := hn; omega)) 1 (by kernel_rfl))) ?_
   refine WO.call (SQ.E 6 (by kernel_rfl)) 27 (by kernel_rfl) (word_r ((gT ev.tags i).2) _ (by first | exact hln | exact (hlt _ (gT_mem (by omega))).1 | exact (hlt _ (gT_mem (by omega))).2)) ?_
   rintro _ w14 ⟨rfl, F15⟩
   refine ⟨_, rfl, trivial, ?_⟩
   have HB := Blk.keep HB F15 (nin0 _)
   have HT := HT.keep F15 (fun _ _ => nin0 _)
   have HA := Fr.step0 HA F15
   rcases Bool.eq_false_or_eq_true (isWord ((gT ev.tags i).2)) with h16 | h16
   ·
    rw [h16]
    refine WO.run 1 7 [(5, .bool true)] (by kernel_rfl) (by kernel_rfl) ?_
    refine WO.done (by kernel_rfl) ?_
    refine WQ.keep [0, 1, 2, 3, 4, 5, 11] (e' := [(0, .agg #[.string (str ev.name), .slice A n cp, .int .i64 ev.kind, .int .i64 ev.value, .int .i64 ev.time]), (1, .pointer (some ⟨g1, 0, none⟩)), (2, .bool false), (3, .int .i64 (i : Int)), (4, .bool true), (5, .bool true), (11, .bool true)]) (by kernel_rfl) ?_
    refine WQ.thenN ?_
    refine WE.seq ?_
    refine WE.region ?_
    refine WO.run 6 0 [(33, .bool false), (32, .bool false), (31, .bool true), (30, .bool false), (29, .bool false), (28, .bool true)] (by kernel_rfl) (by kernel_rfl) ?_
    refine WO.done (by kernel_rfl) ?_
    refine WQ.keep [0, 1, 2, 3, 4, 5, 11, 33] (e' := [(0, .agg #[.string (str ev.name), .slice A n cp, .int .i64 ev.kind, .int .i64 ev.value, .int .i64 ev.time]), (1, .pointer (some ⟨g1, 0, none⟩)), (2, .bool false), (3, .int .i64 (i : Int)), (4, .bool true), (5, .bool true), (11, .bool true), (33, .bool false)]) (by kernel_rfl) ?_
    refine WQ.thenN ?_
    refine WE.condF (by kernel_rfl) ?_
    refine WE.skip ?_
    refine WQ.blkN ?_
    refine WQ.thenN ?_
    refine WE.region ?_
    refine WO.run 1 0 [(12, .int .i64 (i : Int))] (by kernel_rfl) (by kernel_rfl) ?_
    refine WO.one (SQ.F 1 (by kernel_rfl)) 13 (.int .i64 (IntKind.i64.wrap ((i : Int) + 1))) (by kernel_rfl) ?_
    refine WO.top (v' := .int .i64 ((i + 1 : Nat) : Int)) (wrap_i64 (by omega) (by omega)) ?_
    refine WO.run 1 2 [(3, .int .i64 ((i + 1 : Nat) : Int))] (by kernel_rfl) (by kernel_rfl) ?_
    refine WO.done (by kernel_rfl) ?_
    refine WQ.keep [0, 1, 2, 3, 4, 5, 11, 33] (e' := [(0, .agg #[.string (str ev.name), .slice A n cp, .int .i64 ev.kind, .int .i64 ev.value, .int .i64 ev.time]), (1, .pointer (some ⟨g1, 0, none⟩)), (2, .bool false), (3, .int .i64 ((i + 1 : Nat) : Int)), (4, .bool true), (5, .bool true), (11, .bool true), (33, .bool false)]) (by kernel_rfl) ?_
    refine WQ.round ?_
    intro a_ ha_
    refine ⟨i + 1, ?_, ha_.keep [0, 1, 2, 3] (by kernel_rfl), ?_⟩
    ·
     omega
    ·
     exact ⟨by omega, fun j hj => (Nat.lt_succ_iff_lt_or_eq.1 hj).elim (hbe j) (fun h_ => by rw [h_]; simp [*]), HB, HT, HA⟩
   ·
    rw [h16]
    refine WO.run 1 7 [(5, .bool false)] (by kernel_rfl) (by kernel_rfl) ?_
    refine WO.done (by kernel_rfl) ?_
    refine WQ.keep [0, 1, 2, 3, 4, 5, 11] (e' := [(0, .agg #[.string (str ev.name), .slice A n cp, .int .i64 ev.kind, .int .i64 ev.value, .int .i64 ev.time]), (1, .pointer (some ⟨g1, 0, none⟩)), (2, .bool false), (3, .int .i64 (i : Int)), (4, .bool true), (5, .bool false), (11, .bool true)]) (by kernel_rfl) ?_
    refine WQ.thenN ?_
    refine WE.seq ?_
    refine WE.region ?_
    refine WO.run 6 0 [(33, .bool true), (32, .bool true), (31, .bool false), (30, .bool false), (29, .bool false), (28, .bool true)] (by kernel_rfl) (by kernel_rfl) ?_
    refine WO.done (by kernel_rfl) ?_
    refine WQ.keep [0, 1, 2, 3, 4, 5, 11, 33] (e' := [(0, .agg #[.string (str ev.name), .slice A n cp, .int .i64 ev.kind, .int .i64 ev.value, .int .i64 ev.time]), (1, .pointer (some ⟨g1, 0, none⟩)), (2, .bool false), (3, .int .i64 (i : Int)), (4, .bool true), (5, .bool false), (11, .bool true), (33, .bool true)]) (by kernel_rfl) ?_
    refine WQ.thenN ?_
    refine WE.condT (by kernel_rfl) ?_
    refine WE.seq ?_
    refine WE.region ?_
    refine WO.run 1 0 [(2, .bool false)] (by kernel_rfl) (by kernel_rfl) ?_
    refine WO.done (by kernel_rfl) ?_
    refine WQ.keep [0, 1, 2, 3, 4, 5, 11, 33] (e' := [(0, .agg #[.string (str ev.name), .slice A n cp, .int .i64 ev.kind, .int .i64 ev.value, .int .i64 ev.time]), (1, .pointer (some ⟨g1, 0, none⟩)), (2, .bool false), (3, .int .i64 (i : Int)), (4, .bool true), (5, .bool false), (11, .bool true), (33, .bool true)]) (by kernel_rfl) ?_
    refine WQ.thenN ?_
    refine WE.ret ?_
    refine WQ.blkR ?_
    refine WQ.thenR ?_
    refine WQ.thenR ?_
    refine WQ.blkR ?_
    refine WQ.thenR ?_
    refine WQ.ret (v := .bool false) (by kernel_rfl) ?_
    first | exact ⟨congrArg (fun b => Ending.returned (Value.bool b)) (by rw [may_no (i := i) (by omega) (by simp [*])]), HA⟩ | exact ⟨congrArg (fun b => Ending.returned (Value.bool b)) (by rw [may_all (fun j hj => hbe j (by omega))]; rw [Bool.eq_iff_iff]; first | (simp only [show isWord ev.name = true from by assumption, Bool.and_eq_true, decide_eq_true_eq, Bool.false_eq_true, true_iff, false_iff, true_and, and_true, false_and, not_false_eq_true]; omega) | (simp only [show isWord ev.name = false from by assumption, Bool.and_eq_true, decide_eq_true_eq, Bool.false_eq_true, true_iff, false_iff, true_and, and_true, false_and, not_false_eq_true]; done)), HA⟩
  ·
   rw [h11]
   refine WO.run 1 7 [(4, .bool false)] (by kernel_rfl) (by kernel_rfl) ?_
   refine WO.done (by kernel_rfl) ?_
   refine WQ.keep [0, 1, 2, 3, 4, 11] (e' := [(0, .agg #[.string (str ev.name), .slice A n cp, .int .i64 ev.kind, .int .i64 ev.value, .int .i64 ev.time]), (1, .pointer (some ⟨g1, 0, none⟩)), (2, .bool false), (3, .int .i64 (i : Int)), (4, .bool false), (11, .bool true)]) (by kernel_rfl) ?_
   refine WQ.thenN ?_
   refine WE.seq ?_
   refine WE.region ?_
   refine WO.run 1 0 [(21, .pointer (some ⟨g1, 1, none⟩))] (by kernel_rfl) (by kernel_rfl) ?_
   refine WO.ld (SQ.S 1 (by kernel_rfl)) 22 (.slice A n cp) (by kernel_rfl) (same (HB.at 1 (by kernel_rfl))) ?_
   refine WO.run 1 2 [(23, .int .i64 (i : Int))] (by kernel_rfl) (by kernel_rfl) ?_
   obtain ⟨ad17, hA18⟩ := HT.addr (i := i) (by have := hn; omega)
   refine WO.ixo (SQ.F 3 (by kernel_rfl)) 24 n 2 i (i : Int) hA18 (by kernel_rfl) rfl (by omega) ?_
   refine WO.run 1 4 [(25, .pointer (some ((ad17.add (i * 2)).add 1)))] (by kernel_rfl) (by kernel_rfl) ?_
   refine WO.ld (SQ.S 5 (by kernel_rfl)) 26 (.string (str (gT ev.tags i).2)) (by kernel_rfl) (same (HT.at hA18 (gT_some ev.tags i (by have := hn; omega)) 1 (by kernel_rfl))) ?_
   refine WO.call (SQ.E 6 (by kernel_rfl)) 27 (by kernel_rfl) (word_r ((gT ev.tags i).2) _ (by first | exact hln | exact (hlt _ (gT_mem (by omega))).1 | exact (hlt _ (gT_mem (by omega))).2)) ?_
   rintro _ w19 ⟨rfl, F20⟩
   refine ⟨_, rfl, trivial, ?_⟩
   have HB := Blk.keep HB F20 (nin0 _)
   have HT := HT.keep F20 (fun _ _ => nin0 _)
   have HA := Fr.step0 HA F20
   rcases Bool.eq_false_or_eq_true (isWord ((gT ev.tags i).2)) with h21 | h21
   ·
    rw [h21]
    refine WO.run 1 7 [(5, .bool true)] (by kernel_rfl) (by kernel_rfl) ?_
    refine WO.done (by kernel_rfl) ?_
    refine WQ.keep [0, 1, 2, 3, 4, 5, 11] (e' := [(0, .agg #[.string (str ev.name), .slice A n cp, .int .i64 ev.kind, .int .i64 ev.value, .int .i64 ev.time]), (1, .pointer (some ⟨g1, 0, none⟩)), (2, .bool false), (3, .int .i64 (i : Int)), (4, .bool false), (5, .bool true), (11, .bool true)]) (by kernel_rfl) ?_
    refine WQ.thenN ?_
    refine WE.seq ?_
    refine WE.region ?_
    refine WO.run 6 0 [(33, .bool true), (32, undef), (31, undef), (30, .bool true), (29, .bool true), (28, .bool false)] (by kernel_rfl) (by kernel_rfl) ?_
    refine WO.done (by kernel_rfl) ?_
    refine WQ.keep [0, 1, 2, 3, 4, 5, 11, 33] (e' := [(0, .agg #[.string (str ev.name), .slice A n cp, .int .i64 ev.kind, .int .i64 ev.value, .int .i64 ev.time]), (1, .pointer (some ⟨g1, 0, none⟩)), (2, .bool false), (3, .int .i64 (i : Int)), (4, .bool false), (5, .bool true), (11, .bool true), (33, .bool true)]) (by kernel_rfl) ?_
    refine WQ.thenN ?_
    refine WE.condT (by kernel_rfl) ?_
    refine WE.seq ?_
    refine WE.region ?_
    refine WO.run 1 0 [(2, .bool false)] (by kernel_rfl) (by kernel_rfl) ?_
    refine WO.done (by kernel_rfl) ?_
    refine WQ.keep [0, 1, 2, 3, 4, 5, 11, 33] (e' := [(0, .agg #[.string (str ev.name), .slice A n cp, .int .i64 ev.kind, .int .i64 ev.value, .int .i64 ev.time]), (1, .pointer (some ⟨g1, 0, none⟩)), (2, .bool false), (3, .int .i64 (i : Int)), (4, .bool false), (5, .bool true), (11, .bool true), (33, .bool true)]) (by kernel_rfl) ?_
    refine WQ.thenN ?_
    refine WE.ret ?_
    refine WQ.blkR ?_
    refine WQ.thenR ?_
    refine WQ.thenR ?_
    refine WQ.blkR ?_
    refine WQ.thenR ?_
    refine WQ.ret (v := .bool false) (by kernel_rfl) ?_
    first | exact ⟨congrArg (fun b => Ending.returned (Value.bool b)) (by rw [may_no (i := i) (by omega) (by simp [*])]), HA⟩ | exact ⟨congrArg (fun b => Ending.returned (Value.bool b)) (by rw [may_all (fun j hj => hbe j (by omega))]; rw [Bool.eq_iff_iff]; first | (simp only [show isWord ev.name = true from by assumption, Bool.and_eq_true, decide_eq_true_eq, Bool.false_eq_true, true_iff, false_iff, true_and, and_true, false_and, not_false_eq_true]; omega) | (simp only [show isWord ev.name = false from by assumption, Bool.and_eq_true, decide_eq_true_eq, Bool.false_eq_true, true_iff, false_iff, true_and, and_true, false_and, not_false_eq_true]; done)), HA⟩
   ·
    rw [h21]
    refine WO.run 1 7 [(5, .bool false)] (by kernel_rfl) (by kernel_rfl) ?_
    refine WO.done (by kernel_rfl) ?_
    refine WQ.keep [0, 1, 2, 3, 4, 5, 11] (e' := [(0, .agg #[.string (str ev.name), .slice A n cp, .int .i64 ev.kind, .int .i64 ev.value, .int .i64 ev.time]), (1, .pointer (some ⟨g1, 0, none⟩)), (2, .bool false), (3, .int .i64 (i : Int)), (4, .bool false), (5, .bool false), (11, .bool true)]) (by kernel_rfl) ?_
    refine WQ.thenN ?_
    refine WE.seq ?_
    refine WE.region ?_
    refine WO.run 6 0 [(33, .bool true), (32, undef), (31, undef), (30, .bool true), (29, .bool true), (28, .bool false)] (by kernel_rfl) (by kernel_rfl) ?_
    refine WO.done (by kernel_rfl) ?_
    refine WQ.keep [0, 1, 2, 3, 4, 5, 11, 33] (e' := [(0, .agg #[.string (str ev.name), .slice A n cp, .int .i64 ev.kind, .int .i64 ev.value, .int .i64 ev.time]), (1, .pointer (some ⟨g1, 0, none⟩)), (2, .bool false), (3, .int .i64 (i : Int)), (4, .bool false), (5, .bool false), (11, .bool true), (33, .bool true)]) (by kernel_rfl) ?_
    refine WQ.thenN ?_
    refine WE.condT (by kernel_rfl) ?_
    refine WE.seq ?_
    refine WE.region ?_
    refine WO.run 1 0 [(2, .bool false)] (by kernel_rfl) (by kernel_rfl) ?_
    refine WO.done (by kernel_rfl) ?_
    refine WQ.keep [0, 1, 2, 3, 4, 5, 11, 33] (e' := [(0, .agg #[.string (str ev.name), .slice A n cp, .int .i64 ev.kind, .int .i64 ev.value, .int .i64 ev.time]), (1, .pointer (some ⟨g1, 0, none⟩)), (2, .bool false), (3, .int .i64 (i : Int)), (4, .bool false), (5, .bool false), (11, .bool true), (33, .bool true)]) (by kernel_rfl) ?_
    refine WQ.thenN ?_
    refine WE.ret ?_
    refine WQ.blkR ?_
    refine WQ.thenR ?_
    refine WQ.thenR ?_
    refine WQ.blkR ?_
    refine WQ.thenR ?_
    refine WQ.ret (v := .bool false) (by kernel_rfl) ?_
    first | exact ⟨congrArg (fun b => Ending.returned (Value.bool b)) (by rw [may_no (i := i) (by omega) (by simp [*])]), HA⟩ | exact ⟨congrArg (fun b => Ending.returned (Value.bool b)) (by rw [may_all (fun j hj => hbe j (by omega))]; rw [Bool.eq_iff_iff]; first | (simp only [show isWord ev.name = true from by assumption, Bool.and_eq_true, decide_eq_true_eq, Bool.false_eq_true, true_iff, false_iff, true_and, and_true, false_and, not_false_eq_true]; omega) | (simp only [show isWord ev.name = false from by assumption, Bool.and_eq_true, decide_eq_true_eq, Bool.false_eq_true, true_iff, false_iff, true_and, and_true, false_and, not_false_eq_true]; done)), HA⟩
 intro h6
 refine WO.done (by kernel_rfl) ?_
 refine WQ.keep [0, 1, 2, 3, 11] (e' := [(0, .agg #[.string (str ev.name), .slice A n cp, .int .i64 ev.kind, .int .i64 ev.value, .int .i64 ev.time]), (1, .pointer (some ⟨g1, 0, none⟩)), (2, .bool false), (3, .int .i64 (i : Int)), (11, .bool false)]) (by kernel_rfl) ?_
 refine WQ.thenN ?_
 refine WE.condF (by kernel_rfl) ?_
 refine WE.exit ?_
 refine WQ.thenE ?_
 refine WQ.thenE ?_
 refine WQ.blkE ?_
 refine WQ.thenN ?_
 refine WE.seq ?_
 refine WE.region ?_
 refine WO.run 1 0 [(34, .pointer (some ⟨g1, 0, none⟩))] (by kernel_rfl) (by kernel_rfl) ?_
 refine WO.ld (SQ.S 1 (by kernel_rfl)) 35 (.string (str ev.name)) (by kernel_rfl) (same (HB.at 0 (by kernel_rfl))) ?_
 refine WO.call (SQ.E 2 (by kernel_rfl)) 36 (by kernel_rfl) (word_r ev.name _ (by first | exact hln | exact (hlt _ (gT_mem (by omega))).1 | exact (hlt _ (gT_mem (by omega))).2)) ?_
 rintro _ w22 ⟨rfl, F23⟩
 refine ⟨_, rfl, trivial, ?_⟩
 have HB := Blk.keep HB F23 (nin0 _)
 have HT := HT.keep F23 (fun _ _ => nin0 _)
 have HA := Fr.step0 HA F23
 rcases Bool.eq_false_or_eq_true (isWord ev.name) with h24 | h24
 ·
  rw [h24]
  refine WO.run 1 3 [(6, .bool true)] (by kernel_rfl) (by kernel_rfl) ?_
  refine WO.done (by kernel_rfl) ?_
  refine WQ.keep [0, 1, 2, 3, 6, 11] (e' := [(0, .agg #[.string (str ev.name), .slice A n cp, .int .i64 ev.kind, .int .i64 ev.value, .int .i64 ev.time]), (1, .pointer (some ⟨g1, 0, none⟩)), (2, .bool false), (3, .int .i64 (i : Int)), (6, .bool true), (11, .bool false)]) (by kernel_rfl) ?_
  refine WQ.thenN ?_
  refine WE.seq ?_
  refine WE.region ?_
  refine WO.run 3 0 [(39, .pointer (some ⟨g1, 1, none⟩)), (38, .bool true), (37, .bool true)] (by kernel_rfl) (by kernel_rfl) ?_
  refine WO.ld (SQ.S 3 (by kernel_rfl)) 40 (.slice A n cp) (by kernel_rfl) (same (HB.at 1 (by kernel_rfl))) ?_
  refine WO.run 1 4 [(41, .int .i64 (n : Int))] (by kernel_rfl) (by kernel_rfl) ?_
  refine WO.one (SQ.F 5 (by kernel_rfl)) 42 (.bool (decide (((n : Int) : Int) ≤ (6 : Int)))) (by kernel_rfl) ?_
  refine WO.topP (((n : Int) : Int) ≤ (6 : Int)) ?_ ?_
  ·
   intro h25
   refine WO.run 3 6 [(45, .pointer (some ⟨g1, 2, none⟩)), (44, .bool true), (43, .bool true)] (by kernel_rfl) (by kernel_rfl) ?_
   refine WO.ld (SQ.S 9 (by kernel_rfl)) 46 (.int .i64 ev.kind) (by kernel_rfl) (same (HB.at 2 (by kernel_rfl))) ?_
   refine WO.one (SQ.F 10 (by kernel_rfl)) 47 (.bool (decide ((ev.kind : Int) ≥ 1))) (by kernel_rfl) ?_
   refine WO.topP ((ev.kind : Int) ≥ 1) ?_ ?_
   ·
    intro h26
    refine WO.run 3 11 [(50, .pointer (some ⟨g1, 2, none⟩)), (49, .bool true), (48, .bool true)] (by kernel_rfl) (by kernel_rfl) ?_
    refine WO.ld (SQ.S 14 (by kernel_rfl)) 51 (.int .i64 ev.kind) (by kernel_rfl) (same (HB.at 2 (by kernel_rfl))) ?_
    refine WO.one (SQ.F 15 (by kernel_rfl)) 52 (.bool (decide ((ev.kind : Int) ≤ 3))) (by kernel_rfl) ?_
    refine WO.topP ((ev.kind : Int) ≤ 3) ?_ ?_
    ·
     intro h27
     refine WO.run 3 16 [(55, .pointer (some ⟨g1, 4, none⟩)), (54, .bool true), (53, .bool true)] (by kernel_rfl) (by kernel_rfl) ?_
     refine WO.ld (SQ.S 19 (by kernel_rfl)) 56 (.int .i64 ev.time) (by kernel_rfl) (same (HB.at 4 (by kernel_rfl))) ?_
     refine WO.one (SQ.F 20 (by kernel_rfl)) 57 (.bool (decide ((ev.time : Int) ≥ 0))) (by kernel_rfl) ?_
     refine WO.topP ((ev.time : Int) ≥ 0) ?_ ?_
     ·
      intro h28
      refine WO.run 3 21 [(60, .pointer (some ⟨g1, 4, none⟩)), (59, .bool true), (58, .bool true)] (by kernel_rfl) (by kernel_rfl) ?_
      refine WO.ld (SQ.S 24 (by kernel_rfl)) 61 (.int .i64 ev.time) (by kernel_rfl) (same (HB.at 4 (by kernel_rfl))) ?_
      refine WO.run 3 25 [(2, .bool (decide ((ev.time : Int) ≤ 1099511627776))), (63, .bool (decide ((ev.time : Int) ≤ 1099511627776))), (62, .bool (decide ((ev.time : Int) ≤ 1099511627776)))] (by kernel_rfl) (by kernel_rfl) ?_
      refine WO.done (by kernel_rfl) ?_
      refine WQ.keep [0, 1, 2, 3, 6, 11] (e' := [(0, .agg #[.string (str ev.name), .slice A n cp, .int .i64 ev.kind, .int .i64 ev.value, .int .i64 ev.time]), (1, .pointer (some ⟨g1, 0, none⟩)), (2, .bool (decide ((ev.time : Int) ≤ 1099511627776))), (3, .int .i64 (i : Int)), (6, .bool true), (11, .bool false)]) (by kernel_rfl) ?_
      refine WQ.thenN ?_
      refine WE.ret ?_
      refine WQ.ret (v := .bool (decide ((ev.time : Int) ≤ 1099511627776))) (by kernel_rfl) ?_
      first | exact ⟨congrArg (fun b => Ending.returned (Value.bool b)) (by rw [may_no (i := i) (by omega) (by simp [*])]), HA⟩ | exact ⟨congrArg (fun b => Ending.returned (Value.bool b)) (by rw [may_all (fun j hj => hbe j (by omega))]; rw [Bool.eq_iff_iff]; first | (simp only [show isWord ev.name = true from by assumption, Bool.and_eq_true, decide_eq_true_eq, Bool.false_eq_true, true_iff, false_iff, true_and, and_true, false_and, not_false_eq_true]; omega) | (simp only [show isWord ev.name = false from by assumption, Bool.and_eq_true, decide_eq_true_eq, Bool.false_eq_true, true_iff, false_iff, true_and, and_true, false_and, not_false_eq_true]; done)), HA⟩
     intro h28
     refine WO.run 7 21 [(2, .bool false), (63, .bool false), (62, undef), (61, undef), (60, undef), (59, .bool false), (58, .bool false)] (by kernel_rfl) (by kernel_rfl) ?_
     refine WO.done (by kernel_rfl) ?_
     refine WQ.keep [0, 1, 2, 3, 6, 11] (e' := [(0, .agg #[.string (str ev.name), .slice A n cp, .int .i64 ev.kind, .int .i64 ev.value, .int .i64 ev.time]), (1, .pointer (some ⟨g1, 0, none⟩)), (2, .bool false), (3, .int .i64 (i : Int)), (6, .bool true), (11, .bool false)]) (by kernel_rfl) ?_
     refine WQ.thenN ?_
     refine WE.ret ?_
     refine WQ.ret (v := .bool false) (by kernel_rfl) ?_
     first | exact ⟨congrArg (fun b => Ending.returned (Value.bool b)) (by rw [may_no (i := i) (by omega) (by simp [*])]), HA⟩ | exact ⟨congrArg (fun b => Ending.returned (Value.bool b)) (by rw [may_all (fun j hj => hbe j (by omega))]; rw [Bool.eq_iff_iff]; first | (simp only [show isWord ev.name = true from by assumption, Bool.and_eq_true, decide_eq_true_eq, Bool.false_eq_true, true_iff, false_iff, true_and, and_true, false_and, not_false_eq_true]; omega) | (simp only [show isWord ev.name = false from by assumption, Bool.and_eq_true, decide_eq_true_eq, Bool.false_eq_true, true_iff, false_iff, true_and, and_true, false_and, not_false_eq_true]; done)), HA⟩
    intro h27
    refine WO.run 12 16 [(2, .bool false), (63, .bool false), (62, undef), (61, undef), (60, undef), (59, .bool false), (58, .bool false), (57, undef), (56, undef), (55, undef), (54, .bool false), (53, .bool false)] (by kernel_rfl) (by kernel_rfl) ?_
    refine WO.done (by kernel_rfl) ?_
    refine WQ.keep [0, 1, 2, 3, 6, 11] (e' := [(0, .agg #[.string (str ev.name), .slice A n cp, .int .i64 ev.kind, .int .i64 ev.value, .int .i64 ev.time]), (1, .pointer (some ⟨g1, 0, none⟩)), (2, .bool false), (3, .int .i64 (i : Int)), (6, .bool true), (11, .bool false)]) (by kernel_rfl) ?_
    refine WQ.thenN ?_
    refine WE.ret ?_
    refine WQ.ret (v := .bool false) (by kernel_rfl) ?_
    first | exact ⟨congrArg (fun b => Ending.returned (Value.bool b)) (by rw [may_no (i := i) (by omega) (by simp [*])]), HA⟩ | exact ⟨congrArg (fun b => Ending.returned (Value.bool b)) (by rw [may_all (fun j hj => hbe j (by omega))]; rw [Bool.eq_iff_iff]; first | (simp only [show isWord ev.name = true from by assumption, Bool.and_eq_true, decide_eq_true_eq, Bool.false_eq_true, true_iff, false_iff, true_and, and_true, false_and, not_false_eq_true]; omega) | (simp only [show isWord ev.name = false from by assumption, Bool.and_eq_true, decide_eq_true_eq, Bool.false_eq_true, true_iff, false_iff, true_and, and_true, false_and, not_false_eq_true]; done)), HA⟩
   intro h26
   refine WO.run 17 11 [(2, .bool false), (63, .bool false), (62, undef), (61, undef), (60, undef), (59, .bool false), (58, .bool false), (57, undef), (56, undef), (55, undef), (54, .bool false), (53, .bool false), (52, undef), (51, undef), (50, undef), (49, .bool false), (48, .bool false)] (by kernel_rfl) (by kernel_rfl) ?_
   refine WO.done (by kernel_rfl) ?_
   refine WQ.keep [0, 1, 2, 3, 6, 11] (e' := [(0, .agg #[.string (str ev.name), .slice A n cp, .int .i64 ev.kind, .int .i64 ev.value, .int .i64 ev.time]), (1, .pointer (some ⟨g1, 0, none⟩)), (2, .bool false), (3, .int .i64 (i : Int)), (6, .bool true), (11, .bool false)]) (by kernel_rfl) ?_
   refine WQ.thenN ?_
   refine WE.ret ?_
   refine WQ.ret (v := .bool false) (by kernel_rfl) ?_
   first | exact ⟨congrArg (fun b => Ending.returned (Value.bool b)) (by rw [may_no (i := i) (by omega) (by simp [*])]), HA⟩ | exact ⟨congrArg (fun b => Ending.returned (Value.bool b)) (by rw [may_all (fun j hj => hbe j (by omega))]; rw [Bool.eq_iff_iff]; first | (simp only [show isWord ev.name = true from by assumption, Bool.and_eq_true, decide_eq_true_eq, Bool.false_eq_true, true_iff, false_iff, true_and, and_true, false_and, not_false_eq_true]; omega) | (simp only [show isWord ev.name = false from by assumption, Bool.and_eq_true, decide_eq_true_eq, Bool.false_eq_true, true_iff, false_iff, true_and, and_true, false_and, not_false_eq_true]; done)), HA⟩
  intro h25
  refine WO.run 22 6 [(2, .bool false), (63, .bool false), (62, undef), (61, undef), (60, undef), (59, .bool false), (58, .bool false), (57, undef), (56, undef), (55, undef), (54, .bool false), (53, .bool false), (52, undef), (51, undef), (50, undef), (49, .bool false), (48, .bool false), (47, undef), (46, undef), (45, undef), (44, .bool false), (43, .bool false)] (by kernel_rfl) (by kernel_rfl) ?_
  refine WO.done (by kernel_rfl) ?_
  refine WQ.keep [0, 1, 2, 3, 6, 11] (e' := [(0, .agg #[.string (str ev.name), .slice A n cp, .int .i64 ev.kind, .int .i64 ev.value, .int .i64 ev.time]), (1, .pointer (some ⟨g1, 0, none⟩)), (2, .bool false), (3, .int .i64 (i : Int)), (6, .bool true), (11, .bool false)]) (by kernel_rfl) ?_
  refine WQ.thenN ?_
  refine WE.ret ?_
  refine WQ.ret (v := .bool false) (by kernel_rfl) ?_
  first | exact ⟨congrArg (fun b => Ending.returned (Value.bool b)) (by rw [may_no (i := i) (by omega) (by simp [*])]), HA⟩ | exact ⟨congrArg (fun b => Ending.returned (Value.bool b)) (by rw [may_all (fun j hj => hbe j (by omega))]; rw [Bool.eq_iff_iff]; first | (simp only [show isWord ev.name = true from by assumption, Bool.and_eq_true, decide_eq_true_eq, Bool.false_eq_true, true_iff, false_iff, true_and, and_true, false_and, not_false_eq_true]; omega) | (simp only [show isWord ev.name = false from by assumption, Bool.and_eq_true, decide_eq_true_eq, Bool.false_eq_true, true_iff, false_iff, true_and, and_true, false_and, not_false_eq_true]; done)), HA⟩
 ·
  rw [h24]
  refine WO.run 1 3 [(6, .bool false)] (by kernel_rfl) (by kernel_rfl) ?_
  refine WO.done (by kernel_rfl) ?_
  refine WQ.keep [0, 1, 2, 3, 6, 11] (e' := [(0, .agg #[.string (str ev.name), .slice A n cp, .int .i64 ev.kind, .int .i64 ev.value, .int .i64 ev.time]), (1, .pointer (some ⟨g1, 0, none⟩)), (2, .bool false), (3, .int .i64 (i : Int)), (6, .bool false), (11, .bool false)]) (by kernel_rfl) ?_
  refine WQ.thenN ?_
  refine WE.seq ?_
  refine WE.region ?_
  refine WO.run 28 0 [(2, .bool false), (63, .bool false), (62, undef), (61, undef), (60, undef), (59, .bool false), (58, .bool false), (57, undef), (56, undef), (55, undef), (54, .bool false), (53, .bool false), (52, undef), (51, undef), (50, undef), (49, .bool false), (48, .bool false), (47, undef), (46, undef), (45, undef), (44, .bool false), (43, .bool false), (42, undef), (41, undef), (40, undef), (39, undef), (38, .bool false), (37, .bool false)] (by kernel_rfl) (by kernel_rfl) ?_
  refine WO.done (by kernel_rfl) ?_
  refine WQ.keep [0, 1, 2, 3, 6, 11] (e' := [(0, .agg #[.string (str ev.name), .slice A n cp, .int .i64 ev.kind, .int .i64 ev.value, .int .i64 ev.time]), (1, .pointer (some ⟨g1, 0, none⟩)), (2, .bool false), (3, .int .i64 (i : Int)), (6, .bool false), (11, .bool false)]) (by kernel_rfl) ?_
  refine WQ.thenN ?_
  refine WE.ret ?_
  refine WQ.ret (v := .bool false) (by kernel_rfl) ?_
  first | exact ⟨congrArg (fun b => Ending.returned (Value.bool b)) (by rw [may_no (i := i) (by omega) (by simp [*])]), HA⟩ | exact ⟨congrArg (fun b => Ending.returned (Value.bool b)) (by rw [may_all (fun j hj => hbe j (by omega))]; rw [Bool.eq_iff_iff]; first | (simp only [show isWord ev.name = true from by assumption, Bool.and_eq_true, decide_eq_true_eq, Bool.false_eq_true, true_iff, false_iff, true_and, and_true, false_and, not_false_eq_true]; omega) | (simp only [show isWord ev.name = false from by assumption, Bool.and_eq_true, decide_eq_true_eq, Bool.false_eq_true, true_iff, false_iff, true_and, and_true, false_and, not_false_eq_true]; done)), HA⟩
end Go.Proofs.YtdhonbahpcmmnaaDoor.Line
