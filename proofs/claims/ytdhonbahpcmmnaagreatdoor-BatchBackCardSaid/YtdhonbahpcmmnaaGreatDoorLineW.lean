/- Layer 4's walks: words, events. -/
import Derived.Test.YtdhonbahpcmmnaaGreatDoorMap
import Derived.Test.YtdhonbahpcmmnaaGreatDoorProg
import Derived.Test.YtdhonbahpcmmnaaGreatDoorEngC
set_option linter.unusedVariables false
set_option linter.unusedSimpArgs false
namespace Go.Proofs.YtdhonbahpcmmnaaGreatDoor.Line
open Go Go.RowKit Go.Proofs.YtdhonbahpcmmnaaGreatDoor Go.Proofs.YtdhonbahpcmmnaaGreatDoor.Eng Go.Proofs.YtdhonbahpcmmnaaGreatDoorW.PrintWords
theorem byt : BT Tryz.prog 27 5 9 := ⟨by kernel_rfl, by kernel_rfl, by kernel_rfl⟩
theorem et_b : ET Tryz.prog 27 5 1 1 := by
  obtain ⟨i, h1, h2, h3, h4⟩ := info_parts (P := Tryz.prog) (e := 5) (z := .int .u8 0) (size := 1) (bytes := 1) (by kernel_rfl)
  exact ⟨by kernel_rfl, ⟨i, _, h1, h2, h3, h4, rfl⟩, by decide⟩
theorem hz_b : ∃ i, Tryz.prog.info? 5 = some i ∧ i.zero = some (.int .u8 0) := by
  obtain ⟨i, h1, h2, h3, h4⟩ := info_parts (P := Tryz.prog) (e := 5) (z := .int .u8 0) (size := 1) (bytes := 1) (by kernel_rfl)
  exact ⟨i, h1, h2⟩
def cT (t : L × L) : List Value := [.string (str t.1), .string (str t.2)]
theorem map_gT (q : List (L × L)) (k : Nat) (h : k < q.length) : (q.map cT).getD k [] = cT (gT q k) := by
  rw [List.getD_eq_getElem?_getD, List.getElem?_map, gT_some q k h]
  rfl
theorem cT_len (l : List (L × L)) : ∀ x ∈ l.map cT, x.length = 2 := by
  intro x hx
  obtain ⟨b, _, rfl⟩ := List.mem_map.1 hx
  rfl
theorem cT_one (l : List (L × L)) : ∀ x ∈ l.map cT, x.all oneB = true := by
  intro x hx
  obtain ⟨b, _, rfl⟩ := List.mem_map.1 hx
  rfl
theorem may_no {ev : Ev} {i : Nat} (h : i < ev.tags.length) (hb : (isWord (gT ev.tags i).1 && isWord (gT ev.tags i).2) = false) : mayE ev = false := by
  unfold mayE
  rw [all_no h hb]
  rfl
theorem may_all {ev : Ev} (h : ∀ j, j < ev.tags.length → (fun t : L × L => isWord t.1 && isWord t.2) (gT ev.tags j) = true) : mayE ev = (isWord ev.name && decide (ev.tags.length ≤ 6) && decide (1 ≤ ev.kind) && decide (ev.kind ≤ 3) && decide (0 ≤ ev.time) && decide (ev.time ≤ 1099511627776)) := by
  unfold mayE
  rw [all_gT.2 h]
  rfl
set_option maxRecDepth 100000 in
set_option maxHeartbeats 400000 in
theorem within_l (c : UInt8) (w : World) :
    Calls Tryz.prog 110 #[.int .u8 (c.toNat : Int)] w fun e w' => e = .returned (.bool (inW c)) ∧ Fr [] w w' := by
 have HA := Fr.refl [] w
 refine Zen (N := 25) Tryz.func110 (c := _) [(0, .int .u8 (c.toNat : Int))] <| Zsg <| Zr 1 [(2, .bool false)] <| Zdn <| Zsg <| Zr 1 [(3, .int .u8 (c.toNat : Int))] <| ZoP 4 (((c.toNat : Int) : Int) ≥ (97 : Int)) ?_ ?_
 ·
  intro h1
  refine Zr 2 [(6, .int .u8 (c.toNat : Int)), (5, .bool true)] <| ZoP 7 (((c.toNat : Int) : Int) ≤ (122 : Int)) ?_ ?_
  ·
   intro h2
   refine Zr 18 [(2, .bool true), (24, .bool true), (23, undef), (22, undef), (21, .bool true), (20, .bool true), (19, undef), (18, undef), (17, .bool true), (16, .bool true), (15, undef), (14, undef), (13, undef), (12, undef), (11, undef), (10, undef), (9, .bool true), (8, .bool true)] <| Zdn <| WE.ret <| ZR (.bool true) ?_
   exact ⟨by rw [inW_t (by omega)], HA⟩
  intro h2
  refine Zr 3 [(10, .int .u8 (c.toNat : Int)), (9, .bool false), (8, .bool false)] <| ZoP 11 (((c.toNat : Int) : Int) ≥ (48 : Int)) ?_ ?_
  ·
   intro h3
   refine Zr 2 [(13, .int .u8 (c.toNat : Int)), (12, .bool true)] <| ZoP 14 (((c.toNat : Int) : Int) ≤ (57 : Int)) ?_ ?_
   ·
    intro h4
    refine Zr 11 [(2, .bool true), (24, .bool true), (23, undef), (22, undef), (21, .bool true), (20, .bool true), (19, undef), (18, undef), (17, .bool true), (16, .bool true), (15, .bool true)] <| Zdn <| WE.ret <| ZR (.bool true) ?_
    exact ⟨by rw [inW_t (by omega)], HA⟩
   intro h4
   refine Zr 4 [(18, .int .u8 (c.toNat : Int)), (17, .bool false), (16, .bool false), (15, .bool false)] <| ZoP 19 (((c.toNat : Int) : Int) = (95 : Int)) ?_ ?_
   ·
    intro h5
    refine Zr 6 [(2, .bool true), (24, .bool true), (23, undef), (22, undef), (21, .bool true), (20, .bool true)] <| Zdn <| WE.ret <| ZR (.bool true) ?_
    exact ⟨by rw [inW_t (by omega)], HA⟩
   intro h5
   refine Zr 6 [(2, .bool (decide (((c.toNat : Int) : Int) = (46 : Int)))), (24, .bool (decide (((c.toNat : Int) : Int) = (46 : Int)))), (23, .bool (decide (((c.toNat : Int) : Int) = (46 : Int)))), (22, .int .u8 (c.toNat : Int)), (21, .bool false), (20, .bool false)] <| Zdn <| WE.ret <| ZR (.bool (decide (((c.toNat : Int) : Int) = (46 : Int)))) ?_
   exact ⟨by rw [inW_46 (by omega)], HA⟩
  intro h3
  refine Zr 7 [(18, .int .u8 (c.toNat : Int)), (17, .bool false), (16, .bool false), (15, .bool false), (14, undef), (13, undef), (12, .bool false)] <| ZoP 19 (((c.toNat : Int) : Int) = (95 : Int)) ?_ ?_
  ·
   intro h6
   refine Zr 6 [(2, .bool true), (24, .bool true), (23, undef), (22, undef), (21, .bool true), (20, .bool true)] <| Zdn <| WE.ret <| ZR (.bool true) ?_
   exact ⟨by rw [inW_t (by omega)], HA⟩
  intro h6
  refine Zr 6 [(2, .bool (decide (((c.toNat : Int) : Int) = (46 : Int)))), (24, .bool (decide (((c.toNat : Int) : Int) = (46 : Int)))), (23, .bool (decide (((c.toNat : Int) : Int) = (46 : Int)))), (22, .int .u8 (c.toNat : Int)), (21, .bool false), (20, .bool false)] <| Zdn <| WE.ret <| ZR (.bool (decide (((c.toNat : Int) : Int) = (46 : Int)))) ?_
  exact ⟨by rw [inW_46 (by omega)], HA⟩
 intro h1
 refine Zr 6 [(10, .int .u8 (c.toNat : Int)), (9, .bool false), (8, .bool false), (7, undef), (6, undef), (5, .bool false)] <| ZoP 11 (((c.toNat : Int) : Int) ≥ (48 : Int)) ?_ ?_
 ·
  intro h7
  refine Zr 2 [(13, .int .u8 (c.toNat : Int)), (12, .bool true)] <| ZoP 14 (((c.toNat : Int) : Int) ≤ (57 : Int)) ?_ ?_
  ·
   intro h8
   refine Zr 11 [(2, .bool true), (24, .bool true), (23, undef), (22, undef), (21, .bool true), (20, .bool true), (19, undef), (18, undef), (17, .bool true), (16, .bool true), (15, .bool true)] <| Zdn <| WE.ret <| ZR (.bool true) ?_
   exact ⟨by rw [inW_t (by omega)], HA⟩
  intro h8
  refine Zr 4 [(18, .int .u8 (c.toNat : Int)), (17, .bool false), (16, .bool false), (15, .bool false)] <| ZoP 19 (((c.toNat : Int) : Int) = (95 : Int)) ?_ ?_
  ·
   intro h9
   refine Zr 6 [(2, .bool true), (24, .bool true), (23, undef), (22, undef), (21, .bool true), (20, .bool true)] <| Zdn <| WE.ret <| ZR (.bool true) ?_
   exact ⟨by rw [inW_t (by omega)], HA⟩
  intro h9
  refine Zr 6 [(2, .bool (decide (((c.toNat : Int) : Int) = (46 : Int)))), (24, .bool (decide (((c.toNat : Int) : Int) = (46 : Int)))), (23, .bool (decide (((c.toNat : Int) : Int) = (46 : Int)))), (22, .int .u8 (c.toNat : Int)), (21, .bool false), (20, .bool false)] <| Zdn <| WE.ret <| ZR (.bool (decide (((c.toNat : Int) : Int) = (46 : Int)))) ?_
  exact ⟨by rw [inW_46 (by omega)], HA⟩
 intro h7
 refine Zr 7 [(18, .int .u8 (c.toNat : Int)), (17, .bool false), (16, .bool false), (15, .bool false), (14, undef), (13, undef), (12, .bool false)] <| ZoP 19 (((c.toNat : Int) : Int) = (95 : Int)) ?_ ?_
 ·
  intro h10
  refine Zr 6 [(2, .bool true), (24, .bool true), (23, undef), (22, undef), (21, .bool true), (20, .bool true)] <| Zdn <| WE.ret <| ZR (.bool true) ?_
  exact ⟨by rw [inW_t (by omega)], HA⟩
 intro h10
 refine Zr 6 [(2, .bool (decide (((c.toNat : Int) : Int) = (46 : Int)))), (24, .bool (decide (((c.toNat : Int) : Int) = (46 : Int)))), (23, .bool (decide (((c.toNat : Int) : Int) = (46 : Int)))), (22, .int .u8 (c.toNat : Int)), (21, .bool false), (20, .bool false)] <| Zdn <| WE.ret <| ZR (.bool (decide (((c.toNat : Int) : Int) = (46 : Int)))) ?_
 exact ⟨by rw [inW_46 (by omega)], HA⟩
set_option maxRecDepth 100000 in
set_option maxHeartbeats 400000 in
theorem within_r (c : UInt8) (w : World) :
    Calls Tryz.prog 137 #[.int .u8 (c.toNat : Int)] w fun e w' => e = .returned (.bool (inW c)) ∧ Fr [] w w' := by
 have HA := Fr.refl [] w
 refine Zen (N := 25) Tryz.func137 (c := _) [(0, .int .u8 (c.toNat : Int))] <| Zsg <| Zr 1 [(2, .bool false)] <| Zdn <| Zsg <| Zr 1 [(3, .int .u8 (c.toNat : Int))] <| ZoP 4 (((c.toNat : Int) : Int) ≥ (97 : Int)) ?_ ?_
 ·
  intro h1
  refine Zr 2 [(6, .int .u8 (c.toNat : Int)), (5, .bool true)] <| ZoP 7 (((c.toNat : Int) : Int) ≤ (122 : Int)) ?_ ?_
  ·
   intro h2
   refine Zr 18 [(2, .bool true), (24, .bool true), (23, undef), (22, undef), (21, .bool true), (20, .bool true), (19, undef), (18, undef), (17, .bool true), (16, .bool true), (15, undef), (14, undef), (13, undef), (12, undef), (11, undef), (10, undef), (9, .bool true), (8, .bool true)] <| Zdn <| WE.ret <| ZR (.bool true) ?_
   exact ⟨by rw [inW_t (by omega)], HA⟩
  intro h2
  refine Zr 3 [(10, .int .u8 (c.toNat : Int)), (9, .bool false), (8, .bool false)] <| ZoP 11 (((c.toNat : Int) : Int) ≥ (48 : Int)) ?_ ?_
  ·
   intro h3
   refine Zr 2 [(13, .int .u8 (c.toNat : Int)), (12, .bool true)] <| ZoP 14 (((c.toNat : Int) : Int) ≤ (57 : Int)) ?_ ?_
   ·
    intro h4
    refine Zr 11 [(2, .bool true), (24, .bool true), (23, undef), (22, undef), (21, .bool true), (20, .bool true), (19, undef), (18, undef), (17, .bool true), (16, .bool true), (15, .bool true)] <| Zdn <| WE.ret <| ZR (.bool true) ?_
    exact ⟨by rw [inW_t (by omega)], HA⟩
   intro h4
   refine Zr 4 [(18, .int .u8 (c.toNat : Int)), (17, .bool false), (16, .bool false), (15, .bool false)] <| ZoP 19 (((c.toNat : Int) : Int) = (95 : Int)) ?_ ?_
   ·
    intro h5
    refine Zr 6 [(2, .bool true), (24, .bool true), (23, undef), (22, undef), (21, .bool true), (20, .bool true)] <| Zdn <| WE.ret <| ZR (.bool true) ?_
    exact ⟨by rw [inW_t (by omega)], HA⟩
   intro h5
   refine Zr 6 [(2, .bool (decide (((c.toNat : Int) : Int) = (46 : Int)))), (24, .bool (decide (((c.toNat : Int) : Int) = (46 : Int)))), (23, .bool (decide (((c.toNat : Int) : Int) = (46 : Int)))), (22, .int .u8 (c.toNat : Int)), (21, .bool false), (20, .bool false)] <| Zdn <| WE.ret <| ZR (.bool (decide (((c.toNat : Int) : Int) = (46 : Int)))) ?_
   exact ⟨by rw [inW_46 (by omega)], HA⟩
  intro h3
  refine Zr 7 [(18, .int .u8 (c.toNat : Int)), (17, .bool false), (16, .bool false), (15, .bool false), (14, undef), (13, undef), (12, .bool false)] <| ZoP 19 (((c.toNat : Int) : Int) = (95 : Int)) ?_ ?_
  ·
   intro h6
   refine Zr 6 [(2, .bool true), (24, .bool true), (23, undef), (22, undef), (21, .bool true), (20, .bool true)] <| Zdn <| WE.ret <| ZR (.bool true) ?_
   exact ⟨by rw [inW_t (by omega)], HA⟩
  intro h6
  refine Zr 6 [(2, .bool (decide (((c.toNat : Int) : Int) = (46 : Int)))), (24, .bool (decide (((c.toNat : Int) : Int) = (46 : Int)))), (23, .bool (decide (((c.toNat : Int) : Int) = (46 : Int)))), (22, .int .u8 (c.toNat : Int)), (21, .bool false), (20, .bool false)] <| Zdn <| WE.ret <| ZR (.bool (decide (((c.toNat : Int) : Int) = (46 : Int)))) ?_
  exact ⟨by rw [inW_46 (by omega)], HA⟩
 intro h1
 refine Zr 6 [(10, .int .u8 (c.toNat : Int)), (9, .bool false), (8, .bool false), (7, undef), (6, undef), (5, .bool false)] <| ZoP 11 (((c.toNat : Int) : Int) ≥ (48 : Int)) ?_ ?_
 ·
  intro h7
  refine Zr 2 [(13, .int .u8 (c.toNat : Int)), (12, .bool true)] <| ZoP 14 (((c.toNat : Int) : Int) ≤ (57 : Int)) ?_ ?_
  ·
   intro h8
   refine Zr 11 [(2, .bool true), (24, .bool true), (23, undef), (22, undef), (21, .bool true), (20, .bool true), (19, undef), (18, undef), (17, .bool true), (16, .bool true), (15, .bool true)] <| Zdn <| WE.ret <| ZR (.bool true) ?_
   exact ⟨by rw [inW_t (by omega)], HA⟩
  intro h8
  refine Zr 4 [(18, .int .u8 (c.toNat : Int)), (17, .bool false), (16, .bool false), (15, .bool false)] <| ZoP 19 (((c.toNat : Int) : Int) = (95 : Int)) ?_ ?_
  ·
   intro h9
   refine Zr 6 [(2, .bool true), (24, .bool true), (23, undef), (22, undef), (21, .bool true), (20, .bool true)] <| Zdn <| WE.ret <| ZR (.bool true) ?_
   exact ⟨by rw [inW_t (by omega)], HA⟩
  intro h9
  refine Zr 6 [(2, .bool (decide (((c.toNat : Int) : Int) = (46 : Int)))), (24, .bool (decide (((c.toNat : Int) : Int) = (46 : Int)))), (23, .bool (decide (((c.toNat : Int) : Int) = (46 : Int)))), (22, .int .u8 (c.toNat : Int)), (21, .bool false), (20, .bool false)] <| Zdn <| WE.ret <| ZR (.bool (decide (((c.toNat : Int) : Int) = (46 : Int)))) ?_
  exact ⟨by rw [inW_46 (by omega)], HA⟩
 intro h7
 refine Zr 7 [(18, .int .u8 (c.toNat : Int)), (17, .bool false), (16, .bool false), (15, .bool false), (14, undef), (13, undef), (12, .bool false)] <| ZoP 19 (((c.toNat : Int) : Int) = (95 : Int)) ?_ ?_
 ·
  intro h10
  refine Zr 6 [(2, .bool true), (24, .bool true), (23, undef), (22, undef), (21, .bool true), (20, .bool true)] <| Zdn <| WE.ret <| ZR (.bool true) ?_
  exact ⟨by rw [inW_t (by omega)], HA⟩
 intro h10
 refine Zr 6 [(2, .bool (decide (((c.toNat : Int) : Int) = (46 : Int)))), (24, .bool (decide (((c.toNat : Int) : Int) = (46 : Int)))), (23, .bool (decide (((c.toNat : Int) : Int) = (46 : Int)))), (22, .int .u8 (c.toNat : Int)), (21, .bool false), (20, .bool false)] <| Zdn <| WE.ret <| ZR (.bool (decide (((c.toNat : Int) : Int) = (46 : Int)))) ?_
 exact ⟨by rw [inW_46 (by omega)], HA⟩
set_option maxRecDepth 100000 in
set_option maxHeartbeats 400000 in
theorem word_l (s : L) (w : World) (hs : s.length ≤ 9223372036854775807) :
    Calls Tryz.prog 111 #[.string (str s)] w fun e w' => e = .returned (.bool (isWord s)) ∧ Fr [] w w' := by
 have HA := Fr.refl [] w
 refine Zen (N := 23) Tryz.func111 (c := _) [(0, .string (str s))] <| Zsg <| Zr 1 [(2, .bool false)] <| Zdn <| Zq <| Zsg <| Zr 3 [(6, J 0), (5, J (s.length : Int)), (4, .string (str s))] <| Zdn <| WE.block <| WE.loop (α := Nat) (E := fun i => [(0, .string (str s)), (2, .bool false), (5, J (s.length : Int)), (6, J (i : Int))]) (I := fun i wr => i ≤ s.length ∧ (∀ j, j < i → inW (gb s j) = true) ∧ Fr [] w wr) (m := fun i => s.length - i) 0 [0, 2, 5, 6] (by kernel_rfl) ?_ ?_
 ·
  exact ⟨Nat.zero_le _, fun j hj => absurd hj (Nat.not_lt_zero j), HA⟩
 rintro i wr ⟨hi, hbe, HA⟩
 refine Zsg <| ZoP 7 (((i : Int) : Int) < (s.length : Int)) ?_ ?_
 ·
  intro h1
  refine Zdn <| Zq <| ZT <| Zk <| Zq <| WE.block <| Zsg <| Zr 2 [(3, J (i : Int)), (8, J (i : Int))] <| Zdn <| Zsg <| Zr 2 [(10, J (i : Int)), (9, .string (str s))] <| Zis (i := (i : Int)) 11 i s (by rfl) (by omega) <| Zcf 12 (within_l (gB s i) _) ?_
  intro w2 F3
  rcases Bool.eq_false_or_eq_true (inW (gB s i)) with h4 | h4
  ·
   rw [h4]
   refine Zr 1 [(13, .bool false)] <| Zdn <| ZF <| WE.skip <| WQ.blkN <| Zn <| WE.region <| Zw 14 ((i : Int) + 1) ((i + 1 : Nat) : Int) <| Zr 1 [(6, J ((i + 1 : Nat) : Int))] <| Zd <| WQ.round ?_
   intro a_ ha_
   refine ⟨i + 1, ?_, ha_.keep [0, 2, 5, 6] (by kernel_rfl), ?_⟩
   ·
    omega
   ·
    have HA := HA.step0 F3
    exact ⟨by omega, fun j hj => (Nat.lt_succ_iff_lt_or_eq.1 hj).elim (hbe j) (fun h_ => by rw [h_]; assumption), HA⟩
  ·
   rw [h4]
   have HA := HA.step0 F3
   refine Zr 1 [(13, .bool true)] <| Zdn <| ZT <| Zsg <| Zr 1 [(2, .bool false)] <| Zdn <| WE.ret <| WQ.blkR <| WQ.thenR <| WQ.thenR <| WQ.blkR <| WQ.thenR <| ZR (.bool false) ?_
   first | exact ⟨congrArg (fun b => Ending.returned (Value.bool b)) (by rw [word_bad (i := i) (by omega) (by assumption)]), HA⟩ | exact ⟨congrArg (fun b => Ending.returned (Value.bool b)) (by rw [word_all (fun j hj => hbe j (by omega))]; rw [Bool.eq_iff_iff]; simp only [Bool.and_eq_true, decide_eq_true_eq, Bool.false_eq_true, true_iff, false_iff, true_and, and_true]; omega), HA⟩
 intro h1
 refine Zdn <| Zq <| ZF <| WE.exit <| WQ.thenE <| WQ.thenE <| WQ.blkE <| Zn <| Zsg <| Zr 2 [(16, J (s.length : Int)), (15, .string (str s))] <| ZoP 17 (((s.length : Int) : Int) ≥ (1 : Int)) ?_ ?_
 ·
  intro h5
  refine Zr 6 [(2, .bool (decide (((s.length : Int) : Int) ≤ (16 : Int)))), (22, .bool (decide (((s.length : Int) : Int) ≤ (16 : Int)))), (21, .bool (decide (((s.length : Int) : Int) ≤ (16 : Int)))), (20, J (s.length : Int)), (19, .string (str s)), (18, .bool true)] <| Zdn <| WE.ret <| ZR (.bool (decide (((s.length : Int) : Int) ≤ (16 : Int)))) ?_
  exact ⟨congrArg (fun b => Ending.returned (Value.bool b)) (by rw [word_all (fun j hj => hbe j (by omega))]; rw [Bool.eq_iff_iff]; simp only [Bool.and_eq_true, decide_eq_true_eq, Bool.false_eq_true, true_iff, false_iff, true_and, and_true]; omega), HA⟩
 intro h5
 refine Zr 6 [(2, .bool false), (22, .bool false), (21, undef), (20, undef), (19, undef), (18, .bool false)] <| Zdn <| WE.ret <| ZR (.bool false) ?_
 first | exact ⟨congrArg (fun b => Ending.returned (Value.bool b)) (by rw [word_bad (i := i) (by omega) (by assumption)]), HA⟩ | exact ⟨congrArg (fun b => Ending.returned (Value.bool b)) (by rw [word_all (fun j hj => hbe j (by omega))]; rw [Bool.eq_iff_iff]; simp only [Bool.and_eq_true, decide_eq_true_eq, Bool.false_eq_true, true_iff, false_iff, true_and, and_true]; omega), HA⟩
set_option maxRecDepth 100000 in
set_option maxHeartbeats 400000 in
theorem word_r (s : L) (w : World) (hs : s.length ≤ 9223372036854775807) :
    Calls Tryz.prog 105 #[.string (str s)] w fun e w' => e = .returned (.bool (isWord s)) ∧ Fr [] w w' := by
 have HA := Fr.refl [] w
 refine Zen (N := 25) Tryz.func105 (c := _) [(0, .string (str s))] <| Zsg <| Zr 1 [(2, .bool false)] <| Zdn <| Zq <| Zsg <| Zr 1 [(3, J 0)] <| Zdn <| WE.block <| WE.loop (α := Nat) (E := fun i => [(0, .string (str s)), (2, .bool false), (3, J (i : Int))]) (I := fun i wr => i ≤ s.length ∧ (∀ j, j < i → inW (gb s j) = true) ∧ Fr [] w wr) (m := fun i => s.length - i) 0 [0, 2, 3] (by kernel_rfl) ?_ ?_
 ·
  exact ⟨Nat.zero_le _, fun j hj => absurd hj (Nat.not_lt_zero j), HA⟩
 rintro i wr ⟨hi, hbe, HA⟩
 refine Zq <| Zsg <| Zr 3 [(7, J (s.length : Int)), (6, .string (str s)), (5, J (i : Int))] <| ZoP 8 (((i : Int) : Int) < (s.length : Int)) ?_ ?_
 ·
  intro h1
  refine Zdn <| ZT <| Zk <| Zq <| WE.block <| Zsg <| Zr 2 [(12, J (i : Int)), (11, .string (str s))] <| Zis (i := (i : Int)) 13 i s (by rfl) (by omega) <| Zcf 14 (within_r (gB s i) _) ?_
  intro w2 F3
  rcases Bool.eq_false_or_eq_true (inW (gB s i)) with h4 | h4
  ·
   rw [h4]
   refine Zr 1 [(4, .bool true)] <| Zdn <| Zsg <| Zr 2 [(16, .bool false), (15, .bool true)] <| Zdn <| ZF <| WE.skip <| WQ.blkN <| Zn <| WE.region <| Zr 1 [(9, J (i : Int))] <| Zw 10 ((i : Int) + 1) ((i + 1 : Nat) : Int) <| Zr 1 [(3, J ((i + 1 : Nat) : Int))] <| Zd <| WQ.round ?_
   intro a_ ha_
   refine ⟨i + 1, ?_, ha_.keep [0, 2, 3] (by kernel_rfl), ?_⟩
   ·
    omega
   ·
    have HA := HA.step0 F3
    exact ⟨by omega, fun j hj => (Nat.lt_succ_iff_lt_or_eq.1 hj).elim (hbe j) (fun h_ => by rw [h_]; assumption), HA⟩
  ·
   rw [h4]
   have HA := HA.step0 F3
   refine Zr 1 [(4, .bool false)] <| Zdn <| Zsg <| Zr 2 [(16, .bool true), (15, .bool false)] <| Zdn <| ZT <| Zsg <| Zr 1 [(2, .bool false)] <| Zdn <| WE.ret <| WQ.blkR <| WQ.thenR <| WQ.thenR <| WQ.blkR <| WQ.thenR <| ZR (.bool false) ?_
   first | exact ⟨congrArg (fun b => Ending.returned (Value.bool b)) (by rw [word_bad (i := i) (by omega) (by assumption)]), HA⟩ | exact ⟨congrArg (fun b => Ending.returned (Value.bool b)) (by rw [word_all (fun j hj => hbe j (by omega))]; rw [Bool.eq_iff_iff]; simp only [Bool.and_eq_true, decide_eq_true_eq, Bool.false_eq_true, true_iff, false_iff, true_and, and_true]; omega), HA⟩
 intro h1
 refine Zdn <| ZF <| WE.exit <| WQ.thenE <| WQ.thenE <| WQ.blkE <| Zn <| Zsg <| Zr 2 [(18, J (s.length : Int)), (17, .string (str s))] <| ZoP 19 (((s.length : Int) : Int) > (0 : Int)) ?_ ?_
 ·
  intro h5
  refine Zr 6 [(2, .bool (decide (((s.length : Int) : Int) ≤ (16 : Int)))), (24, .bool (decide (((s.length : Int) : Int) ≤ (16 : Int)))), (23, .bool (decide (((s.length : Int) : Int) ≤ (16 : Int)))), (22, J (s.length : Int)), (21, .string (str s)), (20, .bool true)] <| Zdn <| WE.ret <| ZR (.bool (decide (((s.length : Int) : Int) ≤ (16 : Int)))) ?_
  exact ⟨congrArg (fun b => Ending.returned (Value.bool b)) (by rw [word_all (fun j hj => hbe j (by omega))]; rw [Bool.eq_iff_iff]; simp only [Bool.and_eq_true, decide_eq_true_eq, Bool.false_eq_true, true_iff, false_iff, true_and, and_true]; omega), HA⟩
 intro h5
 refine Zr 6 [(2, .bool false), (24, .bool false), (23, undef), (22, undef), (21, undef), (20, .bool false)] <| Zdn <| WE.ret <| ZR (.bool false) ?_
 first | exact ⟨congrArg (fun b => Ending.returned (Value.bool b)) (by rw [word_bad (i := i) (by omega) (by assumption)]), HA⟩ | exact ⟨congrArg (fun b => Ending.returned (Value.bool b)) (by rw [word_all (fun j hj => hbe j (by omega))]; rw [Bool.eq_iff_iff]; simp only [Bool.and_eq_true, decide_eq_true_eq, Bool.false_eq_true, true_iff, false_iff, true_and, and_true]; omega), HA⟩
set_option maxRecDepth 100000 in
set_option maxHeartbeats 1000000 in
theorem may_l (ev : Ev) (A : Option Addr) (n cp : Nat) (F : List Nat) (w : World) (HT : VX cT 2 w F A ev.tags) (hn : ev.tags.length = n) (hnn : n ≤ 9223372036854775807) (hln : ev.name.length ≤ 9223372036854775807) (hlt : ∀ t ∈ ev.tags, t.1.length ≤ 9223372036854775807 ∧ t.2.length ≤ 9223372036854775807) :
    Calls Tryz.prog 115 #[.agg #[.string (str ev.name), .slice A n cp, .int .i64 ev.kind, .int .i64 ev.value, .int .i64 ev.time]] w fun e w' => e = .returned (.bool (mayE ev)) ∧ Fr [] w w' := by
 have HA := Fr.refl [] w
 refine Zen (N := 52) Tryz.func115 (c := _) [(0, .agg #[.string (str ev.name), .slice A n cp, J ev.kind, J ev.value, J ev.time])] <| Zsg <| Zb 1 #[.string (str ev.name), .slice A n cp, J ev.kind, J ev.value, J ev.time] 91 (fun g => Pt g 0) ?_
 intro g1 w2 HB4 F3 le5 _
 refine Zr 1 [(2, .bool false)] <| Zdn <| Zq <| Zsg <| Zr 1 [(5, Pt g1 1)] <| Zl 6 (.slice A n cp) (HB4.s 1) <| Zr 2 [(8, J 0), (7, J (n : Int))] <| Zdn <| WE.block <| WE.loop (α := Nat) (E := fun i => [(0, .agg #[.string (str ev.name), .slice A n cp, J ev.kind, J ev.value, J ev.time]), (1, Pt g1 0), (2, .bool false), (6, .slice A n cp), (7, J (n : Int)), (8, J (i : Int))]) (I := fun i wr => i ≤ n ∧ (∀ j, j < i → (fun t : L × L => isWord t.1 && isWord t.2) (gT ev.tags j) = true) ∧ Blk wr g1 #[.string (str ev.name), .slice A n cp, J ev.kind, J ev.value, J ev.time] 91 ∧ VX cT 2 wr F A ev.tags ∧ Fr [] w wr) (m := fun i => n - i) 0 [0, 1, 2, 6, 7, 8] (by kernel_rfl) ?_ ?_
 ·
  have HT := HT.keep F3 dj0
  have HA := HA.step0 F3
  exact ⟨Nat.zero_le _, fun j hj => absurd hj (Nat.not_lt_zero j), HB4, HT, HA⟩
 rintro i wr ⟨hi, hbe, HB, HT, HA⟩
 refine Zsg <| ZoP 9 (((i : Int) : Int) < (n : Int)) ?_ ?_
 ·
  intro h6
  refine Zdn <| Zq <| ZT <| Zk <| Zq <| WE.block <| Zq <| WE.region ?_
  obtain ⟨ad7, hA8⟩ := HT.addr (i := i) (by have := hn; omega)
  refine Zio 10 n 2 i (i : Int) hA8 rfl (by omega) <| Zla (ad := (ad7.add (i * 2))) 11 [.string (str (gT ev.tags i).1), .string (str (gT ev.tags i).2)] (fun _ hw_ _ hj_ => by subst hw_; exact HT.part0 hA8 (gT_some ev.tags i (by have := hn; omega)) [.string (str (gT ev.tags i).1), .string (str (gT ev.tags i).2)] (by kernel_rfl) _ hj_) <| Zb 4 #[.string (⟨#[]⟩), .string (⟨#[]⟩)] 143 (fun g => Pt g 0) ?_
  intro g9 w10 HB12 F11 le13 _
  have ne_g1_g9 := ltn HB.lt le13
  have nin_g9_F := new_nin HT.lt le13
  have ge_HA_g9 := Nat.le_trans HA.size le13
  refine Zs g9 0 [.string (str (gT ev.tags i).1), .string (str (gT ev.tags i).2)] #[.string (str (gT ev.tags i).1), .string (str (gT ev.tags i).2)] HB12 ?_
  intro w14 HB16 F15 _
  refine Zdn <| Zsg <| Zr 1 [(12, Pt g9 0)] <| Zl 13 (.string (str (gT ev.tags i).1)) (HB16.s 0) <| Zc 14 (word_l ((gT ev.tags i).1) _ (by first | exact hln | exact (hlt _ (gT_mem (by omega))).1 | exact (hlt _ (gT_mem (by omega))).2)) ?_
  rintro _ w17 ⟨rfl, F18⟩
  have HA := ((HA.step0 F11).step F15 (inSR ge_HA_g9 inS0)).step0 F18
  refine ⟨_, rfl, trivial, ?_⟩
  rcases Bool.eq_false_or_eq_true (isWord ((gT ev.tags i).1)) with h19 | h19
  ·
   rw [h19]
   have HB16 := HB16.k F18
   refine Zr 3 [(17, Pt g9 1), (16, .bool false), (15, .bool false)] <| Zl 18 (.string (str (gT ev.tags i).2)) (HB16.s 1) <| Zcf 19 (word_l ((gT ev.tags i).2) _ (by first | exact hln | exact (hlt _ (gT_mem (by omega))).1 | exact (hlt _ (gT_mem (by omega))).2)) ?_
   intro w20 F21
   rcases Bool.eq_false_or_eq_true (isWord ((gT ev.tags i).2)) with h22 | h22
   ·
    rw [h22]
    refine Zr 2 [(21, .bool false), (20, .bool false)] <| Zdn <| ZF <| WE.skip <| WQ.blkN <| Zn <| WE.region <| Zw 22 ((i : Int) + 1) ((i + 1 : Nat) : Int) <| Zr 1 [(8, J ((i + 1 : Nat) : Int))] <| Zd <| WQ.round ?_
    intro a_ ha_
    refine ⟨i + 1, ?_, ha_.keep [0, 1, 2, 6, 7, 8] (by kernel_rfl), ?_⟩
    ·
     omega
    ·
     have HB := (((HB.k F11).j F15 ne_g1_g9).k F18).k F21
     have HT := (((HT.keep F11 dj0).keep F15 (djB nin_g9_F)).keep F18 dj0).keep F21 dj0
     have HA := HA.step0 F21
     exact ⟨by omega, fun j hj => (Nat.lt_succ_iff_lt_or_eq.1 hj).elim (hbe j) (fun h_ => by rw [h_]; simp [*]), HB, HT, HA⟩
   ·
    rw [h22]
    have HA := HA.step0 F21
    refine Zr 2 [(21, .bool true), (20, .bool true)] <| Zdn <| ZT <| Zsg <| Zr 1 [(2, .bool false)] <| Zdn <| WE.ret <| WQ.blkR <| WQ.thenR <| WQ.thenR <| WQ.blkR <| WQ.thenR <| ZR (.bool false) ?_
    first | exact ⟨congrArg (fun b => Ending.returned (Value.bool b)) (by rw [may_no (i := i) (by omega) (by simp [*])]), HA⟩ | exact ⟨congrArg (fun b => Ending.returned (Value.bool b)) (by rw [may_all (fun j hj => hbe j (by omega))]; rw [Bool.eq_iff_iff]; first | (simp only [show isWord ev.name = true from by assumption, Bool.and_eq_true, decide_eq_true_eq, Bool.false_eq_true, true_iff, false_iff, true_and, and_true, false_and, not_false_eq_true]; omega) | (simp only [show isWord ev.name = false from by assumption, Bool.and_eq_true, decide_eq_true_eq, Bool.false_eq_true, true_iff, false_iff, true_and, and_true, false_and, not_false_eq_true]; done)), HA⟩
  ·
   rw [h19]
   refine Zr 7 [(21, .bool true), (20, undef), (19, undef), (18, undef), (17, undef), (16, .bool true), (15, .bool true)] <| Zdn <| ZT <| Zsg <| Zr 1 [(2, .bool false)] <| Zdn <| WE.ret <| WQ.blkR <| WQ.thenR <| WQ.thenR <| WQ.blkR <| WQ.thenR <| ZR (.bool false) ?_
   first | exact ⟨congrArg (fun b => Ending.returned (Value.bool b)) (by rw [may_no (i := i) (by omega) (by simp [*])]), HA⟩ | exact ⟨congrArg (fun b => Ending.returned (Value.bool b)) (by rw [may_all (fun j hj => hbe j (by omega))]; rw [Bool.eq_iff_iff]; first | (simp only [show isWord ev.name = true from by assumption, Bool.and_eq_true, decide_eq_true_eq, Bool.false_eq_true, true_iff, false_iff, true_and, and_true, false_and, not_false_eq_true]; omega) | (simp only [show isWord ev.name = false from by assumption, Bool.and_eq_true, decide_eq_true_eq, Bool.false_eq_true, true_iff, false_iff, true_and, and_true, false_and, not_false_eq_true]; done)), HA⟩
 intro h6
 refine Zdn <| Zq <| ZF <| WE.exit <| WQ.thenE <| WQ.thenE <| WQ.blkE <| Zn <| Zsg <| Zr 1 [(23, Pt g1 0)] <| Zl 24 (.string (str ev.name)) (HB.s 0) <| Zcf 25 (word_l ev.name _ (by first | exact hln | exact (hlt _ (gT_mem (by omega))).1 | exact (hlt _ (gT_mem (by omega))).2)) ?_
 intro w23 F24
 rcases Bool.eq_false_or_eq_true (isWord ev.name) with h25 | h25
 ·
  rw [h25]
  have HB := HB.k F24
  refine Zr 2 [(27, Pt g1 1), (26, .bool true)] <| Zl 28 (.slice A n cp) (HB.s 1) <| Zr 1 [(29, J (n : Int))] <| ZoP 30 (((n : Int) : Int) ≤ (6 : Int)) ?_ ?_
  ·
   intro h26
   refine Zr 3 [(33, Pt g1 2), (32, .bool true), (31, .bool true)] <| Zl 34 (J ev.kind) (HB.s 2) <| ZoP 35 ((ev.kind : Int) ≥ 1) ?_ ?_
   ·
    intro h27
    refine Zr 3 [(38, Pt g1 2), (37, .bool true), (36, .bool true)] <| Zl 39 (J ev.kind) (HB.s 2) <| ZoP 40 ((ev.kind : Int) ≤ 3) ?_ ?_
    ·
     intro h28
     refine Zr 3 [(43, Pt g1 4), (42, .bool true), (41, .bool true)] <| Zl 44 (J ev.time) (HB.s 4) <| ZoP 45 ((ev.time : Int) ≥ 0) ?_ ?_
     ·
      intro h29
      have HA := HA.step0 F24
      refine Zr 3 [(48, Pt g1 4), (47, .bool true), (46, .bool true)] <| Zl 49 (J ev.time) (HB.s 4) <| Zr 3 [(2, .bool (decide ((ev.time : Int) ≤ 1099511627776))), (51, .bool (decide ((ev.time : Int) ≤ 1099511627776))), (50, .bool (decide ((ev.time : Int) ≤ 1099511627776)))] <| Zdn <| WE.ret <| ZR (.bool (decide ((ev.time : Int) ≤ 1099511627776))) ?_
      first | exact ⟨congrArg (fun b => Ending.returned (Value.bool b)) (by rw [may_no (i := i) (by omega) (by simp [*])]), HA⟩ | exact ⟨congrArg (fun b => Ending.returned (Value.bool b)) (by rw [may_all (fun j hj => hbe j (by omega))]; rw [Bool.eq_iff_iff]; first | (simp only [show isWord ev.name = true from by assumption, Bool.and_eq_true, decide_eq_true_eq, Bool.false_eq_true, true_iff, false_iff, true_and, and_true, false_and, not_false_eq_true]; omega) | (simp only [show isWord ev.name = false from by assumption, Bool.and_eq_true, decide_eq_true_eq, Bool.false_eq_true, true_iff, false_iff, true_and, and_true, false_and, not_false_eq_true]; done)), HA⟩
     intro h29
     have HA := HA.step0 F24
     refine Zr 7 [(2, .bool false), (51, .bool false), (50, undef), (49, undef), (48, undef), (47, .bool false), (46, .bool false)] <| Zdn <| WE.ret <| ZR (.bool false) ?_
     first | exact ⟨congrArg (fun b => Ending.returned (Value.bool b)) (by rw [may_no (i := i) (by omega) (by simp [*])]), HA⟩ | exact ⟨congrArg (fun b => Ending.returned (Value.bool b)) (by rw [may_all (fun j hj => hbe j (by omega))]; rw [Bool.eq_iff_iff]; first | (simp only [show isWord ev.name = true from by assumption, Bool.and_eq_true, decide_eq_true_eq, Bool.false_eq_true, true_iff, false_iff, true_and, and_true, false_and, not_false_eq_true]; omega) | (simp only [show isWord ev.name = false from by assumption, Bool.and_eq_true, decide_eq_true_eq, Bool.false_eq_true, true_iff, false_iff, true_and, and_true, false_and, not_false_eq_true]; done)), HA⟩
    intro h28
    have HA := HA.step0 F24
    refine Zr 12 [(2, .bool false), (51, .bool false), (50, undef), (49, undef), (48, undef), (47, .bool false), (46, .bool false), (45, undef), (44, undef), (43, undef), (42, .bool false), (41, .bool false)] <| Zdn <| WE.ret <| ZR (.bool false) ?_
    first | exact ⟨congrArg (fun b => Ending.returned (Value.bool b)) (by rw [may_no (i := i) (by omega) (by simp [*])]), HA⟩ | exact ⟨congrArg (fun b => Ending.returned (Value.bool b)) (by rw [may_all (fun j hj => hbe j (by omega))]; rw [Bool.eq_iff_iff]; first | (simp only [show isWord ev.name = true from by assumption, Bool.and_eq_true, decide_eq_true_eq, Bool.false_eq_true, true_iff, false_iff, true_and, and_true, false_and, not_false_eq_true]; omega) | (simp only [show isWord ev.name = false from by assumption, Bool.and_eq_true, decide_eq_true_eq, Bool.false_eq_true, true_iff, false_iff, true_and, and_true, false_and, not_false_eq_true]; done)), HA⟩
   intro h27
   have HA := HA.step0 F24
   refine Zr 17 [(2, .bool false), (51, .bool false), (50, undef), (49, undef), (48, undef), (47, .bool false), (46, .bool false), (45, undef), (44, undef), (43, undef), (42, .bool false), (41, .bool false), (40, undef), (39, undef), (38, undef), (37, .bool false), (36, .bool false)] <| Zdn <| WE.ret <| ZR (.bool false) ?_
   first | exact ⟨congrArg (fun b => Ending.returned (Value.bool b)) (by rw [may_no (i := i) (by omega) (by simp [*])]), HA⟩ | exact ⟨congrArg (fun b => Ending.returned (Value.bool b)) (by rw [may_all (fun j hj => hbe j (by omega))]; rw [Bool.eq_iff_iff]; first | (simp only [show isWord ev.name = true from by assumption, Bool.and_eq_true, decide_eq_true_eq, Bool.false_eq_true, true_iff, false_iff, true_and, and_true, false_and, not_false_eq_true]; omega) | (simp only [show isWord ev.name = false from by assumption, Bool.and_eq_true, decide_eq_true_eq, Bool.false_eq_true, true_iff, false_iff, true_and, and_true, false_and, not_false_eq_true]; done)), HA⟩
  intro h26
  have HA := HA.step0 F24
  refine Zr 22 [(2, .bool false), (51, .bool false), (50, undef), (49, undef), (48, undef), (47, .bool false), (46, .bool false), (45, undef), (44, undef), (43, undef), (42, .bool false), (41, .bool false), (40, undef), (39, undef), (38, undef), (37, .bool false), (36, .bool false), (35, undef), (34, undef), (33, undef), (32, .bool false), (31, .bool false)] <| Zdn <| WE.ret <| ZR (.bool false) ?_
  first | exact ⟨congrArg (fun b => Ending.returned (Value.bool b)) (by rw [may_no (i := i) (by omega) (by simp [*])]), HA⟩ | exact ⟨congrArg (fun b => Ending.returned (Value.bool b)) (by rw [may_all (fun j hj => hbe j (by omega))]; rw [Bool.eq_iff_iff]; first | (simp only [show isWord ev.name = true from by assumption, Bool.and_eq_true, decide_eq_true_eq, Bool.false_eq_true, true_iff, false_iff, true_and, and_true, false_and, not_false_eq_true]; omega) | (simp only [show isWord ev.name = false from by assumption, Bool.and_eq_true, decide_eq_true_eq, Bool.false_eq_true, true_iff, false_iff, true_and, and_true, false_and, not_false_eq_true]; done)), HA⟩
 ·
  rw [h25]
  have HA := HA.step0 F24
  refine Zr 27 [(2, .bool false), (51, .bool false), (50, undef), (49, undef), (48, undef), (47, .bool false), (46, .bool false), (45, undef), (44, undef), (43, undef), (42, .bool false), (41, .bool false), (40, undef), (39, undef), (38, undef), (37, .bool false), (36, .bool false), (35, undef), (34, undef), (33, undef), (32, .bool false), (31, .bool false), (30, undef), (29, undef), (28, undef), (27, undef), (26, .bool false)] <| Zdn <| WE.ret <| ZR (.bool false) ?_
  first | exact ⟨congrArg (fun b => Ending.returned (Value.bool b)) (by rw [may_no (i := i) (by omega) (by simp [*])]), HA⟩ | exact ⟨congrArg (fun b => Ending.returned (Value.bool b)) (by rw [may_all (fun j hj => hbe j (by omega))]; rw [Bool.eq_iff_iff]; first | (simp only [show isWord ev.name = true from by assumption, Bool.and_eq_true, decide_eq_true_eq, Bool.false_eq_true, true_iff, false_iff, true_and, and_true, false_and, not_false_eq_true]; omega) | (simp only [show isWord ev.name = false from by assumption, Bool.and_eq_true, decide_eq_true_eq, Bool.false_eq_true, true_iff, false_iff, true_and, and_true, false_and, not_false_eq_true]; done)), HA⟩
set_option maxRecDepth 100000 in
set_option maxHeartbeats 1000000 in
theorem may_r (ev : Ev) (A : Option Addr) (n cp : Nat) (F : List Nat) (w : World) (HT : VX cT 2 w F A ev.tags) (hn : ev.tags.length = n) (hnn : n ≤ 9223372036854775807) (hln : ev.name.length ≤ 9223372036854775807) (hlt : ∀ t ∈ ev.tags, t.1.length ≤ 9223372036854775807 ∧ t.2.length ≤ 9223372036854775807) :
    Calls Tryz.prog 138 #[.agg #[.string (str ev.name), .slice A n cp, .int .i64 ev.kind, .int .i64 ev.value, .int .i64 ev.time]] w fun e w' => e = .returned (.bool (mayE ev)) ∧ Fr [] w w' := by
 have HA := Fr.refl [] w
 refine Zen (N := 64) Tryz.func138 (c := _) [(0, .agg #[.string (str ev.name), .slice A n cp, J ev.kind, J ev.value, J ev.time])] <| Zsg <| Zb 1 #[.string (str ev.name), .slice A n cp, J ev.kind, J ev.value, J ev.time] 91 (fun g => Pt g 0) ?_
 intro g1 w2 HB4 F3 le5 _
 refine Zr 1 [(2, .bool false)] <| Zdn <| Zq <| Zsg <| Zr 1 [(3, J 0)] <| Zdn <| WE.block <| WE.loop (α := Nat) (E := fun i => [(0, .agg #[.string (str ev.name), .slice A n cp, J ev.kind, J ev.value, J ev.time]), (1, Pt g1 0), (2, .bool false), (3, J (i : Int))]) (I := fun i wr => i ≤ n ∧ (∀ j, j < i → (fun t : L × L => isWord t.1 && isWord t.2) (gT ev.tags j) = true) ∧ Blk wr g1 #[.string (str ev.name), .slice A n cp, J ev.kind, J ev.value, J ev.time] 91 ∧ VX cT 2 wr F A ev.tags ∧ Fr [] w wr) (m := fun i => n - i) 0 [0, 1, 2, 3] (by kernel_rfl) ?_ ?_
 ·
  have HT := HT.keep F3 dj0
  have HA := HA.step0 F3
  exact ⟨Nat.zero_le _, fun j hj => absurd hj (Nat.not_lt_zero j), HB4, HT, HA⟩
 rintro i wr ⟨hi, hbe, HB, HT, HA⟩
 refine Zq <| Zsg <| Zr 2 [(8, Pt g1 1), (7, J (i : Int))] <| Zl 9 (.slice A n cp) (HB.s 1) <| Zr 1 [(10, J (n : Int))] <| ZoP 11 (((i : Int) : Int) < (n : Int)) ?_ ?_
 ·
  intro h6
  refine Zdn <| ZT <| Zk <| Zq <| WE.block <| Zsg <| Zr 1 [(14, Pt g1 1)] <| Zl 15 (.slice A n cp) (HB.s 1) <| Zr 1 [(16, J (i : Int))] ?_
  obtain ⟨ad7, hA8⟩ := HT.addr (i := i) (by have := hn; omega)
  refine Zio 17 n 2 i (i : Int) hA8 rfl (by omega) <| Zr 1 [(18, .pointer (some (ad7.add (i * 2))))] <| Zl 19 (.string (str (gT ev.tags i).1)) (same (HT.at0 hA8 (gT_some ev.tags i (by have := hn; omega)) (by kernel_rfl))) <| Zcf 20 (word_r ((gT ev.tags i).1) _ (by first | exact hln | exact (hlt _ (gT_mem (by omega))).1 | exact (hlt _ (gT_mem (by omega))).2)) ?_
  intro w9 F10
  rcases Bool.eq_false_or_eq_true (isWord ((gT ev.tags i).1)) with h11 | h11
  ·
   rw [h11]
   have HB := HB.k F10
   have HT := HT.keep F10 dj0
   refine Zr 1 [(4, .bool true)] <| Zdn <| Zsg <| Zr 1 [(21, Pt g1 1)] <| Zl 22 (.slice A n cp) (HB.s 1) <| Zr 1 [(23, J (i : Int))] ?_
   obtain ⟨ad12, hA13⟩ := HT.addr (i := i) (by have := hn; omega)
   refine Zio 24 n 2 i (i : Int) hA13 rfl (by omega) <| Zr 1 [(25, .pointer (some ((ad12.add (i * 2)).add 1)))] <| Zl 26 (.string (str (gT ev.tags i).2)) (same (HT.at hA13 (gT_some ev.tags i (by have := hn; omega)) 1 (by kernel_rfl))) <| Zc 27 (word_r ((gT ev.tags i).2) _ (by first | exact hln | exact (hlt _ (gT_mem (by omega))).1 | exact (hlt _ (gT_mem (by omega))).2)) ?_
   rintro _ w14 ⟨rfl, F15⟩
   have HA := (HA.step0 F10).step0 F15
   refine ⟨_, rfl, trivial, ?_⟩
   rcases Bool.eq_false_or_eq_true (isWord ((gT ev.tags i).2)) with h16 | h16
   ·
    rw [h16]
    refine Zr 1 [(5, .bool true)] <| Zdn <| Zsg <| Zr 6 [(33, .bool false), (32, .bool false), (31, .bool true), (30, .bool false), (29, .bool false), (28, .bool true)] <| Zdn <| ZF <| WE.skip <| WQ.blkN <| Zn <| WE.region <| Zr 1 [(12, J (i : Int))] <| Zw 13 ((i : Int) + 1) ((i + 1 : Nat) : Int) <| Zr 1 [(3, J ((i + 1 : Nat) : Int))] <| Zd <| WQ.round ?_
    intro a_ ha_
    refine ⟨i + 1, ?_, ha_.keep [0, 1, 2, 3] (by kernel_rfl), ?_⟩
    ·
     omega
    ·
     have HB := HB.k F15
     have HT := HT.keep F15 dj0
     exact ⟨by omega, fun j hj => (Nat.lt_succ_iff_lt_or_eq.1 hj).elim (hbe j) (fun h_ => by rw [h_]; simp [*]), HB, HT, HA⟩
   ·
    rw [h16]
    refine Zr 1 [(5, .bool false)] <| Zdn <| Zsg <| Zr 6 [(33, .bool true), (32, .bool true), (31, .bool false), (30, .bool false), (29, .bool false), (28, .bool true)] <| Zdn <| ZT <| Zsg <| Zr 1 [(2, .bool false)] <| Zdn <| WE.ret <| WQ.blkR <| WQ.thenR <| WQ.thenR <| WQ.blkR <| WQ.thenR <| ZR (.bool false) ?_
    first | exact ⟨congrArg (fun b => Ending.returned (Value.bool b)) (by rw [may_no (i := i) (by omega) (by simp [*])]), HA⟩ | exact ⟨congrArg (fun b => Ending.returned (Value.bool b)) (by rw [may_all (fun j hj => hbe j (by omega))]; rw [Bool.eq_iff_iff]; first | (simp only [show isWord ev.name = true from by assumption, Bool.and_eq_true, decide_eq_true_eq, Bool.false_eq_true, true_iff, false_iff, true_and, and_true, false_and, not_false_eq_true]; omega) | (simp only [show isWord ev.name = false from by assumption, Bool.and_eq_true, decide_eq_true_eq, Bool.false_eq_true, true_iff, false_iff, true_and, and_true, false_and, not_false_eq_true]; done)), HA⟩
  ·
   rw [h11]
   have HB := HB.k F10
   have HT := HT.keep F10 dj0
   refine Zr 1 [(4, .bool false)] <| Zdn <| Zsg <| Zr 1 [(21, Pt g1 1)] <| Zl 22 (.slice A n cp) (HB.s 1) <| Zr 1 [(23, J (i : Int))] ?_
   obtain ⟨ad17, hA18⟩ := HT.addr (i := i) (by have := hn; omega)
   refine Zio 24 n 2 i (i : Int) hA18 rfl (by omega) <| Zr 1 [(25, .pointer (some ((ad17.add (i * 2)).add 1)))] <| Zl 26 (.string (str (gT ev.tags i).2)) (same (HT.at hA18 (gT_some ev.tags i (by have := hn; omega)) 1 (by kernel_rfl))) <| Zc 27 (word_r ((gT ev.tags i).2) _ (by first | exact hln | exact (hlt _ (gT_mem (by omega))).1 | exact (hlt _ (gT_mem (by omega))).2)) ?_
   rintro _ w19 ⟨rfl, F20⟩
   have HA := (HA.step0 F10).step0 F20
   refine ⟨_, rfl, trivial, ?_⟩
   rcases Bool.eq_false_or_eq_true (isWord ((gT ev.tags i).2)) with h21 | h21
   ·
    rw [h21]
    refine Zr 1 [(5, .bool true)] <| Zdn <| Zsg <| Zr 6 [(33, .bool true), (32, undef), (31, undef), (30, .bool true), (29, .bool true), (28, .bool false)] <| Zdn <| ZT <| Zsg <| Zr 1 [(2, .bool false)] <| Zdn <| WE.ret <| WQ.blkR <| WQ.thenR <| WQ.thenR <| WQ.blkR <| WQ.thenR <| ZR (.bool false) ?_
    first | exact ⟨congrArg (fun b => Ending.returned (Value.bool b)) (by rw [may_no (i := i) (by omega) (by simp [*])]), HA⟩ | exact ⟨congrArg (fun b => Ending.returned (Value.bool b)) (by rw [may_all (fun j hj => hbe j (by omega))]; rw [Bool.eq_iff_iff]; first | (simp only [show isWord ev.name = true from by assumption, Bool.and_eq_true, decide_eq_true_eq, Bool.false_eq_true, true_iff, false_iff, true_and, and_true, false_and, not_false_eq_true]; omega) | (simp only [show isWord ev.name = false from by assumption, Bool.and_eq_true, decide_eq_true_eq, Bool.false_eq_true, true_iff, false_iff, true_and, and_true, false_and, not_false_eq_true]; done)), HA⟩
   ·
    rw [h21]
    refine Zr 1 [(5, .bool false)] <| Zdn <| Zsg <| Zr 6 [(33, .bool true), (32, undef), (31, undef), (30, .bool true), (29, .bool true), (28, .bool false)] <| Zdn <| ZT <| Zsg <| Zr 1 [(2, .bool false)] <| Zdn <| WE.ret <| WQ.blkR <| WQ.thenR <| WQ.thenR <| WQ.blkR <| WQ.thenR <| ZR (.bool false) ?_
    first | exact ⟨congrArg (fun b => Ending.returned (Value.bool b)) (by rw [may_no (i := i) (by omega) (by simp [*])]), HA⟩ | exact ⟨congrArg (fun b => Ending.returned (Value.bool b)) (by rw [may_all (fun j hj => hbe j (by omega))]; rw [Bool.eq_iff_iff]; first | (simp only [show isWord ev.name = true from by assumption, Bool.and_eq_true, decide_eq_true_eq, Bool.false_eq_true, true_iff, false_iff, true_and, and_true, false_and, not_false_eq_true]; omega) | (simp only [show isWord ev.name = false from by assumption, Bool.and_eq_true, decide_eq_true_eq, Bool.false_eq_true, true_iff, false_iff, true_and, and_true, false_and, not_false_eq_true]; done)), HA⟩
 intro h6
 refine Zdn <| ZF <| WE.exit <| WQ.thenE <| WQ.thenE <| WQ.blkE <| Zn <| Zsg <| Zr 1 [(34, Pt g1 0)] <| Zl 35 (.string (str ev.name)) (HB.s 0) <| Zcf 36 (word_r ev.name _ (by first | exact hln | exact (hlt _ (gT_mem (by omega))).1 | exact (hlt _ (gT_mem (by omega))).2)) ?_
 intro w22 F23
 rcases Bool.eq_false_or_eq_true (isWord ev.name) with h24 | h24
 ·
  rw [h24]
  have HB := HB.k F23
  refine Zr 1 [(6, .bool true)] <| Zdn <| Zsg <| Zr 3 [(39, Pt g1 1), (38, .bool true), (37, .bool true)] <| Zl 40 (.slice A n cp) (HB.s 1) <| Zr 1 [(41, J (n : Int))] <| ZoP 42 (((n : Int) : Int) ≤ (6 : Int)) ?_ ?_
  ·
   intro h25
   refine Zr 3 [(45, Pt g1 2), (44, .bool true), (43, .bool true)] <| Zl 46 (J ev.kind) (HB.s 2) <| ZoP 47 ((ev.kind : Int) ≥ 1) ?_ ?_
   ·
    intro h26
    refine Zr 3 [(50, Pt g1 2), (49, .bool true), (48, .bool true)] <| Zl 51 (J ev.kind) (HB.s 2) <| ZoP 52 ((ev.kind : Int) ≤ 3) ?_ ?_
    ·
     intro h27
     refine Zr 3 [(55, Pt g1 4), (54, .bool true), (53, .bool true)] <| Zl 56 (J ev.time) (HB.s 4) <| ZoP 57 ((ev.time : Int) ≥ 0) ?_ ?_
     ·
      intro h28
      have HA := HA.step0 F23
      refine Zr 3 [(60, Pt g1 4), (59, .bool true), (58, .bool true)] <| Zl 61 (J ev.time) (HB.s 4) <| Zr 3 [(2, .bool (decide ((ev.time : Int) ≤ 1099511627776))), (63, .bool (decide ((ev.time : Int) ≤ 1099511627776))), (62, .bool (decide ((ev.time : Int) ≤ 1099511627776)))] <| Zdn <| WE.ret <| ZR (.bool (decide ((ev.time : Int) ≤ 1099511627776))) ?_
      first | exact ⟨congrArg (fun b => Ending.returned (Value.bool b)) (by rw [may_no (i := i) (by omega) (by simp [*])]), HA⟩ | exact ⟨congrArg (fun b => Ending.returned (Value.bool b)) (by rw [may_all (fun j hj => hbe j (by omega))]; rw [Bool.eq_iff_iff]; first | (simp only [show isWord ev.name = true from by assumption, Bool.and_eq_true, decide_eq_true_eq, Bool.false_eq_true, true_iff, false_iff, true_and, and_true, false_and, not_false_eq_true]; omega) | (simp only [show isWord ev.name = false from by assumption, Bool.and_eq_true, decide_eq_true_eq, Bool.false_eq_true, true_iff, false_iff, true_and, and_true, false_and, not_false_eq_true]; done)), HA⟩
     intro h28
     have HA := HA.step0 F23
     refine Zr 7 [(2, .bool false), (63, .bool false), (62, undef), (61, undef), (60, undef), (59, .bool false), (58, .bool false)] <| Zdn <| WE.ret <| ZR (.bool false) ?_
     first | exact ⟨congrArg (fun b => Ending.returned (Value.bool b)) (by rw [may_no (i := i) (by omega) (by simp [*])]), HA⟩ | exact ⟨congrArg (fun b => Ending.returned (Value.bool b)) (by rw [may_all (fun j hj => hbe j (by omega))]; rw [Bool.eq_iff_iff]; first | (simp only [show isWord ev.name = true from by assumption, Bool.and_eq_true, decide_eq_true_eq, Bool.false_eq_true, true_iff, false_iff, true_and, and_true, false_and, not_false_eq_true]; omega) | (simp only [show isWord ev.name = false from by assumption, Bool.and_eq_true, decide_eq_true_eq, Bool.false_eq_true, true_iff, false_iff, true_and, and_true, false_and, not_false_eq_true]; done)), HA⟩
    intro h27
    have HA := HA.step0 F23
    refine Zr 12 [(2, .bool false), (63, .bool false), (62, undef), (61, undef), (60, undef), (59, .bool false), (58, .bool false), (57, undef), (56, undef), (55, undef), (54, .bool false), (53, .bool false)] <| Zdn <| WE.ret <| ZR (.bool false) ?_
    first | exact ⟨congrArg (fun b => Ending.returned (Value.bool b)) (by rw [may_no (i := i) (by omega) (by simp [*])]), HA⟩ | exact ⟨congrArg (fun b => Ending.returned (Value.bool b)) (by rw [may_all (fun j hj => hbe j (by omega))]; rw [Bool.eq_iff_iff]; first | (simp only [show isWord ev.name = true from by assumption, Bool.and_eq_true, decide_eq_true_eq, Bool.false_eq_true, true_iff, false_iff, true_and, and_true, false_and, not_false_eq_true]; omega) | (simp only [show isWord ev.name = false from by assumption, Bool.and_eq_true, decide_eq_true_eq, Bool.false_eq_true, true_iff, false_iff, true_and, and_true, false_and, not_false_eq_true]; done)), HA⟩
   intro h26
   have HA := HA.step0 F23
   refine Zr 17 [(2, .bool false), (63, .bool false), (62, undef), (61, undef), (60, undef), (59, .bool false), (58, .bool false), (57, undef), (56, undef), (55, undef), (54, .bool false), (53, .bool false), (52, undef), (51, undef), (50, undef), (49, .bool false), (48, .bool false)] <| Zdn <| WE.ret <| ZR (.bool false) ?_
   first | exact ⟨congrArg (fun b => Ending.returned (Value.bool b)) (by rw [may_no (i := i) (by omega) (by simp [*])]), HA⟩ | exact ⟨congrArg (fun b => Ending.returned (Value.bool b)) (by rw [may_all (fun j hj => hbe j (by omega))]; rw [Bool.eq_iff_iff]; first | (simp only [show isWord ev.name = true from by assumption, Bool.and_eq_true, decide_eq_true_eq, Bool.false_eq_true, true_iff, false_iff, true_and, and_true, false_and, not_false_eq_true]; omega) | (simp only [show isWord ev.name = false from by assumption, Bool.and_eq_true, decide_eq_true_eq, Bool.false_eq_true, true_iff, false_iff, true_and, and_true, false_and, not_false_eq_true]; done)), HA⟩
  intro h25
  have HA := HA.step0 F23
  refine Zr 22 [(2, .bool false), (63, .bool false), (62, undef), (61, undef), (60, undef), (59, .bool false), (58, .bool false), (57, undef), (56, undef), (55, undef), (54, .bool false), (53, .bool false), (52, undef), (51, undef), (50, undef), (49, .bool false), (48, .bool false), (47, undef), (46, undef), (45, undef), (44, .bool false), (43, .bool false)] <| Zdn <| WE.ret <| ZR (.bool false) ?_
  first | exact ⟨congrArg (fun b => Ending.returned (Value.bool b)) (by rw [may_no (i := i) (by omega) (by simp [*])]), HA⟩ | exact ⟨congrArg (fun b => Ending.returned (Value.bool b)) (by rw [may_all (fun j hj => hbe j (by omega))]; rw [Bool.eq_iff_iff]; first | (simp only [show isWord ev.name = true from by assumption, Bool.and_eq_true, decide_eq_true_eq, Bool.false_eq_true, true_iff, false_iff, true_and, and_true, false_and, not_false_eq_true]; omega) | (simp only [show isWord ev.name = false from by assumption, Bool.and_eq_true, decide_eq_true_eq, Bool.false_eq_true, true_iff, false_iff, true_and, and_true, false_and, not_false_eq_true]; done)), HA⟩
 ·
  rw [h24]
  have HA := HA.step0 F23
  refine Zr 1 [(6, .bool false)] <| Zdn <| Zsg <| Zr 28 [(2, .bool false), (63, .bool false), (62, undef), (61, undef), (60, undef), (59, .bool false), (58, .bool false), (57, undef), (56, undef), (55, undef), (54, .bool false), (53, .bool false), (52, undef), (51, undef), (50, undef), (49, .bool false), (48, .bool false), (47, undef), (46, undef), (45, undef), (44, .bool false), (43, .bool false), (42, undef), (41, undef), (40, undef), (39, undef), (38, .bool false), (37, .bool false)] <| Zdn <| WE.ret <| ZR (.bool false) ?_
  first | exact ⟨congrArg (fun b => Ending.returned (Value.bool b)) (by rw [may_no (i := i) (by omega) (by simp [*])]), HA⟩ | exact ⟨congrArg (fun b => Ending.returned (Value.bool b)) (by rw [may_all (fun j hj => hbe j (by omega))]; rw [Bool.eq_iff_iff]; first | (simp only [show isWord ev.name = true from by assumption, Bool.and_eq_true, decide_eq_true_eq, Bool.false_eq_true, true_iff, false_iff, true_and, and_true, false_and, not_false_eq_true]; omega) | (simp only [show isWord ev.name = false from by assumption, Bool.and_eq_true, decide_eq_true_eq, Bool.false_eq_true, true_iff, false_iff, true_and, and_true, false_and, not_false_eq_true]; done)), HA⟩
end Go.Proofs.YtdhonbahpcmmnaaGreatDoor.Line
