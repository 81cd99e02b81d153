/- Layer 4's walks: words, events. -/
import Derived.Test.YtdhonbahpcmmnaaGreatDoorLinePure
import Derived.Test.YtdhonbahpcmmnaaGreatDoorProg
import Derived.Test.YtdhonbahpcmmnaaGreatDoorEngC
set_option linter.unusedVariables false
set_option linter.unusedSimpArgs false
namespace Go.Proofs.YtdhonbahpcmmnaaGreatDoor.Line
open Go Go.RowKit Go.Proofs.YtdhonbahpcmmnaaGreatDoor Go.Proofs.YtdhonbahpcmmnaaGreatDoor.Eng Go.Proofs.YtdhonbahpcmmnaaGreatDoorW.PrintWords
theorem byt : BT Tryz.prog 27 5 9 := ⟨by kernel_rfl, by kernel_rfl, by kernel_rfl⟩
theorem et_b : ET Tryz.prog 27 5 1 1 := by
  obtain ⟨i, h1, h2, h3, h4⟩ := info_parts (P := Tryz.prog) (e := 5) (z := .int .u8 0) (size := 1) (bytes := 1) (by kernel_rfl)
  exact ⟨by kernel_rfl, ⟨i, _, h1, h2, h3, h4, rfl⟩, by decide⟩
theorem hz_b : ∃ i, Tryz.prog.info? 5 = some i ∧ i.zero = some (.int .u8 0) := by
  obtain ⟨i, h1, h2, h3, h4⟩ := info_parts (P := Tryz.prog) (e := 5) (z := .int .u8 0) (size := 1) (bytes := 1) (by kernel_rfl)
  exact ⟨i, h1, h2⟩
def cT (t : L × L) : List Value := [.string (str t.1), .string (str t.2)]
theorem map_gT (q : List (L × L)) (k : Nat) (h : k < q.length) : (q.map cT).getD k [] = cT (gT q k) := by
  rw [List.getD_eq_getElem?_getD, List.getElem?_map, gT_some q k h]
  rfl
theorem cT_len (l : List (L × L)) : ∀ x ∈ l.map cT, x.length = 2 := by
  intro x hx
  obtain ⟨b, _, rfl⟩ := List.mem_map.1 hx
  rfl
theorem cT_one (l : List (L × L)) : ∀ x ∈ l.map cT, x.all oneB = true := by
  intro x hx
  obtain ⟨b, _, rfl⟩ := List.mem_map.1 hx
  rfl
theorem few_no {ev : Ev} {i : Nat} (h : i < ev.tags.length) (hb : 100 < (gT ev.tags i).1.length ∨ 100 < (gT ev.tags i).2.length) : fewE ev = false := by
  unfold fewE
  rw [all_no h (by simp; omega)]
  rfl
theorem may_no {ev : Ev} {i : Nat} (h : i < ev.tags.length) (hb : (isWord (gT ev.tags i).1 && isWord (gT ev.tags i).2) = false) : mayE ev = false := by
  unfold mayE
  rw [all_no h hb]
  rfl
theorem may_all {ev : Ev} (h : ∀ j, j < ev.tags.length → (fun t : L × L => isWord t.1 && isWord t.2) (gT ev.tags j) = true) : mayE ev = (isWord ev.name && decide (ev.tags.length ≤ 6) && decide (1 ≤ ev.kind) && decide (ev.kind ≤ 3) && decide (0 ≤ ev.time) && decide (ev.time ≤ 1099511627776)) := by
  unfold mayE
  rw [all_gT.2 h]
  rfl
set_option maxRecDepth 100000 in
set_option maxHeartbeats 400000 in
theorem within_l (c : UInt8) (w : World) :
    Calls Tryz.prog 110 #[.int .u8 (c.toNat : Int)] w fun e w' => e = .returned (.bool (inW c)) ∧ Fr [] w w' := by
 have HA := Fr.refl [] w
 refine Ze Tryz.func110 _ <| Zsg <| Zr 1 <| Zdn <| Zsg <| Zr 1 <| ZoP 4 (((c.toNat : Int) : Int) ≥ (97 : Int)) ?_ ?_
 ·
  intro h1
  refine Zr 2 <| ZoP 7 (((c.toNat : Int) : Int) ≤ (122 : Int)) ?_ ?_
  ·
   intro h2
   refine Zr 18 <| Zdn <| WE.ret <| ZR (.bool true) ?_
   exact ⟨by rw [inW_t (by omega)], HA⟩
  intro h2
  refine Zr 3 <| ZoP 11 (((c.toNat : Int) : Int) ≥ (48 : Int)) ?_ ?_
  ·
   intro h3
   refine Zr 2 <| ZoP 14 (((c.toNat : Int) : Int) ≤ (57 : Int)) ?_ ?_
   ·
    intro h4
    refine Zr 11 <| Zdn <| WE.ret <| ZR (.bool true) ?_
    exact ⟨by rw [inW_t (by omega)], HA⟩
   intro h4
   refine Zr 4 <| ZoP 19 (((c.toNat : Int) : Int) = (95 : Int)) ?_ ?_
   ·
    intro h5
    refine Zr 6 <| Zdn <| WE.ret <| ZR (.bool true) ?_
    exact ⟨by rw [inW_t (by omega)], HA⟩
   intro h5
   refine Zr 6 <| Zdn <| WE.ret <| ZR (.bool (decide (((c.toNat : Int) : Int) = (46 : Int)))) ?_
   exact ⟨by rw [inW_46 (by omega)], HA⟩
  intro h3
  refine Zr 7 <| ZoP 19 (((c.toNat : Int) : Int) = (95 : Int)) ?_ ?_
  ·
   intro h6
   refine Zr 6 <| Zdn <| WE.ret <| ZR (.bool true) ?_
   exact ⟨by rw [inW_t (by omega)], HA⟩
  intro h6
  refine Zr 6 <| Zdn <| WE.ret <| ZR (.bool (decide (((c.toNat : Int) : Int) = (46 : Int)))) ?_
  exact ⟨by rw [inW_46 (by omega)], HA⟩
 intro h1
 refine Zr 6 <| ZoP 11 (((c.toNat : Int) : Int) ≥ (48 : Int)) ?_ ?_
 ·
  intro h7
  refine Zr 2 <| ZoP 14 (((c.toNat : Int) : Int) ≤ (57 : Int)) ?_ ?_
  ·
   intro h8
   refine Zr 11 <| Zdn <| WE.ret <| ZR (.bool true) ?_
   exact ⟨by rw [inW_t (by omega)], HA⟩
  intro h8
  refine Zr 4 <| ZoP 19 (((c.toNat : Int) : Int) = (95 : Int)) ?_ ?_
  ·
   intro h9
   refine Zr 6 <| Zdn <| WE.ret <| ZR (.bool true) ?_
   exact ⟨by rw [inW_t (by omega)], HA⟩
  intro h9
  refine Zr 6 <| Zdn <| WE.ret <| ZR (.bool (decide (((c.toNat : Int) : Int) = (46 : Int)))) ?_
  exact ⟨by rw [inW_46 (by omega)], HA⟩
 intro h7
 refine Zr 7 <| ZoP 19 (((c.toNat : Int) : Int) = (95 : Int)) ?_ ?_
 ·
  intro h10
  refine Zr 6 <| Zdn <| WE.ret <| ZR (.bool true) ?_
  exact ⟨by rw [inW_t (by omega)], HA⟩
 intro h10
 refine Zr 6 <| Zdn <| WE.ret <| ZR (.bool (decide (((c.toNat : Int) : Int) = (46 : Int)))) ?_
 exact ⟨by rw [inW_46 (by omega)], HA⟩
set_option maxRecDepth 100000 in
set_option maxHeartbeats 400000 in
theorem within_r (c : UInt8) (w : World) :
    Calls Tryz.prog 137 #[.int .u8 (c.toNat : Int)] w fun e w' => e = .returned (.bool (inW c)) ∧ Fr [] w w' := by
 have HA := Fr.refl [] w
 refine Ze Tryz.func137 _ <| Zsg <| Zr 1 <| Zdn <| Zsg <| Zr 1 <| ZoP 4 (((c.toNat : Int) : Int) ≥ (97 : Int)) ?_ ?_
 ·
  intro h1
  refine Zr 2 <| ZoP 7 (((c.toNat : Int) : Int) ≤ (122 : Int)) ?_ ?_
  ·
   intro h2
   refine Zr 18 <| Zdn <| WE.ret <| ZR (.bool true) ?_
   exact ⟨by rw [inW_t (by omega)], HA⟩
  intro h2
  refine Zr 3 <| ZoP 11 (((c.toNat : Int) : Int) ≥ (48 : Int)) ?_ ?_
  ·
   intro h3
   refine Zr 2 <| ZoP 14 (((c.toNat : Int) : Int) ≤ (57 : Int)) ?_ ?_
   ·
    intro h4
    refine Zr 11 <| Zdn <| WE.ret <| ZR (.bool true) ?_
    exact ⟨by rw [inW_t (by omega)], HA⟩
   intro h4
   refine Zr 4 <| ZoP 19 (((c.toNat : Int) : Int) = (95 : Int)) ?_ ?_
   ·
    intro h5
    refine Zr 6 <| Zdn <| WE.ret <| ZR (.bool true) ?_
    exact ⟨by rw [inW_t (by omega)], HA⟩
   intro h5
   refine Zr 6 <| Zdn <| WE.ret <| ZR (.bool (decide (((c.toNat : Int) : Int) = (46 : Int)))) ?_
   exact ⟨by rw [inW_46 (by omega)], HA⟩
  intro h3
  refine Zr 7 <| ZoP 19 (((c.toNat : Int) : Int) = (95 : Int)) ?_ ?_
  ·
   intro h6
   refine Zr 6 <| Zdn <| WE.ret <| ZR (.bool true) ?_
   exact ⟨by rw [inW_t (by omega)], HA⟩
  intro h6
  refine Zr 6 <| Zdn <| WE.ret <| ZR (.bool (decide (((c.toNat : Int) : Int) = (46 : Int)))) ?_
  exact ⟨by rw [inW_46 (by omega)], HA⟩
 intro h1
 refine Zr 6 <| ZoP 11 (((c.toNat : Int) : Int) ≥ (48 : Int)) ?_ ?_
 ·
  intro h7
  refine Zr 2 <| ZoP 14 (((c.toNat : Int) : Int) ≤ (57 : Int)) ?_ ?_
  ·
   intro h8
   refine Zr 11 <| Zdn <| WE.ret <| ZR (.bool true) ?_
   exact ⟨by rw [inW_t (by omega)], HA⟩
  intro h8
  refine Zr 4 <| ZoP 19 (((c.toNat : Int) : Int) = (95 : Int)) ?_ ?_
  ·
   intro h9
   refine Zr 6 <| Zdn <| WE.ret <| ZR (.bool true) ?_
   exact ⟨by rw [inW_t (by omega)], HA⟩
  intro h9
  refine Zr 6 <| Zdn <| WE.ret <| ZR (.bool (decide (((c.toNat : Int) : Int) = (46 : Int)))) ?_
  exact ⟨by rw [inW_46 (by omega)], HA⟩
 intro h7
 refine Zr 7 <| ZoP 19 (((c.toNat : Int) : Int) = (95 : Int)) ?_ ?_
 ·
  intro h10
  refine Zr 6 <| Zdn <| WE.ret <| ZR (.bool true) ?_
  exact ⟨by rw [inW_t (by omega)], HA⟩
 intro h10
 refine Zr 6 <| Zdn <| WE.ret <| ZR (.bool (decide (((c.toNat : Int) : Int) = (46 : Int)))) ?_
 exact ⟨by rw [inW_46 (by omega)], HA⟩
set_option maxRecDepth 100000 in
set_option maxHeartbeats 400000 in
theorem word_l (s : L) (w : World) (hs : s.length ≤ 9223372036854775807) :
    Calls Tryz.prog 111 #[.string (str s)] w fun e w' => e = .returned (.bool (isWord s)) ∧ Fr [] w w' := by
 have HA := Fr.refl [] w
 refine Ze Tryz.func111 _ <| Zsg <| Zr 1 <| Zdn <| Zq <| Zsg <| Zr 3 <| Zdn <| WE.block <| WE.loop (α := Nat) (E := fun i => [(0, .string (str s)), (2, .bool false), (5, J (s.length : Int)), (6, J (i : Int))]) (I := fun i wr => i ≤ s.length ∧ (∀ j, j < i → inW (gb s j) = true) ∧ Fr [] w wr) (m := fun i => s.length - i) 0 [0, 2, 5, 6] (by kernel_rfl) ?_ ?_
 ·
  exact ⟨Nat.zero_le _, fun j hj => absurd hj (Nat.not_lt_zero j), HA⟩
 rintro i wr ⟨hi, hbe, HA⟩
 refine Zsg <| ZoP 7 (((i : Int) : Int) < (s.length : Int)) ?_ ?_
 ·
  intro h1
  refine Zdn <| Zq <| ZT <| Zk <| Zq <| WE.block <| Zsg <| Zr 2 <| Zdn <| Zsg <| Zr 2 <| Zis (i := (i : Int)) 11 i s (by rfl) (by omega) <| Zcf 12 (within_l (gB s i) _) ?_
  intro w2 F3
  rcases Bool.eq_false_or_eq_true (inW (gB s i)) with h4 | h4
  ·
   rw [h4]
   refine Zr 1 <| Zdn <| ZF <| WE.skip <| WQ.blkN <| Zn <| WE.region <| Zw 14 ((i : Int) + 1) ((i + 1 : Nat) : Int) <| Zr 1 <| Zd <| WQ.round ?_
   intro a_ ha_
   refine ⟨i + 1, ?_, ha_.keep [0, 2, 5, 6] (by kernel_rfl), ?_⟩
   ·
    omega
   ·
    exact ⟨by omega, fun j hj => (Nat.lt_succ_iff_lt_or_eq.1 hj).elim (hbe j) (fun h_ => by rw [h_]; assumption), (HA.step0 F3)⟩
  ·
   rw [h4]
   have HA := HA.step0 F3
   refine Zr 1 <| Zdn <| ZT <| Zsg <| Zr 1 <| Zdn <| WE.ret <| WQ.blkR <| WQ.thenR <| WQ.thenR <| WQ.blkR <| WQ.thenR <| ZR (.bool false) ?_
   first | exact ⟨congrArg (fun b => Ending.returned (Value.bool b)) (by rw [word_bad (i := i) (by omega) (by assumption)]), HA⟩ | exact ⟨congrArg (fun b => Ending.returned (Value.bool b)) (by rw [word_all (fun j hj => hbe j (by omega))]; rw [Bool.eq_iff_iff]; simp only [Bool.and_eq_true, decide_eq_true_eq, Bool.false_eq_true, true_iff, false_iff, true_and, and_true]; omega), HA⟩
 intro h1
 refine Zdn <| Zq <| ZF <| WE.exit <| WQ.thenE <| WQ.thenE <| WQ.blkE <| Zn <| Zsg <| Zr 2 <| ZoP 17 (((s.length : Int) : Int) ≥ (1 : Int)) ?_ ?_
 ·
  intro h5
  refine Zr 6 <| Zdn <| WE.ret <| ZR (.bool (decide (((s.length : Int) : Int) ≤ (16 : Int)))) ?_
  exact ⟨congrArg (fun b => Ending.returned (Value.bool b)) (by rw [word_all (fun j hj => hbe j (by omega))]; rw [Bool.eq_iff_iff]; simp only [Bool.and_eq_true, decide_eq_true_eq, Bool.false_eq_true, true_iff, false_iff, true_and, and_true]; omega), HA⟩
 intro h5
 refine Zr 6 <| Zdn <| WE.ret <| ZR (.bool false) ?_
 first | exact ⟨congrArg (fun b => Ending.returned (Value.bool b)) (by rw [word_bad (i := i) (by omega) (by assumption)]), HA⟩ | exact ⟨congrArg (fun b => Ending.returned (Value.bool b)) (by rw [word_all (fun j hj => hbe j (by omega))]; rw [Bool.eq_iff_iff]; simp only [Bool.and_eq_true, decide_eq_true_eq, Bool.false_eq_true, true_iff, false_iff, true_and, and_true]; omega), HA⟩
set_option maxRecDepth 100000 in
set_option maxHeartbeats 400000 in
theorem word_r (s : L) (w : World) (hs : s.length ≤ 9223372036854775807) :
    Calls Tryz.prog 105 #[.string (str s)] w fun e w' => e = .returned (.bool (isWord s)) ∧ Fr [] w w' := by
 have HA := Fr.refl [] w
 refine Ze Tryz.func105 _ <| Zsg <| Zr 1 <| Zdn <| Zq <| Zsg <| Zr 1 <| Zdn <| WE.block <| WE.loop (α := Nat) (E := fun i => [(0, .string (str s)), (2, .bool false), (3, J (i : Int))]) (I := fun i wr => i ≤ s.length ∧ (∀ j, j < i → inW (gb s j) = true) ∧ Fr [] w wr) (m := fun i => s.length - i) 0 [0, 2, 3] (by kernel_rfl) ?_ ?_
 ·
  exact ⟨Nat.zero_le _, fun j hj => absurd hj (Nat.not_lt_zero j), HA⟩
 rintro i wr ⟨hi, hbe, HA⟩
 refine Zq <| Zsg <| Zr 3 <| ZoP 8 (((i : Int) : Int) < (s.length : Int)) ?_ ?_
 ·
  intro h1
  refine Zdn <| ZT <| Zk <| Zq <| WE.block <| Zsg <| Zr 2 <| Zis (i := (i : Int)) 13 i s (by rfl) (by omega) <| Zcf 14 (within_r (gB s i) _) ?_
  intro w2 F3
  rcases Bool.eq_false_or_eq_true (inW (gB s i)) with h4 | h4
  ·
   rw [h4]
   refine Zr 1 <| Zdn <| Zsg <| Zr 2 <| Zdn <| ZF <| WE.skip <| WQ.blkN <| Zn <| WE.region <| Zr 1 <| Zw 10 ((i : Int) + 1) ((i + 1 : Nat) : Int) <| Zr 1 <| Zd <| WQ.round ?_
   intro a_ ha_
   refine ⟨i + 1, ?_, ha_.keep [0, 2, 3] (by kernel_rfl), ?_⟩
   ·
    omega
   ·
    exact ⟨by omega, fun j hj => (Nat.lt_succ_iff_lt_or_eq.1 hj).elim (hbe j) (fun h_ => by rw [h_]; assumption), (HA.step0 F3)⟩
  ·
   rw [h4]
   have HA := HA.step0 F3
   refine Zr 1 <| Zdn <| Zsg <| Zr 2 <| Zdn <| ZT <| Zsg <| Zr 1 <| Zdn <| WE.ret <| WQ.blkR <| WQ.thenR <| WQ.thenR <| WQ.blkR <| WQ.thenR <| ZR (.bool false) ?_
   first | exact ⟨congrArg (fun b => Ending.returned (Value.bool b)) (by rw [word_bad (i := i) (by omega) (by assumption)]), HA⟩ | exact ⟨congrArg (fun b => Ending.returned (Value.bool b)) (by rw [word_all (fun j hj => hbe j (by omega))]; rw [Bool.eq_iff_iff]; simp only [Bool.and_eq_true, decide_eq_true_eq, Bool.false_eq_true, true_iff, false_iff, true_and, and_true]; omega), HA⟩
 intro h1
 refine Zdn <| ZF <| WE.exit <| WQ.thenE <| WQ.thenE <| WQ.blkE <| Zn <| Zsg <| Zr 2 <| ZoP 19 (((s.length : Int) : Int) > (0 : Int)) ?_ ?_
 ·
  intro h5
  refine Zr 6 <| Zdn <| WE.ret <| ZR (.bool (decide (((s.length : Int) : Int) ≤ (16 : Int)))) ?_
  exact ⟨congrArg (fun b => Ending.returned (Value.bool b)) (by rw [word_all (fun j hj => hbe j (by omega))]; rw [Bool.eq_iff_iff]; simp only [Bool.and_eq_true, decide_eq_true_eq, Bool.false_eq_true, true_iff, false_iff, true_and, and_true]; omega), HA⟩
 intro h5
 refine Zr 6 <| Zdn <| WE.ret <| ZR (.bool false) ?_
 first | exact ⟨congrArg (fun b => Ending.returned (Value.bool b)) (by rw [word_bad (i := i) (by omega) (by assumption)]), HA⟩ | exact ⟨congrArg (fun b => Ending.returned (Value.bool b)) (by rw [word_all (fun j hj => hbe j (by omega))]; rw [Bool.eq_iff_iff]; simp only [Bool.and_eq_true, decide_eq_true_eq, Bool.false_eq_true, true_iff, false_iff, true_and, and_true]; omega), HA⟩
set_option maxRecDepth 100000 in
set_option maxHeartbeats 1000000 in
theorem may_l (ev : Ev) (A : Option Addr) (n cp : Nat) (F : List Nat) (w : World) (HT : VX cT 2 w F A ev.tags) (hn : ev.tags.length = n) (hnn : n ≤ 9223372036854775807) (hln : ev.name.length ≤ 9223372036854775807) (hlt : ∀ t ∈ ev.tags, t.1.length ≤ 9223372036854775807 ∧ t.2.length ≤ 9223372036854775807) :
    Calls Tryz.prog 115 #[.agg #[.string (str ev.name), .slice A n cp, .int .i64 ev.kind, .int .i64 ev.value, .int .i64 ev.time]] w fun e w' => e = .returned (.bool (mayE ev)) ∧ Fr [] w w' := by
 have HA := Fr.refl [] w
 refine Ze Tryz.func115 _ <| Zsg <| Zb 1 #[.string (str ev.name), .slice A n cp, J ev.kind, J ev.value, J ev.time] 91 (fun g => Pt g 0) ?_
 intro g1 w2 HB4 F3 le5 _
 refine Zr 1 <| Zdn <| Zq <| Zsg <| Zr 1 <| Zl 6 (.slice A n cp) (HB4.s 1) <| Zr 2 <| Zdn <| WE.block <| WE.loop (α := Nat) (E := fun i => [(0, .agg #[.string (str ev.name), .slice A n cp, J ev.kind, J ev.value, J ev.time]), (1, Pt g1 0), (2, .bool false), (6, .slice A n cp), (7, J (n : Int)), (8, J (i : Int))]) (I := fun i wr => i ≤ n ∧ (∀ j, j < i → (fun t : L × L => isWord t.1 && isWord t.2) (gT ev.tags j) = true) ∧ Blk wr g1 #[.string (str ev.name), .slice A n cp, J ev.kind, J ev.value, J ev.time] 91 ∧ VX cT 2 wr F A ev.tags ∧ Fr [] w wr) (m := fun i => n - i) 0 [0, 1, 2, 6, 7, 8] (by kernel_rfl) ?_ ?_
 ·
  exact ⟨Nat.zero_le _, fun j hj => absurd hj (Nat.not_lt_zero j), HB4, (HT.keep F3 dj0), (HA.step0 F3)⟩
 rintro i wr ⟨hi, hbe, HB, HT, HA⟩
 refine Zsg <| ZoP 9 (((i : Int) : Int) < (n : Int)) ?_ ?_
 ·
  intro h6
  refine Zdn <| Zq <| ZT <| Zk <| Zq <| WE.block <| Zq <| WE.region ?_
  obtain ⟨ad7, hA8⟩ := HT.addr (i := i) (by have := hn; omega)
  refine Zio 10 n 2 i (i : Int) hA8 <| Zla (ad := (ad7.add (i * 2))) 11 [.string (str (gT ev.tags i).1), .string (str (gT ev.tags i).2)] (fun _ hw_ _ hj_ => by subst hw_; exact HT.part0 hA8 (gT_some ev.tags i (by have := hn; omega)) [.string (str (gT ev.tags i).1), .string (str (gT ev.tags i).2)] (by kernel_rfl) _ hj_) <| Zb 4 #[.string (⟨#[]⟩), .string (⟨#[]⟩)] 143 (fun g => Pt g 0) ?_
  intro g9 w10 HB12 F11 le13 _
  have ne_g1_g9 := ltn HB.lt le13
  have nin_g9_F := new_nin HT.lt le13
  have ge_HA_g9 := Nat.le_trans HA.size le13
  refine Zst g9 0 #[.string (str (gT ev.tags i).1), .string (str (gT ev.tags i).2)] HB12 ?_
  intro w14 HB16 F15 _
  refine Zdn <| Zsg <| Zr 1 <| Zl 13 (.string (str (gT ev.tags i).1)) (HB16.s 0) <| Zc 14 (word_l ((gT ev.tags i).1) _ (by first | exact hln | exact (hlt _ (gT_mem (by omega))).1 | exact (hlt _ (gT_mem (by omega))).2)) ?_
  rintro _ w17 ⟨rfl, F18⟩
  have HA := ((HA.step0 F11).step F15 (inSR ge_HA_g9 inS0)).step0 F18
  refine ⟨_, rfl, trivial, ?_⟩
  rcases Bool.eq_false_or_eq_true (isWord ((gT ev.tags i).1)) with h19 | h19
  ·
   rw [h19]
   refine Zr 3 <| Zl 18 (.string (str (gT ev.tags i).2)) (same ((HB16.k F18).at 1 (by kernel_rfl))) <| Zcf 19 (word_l ((gT ev.tags i).2) _ (by first | exact hln | exact (hlt _ (gT_mem (by omega))).1 | exact (hlt _ (gT_mem (by omega))).2)) ?_
   intro w20 F21
   rcases Bool.eq_false_or_eq_true (isWord ((gT ev.tags i).2)) with h22 | h22
   ·
    rw [h22]
    refine Zr 2 <| Zdn <| ZF <| WE.skip <| WQ.blkN <| Zn <| WE.region <| Zw 22 ((i : Int) + 1) ((i + 1 : Nat) : Int) <| Zr 1 <| Zd <| WQ.round ?_
    intro a_ ha_
    refine ⟨i + 1, ?_, ha_.keep [0, 1, 2, 6, 7, 8] (by kernel_rfl), ?_⟩
    ·
     omega
    ·
     exact ⟨by omega, fun j hj => (Nat.lt_succ_iff_lt_or_eq.1 hj).elim (hbe j) (fun h_ => by rw [h_]; simp [*]), ((((HB.k F11).j F15 ne_g1_g9).k F18).k F21), ((((HT.keep F11 dj0).keep F15 (djB nin_g9_F)).keep F18 dj0).keep F21 dj0), (HA.step0 F21)⟩
   ·
    rw [h22]
    have HA := HA.step0 F21
    refine Zr 2 <| Zdn <| ZT <| Zsg <| Zr 1 <| Zdn <| WE.ret <| WQ.blkR <| WQ.thenR <| WQ.thenR <| WQ.blkR <| WQ.thenR <| ZR (.bool false) ?_
    first | exact ⟨congrArg (fun b => Ending.returned (Value.bool b)) (by rw [may_no (i := i) (by omega) (by simp [*])]), HA⟩ | exact ⟨congrArg (fun b => Ending.returned (Value.bool b)) (by rw [may_all (fun j hj => hbe j (by omega))]; rw [Bool.eq_iff_iff]; first | (simp only [show isWord ev.name = true from by assumption, Bool.and_eq_true, decide_eq_true_eq, Bool.false_eq_true, true_iff, false_iff, true_and, and_true, false_and, not_false_eq_true]; omega) | (simp only [show isWord ev.name = false from by assumption, Bool.and_eq_true, decide_eq_true_eq, Bool.false_eq_true, true_iff, false_iff, true_and, and_true, false_and, not_false_eq_true]; done)), HA⟩
  ·
   rw [h19]
   refine Zr 7 <| Zdn <| ZT <| Zsg <| Zr 1 <| Zdn <| WE.ret <| WQ.blkR <| WQ.thenR <| WQ.thenR <| WQ.blkR <| WQ.thenR <| ZR (.bool false) ?_
   first | exact ⟨congrArg (fun b => Ending.returned (Value.bool b)) (by rw [may_no (i := i) (by omega) (by simp [*])]), HA⟩ | exact ⟨congrArg (fun b => Ending.returned (Value.bool b)) (by rw [may_all (fun j hj => hbe j (by omega))]; rw [Bool.eq_iff_iff]; first | (simp only [show isWord ev.name = true from by assumption, Bool.and_eq_true, decide_eq_true_eq, Bool.false_eq_true, true_iff, false_iff, true_and, and_true, false_and, not_false_eq_true]; omega) | (simp only [show isWord ev.name = false from by assumption, Bool.and_eq_true, decide_eq_true_eq, Bool.false_eq_true, true_iff, false_iff, true_and, and_true, false_and, not_false_eq_true]; done)), HA⟩
 intro h6
 refine Zdn <| Zq <| ZF <| WE.exit <| WQ.thenE <| WQ.thenE <| WQ.blkE <| Zn <| Zsg <| Zr 1 <| Zl 24 (.string (str ev.name)) (HB.s 0) <| Zcf 25 (word_l ev.name _ (by first | exact hln | exact (hlt _ (gT_mem (by omega))).1 | exact (hlt _ (gT_mem (by omega))).2)) ?_
 intro w23 F24
 rcases Bool.eq_false_or_eq_true (isWord ev.name) with h25 | h25
 ·
  rw [h25]
  have HB := HB.k F24
  refine Zr 2 <| Zl 28 (.slice A n cp) (HB.s 1) <| Zr 1 <| ZoP 30 (((n : Int) : Int) ≤ (6 : Int)) ?_ ?_
  ·
   intro h26
   refine Zr 3 <| Zl 34 (J ev.kind) (HB.s 2) <| ZoP 35 ((ev.kind : Int) ≥ 1) ?_ ?_
   ·
    intro h27
    refine Zr 3 <| Zl 39 (J ev.kind) (HB.s 2) <| ZoP 40 ((ev.kind : Int) ≤ 3) ?_ ?_
    ·
     intro h28
     refine Zr 3 <| Zl 44 (J ev.time) (HB.s 4) <| ZoP 45 ((ev.time : Int) ≥ 0) ?_ ?_
     ·
      intro h29
      have HA := HA.step0 F24
      refine Zr 3 <| Zl 49 (J ev.time) (HB.s 4) <| Zr 3 <| Zdn <| WE.ret <| ZR (.bool (decide ((ev.time : Int) ≤ 1099511627776))) ?_
      first | exact ⟨congrArg (fun b => Ending.returned (Value.bool b)) (by rw [may_no (i := i) (by omega) (by simp [*])]), HA⟩ | exact ⟨congrArg (fun b => Ending.returned (Value.bool b)) (by rw [may_all (fun j hj => hbe j (by omega))]; rw [Bool.eq_iff_iff]; first | (simp only [show isWord ev.name = true from by assumption, Bool.and_eq_true, decide_eq_true_eq, Bool.false_eq_true, true_iff, false_iff, true_and, and_true, false_and, not_false_eq_true]; omega) | (simp only [show isWord ev.name = false from by assumption, Bool.and_eq_true, decide_eq_true_eq, Bool.false_eq_true, true_iff, false_iff, true_and, and_true, false_and, not_false_eq_true]; done)), HA⟩
     intro h29
     have HA := HA.step0 F24
     refine Zr 7 <| Zdn <| WE.ret <| ZR (.bool false) ?_
     first | exact ⟨congrArg (fun b => Ending.returned (Value.bool b)) (by rw [may_no (i := i) (by omega) (by simp [*])]), HA⟩ | exact ⟨congrArg (fun b => Ending.returned (Value.bool b)) (by rw [may_all (fun j hj => hbe j (by omega))]; rw [Bool.eq_iff_iff]; first | (simp only [show isWord ev.name = true from by assumption, Bool.and_eq_true, decide_eq_true_eq, Bool.false_eq_true, true_iff, false_iff, true_and, and_true, false_and, not_false_eq_true]; omega) | (simp only [show isWord ev.name = false from by assumption, Bool.and_eq_true, decide_eq_true_eq, Bool.false_eq_true, true_iff, false_iff, true_and, and_true, false_and, not_false_eq_true]; done)), HA⟩
    intro h28
    have HA := HA.step0 F24
    refine Zr 12 <| Zdn <| WE.ret <| ZR (.bool false) ?_
    first | exact ⟨congrArg (fun b => Ending.returned (Value.bool b)) (by rw [may_no (i := i) (by omega) (by simp [*])]), HA⟩ | exact ⟨congrArg (fun b => Ending.returned (Value.bool b)) (by rw [may_all (fun j hj => hbe j (by omega))]; rw [Bool.eq_iff_iff]; first | (simp only [show isWord ev.name = true from by assumption, Bool.and_eq_true, decide_eq_true_eq, Bool.false_eq_true, true_iff, false_iff, true_and, and_true, false_and, not_false_eq_true]; omega) | (simp only [show isWord ev.name = false from by assumption, Bool.and_eq_true, decide_eq_true_eq, Bool.false_eq_true, true_iff, false_iff, true_and, and_true, false_and, not_false_eq_true]; done)), HA⟩
   intro h27
   have HA := HA.step0 F24
   refine Zr 17 <| Zdn <| WE.ret <| ZR (.bool false) ?_
   first | exact ⟨congrArg (fun b => Ending.returned (Value.bool b)) (by rw [may_no (i := i) (by omega) (by simp [*])]), HA⟩ | exact ⟨congrArg (fun b => Ending.returned (Value.bool b)) (by rw [may_all (fun j hj => hbe j (by omega))]; rw [Bool.eq_iff_iff]; first | (simp only [show isWord ev.name = true from by assumption, Bool.and_eq_true, decide_eq_true_eq, Bool.false_eq_true, true_iff, false_iff, true_and, and_true, false_and, not_false_eq_true]; omega) | (simp only [show isWord ev.name = false from by assumption, Bool.and_eq_true, decide_eq_true_eq, Bool.false_eq_true, true_iff, false_iff, true_and, and_true, false_and, not_false_eq_true]; done)), HA⟩
  intro h26
  have HA := HA.step0 F24
  refine Zr 22 <| Zdn <| WE.ret <| ZR (.bool false) ?_
  first | exact ⟨congrArg (fun b => Ending.returned (Value.bool b)) (by rw [may_no (i := i) (by omega) (by simp [*])]), HA⟩ | exact ⟨congrArg (fun b => Ending.returned (Value.bool b)) (by rw [may_all (fun j hj => hbe j (by omega))]; rw [Bool.eq_iff_iff]; first | (simp only [show isWord ev.name = true from by assumption, Bool.and_eq_true, decide_eq_true_eq, Bool.false_eq_true, true_iff, false_iff, true_and, and_true, false_and, not_false_eq_true]; omega) | (simp only [show isWord ev.name = false from by assumption, Bool.and_eq_true, decide_eq_true_eq, Bool.false_eq_true, true_iff, false_iff, true_and, and_true, false_and, not_false_eq_true]; done)), HA⟩
 ·
  rw [h25]
  have HA := HA.step0 F24
  refine Zr 27 <| Zdn <| WE.ret <| ZR (.bool false) ?_
  first | exact ⟨congrArg (fun b => Ending.returned (Value.bool b)) (by rw [may_no (i := i) (by omega) (by simp [*])]), HA⟩ | exact ⟨congrArg (fun b => Ending.returned (Value.bool b)) (by rw [may_all (fun j hj => hbe j (by omega))]; rw [Bool.eq_iff_iff]; first | (simp only [show isWord ev.name = true from by assumption, Bool.and_eq_true, decide_eq_true_eq, Bool.false_eq_true, true_iff, false_iff, true_and, and_true, false_and, not_false_eq_true]; omega) | (simp only [show isWord ev.name = false from by assumption, Bool.and_eq_true, decide_eq_true_eq, Bool.false_eq_true, true_iff, false_iff, true_and, and_true, false_and, not_false_eq_true]; done)), HA⟩
set_option maxRecDepth 100000 in
set_option maxHeartbeats 1000000 in
theorem may_r (ev : Ev) (A : Option Addr) (n cp : Nat) (F : List Nat) (w : World) (HT : VX cT 2 w F A ev.tags) (hn : ev.tags.length = n) (hnn : n ≤ 9223372036854775807) (hln : ev.name.length ≤ 9223372036854775807) (hlt : ∀ t ∈ ev.tags, t.1.length ≤ 9223372036854775807 ∧ t.2.length ≤ 9223372036854775807) :
    Calls Tryz.prog 138 #[.agg #[.string (str ev.name), .slice A n cp, .int .i64 ev.kind, .int .i64 ev.value, .int .i64 ev.time]] w fun e w' => e = .returned (.bool (mayE ev)) ∧ Fr [] w w' := by
 have HA := Fr.refl [] w
 refine Ze Tryz.func138 _ <| Zsg <| Zb 1 #[.string (str ev.name), .slice A n cp, J ev.kind, J ev.value, J ev.time] 91 (fun g => Pt g 0) ?_
 intro g1 w2 HB4 F3 le5 _
 refine Zr 1 <| Zdn <| Zq <| Zsg <| Zr 1 <| Zdn <| WE.block <| WE.loop (α := Nat) (E := fun i => [(0, .agg #[.string (str ev.name), .slice A n cp, J ev.kind, J ev.value, J ev.time]), (1, Pt g1 0), (2, .bool false), (3, J (i : Int))]) (I := fun i wr => i ≤ n ∧ (∀ j, j < i → (fun t : L × L => isWord t.1 && isWord t.2) (gT ev.tags j) = true) ∧ Blk wr g1 #[.string (str ev.name), .slice A n cp, J ev.kind, J ev.value, J ev.time] 91 ∧ VX cT 2 wr F A ev.tags ∧ Fr [] w wr) (m := fun i => n - i) 0 [0, 1, 2, 3] (by kernel_rfl) ?_ ?_
 ·
  exact ⟨Nat.zero_le _, fun j hj => absurd hj (Nat.not_lt_zero j), HB4, (HT.keep F3 dj0), (HA.step0 F3)⟩
 rintro i wr ⟨hi, hbe, HB, HT, HA⟩
 refine Zq <| Zsg <| Zr 2 <| Zl 9 (.slice A n cp) (HB.s 1) <| Zr 1 <| ZoP 11 (((i : Int) : Int) < (n : Int)) ?_ ?_
 ·
  intro h6
  refine Zdn <| ZT <| Zk <| Zq <| WE.block <| Zsg <| Zr 1 <| Zl 15 (.slice A n cp) (HB.s 1) <| Zr 1 ?_
  obtain ⟨ad7, hA8⟩ := HT.addr (i := i) (by have := hn; omega)
  refine Zio 17 n 2 i (i : Int) hA8 <| Zr 1 <| Zl 19 (.string (str (gT ev.tags i).1)) (same (HT.at0 hA8 (gT_some ev.tags i (by have := hn; omega)) (by kernel_rfl))) <| Zcf 20 (word_r ((gT ev.tags i).1) _ (by first | exact hln | exact (hlt _ (gT_mem (by omega))).1 | exact (hlt _ (gT_mem (by omega))).2)) ?_
  intro w9 F10
  rcases Bool.eq_false_or_eq_true (isWord ((gT ev.tags i).1)) with h11 | h11
  ·
   rw [h11]
   have HB := HB.k F10
   have HT := HT.keep F10 dj0
   refine Zr 1 <| Zdn <| Zsg <| Zr 1 <| Zl 22 (.slice A n cp) (HB.s 1) <| Zr 1 ?_
   obtain ⟨ad12, hA13⟩ := HT.addr (i := i) (by have := hn; omega)
   refine Zio 24 n 2 i (i : Int) hA13 <| Zr 1 <| Zl 26 (.string (str (gT ev.tags i).2)) (same (HT.at hA13 (gT_some ev.tags i (by have := hn; omega)) 1 (by kernel_rfl))) <| Zc 27 (word_r ((gT ev.tags i).2) _ (by first | exact hln | exact (hlt _ (gT_mem (by omega))).1 | exact (hlt _ (gT_mem (by omega))).2)) ?_
   rintro _ w14 ⟨rfl, F15⟩
   have HA := (HA.step0 F10).step0 F15
   refine ⟨_, rfl, trivial, ?_⟩
   rcases Bool.eq_false_or_eq_true (isWord ((gT ev.tags i).2)) with h16 | h16
   ·
    rw [h16]
    refine Zr 1 <| Zdn <| Zsg <| Zr 6 <| Zdn <| ZF <| WE.skip <| WQ.blkN <| Zn <| WE.region <| Zr 1 <| Zw 13 ((i : Int) + 1) ((i + 1 : Nat) : Int) <| Zr 1 <| Zd <| WQ.round ?_
    intro a_ ha_
    refine ⟨i + 1, ?_, ha_.keep [0, 1, 2, 3] (by kernel_rfl), ?_⟩
    ·
     omega
    ·
     exact ⟨by omega, fun j hj => (Nat.lt_succ_iff_lt_or_eq.1 hj).elim (hbe j) (fun h_ => by rw [h_]; simp [*]), (HB.k F15), (HT.keep F15 dj0), HA⟩
   ·
    rw [h16]
    refine Zr 1 <| Zdn <| Zsg <| Zr 6 <| Zdn <| ZT <| Zsg <| Zr 1 <| Zdn <| WE.ret <| WQ.blkR <| WQ.thenR <| WQ.thenR <| WQ.blkR <| WQ.thenR <| ZR (.bool false) ?_
    first | exact ⟨congrArg (fun b => Ending.returned (Value.bool b)) (by rw [may_no (i := i) (by omega) (by simp [*])]), HA⟩ | exact ⟨congrArg (fun b => Ending.returned (Value.bool b)) (by rw [may_all (fun j hj => hbe j (by omega))]; rw [Bool.eq_iff_iff]; first | (simp only [show isWord ev.name = true from by assumption, Bool.and_eq_true, decide_eq_true_eq, Bool.false_eq_true, true_iff, false_iff, true_and, and_true, false_and, not_false_eq_true]; omega) | (simp only [show isWord ev.name = false from by assumption, Bool.and_eq_true, decide_eq_true_eq, Bool.false_eq_true, true_iff, false_iff, true_and, and_true, false_and, not_false_eq_true]; done)), HA⟩
  ·
   rw [h11]
   have HT := HT.keep F10 dj0
   refine Zr 1 <| Zdn <| Zsg <| Zr 1 <| Zl 22 (.slice A n cp) (same ((HB.k F10).at 1 (by kernel_rfl))) <| Zr 1 ?_
   obtain ⟨ad17, hA18⟩ := HT.addr (i := i) (by have := hn; omega)
   refine Zio 24 n 2 i (i : Int) hA18 <| Zr 1 <| Zl 26 (.string (str (gT ev.tags i).2)) (same (HT.at hA18 (gT_some ev.tags i (by have := hn; omega)) 1 (by kernel_rfl))) <| Zc 27 (word_r ((gT ev.tags i).2) _ (by first | exact hln | exact (hlt _ (gT_mem (by omega))).1 | exact (hlt _ (gT_mem (by omega))).2)) ?_
   rintro _ w19 ⟨rfl, F20⟩
   have HA := (HA.step0 F10).step0 F20
   refine ⟨_, rfl, trivial, ?_⟩
   rcases Bool.eq_false_or_eq_true (isWord ((gT ev.tags i).2)) with h21 | h21
   ·
    rw [h21]
    refine Zr 1 <| Zdn <| Zsg <| Zr 6 <| Zdn <| ZT <| Zsg <| Zr 1 <| Zdn <| WE.ret <| WQ.blkR <| WQ.thenR <| WQ.thenR <| WQ.blkR <| WQ.thenR <| ZR (.bool false) ?_
    first | exact ⟨congrArg (fun b => Ending.returned (Value.bool b)) (by rw [may_no (i := i) (by omega) (by simp [*])]), HA⟩ | exact ⟨congrArg (fun b => Ending.returned (Value.bool b)) (by rw [may_all (fun j hj => hbe j (by omega))]; rw [Bool.eq_iff_iff]; first | (simp only [show isWord ev.name = true from by assumption, Bool.and_eq_true, decide_eq_true_eq, Bool.false_eq_true, true_iff, false_iff, true_and, and_true, false_and, not_false_eq_true]; omega) | (simp only [show isWord ev.name = false from by assumption, Bool.and_eq_true, decide_eq_true_eq, Bool.false_eq_true, true_iff, false_iff, true_and, and_true, false_and, not_false_eq_true]; done)), HA⟩
   ·
    rw [h21]
    refine Zr 1 <| Zdn <| Zsg <| Zr 6 <| Zdn <| ZT <| Zsg <| Zr 1 <| Zdn <| WE.ret <| WQ.blkR <| WQ.thenR <| WQ.thenR <| WQ.blkR <| WQ.thenR <| ZR (.bool false) ?_
    first | exact ⟨congrArg (fun b => Ending.returned (Value.bool b)) (by rw [may_no (i := i) (by omega) (by simp [*])]), HA⟩ | exact ⟨congrArg (fun b => Ending.returned (Value.bool b)) (by rw [may_all (fun j hj => hbe j (by omega))]; rw [Bool.eq_iff_iff]; first | (simp only [show isWord ev.name = true from by assumption, Bool.and_eq_true, decide_eq_true_eq, Bool.false_eq_true, true_iff, false_iff, true_and, and_true, false_and, not_false_eq_true]; omega) | (simp only [show isWord ev.name = false from by assumption, Bool.and_eq_true, decide_eq_true_eq, Bool.false_eq_true, true_iff, false_iff, true_and, and_true, false_and, not_false_eq_true]; done)), HA⟩
 intro h6
 refine Zdn <| ZF <| WE.exit <| WQ.thenE <| WQ.thenE <| WQ.blkE <| Zn <| Zsg <| Zr 1 <| Zl 35 (.string (str ev.name)) (HB.s 0) <| Zcf 36 (word_r ev.name _ (by first | exact hln | exact (hlt _ (gT_mem (by omega))).1 | exact (hlt _ (gT_mem (by omega))).2)) ?_
 intro w22 F23
 rcases Bool.eq_false_or_eq_true (isWord ev.name) with h24 | h24
 ·
  rw [h24]
  have HB := HB.k F23
  refine Zr 1 <| Zdn <| Zsg <| Zr 3 <| Zl 40 (.slice A n cp) (HB.s 1) <| Zr 1 <| ZoP 42 (((n : Int) : Int) ≤ (6 : Int)) ?_ ?_
  ·
   intro h25
   refine Zr 3 <| Zl 46 (J ev.kind) (HB.s 2) <| ZoP 47 ((ev.kind : Int) ≥ 1) ?_ ?_
   ·
    intro h26
    refine Zr 3 <| Zl 51 (J ev.kind) (HB.s 2) <| ZoP 52 ((ev.kind : Int) ≤ 3) ?_ ?_
    ·
     intro h27
     refine Zr 3 <| Zl 56 (J ev.time) (HB.s 4) <| ZoP 57 ((ev.time : Int) ≥ 0) ?_ ?_
     ·
      intro h28
      have HA := HA.step0 F23
      refine Zr 3 <| Zl 61 (J ev.time) (HB.s 4) <| Zr 3 <| Zdn <| WE.ret <| ZR (.bool (decide ((ev.time : Int) ≤ 1099511627776))) ?_
      first | exact ⟨congrArg (fun b => Ending.returned (Value.bool b)) (by rw [may_no (i := i) (by omega) (by simp [*])]), HA⟩ | exact ⟨congrArg (fun b => Ending.returned (Value.bool b)) (by rw [may_all (fun j hj => hbe j (by omega))]; rw [Bool.eq_iff_iff]; first | (simp only [show isWord ev.name = true from by assumption, Bool.and_eq_true, decide_eq_true_eq, Bool.false_eq_true, true_iff, false_iff, true_and, and_true, false_and, not_false_eq_true]; omega) | (simp only [show isWord ev.name = false from by assumption, Bool.and_eq_true, decide_eq_true_eq, Bool.false_eq_true, true_iff, false_iff, true_and, and_true, false_and, not_false_eq_true]; done)), HA⟩
     intro h28
     have HA := HA.step0 F23
     refine Zr 7 <| Zdn <| WE.ret <| ZR (.bool false) ?_
     first | exact ⟨congrArg (fun b => Ending.returned (Value.bool b)) (by rw [may_no (i := i) (by omega) (by simp [*])]), HA⟩ | exact ⟨congrArg (fun b => Ending.returned (Value.bool b)) (by rw [may_all (fun j hj => hbe j (by omega))]; rw [Bool.eq_iff_iff]; first | (simp only [show isWord ev.name = true from by assumption, Bool.and_eq_true, decide_eq_true_eq, Bool.false_eq_true, true_iff, false_iff, true_and, and_true, false_and, not_false_eq_true]; omega) | (simp only [show isWord ev.name = false from by assumption, Bool.and_eq_true, decide_eq_true_eq, Bool.false_eq_true, true_iff, false_iff, true_and, and_true, false_and, not_false_eq_true]; done)), HA⟩
    intro h27
    have HA := HA.step0 F23
    refine Zr 12 <| Zdn <| WE.ret <| ZR (.bool false) ?_
    first | exact ⟨congrArg (fun b => Ending.returned (Value.bool b)) (by rw [may_no (i := i) (by omega) (by simp [*])]), HA⟩ | exact ⟨congrArg (fun b => Ending.returned (Value.bool b)) (by rw [may_all (fun j hj => hbe j (by omega))]; rw [Bool.eq_iff_iff]; first | (simp only [show isWord ev.name = true from by assumption, Bool.and_eq_true, decide_eq_true_eq, Bool.false_eq_true, true_iff, false_iff, true_and, and_true, false_and, not_false_eq_true]; omega) | (simp only [show isWord ev.name = false from by assumption, Bool.and_eq_true, decide_eq_true_eq, Bool.false_eq_true, true_iff, false_iff, true_and, and_true, false_and, not_false_eq_true]; done)), HA⟩
   intro h26
   have HA := HA.step0 F23
   refine Zr 17 <| Zdn <| WE.ret <| ZR (.bool false) ?_
   first | exact ⟨congrArg (fun b => Ending.returned (Value.bool b)) (by rw [may_no (i := i) (by omega) (by simp [*])]), HA⟩ | exact ⟨congrArg (fun b => Ending.returned (Value.bool b)) (by rw [may_all (fun j hj => hbe j (by omega))]; rw [Bool.eq_iff_iff]; first | (simp only [show isWord ev.name = true from by assumption, Bool.and_eq_true, decide_eq_true_eq, Bool.false_eq_true, true_iff, false_iff, true_and, and_true, false_and, not_false_eq_true]; omega) | (simp only [show isWord ev.name = false from by assumption, Bool.and_eq_true, decide_eq_true_eq, Bool.false_eq_true, true_iff, false_iff, true_and, and_true, false_and, not_false_eq_true]; done)), HA⟩
  intro h25
  have HA := HA.step0 F23
  refine Zr 22 <| Zdn <| WE.ret <| ZR (.bool false) ?_
  first | exact ⟨congrArg (fun b => Ending.returned (Value.bool b)) (by rw [may_no (i := i) (by omega) (by simp [*])]), HA⟩ | exact ⟨congrArg (fun b => Ending.returned (Value.bool b)) (by rw [may_all (fun j hj => hbe j (by omega))]; rw [Bool.eq_iff_iff]; first | (simp only [show isWord ev.name = true from by assumption, Bool.and_eq_true, decide_eq_true_eq, Bool.false_eq_true, true_iff, false_iff, true_and, and_true, false_and, not_false_eq_true]; omega) | (simp only [show isWord ev.name = false from by assumption, Bool.and_eq_true, decide_eq_true_eq, Bool.false_eq_true, true_iff, false_iff, true_and, and_true, false_and, not_false_eq_true]; done)), HA⟩
 ·
  rw [h24]
  have HA := HA.step0 F23
  refine Zr 1 <| Zdn <| Zsg <| Zr 28 <| Zdn <| WE.ret <| ZR (.bool false) ?_
  first | exact ⟨congrArg (fun b => Ending.returned (Value.bool b)) (by rw [may_no (i := i) (by omega) (by simp [*])]), HA⟩ | exact ⟨congrArg (fun b => Ending.returned (Value.bool b)) (by rw [may_all (fun j hj => hbe j (by omega))]; rw [Bool.eq_iff_iff]; first | (simp only [show isWord ev.name = true from by assumption, Bool.and_eq_true, decide_eq_true_eq, Bool.false_eq_true, true_iff, false_iff, true_and, and_true, false_and, not_false_eq_true]; omega) | (simp only [show isWord ev.name = false from by assumption, Bool.and_eq_true, decide_eq_true_eq, Bool.false_eq_true, true_iff, false_iff, true_and, and_true, false_and, not_false_eq_true]; done)), HA⟩
end Go.Proofs.YtdhonbahpcmmnaaGreatDoor.Line
