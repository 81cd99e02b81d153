/- Layer 5's walks: the document's value. -/
import Derived.Test.YtdhonbahpcmmnaaGreatDoorLineS
import Derived.Test.YtdhonbahpcmmnaaGreatDoorEngC
set_option linter.unusedVariables false
set_option linter.unusedSimpArgs false
namespace Go.Proofs.YtdhonbahpcmmnaaGreatDoor.Line
open Go Go.RowKit Go.Proofs.YtdhonbahpcmmnaaGreatDoor Go.Proofs.YtdhonbahpcmmnaaGreatDoor.Eng Go.Proofs.YtdhonbahpcmmnaaGreatDoorW.PrintWords
def dv (q : L) : Nat := q.foldl (fun n c => 10 * n + c.toNat - 48) 0
theorem dv_step (s : L) (i : Nat) (h : i < s.length) : dv (s.take (i + 1)) = 10 * dv (s.take i) + (gB s i).toNat - 48 := by
  unfold dv
  rw [List.take_add_one, gB_some s i h]
  simp only [Option.toList_some, List.foldl_append, List.foldl_cons, List.foldl_nil]
theorem dv_pow (s : L) (hd : ∀ j, j < s.length → 48 ≤ (gB s j).toNat ∧ (gB s j).toNat ≤ 57) : ∀ i, i ≤ s.length → dv (s.take i) < 10 ^ i
  | 0, _ => by rw [List.take_zero]; exact Nat.one_pos
  | i + 1, h => by
    have h1 := dv_pow s hd i (by omega)
    have h2 := hd i (by omega)
    rw [dv_step s i (by omega), Nat.pow_succ]
    omega
theorem dv_lt (s : L) (hd : ∀ j, j < s.length → 48 ≤ (gB s j).toNat ∧ (gB s j).toNat ≤ 57) (i : Nat) (hi : i < s.length) (h19 : s.length ≤ 19) : dv (s.take i) < 1000000000000000000 := by
  refine Nat.lt_of_lt_of_le (dv_pow s hd i (by omega)) ?_
  exact Nat.le_trans (Nat.pow_le_pow_right (by omega) (show i ≤ 18 by omega)) (by decide)
def valE (b : Bool) (q : L) (least most : Int) : Int × Bool :=
  if q.length = 0 ∨ 19 < q.length ∨ (1 < q.length ∧ (gB q 0).toNat = 48) then (0, false)
  else if b = true ∧ q = [48] then (0, false)
  else if 9223372036854775808 < dv q ∨ (dv q = 9223372036854775808 ∧ b = false) then (0, false)
  else (if b = true then - (dv q : Int) else (dv q : Int), decide (least ≤ (if b = true then - (dv q : Int) else (dv q : Int)) ∧ (if b = true then - (dv q : Int) else (dv q : Int)) ≤ most))
theorem valE_no1 {b : Bool} {q : L} {l m : Int} (h : q.length = 0 ∨ 19 < q.length ∨ (1 < q.length ∧ (gB q 0).toNat = 48)) : valE b q l m = (0, false) := if_pos h
theorem valE_no2 {q : L} {l m : Int} (h : 9223372036854775808 ≤ dv q) : valE false q l m = (0, false) := by
  unfold valE
  by_cases h1 : q.length = 0 ∨ 19 < q.length ∨ (1 < q.length ∧ (gB q 0).toNat = 48)
  · rw [if_pos h1]
  · rw [if_neg h1, if_neg (fun h2 => absurd h2.1 (by decide)), if_pos ((Nat.lt_or_eq_of_le h).elim .inl (fun h3 => .inr ⟨h3.symm, rfl⟩))]
theorem valE_d {q : L} {l m : Int} (h : ¬ (q.length = 0 ∨ 19 < q.length ∨ (1 < q.length ∧ (gB q 0).toNat = 48))) (hd : dv q < 9223372036854775808) : valE false q l m = ((dv q : Int), decide (l ≤ (dv q : Int) ∧ (dv q : Int) ≤ m)) := by
  unfold valE
  rw [if_neg h, if_neg (fun h2 => absurd h2.1 (by decide)), if_neg (fun h2 => h2.elim (fun h3 => by omega) (fun h3 => by omega))]
  rfl
theorem valE_no3 {q : L} {l m : Int} (h : q = [48]) : valE true q l m = (0, false) := by
  subst h
  rfl
theorem valE_no4 {q : L} {l m : Int} (h : 9223372036854775808 < dv q) : valE true q l m = (0, false) := by
  unfold valE
  by_cases h1 : q.length = 0 ∨ 19 < q.length ∨ (1 < q.length ∧ (gB q 0).toNat = 48)
  · rw [if_pos h1]
  · rw [if_neg h1]
    by_cases h2 : true = true ∧ q = [48]
    · rw [if_pos h2]
    · rw [if_neg h2, if_pos (.inl h)]
theorem valE_m {q : L} {l m : Int} (h : ¬ (q.length = 0 ∨ 19 < q.length ∨ (1 < q.length ∧ (gB q 0).toNat = 48))) (h0 : ¬ q = [48]) (hd : dv q ≤ 9223372036854775808) : valE true q l m = (- (dv q : Int), decide (l ≤ - (dv q : Int) ∧ - (dv q : Int) ≤ m)) := by
  unfold valE
  rw [if_neg h, if_neg (fun h2 => h0 h2.2), if_neg (fun h2 => h2.elim (fun h3 => by omega) (fun h3 => absurd h3.2 (by decide)))]
  rfl
theorem neg_conv {n : Nat} (h : n ≤ 9223372036854775808) : Value.int .i64 (IntKind.i64.wrap (IntKind.u64.wrap (0 - (n : Int)))) = .int .i64 (- (n : Int)) := by
  by_cases h0 : n = 0
  · subst h0
    rfl
  · have e1 : IntKind.u64.wrap (0 - (n : Int)) = 18446744073709551616 - (n : Int) := by
      simp only [IntKind.wrap, IntKind.signed, IntKind.bits, Bool.false_and, Bool.false_eq_true, if_false]
      omega
    rw [e1]
    congr 1
    simp only [IntKind.wrap, IntKind.signed, IntKind.bits, Bool.true_and, decide_eq_true_eq, show (64 - 1 : Nat) = 63 from rfl, show ((2 : Int) ^ 63) = 9223372036854775808 from rfl, show ((2 : Int) ^ 64) = 18446744073709551616 from rfl]
    split <;> omega
set_option maxRecDepth 100000 in
set_option maxHeartbeats 400000 in
theorem value_d (s : L) (w : World) (least most : Int) (hs : s.length ≤ 1000000) (hnb : ¬ (0 < s.length ∧ (gB s 0).toNat = 45)) (hdg : ∀ j, j < s.length → 48 ≤ (gB s j).toNat ∧ (gB s j).toNat ≤ 57) :
    Calls Tryz.prog 106 #[.string (str s), .int .i64 least, .int .i64 most] w fun e w' => e = .returned (.tuple #[.int .i64 (valE false s least most).1, .bool (valE false s least most).2]) ∧ Fr [] w w' := by
 have HA := Fr.refl [] w
 refine Ze Tryz.func106 _ <| Zsg <| Zr 2 <| Zdn <| Zsg <| Zr 2 <| ZoP 14 (((s.length : Int) : Int) > (0 : Int)) ?_ ?_
 ·
  intro h1
  refine Zr 2 <| Zis (i := 0) 17 0 s (by rfl) (by omega) <| ZoPF 18 ((((gB s 0).toNat : Int) : Int) = (45 : Int)) (by intro h_; exact hnb ⟨by omega, by omega⟩) <| Zr 2 <| Zdn <| Zq <| Zsg <| Zr 1 <| Zdn <| ZF <| Zk <| Zq <| Zsg <| Zr 2 <| ZoP 25 (((s.length : Int) : Int) = (0 : Int)) ?_ ?_
  ·
   intro h2
   refine Zr 22 <| Zdn <| ZT <| Zsg <| Zr 2 <| Zdn <| WE.ret <| WQ.thenR <| ZR (.tuple #[J 0, .bool false]) ?_
   first | (rw [valE_no1 (by omega)]; exact ⟨rfl, HA⟩) | (have hdv : dv (s.take i) = dv s := (by rw [List.take_of_length_le (by omega)]); rw [valE_no2 (by omega)]; exact ⟨rfl, HA⟩)
  intro h2
  refine Zr 3 <| ZoP 29 (((s.length : Int) : Int) > (19 : Int)) ?_ ?_
  ·
   intro h3
   refine Zr 18 <| Zdn <| ZT <| Zsg <| Zr 2 <| Zdn <| WE.ret <| WQ.thenR <| ZR (.tuple #[J 0, .bool false]) ?_
   first | (rw [valE_no1 (by omega)]; exact ⟨rfl, HA⟩) | (have hdv : dv (s.take i) = dv s := (by rw [List.take_of_length_le (by omega)]); rw [valE_no2 (by omega)]; exact ⟨rfl, HA⟩)
  intro h3
  refine Zr 4 <| ZoP 34 (((s.length : Int) : Int) > (1 : Int)) ?_ ?_
  ·
   intro h4
   refine Zr 2 <| Zis (i := 0) 37 0 s (by rfl) (by omega) <| ZoP 38 ((((gB s 0).toNat : Int) : Int) = (48 : Int)) ?_ ?_
   ·
    intro h5
    refine Zr 9 <| Zdn <| ZT <| Zsg <| Zr 2 <| Zdn <| WE.ret <| WQ.thenR <| ZR (.tuple #[J 0, .bool false]) ?_
    first | (rw [valE_no1 (by omega)]; exact ⟨rfl, HA⟩) | (have hdv : dv (s.take i) = dv s := (by rw [List.take_of_length_le (by omega)]); rw [valE_no2 (by omega)]; exact ⟨rfl, HA⟩)
   intro h5
   refine Zr 9 <| Zdn <| ZF <| Zk <| Zsg <| Zr 1 <| Zdn <| Zq <| Zsg <| Zr 1 <| Zd <| WQ.keep [0, 1, 2, 6, 7, 8, 9, 10, 20, 47] (e' := [(0, .string (str s)), (1, J least), (2, J most), (6, J 0), (7, .bool false), (8, .bool false), (9, .int .u64 0), (10, J 0), (20, .bool false), (47, .bool false)]) (by kernel_rfl) <| Zn <| WE.block <| WE.env (e' := [(0, .string (str s)), (1, J least), (2, J most), (6, J 0), (7, .bool false), (8, .bool false), (9, .int .u64 ((dv (s.take 0) : Nat) : Int)), (10, J 0), (20, .bool false), (47, .bool false)]) (by rw [List.take_zero]; rfl) <| WE.loop (α := Nat) (E := fun i => [(0, .string (str s)), (1, J least), (2, J most), (6, J 0), (7, .bool false), (8, .bool false), (9, .int .u64 ((dv (s.take i) : Nat) : Int)), (10, J (i : Int)), (20, .bool false), (47, .bool false)]) (I := fun i wr => i ≤ s.length ∧ Fr [] w wr) (m := fun i => s.length - i) 0 [0, 1, 2, 6, 7, 8, 9, 10, 20, 47] (by kernel_rfl) ?_ ?_
   ·
    exact ⟨Nat.zero_le _, HA⟩
   rintro i wr ⟨hi, HA⟩
   refine Zq <| Zsg <| Zr 3 <| ZoP 51 (((i : Int) : Int) < (s.length : Int)) ?_ ?_
   ·
    intro h6
    refine Zdn <| ZT <| Zk <| Zq <| WE.block ?_
    have hst := dv_step s i (by omega)
    have hgd := hdg i (by omega)
    have hbd := dv_lt s hdg i (by omega) (by omega)
    refine WE.region <| Zr 1 <| Zwu 55 (10 * ((dv (s.take i) : Nat) : Int)) ((10 * (dv (s.take i)) : Nat) : Int) <| Zr 2 <| Zis (i := (i : Int)) 58 i s (by rfl) (by omega) <| Zwur 59 ((gB s i).toNat : Int) ((gB s i).toNat : Int) <| Zwu 60 (((10 * (dv (s.take i)) : Nat) : Int) + ((gB s i).toNat : Int)) (((10 * (dv (s.take i))) + ((gB s i).toNat) : Nat) : Int) <| Zwu 61 ((((10 * (dv (s.take i))) + ((gB s i).toNat) : Nat) : Int) - 48) ((dv (s.take (i + 1)) : Nat) : Int) <| Zr 1 <| Zd <| WQ.blkN <| Zn <| WE.region <| Zr 1 <| Zw 53 ((i : Int) + 1) ((i + 1 : Nat) : Int) <| Zr 1 <| Zd <| WQ.round ?_
    intro a_ ha_
    refine ⟨i + 1, ?_, ha_.keep [0, 1, 2, 6, 7, 8, 9, 10, 20, 47] (by kernel_rfl), ?_⟩
    ·
     omega
    ·
     exact ⟨by omega, HA⟩
   intro h6
   refine Zdn <| ZF <| WE.exit <| WQ.thenE <| WQ.thenE <| WQ.blkE <| Zn <| Zq <| Zsg <| Zr 1 <| ZoP 63 (((dv (s.take i) : Int) : Int) > (9223372036854775808 : Int)) ?_ ?_
   ·
    intro h7
    refine Zr 8 <| Zdn <| ZT <| Zsg <| Zr 2 <| Zdn <| WE.ret <| WQ.thenR <| ZR (.tuple #[J 0, .bool false]) ?_
    first | (rw [valE_no1 (by omega)]; exact ⟨rfl, HA⟩) | (have hdv : dv (s.take i) = dv s := (by rw [List.take_of_length_le (by omega)]); rw [valE_no2 (by omega)]; exact ⟨rfl, HA⟩)
   intro h7
   refine Zr 2 <| ZoP 66 (((dv (s.take i) : Int) : Int) = (9223372036854775808 : Int)) ?_ ?_
   ·
    intro h8
    refine Zr 5 <| Zdn <| ZT <| Zsg <| Zr 2 <| Zdn <| WE.ret <| WQ.thenR <| ZR (.tuple #[J 0, .bool false]) ?_
    first | (rw [valE_no1 (by omega)]; exact ⟨rfl, HA⟩) | (have hdv : dv (s.take i) = dv s := (by rw [List.take_of_length_le (by omega)]); rw [valE_no2 (by omega)]; exact ⟨rfl, HA⟩)
   intro h8
   refine Zr 5 <| Zdn <| ZF <| Zk <| Zsg <| Zr 1 <| Zwr 73 ((dv (s.take i) : Nat) : Int) ((dv (s.take i) : Nat) : Int) <| Zr 1 <| Zdn <| Zq <| Zsg <| Zr 1 <| Zdn <| ZF <| Zk <| Zsg <| Zr 3 <| ZoP 81 ((((dv (s.take i) : Nat) : Int) : Int) ≥ least) ?_ ?_
   ·
    intro h9
    refine Zr 7 <| Zdn <| WE.ret <| ZR (.tuple #[J ((dv (s.take i) : Nat) : Int), .bool (decide ((((dv (s.take i) : Nat) : Int) : Int) ≤ most))]) ?_
    have hdv : dv (s.take i) = dv s := (by rw [List.take_of_length_le (by omega)])
    refine ⟨?_, HA⟩
    rw [valE_d (by omega) (by omega), hdv]
    exact congrArg (fun b => Ending.returned (Value.tuple #[Value.int .i64 (dv s : Int), Value.bool b])) (decide_eq_decide.2 ⟨fun h => ⟨by omega, by omega⟩, fun h => by omega⟩)
   intro h9
   refine Zr 7 <| Zdn <| WE.ret <| ZR (.tuple #[J ((dv (s.take i) : Nat) : Int), .bool false]) ?_
   have hdv : dv (s.take i) = dv s := (by rw [List.take_of_length_le (by omega)])
   refine ⟨?_, HA⟩
   rw [valE_d (by omega) (by omega), hdv]
   exact congrArg (fun b => Ending.returned (Value.tuple #[Value.int .i64 (dv s : Int), Value.bool b])) ((decide_eq_false (p := least ≤ (dv s : Int) ∧ (dv s : Int) ≤ most) (by omega)).symm)
  intro h4
  refine Zr 13 <| Zdn <| ZF <| Zk <| Zsg <| Zr 1 <| Zdn <| Zq <| Zsg <| Zr 1 <| Zd <| WQ.keep [0, 1, 2, 6, 7, 8, 9, 10, 20, 47] (e' := [(0, .string (str s)), (1, J least), (2, J most), (6, J 0), (7, .bool false), (8, .bool false), (9, .int .u64 0), (10, J 0), (20, .bool false), (47, .bool false)]) (by kernel_rfl) <| Zn <| WE.block <| WE.env (e' := [(0, .string (str s)), (1, J least), (2, J most), (6, J 0), (7, .bool false), (8, .bool false), (9, .int .u64 ((dv (s.take 0) : Nat) : Int)), (10, J 0), (20, .bool false), (47, .bool false)]) (by rw [List.take_zero]; rfl) <| WE.loop (α := Nat) (E := fun i => [(0, .string (str s)), (1, J least), (2, J most), (6, J 0), (7, .bool false), (8, .bool false), (9, .int .u64 ((dv (s.take i) : Nat) : Int)), (10, J (i : Int)), (20, .bool false), (47, .bool false)]) (I := fun i wr => i ≤ s.length ∧ Fr [] w wr) (m := fun i => s.length - i) 0 [0, 1, 2, 6, 7, 8, 9, 10, 20, 47] (by kernel_rfl) ?_ ?_
  ·
   exact ⟨Nat.zero_le _, HA⟩
  rintro i wr ⟨hi, HA⟩
  refine Zq <| Zsg <| Zr 3 <| ZoP 51 (((i : Int) : Int) < (s.length : Int)) ?_ ?_
  ·
   intro h10
   refine Zdn <| ZT <| Zk <| Zq <| WE.block ?_
   have hst := dv_step s i (by omega)
   have hgd := hdg i (by omega)
   have hbd := dv_lt s hdg i (by omega) (by omega)
   refine WE.region <| Zr 1 <| Zwu 55 (10 * ((dv (s.take i) : Nat) : Int)) ((10 * (dv (s.take i)) : Nat) : Int) <| Zr 2 <| Zis (i := (i : Int)) 58 i s (by rfl) (by omega) <| Zwur 59 ((gB s i).toNat : Int) ((gB s i).toNat : Int) <| Zwu 60 (((10 * (dv (s.take i)) : Nat) : Int) + ((gB s i).toNat : Int)) (((10 * (dv (s.take i))) + ((gB s i).toNat) : Nat) : Int) <| Zwu 61 ((((10 * (dv (s.take i))) + ((gB s i).toNat) : Nat) : Int) - 48) ((dv (s.take (i + 1)) : Nat) : Int) <| Zr 1 <| Zd <| WQ.blkN <| Zn <| WE.region <| Zr 1 <| Zw 53 ((i : Int) + 1) ((i + 1 : Nat) : Int) <| Zr 1 <| Zd <| WQ.round ?_
   intro a_ ha_
   refine ⟨i + 1, ?_, ha_.keep [0, 1, 2, 6, 7, 8, 9, 10, 20, 47] (by kernel_rfl), ?_⟩
   ·
    omega
   ·
    exact ⟨by omega, HA⟩
  intro h10
  refine Zdn <| ZF <| WE.exit <| WQ.thenE <| WQ.thenE <| WQ.blkE <| Zn <| Zq <| Zsg <| Zr 1 <| ZoP 63 (((dv (s.take i) : Int) : Int) > (9223372036854775808 : Int)) ?_ ?_
  ·
   intro h11
   refine Zr 8 <| Zdn <| ZT <| Zsg <| Zr 2 <| Zdn <| WE.ret <| WQ.thenR <| ZR (.tuple #[J 0, .bool false]) ?_
   first | (rw [valE_no1 (by omega)]; exact ⟨rfl, HA⟩) | (have hdv : dv (s.take i) = dv s := (by rw [List.take_of_length_le (by omega)]); rw [valE_no2 (by omega)]; exact ⟨rfl, HA⟩)
  intro h11
  refine Zr 2 <| ZoP 66 (((dv (s.take i) : Int) : Int) = (9223372036854775808 : Int)) ?_ ?_
  ·
   intro h12
   refine Zr 5 <| Zdn <| ZT <| Zsg <| Zr 2 <| Zdn <| WE.ret <| WQ.thenR <| ZR (.tuple #[J 0, .bool false]) ?_
   first | (rw [valE_no1 (by omega)]; exact ⟨rfl, HA⟩) | (have hdv : dv (s.take i) = dv s := (by rw [List.take_of_length_le (by omega)]); rw [valE_no2 (by omega)]; exact ⟨rfl, HA⟩)
  intro h12
  refine Zr 5 <| Zdn <| ZF <| Zk <| Zsg <| Zr 1 <| Zwr 73 ((dv (s.take i) : Nat) : Int) ((dv (s.take i) : Nat) : Int) <| Zr 1 <| Zdn <| Zq <| Zsg <| Zr 1 <| Zdn <| ZF <| Zk <| Zsg <| Zr 3 <| ZoP 81 ((((dv (s.take i) : Nat) : Int) : Int) ≥ least) ?_ ?_
  ·
   intro h13
   refine Zr 7 <| Zdn <| WE.ret <| ZR (.tuple #[J ((dv (s.take i) : Nat) : Int), .bool (decide ((((dv (s.take i) : Nat) : Int) : Int) ≤ most))]) ?_
   have hdv : dv (s.take i) = dv s := (by rw [List.take_of_length_le (by omega)])
   refine ⟨?_, HA⟩
   rw [valE_d (by omega) (by omega), hdv]
   exact congrArg (fun b => Ending.returned (Value.tuple #[Value.int .i64 (dv s : Int), Value.bool b])) (decide_eq_decide.2 ⟨fun h => ⟨by omega, by omega⟩, fun h => by omega⟩)
  intro h13
  refine Zr 7 <| Zdn <| WE.ret <| ZR (.tuple #[J ((dv (s.take i) : Nat) : Int), .bool false]) ?_
  have hdv : dv (s.take i) = dv s := (by rw [List.take_of_length_le (by omega)])
  refine ⟨?_, HA⟩
  rw [valE_d (by omega) (by omega), hdv]
  exact congrArg (fun b => Ending.returned (Value.tuple #[Value.int .i64 (dv s : Int), Value.bool b])) ((decide_eq_false (p := least ≤ (dv s : Int) ∧ (dv s : Int) ≤ most) (by omega)).symm)
 intro h1
 refine Zr 6 <| Zdn <| Zq <| Zsg <| Zr 1 <| Zdn <| ZF <| Zk <| Zq <| Zsg <| Zr 2 <| ZoP 25 (((s.length : Int) : Int) = (0 : Int)) ?_ ?_
 ·
  intro h14
  refine Zr 22 <| Zdn <| ZT <| Zsg <| Zr 2 <| Zdn <| WE.ret <| WQ.thenR <| ZR (.tuple #[J 0, .bool false]) ?_
  first | (rw [valE_no1 (by omega)]; exact ⟨rfl, HA⟩) | (have hdv : dv (s.take i) = dv s := (by rw [List.take_of_length_le (by omega)]); rw [valE_no2 (by omega)]; exact ⟨rfl, HA⟩)
 intro h14
 refine Zr 3 <| ZoP 29 (((s.length : Int) : Int) > (19 : Int)) ?_ ?_
 ·
  intro h15
  refine Zr 18 <| Zdn <| ZT <| Zsg <| Zr 2 <| Zdn <| WE.ret <| WQ.thenR <| ZR (.tuple #[J 0, .bool false]) ?_
  first | (rw [valE_no1 (by omega)]; exact ⟨rfl, HA⟩) | (have hdv : dv (s.take i) = dv s := (by rw [List.take_of_length_le (by omega)]); rw [valE_no2 (by omega)]; exact ⟨rfl, HA⟩)
 intro h15
 refine Zr 4 <| ZoP 34 (((s.length : Int) : Int) > (1 : Int)) ?_ ?_
 ·
  intro h16
  refine Zr 2 <| Zis (i := 0) 37 0 s (by rfl) (by omega) <| ZoP 38 ((((gB s 0).toNat : Int) : Int) = (48 : Int)) ?_ ?_
  ·
   intro h17
   refine Zr 9 <| Zdn <| ZT <| Zsg <| Zr 2 <| Zdn <| WE.ret <| WQ.thenR <| ZR (.tuple #[J 0, .bool false]) ?_
   first | (rw [valE_no1 (by omega)]; exact ⟨rfl, HA⟩) | (have hdv : dv (s.take i) = dv s := (by rw [List.take_of_length_le (by omega)]); rw [valE_no2 (by omega)]; exact ⟨rfl, HA⟩)
  intro h17
  refine Zr 9 <| Zdn <| ZF <| Zk <| Zsg <| Zr 1 <| Zdn <| Zq <| Zsg <| Zr 1 <| Zd <| WQ.keep [0, 1, 2, 6, 7, 8, 9, 10, 20, 47] (e' := [(0, .string (str s)), (1, J least), (2, J most), (6, J 0), (7, .bool false), (8, .bool false), (9, .int .u64 0), (10, J 0), (20, .bool false), (47, .bool false)]) (by kernel_rfl) <| Zn <| WE.block <| WE.env (e' := [(0, .string (str s)), (1, J least), (2, J most), (6, J 0), (7, .bool false), (8, .bool false), (9, .int .u64 ((dv (s.take 0) : Nat) : Int)), (10, J 0), (20, .bool false), (47, .bool false)]) (by rw [List.take_zero]; rfl) <| WE.loop (α := Nat) (E := fun i => [(0, .string (str s)), (1, J least), (2, J most), (6, J 0), (7, .bool false), (8, .bool false), (9, .int .u64 ((dv (s.take i) : Nat) : Int)), (10, J (i : Int)), (20, .bool false), (47, .bool false)]) (I := fun i wr => i ≤ s.length ∧ Fr [] w wr) (m := fun i => s.length - i) 0 [0, 1, 2, 6, 7, 8, 9, 10, 20, 47] (by kernel_rfl) ?_ ?_
  ·
   exact ⟨Nat.zero_le _, HA⟩
  rintro i wr ⟨hi, HA⟩
  refine Zq <| Zsg <| Zr 3 <| ZoP 51 (((i : Int) : Int) < (s.length : Int)) ?_ ?_
  ·
   intro h18
   refine Zdn <| ZT <| Zk <| Zq <| WE.block ?_
   have hst := dv_step s i (by omega)
   have hgd := hdg i (by omega)
   have hbd := dv_lt s hdg i (by omega) (by omega)
   refine WE.region <| Zr 1 <| Zwu 55 (10 * ((dv (s.take i) : Nat) : Int)) ((10 * (dv (s.take i)) : Nat) : Int) <| Zr 2 <| Zis (i := (i : Int)) 58 i s (by rfl) (by omega) <| Zwur 59 ((gB s i).toNat : Int) ((gB s i).toNat : Int) <| Zwu 60 (((10 * (dv (s.take i)) : Nat) : Int) + ((gB s i).toNat : Int)) (((10 * (dv (s.take i))) + ((gB s i).toNat) : Nat) : Int) <| Zwu 61 ((((10 * (dv (s.take i))) + ((gB s i).toNat) : Nat) : Int) - 48) ((dv (s.take (i + 1)) : Nat) : Int) <| Zr 1 <| Zd <| WQ.blkN <| Zn <| WE.region <| Zr 1 <| Zw 53 ((i : Int) + 1) ((i + 1 : Nat) : Int) <| Zr 1 <| Zd <| WQ.round ?_
   intro a_ ha_
   refine ⟨i + 1, ?_, ha_.keep [0, 1, 2, 6, 7, 8, 9, 10, 20, 47] (by kernel_rfl), ?_⟩
   ·
    omega
   ·
    exact ⟨by omega, HA⟩
  intro h18
  refine Zdn <| ZF <| WE.exit <| WQ.thenE <| WQ.thenE <| WQ.blkE <| Zn <| Zq <| Zsg <| Zr 1 <| ZoP 63 (((dv (s.take i) : Int) : Int) > (9223372036854775808 : Int)) ?_ ?_
  ·
   intro h19
   refine Zr 8 <| Zdn <| ZT <| Zsg <| Zr 2 <| Zdn <| WE.ret <| WQ.thenR <| ZR (.tuple #[J 0, .bool false]) ?_
   first | (rw [valE_no1 (by omega)]; exact ⟨rfl, HA⟩) | (have hdv : dv (s.take i) = dv s := (by rw [List.take_of_length_le (by omega)]); rw [valE_no2 (by omega)]; exact ⟨rfl, HA⟩)
  intro h19
  refine Zr 2 <| ZoP 66 (((dv (s.take i) : Int) : Int) = (9223372036854775808 : Int)) ?_ ?_
  ·
   intro h20
   refine Zr 5 <| Zdn <| ZT <| Zsg <| Zr 2 <| Zdn <| WE.ret <| WQ.thenR <| ZR (.tuple #[J 0, .bool false]) ?_
   first | (rw [valE_no1 (by omega)]; exact ⟨rfl, HA⟩) | (have hdv : dv (s.take i) = dv s := (by rw [List.take_of_length_le (by omega)]); rw [valE_no2 (by omega)]; exact ⟨rfl, HA⟩)
  intro h20
  refine Zr 5 <| Zdn <| ZF <| Zk <| Zsg <| Zr 1 <| Zwr 73 ((dv (s.take i) : Nat) : Int) ((dv (s.take i) : Nat) : Int) <| Zr 1 <| Zdn <| Zq <| Zsg <| Zr 1 <| Zdn <| ZF <| Zk <| Zsg <| Zr 3 <| ZoP 81 ((((dv (s.take i) : Nat) : Int) : Int) ≥ least) ?_ ?_
  ·
   intro h21
   refine Zr 7 <| Zdn <| WE.ret <| ZR (.tuple #[J ((dv (s.take i) : Nat) : Int), .bool (decide ((((dv (s.take i) : Nat) : Int) : Int) ≤ most))]) ?_
   have hdv : dv (s.take i) = dv s := (by rw [List.take_of_length_le (by omega)])
   refine ⟨?_, HA⟩
   rw [valE_d (by omega) (by omega), hdv]
   exact congrArg (fun b => Ending.returned (Value.tuple #[Value.int .i64 (dv s : Int), Value.bool b])) (decide_eq_decide.2 ⟨fun h => ⟨by omega, by omega⟩, fun h => by omega⟩)
  intro h21
  refine Zr 7 <| Zdn <| WE.ret <| ZR (.tuple #[J ((dv (s.take i) : Nat) : Int), .bool false]) ?_
  have hdv : dv (s.take i) = dv s := (by rw [List.take_of_length_le (by omega)])
  refine ⟨?_, HA⟩
  rw [valE_d (by omega) (by omega), hdv]
  exact congrArg (fun b => Ending.returned (Value.tuple #[Value.int .i64 (dv s : Int), Value.bool b])) ((decide_eq_false (p := least ≤ (dv s : Int) ∧ (dv s : Int) ≤ most) (by omega)).symm)
 intro h16
 refine Zr 13 <| Zdn <| ZF <| Zk <| Zsg <| Zr 1 <| Zdn <| Zq <| Zsg <| Zr 1 <| Zd <| WQ.keep [0, 1, 2, 6, 7, 8, 9, 10, 20, 47] (e' := [(0, .string (str s)), (1, J least), (2, J most), (6, J 0), (7, .bool false), (8, .bool false), (9, .int .u64 0), (10, J 0), (20, .bool false), (47, .bool false)]) (by kernel_rfl) <| Zn <| WE.block <| WE.env (e' := [(0, .string (str s)), (1, J least), (2, J most), (6, J 0), (7, .bool false), (8, .bool false), (9, .int .u64 ((dv (s.take 0) : Nat) : Int)), (10, J 0), (20, .bool false), (47, .bool false)]) (by rw [List.take_zero]; rfl) <| WE.loop (α := Nat) (E := fun i => [(0, .string (str s)), (1, J least), (2, J most), (6, J 0), (7, .bool false), (8, .bool false), (9, .int .u64 ((dv (s.take i) : Nat) : Int)), (10, J (i : Int)), (20, .bool false), (47, .bool false)]) (I := fun i wr => i ≤ s.length ∧ Fr [] w wr) (m := fun i => s.length - i) 0 [0, 1, 2, 6, 7, 8, 9, 10, 20, 47] (by kernel_rfl) ?_ ?_
 ·
  exact ⟨Nat.zero_le _, HA⟩
 rintro i wr ⟨hi, HA⟩
 refine Zq <| Zsg <| Zr 3 <| ZoP 51 (((i : Int) : Int) < (s.length : Int)) ?_ ?_
 ·
  intro h22
  refine Zdn <| ZT <| Zk <| Zq <| WE.block ?_
  have hst := dv_step s i (by omega)
  have hgd := hdg i (by omega)
  have hbd := dv_lt s hdg i (by omega) (by omega)
  refine WE.region <| Zr 1 <| Zwu 55 (10 * ((dv (s.take i) : Nat) : Int)) ((10 * (dv (s.take i)) : Nat) : Int) <| Zr 2 <| Zis (i := (i : Int)) 58 i s (by rfl) (by omega) <| Zwur 59 ((gB s i).toNat : Int) ((gB s i).toNat : Int) <| Zwu 60 (((10 * (dv (s.take i)) : Nat) : Int) + ((gB s i).toNat : Int)) (((10 * (dv (s.take i))) + ((gB s i).toNat) : Nat) : Int) <| Zwu 61 ((((10 * (dv (s.take i))) + ((gB s i).toNat) : Nat) : Int) - 48) ((dv (s.take (i + 1)) : Nat) : Int) <| Zr 1 <| Zd <| WQ.blkN <| Zn <| WE.region <| Zr 1 <| Zw 53 ((i : Int) + 1) ((i + 1 : Nat) : Int) <| Zr 1 <| Zd <| WQ.round ?_
  intro a_ ha_
  refine ⟨i + 1, ?_, ha_.keep [0, 1, 2, 6, 7, 8, 9, 10, 20, 47] (by kernel_rfl), ?_⟩
  ·
   omega
  ·
   exact ⟨by omega, HA⟩
 intro h22
 refine Zdn <| ZF <| WE.exit <| WQ.thenE <| WQ.thenE <| WQ.blkE <| Zn <| Zq <| Zsg <| Zr 1 <| ZoP 63 (((dv (s.take i) : Int) : Int) > (9223372036854775808 : Int)) ?_ ?_
 ·
  intro h23
  refine Zr 8 <| Zdn <| ZT <| Zsg <| Zr 2 <| Zdn <| WE.ret <| WQ.thenR <| ZR (.tuple #[J 0, .bool false]) ?_
  first | (rw [valE_no1 (by omega)]; exact ⟨rfl, HA⟩) | (have hdv : dv (s.take i) = dv s := (by rw [List.take_of_length_le (by omega)]); rw [valE_no2 (by omega)]; exact ⟨rfl, HA⟩)
 intro h23
 refine Zr 2 <| ZoP 66 (((dv (s.take i) : Int) : Int) = (9223372036854775808 : Int)) ?_ ?_
 ·
  intro h24
  refine Zr 5 <| Zdn <| ZT <| Zsg <| Zr 2 <| Zdn <| WE.ret <| WQ.thenR <| ZR (.tuple #[J 0, .bool false]) ?_
  first | (rw [valE_no1 (by omega)]; exact ⟨rfl, HA⟩) | (have hdv : dv (s.take i) = dv s := (by rw [List.take_of_length_le (by omega)]); rw [valE_no2 (by omega)]; exact ⟨rfl, HA⟩)
 intro h24
 refine Zr 5 <| Zdn <| ZF <| Zk <| Zsg <| Zr 1 <| Zwr 73 ((dv (s.take i) : Nat) : Int) ((dv (s.take i) : Nat) : Int) <| Zr 1 <| Zdn <| Zq <| Zsg <| Zr 1 <| Zdn <| ZF <| Zk <| Zsg <| Zr 3 <| ZoP 81 ((((dv (s.take i) : Nat) : Int) : Int) ≥ least) ?_ ?_
 ·
  intro h25
  refine Zr 7 <| Zdn <| WE.ret <| ZR (.tuple #[J ((dv (s.take i) : Nat) : Int), .bool (decide ((((dv (s.take i) : Nat) : Int) : Int) ≤ most))]) ?_
  have hdv : dv (s.take i) = dv s := (by rw [List.take_of_length_le (by omega)])
  refine ⟨?_, HA⟩
  rw [valE_d (by omega) (by omega), hdv]
  exact congrArg (fun b => Ending.returned (Value.tuple #[Value.int .i64 (dv s : Int), Value.bool b])) (decide_eq_decide.2 ⟨fun h => ⟨by omega, by omega⟩, fun h => by omega⟩)
 intro h25
 refine Zr 7 <| Zdn <| WE.ret <| ZR (.tuple #[J ((dv (s.take i) : Nat) : Int), .bool false]) ?_
 have hdv : dv (s.take i) = dv s := (by rw [List.take_of_length_le (by omega)])
 refine ⟨?_, HA⟩
 rw [valE_d (by omega) (by omega), hdv]
 exact congrArg (fun b => Ending.returned (Value.tuple #[Value.int .i64 (dv s : Int), Value.bool b])) ((decide_eq_false (p := least ≤ (dv s : Int) ∧ (dv s : Int) ≤ most) (by omega)).symm)
set_option maxRecDepth 100000 in
set_option maxHeartbeats 400000 in
theorem value_m (s q : L) (w : World) (least most : Int) (hs : s.length ≤ 1000000) (hq : s.drop 1 = q) (hlt : 0 < s.length) (hb : (gB s 0).toNat = 45) (hdg : ∀ j, j < q.length → 48 ≤ (gB q j).toNat ∧ (gB q j).toNat ≤ 57) :
    Calls Tryz.prog 106 #[.string (str s), .int .i64 least, .int .i64 most] w fun e w' => e = .returned (.tuple #[.int .i64 (valE true q least most).1, .bool (valE true q least most).2]) ∧ Fr [] w w' := by
 have HA := Fr.refl [] w
 refine Ze Tryz.func106 _ <| Zsg <| Zr 2 <| Zdn <| Zsg <| Zr 2 <| ZoPT 14 (((s.length : Int) : Int) > (0 : Int)) (by omega) <| Zr 2 <| Zis (i := 0) 17 0 s (by rfl) (by omega) <| ZoPT 18 ((((gB s 0).toNat : Int) : Int) = (45 : Int)) (by omega) <| Zr 2 <| Zdn <| Zq <| Zsg <| Zr 1 <| Zdn <| ZT <| WE.region <| Zr 1 <| Zvu (lo := 1) 22 1 s (by rfl) (by omega) <| Zr 1 <| Zd <| WQ.keep [0, 1, 2, 6, 7, 8, 20] (e' := [(0, .string (str (s.drop 1))), (1, J least), (2, J most), (6, J 0), (7, .bool false), (8, .bool true), (20, .bool true)]) (by kernel_rfl) <| Zn <| Zq <| Zq <| WE.env (e' := [(0, .string (str q)), (1, J least), (2, J most), (6, J 0), (7, .bool false), (8, .bool true), (20, .bool true)]) (by rw [hq]) <| WE.region <| Zr 2 <| ZoP 25 (((q.length : Int) : Int) = (0 : Int)) ?_ ?_
 ·
  intro h1
  refine Zr 22 <| Zdn <| ZT <| Zsg <| Zr 2 <| Zdn <| WE.ret <| WQ.thenR <| ZR (.tuple #[J 0, .bool false]) ?_
  first | (rw [valE_no1 (by omega)]; exact ⟨rfl, HA⟩) | (rw [valE_no3 (str_inj.1 (by assumption))]; exact ⟨rfl, HA⟩) | (have hdv : dv (q.take i) = dv q := (by rw [List.take_of_length_le (by omega)]); rw [valE_no4 (by omega)]; exact ⟨rfl, HA⟩)
 intro h1
 refine Zr 3 <| ZoP 29 (((q.length : Int) : Int) > (19 : Int)) ?_ ?_
 ·
  intro h2
  refine Zr 18 <| Zdn <| ZT <| Zsg <| Zr 2 <| Zdn <| WE.ret <| WQ.thenR <| ZR (.tuple #[J 0, .bool false]) ?_
  first | (rw [valE_no1 (by omega)]; exact ⟨rfl, HA⟩) | (rw [valE_no3 (str_inj.1 (by assumption))]; exact ⟨rfl, HA⟩) | (have hdv : dv (q.take i) = dv q := (by rw [List.take_of_length_le (by omega)]); rw [valE_no4 (by omega)]; exact ⟨rfl, HA⟩)
 intro h2
 refine Zr 4 <| ZoP 34 (((q.length : Int) : Int) > (1 : Int)) ?_ ?_
 ·
  intro h3
  refine Zr 2 <| Zis (i := 0) 37 0 q (by rfl) (by omega) <| ZoP 38 ((((gB q 0).toNat : Int) : Int) = (48 : Int)) ?_ ?_
  ·
   intro h4
   refine Zr 9 <| Zdn <| ZT <| Zsg <| Zr 2 <| Zdn <| WE.ret <| WQ.thenR <| ZR (.tuple #[J 0, .bool false]) ?_
   first | (rw [valE_no1 (by omega)]; exact ⟨rfl, HA⟩) | (rw [valE_no3 (str_inj.1 (by assumption))]; exact ⟨rfl, HA⟩) | (have hdv : dv (q.take i) = dv q := (by rw [List.take_of_length_le (by omega)]); rw [valE_no4 (by omega)]; exact ⟨rfl, HA⟩)
  intro h4
  refine Zr 6 <| Zo 45 (.bool ((str q).toList == (⟨#[48]⟩ : ByteArray).toList)) <| WO.top (v' := .bool (decide ((str q) = (⟨#[48]⟩ : ByteArray)))) (congrArg Value.bool (streq (str q) (⟨#[48]⟩ : ByteArray))) <| WO.topP ((str q) = (⟨#[48]⟩ : ByteArray)) ?_ ?_
  ·
   intro h5
   refine Zr 2 <| Zdn <| ZT <| Zsg <| Zr 2 <| Zdn <| WE.ret <| WQ.thenR <| ZR (.tuple #[J 0, .bool false]) ?_
   first | (rw [valE_no1 (by omega)]; exact ⟨rfl, HA⟩) | (rw [valE_no3 (str_inj.1 (by assumption))]; exact ⟨rfl, HA⟩) | (have hdv : dv (q.take i) = dv q := (by rw [List.take_of_length_le (by omega)]); rw [valE_no4 (by omega)]; exact ⟨rfl, HA⟩)
  intro h5
  refine Zr 2 <| Zdn <| ZF <| Zk <| Zsg <| Zr 1 <| Zdn <| Zq <| Zsg <| Zr 1 <| Zd <| WQ.keep [0, 1, 2, 6, 7, 8, 9, 10, 20, 47] (e' := [(0, .string (str q)), (1, J least), (2, J most), (6, J 0), (7, .bool false), (8, .bool true), (9, .int .u64 0), (10, J 0), (20, .bool true), (47, .bool false)]) (by kernel_rfl) <| Zn <| WE.block <| WE.env (e' := [(0, .string (str q)), (1, J least), (2, J most), (6, J 0), (7, .bool false), (8, .bool true), (9, .int .u64 ((dv (q.take 0) : Nat) : Int)), (10, J 0), (20, .bool true), (47, .bool false)]) (by rw [List.take_zero]; rfl) <| WE.loop (α := Nat) (E := fun i => [(0, .string (str q)), (1, J least), (2, J most), (6, J 0), (7, .bool false), (8, .bool true), (9, .int .u64 ((dv (q.take i) : Nat) : Int)), (10, J (i : Int)), (20, .bool true), (47, .bool false)]) (I := fun i wr => i ≤ q.length ∧ Fr [] w wr) (m := fun i => q.length - i) 0 [0, 1, 2, 6, 7, 8, 9, 10, 20, 47] (by kernel_rfl) ?_ ?_
  ·
   exact ⟨Nat.zero_le _, HA⟩
  rintro i wr ⟨hi, HA⟩
  refine Zq <| Zsg <| Zr 3 <| ZoP 51 (((i : Int) : Int) < (q.length : Int)) ?_ ?_
  ·
   intro h6
   refine Zdn <| ZT <| Zk <| Zq <| WE.block ?_
   have hst := dv_step q i (by omega)
   have hgd := hdg i (by omega)
   have hbd := dv_lt q hdg i (by omega) (by omega)
   refine WE.region <| Zr 1 <| Zwu 55 (10 * ((dv (q.take i) : Nat) : Int)) ((10 * (dv (q.take i)) : Nat) : Int) <| Zr 2 <| Zis (i := (i : Int)) 58 i q (by rfl) (by omega) <| Zwur 59 ((gB q i).toNat : Int) ((gB q i).toNat : Int) <| Zwu 60 (((10 * (dv (q.take i)) : Nat) : Int) + ((gB q i).toNat : Int)) (((10 * (dv (q.take i))) + ((gB q i).toNat) : Nat) : Int) <| Zwu 61 ((((10 * (dv (q.take i))) + ((gB q i).toNat) : Nat) : Int) - 48) ((dv (q.take (i + 1)) : Nat) : Int) <| Zr 1 <| Zd <| WQ.blkN <| Zn <| WE.region <| Zr 1 <| Zw 53 ((i : Int) + 1) ((i + 1 : Nat) : Int) <| Zr 1 <| Zd <| WQ.round ?_
   intro a_ ha_
   refine ⟨i + 1, ?_, ha_.keep [0, 1, 2, 6, 7, 8, 9, 10, 20, 47] (by kernel_rfl), ?_⟩
   ·
    omega
   ·
    exact ⟨by omega, HA⟩
  intro h6
  refine Zdn <| ZF <| WE.exit <| WQ.thenE <| WQ.thenE <| WQ.blkE <| Zn <| Zq <| Zsg <| Zr 1 <| ZoP 63 (((dv (q.take i) : Int) : Int) > (9223372036854775808 : Int)) ?_ ?_
  ·
   intro h7
   refine Zr 8 <| Zdn <| ZT <| Zsg <| Zr 2 <| Zdn <| WE.ret <| WQ.thenR <| ZR (.tuple #[J 0, .bool false]) ?_
   first | (rw [valE_no1 (by omega)]; exact ⟨rfl, HA⟩) | (rw [valE_no3 (str_inj.1 (by assumption))]; exact ⟨rfl, HA⟩) | (have hdv : dv (q.take i) = dv q := (by rw [List.take_of_length_le (by omega)]); rw [valE_no4 (by omega)]; exact ⟨rfl, HA⟩)
  intro h7
  refine Zr 2 <| ZoP 66 (((dv (q.take i) : Int) : Int) = (9223372036854775808 : Int)) ?_ ?_
  ·
   intro h8
   refine Zr 5 <| Zdn <| ZF <| Zk <| Zsg <| Zr 1 <| Zo 73 (J (IntKind.i64.wrap ((dv (q.take i) : Nat) : Int))) <| WO.top (v' := J (IntKind.i64.wrap ((dv (q.take i) : Nat) : Int))) (rfl) <| Zr 1 <| Zdn <| Zq <| Zsg <| Zr 1 <| Zdn <| ZT <| WE.region <| Zr 1 <| Zo 76 (.int .u64 (IntKind.u64.wrap (0 - ((dv (q.take i) : Nat) : Int)))) <| WO.top (v' := .int .u64 (IntKind.u64.wrap (0 - ((dv (q.take i) : Nat) : Int)))) (rfl) <| Zo 77 (J (IntKind.i64.wrap (IntKind.u64.wrap (0 - ((dv (q.take i) : Nat) : Int))))) <| WO.top (v' := J (- ((dv (q.take i) : Nat) : Int))) (neg_conv (by omega)) <| Zr 1 <| Zdn <| Zsg <| Zr 3 <| ZoP 81 (((- ((dv (q.take i) : Nat) : Int)) : Int) ≥ least) ?_ ?_
   ·
    intro h9
    refine Zr 7 <| Zdn <| WE.ret <| ZR (.tuple #[J (- ((dv (q.take i) : Nat) : Int)), .bool (decide (((- ((dv (q.take i) : Nat) : Int)) : Int) ≤ most))]) ?_
    have hdv : dv (q.take i) = dv q := (by rw [List.take_of_length_le (by omega)])
    refine ⟨?_, HA⟩
    rw [valE_m (by omega) (by first | exact (fun h_ => absurd ((str_inj (b := [48])).2 h_) (by assumption)) | (intro h_; rw [h_] at *; first | omega | (simp at *; omega))) (by omega), hdv]
    exact congrArg (fun b => Ending.returned (Value.tuple #[Value.int .i64 (- (dv q : Int)), Value.bool b])) (decide_eq_decide.2 ⟨fun h => ⟨by omega, by omega⟩, fun h => by omega⟩)
   intro h9
   refine Zr 7 <| Zdn <| WE.ret <| ZR (.tuple #[J (- ((dv (q.take i) : Nat) : Int)), .bool false]) ?_
   have hdv : dv (q.take i) = dv q := (by rw [List.take_of_length_le (by omega)])
   refine ⟨?_, HA⟩
   rw [valE_m (by omega) (by first | exact (fun h_ => absurd ((str_inj (b := [48])).2 h_) (by assumption)) | (intro h_; rw [h_] at *; first | omega | (simp at *; omega))) (by omega), hdv]
   exact congrArg (fun b => Ending.returned (Value.tuple #[Value.int .i64 (- (dv q : Int)), Value.bool b])) ((decide_eq_false (p := least ≤ - (dv q : Int) ∧ - (dv q : Int) ≤ most) (by omega)).symm)
  intro h8
  refine Zr 5 <| Zdn <| ZF <| Zk <| Zsg <| Zr 1 <| Zo 73 (J (IntKind.i64.wrap ((dv (q.take i) : Nat) : Int))) <| WO.top (v' := J (IntKind.i64.wrap ((dv (q.take i) : Nat) : Int))) (rfl) <| Zr 1 <| Zdn <| Zq <| Zsg <| Zr 1 <| Zdn <| ZT <| WE.region <| Zr 1 <| Zo 76 (.int .u64 (IntKind.u64.wrap (0 - ((dv (q.take i) : Nat) : Int)))) <| WO.top (v' := .int .u64 (IntKind.u64.wrap (0 - ((dv (q.take i) : Nat) : Int)))) (rfl) <| Zo 77 (J (IntKind.i64.wrap (IntKind.u64.wrap (0 - ((dv (q.take i) : Nat) : Int))))) <| WO.top (v' := J (- ((dv (q.take i) : Nat) : Int))) (neg_conv (by omega)) <| Zr 1 <| Zdn <| Zsg <| Zr 3 <| ZoP 81 (((- ((dv (q.take i) : Nat) : Int)) : Int) ≥ least) ?_ ?_
  ·
   intro h10
   refine Zr 7 <| Zdn <| WE.ret <| ZR (.tuple #[J (- ((dv (q.take i) : Nat) : Int)), .bool (decide (((- ((dv (q.take i) : Nat) : Int)) : Int) ≤ most))]) ?_
   have hdv : dv (q.take i) = dv q := (by rw [List.take_of_length_le (by omega)])
   refine ⟨?_, HA⟩
   rw [valE_m (by omega) (by first | exact (fun h_ => absurd ((str_inj (b := [48])).2 h_) (by assumption)) | (intro h_; rw [h_] at *; first | omega | (simp at *; omega))) (by omega), hdv]
   exact congrArg (fun b => Ending.returned (Value.tuple #[Value.int .i64 (- (dv q : Int)), Value.bool b])) (decide_eq_decide.2 ⟨fun h => ⟨by omega, by omega⟩, fun h => by omega⟩)
  intro h10
  refine Zr 7 <| Zdn <| WE.ret <| ZR (.tuple #[J (- ((dv (q.take i) : Nat) : Int)), .bool false]) ?_
  have hdv : dv (q.take i) = dv q := (by rw [List.take_of_length_le (by omega)])
  refine ⟨?_, HA⟩
  rw [valE_m (by omega) (by first | exact (fun h_ => absurd ((str_inj (b := [48])).2 h_) (by assumption)) | (intro h_; rw [h_] at *; first | omega | (simp at *; omega))) (by omega), hdv]
  exact congrArg (fun b => Ending.returned (Value.tuple #[Value.int .i64 (- (dv q : Int)), Value.bool b])) ((decide_eq_false (p := least ≤ - (dv q : Int) ∧ - (dv q : Int) ≤ most) (by omega)).symm)
 intro h3
 refine Zr 10 <| Zo 45 (.bool ((str q).toList == (⟨#[48]⟩ : ByteArray).toList)) <| WO.top (v' := .bool (decide ((str q) = (⟨#[48]⟩ : ByteArray)))) (congrArg Value.bool (streq (str q) (⟨#[48]⟩ : ByteArray))) <| WO.topP ((str q) = (⟨#[48]⟩ : ByteArray)) ?_ ?_
 ·
  intro h11
  refine Zr 2 <| Zdn <| ZT <| Zsg <| Zr 2 <| Zdn <| WE.ret <| WQ.thenR <| ZR (.tuple #[J 0, .bool false]) ?_
  first | (rw [valE_no1 (by omega)]; exact ⟨rfl, HA⟩) | (rw [valE_no3 (str_inj.1 (by assumption))]; exact ⟨rfl, HA⟩) | (have hdv : dv (q.take i) = dv q := (by rw [List.take_of_length_le (by omega)]); rw [valE_no4 (by omega)]; exact ⟨rfl, HA⟩)
 intro h11
 refine Zr 2 <| Zdn <| ZF <| Zk <| Zsg <| Zr 1 <| Zdn <| Zq <| Zsg <| Zr 1 <| Zd <| WQ.keep [0, 1, 2, 6, 7, 8, 9, 10, 20, 47] (e' := [(0, .string (str q)), (1, J least), (2, J most), (6, J 0), (7, .bool false), (8, .bool true), (9, .int .u64 0), (10, J 0), (20, .bool true), (47, .bool false)]) (by kernel_rfl) <| Zn <| WE.block <| WE.env (e' := [(0, .string (str q)), (1, J least), (2, J most), (6, J 0), (7, .bool false), (8, .bool true), (9, .int .u64 ((dv (q.take 0) : Nat) : Int)), (10, J 0), (20, .bool true), (47, .bool false)]) (by rw [List.take_zero]; rfl) <| WE.loop (α := Nat) (E := fun i => [(0, .string (str q)), (1, J least), (2, J most), (6, J 0), (7, .bool false), (8, .bool true), (9, .int .u64 ((dv (q.take i) : Nat) : Int)), (10, J (i : Int)), (20, .bool true), (47, .bool false)]) (I := fun i wr => i ≤ q.length ∧ Fr [] w wr) (m := fun i => q.length - i) 0 [0, 1, 2, 6, 7, 8, 9, 10, 20, 47] (by kernel_rfl) ?_ ?_
 ·
  exact ⟨Nat.zero_le _, HA⟩
 rintro i wr ⟨hi, HA⟩
 refine Zq <| Zsg <| Zr 3 <| ZoP 51 (((i : Int) : Int) < (q.length : Int)) ?_ ?_
 ·
  intro h12
  refine Zdn <| ZT <| Zk <| Zq <| WE.block ?_
  have hst := dv_step q i (by omega)
  have hgd := hdg i (by omega)
  have hbd := dv_lt q hdg i (by omega) (by omega)
  refine WE.region <| Zr 1 <| Zwu 55 (10 * ((dv (q.take i) : Nat) : Int)) ((10 * (dv (q.take i)) : Nat) : Int) <| Zr 2 <| Zis (i := (i : Int)) 58 i q (by rfl) (by omega) <| Zwur 59 ((gB q i).toNat : Int) ((gB q i).toNat : Int) <| Zwu 60 (((10 * (dv (q.take i)) : Nat) : Int) + ((gB q i).toNat : Int)) (((10 * (dv (q.take i))) + ((gB q i).toNat) : Nat) : Int) <| Zwu 61 ((((10 * (dv (q.take i))) + ((gB q i).toNat) : Nat) : Int) - 48) ((dv (q.take (i + 1)) : Nat) : Int) <| Zr 1 <| Zd <| WQ.blkN <| Zn <| WE.region <| Zr 1 <| Zw 53 ((i : Int) + 1) ((i + 1 : Nat) : Int) <| Zr 1 <| Zd <| WQ.round ?_
  intro a_ ha_
  refine ⟨i + 1, ?_, ha_.keep [0, 1, 2, 6, 7, 8, 9, 10, 20, 47] (by kernel_rfl), ?_⟩
  ·
   omega
  ·
   exact ⟨by omega, HA⟩
 intro h12
 refine Zdn <| ZF <| WE.exit <| WQ.thenE <| WQ.thenE <| WQ.blkE <| Zn <| Zq <| Zsg <| Zr 1 <| ZoP 63 (((dv (q.take i) : Int) : Int) > (9223372036854775808 : Int)) ?_ ?_
 ·
  intro h13
  refine Zr 8 <| Zdn <| ZT <| Zsg <| Zr 2 <| Zdn <| WE.ret <| WQ.thenR <| ZR (.tuple #[J 0, .bool false]) ?_
  first | (rw [valE_no1 (by omega)]; exact ⟨rfl, HA⟩) | (rw [valE_no3 (str_inj.1 (by assumption))]; exact ⟨rfl, HA⟩) | (have hdv : dv (q.take i) = dv q := (by rw [List.take_of_length_le (by omega)]); rw [valE_no4 (by omega)]; exact ⟨rfl, HA⟩)
 intro h13
 refine Zr 2 <| ZoP 66 (((dv (q.take i) : Int) : Int) = (9223372036854775808 : Int)) ?_ ?_
 ·
  intro h14
  refine Zr 5 <| Zdn <| ZF <| Zk <| Zsg <| Zr 1 <| Zo 73 (J (IntKind.i64.wrap ((dv (q.take i) : Nat) : Int))) <| WO.top (v' := J (IntKind.i64.wrap ((dv (q.take i) : Nat) : Int))) (rfl) <| Zr 1 <| Zdn <| Zq <| Zsg <| Zr 1 <| Zdn <| ZT <| WE.region <| Zr 1 <| Zo 76 (.int .u64 (IntKind.u64.wrap (0 - ((dv (q.take i) : Nat) : Int)))) <| WO.top (v' := .int .u64 (IntKind.u64.wrap (0 - ((dv (q.take i) : Nat) : Int)))) (rfl) <| Zo 77 (J (IntKind.i64.wrap (IntKind.u64.wrap (0 - ((dv (q.take i) : Nat) : Int))))) <| WO.top (v' := J (- ((dv (q.take i) : Nat) : Int))) (neg_conv (by omega)) <| Zr 1 <| Zdn <| Zsg <| Zr 3 <| ZoP 81 (((- ((dv (q.take i) : Nat) : Int)) : Int) ≥ least) ?_ ?_
  ·
   intro h15
   refine Zr 7 <| Zdn <| WE.ret <| ZR (.tuple #[J (- ((dv (q.take i) : Nat) : Int)), .bool (decide (((- ((dv (q.take i) : Nat) : Int)) : Int) ≤ most))]) ?_
   have hdv : dv (q.take i) = dv q := (by rw [List.take_of_length_le (by omega)])
   refine ⟨?_, HA⟩
   rw [valE_m (by omega) (by first | exact (fun h_ => absurd ((str_inj (b := [48])).2 h_) (by assumption)) | (intro h_; rw [h_] at *; first | omega | (simp at *; omega))) (by omega), hdv]
   exact congrArg (fun b => Ending.returned (Value.tuple #[Value.int .i64 (- (dv q : Int)), Value.bool b])) (decide_eq_decide.2 ⟨fun h => ⟨by omega, by omega⟩, fun h => by omega⟩)
  intro h15
  refine Zr 7 <| Zdn <| WE.ret <| ZR (.tuple #[J (- ((dv (q.take i) : Nat) : Int)), .bool false]) ?_
  have hdv : dv (q.take i) = dv q := (by rw [List.take_of_length_le (by omega)])
  refine ⟨?_, HA⟩
  rw [valE_m (by omega) (by first | exact (fun h_ => absurd ((str_inj (b := [48])).2 h_) (by assumption)) | (intro h_; rw [h_] at *; first | omega | (simp at *; omega))) (by omega), hdv]
  exact congrArg (fun b => Ending.returned (Value.tuple #[Value.int .i64 (- (dv q : Int)), Value.bool b])) ((decide_eq_false (p := least ≤ - (dv q : Int) ∧ - (dv q : Int) ≤ most) (by omega)).symm)
 intro h14
 refine Zr 5 <| Zdn <| ZF <| Zk <| Zsg <| Zr 1 <| Zo 73 (J (IntKind.i64.wrap ((dv (q.take i) : Nat) : Int))) <| WO.top (v' := J (IntKind.i64.wrap ((dv (q.take i) : Nat) : Int))) (rfl) <| Zr 1 <| Zdn <| Zq <| Zsg <| Zr 1 <| Zdn <| ZT <| WE.region <| Zr 1 <| Zo 76 (.int .u64 (IntKind.u64.wrap (0 - ((dv (q.take i) : Nat) : Int)))) <| WO.top (v' := .int .u64 (IntKind.u64.wrap (0 - ((dv (q.take i) : Nat) : Int)))) (rfl) <| Zo 77 (J (IntKind.i64.wrap (IntKind.u64.wrap (0 - ((dv (q.take i) : Nat) : Int))))) <| WO.top (v' := J (- ((dv (q.take i) : Nat) : Int))) (neg_conv (by omega)) <| Zr 1 <| Zdn <| Zsg <| Zr 3 <| ZoP 81 (((- ((dv (q.take i) : Nat) : Int)) : Int) ≥ least) ?_ ?_
 ·
  intro h16
  refine Zr 7 <| Zdn <| WE.ret <| ZR (.tuple #[J (- ((dv (q.take i) : Nat) : Int)), .bool (decide (((- ((dv (q.take i) : Nat) : Int)) : Int) ≤ most))]) ?_
  have hdv : dv (q.take i) = dv q := (by rw [List.take_of_length_le (by omega)])
  refine ⟨?_, HA⟩
  rw [valE_m (by omega) (by first | exact (fun h_ => absurd ((str_inj (b := [48])).2 h_) (by assumption)) | (intro h_; rw [h_] at *; first | omega | (simp at *; omega))) (by omega), hdv]
  exact congrArg (fun b => Ending.returned (Value.tuple #[Value.int .i64 (- (dv q : Int)), Value.bool b])) (decide_eq_decide.2 ⟨fun h => ⟨by omega, by omega⟩, fun h => by omega⟩)
 intro h16
 refine Zr 7 <| Zdn <| WE.ret <| ZR (.tuple #[J (- ((dv (q.take i) : Nat) : Int)), .bool false]) ?_
 have hdv : dv (q.take i) = dv q := (by rw [List.take_of_length_le (by omega)])
 refine ⟨?_, HA⟩
 rw [valE_m (by omega) (by first | exact (fun h_ => absurd ((str_inj (b := [48])).2 h_) (by assumption)) | (intro h_; rw [h_] at *; first | omega | (simp at *; omega))) (by omega), hdv]
 exact congrArg (fun b => Ending.returned (Value.tuple #[Value.int .i64 (- (dv q : Int)), Value.bool b])) ((decide_eq_false (p := least ≤ - (dv q : Int) ∧ - (dv q : Int) ≤ most) (by omega)).symm)
end Go.Proofs.YtdhonbahpcmmnaaGreatDoor.Line
