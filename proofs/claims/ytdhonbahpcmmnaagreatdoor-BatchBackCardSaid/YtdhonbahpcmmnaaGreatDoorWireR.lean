/- Layer 6's walks: how numbers, whole numbers and texts are read. -/
import Derived.Test.YtdhonbahpcmmnaaGreatDoorWireW
import Derived.Test.YtdhonbahpcmmnaaGreatDoorEngC
set_option linter.unusedVariables false
set_option linter.unusedSimpArgs false
namespace Go.Proofs.YtdhonbahpcmmnaaGreatDoor.Wire
open Go Go.RowKit Go.Proofs.YtdhonbahpcmmnaaGreatDoor Go.Proofs.YtdhonbahpcmmnaaGreatDoor.Eng Go.Proofs.YtdhonbahpcmmnaaGreatDoorW.PrintWords
def Rd (T : TypeId) (w : World) (g : Nat) (v : Value) (s : St) : Prop := ∃ a p : Int, Blk w g #[v, .int .i64 a, .bool s.bad, .int .i64 p] T ∧ (s.bad = false → a = (s.p : Int)) ∧ (s.bad = true → p = (s.p : Int))
theorem Rd.keep {T : TypeId} {w w1 : World} {S : List Nat} {g : Nat} {v : Value} {s : St} (h : Rd T w g v s) (k : Fr S w w1) (hn : g ∉ S) : Rd T w1 g v s := by
  obtain ⟨a, p, h1, h2⟩ := h
  exact ⟨a, p, h1.keep k hn, h2⟩
theorem Rd.lt {T : TypeId} {w : World} {g : Nat} {v : Value} {s : St} (h : Rd T w g v s) : g < w.heap.size := by
  obtain ⟨a, p, h1, h2⟩ := h
  exact h1.lt
theorem Rd.ok {T : TypeId} {w : World} {g p : Nat} {v : Value} {q : Int} (h : Blk w g #[v, .int .i64 (p : Int), .bool false, .int .i64 q] T) : Rd T w g v ⟨p, false⟩ := ⟨_, _, h, fun _ => rfl, fun h => by cases h⟩
theorem Rd.no {T : TypeId} {w : World} {g p : Nat} {v : Value} {q : Int} (h : Blk w g #[v, .int .i64 q, .bool true, .int .i64 (p : Int)] T) : Rd T w g v ⟨p, true⟩ := ⟨_, _, h, (fun h => by cases h), fun _ => rfl⟩
theorem Rd.split {T : TypeId} {w : World} {g : Nat} {v : Value} {s : St} (h : Rd T w g v s) : (∃ p q, s = ⟨p, false⟩ ∧ Blk w g #[v, .int .i64 (p : Int), .bool false, .int .i64 q] T) ∨ ∃ p q, s = ⟨p, true⟩ ∧ Blk w g #[v, .int .i64 q, .bool true, .int .i64 (p : Int)] T := by
  obtain ⟨a, p, h1, h2, h3⟩ := h
  obtain ⟨sp, sb⟩ := s
  cases sb
  · have := h2 rfl
    subst this
    exact .inl ⟨_, _, rfl, h1⟩
  · have := h3 rfl
    subst this
    exact .inr ⟨_, _, rfl, h1⟩
theorem numA_cons {l : List UInt8} {k acc i : Nat} (h : i < l.length) : numA k acc (l.drop i) = if 9 < k ∨ (k = 9 ∧ 1 < (gB l i).toNat) ∨ ((gB l i).toNat = 0 ∧ 0 < k) then none
    else if (gB l i).toNat < 128 then some (acc + (gB l i).toNat * 128 ^ k, k + 1)
    else numA (k + 1) (acc + ((gB l i).toNat - 128) * 128 ^ k) (l.drop (i + 1)) := by rw [drop_gB l i h, numA]
theorem numA_end {l : List UInt8} {k acc i : Nat} (h : l.length ≤ i) : numA k acc (l.drop i) = none := by rw [List.drop_eq_nil_of_le h]; rfl
theorem rNum_bad (l : List UInt8) (p : Nat) : rNum l ⟨p, true⟩ = (0, ⟨p, true⟩) := rfl
theorem rNum_some {l : List UInt8} {p n c : Nat} (h : num (l.drop p) = some (n, c)) : rNum l ⟨p, false⟩ = (n, ⟨p + c, false⟩) := by
  unfold rNum
  simp only [Bool.false_eq_true, if_false, h]
theorem rNum_none {l : List UInt8} {p : Nat} (h : num (l.drop p) = none) : rNum l ⟨p, false⟩ = (0, ⟨p, true⟩) := by
  unfold rNum
  simp only [Bool.false_eq_true, if_false, h]
theorem pow128_le {k : Nat} (h : k ≤ 9) : 128 ^ k ≤ 9223372036854775808 := Nat.pow_le_pow_right (by decide) h
theorem acc_step {acc x k : Nat} (h : acc < 128 ^ k) (hx : x < 128) : acc + x * 128 ^ k < 128 ^ (k + 1) := by
  rw [Nat.pow_succ]
  have := Nat.mul_le_mul_right (128 ^ k) (show x ≤ 127 by omega)
  omega
theorem mul_in {x k : Nat} (hk : k ≤ 9) (hx : x < 128) (h9 : k = 9 → x ≤ 1) : x * 128 ^ k ≤ 9223372036854775808 := by
  by_cases h : k = 9
  · have := h9 h
    subst h
    exact Nat.le_trans (Nat.mul_le_mul_right _ this) (by decide)
  · have h2 : 128 ^ k ≤ 128 ^ 8 := Nat.pow_le_pow_right (by decide) (by omega)
    exact Nat.le_trans (Nat.mul_le_mul (show x ≤ 127 by omega) h2) (by decide)
set_option maxRecDepth 100000 in
set_option maxHeartbeats 400000 in
theorem fail_false (g : Nat) (v : Value) (a p t : Int) (w : World) (HB : Blk w g #[v, .int .i64 a, .bool false, .int .i64 p] 114) :
    Calls Tryz.prog 65 #[.pointer (some ⟨g, 0, none⟩), .int .i64 t] w fun e w' => e = .returned (.tuple #[]) ∧ Blk w' g #[v, .int .i64 a, .bool true, .int .i64 t] 114 ∧ Fr [g] w w' := by
 have HA := Fr.refl [g] w
 refine Zen (N := 16) Tryz.func65 (c := _) [(0, Pt g 0), (1, J t)] <| Zsg <| Zr 3 [(6, Pt g 2), (5, Pt g 0), (4, Pt g 0)] <| Zl 7 (.bool false) (HB.s 2) <| Zr 1 [(8, .bool true)] <| Zdn <| ZT <| WE.region <| Zr 5 [(13, Pt g 2), (12, Pt g 0), (11, J t), (10, Pt g 0), (9, Pt g 0)] <| Zs g 2 [.bool true] #[v, J a, .bool true, J p] HB ?_
 intro w1 HB3 F2 _
 refine Zr 2 [(15, Pt g 3), (14, Pt g 0)] <| Zs g 3 [J t] #[v, J a, .bool true, J t] HB3 ?_
 intro w4 HB6 F5 _
 have HA := (HA.step F2 (inSL (by simp) inS0)).step F5 (inSL (by simp) inS0)
 refine Zd <| ZV (.tuple #[]) ?_
 exact ⟨rfl, HB6, HA⟩
set_option maxRecDepth 100000 in
set_option maxHeartbeats 400000 in
theorem fail_true (g : Nat) (v : Value) (a p t : Int) (w : World) (HB : Blk w g #[v, .int .i64 a, .bool true, .int .i64 p] 114) :
    Calls Tryz.prog 65 #[.pointer (some ⟨g, 0, none⟩), .int .i64 t] w fun e w' => e = .returned (.tuple #[]) ∧ Blk w' g #[v, .int .i64 a, .bool true, .int .i64 p] 114 ∧ Fr [g] w w' := by
 have HA := Fr.refl [g] w
 refine Zen (N := 16) Tryz.func65 (c := _) [(0, Pt g 0), (1, J t)] <| Zsg <| Zr 3 [(6, Pt g 2), (5, Pt g 0), (4, Pt g 0)] <| Zl 7 (.bool true) (HB.s 2) <| Zr 1 [(8, .bool false)] <| Zdn <| ZF <| WE.skip <| ZV (.tuple #[]) ?_
 exact ⟨rfl, HB, HA⟩
set_option maxRecDepth 100000 in
set_option maxHeartbeats 400000 in
theorem rnum_ok (g p : Nat) (q : Int) (A : Option Addr) (n c : Nat) (l : List UInt8) (FB : List Nat) (w : World) (HV : VX cB 1 w FB A l) (hn : l.length = n) (hc : n ≤ c) (hlen : l.length ≤ 1000000000) (hg : g ∉ FB) (HB : Blk w g #[.slice A n c, .int .i64 (p : Int), .bool false, .int .i64 q] 114) (hp : p ≤ n) :
    Calls Tryz.prog 62 #[.pointer (some ⟨g, 0, none⟩)] w fun e w' => e = .returned (.int .u64 ((rNum l ⟨p, false⟩).1 : Int)) ∧ Rd 114 w' g (.slice A n c) (rNum l ⟨p, false⟩).2 ∧ Fr [g] w w' := by
 have HA := Fr.refl [g] w
 refine Zen (N := 75) Tryz.func62 (c := _) [(0, Pt g 0)] <| Zsg <| Zr 1 [(2, .int .u64 0)] <| Zdn <| Zq <| Zsg <| Zr 3 [(9, Pt g 2), (8, Pt g 0), (7, Pt g 0)] <| Zl 10 (.bool false) (HB.s 2) <| Zdn <| ZF <| Zk <| Zsg <| Zr 3 [(13, Pt g 1), (12, Pt g 0), (11, Pt g 0)] <| Zl 14 (J (p : Int)) (HB.s 1) <| Zr 1 [(3, J (p : Int))] <| Zdn <| Zsg <| Zr 1 [(4, .int .u64 0)] <| Zdn <| Zq <| Zsg <| Zr 1 [(5, J 0)] <| Zdn <| WE.block <| WE.loop (α := Nat × Nat) (E := fun ⟨k, acc⟩ => [(0, Pt g 0), (2, .int .u64 0), (3, J (p : Int)), (4, .int .u64 (acc : Int)), (5, J ((7 * k : Nat) : Int))]) (I := fun ⟨k, acc⟩ wr => numA k acc (l.drop (p + k)) = num (l.drop p) ∧ acc < 128 ^ k ∧ k ≤ 9 ∧ p + k ≤ n ∧ Blk wr g #[.slice A n c, J ((p + k : Nat) : Int), .bool false, J q] 114 ∧ VX cB 1 wr FB A l ∧ Fr [g] w wr) (m := fun ⟨k, acc⟩ => 10 - k) (0, 0) [0, 2, 3, 4, 5] (by kernel_rfl) ?_ ?_
 ·
  exact ⟨rfl, Nat.lt_succ_self 0, by decide, hp, HB, HV, HA⟩
 rintro ⟨k, acc⟩ wr ⟨hnum, hacc, hk9, hpk, HB, HV, HA⟩
 dsimp only at hnum hacc hk9 hpk HB ⊢
 refine Zq <| Zq <| ZD [.free, .free, .free, .still, .free, .free, .free, .still, .free, .free] 10 ?_
 intro w1 F2 _
 have HB := HB.k F2
 refine Yr [0, 1, 2] [(17, Pt g 1), (16, Pt g 0), (15, Pt g 0)] <| Yl 3 18 (J ((p + k : Nat) : Int)) (HB.s 1) <| Yr [4, 5, 6] [(21, Pt g 0), (20, Pt g 0), (19, Pt g 0)] <| Yl 7 22 (.slice A n c) (HB.s 0) <| Yr [8, 9] [(24, .bool (decide (((p + k : Int) : Int) < (n : Int)))), (23, J (n : Int))] <| WO.topP (((p + k : Int) : Int) < (n : Int)) ?_ ?_
 ·
  intro h3
  refine Ydn <| ZT <| Zk <| Zq <| WE.block <| Zq <| ZD [.free, .free, .free, .still, .free, .free, .free, .still, .free, .still, .free] 11 ?_
  intro w4 F5 _
  have HB := HB.k F5
  have HV := (HV.keep F2 dj0).keep F5 dj0
  refine Yr [0, 1, 2] [(29, Pt g 0), (28, Pt g 0), (27, Pt g 0)] <| Yl 3 30 (.slice A n c) (HB.s 0) <| Yr [4, 5, 6] [(33, Pt g 1), (32, Pt g 0), (31, Pt g 0)] <| Yl 7 34 (J ((p + k : Nat) : Int)) (HB.s 1) ?_
  obtain ⟨ad6, hA7⟩ := HV.addr (i := p + k) (by have := hn; omega)
  refine Yio 8 35 n 1 (p + k) ((p + k : Nat) : Int) hA7 rfl (by omega) <| Yl 9 36 (.int .u8 ((gB l (p + k)).toNat : Int)) (same (HV.at0 hA7 (gB_some l (p + k) (by have := hn; omega)) (by kernel_rfl))) <| Yr [10] [(6, .int .u8 ((gB l (p + k)).toNat : Int))] <| Ydn <| Zsg <| Zr 3 [(39, Pt g 1), (38, Pt g 0), (37, Pt g 0)] <| Zl 40 (J ((p + k : Nat) : Int)) (HB.s 1) <| Zw 41 (((p + k : Nat) : Int) + 1) (((p + k) + 1 : Nat) : Int) <| Zr 2 [(43, Pt g 1), (42, Pt g 0)] <| Zs g 1 [J (((p + k) + 1 : Nat) : Int)] #[.slice A n c, J (((p + k) + 1 : Nat) : Int), .bool false, J q] HB ?_
  intro w8 HB10 F9 _
  have HA := ((HA.step0 F2).step0 F5).step F9 (inSL (by simp) inS0)
  refine Zdn <| Zq <| Zsg <| Zr 1 [(44, J ((7 * k : Nat) : Int))] <| ZoP 45 (((7 * k : Int) : Int) > (63 : Int)) ?_ ?_
  ·
   intro h11
   refine Zr 16 [(61, .bool true), (60, undef), (59, undef), (58, undef), (57, undef), (56, undef), (55, undef), (54, .bool true), (53, .bool true), (52, undef), (51, undef), (50, undef), (49, undef), (48, undef), (47, undef), (46, .bool true)] <| Zdn <| ZT <| WE.exit <| WQ.thenE <| ZX <| WQ.thenE <| WQ.thenE <| WQ.blkE <| Zn <| Zsg <| Zr 2 [(73, J (p : Int)), (72, Pt g 0)] <| Zc 74 (fail_false g (.slice A n c : Value) (((p + k) + 1 : Nat) : Int) q (p : Int) _ HB10) ?_
   rintro _ w13 ⟨rfl, HB12, F14⟩
   refine ⟨_, rfl, trivial, Zdn <| Zsg <| Zr 1 [(2, .int .u64 0)] <| Zdn <| WE.ret <| ZR (.int .u64 0) ?_⟩
   have hres : num (l.drop p) = none := by rw [← hnum]; first | (rw [numA_end (by omega)]; done) | (rw [numA_cons (by omega), if_pos (by omega)])
   rw [rNum_none hres]
   have HA := HA.step F14 (inSL (by simp) inS0)
   exact ⟨rfl, Rd.no HB12, HA⟩
  intro h11
  refine Zr 2 [(47, J ((7 * k : Nat) : Int)), (46, .bool false)] <| ZoP 48 (((7 * k : Int) : Int) = (63 : Int)) ?_ ?_
  ·
   intro h15
   refine Zr 2 [(50, .int .u8 ((gB l (p + k)).toNat : Int)), (49, .bool true)] <| ZoP 51 ((((gB l (p + k)).toNat : Int) : Int) > (1 : Int)) ?_ ?_
   ·
    intro h16
    refine Zr 10 [(61, .bool true), (60, undef), (59, undef), (58, undef), (57, undef), (56, undef), (55, undef), (54, .bool true), (53, .bool true), (52, .bool true)] <| Zdn <| ZT <| WE.exit <| WQ.thenE <| ZX <| WQ.thenE <| WQ.thenE <| WQ.blkE <| Zn <| Zsg <| Zr 2 [(73, J (p : Int)), (72, Pt g 0)] <| Zc 74 (fail_false g (.slice A n c : Value) (((p + k) + 1 : Nat) : Int) q (p : Int) _ HB10) ?_
    rintro _ w18 ⟨rfl, HB17, F19⟩
    refine ⟨_, rfl, trivial, Zdn <| Zsg <| Zr 1 [(2, .int .u64 0)] <| Zdn <| WE.ret <| ZR (.int .u64 0) ?_⟩
    have hres : num (l.drop p) = none := by rw [← hnum]; first | (rw [numA_end (by omega)]; done) | (rw [numA_cons (by omega), if_pos (by omega)])
    rw [rNum_none hres]
    have HA := HA.step F19 (inSL (by simp) inS0)
    exact ⟨rfl, Rd.no HB17, HA⟩
   intro h16
   refine Zr 4 [(55, .int .u8 ((gB l (p + k)).toNat : Int)), (54, .bool false), (53, .bool false), (52, .bool false)] <| ZoP 56 ((((gB l (p + k)).toNat : Int) : Int) = (0 : Int)) ?_ ?_
   ·
    intro h20
    refine Zr 2 [(58, J ((7 * k : Nat) : Int)), (57, .bool true)] <| ZoP 59 (((7 * k : Int) : Int) > (0 : Int)) ?_ ?_
    ·
     intro h21
     refine Zr 2 [(61, .bool true), (60, .bool true)] <| Zdn <| ZT <| WE.exit <| WQ.thenE <| ZX <| WQ.thenE <| WQ.thenE <| WQ.blkE <| Zn <| Zsg <| Zr 2 [(73, J (p : Int)), (72, Pt g 0)] <| Zc 74 (fail_false g (.slice A n c : Value) (((p + k) + 1 : Nat) : Int) q (p : Int) _ HB10) ?_
     rintro _ w23 ⟨rfl, HB22, F24⟩
     refine ⟨_, rfl, trivial, Zdn <| Zsg <| Zr 1 [(2, .int .u64 0)] <| Zdn <| WE.ret <| ZR (.int .u64 0) ?_⟩
     have hres : num (l.drop p) = none := by rw [← hnum]; first | (rw [numA_end (by omega)]; done) | (rw [numA_cons (by omega), if_pos (by omega)])
     rw [rNum_none hres]
     have HA := HA.step F24 (inSL (by simp) inS0)
     exact ⟨rfl, Rd.no HB22, HA⟩
    intro h21
    refine Zr 2 [(61, .bool false), (60, .bool false)] <| Zdn <| ZF <| Zk <| Zsg <| Zr 2 [(63, .int .u8 ((gB l (p + k)).toNat : Int)), (62, .int .u64 (acc : Int))] <| Zo 64 (.int .u8 (iAndNot .u8 ((gB l (p + k)).toNat : Int) (128 : Int))) <| WO.top (v' := .int .u8 (((gB l (p + k)).toNat % 128 : Nat) : Int)) (congrArg (Value.int .u8) (andNot8 (gB l (p + k)))) <| Zwur 65 (((gB l (p + k)).toNat % 128 : Nat) : Int) (((gB l (p + k)).toNat % 128 : Nat) : Int) <| Zr 1 [(66, J ((7 * k : Nat) : Int))] <| Zh 67 .u64 (((gB l (p + k)).toNat % 128 : Nat) : Int) ((7 * k : Nat) : Int) (by omega) <| WO.top (v' := .int .u64 (iShl .u64 (((gB l (p + k)).toNat % 128 : Nat) : Int) ((7 * k : Nat) : Int))) (rfl) <| Zo 68 (.int .u64 (iOr .u64 (acc : Int) (iShl .u64 (((gB l (p + k)).toNat % 128 : Nat) : Int) ((7 * k : Nat) : Int)))) <| WO.top (v' := .int .u64 ((acc + ((gB l (p + k)).toNat % 128) * 128 ^ k : Nat) : Int)) (congrArg (Value.int .u64) (readOr acc ((gB l (p + k)).toNat % 128) k hacc (by omega) (Nat.mod_lt _ (by decide)) (by have := gB_lt l (p + k); omega))) <| Zr 1 [(4, .int .u64 ((acc + ((gB l (p + k)).toNat % 128) * 128 ^ k : Nat) : Int))] <| Zdn <| Zsg <| Zr 1 [(69, .int .u8 ((gB l (p + k)).toNat : Int))] <| ZoP 70 ((((gB l (p + k)).toNat : Int) : Int) < (128 : Int)) ?_ ?_
    ·
     intro h25
     refine Zdn <| ZT <| Zsg <| Zr 2 [(2, .int .u64 ((acc + ((gB l (p + k)).toNat % 128) * 128 ^ k : Nat) : Int)), (71, .int .u64 ((acc + ((gB l (p + k)).toNat % 128) * 128 ^ k : Nat) : Int))] <| Zdn <| WE.ret <| WQ.blkR <| WQ.thenR <| WQ.thenR <| WQ.blkR <| WQ.thenR <| ZR (.int .u64 ((acc + ((gB l (p + k)).toNat % 128) * 128 ^ k : Nat) : Int)) ?_
     have hmod : (gB l (p + k)).toNat % 128 = (gB l (p + k)).toNat := Nat.mod_eq_of_lt (by omega)
     have hres : num (l.drop p) = some (acc + ((gB l (p + k)).toNat % 128) * 128 ^ k, k + 1) := by rw [← hnum, numA_cons (by omega), if_neg (by omega), if_pos (by omega), hmod]
     rw [rNum_some hres]
     exact ⟨rfl, Rd.ok HB10, HA⟩
    intro h25
    refine Zdn <| ZF <| WE.skip <| WQ.blkN <| Zn <| WE.region <| Zr 1 [(25, J ((7 * k : Nat) : Int))] <| Zw 26 (((7 * k : Nat) : Int) + 7) ((7 * (k + 1) : Nat) : Int) <| Zr 1 [(5, J ((7 * (k + 1) : Nat) : Int))] <| Zd ?_
    have hstep : (gB l (p + k)).toNat % 128 = (gB l (p + k)).toNat - 128 := by have := gB_lt l (p + k); omega
    have hk8 : k ≤ 8 := by omega
    rw [numA_cons (by omega), if_neg (by omega), if_neg (by omega)] at hnum
    refine WQ.round ?_
    intro a_ ha_
    refine ⟨(k + 1, acc + ((gB l (p + k)).toNat % 128) * 128 ^ k), ?_, ha_.keep [0, 2, 3, 4, 5] (by kernel_rfl), ?_⟩
    ·
     show 10 - (k + 1) < 10 - k; omega
    ·
     have HV := HV.keep F9 (djB hg)
     exact ⟨by rw [hstep]; exact hnum, acc_step hacc (Nat.mod_lt _ (by decide)), by show k + 1 ≤ 9; omega, by show p + (k + 1) ≤ n; omega, HB10, HV, HA⟩
   intro h20
   refine Zr 5 [(61, .bool false), (60, .bool false), (59, undef), (58, undef), (57, .bool false)] <| Zdn <| ZF <| Zk <| Zsg <| Zr 2 [(63, .int .u8 ((gB l (p + k)).toNat : Int)), (62, .int .u64 (acc : Int))] <| Zo 64 (.int .u8 (iAndNot .u8 ((gB l (p + k)).toNat : Int) (128 : Int))) <| WO.top (v' := .int .u8 (((gB l (p + k)).toNat % 128 : Nat) : Int)) (congrArg (Value.int .u8) (andNot8 (gB l (p + k)))) <| Zwur 65 (((gB l (p + k)).toNat % 128 : Nat) : Int) (((gB l (p + k)).toNat % 128 : Nat) : Int) <| Zr 1 [(66, J ((7 * k : Nat) : Int))] <| Zh 67 .u64 (((gB l (p + k)).toNat % 128 : Nat) : Int) ((7 * k : Nat) : Int) (by omega) <| WO.top (v' := .int .u64 (iShl .u64 (((gB l (p + k)).toNat % 128 : Nat) : Int) ((7 * k : Nat) : Int))) (rfl) <| Zo 68 (.int .u64 (iOr .u64 (acc : Int) (iShl .u64 (((gB l (p + k)).toNat % 128 : Nat) : Int) ((7 * k : Nat) : Int)))) <| WO.top (v' := .int .u64 ((acc + ((gB l (p + k)).toNat % 128) * 128 ^ k : Nat) : Int)) (congrArg (Value.int .u64) (readOr acc ((gB l (p + k)).toNat % 128) k hacc (by omega) (Nat.mod_lt _ (by decide)) (by have := gB_lt l (p + k); omega))) <| Zr 1 [(4, .int .u64 ((acc + ((gB l (p + k)).toNat % 128) * 128 ^ k : Nat) : Int))] <| Zdn <| Zsg <| Zr 1 [(69, .int .u8 ((gB l (p + k)).toNat : Int))] <| ZoP 70 ((((gB l (p + k)).toNat : Int) : Int) < (128 : Int)) ?_ ?_
   ·
    intro h26
    refine Zdn <| ZT <| Zsg <| Zr 2 [(2, .int .u64 ((acc + ((gB l (p + k)).toNat % 128) * 128 ^ k : Nat) : Int)), (71, .int .u64 ((acc + ((gB l (p + k)).toNat % 128) * 128 ^ k : Nat) : Int))] <| Zdn <| WE.ret <| WQ.blkR <| WQ.thenR <| WQ.thenR <| WQ.blkR <| WQ.thenR <| ZR (.int .u64 ((acc + ((gB l (p + k)).toNat % 128) * 128 ^ k : Nat) : Int)) ?_
    have hmod : (gB l (p + k)).toNat % 128 = (gB l (p + k)).toNat := Nat.mod_eq_of_lt (by omega)
    have hres : num (l.drop p) = some (acc + ((gB l (p + k)).toNat % 128) * 128 ^ k, k + 1) := by rw [← hnum, numA_cons (by omega), if_neg (by omega), if_pos (by omega), hmod]
    rw [rNum_some hres]
    exact ⟨rfl, Rd.ok HB10, HA⟩
   intro h26
   refine Zdn <| ZF <| WE.skip <| WQ.blkN <| Zn <| WE.region <| Zr 1 [(25, J ((7 * k : Nat) : Int))] <| Zw 26 (((7 * k : Nat) : Int) + 7) ((7 * (k + 1) : Nat) : Int) <| Zr 1 [(5, J ((7 * (k + 1) : Nat) : Int))] <| Zd ?_
   have hstep : (gB l (p + k)).toNat % 128 = (gB l (p + k)).toNat - 128 := by have := gB_lt l (p + k); omega
   have hk8 : k ≤ 8 := by omega
   rw [numA_cons (by omega), if_neg (by omega), if_neg (by omega)] at hnum
   refine WQ.round ?_
   intro a_ ha_
   refine ⟨(k + 1, acc + ((gB l (p + k)).toNat % 128) * 128 ^ k), ?_, ha_.keep [0, 2, 3, 4, 5] (by kernel_rfl), ?_⟩
   ·
    show 10 - (k + 1) < 10 - k; omega
   ·
    have HV := HV.keep F9 (djB hg)
    exact ⟨by rw [hstep]; exact hnum, acc_step hacc (Nat.mod_lt _ (by decide)), by show k + 1 ≤ 9; omega, by show p + (k + 1) ≤ n; omega, HB10, HV, HA⟩
  intro h15
  refine Zr 7 [(55, .int .u8 ((gB l (p + k)).toNat : Int)), (54, .bool false), (53, .bool false), (52, .bool false), (51, undef), (50, undef), (49, .bool false)] <| ZoP 56 ((((gB l (p + k)).toNat : Int) : Int) = (0 : Int)) ?_ ?_
  ·
   intro h27
   refine Zr 2 [(58, J ((7 * k : Nat) : Int)), (57, .bool true)] <| ZoP 59 (((7 * k : Int) : Int) > (0 : Int)) ?_ ?_
   ·
    intro h28
    refine Zr 2 [(61, .bool true), (60, .bool true)] <| Zdn <| ZT <| WE.exit <| WQ.thenE <| ZX <| WQ.thenE <| WQ.thenE <| WQ.blkE <| Zn <| Zsg <| Zr 2 [(73, J (p : Int)), (72, Pt g 0)] <| Zc 74 (fail_false g (.slice A n c : Value) (((p + k) + 1 : Nat) : Int) q (p : Int) _ HB10) ?_
    rintro _ w30 ⟨rfl, HB29, F31⟩
    refine ⟨_, rfl, trivial, Zdn <| Zsg <| Zr 1 [(2, .int .u64 0)] <| Zdn <| WE.ret <| ZR (.int .u64 0) ?_⟩
    have hres : num (l.drop p) = none := by rw [← hnum]; first | (rw [numA_end (by omega)]; done) | (rw [numA_cons (by omega), if_pos (by omega)])
    rw [rNum_none hres]
    have HA := HA.step F31 (inSL (by simp) inS0)
    exact ⟨rfl, Rd.no HB29, HA⟩
   intro h28
   refine Zr 2 [(61, .bool false), (60, .bool false)] <| Zdn <| ZF <| Zk <| Zsg <| Zr 2 [(63, .int .u8 ((gB l (p + k)).toNat : Int)), (62, .int .u64 (acc : Int))] <| Zo 64 (.int .u8 (iAndNot .u8 ((gB l (p + k)).toNat : Int) (128 : Int))) <| WO.top (v' := .int .u8 (((gB l (p + k)).toNat % 128 : Nat) : Int)) (congrArg (Value.int .u8) (andNot8 (gB l (p + k)))) <| Zwur 65 (((gB l (p + k)).toNat % 128 : Nat) : Int) (((gB l (p + k)).toNat % 128 : Nat) : Int) <| Zr 1 [(66, J ((7 * k : Nat) : Int))] <| Zh 67 .u64 (((gB l (p + k)).toNat % 128 : Nat) : Int) ((7 * k : Nat) : Int) (by omega) <| WO.top (v' := .int .u64 (iShl .u64 (((gB l (p + k)).toNat % 128 : Nat) : Int) ((7 * k : Nat) : Int))) (rfl) <| Zo 68 (.int .u64 (iOr .u64 (acc : Int) (iShl .u64 (((gB l (p + k)).toNat % 128 : Nat) : Int) ((7 * k : Nat) : Int)))) <| WO.top (v' := .int .u64 ((acc + ((gB l (p + k)).toNat % 128) * 128 ^ k : Nat) : Int)) (congrArg (Value.int .u64) (readOr acc ((gB l (p + k)).toNat % 128) k hacc (by omega) (Nat.mod_lt _ (by decide)) (by have := gB_lt l (p + k); omega))) <| Zr 1 [(4, .int .u64 ((acc + ((gB l (p + k)).toNat % 128) * 128 ^ k : Nat) : Int))] <| Zdn <| Zsg <| Zr 1 [(69, .int .u8 ((gB l (p + k)).toNat : Int))] <| ZoP 70 ((((gB l (p + k)).toNat : Int) : Int) < (128 : Int)) ?_ ?_
   ·
    intro h32
    refine Zdn <| ZT <| Zsg <| Zr 2 [(2, .int .u64 ((acc + ((gB l (p + k)).toNat % 128) * 128 ^ k : Nat) : Int)), (71, .int .u64 ((acc + ((gB l (p + k)).toNat % 128) * 128 ^ k : Nat) : Int))] <| Zdn <| WE.ret <| WQ.blkR <| WQ.thenR <| WQ.thenR <| WQ.blkR <| WQ.thenR <| ZR (.int .u64 ((acc + ((gB l (p + k)).toNat % 128) * 128 ^ k : Nat) : Int)) ?_
    have hmod : (gB l (p + k)).toNat % 128 = (gB l (p + k)).toNat := Nat.mod_eq_of_lt (by omega)
    have hres : num (l.drop p) = some (acc + ((gB l (p + k)).toNat % 128) * 128 ^ k, k + 1) := by rw [← hnum, numA_cons (by omega), if_neg (by omega), if_pos (by omega), hmod]
    rw [rNum_some hres]
    exact ⟨rfl, Rd.ok HB10, HA⟩
   intro h32
   refine Zdn <| ZF <| WE.skip <| WQ.blkN <| Zn <| WE.region <| Zr 1 [(25, J ((7 * k : Nat) : Int))] <| Zw 26 (((7 * k : Nat) : Int) + 7) ((7 * (k + 1) : Nat) : Int) <| Zr 1 [(5, J ((7 * (k + 1) : Nat) : Int))] <| Zd ?_
   have hstep : (gB l (p + k)).toNat % 128 = (gB l (p + k)).toNat - 128 := by have := gB_lt l (p + k); omega
   have hk8 : k ≤ 8 := by omega
   rw [numA_cons (by omega), if_neg (by omega), if_neg (by omega)] at hnum
   refine WQ.round ?_
   intro a_ ha_
   refine ⟨(k + 1, acc + ((gB l (p + k)).toNat % 128) * 128 ^ k), ?_, ha_.keep [0, 2, 3, 4, 5] (by kernel_rfl), ?_⟩
   ·
    show 10 - (k + 1) < 10 - k; omega
   ·
    have HV := HV.keep F9 (djB hg)
    exact ⟨by rw [hstep]; exact hnum, acc_step hacc (Nat.mod_lt _ (by decide)), by show k + 1 ≤ 9; omega, by show p + (k + 1) ≤ n; omega, HB10, HV, HA⟩
  intro h27
  refine Zr 5 [(61, .bool false), (60, .bool false), (59, undef), (58, undef), (57, .bool false)] <| Zdn <| ZF <| Zk <| Zsg <| Zr 2 [(63, .int .u8 ((gB l (p + k)).toNat : Int)), (62, .int .u64 (acc : Int))] <| Zo 64 (.int .u8 (iAndNot .u8 ((gB l (p + k)).toNat : Int) (128 : Int))) <| WO.top (v' := .int .u8 (((gB l (p + k)).toNat % 128 : Nat) : Int)) (congrArg (Value.int .u8) (andNot8 (gB l (p + k)))) <| Zwur 65 (((gB l (p + k)).toNat % 128 : Nat) : Int) (((gB l (p + k)).toNat % 128 : Nat) : Int) <| Zr 1 [(66, J ((7 * k : Nat) : Int))] <| Zh 67 .u64 (((gB l (p + k)).toNat % 128 : Nat) : Int) ((7 * k : Nat) : Int) (by omega) <| WO.top (v' := .int .u64 (iShl .u64 (((gB l (p + k)).toNat % 128 : Nat) : Int) ((7 * k : Nat) : Int))) (rfl) <| Zo 68 (.int .u64 (iOr .u64 (acc : Int) (iShl .u64 (((gB l (p + k)).toNat % 128 : Nat) : Int) ((7 * k : Nat) : Int)))) <| WO.top (v' := .int .u64 ((acc + ((gB l (p + k)).toNat % 128) * 128 ^ k : Nat) : Int)) (congrArg (Value.int .u64) (readOr acc ((gB l (p + k)).toNat % 128) k hacc (by omega) (Nat.mod_lt _ (by decide)) (by have := gB_lt l (p + k); omega))) <| Zr 1 [(4, .int .u64 ((acc + ((gB l (p + k)).toNat % 128) * 128 ^ k : Nat) : Int))] <| Zdn <| Zsg <| Zr 1 [(69, .int .u8 ((gB l (p + k)).toNat : Int))] <| ZoP 70 ((((gB l (p + k)).toNat : Int) : Int) < (128 : Int)) ?_ ?_
  ·
   intro h33
   refine Zdn <| ZT <| Zsg <| Zr 2 [(2, .int .u64 ((acc + ((gB l (p + k)).toNat % 128) * 128 ^ k : Nat) : Int)), (71, .int .u64 ((acc + ((gB l (p + k)).toNat % 128) * 128 ^ k : Nat) : Int))] <| Zdn <| WE.ret <| WQ.blkR <| WQ.thenR <| WQ.thenR <| WQ.blkR <| WQ.thenR <| ZR (.int .u64 ((acc + ((gB l (p + k)).toNat % 128) * 128 ^ k : Nat) : Int)) ?_
   have hmod : (gB l (p + k)).toNat % 128 = (gB l (p + k)).toNat := Nat.mod_eq_of_lt (by omega)
   have hres : num (l.drop p) = some (acc + ((gB l (p + k)).toNat % 128) * 128 ^ k, k + 1) := by rw [← hnum, numA_cons (by omega), if_neg (by omega), if_pos (by omega), hmod]
   rw [rNum_some hres]
   exact ⟨rfl, Rd.ok HB10, HA⟩
  intro h33
  refine Zdn <| ZF <| WE.skip <| WQ.blkN <| Zn <| WE.region <| Zr 1 [(25, J ((7 * k : Nat) : Int))] <| Zw 26 (((7 * k : Nat) : Int) + 7) ((7 * (k + 1) : Nat) : Int) <| Zr 1 [(5, J ((7 * (k + 1) : Nat) : Int))] <| Zd ?_
  have hstep : (gB l (p + k)).toNat % 128 = (gB l (p + k)).toNat - 128 := by have := gB_lt l (p + k); omega
  have hk8 : k ≤ 8 := by omega
  rw [numA_cons (by omega), if_neg (by omega), if_neg (by omega)] at hnum
  refine WQ.round ?_
  intro a_ ha_
  refine ⟨(k + 1, acc + ((gB l (p + k)).toNat % 128) * 128 ^ k), ?_, ha_.keep [0, 2, 3, 4, 5] (by kernel_rfl), ?_⟩
  ·
   show 10 - (k + 1) < 10 - k; omega
  ·
   have HV := HV.keep F9 (djB hg)
   exact ⟨by rw [hstep]; exact hnum, acc_step hacc (Nat.mod_lt _ (by decide)), by show k + 1 ≤ 9; omega, by show p + (k + 1) ≤ n; omega, HB10, HV, HA⟩
 intro h3
 refine Ydn <| ZF <| WE.exit <| WQ.thenE <| WQ.thenE <| WQ.blkE <| Zn <| Zsg <| Zr 2 [(73, J (p : Int)), (72, Pt g 0)] <| Zc 74 (fail_false g (.slice A n c : Value) ((p + k : Nat) : Int) q (p : Int) _ HB) ?_
 rintro _ w35 ⟨rfl, HB34, F36⟩
 refine ⟨_, rfl, trivial, Zdn <| Zsg <| Zr 1 [(2, .int .u64 0)] <| Zdn <| WE.ret <| ZR (.int .u64 0) ?_⟩
 have hres : num (l.drop p) = none := by rw [← hnum]; first | (rw [numA_end (by omega)]; done) | (rw [numA_cons (by omega), if_pos (by omega)])
 rw [rNum_none hres]
 have HA := (HA.step0 F2).step F36 (inSL (by simp) inS0)
 exact ⟨rfl, Rd.no HB34, HA⟩
set_option maxRecDepth 100000 in
set_option maxHeartbeats 400000 in
theorem rnum_bad (g : Nat) (v : Value) (q s : Int) (w : World) (HB : Blk w g #[v, .int .i64 q, .bool true, .int .i64 s] 114) :
    Calls Tryz.prog 62 #[.pointer (some ⟨g, 0, none⟩)] w fun e w' => e = .returned (.int .u64 0) ∧ Blk w' g #[v, .int .i64 q, .bool true, .int .i64 s] 114 ∧ Fr [g] w w' := by
 have HA := Fr.refl [g] w
 refine Zen (N := 75) Tryz.func62 (c := _) [(0, Pt g 0)] <| Zsg <| Zr 1 [(2, .int .u64 0)] <| Zdn <| Zq <| Zsg <| Zr 3 [(9, Pt g 2), (8, Pt g 0), (7, Pt g 0)] <| Zl 10 (.bool true) (HB.s 2) <| Zdn <| ZT <| Zsg <| Zr 1 [(2, .int .u64 0)] <| Zdn <| WE.ret <| WQ.thenR <| ZR (.int .u64 0) ?_
 exact ⟨rfl, HB, HA⟩
set_option maxRecDepth 100000 in
set_option maxHeartbeats 400000 in
theorem mnum_ok (g p : Nat) (q : Int) (A : Option Addr) (n c : Nat) (l : List UInt8) (FB : List Nat) (w : World) (HV : VX cB 1 w FB A l) (hn : l.length = n) (hc : n ≤ c) (hlen : l.length ≤ 1000000000) (hg : g ∉ FB) (HB : Blk w g #[.slice A n c, .int .i64 (p : Int), .bool false, .int .i64 q] 81) (hp : p ≤ n) :
    Calls Tryz.prog 45 #[.pointer (some ⟨g, 0, none⟩)] w fun e w' => e = .returned (.int .u64 ((rNum l ⟨p, false⟩).1 : Int)) ∧ Rd 81 w' g (.slice A n c) (rNum l ⟨p, false⟩).2 ∧ Fr [g] w w' := by
 have HA := Fr.refl [g] w
 refine Zen (N := 106) Tryz.func45 (c := _) [(0, Pt g 0)] <| Zsg <| Zr 1 [(2, .int .u64 0)] <| Zdn <| Zq <| Zsg <| Zr 3 [(9, Pt g 2), (8, Pt g 0), (7, Pt g 0)] <| Zl 10 (.bool false) (HB.s 2) <| Zdn <| ZF <| Zk <| Zsg <| Zr 1 [(3, .int .u64 0)] <| Zdn <| Zsg <| Zr 1 [(4, .int .u64 1)] <| Zdn <| Zq <| Zsg <| Zr 3 [(13, Pt g 1), (12, Pt g 0), (11, Pt g 0)] <| Zl 14 (J (p : Int)) (HB.s 1) <| Zr 1 [(5, J (p : Int))] <| Zdn <| WE.block <| WE.loop (α := Nat × Nat) (E := fun ⟨k, acc⟩ => [(0, Pt g 0), (2, .int .u64 0), (3, .int .u64 (acc : Int)), (4, .int .u64 ((128 ^ k : Nat) : Int)), (5, J ((p + k : Nat) : Int))]) (I := fun ⟨k, acc⟩ wr => numA k acc (l.drop (p + k)) = num (l.drop p) ∧ acc < 128 ^ k ∧ k ≤ 9 ∧ p + k ≤ n ∧ Blk wr g #[.slice A n c, J (p : Int), .bool false, J q] 81 ∧ VX cB 1 wr FB A l ∧ Fr [g] w wr) (m := fun ⟨k, acc⟩ => 10 - k) (0, 0) [0, 2, 3, 4, 5] (by kernel_rfl) ?_ ?_
 ·
  exact ⟨rfl, Nat.lt_succ_self 0, by decide, hp, HB, HV, HA⟩
 rintro ⟨k, acc⟩ wr ⟨hnum, hacc, hk9, hpk, HB, HV, HA⟩
 dsimp only at hnum hacc hk9 hpk HB ⊢
 have hpl := pow128_le hk9
 have hxb := gB_lt l (p + k)
 refine Zq <| Zsg <| Zr 4 [(18, Pt g 0), (17, Pt g 0), (16, Pt g 0), (15, J ((p + k : Nat) : Int))] <| Zl 19 (.slice A n c) (HB.s 0) <| Zr 1 [(20, J (n : Int))] <| ZoP 21 (((p + k : Int) : Int) < (n : Int)) ?_ ?_
 ·
  intro h1
  refine Zr 5 [(26, Pt g 1), (25, Pt g 0), (24, Pt g 0), (23, J ((p + k : Nat) : Int)), (22, .bool true)] <| Zl 27 (J (p : Int)) (HB.s 1) <| Zw 28 ((p : Int) + 10) ((p + 10 : Nat) : Int) <| ZoP 29 (((p + k : Int) : Int) < (p + 10 : Int)) ?_ ?_
  ·
   intro h2
   refine Zr 1 [(30, .bool true)] <| Zdn <| ZT <| Zk <| Zq <| WE.block <| Zsg <| Zr 3 [(35, Pt g 0), (34, Pt g 0), (33, Pt g 0)] <| Zl 36 (.slice A n c) (HB.s 0) <| Zr 1 [(37, J ((p + k : Nat) : Int))] ?_
   obtain ⟨ad3, hA4⟩ := HV.addr (i := p + k) (by have := hn; omega)
   refine Zio 38 n 1 (p + k) ((p + k : Nat) : Int) hA4 rfl (by omega) <| Zl 39 (.int .u8 ((gB l (p + k)).toNat : Int)) (same (HV.at0 hA4 (gB_some l (p + k) (by have := hn; omega)) (by kernel_rfl))) <| Zo 40 (.int .u8 ((((gB l (p + k)).toNat : Int) : Int).tmod 128)) <| WO.top (v' := .int .u8 (((gB l (p + k)).toNat % 128 : Nat) : Int)) (congrArg (Value.int .u8) (Int.tmod_eq_emod_of_nonneg (by omega))) <| Zwur 41 (((gB l (p + k)).toNat % 128 : Nat) : Int) (((gB l (p + k)).toNat % 128 : Nat) : Int) <| Zr 1 [(6, .int .u64 (((gB l (p + k)).toNat % 128 : Nat) : Int))] <| Zdn <| Zq <| Zsg <| Zr 4 [(45, Pt g 1), (44, Pt g 0), (43, Pt g 0), (42, J ((p + k : Nat) : Int))] <| Zl 46 (J (p : Int)) (HB.s 1) <| Zw 47 ((p : Int) + 9) ((p + 9 : Nat) : Int) <| ZoP 48 (((p + k : Int) : Int) = (p + 9 : Int)) ?_ ?_
   ·
    intro h5
    refine Zr 4 [(52, Pt g 0), (51, Pt g 0), (50, Pt g 0), (49, .bool true)] <| Zl 53 (.slice A n c) (HB.s 0) <| Zr 1 [(54, J ((p + k : Nat) : Int))] ?_
    obtain ⟨ad6, hA7⟩ := HV.addr (i := p + k) (by have := hn; omega)
    refine Zio 55 n 1 (p + k) ((p + k : Nat) : Int) hA7 rfl (by omega) <| Zl 56 (.int .u8 ((gB l (p + k)).toNat : Int)) (same (HV.at0 hA7 (gB_some l (p + k) (by have := hn; omega)) (by kernel_rfl))) <| ZoP 57 ((((gB l (p + k)).toNat : Int) : Int) > (1 : Int)) ?_ ?_
    ·
     intro h8
     refine Zr 1 [(58, .bool true)] <| Zdn <| ZT <| WE.exit <| WQ.thenE <| ZX <| WQ.thenE <| WQ.thenE <| WQ.blkE <| Zn <| Zsg <| Zr 3 [(98, Pt g 2), (97, Pt g 0), (96, Pt g 0)] <| Zs g 2 [.bool true] #[.slice A n c, J (p : Int), .bool true, J q] HB ?_
     intro w9 HB11 F10 _
     refine Zdn <| Zsg <| Zr 4 [(102, Pt g 1), (101, Pt g 0), (100, Pt g 0), (99, Pt g 0)] <| Zl 103 (J (p : Int)) (HB11.s 1) <| Zr 2 [(105, Pt g 3), (104, Pt g 0)] <| Zs g 3 [J (p : Int)] #[.slice A n c, J (p : Int), .bool true, J (p : Int)] HB11 ?_
     intro w12 HB14 F13 _
     refine Zdn <| Zsg <| Zr 1 [(2, .int .u64 0)] <| Zdn <| WE.ret <| ZR (.int .u64 0) ?_
     have hres : num (l.drop p) = none := by rw [← hnum]; first | (rw [numA_end (by omega)]; done) | (rw [numA_cons (by omega), if_pos (by omega)])
     rw [rNum_none hres]
     have HA := (HA.step F10 (inSL (by simp) inS0)).step F13 (inSL (by simp) inS0)
     exact ⟨rfl, Rd.no HB14, HA⟩
    intro h8
    refine Zr 1 [(58, .bool false)] <| Zdn <| ZF <| Zk <| Zsg <| Zr 3 [(61, .int .u64 ((128 ^ k : Nat) : Int)), (60, .int .u64 (((gB l (p + k)).toNat % 128 : Nat) : Int)), (59, .int .u64 (acc : Int))] <| Zo 62 (.int .u64 (IntKind.u64.wrap ((((gB l (p + k)).toNat % 128 : Nat) : Int) * ((128 ^ k : Nat) : Int)))) <| WO.top (v' := .int .u64 ((((gB l (p + k)).toNat % 128) * 128 ^ k : Nat) : Int)) (congrArg (Value.int .u64) (by have h_ := mul_in (x := (gB l (p + k)).toNat % 128) hk9 (Nat.mod_lt _ (by decide)) (by omega); rw [← Int.natCast_mul]; exact IntWalk.u64_in _ (by omega))) <| Zo 63 (.int .u64 (IntKind.u64.wrap ((acc : Int) + ((((gB l (p + k)).toNat % 128) * 128 ^ k : Nat) : Int)))) <| WO.top (v' := .int .u64 ((acc + ((gB l (p + k)).toNat % 128) * 128 ^ k : Nat) : Int)) (congrArg (Value.int .u64) (by have h_ := mul_in (x := (gB l (p + k)).toNat % 128) hk9 (Nat.mod_lt _ (by decide)) (by omega); rw [← Int.natCast_add]; exact IntWalk.u64_in _ (by omega))) <| Zr 1 [(3, .int .u64 ((acc + ((gB l (p + k)).toNat % 128) * 128 ^ k : Nat) : Int))] <| Zdn <| Zsg <| Zr 1 [(64, .int .u64 ((128 ^ k : Nat) : Int))] <| Zo 65 (.int .u64 (IntKind.u64.wrap (((128 ^ k : Nat) : Int) * 128))) <| WO.top (v' := .int .u64 (IntKind.u64.wrap (((128 ^ k : Nat) : Int) * 128))) (rfl) <| Zr 1 [(4, .int .u64 (IntKind.u64.wrap (((128 ^ k : Nat) : Int) * 128)))] <| Zdn <| Zsg <| Zr 3 [(68, Pt g 0), (67, Pt g 0), (66, Pt g 0)] <| Zl 69 (.slice A n c) (HB.s 0) <| Zr 1 [(70, J ((p + k : Nat) : Int))] ?_
    obtain ⟨ad15, hA16⟩ := HV.addr (i := p + k) (by have := hn; omega)
    refine Zio 71 n 1 (p + k) ((p + k : Nat) : Int) hA16 rfl (by omega) <| Zl 72 (.int .u8 ((gB l (p + k)).toNat : Int)) (same (HV.at0 hA16 (gB_some l (p + k) (by have := hn; omega)) (by kernel_rfl))) <| ZoP 73 ((((gB l (p + k)).toNat : Int) : Int) < (128 : Int)) ?_ ?_
    ·
     intro h17
     refine Zdn <| ZT <| Zq <| Zsg <| Zr 4 [(77, Pt g 1), (76, Pt g 0), (75, Pt g 0), (74, J ((p + k : Nat) : Int))] <| Zl 78 (J (p : Int)) (HB.s 1) <| ZoP 79 (((p + k : Int) : Int) > (p : Int)) ?_ ?_
     ·
      intro h18
      refine Zr 4 [(83, Pt g 0), (82, Pt g 0), (81, Pt g 0), (80, .bool true)] <| Zl 84 (.slice A n c) (HB.s 0) <| Zr 1 [(85, J ((p + k : Nat) : Int))] ?_
      obtain ⟨ad19, hA20⟩ := HV.addr (i := p + k) (by have := hn; omega)
      refine Zio 86 n 1 (p + k) ((p + k : Nat) : Int) hA20 rfl (by omega) <| Zl 87 (.int .u8 ((gB l (p + k)).toNat : Int)) (same (HV.at0 hA20 (gB_some l (p + k) (by have := hn; omega)) (by kernel_rfl))) <| ZoP 88 ((((gB l (p + k)).toNat : Int) : Int) = (0 : Int)) ?_ ?_
      ·
       intro h21
       refine Zr 1 [(89, .bool true)] <| Zdn <| ZT <| WE.exit <| WQ.thenE <| ZX <| WQ.thenE <| WQ.thenE <| WQ.blkE <| Zn <| Zsg <| Zr 3 [(98, Pt g 2), (97, Pt g 0), (96, Pt g 0)] <| Zs g 2 [.bool true] #[.slice A n c, J (p : Int), .bool true, J q] HB ?_
       intro w22 HB24 F23 _
       refine Zdn <| Zsg <| Zr 4 [(102, Pt g 1), (101, Pt g 0), (100, Pt g 0), (99, Pt g 0)] <| Zl 103 (J (p : Int)) (HB24.s 1) <| Zr 2 [(105, Pt g 3), (104, Pt g 0)] <| Zs g 3 [J (p : Int)] #[.slice A n c, J (p : Int), .bool true, J (p : Int)] HB24 ?_
       intro w25 HB27 F26 _
       refine Zdn <| Zsg <| Zr 1 [(2, .int .u64 0)] <| Zdn <| WE.ret <| ZR (.int .u64 0) ?_
       have hres : num (l.drop p) = none := by rw [← hnum]; first | (rw [numA_end (by omega)]; done) | (rw [numA_cons (by omega), if_pos (by omega)])
       rw [rNum_none hres]
       have HA := (HA.step F23 (inSL (by simp) inS0)).step F26 (inSL (by simp) inS0)
       exact ⟨rfl, Rd.no HB27, HA⟩
      intro h21
      refine Zr 1 [(89, .bool false)] <| Zdn <| ZF <| Zk <| Zsg <| Zr 2 [(91, J ((p + k : Nat) : Int)), (90, Pt g 0)] <| Zw 92 (((p + k : Nat) : Int) + 1) (((p + k) + 1 : Nat) : Int) <| Zr 2 [(94, Pt g 1), (93, Pt g 0)] <| Zs g 1 [J (((p + k) + 1 : Nat) : Int)] #[.slice A n c, J (((p + k) + 1 : Nat) : Int), .bool false, J q] HB ?_
      intro w28 HB30 F29 _
      refine Zdn <| Zsg <| Zr 2 [(2, .int .u64 ((acc + ((gB l (p + k)).toNat % 128) * 128 ^ k : Nat) : Int)), (95, .int .u64 ((acc + ((gB l (p + k)).toNat % 128) * 128 ^ k : Nat) : Int))] <| Zdn <| WE.ret <| WQ.blkR <| WQ.thenR <| WQ.thenR <| WQ.blkR <| WQ.thenR <| ZR (.int .u64 ((acc + ((gB l (p + k)).toNat % 128) * 128 ^ k : Nat) : Int)) ?_
      have hmod : (gB l (p + k)).toNat % 128 = (gB l (p + k)).toNat := Nat.mod_eq_of_lt (by omega)
      have hres : num (l.drop p) = some (acc + ((gB l (p + k)).toNat % 128) * 128 ^ k, k + 1) := by rw [← hnum, numA_cons (by omega), if_neg (by omega), if_pos (by omega), hmod]
      rw [rNum_some hres]
      have HA := HA.step F29 (inSL (by simp) inS0)
      exact ⟨rfl, Rd.ok HB30, HA⟩
     intro h18
     refine Zr 10 [(89, .bool false), (88, undef), (87, undef), (86, undef), (85, undef), (84, undef), (83, undef), (82, undef), (81, undef), (80, .bool false)] <| Zdn <| ZF <| Zk <| Zsg <| Zr 2 [(91, J ((p + k : Nat) : Int)), (90, Pt g 0)] <| Zw 92 (((p + k : Nat) : Int) + 1) (((p + k) + 1 : Nat) : Int) <| Zr 2 [(94, Pt g 1), (93, Pt g 0)] <| Zs g 1 [J (((p + k) + 1 : Nat) : Int)] #[.slice A n c, J (((p + k) + 1 : Nat) : Int), .bool false, J q] HB ?_
     intro w31 HB33 F32 _
     refine Zdn <| Zsg <| Zr 2 [(2, .int .u64 ((acc + ((gB l (p + k)).toNat % 128) * 128 ^ k : Nat) : Int)), (95, .int .u64 ((acc + ((gB l (p + k)).toNat % 128) * 128 ^ k : Nat) : Int))] <| Zdn <| WE.ret <| WQ.blkR <| WQ.thenR <| WQ.thenR <| WQ.blkR <| WQ.thenR <| ZR (.int .u64 ((acc + ((gB l (p + k)).toNat % 128) * 128 ^ k : Nat) : Int)) ?_
     have hmod : (gB l (p + k)).toNat % 128 = (gB l (p + k)).toNat := Nat.mod_eq_of_lt (by omega)
     have hres : num (l.drop p) = some (acc + ((gB l (p + k)).toNat % 128) * 128 ^ k, k + 1) := by rw [← hnum, numA_cons (by omega), if_neg (by omega), if_pos (by omega), hmod]
     rw [rNum_some hres]
     have HA := HA.step F32 (inSL (by simp) inS0)
     exact ⟨rfl, Rd.ok HB33, HA⟩
    intro h17
    refine Zdn <| ZF <| WE.skip <| WQ.blkN <| Zn <| WE.region <| Zr 1 [(31, J ((p + k : Nat) : Int))] <| Zw 32 (((p + k : Nat) : Int) + 1) (((p + k) + 1 : Nat) : Int) <| Zr 1 [(5, J (((p + k) + 1 : Nat) : Int))] <| Zd <| WQ.keep [0, 2, 3, 4, 5, 6, 30, 58, 73] (e' := [(0, Pt g 0), (2, .int .u64 0), (3, .int .u64 ((acc + ((gB l (p + k)).toNat % 128) * 128 ^ k : Nat) : Int)), (4, .int .u64 (IntKind.u64.wrap (((128 ^ k : Nat) : Int) * 128))), (5, J (((p + k) + 1 : Nat) : Int)), (6, .int .u64 (((gB l (p + k)).toNat % 128 : Nat) : Int)), (30, .bool true), (58, .bool false), (73, .bool false)]) (by kernel_rfl) ?_
    have hstep : (gB l (p + k)).toNat % 128 = (gB l (p + k)).toNat - 128 := by omega
    have hk8 : k ≤ 8 := by omega
    rw [numA_cons (by omega), if_neg (by omega), if_neg (by omega)] at hnum
    have hpw : IntKind.u64.wrap (((128 ^ k : Nat) : Int) * 128) = ((128 ^ (k + 1) : Nat) : Int) := by have := pow128_le (k := k + 1) (by omega); rw [Nat.pow_succ] at this ⊢; exact IntWalk.u64_in _ (by omega)
    refine WQ.env (e' := [(0, Pt g 0), (2, .int .u64 0), (3, .int .u64 ((acc + ((gB l (p + k)).toNat % 128) * 128 ^ k : Nat) : Int)), (4, .int .u64 ((128 ^ (k + 1) : Nat) : Int)), (5, J (((p + k) + 1 : Nat) : Int)), (6, .int .u64 (((gB l (p + k)).toNat % 128 : Nat) : Int)), (30, .bool true), (58, .bool false), (73, .bool false)]) (by rw [hpw]) <| WQ.round ?_
    intro a_ ha_
    refine ⟨(k + 1, acc + ((gB l (p + k)).toNat % 128) * 128 ^ k), ?_, ha_.keep [0, 2, 3, 4, 5] (by kernel_rfl), ?_⟩
    ·
     show 10 - (k + 1) < 10 - k; omega
    ·
     exact ⟨by rw [hstep]; exact hnum, acc_step hacc (Nat.mod_lt _ (by decide)), by show k + 1 ≤ 9; omega, by show p + (k + 1) ≤ n; omega, HB, HV, HA⟩
   intro h5
   refine Zr 10 [(58, .bool false), (57, undef), (56, undef), (55, undef), (54, undef), (53, undef), (52, undef), (51, undef), (50, undef), (49, .bool false)] <| Zdn <| ZF <| Zk <| Zsg <| Zr 3 [(61, .int .u64 ((128 ^ k : Nat) : Int)), (60, .int .u64 (((gB l (p + k)).toNat % 128 : Nat) : Int)), (59, .int .u64 (acc : Int))] <| Zo 62 (.int .u64 (IntKind.u64.wrap ((((gB l (p + k)).toNat % 128 : Nat) : Int) * ((128 ^ k : Nat) : Int)))) <| WO.top (v' := .int .u64 ((((gB l (p + k)).toNat % 128) * 128 ^ k : Nat) : Int)) (congrArg (Value.int .u64) (by have h_ := mul_in (x := (gB l (p + k)).toNat % 128) hk9 (Nat.mod_lt _ (by decide)) (by omega); rw [← Int.natCast_mul]; exact IntWalk.u64_in _ (by omega))) <| Zo 63 (.int .u64 (IntKind.u64.wrap ((acc : Int) + ((((gB l (p + k)).toNat % 128) * 128 ^ k : Nat) : Int)))) <| WO.top (v' := .int .u64 ((acc + ((gB l (p + k)).toNat % 128) * 128 ^ k : Nat) : Int)) (congrArg (Value.int .u64) (by have h_ := mul_in (x := (gB l (p + k)).toNat % 128) hk9 (Nat.mod_lt _ (by decide)) (by omega); rw [← Int.natCast_add]; exact IntWalk.u64_in _ (by omega))) <| Zr 1 [(3, .int .u64 ((acc + ((gB l (p + k)).toNat % 128) * 128 ^ k : Nat) : Int))] <| Zdn <| Zsg <| Zr 1 [(64, .int .u64 ((128 ^ k : Nat) : Int))] <| Zo 65 (.int .u64 (IntKind.u64.wrap (((128 ^ k : Nat) : Int) * 128))) <| WO.top (v' := .int .u64 (IntKind.u64.wrap (((128 ^ k : Nat) : Int) * 128))) (rfl) <| Zr 1 [(4, .int .u64 (IntKind.u64.wrap (((128 ^ k : Nat) : Int) * 128)))] <| Zdn <| Zsg <| Zr 3 [(68, Pt g 0), (67, Pt g 0), (66, Pt g 0)] <| Zl 69 (.slice A n c) (HB.s 0) <| Zr 1 [(70, J ((p + k : Nat) : Int))] ?_
   obtain ⟨ad34, hA35⟩ := HV.addr (i := p + k) (by have := hn; omega)
   refine Zio 71 n 1 (p + k) ((p + k : Nat) : Int) hA35 rfl (by omega) <| Zl 72 (.int .u8 ((gB l (p + k)).toNat : Int)) (same (HV.at0 hA35 (gB_some l (p + k) (by have := hn; omega)) (by kernel_rfl))) <| ZoP 73 ((((gB l (p + k)).toNat : Int) : Int) < (128 : Int)) ?_ ?_
   ·
    intro h36
    refine Zdn <| ZT <| Zq <| Zsg <| Zr 4 [(77, Pt g 1), (76, Pt g 0), (75, Pt g 0), (74, J ((p + k : Nat) : Int))] <| Zl 78 (J (p : Int)) (HB.s 1) <| ZoP 79 (((p + k : Int) : Int) > (p : Int)) ?_ ?_
    ·
     intro h37
     refine Zr 4 [(83, Pt g 0), (82, Pt g 0), (81, Pt g 0), (80, .bool true)] <| Zl 84 (.slice A n c) (HB.s 0) <| Zr 1 [(85, J ((p + k : Nat) : Int))] ?_
     obtain ⟨ad38, hA39⟩ := HV.addr (i := p + k) (by have := hn; omega)
     refine Zio 86 n 1 (p + k) ((p + k : Nat) : Int) hA39 rfl (by omega) <| Zl 87 (.int .u8 ((gB l (p + k)).toNat : Int)) (same (HV.at0 hA39 (gB_some l (p + k) (by have := hn; omega)) (by kernel_rfl))) <| ZoP 88 ((((gB l (p + k)).toNat : Int) : Int) = (0 : Int)) ?_ ?_
     ·
      intro h40
      refine Zr 1 [(89, .bool true)] <| Zdn <| ZT <| WE.exit <| WQ.thenE <| ZX <| WQ.thenE <| WQ.thenE <| WQ.blkE <| Zn <| Zsg <| Zr 3 [(98, Pt g 2), (97, Pt g 0), (96, Pt g 0)] <| Zs g 2 [.bool true] #[.slice A n c, J (p : Int), .bool true, J q] HB ?_
      intro w41 HB43 F42 _
      refine Zdn <| Zsg <| Zr 4 [(102, Pt g 1), (101, Pt g 0), (100, Pt g 0), (99, Pt g 0)] <| Zl 103 (J (p : Int)) (HB43.s 1) <| Zr 2 [(105, Pt g 3), (104, Pt g 0)] <| Zs g 3 [J (p : Int)] #[.slice A n c, J (p : Int), .bool true, J (p : Int)] HB43 ?_
      intro w44 HB46 F45 _
      refine Zdn <| Zsg <| Zr 1 [(2, .int .u64 0)] <| Zdn <| WE.ret <| ZR (.int .u64 0) ?_
      have hres : num (l.drop p) = none := by rw [← hnum]; first | (rw [numA_end (by omega)]; done) | (rw [numA_cons (by omega), if_pos (by omega)])
      rw [rNum_none hres]
      have HA := (HA.step F42 (inSL (by simp) inS0)).step F45 (inSL (by simp) inS0)
      exact ⟨rfl, Rd.no HB46, HA⟩
     intro h40
     refine Zr 1 [(89, .bool false)] <| Zdn <| ZF <| Zk <| Zsg <| Zr 2 [(91, J ((p + k : Nat) : Int)), (90, Pt g 0)] <| Zw 92 (((p + k : Nat) : Int) + 1) (((p + k) + 1 : Nat) : Int) <| Zr 2 [(94, Pt g 1), (93, Pt g 0)] <| Zs g 1 [J (((p + k) + 1 : Nat) : Int)] #[.slice A n c, J (((p + k) + 1 : Nat) : Int), .bool false, J q] HB ?_
     intro w47 HB49 F48 _
     refine Zdn <| Zsg <| Zr 2 [(2, .int .u64 ((acc + ((gB l (p + k)).toNat % 128) * 128 ^ k : Nat) : Int)), (95, .int .u64 ((acc + ((gB l (p + k)).toNat % 128) * 128 ^ k : Nat) : Int))] <| Zdn <| WE.ret <| WQ.blkR <| WQ.thenR <| WQ.thenR <| WQ.blkR <| WQ.thenR <| ZR (.int .u64 ((acc + ((gB l (p + k)).toNat % 128) * 128 ^ k : Nat) : Int)) ?_
     have hmod : (gB l (p + k)).toNat % 128 = (gB l (p + k)).toNat := Nat.mod_eq_of_lt (by omega)
     have hres : num (l.drop p) = some (acc + ((gB l (p + k)).toNat % 128) * 128 ^ k, k + 1) := by rw [← hnum, numA_cons (by omega), if_neg (by omega), if_pos (by omega), hmod]
     rw [rNum_some hres]
     have HA := HA.step F48 (inSL (by simp) inS0)
     exact ⟨rfl, Rd.ok HB49, HA⟩
    intro h37
    refine Zr 10 [(89, .bool false), (88, undef), (87, undef), (86, undef), (85, undef), (84, undef), (83, undef), (82, undef), (81, undef), (80, .bool false)] <| Zdn <| ZF <| Zk <| Zsg <| Zr 2 [(91, J ((p + k : Nat) : Int)), (90, Pt g 0)] <| Zw 92 (((p + k : Nat) : Int) + 1) (((p + k) + 1 : Nat) : Int) <| Zr 2 [(94, Pt g 1), (93, Pt g 0)] <| Zs g 1 [J (((p + k) + 1 : Nat) : Int)] #[.slice A n c, J (((p + k) + 1 : Nat) : Int), .bool false, J q] HB ?_
    intro w50 HB52 F51 _
    refine Zdn <| Zsg <| Zr 2 [(2, .int .u64 ((acc + ((gB l (p + k)).toNat % 128) * 128 ^ k : Nat) : Int)), (95, .int .u64 ((acc + ((gB l (p + k)).toNat % 128) * 128 ^ k : Nat) : Int))] <| Zdn <| WE.ret <| WQ.blkR <| WQ.thenR <| WQ.thenR <| WQ.blkR <| WQ.thenR <| ZR (.int .u64 ((acc + ((gB l (p + k)).toNat % 128) * 128 ^ k : Nat) : Int)) ?_
    have hmod : (gB l (p + k)).toNat % 128 = (gB l (p + k)).toNat := Nat.mod_eq_of_lt (by omega)
    have hres : num (l.drop p) = some (acc + ((gB l (p + k)).toNat % 128) * 128 ^ k, k + 1) := by rw [← hnum, numA_cons (by omega), if_neg (by omega), if_pos (by omega), hmod]
    rw [rNum_some hres]
    have HA := HA.step F51 (inSL (by simp) inS0)
    exact ⟨rfl, Rd.ok HB52, HA⟩
   intro h36
   refine Zdn <| ZF <| WE.skip <| WQ.blkN <| Zn <| WE.region <| Zr 1 [(31, J ((p + k : Nat) : Int))] <| Zw 32 (((p + k : Nat) : Int) + 1) (((p + k) + 1 : Nat) : Int) <| Zr 1 [(5, J (((p + k) + 1 : Nat) : Int))] <| Zd <| WQ.keep [0, 2, 3, 4, 5, 6, 30, 58, 73] (e' := [(0, Pt g 0), (2, .int .u64 0), (3, .int .u64 ((acc + ((gB l (p + k)).toNat % 128) * 128 ^ k : Nat) : Int)), (4, .int .u64 (IntKind.u64.wrap (((128 ^ k : Nat) : Int) * 128))), (5, J (((p + k) + 1 : Nat) : Int)), (6, .int .u64 (((gB l (p + k)).toNat % 128 : Nat) : Int)), (30, .bool true), (58, .bool false), (73, .bool false)]) (by kernel_rfl) ?_
   have hstep : (gB l (p + k)).toNat % 128 = (gB l (p + k)).toNat - 128 := by omega
   have hk8 : k ≤ 8 := by omega
   rw [numA_cons (by omega), if_neg (by omega), if_neg (by omega)] at hnum
   have hpw : IntKind.u64.wrap (((128 ^ k : Nat) : Int) * 128) = ((128 ^ (k + 1) : Nat) : Int) := by have := pow128_le (k := k + 1) (by omega); rw [Nat.pow_succ] at this ⊢; exact IntWalk.u64_in _ (by omega)
   refine WQ.env (e' := [(0, Pt g 0), (2, .int .u64 0), (3, .int .u64 ((acc + ((gB l (p + k)).toNat % 128) * 128 ^ k : Nat) : Int)), (4, .int .u64 ((128 ^ (k + 1) : Nat) : Int)), (5, J (((p + k) + 1 : Nat) : Int)), (6, .int .u64 (((gB l (p + k)).toNat % 128 : Nat) : Int)), (30, .bool true), (58, .bool false), (73, .bool false)]) (by rw [hpw]) <| WQ.round ?_
   intro a_ ha_
   refine ⟨(k + 1, acc + ((gB l (p + k)).toNat % 128) * 128 ^ k), ?_, ha_.keep [0, 2, 3, 4, 5] (by kernel_rfl), ?_⟩
   ·
    show 10 - (k + 1) < 10 - k; omega
   ·
    exact ⟨by rw [hstep]; exact hnum, acc_step hacc (Nat.mod_lt _ (by decide)), by show k + 1 ≤ 9; omega, by show p + (k + 1) ≤ n; omega, HB, HV, HA⟩
  intro h2
  refine Zr 1 [(30, .bool false)] <| Zdn <| ZF <| WE.exit <| WQ.thenE <| WQ.thenE <| WQ.blkE <| Zn <| Zsg <| Zr 3 [(98, Pt g 2), (97, Pt g 0), (96, Pt g 0)] <| Zs g 2 [.bool true] #[.slice A n c, J (p : Int), .bool true, J q] HB ?_
  intro w53 HB55 F54 _
  refine Zdn <| Zsg <| Zr 4 [(102, Pt g 1), (101, Pt g 0), (100, Pt g 0), (99, Pt g 0)] <| Zl 103 (J (p : Int)) (HB55.s 1) <| Zr 2 [(105, Pt g 3), (104, Pt g 0)] <| Zs g 3 [J (p : Int)] #[.slice A n c, J (p : Int), .bool true, J (p : Int)] HB55 ?_
  intro w56 HB58 F57 _
  refine Zdn <| Zsg <| Zr 1 [(2, .int .u64 0)] <| Zdn <| WE.ret <| ZR (.int .u64 0) ?_
  have hres : num (l.drop p) = none := by rw [← hnum]; first | (rw [numA_end (by omega)]; done) | (rw [numA_cons (by omega), if_pos (by omega)])
  rw [rNum_none hres]
  have HA := (HA.step F54 (inSL (by simp) inS0)).step F57 (inSL (by simp) inS0)
  exact ⟨rfl, Rd.no HB58, HA⟩
 intro h1
 refine Zr 9 [(30, .bool false), (29, undef), (28, undef), (27, undef), (26, undef), (25, undef), (24, undef), (23, undef), (22, .bool false)] <| Zdn <| ZF <| WE.exit <| WQ.thenE <| WQ.thenE <| WQ.blkE <| Zn <| Zsg <| Zr 3 [(98, Pt g 2), (97, Pt g 0), (96, Pt g 0)] <| Zs g 2 [.bool true] #[.slice A n c, J (p : Int), .bool true, J q] HB ?_
 intro w59 HB61 F60 _
 refine Zdn <| Zsg <| Zr 4 [(102, Pt g 1), (101, Pt g 0), (100, Pt g 0), (99, Pt g 0)] <| Zl 103 (J (p : Int)) (HB61.s 1) <| Zr 2 [(105, Pt g 3), (104, Pt g 0)] <| Zs g 3 [J (p : Int)] #[.slice A n c, J (p : Int), .bool true, J (p : Int)] HB61 ?_
 intro w62 HB64 F63 _
 refine Zdn <| Zsg <| Zr 1 [(2, .int .u64 0)] <| Zdn <| WE.ret <| ZR (.int .u64 0) ?_
 have hres : num (l.drop p) = none := by rw [← hnum]; first | (rw [numA_end (by omega)]; done) | (rw [numA_cons (by omega), if_pos (by omega)])
 rw [rNum_none hres]
 have HA := (HA.step F60 (inSL (by simp) inS0)).step F63 (inSL (by simp) inS0)
 exact ⟨rfl, Rd.no HB64, HA⟩
set_option maxRecDepth 100000 in
set_option maxHeartbeats 400000 in
theorem mnum_bad (g : Nat) (v : Value) (q s : Int) (w : World) (HB : Blk w g #[v, .int .i64 q, .bool true, .int .i64 s] 81) :
    Calls Tryz.prog 45 #[.pointer (some ⟨g, 0, none⟩)] w fun e w' => e = .returned (.int .u64 0) ∧ Blk w' g #[v, .int .i64 q, .bool true, .int .i64 s] 81 ∧ Fr [g] w w' := by
 have HA := Fr.refl [g] w
 refine Zen (N := 106) Tryz.func45 (c := _) [(0, Pt g 0)] <| Zsg <| Zr 1 [(2, .int .u64 0)] <| Zdn <| Zq <| Zsg <| Zr 3 [(9, Pt g 2), (8, Pt g 0), (7, Pt g 0)] <| Zl 10 (.bool true) (HB.s 2) <| Zdn <| ZT <| Zsg <| Zr 1 [(2, .int .u64 0)] <| Zdn <| WE.ret <| WQ.thenR <| ZR (.int .u64 0) ?_
 exact ⟨rfl, HB, HA⟩
theorem rnum_any (g : Nat) (s : St) (A : Option Addr) (n c : Nat) (l : List UInt8) (FB : List Nat) (w : World) (HV : VX cB 1 w FB A l) (hn : l.length = n) (hc : n ≤ c) (hlen : l.length ≤ 1000000000) (hg : g ∉ FB) (HR : Rd 114 w g (.slice A n c) s) (hs : s.ok l) :
    Calls Tryz.prog 62 #[.pointer (some ⟨g, 0, none⟩)] w fun e w' => e = .returned (.int .u64 ((rNum l s).1 : Int)) ∧ Rd 114 w' g (.slice A n c) (rNum l s).2 ∧ Fr [g] w w' := by
  rcases HR.split with ⟨p, q, rfl, HB⟩ | ⟨p, q, rfl, HB⟩
  · exact rnum_ok g p q A n c l FB w HV hn hc hlen hg HB (by unfold St.ok at hs; simp only at hs; omega)
  · refine (rnum_bad g _ q _ w HB).mono fun e w' h => ?_
    obtain ⟨rfl, h2, h3⟩ := h
    exact ⟨rfl, Rd.no h2, h3⟩
theorem mnum_any (g : Nat) (s : St) (A : Option Addr) (n c : Nat) (l : List UInt8) (FB : List Nat) (w : World) (HV : VX cB 1 w FB A l) (hn : l.length = n) (hc : n ≤ c) (hlen : l.length ≤ 1000000000) (hg : g ∉ FB) (HR : Rd 81 w g (.slice A n c) s) (hs : s.ok l) :
    Calls Tryz.prog 45 #[.pointer (some ⟨g, 0, none⟩)] w fun e w' => e = .returned (.int .u64 ((rNum l s).1 : Int)) ∧ Rd 81 w' g (.slice A n c) (rNum l s).2 ∧ Fr [g] w w' := by
  rcases HR.split with ⟨p, q, rfl, HB⟩ | ⟨p, q, rfl, HB⟩
  · exact mnum_ok g p q A n c l FB w HV hn hc hlen hg HB (by unfold St.ok at hs; simp only at hs; omega)
  · refine (mnum_bad g _ q _ w HB).mono fun e w' h => ?_
    obtain ⟨rfl, h2, h3⟩ := h
    exact ⟨rfl, Rd.no h2, h3⟩
end Go.Proofs.YtdhonbahpcmmnaaGreatDoor.Wire
