/- Layer 6's walks: how numbers, whole numbers and texts are read. -/
import Derived.Test.YtjfgmdkdcnfdoaaGreatDoorWireW
set_option linter.unusedVariables false
set_option linter.unusedSimpArgs false
namespace Go.Proofs.YtjfgmdkdcnfdoaaGreatDoor.Wire
open Go Go.RowKit Go.Proofs.YtjfgmdkdcnfdoaaGreatDoor Go.Proofs.YtjfgmdkdcnfdoaaGreatDoor.Eng Go.Proofs.YtjfgmdkdcnfdoaaGreatDoorW.PrintWords
def Rd (T : TypeId) (w : World) (g : Nat) (v : Value) (s : St) : Prop := ∃ a p : Int, Blk w g #[v, .int .i64 a, .bool s.bad, .int .i64 p] T ∧ (s.bad = false → a = (s.p : Int)) ∧ (s.bad = true → p = (s.p : Int))
theorem Rd.keep {T : TypeId} {w w1 : World} {S : List Nat} {g : Nat} {v : Value} {s : St} (h : Rd T w g v s) (k : Fr S w w1) (hn : g ∉ S) : Rd T w1 g v s := by
 obtain ⟨a, p, h1, h2⟩ := h
 exact ⟨a, p, h1.keep k hn, h2⟩
theorem Rd.lt {T : TypeId} {w : World} {g : Nat} {v : Value} {s : St} (h : Rd T w g v s) : g < w.heap.size := by
 obtain ⟨a, p, h1, h2⟩ := h
 exact h1.lt
theorem Rd.ok {T : TypeId} {w : World} {g p : Nat} {v : Value} {q : Int} (h : Blk w g #[v, .int .i64 (p : Int), .bool false, .int .i64 q] T) : Rd T w g v ⟨p, false⟩ := ⟨_, _, h, fun _ => rfl, fun h => by cases h⟩
theorem Rd.no {T : TypeId} {w : World} {g p : Nat} {v : Value} {q : Int} (h : Blk w g #[v, .int .i64 q, .bool true, .int .i64 (p : Int)] T) : Rd T w g v ⟨p, true⟩ := ⟨_, _, h, (fun h => by cases h), fun _ => rfl⟩
theorem Rd.split {T : TypeId} {w : World} {g : Nat} {v : Value} {s : St} (h : Rd T w g v s) : (∃ p q, s = ⟨p, false⟩ ∧ Blk w g #[v, .int .i64 (p : Int), .bool false, .int .i64 q] T) ∨ ∃ p q, s = ⟨p, true⟩ ∧ Blk w g #[v, .int .i64 q, .bool true, .int .i64 (p : Int)] T := by
 obtain ⟨a, p, h1, h2, h3⟩ := h
 obtain ⟨sp, sb⟩ := s
 cases sb
 ·
  have := h2 rfl
  subst this
  exact .inl ⟨_, _, rfl, h1⟩
 ·
  have := h3 rfl
  subst this
  exact .inr ⟨_, _, rfl, h1⟩
theorem numA_cons {l : List UInt8} {k acc i : Nat} (h : i < l.length) : numA k acc (l.drop i) = if 9 < k ∨ (k = 9 ∧ 1 < (gB l i).toNat) ∨ ((gB l i).toNat = 0 ∧ 0 < k) then none
  else if (gB l i).toNat < 128 then some (acc + (gB l i).toNat * 128 ^ k, k + 1)
  else numA (k + 1) (acc + ((gB l i).toNat - 128) * 128 ^ k) (l.drop (i + 1)) := by rw [drop_gB l i h, numA]
theorem numA_end {l : List UInt8} {k acc i : Nat} (h : l.length ≤ i) : numA k acc (l.drop i) = none := by rw [List.drop_eq_nil_of_le h]; rfl
theorem rNum_bad (l : List UInt8) (p : Nat) : rNum l ⟨p, true⟩ = (0, ⟨p, true⟩) := rfl
theorem rNum_some {l : List UInt8} {p n c : Nat} (h : num (l.drop p) = some (n, c)) : rNum l ⟨p, false⟩ = (n, ⟨p + c, false⟩) := by
 unfold rNum
 simp only [Bool.false_eq_true, if_false, h]
theorem rNum_none {l : List UInt8} {p : Nat} (h : num (l.drop p) = none) : rNum l ⟨p, false⟩ = (0, ⟨p, true⟩) := by
 unfold rNum
 simp only [Bool.false_eq_true, if_false, h]
theorem acc_step {acc x k : Nat} (h : acc < 128 ^ k) (hx : x < 128) : acc + x * 128 ^ k < 128 ^ (k + 1) := by
 rw [Nat.pow_succ]
 have := Nat.mul_le_mul_right (128 ^ k) (show x ≤ 127 by omega)
 omega
set_option maxRecDepth 100000 in
set_option maxHeartbeats 400000 in
theorem fail_false (g : Nat) (v : Value) (a p t : Int) (w : World) (HB : Blk w g #[v, .int .i64 a, .bool false, .int .i64 p] 421) :
  Calls Tryz.prog 282 #[.pointer (some ⟨g, 0, none⟩), .int .i64 t] w fun e w' => e = .returned (.tuple #[]) ∧ Blk w' g #[v, .int .i64 a, .bool true, .int .i64 t] 421 ∧ Fr [g] w w' := by
 have HA := Fr.refl [g] w
 refine enter (N := 16) Tryz.func282 (c := _) rfl (by kernel_rfl) (by kernel_rfl) (e := [(0, .pointer (some ⟨g, 0, none⟩)), (1, .int .i64 t)]) (by kernel_rfl) ?_
 refine WE.seq ?_
 refine WE.region ?_
 refine WO.run 3 0 [(6, .pointer (some ⟨g, 2, none⟩)), (5, .pointer (some ⟨g, 0, none⟩)), (4, .pointer (some ⟨g, 0, none⟩))] (by kernel_rfl) (by kernel_rfl) ?_
 refine WO.ld (SQ.S 3 (by kernel_rfl)) 7 (.bool false) (by kernel_rfl) (same (HB.at 2 (by kernel_rfl))) ?_
 refine WO.run 1 4 [(8, .bool true)] (by kernel_rfl) (by kernel_rfl) ?_
 refine WO.done (by kernel_rfl) ?_
 refine WQ.keep [0, 1, 8] (e' := [(0, .pointer (some ⟨g, 0, none⟩)), (1, .int .i64 t), (8, .bool true)]) (by kernel_rfl) ?_
 refine WQ.thenN ?_
 refine WE.condT (by kernel_rfl) ?_
 refine WE.region ?_
 refine WO.run 5 0 [(13, .pointer (some ⟨g, 2, none⟩)), (12, .pointer (some ⟨g, 0, none⟩)), (11, .int .i64 t), (10, .pointer (some ⟨g, 0, none⟩)), (9, .pointer (some ⟨g, 0, none⟩))] (by kernel_rfl) (by kernel_rfl) ?_
 refine WO.st (SQ.E 5 (by kernel_rfl)) g 2 [.bool true] #[v, .int .i64 a, .bool true, .int .i64 p] (by kernel_rfl) HB (by kernel_rfl) (by kernel_rfl) (fun _ _ => trivial) ?_
 intro w1 HB3 F2 _
 have HA := Fr.step HA F2 (inSL (by simp) inS0)
 refine WO.run 2 6 [(15, .pointer (some ⟨g, 3, none⟩)), (14, .pointer (some ⟨g, 0, none⟩))] (by kernel_rfl) (by kernel_rfl) ?_
 refine WO.st (SQ.E 8 (by kernel_rfl)) g 3 [.int .i64 t] #[v, .int .i64 a, .bool true, .int .i64 t] (by kernel_rfl) HB3 (by kernel_rfl) (by kernel_rfl) (fun _ _ => trivial) ?_
 intro w4 HB6 F5 _
 have HA := Fr.step HA F5 (inSL (by simp) inS0)
 refine WO.done (by kernel_rfl) ?_
 refine WQ.keep [0, 1, 8] (e' := [(0, .pointer (some ⟨g, 0, none⟩)), (1, .int .i64 t), (8, .bool true)]) (by kernel_rfl) ?_
 refine WQ.fall (v := .tuple #[]) (by kernel_rfl) ?_
 exact ⟨rfl, HB6, HA⟩
set_option maxRecDepth 100000 in
set_option maxHeartbeats 400000 in
theorem fail_true (g : Nat) (v : Value) (a p t : Int) (w : World) (HB : Blk w g #[v, .int .i64 a, .bool true, .int .i64 p] 421) :
  Calls Tryz.prog 282 #[.pointer (some ⟨g, 0, none⟩), .int .i64 t] w fun e w' => e = .returned (.tuple #[]) ∧ Blk w' g #[v, .int .i64 a, .bool true, .int .i64 p] 421 ∧ Fr [g] w w' := by
 have HA := Fr.refl [g] w
 refine enter (N := 16) Tryz.func282 (c := _) rfl (by kernel_rfl) (by kernel_rfl) (e := [(0, .pointer (some ⟨g, 0, none⟩)), (1, .int .i64 t)]) (by kernel_rfl) ?_
 refine WE.seq ?_
 refine WE.region ?_
 refine WO.run 3 0 [(6, .pointer (some ⟨g, 2, none⟩)), (5, .pointer (some ⟨g, 0, none⟩)), (4, .pointer (some ⟨g, 0, none⟩))] (by kernel_rfl) (by kernel_rfl) ?_
 refine WO.ld (SQ.S 3 (by kernel_rfl)) 7 (.bool true) (by kernel_rfl) (same (HB.at 2 (by kernel_rfl))) ?_
 refine WO.run 1 4 [(8, .bool false)] (by kernel_rfl) (by kernel_rfl) ?_
 refine WO.done (by kernel_rfl) ?_
 refine WQ.keep [0, 1, 8] (e' := [(0, .pointer (some ⟨g, 0, none⟩)), (1, .int .i64 t), (8, .bool false)]) (by kernel_rfl) ?_
 refine WQ.thenN ?_
 refine WE.condF (by kernel_rfl) ?_
 refine WE.skip ?_
 refine WQ.fall (v := .tuple #[]) (by kernel_rfl) ?_
 exact ⟨rfl, HB, HA⟩
set_option maxRecDepth 100000 in
set_option maxHeartbeats 400000 in
theorem rnum_ok (g p : Nat) (q : Int) (A : Option Addr) (n c : Nat) (l : List UInt8) (FB : List Nat) (w : World) (HV : VX cB 1 w FB A l) (hn : l.length = n) (hc : n ≤ c) (hlen : l.length ≤ 1000000000) (hg : g ∉ FB) (HB : Blk w g #[.slice A n c, .int .i64 (p : Int), .bool false, .int .i64 q] 421) (hp : p ≤ n) :
  Calls Tryz.prog 280 #[.pointer (some ⟨g, 0, none⟩)] w fun e w' => e = .returned (.int .u64 ((rNum l ⟨p, false⟩).1 : Int)) ∧ Rd 421 w' g (.slice A n c) (rNum l ⟨p, false⟩).2 ∧ Fr [g] w w' := by
 have HA := Fr.refl [g] w
 refine enter (N := 75) Tryz.func280 (c := _) rfl (by kernel_rfl) (by kernel_rfl) (e := [(0, .pointer (some ⟨g, 0, none⟩))]) (by kernel_rfl) ?_
 refine WE.seq ?_
 refine WE.region ?_
 refine WO.run 1 0 [(2, .int .u64 0)] (by kernel_rfl) (by kernel_rfl) ?_
 refine WO.done (by kernel_rfl) ?_
 refine WQ.keep [0, 2] (e' := [(0, .pointer (some ⟨g, 0, none⟩)), (2, .int .u64 0)]) (by kernel_rfl) ?_
 refine WQ.thenN ?_
 refine WE.seq ?_
 refine WE.seq ?_
 refine WE.region ?_
 refine WO.run 3 0 [(9, .pointer (some ⟨g, 2, none⟩)), (8, .pointer (some ⟨g, 0, none⟩)), (7, .pointer (some ⟨g, 0, none⟩))] (by kernel_rfl) (by kernel_rfl) ?_
 refine WO.ld (SQ.S 3 (by kernel_rfl)) 10 (.bool false) (by kernel_rfl) (same (HB.at 2 (by kernel_rfl))) ?_
 refine WO.done (by kernel_rfl) ?_
 refine WQ.keep [0, 2, 10] (e' := [(0, .pointer (some ⟨g, 0, none⟩)), (2, .int .u64 0), (10, .bool false)]) (by kernel_rfl) ?_
 refine WQ.thenN ?_
 refine WE.condF (by kernel_rfl) ?_
 refine WE.skip ?_
 refine WQ.thenN ?_
 refine WE.seq ?_
 refine WE.region ?_
 refine WO.run 3 0 [(13, .pointer (some ⟨g, 1, none⟩)), (12, .pointer (some ⟨g, 0, none⟩)), (11, .pointer (some ⟨g, 0, none⟩))] (by kernel_rfl) (by kernel_rfl) ?_
 refine WO.ld (SQ.S 3 (by kernel_rfl)) 14 (.int .i64 (p : Int)) (by kernel_rfl) (same (HB.at 1 (by kernel_rfl))) ?_
 refine WO.run 1 4 [(3, .int .i64 (p : Int))] (by kernel_rfl) (by kernel_rfl) ?_
 refine WO.done (by kernel_rfl) ?_
 refine WQ.keep [0, 2, 3, 10] (e' := [(0, .pointer (some ⟨g, 0, none⟩)), (2, .int .u64 0), (3, .int .i64 (p : Int)), (10, .bool false)]) (by kernel_rfl) ?_
 refine WQ.thenN ?_
 refine WE.seq ?_
 refine WE.region ?_
 refine WO.run 1 0 [(4, .int .u64 0)] (by kernel_rfl) (by kernel_rfl) ?_
 refine WO.done (by kernel_rfl) ?_
 refine WQ.keep [0, 2, 3, 4, 10] (e' := [(0, .pointer (some ⟨g, 0, none⟩)), (2, .int .u64 0), (3, .int .i64 (p : Int)), (4, .int .u64 0), (10, .bool false)]) (by kernel_rfl) ?_
 refine WQ.thenN ?_
 refine WE.seq ?_
 refine WE.seq ?_
 refine WE.region ?_
 refine WO.run 1 0 [(5, .int .i64 0)] (by kernel_rfl) (by kernel_rfl) ?_
 refine WO.done (by kernel_rfl) ?_
 refine WQ.keep [0, 2, 3, 4, 5, 10] (e' := [(0, .pointer (some ⟨g, 0, none⟩)), (2, .int .u64 0), (3, .int .i64 (p : Int)), (4, .int .u64 0), (5, .int .i64 0), (10, .bool false)]) (by kernel_rfl) ?_
 refine WQ.thenN ?_
 refine WE.block ?_
 refine WE.loop (α := Nat × Nat) (E := fun ⟨k, acc⟩ => [(0, .pointer (some ⟨g, 0, none⟩)), (2, .int .u64 0), (3, .int .i64 (p : Int)), (4, .int .u64 (acc : Int)), (5, .int .i64 ((7 * k : Nat) : Int))]) (I := fun ⟨k, acc⟩ wr => numA k acc (l.drop (p + k)) = num (l.drop p) ∧ acc < 128 ^ k ∧ k ≤ 9 ∧ p + k ≤ n ∧ Blk wr g #[.slice A n c, .int .i64 ((p + k : Nat) : Int), .bool false, .int .i64 q] 421 ∧ VX cB 1 wr FB A l ∧ Fr [g] w wr) (m := fun ⟨k, acc⟩ => 10 - k) (0, 0) [0, 2, 3, 4, 5] (by kernel_rfl) ?_ ?_
 ·
  exact ⟨rfl, Nat.lt_succ_self 0, by decide, hp, HB, HV, HA⟩
 rintro ⟨k, acc⟩ wr ⟨hnum, hacc, hk9, hpk, HB, HV, HA⟩
 dsimp only at hnum hacc hk9 hpk HB ⊢
 refine WE.seq ?_
 refine WE.seq ?_
 refine WE.draw [.free, .free, .free, .still, .free, .free, .free, .still, .free, .free] Same sameR (by kernel_rfl) 10 (Array.replicate 10 false) (by kernel_rfl) rfl ?_
 intro w1 F2 _
 have HB := Blk.keep HB F2 (nin0 _)
 have HV := HV.keep F2 (fun _ _ => nin0 _)
 have HA := Fr.step0 HA F2
 refine WO.one (SA.F sameR sameT _ 0 _ (by kernel_rfl)) 15 (.pointer (some ⟨g, 0, none⟩)) (by kernel_rfl) ?_
 refine WO.one (SA.F sameR sameT _ 1 _ (by kernel_rfl)) 16 (.pointer (some ⟨g, 0, none⟩)) (by kernel_rfl) ?_
 refine WO.one (SA.F sameR sameT _ 2 _ (by kernel_rfl)) 17 (.pointer (some ⟨g, 1, none⟩)) (by kernel_rfl) ?_
 refine WO.ld (SA.S sameR sameT _ 3 _ (by kernel_rfl)) 18 (.int .i64 ((p + k : Nat) : Int)) (by kernel_rfl) (same (HB.at 1 (by kernel_rfl))) ?_
 refine WO.one (SA.F sameR sameT _ 4 _ (by kernel_rfl)) 19 (.pointer (some ⟨g, 0, none⟩)) (by kernel_rfl) ?_
 refine WO.one (SA.F sameR sameT _ 5 _ (by kernel_rfl)) 20 (.pointer (some ⟨g, 0, none⟩)) (by kernel_rfl) ?_
 refine WO.one (SA.F sameR sameT _ 6 _ (by kernel_rfl)) 21 (.pointer (some ⟨g, 0, none⟩)) (by kernel_rfl) ?_
 refine WO.ld (SA.S sameR sameT _ 7 _ (by kernel_rfl)) 22 (.slice A n c) (by kernel_rfl) (same (HB.at 0 (by kernel_rfl))) ?_
 refine WO.one (SA.F sameR sameT _ 8 _ (by kernel_rfl)) 23 (.int .i64 (n : Int)) (by kernel_rfl) ?_
 refine WO.one (SA.F sameR sameT _ 9 _ (by kernel_rfl)) 24 (.bool (decide (((p + k : Int) : Int) < (n : Int)))) (by kernel_rfl) ?_
 refine WO.topP (((p + k : Int) : Int) < (n : Int)) ?_ ?_
 ·
  intro h3
  refine WO.doneA (by kernel_rfl) ?_
  refine WQ.keep [0, 2, 3, 4, 5, 24] (e' := [(0, .pointer (some ⟨g, 0, none⟩)), (2, .int .u64 0), (3, .int .i64 (p : Int)), (4, .int .u64 (acc : Int)), (5, .int .i64 ((7 * k : Nat) : Int)), (24, .bool true)]) (by kernel_rfl) ?_
  refine WQ.thenN ?_
  refine WE.condT (by kernel_rfl) ?_
  refine WE.skip ?_
  refine WQ.thenN ?_
  refine WE.seq ?_
  refine WE.block ?_
  refine WE.seq ?_
  refine WE.draw [.free, .free, .free, .still, .free, .free, .free, .still, .free, .still, .free] Same sameR (by kernel_rfl) 11 (Array.replicate 11 false) (by kernel_rfl) rfl ?_
  intro w4 F5 _
  have HB := Blk.keep HB F5 (nin0 _)
  have HV := HV.keep F5 (fun _ _ => nin0 _)
  have HA := Fr.step0 HA F5
  refine WO.one (SA.F sameR sameT _ 0 _ (by kernel_rfl)) 27 (.pointer (some ⟨g, 0, none⟩)) (by kernel_rfl) ?_
  refine WO.one (SA.F sameR sameT _ 1 _ (by kernel_rfl)) 28 (.pointer (some ⟨g, 0, none⟩)) (by kernel_rfl) ?_
  refine WO.one (SA.F sameR sameT _ 2 _ (by kernel_rfl)) 29 (.pointer (some ⟨g, 0, none⟩)) (by kernel_rfl) ?_
  refine WO.ld (SA.S sameR sameT _ 3 _ (by kernel_rfl)) 30 (.slice A n c) (by kernel_rfl) (same (HB.at 0 (by kernel_rfl))) ?_
  refine WO.one (SA.F sameR sameT _ 4 _ (by kernel_rfl)) 31 (.pointer (some ⟨g, 0, none⟩)) (by kernel_rfl) ?_
  refine WO.one (SA.F sameR sameT _ 5 _ (by kernel_rfl)) 32 (.pointer (some ⟨g, 0, none⟩)) (by kernel_rfl) ?_
  refine WO.one (SA.F sameR sameT _ 6 _ (by kernel_rfl)) 33 (.pointer (some ⟨g, 1, none⟩)) (by kernel_rfl) ?_
  refine WO.ld (SA.S sameR sameT _ 7 _ (by kernel_rfl)) 34 (.int .i64 ((p + k : Nat) : Int)) (by kernel_rfl) (same (HB.at 1 (by kernel_rfl))) ?_
  obtain ⟨ad6, hA7⟩ := HV.addr (i := p + k) (by have := hn; omega)
  refine WO.ixo (SA.F sameR sameT _ 8 _ (by kernel_rfl)) 35 n 1 (p + k) ((p + k : Nat) : Int) hA7 (by kernel_rfl) rfl (by omega) ?_
  refine WO.ld (SA.S sameR sameT _ 9 _ (by kernel_rfl)) 36 (.int .u8 ((gB l (p + k)).toNat : Int)) (by kernel_rfl) (same (HV.at0 hA7 (gB_some l (p + k) (by have := hn; omega)) (by kernel_rfl))) ?_
  refine WO.one (SA.F sameR sameT _ 10 _ (by kernel_rfl)) 6 (.int .u8 ((gB l (p + k)).toNat : Int)) (by kernel_rfl) ?_
  refine WO.doneA (by kernel_rfl) ?_
  refine WQ.keep [0, 2, 3, 4, 5, 6, 24] (e' := [(0, .pointer (some ⟨g, 0, none⟩)), (2, .int .u64 0), (3, .int .i64 (p : Int)), (4, .int .u64 (acc : Int)), (5, .int .i64 ((7 * k : Nat) : Int)), (6, .int .u8 ((gB l (p + k)).toNat : Int)), (24, .bool true)]) (by kernel_rfl) ?_
  refine WQ.thenN ?_
  refine WE.seq ?_
  refine WE.region ?_
  refine WO.run 3 0 [(39, .pointer (some ⟨g, 1, none⟩)), (38, .pointer (some ⟨g, 0, none⟩)), (37, .pointer (some ⟨g, 0, none⟩))] (by kernel_rfl) (by kernel_rfl) ?_
  refine WO.ld (SQ.S 3 (by kernel_rfl)) 40 (.int .i64 ((p + k : Nat) : Int)) (by kernel_rfl) (same (HB.at 1 (by kernel_rfl))) ?_
  refine WO.one (SQ.F 4 (by kernel_rfl)) 41 (.int .i64 (IntKind.i64.wrap (((p + k : Nat) : Int) + 1))) (by kernel_rfl) ?_
  refine WO.top (v' := .int .i64 (((p + k) + 1 : Nat) : Int)) (wrap_i64 (by omega) (by omega)) ?_
  refine WO.run 2 5 [(43, .pointer (some ⟨g, 1, none⟩)), (42, .pointer (some ⟨g, 0, none⟩))] (by kernel_rfl) (by kernel_rfl) ?_
  refine WO.st (SQ.E 7 (by kernel_rfl)) g 1 [.int .i64 (((p + k) + 1 : Nat) : Int)] #[.slice A n c, .int .i64 (((p + k) + 1 : Nat) : Int), .bool false, .int .i64 q] (by kernel_rfl) HB (by kernel_rfl) (by kernel_rfl) (fun _ _ => trivial) ?_
  intro w8 HB10 F9 _
  have HV := HV.keep F9 (djB hg)
  have HA := Fr.step HA F9 (inSL (by simp) inS0)
  refine WO.done (by kernel_rfl) ?_
  refine WQ.keep [0, 2, 3, 4, 5, 6, 24] (e' := [(0, .pointer (some ⟨g, 0, none⟩)), (2, .int .u64 0), (3, .int .i64 (p : Int)), (4, .int .u64 (acc : Int)), (5, .int .i64 ((7 * k : Nat) : Int)), (6, .int .u8 ((gB l (p + k)).toNat : Int)), (24, .bool true)]) (by kernel_rfl) ?_
  refine WQ.thenN ?_
  refine WE.seq ?_
  refine WE.seq ?_
  refine WE.region ?_
  refine WO.run 1 0 [(44, .int .i64 ((7 * k : Nat) : Int))] (by kernel_rfl) (by kernel_rfl) ?_
  refine WO.one (SQ.F 1 (by kernel_rfl)) 45 (.bool (decide (((7 * k : Int) : Int) > (63 : Int)))) (by kernel_rfl) ?_
  refine WO.topP (((7 * k : Int) : Int) > (63 : Int)) ?_ ?_
  ·
   intro h11
   refine WO.run 16 2 [(61, .bool true), (60, undef), (59, undef), (58, undef), (57, undef), (56, undef), (55, undef), (54, .bool true), (53, .bool true), (52, undef), (51, undef), (50, undef), (49, undef), (48, undef), (47, undef), (46, .bool true)] (by kernel_rfl) (by kernel_rfl) ?_
   refine WO.done (by kernel_rfl) ?_
   refine WQ.keep [0, 2, 3, 4, 5, 6, 24, 61] (e' := [(0, .pointer (some ⟨g, 0, none⟩)), (2, .int .u64 0), (3, .int .i64 (p : Int)), (4, .int .u64 (acc : Int)), (5, .int .i64 ((7 * k : Nat) : Int)), (6, .int .u8 ((gB l (p + k)).toNat : Int)), (24, .bool true), (61, .bool true)]) (by kernel_rfl) ?_
   refine WQ.thenN ?_
   refine WE.condT (by kernel_rfl) ?_
   refine WE.exit ?_
   refine WQ.thenE ?_
   refine WQ.blkX (by kernel_rfl) ?_
   refine WQ.thenE ?_
   refine WQ.thenE ?_
   refine WQ.blkE ?_
   refine WQ.thenN ?_
   refine WE.seq ?_
   refine WE.region ?_
   refine WO.run 2 0 [(73, .int .i64 (p : Int)), (72, .pointer (some ⟨g, 0, none⟩))] (by kernel_rfl) (by kernel_rfl) ?_
   refine WO.call (SQ.E 2 (by kernel_rfl)) 74 (by kernel_rfl) (fail_false g (.slice A n c : Value) (((p + k) + 1 : Nat) : Int) q (p : Int) _ HB10) ?_
   rintro _ w13 ⟨rfl, HB12, F14⟩
   refine ⟨_, rfl, trivial, ?_⟩
   have HV := HV.keep F14 (djB hg)
   have HA := Fr.step HA F14 (inSL (by simp) inS0)
   refine WO.done (by kernel_rfl) ?_
   refine WQ.keep [0, 2, 3, 4, 5, 6, 24, 61] (e' := [(0, .pointer (some ⟨g, 0, none⟩)), (2, .int .u64 0), (3, .int .i64 (p : Int)), (4, .int .u64 (acc : Int)), (5, .int .i64 ((7 * k : Nat) : Int)), (6, .int .u8 ((gB l (p + k)).toNat : Int)), (24, .bool true), (61, .bool true)]) (by kernel_rfl) ?_
   refine WQ.thenN ?_
   refine WE.seq ?_
   refine WE.region ?_
   refine WO.run 1 0 [(2, .int .u64 0)] (by kernel_rfl) (by kernel_rfl) ?_
   refine WO.done (by kernel_rfl) ?_
   refine WQ.keep [0, 2, 3, 4, 5, 6, 24, 61] (e' := [(0, .pointer (some ⟨g, 0, none⟩)), (2, .int .u64 0), (3, .int .i64 (p : Int)), (4, .int .u64 (acc : Int)), (5, .int .i64 ((7 * k : Nat) : Int)), (6, .int .u8 ((gB l (p + k)).toNat : Int)), (24, .bool true), (61, .bool true)]) (by kernel_rfl) ?_
   refine WQ.thenN ?_
   refine WE.ret ?_
   refine WQ.ret (v := .int .u64 0) (by kernel_rfl) ?_
   have hres : num (l.drop p) = none := by rw [← hnum]; first | (rw [numA_end (by omega)]; done) | (rw [numA_cons (by omega), if_pos (by omega)])
   rw [rNum_none hres]
   exact ⟨rfl, Rd.no HB12, HA⟩
  intro h11
  refine WO.run 2 2 [(47, .int .i64 ((7 * k : Nat) : Int)), (46, .bool false)] (by kernel_rfl) (by kernel_rfl) ?_
  refine WO.one (SQ.F 4 (by kernel_rfl)) 48 (.bool (decide (((7 * k : Int) : Int) = (63 : Int)))) (by kernel_rfl) ?_
  refine WO.topP (((7 * k : Int) : Int) = (63 : Int)) ?_ ?_
  ·
   intro h15
   refine WO.run 2 5 [(50, .int .u8 ((gB l (p + k)).toNat : Int)), (49, .bool true)] (by kernel_rfl) (by kernel_rfl) ?_
   refine WO.one (SQ.F 7 (by kernel_rfl)) 51 (.bool (decide ((((gB l (p + k)).toNat : Int) : Int) > (1 : Int)))) (by kernel_rfl) ?_
   refine WO.topP ((((gB l (p + k)).toNat : Int) : Int) > (1 : Int)) ?_ ?_
   ·
    intro h16
    refine WO.run 10 8 [(61, .bool true), (60, undef), (59, undef), (58, undef), (57, undef), (56, undef), (55, undef), (54, .bool true), (53, .bool true), (52, .bool true)] (by kernel_rfl) (by kernel_rfl) ?_
    refine WO.done (by kernel_rfl) ?_
    refine WQ.keep [0, 2, 3, 4, 5, 6, 24, 61] (e' := [(0, .pointer (some ⟨g, 0, none⟩)), (2, .int .u64 0), (3, .int .i64 (p : Int)), (4, .int .u64 (acc : Int)), (5, .int .i64 ((7 * k : Nat) : Int)), (6, .int .u8 ((gB l (p + k)).toNat : Int)), (24, .bool true), (61, .bool true)]) (by kernel_rfl) ?_
    refine WQ.thenN ?_
    refine WE.condT (by kernel_rfl) ?_
    refine WE.exit ?_
    refine WQ.thenE ?_
    refine WQ.blkX (by kernel_rfl) ?_
    refine WQ.thenE ?_
    refine WQ.thenE ?_
    refine WQ.blkE ?_
    refine WQ.thenN ?_
    refine WE.seq ?_
    refine WE.region ?_
    refine WO.run 2 0 [(73, .int .i64 (p : Int)), (72, .pointer (some ⟨g, 0, none⟩))] (by kernel_rfl) (by kernel_rfl) ?_
    refine WO.call (SQ.E 2 (by kernel_rfl)) 74 (by kernel_rfl) (fail_false g (.slice A n c : Value) (((p + k) + 1 : Nat) : Int) q (p : Int) _ HB10) ?_
    rintro _ w18 ⟨rfl, HB17, F19⟩
    refine ⟨_, rfl, trivial, ?_⟩
    have HV := HV.keep F19 (djB hg)
    have HA := Fr.step HA F19 (inSL (by simp) inS0)
    refine WO.done (by kernel_rfl) ?_
    refine WQ.keep [0, 2, 3, 4, 5, 6, 24, 61] (e' := [(0, .pointer (some ⟨g, 0, none⟩)), (2, .int .u64 0), (3, .int .i64 (p : Int)), (4, .int .u64 (acc : Int)), (5, .int .i64 ((7 * k : Nat) : Int)), (6, .int .u8 ((gB l (p + k)).toNat : Int)), (24, .bool true), (61, .bool true)]) (by kernel_rfl) ?_
    refine WQ.thenN ?_
    refine WE.seq ?_
    refine WE.region ?_
    refine WO.run 1 0 [(2, .int .u64 0)] (by kernel_rfl) (by kernel_rfl) ?_
    refine WO.done (by kernel_rfl) ?_
    refine WQ.keep [0, 2, 3, 4, 5, 6, 24, 61] (e' := [(0, .pointer (some ⟨g, 0, none⟩)), (2, .int .u64 0), (3, .int .i64 (p : Int)), (4, .int .u64 (acc : Int)), (5, .int .i64 ((7 * k : Nat) : Int)), (6, .int .u8 ((gB l (p + k)).toNat : Int)), (24, .bool true), (61, .bool true)]) (by kernel_rfl) ?_
    refine WQ.thenN ?_
    refine WE.ret ?_
    refine WQ.ret (v := .int .u64 0) (by kernel_rfl) ?_
    have hres : num (l.drop p) = none := by rw [← hnum]; first | (rw [numA_end (by omega)]; done) | (rw [numA_cons (by omega), if_pos (by omega)])
    rw [rNum_none hres]
    exact ⟨rfl, Rd.no HB17, HA⟩
   intro h16
   refine WO.run 4 8 [(55, .int .u8 ((gB l (p + k)).toNat : Int)), (54, .bool false), (53, .bool false), (52, .bool false)] (by kernel_rfl) (by kernel_rfl) ?_
   refine WO.one (SQ.F 12 (by kernel_rfl)) 56 (.bool (decide ((((gB l (p + k)).toNat : Int) : Int) = (0 : Int)))) (by kernel_rfl) ?_
   refine WO.topP ((((gB l (p + k)).toNat : Int) : Int) = (0 : Int)) ?_ ?_
   ·
    intro h20
    refine WO.run 2 13 [(58, .int .i64 ((7 * k : Nat) : Int)), (57, .bool true)] (by kernel_rfl) (by kernel_rfl) ?_
    refine WO.one (SQ.F 15 (by kernel_rfl)) 59 (.bool (decide (((7 * k : Int) : Int) > (0 : Int)))) (by kernel_rfl) ?_
    refine WO.topP (((7 * k : Int) : Int) > (0 : Int)) ?_ ?_
    ·
     intro h21
     refine WO.run 2 16 [(61, .bool true), (60, .bool true)] (by kernel_rfl) (by kernel_rfl) ?_
     refine WO.done (by kernel_rfl) ?_
     refine WQ.keep [0, 2, 3, 4, 5, 6, 24, 61] (e' := [(0, .pointer (some ⟨g, 0, none⟩)), (2, .int .u64 0), (3, .int .i64 (p : Int)), (4, .int .u64 (acc : Int)), (5, .int .i64 ((7 * k : Nat) : Int)), (6, .int .u8 ((gB l (p + k)).toNat : Int)), (24, .bool true), (61, .bool true)]) (by kernel_rfl) ?_
     refine WQ.thenN ?_
     refine WE.condT (by kernel_rfl) ?_
     refine WE.exit ?_
     refine WQ.thenE ?_
     refine WQ.blkX (by kernel_rfl) ?_
     refine WQ.thenE ?_
     refine WQ.thenE ?_
     refine WQ.blkE ?_
     refine WQ.thenN ?_
     refine WE.seq ?_
     refine WE.region ?_
     refine WO.run 2 0 [(73, .int .i64 (p : Int)), (72, .pointer (some ⟨g, 0, none⟩))] (by kernel_rfl) (by kernel_rfl) ?_
     refine WO.call (SQ.E 2 (by kernel_rfl)) 74 (by kernel_rfl) (fail_false g (.slice A n c : Value) (((p + k) + 1 : Nat) : Int) q (p : Int) _ HB10) ?_
     rintro _ w23 ⟨rfl, HB22, F24⟩
     refine ⟨_, rfl, trivial, ?_⟩
     have HV := HV.keep F24 (djB hg)
     have HA := Fr.step HA F24 (inSL (by simp) inS0)
     refine WO.done (by kernel_rfl) ?_
     refine WQ.keep [0, 2, 3, 4, 5, 6, 24, 61] (e' := [(0, .pointer (some ⟨g, 0, none⟩)), (2, .int .u64 0), (3, .int .i64 (p : Int)), (4, .int .u64 (acc : Int)), (5, .int .i64 ((7 * k : Nat) : Int)), (6, .int .u8 ((gB l (p + k)).toNat : Int)), (24, .bool true), (61, .bool true)]) (by kernel_rfl) ?_
     refine WQ.thenN ?_
     refine WE.seq ?_
     refine WE.region ?_
     refine WO.run 1 0 [(2, .int .u64 0)] (by kernel_rfl) (by kernel_rfl) ?_
     refine WO.done (by kernel_rfl) ?_
     refine WQ.keep [0, 2, 3, 4, 5, 6, 24, 61] (e' := [(0, .pointer (some ⟨g, 0, none⟩)), (2, .int .u64 0), (3, .int .i64 (p : Int)), (4, .int .u64 (acc : Int)), (5, .int .i64 ((7 * k : Nat) : Int)), (6, .int .u8 ((gB l (p + k)).toNat : Int)), (24, .bool true), (61, .bool true)]) (by kernel_rfl) ?_
     refine WQ.thenN ?_
     refine WE.ret ?_
     refine WQ.ret (v := .int .u64 0) (by kernel_rfl) ?_
     have hres : num (l.drop p) = none := by rw [← hnum]; first | (rw [numA_end (by omega)]; done) | (rw [numA_cons (by omega), if_pos (by omega)])
     rw [rNum_none hres]
     exact ⟨rfl, Rd.no HB22, HA⟩
    intro h21
    refine WO.run 2 16 [(61, .bool false), (60, .bool false)] (by kernel_rfl) (by kernel_rfl) ?_
    refine WO.done (by kernel_rfl) ?_
    refine WQ.keep [0, 2, 3, 4, 5, 6, 24, 61] (e' := [(0, .pointer (some ⟨g, 0, none⟩)), (2, .int .u64 0), (3, .int .i64 (p : Int)), (4, .int .u64 (acc : Int)), (5, .int .i64 ((7 * k : Nat) : Int)), (6, .int .u8 ((gB l (p + k)).toNat : Int)), (24, .bool true), (61, .bool false)]) (by kernel_rfl) ?_
    refine WQ.thenN ?_
    refine WE.condF (by kernel_rfl) ?_
    refine WE.skip ?_
    refine WQ.thenN ?_
    refine WE.seq ?_
    refine WE.region ?_
    refine WO.run 2 0 [(63, .int .u8 ((gB l (p + k)).toNat : Int)), (62, .int .u64 (acc : Int))] (by kernel_rfl) (by kernel_rfl) ?_
    refine WO.one (SQ.F 2 (by kernel_rfl)) 64 (.int .u8 (iAndNot .u8 ((gB l (p + k)).toNat : Int) (128 : Int))) (by kernel_rfl) ?_
    refine WO.top (v' := .int .u8 (((gB l (p + k)).toNat % 128 : Nat) : Int)) (congrArg (Value.int .u8) (andNot8 (gB l (p + k)))) ?_
    refine WO.one (SQ.F 3 (by kernel_rfl)) 65 (.int .u64 (IntKind.u64.wrap (((gB l (p + k)).toNat % 128 : Nat) : Int))) (by kernel_rfl) ?_
    refine WO.top (v' := .int .u64 (((gB l (p + k)).toNat % 128 : Nat) : Int)) (wrap_u64 rfl (by omega)) ?_
    refine WO.run 1 4 [(66, .int .i64 ((7 * k : Nat) : Int))] (by kernel_rfl) (by kernel_rfl) ?_
    refine WO.shl (SQ.F 5 (by kernel_rfl)) 67 .u64 (((gB l (p + k)).toNat % 128 : Nat) : Int) ((7 * k : Nat) : Int) (by kernel_rfl) (by omega) ?_
    refine WO.top (v' := .int .u64 (iShl .u64 (((gB l (p + k)).toNat % 128 : Nat) : Int) ((7 * k : Nat) : Int))) (rfl) ?_
    refine WO.one (SQ.F 6 (by kernel_rfl)) 68 (.int .u64 (iOr .u64 (acc : Int) (iShl .u64 (((gB l (p + k)).toNat % 128 : Nat) : Int) ((7 * k : Nat) : Int)))) (by kernel_rfl) ?_
    refine WO.top (v' := .int .u64 ((acc + ((gB l (p + k)).toNat % 128) * 128 ^ k : Nat) : Int)) (congrArg (Value.int .u64) (readOr acc ((gB l (p + k)).toNat % 128) k hacc (by omega) (Nat.mod_lt _ (by decide)) (by have := gB_lt l (p + k); omega))) ?_
    refine WO.run 1 7 [(4, .int .u64 ((acc + ((gB l (p + k)).toNat % 128) * 128 ^ k : Nat) : Int))] (by kernel_rfl) (by kernel_rfl) ?_
    refine WO.done (by kernel_rfl) ?_
    refine WQ.keep [0, 2, 3, 4, 5, 6, 24, 61] (e' := [(0, .pointer (some ⟨g, 0, none⟩)), (2, .int .u64 0), (3, .int .i64 (p : Int)), (4, .int .u64 ((acc + ((gB l (p + k)).toNat % 128) * 128 ^ k : Nat) : Int)), (5, .int .i64 ((7 * k : Nat) : Int)), (6, .int .u8 ((gB l (p + k)).toNat : Int)), (24, .bool true), (61, .bool false)]) (by kernel_rfl) ?_
    refine WQ.thenN ?_
    refine WE.seq ?_
    refine WE.region ?_
    refine WO.run 1 0 [(69, .int .u8 ((gB l (p + k)).toNat : Int))] (by kernel_rfl) (by kernel_rfl) ?_
    refine WO.one (SQ.F 1 (by kernel_rfl)) 70 (.bool (decide ((((gB l (p + k)).toNat : Int) : Int) < (128 : Int)))) (by kernel_rfl) ?_
    refine WO.topP ((((gB l (p + k)).toNat : Int) : Int) < (128 : Int)) ?_ ?_
    ·
     intro h25
     refine WO.done (by kernel_rfl) ?_
     refine WQ.keep [0, 2, 3, 4, 5, 6, 24, 61, 70] (e' := [(0, .pointer (some ⟨g, 0, none⟩)), (2, .int .u64 0), (3, .int .i64 (p : Int)), (4, .int .u64 ((acc + ((gB l (p + k)).toNat % 128) * 128 ^ k : Nat) : Int)), (5, .int .i64 ((7 * k : Nat) : Int)), (6, .int .u8 ((gB l (p + k)).toNat : Int)), (24, .bool true), (61, .bool false), (70, .bool true)]) (by kernel_rfl) ?_
     refine WQ.thenN ?_
     refine WE.condT (by kernel_rfl) ?_
     refine WE.seq ?_
     refine WE.region ?_
     refine WO.run 2 0 [(2, .int .u64 ((acc + ((gB l (p + k)).toNat % 128) * 128 ^ k : Nat) : Int)), (71, .int .u64 ((acc + ((gB l (p + k)).toNat % 128) * 128 ^ k : Nat) : Int))] (by kernel_rfl) (by kernel_rfl) ?_
     refine WO.done (by kernel_rfl) ?_
     refine WQ.keep [0, 2, 3, 4, 5, 6, 24, 61, 70] (e' := [(0, .pointer (some ⟨g, 0, none⟩)), (2, .int .u64 ((acc + ((gB l (p + k)).toNat % 128) * 128 ^ k : Nat) : Int)), (3, .int .i64 (p : Int)), (4, .int .u64 ((acc + ((gB l (p + k)).toNat % 128) * 128 ^ k : Nat) : Int)), (5, .int .i64 ((7 * k : Nat) : Int)), (6, .int .u8 ((gB l (p + k)).toNat : Int)), (24, .bool true), (61, .bool false), (70, .bool true)]) (by kernel_rfl) ?_
     refine WQ.thenN ?_
     refine WE.ret ?_
     refine WQ.blkR ?_
     refine WQ.thenR ?_
     refine WQ.thenR ?_
     refine WQ.blkR ?_
     refine WQ.thenR ?_
     refine WQ.ret (v := .int .u64 ((acc + ((gB l (p + k)).toNat % 128) * 128 ^ k : Nat) : Int)) (by kernel_rfl) ?_
     have hmod : (gB l (p + k)).toNat % 128 = (gB l (p + k)).toNat := Nat.mod_eq_of_lt (by omega)
     have hres : num (l.drop p) = some (acc + ((gB l (p + k)).toNat % 128) * 128 ^ k, k + 1) := by rw [← hnum, numA_cons (by omega), if_neg (by omega), if_pos (by omega), hmod]
     rw [rNum_some hres]
     exact ⟨rfl, Rd.ok HB10, HA⟩
    intro h25
    refine WO.done (by kernel_rfl) ?_
    refine WQ.keep [0, 2, 3, 4, 5, 6, 24, 61, 70] (e' := [(0, .pointer (some ⟨g, 0, none⟩)), (2, .int .u64 0), (3, .int .i64 (p : Int)), (4, .int .u64 ((acc + ((gB l (p + k)).toNat % 128) * 128 ^ k : Nat) : Int)), (5, .int .i64 ((7 * k : Nat) : Int)), (6, .int .u8 ((gB l (p + k)).toNat : Int)), (24, .bool true), (61, .bool false), (70, .bool false)]) (by kernel_rfl) ?_
    refine WQ.thenN ?_
    refine WE.condF (by kernel_rfl) ?_
    refine WE.skip ?_
    refine WQ.blkN ?_
    refine WQ.thenN ?_
    refine WE.region ?_
    refine WO.run 1 0 [(25, .int .i64 ((7 * k : Nat) : Int))] (by kernel_rfl) (by kernel_rfl) ?_
    refine WO.one (SQ.F 1 (by kernel_rfl)) 26 (.int .i64 (IntKind.i64.wrap (((7 * k : Nat) : Int) + 7))) (by kernel_rfl) ?_
    refine WO.top (v' := .int .i64 ((7 * (k + 1) : Nat) : Int)) (wrap_i64 (by omega) (by omega)) ?_
    refine WO.run 1 2 [(5, .int .i64 ((7 * (k + 1) : Nat) : Int))] (by kernel_rfl) (by kernel_rfl) ?_
    refine WO.done (by kernel_rfl) ?_
    refine WQ.keep [0, 2, 3, 4, 5, 6, 24, 61, 70] (e' := [(0, .pointer (some ⟨g, 0, none⟩)), (2, .int .u64 0), (3, .int .i64 (p : Int)), (4, .int .u64 ((acc + ((gB l (p + k)).toNat % 128) * 128 ^ k : Nat) : Int)), (5, .int .i64 ((7 * (k + 1) : Nat) : Int)), (6, .int .u8 ((gB l (p + k)).toNat : Int)), (24, .bool true), (61, .bool false), (70, .bool false)]) (by kernel_rfl) ?_
    have hstep : (gB l (p + k)).toNat % 128 = (gB l (p + k)).toNat - 128 := by have := gB_lt l (p + k); omega
    have hk8 : k ≤ 8 := by omega
    rw [numA_cons (by omega), if_neg (by omega), if_neg (by omega)] at hnum
    refine WQ.round ?_
    intro a_ ha_
    refine ⟨(k + 1, acc + ((gB l (p + k)).toNat % 128) * 128 ^ k), ?_, ha_.keep [0, 2, 3, 4, 5] (by kernel_rfl), ?_⟩
    ·
     show 10 - (k + 1) < 10 - k; omega
    ·
     exact ⟨by rw [hstep]; exact hnum, acc_step hacc (Nat.mod_lt _ (by decide)), by show k + 1 ≤ 9; omega, by show p + (k + 1) ≤ n; omega, HB10, HV, HA⟩
   intro h20
   refine WO.run 5 13 [(61, .bool false), (60, .bool false), (59, undef), (58, undef), (57, .bool false)] (by kernel_rfl) (by kernel_rfl) ?_
   refine WO.done (by kernel_rfl) ?_
   refine WQ.keep [0, 2, 3, 4, 5, 6, 24, 61] (e' := [(0, .pointer (some ⟨g, 0, none⟩)), (2, .int .u64 0), (3, .int .i64 (p : Int)), (4, .int .u64 (acc : Int)), (5, .int .i64 ((7 * k : Nat) : Int)), (6, .int .u8 ((gB l (p + k)).toNat : Int)), (24, .bool true), (61, .bool false)]) (by kernel_rfl) ?_
   refine WQ.thenN ?_
   refine WE.condF (by kernel_rfl) ?_
   refine WE.skip ?_
   refine WQ.thenN ?_
   refine WE.seq ?_
   refine WE.region ?_
   refine WO.run 2 0 [(63, .int .u8 ((gB l (p + k)).toNat : Int)), (62, .int .u64 (acc : Int))] (by kernel_rfl) (by kernel_rfl) ?_
   refine WO.one (SQ.F 2 (by kernel_rfl)) 64 (.int .u8 (iAndNot .u8 ((gB l (p + k)).toNat : Int) (128 : Int))) (by kernel_rfl) ?_
   refine WO.top (v' := .int .u8 (((gB l (p + k)).toNat % 128 : Nat) : Int)) (congrArg (Value.int .u8) (andNot8 (gB l (p + k)))) ?_
   refine WO.one (SQ.F 3 (by kernel_rfl)) 65 (.int .u64 (IntKind.u64.wrap (((gB l (p + k)).toNat % 128 : Nat) : Int))) (by kernel_rfl) ?_
   refine WO.top (v' := .int .u64 (((gB l (p + k)).toNat % 128 : Nat) : Int)) (wrap_u64 rfl (by omega)) ?_
   refine WO.run 1 4 [(66, .int .i64 ((7 * k : Nat) : Int))] (by kernel_rfl) (by kernel_rfl) ?_
   refine WO.shl (SQ.F 5 (by kernel_rfl)) 67 .u64 (((gB l (p + k)).toNat % 128 : Nat) : Int) ((7 * k : Nat) : Int) (by kernel_rfl) (by omega) ?_
   refine WO.top (v' := .int .u64 (iShl .u64 (((gB l (p + k)).toNat % 128 : Nat) : Int) ((7 * k : Nat) : Int))) (rfl) ?_
   refine WO.one (SQ.F 6 (by kernel_rfl)) 68 (.int .u64 (iOr .u64 (acc : Int) (iShl .u64 (((gB l (p + k)).toNat % 128 : Nat) : Int) ((7 * k : Nat) : Int)))) (by kernel_rfl) ?_
   refine WO.top (v' := .int .u64 ((acc + ((gB l (p + k)).toNat % 128) * 128 ^ k : Nat) : Int)) (congrArg (Value.int .u64) (readOr acc ((gB l (p + k)).toNat % 128) k hacc (by omega) (Nat.mod_lt _ (by decide)) (by have := gB_lt l (p + k); omega))) ?_
   refine WO.run 1 7 [(4, .int .u64 ((acc + ((gB l (p + k)).toNat % 128) * 128 ^ k : Nat) : Int))] (by kernel_rfl) (by kernel_rfl) ?_
   refine WO.done (by kernel_rfl) ?_
   refine WQ.keep [0, 2, 3, 4, 5, 6, 24, 61] (e' := [(0, .pointer (some ⟨g, 0, none⟩)), (2, .int .u64 0), (3, .int .i64 (p : Int)), (4, .int .u64 ((acc + ((gB l (p + k)).toNat % 128) * 128 ^ k : Nat) : Int)), (5, .int .i64 ((7 * k : Nat) : Int)), (6, .int .u8 ((gB l (p + k)).toNat : Int)), (24, .bool true), (61, .bool false)]) (by kernel_rfl) ?_
   refine WQ.thenN ?_
   refine WE.seq ?_
   refine WE.region ?_
   refine WO.run 1 0 [(69, .int .u8 ((gB l (p + k)).toNat : Int))] (by kernel_rfl) (by kernel_rfl) ?_
   refine WO.one (SQ.F 1 (by kernel_rfl)) 70 (.bool (decide ((((gB l (p + k)).toNat : Int) : Int) < (128 : Int)))) (by kernel_rfl) ?_
   refine WO.topP ((((gB l (p + k)).toNat : Int) : Int) < (128 : Int)) ?_ ?_
   ·
    intro h26
    refine WO.done (by kernel_rfl) ?_
    refine WQ.keep [0, 2, 3, 4, 5, 6, 24, 61, 70] (e' := [(0, .pointer (some ⟨g, 0, none⟩)), (2, .int .u64 0), (3, .int .i64 (p : Int)), (4, .int .u64 ((acc + ((gB l (p + k)).toNat % 128) * 128 ^ k : Nat) : Int)), (5, .int .i64 ((7 * k : Nat) : Int)), (6, .int .u8 ((gB l (p + k)).toNat : Int)), (24, .bool true), (61, .bool false), (70, .bool true)]) (by kernel_rfl) ?_
    refine WQ.thenN ?_
    refine WE.condT (by kernel_rfl) ?_
    refine WE.seq ?_
    refine WE.region ?_
    refine WO.run 2 0 [(2, .int .u64 ((acc + ((gB l (p + k)).toNat % 128) * 128 ^ k : Nat) : Int)), (71, .int .u64 ((acc + ((gB l (p + k)).toNat % 128) * 128 ^ k : Nat) : Int))] (by kernel_rfl) (by kernel_rfl) ?_
    refine WO.done (by kernel_rfl) ?_
    refine WQ.keep [0, 2, 3, 4, 5, 6, 24, 61, 70] (e' := [(0, .pointer (some ⟨g, 0, none⟩)), (2, .int .u64 ((acc + ((gB l (p + k)).toNat % 128) * 128 ^ k : Nat) : Int)), (3, .int .i64 (p : Int)), (4, .int .u64 ((acc + ((gB l (p + k)).toNat % 128) * 128 ^ k : Nat) : Int)), (5, .int .i64 ((7 * k : Nat) : Int)), (6, .int .u8 ((gB l (p + k)).toNat : Int)), (24, .bool true), (61, .bool false), (70, .bool true)]) (by kernel_rfl) ?_
    refine WQ.thenN ?_
    refine WE.ret ?_
    refine WQ.blkR ?_
    refine WQ.thenR ?_
    refine WQ.thenR ?_
    refine WQ.blkR ?_
    refine WQ.thenR ?_
    refine WQ.ret (v := .int .u64 ((acc + ((gB l (p + k)).toNat % 128) * 128 ^ k : Nat) : Int)) (by kernel_rfl) ?_
    have hmod : (gB l (p + k)).toNat % 128 = (gB l (p + k)).toNat := Nat.mod_eq_of_lt (by omega)
    have hres : num (l.drop p) = some (acc + ((gB l (p + k)).toNat % 128) * 128 ^ k, k + 1) := by rw [← hnum, numA_cons (by omega), if_neg (by omega), if_pos (by omega), hmod]
    rw [rNum_some hres]
    exact ⟨rfl, Rd.ok HB10, HA⟩
   intro h26
   refine WO.done (by kernel_rfl) ?_
   refine WQ.keep [0, 2, 3, 4, 5, 6, 24, 61, 70] (e' := [(0, .pointer (some ⟨g, 0, none⟩)), (2, .int .u64 0), (3, .int .i64 (p : Int)), (4, .int .u64 ((acc + ((gB l (p + k)).toNat % 128) * 128 ^ k : Nat) : Int)), (5, .int .i64 ((7 * k : Nat) : Int)), (6, .int .u8 ((gB l (p + k)).toNat : Int)), (24, .bool true), (61, .bool false), (70, .bool false)]) (by kernel_rfl) ?_
   refine WQ.thenN ?_
   refine WE.condF (by kernel_rfl) ?_
   refine WE.skip ?_
   refine WQ.blkN ?_
   refine WQ.thenN ?_
   refine WE.region ?_
   refine WO.run 1 0 [(25, .int .i64 ((7 * k : Nat) : Int))] (by kernel_rfl) (by kernel_rfl) ?_
   refine WO.one (SQ.F 1 (by kernel_rfl)) 26 (.int .i64 (IntKind.i64.wrap (((7 * k : Nat) : Int) + 7))) (by kernel_rfl) ?_
   refine WO.top (v' := .int .i64 ((7 * (k + 1) : Nat) : Int)) (wrap_i64 (by omega) (by omega)) ?_
   refine WO.run 1 2 [(5, .int .i64 ((7 * (k + 1) : Nat) : Int))] (by kernel_rfl) (by kernel_rfl) ?_
   refine WO.done (by kernel_rfl) ?_
   refine WQ.keep [0, 2, 3, 4, 5, 6, 24, 61, 70] (e' := [(0, .pointer (some ⟨g, 0, none⟩)), (2, .int .u64 0), (3, .int .i64 (p : Int)), (4, .int .u64 ((acc + ((gB l (p + k)).toNat % 128) * 128 ^ k : Nat) : Int)), (5, .int .i64 ((7 * (k + 1) : Nat) : Int)), (6, .int .u8 ((gB l (p + k)).toNat : Int)), (24, .bool true), (61, .bool false), (70, .bool false)]) (by kernel_rfl) ?_
   have hstep : (gB l (p + k)).toNat % 128 = (gB l (p + k)).toNat - 128 := by have := gB_lt l (p + k); omega
   have hk8 : k ≤ 8 := by omega
   rw [numA_cons (by omega), if_neg (by omega), if_neg (by omega)] at hnum
   refine WQ.round ?_
   intro a_ ha_
   refine ⟨(k + 1, acc + ((gB l (p + k)).toNat % 128) * 128 ^ k), ?_, ha_.keep [0, 2, 3, 4, 5] (by kernel_rfl), ?_⟩
   ·
    show 10 - (k + 1) < 10 - k; omega
   ·
    exact ⟨by rw [hstep]; exact hnum, acc_step hacc (Nat.mod_lt _ (by decide)), by show k + 1 ≤ 9; omega, by show p + (k + 1) ≤ n; omega, HB10, HV, HA⟩
  intro h15
  refine WO.run 7 5 [(55, .int .u8 ((gB l (p + k)).toNat : Int)), (54, .bool false), (53, .bool false), (52, .bool false), (51, undef), (50, undef), (49, .bool false)] (by kernel_rfl) (by kernel_rfl) ?_
  refine WO.one (SQ.F 12 (by kernel_rfl)) 56 (.bool (decide ((((gB l (p + k)).toNat : Int) : Int) = (0 : Int)))) (by kernel_rfl) ?_
  refine WO.topP ((((gB l (p + k)).toNat : Int) : Int) = (0 : Int)) ?_ ?_
  ·
   intro h27
   refine WO.run 2 13 [(58, .int .i64 ((7 * k : Nat) : Int)), (57, .bool true)] (by kernel_rfl) (by kernel_rfl) ?_
   refine WO.one (SQ.F 15 (by kernel_rfl)) 59 (.bool (decide (((7 * k : Int) : Int) > (0 : Int)))) (by kernel_rfl) ?_
   refine WO.topP (((7 * k : Int) : Int) > (0 : Int)) ?_ ?_
   ·
    intro h28
    refine WO.run 2 16 [(61, .bool true), (60, .bool true)] (by kernel_rfl) (by kernel_rfl) ?_
    refine WO.done (by kernel_rfl) ?_
    refine WQ.keep [0, 2, 3, 4, 5, 6, 24, 61] (e' := [(0, .pointer (some ⟨g, 0, none⟩)), (2, .int .u64 0), (3, .int .i64 (p : Int)), (4, .int .u64 (acc : Int)), (5, .int .i64 ((7 * k : Nat) : Int)), (6, .int .u8 ((gB l (p + k)).toNat : Int)), (24, .bool true), (61, .bool true)]) (by kernel_rfl) ?_
    refine WQ.thenN ?_
    refine WE.condT (by kernel_rfl) ?_
    refine WE.exit ?_
    refine WQ.thenE ?_
    refine WQ.blkX (by kernel_rfl) ?_
    refine WQ.thenE ?_
    refine WQ.thenE ?_
    refine WQ.blkE ?_
    refine WQ.thenN ?_
    refine WE.seq ?_
    refine WE.region ?_
    refine WO.run 2 0 [(73, .int .i64 (p : Int)), (72, .pointer (some ⟨g, 0, none⟩))] (by kernel_rfl) (by kernel_rfl) ?_
    refine WO.call (SQ.E 2 (by kernel_rfl)) 74 (by kernel_rfl) (fail_false g (.slice A n c : Value) (((p + k) + 1 : Nat) : Int) q (p : Int) _ HB10) ?_
    rintro _ w30 ⟨rfl, HB29, F31⟩
    refine ⟨_, rfl, trivial, ?_⟩
    have HV := HV.keep F31 (djB hg)
    have HA := Fr.step HA F31 (inSL (by simp) inS0)
    refine WO.done (by kernel_rfl) ?_
    refine WQ.keep [0, 2, 3, 4, 5, 6, 24, 61] (e' := [(0, .pointer (some ⟨g, 0, none⟩)), (2, .int .u64 0), (3, .int .i64 (p : Int)), (4, .int .u64 (acc : Int)), (5, .int .i64 ((7 * k : Nat) : Int)), (6, .int .u8 ((gB l (p + k)).toNat : Int)), (24, .bool true), (61, .bool true)]) (by kernel_rfl) ?_
    refine WQ.thenN ?_
    refine WE.seq ?_
    refine WE.region ?_
    refine WO.run 1 0 [(2, .int .u64 0)] (by kernel_rfl) (by kernel_rfl) ?_
    refine WO.done (by kernel_rfl) ?_
    refine WQ.keep [0, 2, 3, 4, 5, 6, 24, 61] (e' := [(0, .pointer (some ⟨g, 0, none⟩)), (2, .int .u64 0), (3, .int .i64 (p : Int)), (4, .int .u64 (acc : Int)), (5, .int .i64 ((7 * k : Nat) : Int)), (6, .int .u8 ((gB l (p + k)).toNat : Int)), (24, .bool true), (61, .bool true)]) (by kernel_rfl) ?_
    refine WQ.thenN ?_
    refine WE.ret ?_
    refine WQ.ret (v := .int .u64 0) (by kernel_rfl) ?_
    have hres : num (l.drop p) = none := by rw [← hnum]; first | (rw [numA_end (by omega)]; done) | (rw [numA_cons (by omega), if_pos (by omega)])
    rw [rNum_none hres]
    exact ⟨rfl, Rd.no HB29, HA⟩
   intro h28
   refine WO.run 2 16 [(61, .bool false), (60, .bool false)] (by kernel_rfl) (by kernel_rfl) ?_
   refine WO.done (by kernel_rfl) ?_
   refine WQ.keep [0, 2, 3, 4, 5, 6, 24, 61] (e' := [(0, .pointer (some ⟨g, 0, none⟩)), (2, .int .u64 0), (3, .int .i64 (p : Int)), (4, .int .u64 (acc : Int)), (5, .int .i64 ((7 * k : Nat) : Int)), (6, .int .u8 ((gB l (p + k)).toNat : Int)), (24, .bool true), (61, .bool false)]) (by kernel_rfl) ?_
   refine WQ.thenN ?_
   refine WE.condF (by kernel_rfl) ?_
   refine WE.skip ?_
   refine WQ.thenN ?_
   refine WE.seq ?_
   refine WE.region ?_
   refine WO.run 2 0 [(63, .int .u8 ((gB l (p + k)).toNat : Int)), (62, .int .u64 (acc : Int))] (by kernel_rfl) (by kernel_rfl) ?_
   refine WO.one (SQ.F 2 (by kernel_rfl)) 64 (.int .u8 (iAndNot .u8 ((gB l (p + k)).toNat : Int) (128 : Int))) (by kernel_rfl) ?_
   refine WO.top (v' := .int .u8 (((gB l (p + k)).toNat % 128 : Nat) : Int)) (congrArg (Value.int .u8) (andNot8 (gB l (p + k)))) ?_
   refine WO.one (SQ.F 3 (by kernel_rfl)) 65 (.int .u64 (IntKind.u64.wrap (((gB l (p + k)).toNat % 128 : Nat) : Int))) (by kernel_rfl) ?_
   refine WO.top (v' := .int .u64 (((gB l (p + k)).toNat % 128 : Nat) : Int)) (wrap_u64 rfl (by omega)) ?_
   refine WO.run 1 4 [(66, .int .i64 ((7 * k : Nat) : Int))] (by kernel_rfl) (by kernel_rfl) ?_
   refine WO.shl (SQ.F 5 (by kernel_rfl)) 67 .u64 (((gB l (p + k)).toNat % 128 : Nat) : Int) ((7 * k : Nat) : Int) (by kernel_rfl) (by omega) ?_
   refine WO.top (v' := .int .u64 (iShl .u64 (((gB l (p + k)).toNat % 128 : Nat) : Int) ((7 * k : Nat) : Int))) (rfl) ?_
   refine WO.one (SQ.F 6 (by kernel_rfl)) 68 (.int .u64 (iOr .u64 (acc : Int) (iShl .u64 (((gB l (p + k)).toNat % 128 : Nat) : Int) ((7 * k : Nat) : Int)))) (by kernel_rfl) ?_
   refine WO.top (v' := .int .u64 ((acc + ((gB l (p + k)).toNat % 128) * 128 ^ k : Nat) : Int)) (congrArg (Value.int .u64) (readOr acc ((gB l (p + k)).toNat % 128) k hacc (by omega) (Nat.mod_lt _ (by decide)) (by have := gB_lt l (p + k); omega))) ?_
   refine WO.run 1 7 [(4, .int .u64 ((acc + ((gB l (p + k)).toNat % 128) * 128 ^ k : Nat) : Int))] (by kernel_rfl) (by kernel_rfl) ?_
   refine WO.done (by kernel_rfl) ?_
   refine WQ.keep [0, 2, 3, 4, 5, 6, 24, 61] (e' := [(0, .pointer (some ⟨g, 0, none⟩)), (2, .int .u64 0), (3, .int .i64 (p : Int)), (4, .int .u64 ((acc + ((gB l (p + k)).toNat % 128) * 128 ^ k : Nat) : Int)), (5, .int .i64 ((7 * k : Nat) : Int)), (6, .int .u8 ((gB l (p + k)).toNat : Int)), (24, .bool true), (61, .bool false)]) (by kernel_rfl) ?_
   refine WQ.thenN ?_
   refine WE.seq ?_
   refine WE.region ?_
   refine WO.run 1 0 [(69, .int .u8 ((gB l (p + k)).toNat : Int))] (by kernel_rfl) (by kernel_rfl) ?_
   refine WO.one (SQ.F 1 (by kernel_rfl)) 70 (.bool (decide ((((gB l (p + k)).toNat : Int) : Int) < (128 : Int)))) (by kernel_rfl) ?_
   refine WO.topP ((((gB l (p + k)).toNat : Int) : Int) < (128 : Int)) ?_ ?_
   ·
    intro h32
    refine WO.done (by kernel_rfl) ?_
    refine WQ.keep [0, 2, 3, 4, 5, 6, 24, 61, 70] (e' := [(0, .pointer (some ⟨g, 0, none⟩)), (2, .int .u64 0), (3, .int .i64 (p : Int)), (4, .int .u64 ((acc + ((gB l (p + k)).toNat % 128) * 128 ^ k : Nat) : Int)), (5, .int .i64 ((7 * k : Nat) : Int)), (6, .int .u8 ((gB l (p + k)).toNat : Int)), (24, .bool true), (61, .bool false), (70, .bool true)]) (by kernel_rfl) ?_
    refine WQ.thenN ?_
    refine WE.condT (by kernel_rfl) ?_
    refine WE.seq ?_
    refine WE.region ?_
    refine WO.run 2 0 [(2, .int .u64 ((acc + ((gB l (p + k)).toNat % 128) * 128 ^ k : Nat) : Int)), (71, .int .u64 ((acc + ((gB l (p + k)).toNat % 128) * 128 ^ k : Nat) : Int))] (by kernel_rfl) (by kernel_rfl) ?_
    refine WO.done (by kernel_rfl) ?_
    refine WQ.keep [0, 2, 3, 4, 5, 6, 24, 61, 70] (e' := [(0, .pointer (some ⟨g, 0, none⟩)), (2, .int .u64 ((acc + ((gB l (p + k)).toNat % 128) * 128 ^ k : Nat) : Int)), (3, .int .i64 (p : Int)), (4, .int .u64 ((acc + ((gB l (p + k)).toNat % 128) * 128 ^ k : Nat) : Int)), (5, .int .i64 ((7 * k : Nat) : Int)), (6, .int .u8 ((gB l (p + k)).toNat : Int)), (24, .bool true), (61, .bool false), (70, .bool true)]) (by kernel_rfl) ?_
    refine WQ.thenN ?_
    refine WE.ret ?_
    refine WQ.blkR ?_
    refine WQ.thenR ?_
    refine WQ.thenR ?_
    refine WQ.blkR ?_
    refine WQ.thenR ?_
    refine WQ.ret (v := .int .u64 ((acc + ((gB l (p + k)).toNat % 128) * 128 ^ k : Nat) : Int)) (by kernel_rfl) ?_
    have hmod : (gB l (p + k)).toNat % 128 = (gB l (p + k)).toNat := Nat.mod_eq_of_lt (by omega)
    have hres : num (l.drop p) = some (acc + ((gB l (p + k)).toNat % 128) * 128 ^ k, k + 1) := by rw [← hnum, numA_cons (by omega), if_neg (by omega), if_pos (by omega), hmod]
    rw [rNum_some hres]
    exact ⟨rfl, Rd.ok HB10, HA⟩
   intro h32
   refine WO.done (by kernel_rfl) ?_
   refine WQ.keep [0, 2, 3, 4, 5, 6, 24, 61, 70] (e' := [(0, .pointer (some ⟨g, 0, none⟩)), (2, .int .u64 0), (3, .int .i64 (p : Int)), (4, .int .u64 ((acc + ((gB l (p + k)).toNat % 128) * 128 ^ k : Nat) : Int)), (5, .int .i64 ((7 * k : Nat) : Int)), (6, .int .u8 ((gB l (p + k)).toNat : Int)), (24, .bool true), (61, .bool false), (70, .bool false)]) (by kernel_rfl) ?_
   refine WQ.thenN ?_
   refine WE.condF (by kernel_rfl) ?_
   refine WE.skip ?_
   refine WQ.blkN ?_
   refine WQ.thenN ?_
   refine WE.region ?_
   refine WO.run 1 0 [(25, .int .i64 ((7 * k : Nat) : Int))] (by kernel_rfl) (by kernel_rfl) ?_
   refine WO.one (SQ.F 1 (by kernel_rfl)) 26 (.int .i64 (IntKind.i64.wrap (((7 * k : Nat) : Int) + 7))) (by kernel_rfl) ?_
   refine WO.top (v' := .int .i64 ((7 * (k + 1) : Nat) : Int)) (wrap_i64 (by omega) (by omega)) ?_
   refine WO.run 1 2 [(5, .int .i64 ((7 * (k + 1) : Nat) : Int))] (by kernel_rfl) (by kernel_rfl) ?_
   refine WO.done (by kernel_rfl) ?_
   refine WQ.keep [0, 2, 3, 4, 5, 6, 24, 61, 70] (e' := [(0, .pointer (some ⟨g, 0, none⟩)), (2, .int .u64 0), (3, .int .i64 (p : Int)), (4, .int .u64 ((acc + ((gB l (p + k)).toNat % 128) * 128 ^ k : Nat) : Int)), (5, .int .i64 ((7 * (k + 1) : Nat) : Int)), (6, .int .u8 ((gB l (p + k)).toNat : Int)), (24, .bool true), (61, .bool false), (70, .bool false)]) (by kernel_rfl) ?_
   have hstep : (gB l (p + k)).toNat % 128 = (gB l (p + k)).toNat - 128 := by have := gB_lt l (p + k); omega
   have hk8 : k ≤ 8 := by omega
   rw [numA_cons (by omega), if_neg (by omega), if_neg (by omega)] at hnum
   refine WQ.round ?_
   intro a_ ha_
   refine ⟨(k + 1, acc + ((gB l (p + k)).toNat % 128) * 128 ^ k), ?_, ha_.keep [0, 2, 3, 4, 5] (by kernel_rfl), ?_⟩
   ·
    show 10 - (k + 1) < 10 - k; omega
   ·
    exact ⟨by rw [hstep]; exact hnum, acc_step hacc (Nat.mod_lt _ (by decide)), by show k + 1 ≤ 9; omega, by show p + (k + 1) ≤ n; omega, HB10, HV, HA⟩
  intro h27
  refine WO.run 5 13 [(61, .bool false), (60, .bool false), (59, undef), (58, undef), (57, .bool false)] (by kernel_rfl) (by kernel_rfl) ?_
  refine WO.done (by kernel_rfl) ?_
  refine WQ.keep [0, 2, 3, 4, 5, 6, 24, 61] (e' := [(0, .pointer (some ⟨g, 0, none⟩)), (2, .int .u64 0), (3, .int .i64 (p : Int)), (4, .int .u64 (acc : Int)), (5, .int .i64 ((7 * k : Nat) : Int)), (6, .int .u8 ((gB l (p + k)).toNat : Int)), (24, .bool true), (61, .bool false)]) (by kernel_rfl) ?_
  refine WQ.thenN ?_
  refine WE.condF (by kernel_rfl) ?_
  refine WE.skip ?_
  refine WQ.thenN ?_
  refine WE.seq ?_
  refine WE.region ?_
  refine WO.run 2 0 [(63, .int .u8 ((gB l (p + k)).toNat : Int)), (62, .int .u64 (acc : Int))] (by kernel_rfl) (by kernel_rfl) ?_
  refine WO.one (SQ.F 2 (by kernel_rfl)) 64 (.int .u8 (iAndNot .u8 ((gB l (p + k)).toNat : Int) (128 : Int))) (by kernel_rfl) ?_
  refine WO.top (v' := .int .u8 (((gB l (p + k)).toNat % 128 : Nat) : Int)) (congrArg (Value.int .u8) (andNot8 (gB l (p + k)))) ?_
  refine WO.one (SQ.F 3 (by kernel_rfl)) 65 (.int .u64 (IntKind.u64.wrap (((gB l (p + k)).toNat % 128 : Nat) : Int))) (by kernel_rfl) ?_
  refine WO.top (v' := .int .u64 (((gB l (p + k)).toNat % 128 : Nat) : Int)) (wrap_u64 rfl (by omega)) ?_
  refine WO.run 1 4 [(66, .int .i64 ((7 * k : Nat) : Int))] (by kernel_rfl) (by kernel_rfl) ?_
  refine WO.shl (SQ.F 5 (by kernel_rfl)) 67 .u64 (((gB l (p + k)).toNat % 128 : Nat) : Int) ((7 * k : Nat) : Int) (by kernel_rfl) (by omega) ?_
  refine WO.top (v' := .int .u64 (iShl .u64 (((gB l (p + k)).toNat % 128 : Nat) : Int) ((7 * k : Nat) : Int))) (rfl) ?_
  refine WO.one (SQ.F 6 (by kernel_rfl)) 68 (.int .u64 (iOr .u64 (acc : Int) (iShl .u64 (((gB l (p + k)).toNat % 128 : Nat) : Int) ((7 * k : Nat) : Int)))) (by kernel_rfl) ?_
  refine WO.top (v' := .int .u64 ((acc + ((gB l (p + k)).toNat % 128) * 128 ^ k : Nat) : Int)) (congrArg (Value.int .u64) (readOr acc ((gB l (p + k)).toNat % 128) k hacc (by omega) (Nat.mod_lt _ (by decide)) (by have := gB_lt l (p + k); omega))) ?_
  refine WO.run 1 7 [(4, .int .u64 ((acc + ((gB l (p + k)).toNat % 128) * 128 ^ k : Nat) : Int))] (by kernel_rfl) (by kernel_rfl) ?_
  refine WO.done (by kernel_rfl) ?_
  refine WQ.keep [0, 2, 3, 4, 5, 6, 24, 61] (e' := [(0, .pointer (some ⟨g, 0, none⟩)), (2, .int .u64 0), (3, .int .i64 (p : Int)), (4, .int .u64 ((acc + ((gB l (p + k)).toNat % 128) * 128 ^ k : Nat) : Int)), (5, .int .i64 ((7 * k : Nat) : Int)), (6, .int .u8 ((gB l (p + k)).toNat : Int)), (24, .bool true), (61, .bool false)]) (by kernel_rfl) ?_
  refine WQ.thenN ?_
  refine WE.seq ?_
  refine WE.region ?_
  refine WO.run 1 0 [(69, .int .u8 ((gB l (p + k)).toNat : Int))] (by kernel_rfl) (by kernel_rfl) ?_
  refine WO.one (SQ.F 1 (by kernel_rfl)) 70 (.bool (decide ((((gB l (p + k)).toNat : Int) : Int) < (128 : Int)))) (by kernel_rfl) ?_
  refine WO.topP ((((gB l (p + k)).toNat : Int) : Int) < (128 : Int)) ?_ ?_
  ·
   intro h33
   refine WO.done (by kernel_rfl) ?_
   refine WQ.keep [0, 2, 3, 4, 5, 6, 24, 61, 70] (e' := [(0, .pointer (some ⟨g, 0, none⟩)), (2, .int .u64 0), (3, .int .i64 (p : Int)), (4, .int .u64 ((acc + ((gB l (p + k)).toNat % 128) * 128 ^ k : Nat) : Int)), (5, .int .i64 ((7 * k : Nat) : Int)), (6, .int .u8 ((gB l (p + k)).toNat : Int)), (24, .bool true), (61, .bool false), (70, .bool true)]) (by kernel_rfl) ?_
   refine WQ.thenN ?_
   refine WE.condT (by kernel_rfl) ?_
   refine WE.seq ?_
   refine WE.region ?_
   refine WO.run 2 0 [(2, .int .u64 ((acc + ((gB l (p + k)).toNat % 128) * 128 ^ k : Nat) : Int)), (71, .int .u64 ((acc + ((gB l (p + k)).toNat % 128) * 128 ^ k : Nat) : Int))] (by kernel_rfl) (by kernel_rfl) ?_
   refine WO.done (by kernel_rfl) ?_
   refine WQ.keep [0, 2, 3, 4, 5, 6, 24, 61, 70] (e' := [(0, .pointer (some ⟨g, 0, none⟩)), (2, .int .u64 ((acc + ((gB l (p + k)).toNat % 128) * 128 ^ k : Nat) : Int)), (3, .int .i64 (p : Int)), (4, .int .u64 ((acc + ((gB l (p + k)).toNat % 128) * 128 ^ k : Nat) : Int)), (5, .int .i64 ((7 * k : Nat) : Int)), (6, .int .u8 ((gB l (p + k)).toNat : Int)), (24, .bool true), (61, .bool false), (70, .bool true)]) (by kernel_rfl) ?_
   refine WQ.thenN ?_
   refine WE.ret ?_
   refine WQ.blkR ?_
   refine WQ.thenR ?_
   refine WQ.thenR ?_
   refine WQ.blkR ?_
   refine WQ.thenR ?_
   refine WQ.ret (v := .int .u64 ((acc + ((gB l (p + k)).toNat % 128) * 128 ^ k : Nat) : Int)) (by kernel_rfl) ?_
   have hmod : (gB l (p + k)).toNat % 128 = (gB l (p + k)).toNat := Nat.mod_eq_of_lt (by omega)
   have hres : num (l.drop p) = some (acc + ((gB l (p + k)).toNat % 128) * 128 ^ k, k + 1) := by rw [← hnum, numA_cons (by omega), if_neg (by omega), if_pos (by omega), hmod]
   rw [rNum_some hres]
   exact ⟨rfl, Rd.ok HB10, HA⟩
  intro h33
  refine WO.done (by kernel_rfl) ?_
  refine WQ.keep [0, 2, 3, 4, 5, 6, 24, 61, 70] (e' := [(0, .pointer (some ⟨g, 0, none⟩)), (2, .int .u64 0), (3, .int .i64 (p : Int)), (4, .int .u64 ((acc + ((gB l (p + k)).toNat % 128) * 128 ^ k : Nat) : Int)), (5, .int .i64 ((7 * k : Nat) : Int)), (6, .int .u8 ((gB l (p + k)).toNat : Int)), (24, .bool true), (61, .bool false), (70, .bool false)]) (by kernel_rfl) ?_
  refine WQ.thenN ?_
  refine WE.condF (by kernel_rfl) ?_
  refine WE.skip ?_
  refine WQ.blkN ?_
  refine WQ.thenN ?_
  refine WE.region ?_
  refine WO.run 1 0 [(25, .int .i64 ((7 * k : Nat) : Int))] (by kernel_rfl) (by kernel_rfl) ?_
  refine WO.one (SQ.F 1 (by kernel_rfl)) 26 (.int .i64 (IntKind.i64.wrap (((7 * k : Nat) : Int) + 7))) (by kernel_rfl) ?_
  refine WO.top (v' := .int .i64 ((7 * (k + 1) : Nat) : Int)) (wrap_i64 (by omega) (by omega)) ?_
  refine WO.run 1 2 [(5, .int .i64 ((7 * (k + 1) : Nat) : Int))] (by kernel_rfl) (by kernel_rfl) ?_
  refine WO.done (by kernel_rfl) ?_
  refine WQ.keep [0, 2, 3, 4, 5, 6, 24, 61, 70] (e' := [(0, .pointer (some ⟨g, 0, none⟩)), (2, .int .u64 0), (3, .int .i64 (p : Int)), (4, .int .u64 ((acc + ((gB l (p + k)).toNat % 128) * 128 ^ k : Nat) : Int)), (5, .int .i64 ((7 * (k + 1) : Nat) : Int)), (6, .int .u8 ((gB l (p + k)).toNat : Int)), (24, .bool true), (61, .bool false), (70, .bool false)]) (by kernel_rfl) ?_
  have hstep : (gB l (p + k)).toNat % 128 = (gB l (p + k)).toNat - 128 := by have := gB_lt l (p + k); omega
  have hk8 : k ≤ 8 := by omega
  rw [numA_cons (by omega), if_neg (by omega), if_neg (by omega)] at hnum
  refine WQ.round ?_
  intro a_ ha_
  refine ⟨(k + 1, acc + ((gB l (p + k)).toNat % 128) * 128 ^ k), ?_, ha_.keep [0, 2, 3, 4, 5] (by kernel_rfl), ?_⟩
  ·
   show 10 - (k + 1) < 10 - k; omega
  ·
   exact ⟨by rw [hstep]; exact hnum, acc_step hacc (Nat.mod_lt _ (by decide)), by show k + 1 ≤ 9; omega, by show p + (k + 1) ≤ n; omega, HB10, HV, HA⟩
 intro h3
 refine WO.doneA (by kernel_rfl) ?_
 refine WQ.keep [0, 2, 3, 4, 5, 24] (e' := [(0, .pointer (some ⟨g, 0, none⟩)), (2, .int .u64 0), (3, .int .i64 (p : Int)), (4, .int .u64 (acc : Int)), (5, .int .i64 ((7 * k : Nat) : Int)), (24, .bool false)]) (by kernel_rfl) ?_
 refine WQ.thenN ?_
 refine WE.condF (by kernel_rfl) ?_
 refine WE.exit ?_
 refine WQ.thenE ?_
 refine WQ.thenE ?_
 refine WQ.blkE ?_
 refine WQ.thenN ?_
 refine WE.seq ?_
 refine WE.region ?_
 refine WO.run 2 0 [(73, .int .i64 (p : Int)), (72, .pointer (some ⟨g, 0, none⟩))] (by kernel_rfl) (by kernel_rfl) ?_
 refine WO.call (SQ.E 2 (by kernel_rfl)) 74 (by kernel_rfl) (fail_false g (.slice A n c : Value) ((p + k : Nat) : Int) q (p : Int) _ HB) ?_
 rintro _ w35 ⟨rfl, HB34, F36⟩
 refine ⟨_, rfl, trivial, ?_⟩
 have HV := HV.keep F36 (djB hg)
 have HA := Fr.step HA F36 (inSL (by simp) inS0)
 refine WO.done (by kernel_rfl) ?_
 refine WQ.keep [0, 2, 3, 4, 5, 24] (e' := [(0, .pointer (some ⟨g, 0, none⟩)), (2, .int .u64 0), (3, .int .i64 (p : Int)), (4, .int .u64 (acc : Int)), (5, .int .i64 ((7 * k : Nat) : Int)), (24, .bool false)]) (by kernel_rfl) ?_
 refine WQ.thenN ?_
 refine WE.seq ?_
 refine WE.region ?_
 refine WO.run 1 0 [(2, .int .u64 0)] (by kernel_rfl) (by kernel_rfl) ?_
 refine WO.done (by kernel_rfl) ?_
 refine WQ.keep [0, 2, 3, 4, 5, 24] (e' := [(0, .pointer (some ⟨g, 0, none⟩)), (2, .int .u64 0), (3, .int .i64 (p : Int)), (4, .int .u64 (acc : Int)), (5, .int .i64 ((7 * k : Nat) : Int)), (24, .bool false)]) (by kernel_rfl) ?_
 refine WQ.thenN ?_
 refine WE.ret ?_
 refine WQ.ret (v := .int .u64 0) (by kernel_rfl) ?_
 have hres : num (l.drop p) = none := by rw [← hnum]; first | (rw [numA_end (by omega)]; done) | (rw [numA_cons (by omega), if_pos (by omega)])
 rw [rNum_none hres]
 exact ⟨rfl, Rd.no HB34, HA⟩
set_option maxRecDepth 100000 in
set_option maxHeartbeats 400000 in
theorem rnum_bad (g : Nat) (v : Value) (q s : Int) (w : World) (HB : Blk w g #[v, .int .i64 q, .bool true, .int .i64 s] 421) :
  Calls Tryz.prog 280 #[.pointer (some ⟨g, 0, none⟩)] w fun e w' => e = .returned (.int .u64 0) ∧ Blk w' g #[v, .int .i64 q, .bool true, .int .i64 s] 421 ∧ Fr [g] w w' := by
 have HA := Fr.refl [g] w
 refine enter (N := 75) Tryz.func280 (c := _) rfl (by kernel_rfl) (by kernel_rfl) (e := [(0, .pointer (some ⟨g, 0, none⟩))]) (by kernel_rfl) ?_
 refine WE.seq ?_
 refine WE.region ?_
 refine WO.run 1 0 [(2, .int .u64 0)] (by kernel_rfl) (by kernel_rfl) ?_
 refine WO.done (by kernel_rfl) ?_
 refine WQ.keep [0, 2] (e' := [(0, .pointer (some ⟨g, 0, none⟩)), (2, .int .u64 0)]) (by kernel_rfl) ?_
 refine WQ.thenN ?_
 refine WE.seq ?_
 refine WE.seq ?_
 refine WE.region ?_
 refine WO.run 3 0 [(9, .pointer (some ⟨g, 2, none⟩)), (8, .pointer (some ⟨g, 0, none⟩)), (7, .pointer (some ⟨g, 0, none⟩))] (by kernel_rfl) (by kernel_rfl) ?_
 refine WO.ld (SQ.S 3 (by kernel_rfl)) 10 (.bool true) (by kernel_rfl) (same (HB.at 2 (by kernel_rfl))) ?_
 refine WO.done (by kernel_rfl) ?_
 refine WQ.keep [0, 2, 10] (e' := [(0, .pointer (some ⟨g, 0, none⟩)), (2, .int .u64 0), (10, .bool true)]) (by kernel_rfl) ?_
 refine WQ.thenN ?_
 refine WE.condT (by kernel_rfl) ?_
 refine WE.seq ?_
 refine WE.region ?_
 refine WO.run 1 0 [(2, .int .u64 0)] (by kernel_rfl) (by kernel_rfl) ?_
 refine WO.done (by kernel_rfl) ?_
 refine WQ.keep [0, 2, 10] (e' := [(0, .pointer (some ⟨g, 0, none⟩)), (2, .int .u64 0), (10, .bool true)]) (by kernel_rfl) ?_
 refine WQ.thenN ?_
 refine WE.ret ?_
 refine WQ.thenR ?_
 refine WQ.ret (v := .int .u64 0) (by kernel_rfl) ?_
 exact ⟨rfl, HB, HA⟩
theorem rnum_any (g : Nat) (s : St) (A : Option Addr) (n c : Nat) (l : List UInt8) (FB : List Nat) (w : World) (HV : VX cB 1 w FB A l) (hn : l.length = n) (hc : n ≤ c) (hlen : l.length ≤ 1000000000) (hg : g ∉ FB) (HR : Rd 421 w g (.slice A n c) s) (hs : s.ok l) :
  Calls Tryz.prog 280 #[.pointer (some ⟨g, 0, none⟩)] w fun e w' => e = .returned (.int .u64 ((rNum l s).1 : Int)) ∧ Rd 421 w' g (.slice A n c) (rNum l s).2 ∧ Fr [g] w w' := by
 rcases HR.split with ⟨p, q, rfl, HB⟩ | ⟨p, q, rfl, HB⟩
 ·
  exact rnum_ok g p q A n c l FB w HV hn hc hlen hg HB (by unfold St.ok at hs; simp only at hs; omega)
 ·
  refine (rnum_bad g _ q _ w HB).mono fun e w' h => ?_
  obtain ⟨rfl, h2, h3⟩ := h
  exact ⟨rfl, Rd.no h2, h3⟩
end Go.Proofs.YtjfgmdkdcnfdoaaGreatDoor.Wire
