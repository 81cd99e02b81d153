/- Layer 4's walks: the reader of lines. -/
import Derived.Test.YtdhonbahpcmmnaaDoorLineW
set_option linter.unusedVariables false
set_option linter.unusedSimpArgs false
namespace Go.Proofs.YtdhonbahpcmmnaaDoor.Line
open Go Go.RowKit Go.Proofs.YtdhonbahpcmmnaaDoor Go.Proofs.YtdhonbahpcmmnaaDoor.Eng Go.Proofs.YtdhonbahpcmmnaaDoorW.PrintWords
theorem u8_eq {a b : UInt8} (h : (a.toNat : Int) = (b.toNat : Int)) : a = b := by
 apply UInt8.toNat_inj.1
 omega
theorem one_part {s : L} {p : Nat} (h : p < s.length) : (s.take (p + 1)).drop p = [gB s p] := by
 have h1 := gB_some s p h
 rw [List.take_add_one, h1, List.drop_append_of_le_length (by rw [List.length_take]; omega)]
 rw [List.drop_of_length_le (by rw [List.length_take]; omega)]
 rfl
def isD (c : UInt8) : Bool := decide (48 ≤ c.toNat) && decide (c.toNat ≤ 57)
theorem isD_f {c : UInt8} (h : ¬ (48 ≤ c.toNat ∧ c.toNat ≤ 57)) : isD c = false := by
 rw [Bool.eq_false_iff]
 intro h2
 unfold isD at h2
 simp only [Bool.and_eq_true, decide_eq_true_eq] at h2
 exact h h2
theorem isD_57 {c : UInt8} (h : 48 ≤ c.toNat) : decide ((c.toNat : Int) ≤ 57) = isD c := by
 unfold isD
 rw [decide_eq_true h, Bool.true_and, decide_eq_decide]
 omega
def runE (pr : UInt8 → Bool) (s : L) (p : Nat) : Nat := p + ((s.drop p).takeWhile pr).length
theorem runE_eq {pr : UInt8 → Bool} {s : L} : ∀ {p k : Nat}, p ≤ k → k ≤ s.length → (∀ j, p ≤ j → j < k → pr (gb s j) = true) → (k = s.length ∨ (k < s.length ∧ pr (gB s k) = false)) → runE pr s p = k := by
 intro p k h1 h2 h3 h4
 obtain ⟨n, rfl⟩ := Nat.exists_eq_add_of_le h1
 induction n generalizing p with
 | zero =>
  unfold runE
  rcases h4 with h4 | ⟨h4, h5⟩
  ·
   rw [List.drop_of_length_le (by omega)]
   rfl
  ·
   rw [List.drop_eq_getElem_cons (by omega : p < s.length), List.takeWhile_cons]
   have e : gB s (p + 0) = s[p] := by
    unfold gB
    rw [List.getD_eq_getElem?_getD, List.getElem?_eq_getElem (by omega : p + 0 < s.length)]
    rfl
   rw [e] at h5
   rw [if_neg (by rw [h5]; simp)]
   rfl
 | succ n ih =>
  have hp := h3 p (Nat.le_refl _) (by omega)
  have e : gb s p = s[p] := by
   unfold gb
   rw [List.getD_eq_getElem?_getD, List.getElem?_eq_getElem (by omega : p < s.length)]
   rfl
  rw [e] at hp
  have := ih (p := p + 1) (by omega) (by omega) (fun j hj1 hj2 => h3 j (by omega) (by omega)) (by rw [show p + 1 + n = p + (n + 1) by omega]; exact h4)
  unfold runE at this ⊢
  rw [List.drop_eq_getElem_cons (by omega : p < s.length), List.takeWhile_cons, if_pos hp, List.length_cons]
  omega
set_option maxRecDepth 100000 in
set_option maxHeartbeats 400000 in
theorem fail_ok (g : Nat) (s : L) (p : Nat) (w : World) (hp : p ≤ s.length) (hs : s.length ≤ 1000000) (t : Int) (HB : Blk w g #[.string (str s), .int .i64 (p : Int), .int .i64 (-1)] 60) :
  Calls Tryd.prog 35 #[.pointer (some ⟨g, 0, none⟩), .int .i64 t] w fun e w' => e = .returned (.tuple #[]) ∧ Blk w' g #[.string (str s), .int .i64 (p : Int), .int .i64 t] 60 ∧ Fr [g] w w' := by
 have HA := Fr.refl [g] w
 refine enter (N := 13) Tryd.func35 (c := _) rfl (by kernel_rfl) (by kernel_rfl) (e := [(0, .pointer (some ⟨g, 0, none⟩)), (1, .int .i64 t)]) (by kernel_rfl) ?_
 refine WE.seq ?_
 refine WE.region ?_
 refine WO.run 3 0 [(6, .pointer (some ⟨g, 2, none⟩)), (5, .pointer (some ⟨g, 0, none⟩)), (4, .pointer (some ⟨g, 0, none⟩))] (by kernel_rfl) (by kernel_rfl) ?_
 refine WO.ld (SQ.S 3 (by kernel_rfl)) 7 (.int .i64 (-1)) (by kernel_rfl) (same (HB.at 2 (by kernel_rfl))) ?_
 refine WO.run 1 4 [(8, .bool true)] (by kernel_rfl) (by kernel_rfl) ?_
 refine WO.done (by kernel_rfl) ?_
 refine WQ.keep [0, 1, 8] (e' := [(0, .pointer (some ⟨g, 0, none⟩)), (1, .int .i64 t), (8, .bool true)]) (by kernel_rfl) ?_
 refine WQ.thenN ?_
 refine WE.condT (by kernel_rfl) ?_
 refine WE.region ?_
 refine WO.run 4 0 [(12, .pointer (some ⟨g, 2, none⟩)), (11, .pointer (some ⟨g, 0, none⟩)), (10, .int .i64 t), (9, .pointer (some ⟨g, 0, none⟩))] (by kernel_rfl) (by kernel_rfl) ?_
 refine WO.st (SQ.E 4 (by kernel_rfl)) g 2 [.int .i64 t] #[.string (str s), .int .i64 (p : Int), .int .i64 t] (by kernel_rfl) HB (by kernel_rfl) (by kernel_rfl) (fun _ _ => trivial) ?_
 intro w1 HB3 F2 _
 have HA := Fr.step HA F2 (inSL (by simp) inS0)
 refine WO.done (by kernel_rfl) ?_
 refine WQ.keep [0, 1, 8] (e' := [(0, .pointer (some ⟨g, 0, none⟩)), (1, .int .i64 t), (8, .bool true)]) (by kernel_rfl) ?_
 refine WQ.fall (v := .tuple #[]) (by kernel_rfl) ?_
 exact ⟨rfl, HB3, HA⟩
set_option maxRecDepth 100000 in
set_option maxHeartbeats 400000 in
theorem fail_bad (g : Nat) (s : L) (p : Nat) (bz : Int) (w : World) (hp : p ≤ s.length) (hs : s.length ≤ 1000000) (hbz : 0 ≤ bz) (t : Int) (HB : Blk w g #[.string (str s), .int .i64 (p : Int), .int .i64 bz] 60) :
  Calls Tryd.prog 35 #[.pointer (some ⟨g, 0, none⟩), .int .i64 t] w fun e w' => e = .returned (.tuple #[]) ∧ Blk w' g #[.string (str s), .int .i64 (p : Int), .int .i64 bz] 60 ∧ Fr [g] w w' := by
 have HA := Fr.refl [g] w
 refine enter (N := 13) Tryd.func35 (c := _) rfl (by kernel_rfl) (by kernel_rfl) (e := [(0, .pointer (some ⟨g, 0, none⟩)), (1, .int .i64 t)]) (by kernel_rfl) ?_
 refine WE.seq ?_
 refine WE.region ?_
 refine WO.run 3 0 [(6, .pointer (some ⟨g, 2, none⟩)), (5, .pointer (some ⟨g, 0, none⟩)), (4, .pointer (some ⟨g, 0, none⟩))] (by kernel_rfl) (by kernel_rfl) ?_
 refine WO.ld (SQ.S 3 (by kernel_rfl)) 7 (.int .i64 bz) (by kernel_rfl) (same (HB.at 2 (by kernel_rfl))) ?_
 refine WO.one (SQ.F 4 (by kernel_rfl)) 8 (.bool (decide ((bz : Int) < 0))) (by kernel_rfl) ?_
 refine WO.topPF ((bz : Int) < 0) (by omega) ?_
 refine WO.done (by kernel_rfl) ?_
 refine WQ.keep [0, 1, 8] (e' := [(0, .pointer (some ⟨g, 0, none⟩)), (1, .int .i64 t), (8, .bool false)]) (by kernel_rfl) ?_
 refine WQ.thenN ?_
 refine WE.condF (by kernel_rfl) ?_
 refine WE.skip ?_
 refine WQ.fall (v := .tuple #[]) (by kernel_rfl) ?_
 exact ⟨rfl, HB, HA⟩
set_option maxRecDepth 100000 in
set_option maxHeartbeats 400000 in
theorem next_bad (g : Nat) (s : L) (p : Nat) (bz : Int) (w : World) (hp : p ≤ s.length) (hs : s.length ≤ 1000000) (hbz : 0 ≤ bz) (c : UInt8) (HB : Blk w g #[.string (str s), .int .i64 (p : Int), .int .i64 bz] 60) :
  Calls Tryd.prog 34 #[.pointer (some ⟨g, 0, none⟩), .int .u8 (c.toNat : Int)] w fun e w' => e = .returned (.bool false) ∧ Blk w' g #[.string (str s), .int .i64 (p : Int), .int .i64 bz] 60 ∧ Fr [g] w w' := by
 have HA := Fr.refl [g] w
 refine enter (N := 42) Tryd.func34 (c := _) rfl (by kernel_rfl) (by kernel_rfl) (e := [(0, .pointer (some ⟨g, 0, none⟩)), (1, .int .u8 (c.toNat : Int))]) (by kernel_rfl) ?_
 refine WE.seq ?_
 refine WE.region ?_
 refine WO.run 1 0 [(4, .bool false)] (by kernel_rfl) (by kernel_rfl) ?_
 refine WO.done (by kernel_rfl) ?_
 refine WQ.keep [0, 1, 4] (e' := [(0, .pointer (some ⟨g, 0, none⟩)), (1, .int .u8 (c.toNat : Int)), (4, .bool false)]) (by kernel_rfl) ?_
 refine WQ.thenN ?_
 refine WE.seq ?_
 refine WE.seq ?_
 refine WE.draw [.free, .free, .free, .still, .free, .free, .free, .free, .free, .still, .free, .free, .free, .still, .free, .free, .free, .free, .free, .free, .free, .still, .free, .free, .free, .still, .free, .free, .free, .free] Same sameR (by kernel_rfl) 30 (Array.replicate 30 false) (by kernel_rfl) rfl ?_
 intro w1 F2 _
 have HB := Blk.keep HB F2 (nin0 _)
 have HA := Fr.step0 HA F2
 refine WO.one (SA.F sameR sameT _ 0 _ (by kernel_rfl)) 5 (.pointer (some ⟨g, 0, none⟩)) (by kernel_rfl) ?_
 refine WO.one (SA.F sameR sameT _ 1 _ (by kernel_rfl)) 6 (.pointer (some ⟨g, 0, none⟩)) (by kernel_rfl) ?_
 refine WO.one (SA.F sameR sameT _ 2 _ (by kernel_rfl)) 7 (.pointer (some ⟨g, 2, none⟩)) (by kernel_rfl) ?_
 refine WO.ld (SA.S sameR sameT _ 3 _ (by kernel_rfl)) 8 (.int .i64 bz) (by kernel_rfl) (same (HB.at 2 (by kernel_rfl))) ?_
 refine WO.one (SA.F sameR sameT _ 4 _ (by kernel_rfl)) 9 (.bool (decide ((bz : Int) ≥ 0))) (by kernel_rfl) ?_
 refine WO.topPT ((bz : Int) ≥ 0) (by omega) ?_
 refine WO.one (SA.F sameR sameT _ 5 _ (by kernel_rfl)) 10 (.bool true) (by kernel_rfl) ?_
 refine WO.off (SA.O sameR sameT _ 6 _ (by kernel_rfl)) 11 (by kernel_rfl) ?_
 refine WO.off (SA.O sameR sameT _ 7 _ (by kernel_rfl)) 12 (by kernel_rfl) ?_
 refine WO.off (SA.O sameR sameT _ 8 _ (by kernel_rfl)) 13 (by kernel_rfl) ?_
 refine WO.off (SA.O sameR sameT _ 9 _ (by kernel_rfl)) 14 (by kernel_rfl) ?_
 refine WO.off (SA.O sameR sameT _ 10 _ (by kernel_rfl)) 15 (by kernel_rfl) ?_
 refine WO.off (SA.O sameR sameT _ 11 _ (by kernel_rfl)) 16 (by kernel_rfl) ?_
 refine WO.off (SA.O sameR sameT _ 12 _ (by kernel_rfl)) 17 (by kernel_rfl) ?_
 refine WO.off (SA.O sameR sameT _ 13 _ (by kernel_rfl)) 18 (by kernel_rfl) ?_
 refine WO.off (SA.O sameR sameT _ 14 _ (by kernel_rfl)) 19 (by kernel_rfl) ?_
 refine WO.off (SA.O sameR sameT _ 15 _ (by kernel_rfl)) 20 (by kernel_rfl) ?_
 refine WO.one (SA.F sameR sameT _ 16 _ (by kernel_rfl)) 21 (.bool true) (by kernel_rfl) ?_
 refine WO.one (SA.F sameR sameT _ 17 _ (by kernel_rfl)) 22 (.bool true) (by kernel_rfl) ?_
 refine WO.off (SA.O sameR sameT _ 18 _ (by kernel_rfl)) 23 (by kernel_rfl) ?_
 refine WO.off (SA.O sameR sameT _ 19 _ (by kernel_rfl)) 24 (by kernel_rfl) ?_
 refine WO.off (SA.O sameR sameT _ 20 _ (by kernel_rfl)) 25 (by kernel_rfl) ?_
 refine WO.off (SA.O sameR sameT _ 21 _ (by kernel_rfl)) 26 (by kernel_rfl) ?_
 refine WO.off (SA.O sameR sameT _ 22 _ (by kernel_rfl)) 27 (by kernel_rfl) ?_
 refine WO.off (SA.O sameR sameT _ 23 _ (by kernel_rfl)) 28 (by kernel_rfl) ?_
 refine WO.off (SA.O sameR sameT _ 24 _ (by kernel_rfl)) 29 (by kernel_rfl) ?_
 refine WO.off (SA.O sameR sameT _ 25 _ (by kernel_rfl)) 30 (by kernel_rfl) ?_
 refine WO.off (SA.O sameR sameT _ 26 _ (by kernel_rfl)) 31 (by kernel_rfl) ?_
 refine WO.off (SA.O sameR sameT _ 27 _ (by kernel_rfl)) 32 (by kernel_rfl) ?_
 refine WO.off (SA.O sameR sameT _ 28 _ (by kernel_rfl)) 33 (by kernel_rfl) ?_
 refine WO.one (SA.F sameR sameT _ 29 _ (by kernel_rfl)) 34 (.bool true) (by kernel_rfl) ?_
 refine WO.doneA (by kernel_rfl) ?_
 refine WQ.keep [0, 1, 4, 34] (e' := [(0, .pointer (some ⟨g, 0, none⟩)), (1, .int .u8 (c.toNat : Int)), (4, .bool false), (34, .bool true)]) (by kernel_rfl) ?_
 refine WQ.thenN ?_
 refine WE.condT (by kernel_rfl) ?_
 refine WE.seq ?_
 refine WE.region ?_
 refine WO.run 1 0 [(4, .bool false)] (by kernel_rfl) (by kernel_rfl) ?_
 refine WO.done (by kernel_rfl) ?_
 refine WQ.keep [0, 1, 4, 34] (e' := [(0, .pointer (some ⟨g, 0, none⟩)), (1, .int .u8 (c.toNat : Int)), (4, .bool false), (34, .bool true)]) (by kernel_rfl) ?_
 refine WQ.thenN ?_
 refine WE.ret ?_
 refine WQ.thenR ?_
 refine WQ.ret (v := .bool false) (by kernel_rfl) ?_
 exact ⟨rfl, HB, HA⟩
set_option maxRecDepth 100000 in
set_option maxHeartbeats 400000 in
theorem next_yes (g : Nat) (s : L) (p : Nat) (w : World) (hp : p ≤ s.length) (hs : s.length ≤ 1000000) (c : UInt8) (hlt : p < s.length) (hc : gB s p = c) (HB : Blk w g #[.string (str s), .int .i64 (p : Int), .int .i64 (-1)] 60) :
  Calls Tryd.prog 34 #[.pointer (some ⟨g, 0, none⟩), .int .u8 (c.toNat : Int)] w fun e w' => e = .returned (.bool true) ∧ Blk w' g #[.string (str s), .int .i64 ((p + 1 : Nat) : Int), .int .i64 (-1)] 60 ∧ Fr [g] w w' := by
 have HA := Fr.refl [g] w
 refine enter (N := 42) Tryd.func34 (c := _) rfl (by kernel_rfl) (by kernel_rfl) (e := [(0, .pointer (some ⟨g, 0, none⟩)), (1, .int .u8 (c.toNat : Int))]) (by kernel_rfl) ?_
 refine WE.seq ?_
 refine WE.region ?_
 refine WO.run 1 0 [(4, .bool false)] (by kernel_rfl) (by kernel_rfl) ?_
 refine WO.done (by kernel_rfl) ?_
 refine WQ.keep [0, 1, 4] (e' := [(0, .pointer (some ⟨g, 0, none⟩)), (1, .int .u8 (c.toNat : Int)), (4, .bool false)]) (by kernel_rfl) ?_
 refine WQ.thenN ?_
 refine WE.seq ?_
 refine WE.seq ?_
 refine WE.draw [.free, .free, .free, .still, .free, .free, .free, .free, .free, .still, .free, .free, .free, .still, .free, .free, .free, .free, .free, .free, .free, .still, .free, .free, .free, .still, .free, .free, .free, .free] Same sameR (by kernel_rfl) 30 (Array.replicate 30 false) (by kernel_rfl) rfl ?_
 intro w1 F2 _
 have HB := Blk.keep HB F2 (nin0 _)
 have HA := Fr.step0 HA F2
 refine WO.one (SA.F sameR sameT _ 0 _ (by kernel_rfl)) 5 (.pointer (some ⟨g, 0, none⟩)) (by kernel_rfl) ?_
 refine WO.one (SA.F sameR sameT _ 1 _ (by kernel_rfl)) 6 (.pointer (some ⟨g, 0, none⟩)) (by kernel_rfl) ?_
 refine WO.one (SA.F sameR sameT _ 2 _ (by kernel_rfl)) 7 (.pointer (some ⟨g, 2, none⟩)) (by kernel_rfl) ?_
 refine WO.ld (SA.S sameR sameT _ 3 _ (by kernel_rfl)) 8 (.int .i64 (-1)) (by kernel_rfl) (same (HB.at 2 (by kernel_rfl))) ?_
 refine WO.one (SA.F sameR sameT _ 4 _ (by kernel_rfl)) 9 (.bool false) (by kernel_rfl) ?_
 refine WO.one (SA.F sameR sameT _ 5 _ (by kernel_rfl)) 10 (.bool false) (by kernel_rfl) ?_
 refine WO.one (SA.F sameR sameT _ 6 _ (by kernel_rfl)) 11 (.pointer (some ⟨g, 0, none⟩)) (by kernel_rfl) ?_
 refine WO.one (SA.F sameR sameT _ 7 _ (by kernel_rfl)) 12 (.pointer (some ⟨g, 0, none⟩)) (by kernel_rfl) ?_
 refine WO.one (SA.F sameR sameT _ 8 _ (by kernel_rfl)) 13 (.pointer (some ⟨g, 1, none⟩)) (by kernel_rfl) ?_
 refine WO.ld (SA.S sameR sameT _ 9 _ (by kernel_rfl)) 14 (.int .i64 (p : Int)) (by kernel_rfl) (same (HB.at 1 (by kernel_rfl))) ?_
 refine WO.one (SA.F sameR sameT _ 10 _ (by kernel_rfl)) 15 (.pointer (some ⟨g, 0, none⟩)) (by kernel_rfl) ?_
 refine WO.one (SA.F sameR sameT _ 11 _ (by kernel_rfl)) 16 (.pointer (some ⟨g, 0, none⟩)) (by kernel_rfl) ?_
 refine WO.one (SA.F sameR sameT _ 12 _ (by kernel_rfl)) 17 (.pointer (some ⟨g, 0, none⟩)) (by kernel_rfl) ?_
 refine WO.ld (SA.S sameR sameT _ 13 _ (by kernel_rfl)) 18 (.string (str s)) (by kernel_rfl) (same (HB.at 0 (by kernel_rfl))) ?_
 refine WO.one (SA.F sameR sameT _ 14 _ (by kernel_rfl)) 19 (.int .i64 (s.length : Int)) (by kernel_rfl) ?_
 refine WO.one (SA.F sameR sameT _ 15 _ (by kernel_rfl)) 20 (.bool (decide (((p : Int) : Int) ≥ (s.length : Int)))) (by kernel_rfl) ?_
 refine WO.topPF (((p : Int) : Int) ≥ (s.length : Int)) (by omega) ?_
 refine WO.one (SA.F sameR sameT _ 16 _ (by kernel_rfl)) 21 (.bool false) (by kernel_rfl) ?_
 refine WO.one (SA.F sameR sameT _ 17 _ (by kernel_rfl)) 22 (.bool false) (by kernel_rfl) ?_
 refine WO.one (SA.F sameR sameT _ 18 _ (by kernel_rfl)) 23 (.pointer (some ⟨g, 0, none⟩)) (by kernel_rfl) ?_
 refine WO.one (SA.F sameR sameT _ 19 _ (by kernel_rfl)) 24 (.pointer (some ⟨g, 0, none⟩)) (by kernel_rfl) ?_
 refine WO.one (SA.F sameR sameT _ 20 _ (by kernel_rfl)) 25 (.pointer (some ⟨g, 0, none⟩)) (by kernel_rfl) ?_
 refine WO.ld (SA.S sameR sameT _ 21 _ (by kernel_rfl)) 26 (.string (str s)) (by kernel_rfl) (same (HB.at 0 (by kernel_rfl))) ?_
 refine WO.one (SA.F sameR sameT _ 22 _ (by kernel_rfl)) 27 (.pointer (some ⟨g, 0, none⟩)) (by kernel_rfl) ?_
 refine WO.one (SA.F sameR sameT _ 23 _ (by kernel_rfl)) 28 (.pointer (some ⟨g, 0, none⟩)) (by kernel_rfl) ?_
 refine WO.one (SA.F sameR sameT _ 24 _ (by kernel_rfl)) 29 (.pointer (some ⟨g, 1, none⟩)) (by kernel_rfl) ?_
 refine WO.ld (SA.S sameR sameT _ 25 _ (by kernel_rfl)) 30 (.int .i64 (p : Int)) (by kernel_rfl) (same (HB.at 1 (by kernel_rfl))) ?_
 refine WO.ixS (i := (p : Int)) (SA.F sameR sameT _ 26 _ (by kernel_rfl)) 31 p s (by kernel_rfl) (by rfl) (by omega) ?_
 refine WO.one (SA.F sameR sameT _ 27 _ (by kernel_rfl)) 32 (.int .u8 (c.toNat : Int)) (by kernel_rfl) ?_
 refine WO.one (SA.F sameR sameT _ 28 _ (by kernel_rfl)) 33 (.bool (!decide ((((gB s p).toNat : Int) : Int) = (c.toNat : Int)))) (by kernel_rfl) ?_
 refine WO.topNT ((((gB s p).toNat : Int) : Int) = (c.toNat : Int)) (by rw [hc]) ?_
 refine WO.one (SA.F sameR sameT _ 29 _ (by kernel_rfl)) 34 (.bool false) (by kernel_rfl) ?_
 refine WO.doneA (by kernel_rfl) ?_
 refine WQ.keep [0, 1, 4, 34] (e' := [(0, .pointer (some ⟨g, 0, none⟩)), (1, .int .u8 (c.toNat : Int)), (4, .bool false), (34, .bool false)]) (by kernel_rfl) ?_
 refine WQ.thenN ?_
 refine WE.condF (by kernel_rfl) ?_
 refine WE.skip ?_
 refine WQ.thenN ?_
 refine WE.seq ?_
 refine WE.region ?_
 refine WO.run 3 0 [(37, .pointer (some ⟨g, 1, none⟩)), (36, .pointer (some ⟨g, 0, none⟩)), (35, .pointer (some ⟨g, 0, none⟩))] (by kernel_rfl) (by kernel_rfl) ?_
 refine WO.ld (SQ.S 3 (by kernel_rfl)) 38 (.int .i64 (p : Int)) (by kernel_rfl) (same (HB.at 1 (by kernel_rfl))) ?_
 refine WO.one (SQ.F 4 (by kernel_rfl)) 39 (.int .i64 (IntKind.i64.wrap ((p : Int) + 1))) (by kernel_rfl) ?_
 refine WO.top (v' := .int .i64 ((p + 1 : Nat) : Int)) (wrap_i64 (by omega) (by omega)) ?_
 refine WO.run 2 5 [(41, .pointer (some ⟨g, 1, none⟩)), (40, .pointer (some ⟨g, 0, none⟩))] (by kernel_rfl) (by kernel_rfl) ?_
 refine WO.st (SQ.E 7 (by kernel_rfl)) g 1 [.int .i64 ((p + 1 : Nat) : Int)] #[.string (str s), .int .i64 ((p + 1 : Nat) : Int), .int .i64 (-1)] (by kernel_rfl) HB (by kernel_rfl) (by kernel_rfl) (fun _ _ => trivial) ?_
 intro w3 HB5 F4 _
 have HA := Fr.step HA F4 (inSL (by simp) inS0)
 refine WO.done (by kernel_rfl) ?_
 refine WQ.keep [0, 1, 4, 34] (e' := [(0, .pointer (some ⟨g, 0, none⟩)), (1, .int .u8 (c.toNat : Int)), (4, .bool false), (34, .bool false)]) (by kernel_rfl) ?_
 refine WQ.thenN ?_
 refine WE.seq ?_
 refine WE.region ?_
 refine WO.run 1 0 [(4, .bool true)] (by kernel_rfl) (by kernel_rfl) ?_
 refine WO.done (by kernel_rfl) ?_
 refine WQ.keep [0, 1, 4, 34] (e' := [(0, .pointer (some ⟨g, 0, none⟩)), (1, .int .u8 (c.toNat : Int)), (4, .bool true), (34, .bool false)]) (by kernel_rfl) ?_
 refine WQ.thenN ?_
 refine WE.ret ?_
 refine WQ.ret (v := .bool true) (by kernel_rfl) ?_
 exact ⟨rfl, HB5, HA⟩
set_option maxRecDepth 100000 in
set_option maxHeartbeats 400000 in
theorem next_no (g : Nat) (s : L) (p : Nat) (w : World) (hp : p ≤ s.length) (hs : s.length ≤ 1000000) (c : UInt8) (hc : ¬ (p < s.length ∧ gB s p = c)) (HB : Blk w g #[.string (str s), .int .i64 (p : Int), .int .i64 (-1)] 60) :
  Calls Tryd.prog 34 #[.pointer (some ⟨g, 0, none⟩), .int .u8 (c.toNat : Int)] w fun e w' => e = .returned (.bool false) ∧ Blk w' g #[.string (str s), .int .i64 (p : Int), .int .i64 (-1)] 60 ∧ Fr [g] w w' := by
 have HA := Fr.refl [g] w
 refine enter (N := 42) Tryd.func34 (c := _) rfl (by kernel_rfl) (by kernel_rfl) (e := [(0, .pointer (some ⟨g, 0, none⟩)), (1, .int .u8 (c.toNat : Int))]) (by kernel_rfl) ?_
 refine WE.seq ?_
 refine WE.region ?_
 refine WO.run 1 0 [(4, .bool false)] (by kernel_rfl) (by kernel_rfl) ?_
 refine WO.done (by kernel_rfl) ?_
 refine WQ.keep [0, 1, 4] (e' := [(0, .pointer (some ⟨g, 0, none⟩)), (1, .int .u8 (c.toNat : Int)), (4, .bool false)]) (by kernel_rfl) ?_
 refine WQ.thenN ?_
 refine WE.seq ?_
 refine WE.seq ?_
 refine WE.draw [.free, .free, .free, .still, .free, .free, .free, .free, .free, .still, .free, .free, .free, .still, .free, .free, .free, .free, .free, .free, .free, .still, .free, .free, .free, .still, .free, .free, .free, .free] Same sameR (by kernel_rfl) 30 (Array.replicate 30 false) (by kernel_rfl) rfl ?_
 intro w1 F2 _
 have HB := Blk.keep HB F2 (nin0 _)
 have HA := Fr.step0 HA F2
 refine WO.one (SA.F sameR sameT _ 0 _ (by kernel_rfl)) 5 (.pointer (some ⟨g, 0, none⟩)) (by kernel_rfl) ?_
 refine WO.one (SA.F sameR sameT _ 1 _ (by kernel_rfl)) 6 (.pointer (some ⟨g, 0, none⟩)) (by kernel_rfl) ?_
 refine WO.one (SA.F sameR sameT _ 2 _ (by kernel_rfl)) 7 (.pointer (some ⟨g, 2, none⟩)) (by kernel_rfl) ?_
 refine WO.ld (SA.S sameR sameT _ 3 _ (by kernel_rfl)) 8 (.int .i64 (-1)) (by kernel_rfl) (same (HB.at 2 (by kernel_rfl))) ?_
 refine WO.one (SA.F sameR sameT _ 4 _ (by kernel_rfl)) 9 (.bool false) (by kernel_rfl) ?_
 refine WO.one (SA.F sameR sameT _ 5 _ (by kernel_rfl)) 10 (.bool false) (by kernel_rfl) ?_
 refine WO.one (SA.F sameR sameT _ 6 _ (by kernel_rfl)) 11 (.pointer (some ⟨g, 0, none⟩)) (by kernel_rfl) ?_
 refine WO.one (SA.F sameR sameT _ 7 _ (by kernel_rfl)) 12 (.pointer (some ⟨g, 0, none⟩)) (by kernel_rfl) ?_
 refine WO.one (SA.F sameR sameT _ 8 _ (by kernel_rfl)) 13 (.pointer (some ⟨g, 1, none⟩)) (by kernel_rfl) ?_
 refine WO.ld (SA.S sameR sameT _ 9 _ (by kernel_rfl)) 14 (.int .i64 (p : Int)) (by kernel_rfl) (same (HB.at 1 (by kernel_rfl))) ?_
 refine WO.one (SA.F sameR sameT _ 10 _ (by kernel_rfl)) 15 (.pointer (some ⟨g, 0, none⟩)) (by kernel_rfl) ?_
 refine WO.one (SA.F sameR sameT _ 11 _ (by kernel_rfl)) 16 (.pointer (some ⟨g, 0, none⟩)) (by kernel_rfl) ?_
 refine WO.one (SA.F sameR sameT _ 12 _ (by kernel_rfl)) 17 (.pointer (some ⟨g, 0, none⟩)) (by kernel_rfl) ?_
 refine WO.ld (SA.S sameR sameT _ 13 _ (by kernel_rfl)) 18 (.string (str s)) (by kernel_rfl) (same (HB.at 0 (by kernel_rfl))) ?_
 refine WO.one (SA.F sameR sameT _ 14 _ (by kernel_rfl)) 19 (.int .i64 (s.length : Int)) (by kernel_rfl) ?_
 refine WO.one (SA.F sameR sameT _ 15 _ (by kernel_rfl)) 20 (.bool (decide (((p : Int) : Int) ≥ (s.length : Int)))) (by kernel_rfl) ?_
 refine WO.topP (((p : Int) : Int) ≥ (s.length : Int)) ?_ ?_
 ·
  intro h3
  refine WO.one (SA.F sameR sameT _ 16 _ (by kernel_rfl)) 21 (.bool true) (by kernel_rfl) ?_
  refine WO.one (SA.F sameR sameT _ 17 _ (by kernel_rfl)) 22 (.bool true) (by kernel_rfl) ?_
  refine WO.off (SA.O sameR sameT _ 18 _ (by kernel_rfl)) 23 (by kernel_rfl) ?_
  refine WO.off (SA.O sameR sameT _ 19 _ (by kernel_rfl)) 24 (by kernel_rfl) ?_
  refine WO.off (SA.O sameR sameT _ 20 _ (by kernel_rfl)) 25 (by kernel_rfl) ?_
  refine WO.off (SA.O sameR sameT _ 21 _ (by kernel_rfl)) 26 (by kernel_rfl) ?_
  refine WO.off (SA.O sameR sameT _ 22 _ (by kernel_rfl)) 27 (by kernel_rfl) ?_
  refine WO.off (SA.O sameR sameT _ 23 _ (by kernel_rfl)) 28 (by kernel_rfl) ?_
  refine WO.off (SA.O sameR sameT _ 24 _ (by kernel_rfl)) 29 (by kernel_rfl) ?_
  refine WO.off (SA.O sameR sameT _ 25 _ (by kernel_rfl)) 30 (by kernel_rfl) ?_
  refine WO.off (SA.O sameR sameT _ 26 _ (by kernel_rfl)) 31 (by kernel_rfl) ?_
  refine WO.off (SA.O sameR sameT _ 27 _ (by kernel_rfl)) 32 (by kernel_rfl) ?_
  refine WO.off (SA.O sameR sameT _ 28 _ (by kernel_rfl)) 33 (by kernel_rfl) ?_
  refine WO.one (SA.F sameR sameT _ 29 _ (by kernel_rfl)) 34 (.bool true) (by kernel_rfl) ?_
  refine WO.doneA (by kernel_rfl) ?_
  refine WQ.keep [0, 1, 4, 34] (e' := [(0, .pointer (some ⟨g, 0, none⟩)), (1, .int .u8 (c.toNat : Int)), (4, .bool false), (34, .bool true)]) (by kernel_rfl) ?_
  refine WQ.thenN ?_
  refine WE.condT (by kernel_rfl) ?_
  refine WE.seq ?_
  refine WE.region ?_
  refine WO.run 1 0 [(4, .bool false)] (by kernel_rfl) (by kernel_rfl) ?_
  refine WO.done (by kernel_rfl) ?_
  refine WQ.keep [0, 1, 4, 34] (e' := [(0, .pointer (some ⟨g, 0, none⟩)), (1, .int .u8 (c.toNat : Int)), (4, .bool false), (34, .bool true)]) (by kernel_rfl) ?_
  refine WQ.thenN ?_
  refine WE.ret ?_
  refine WQ.thenR ?_
  refine WQ.ret (v := .bool false) (by kernel_rfl) ?_
  exact ⟨rfl, HB, HA⟩
 intro h3
 refine WO.one (SA.F sameR sameT _ 16 _ (by kernel_rfl)) 21 (.bool false) (by kernel_rfl) ?_
 refine WO.one (SA.F sameR sameT _ 17 _ (by kernel_rfl)) 22 (.bool false) (by kernel_rfl) ?_
 refine WO.one (SA.F sameR sameT _ 18 _ (by kernel_rfl)) 23 (.pointer (some ⟨g, 0, none⟩)) (by kernel_rfl) ?_
 refine WO.one (SA.F sameR sameT _ 19 _ (by kernel_rfl)) 24 (.pointer (some ⟨g, 0, none⟩)) (by kernel_rfl) ?_
 refine WO.one (SA.F sameR sameT _ 20 _ (by kernel_rfl)) 25 (.pointer (some ⟨g, 0, none⟩)) (by kernel_rfl) ?_
 refine WO.ld (SA.S sameR sameT _ 21 _ (by kernel_rfl)) 26 (.string (str s)) (by kernel_rfl) (same (HB.at 0 (by kernel_rfl))) ?_
 refine WO.one (SA.F sameR sameT _ 22 _ (by kernel_rfl)) 27 (.pointer (some ⟨g, 0, none⟩)) (by kernel_rfl) ?_
 refine WO.one (SA.F sameR sameT _ 23 _ (by kernel_rfl)) 28 (.pointer (some ⟨g, 0, none⟩)) (by kernel_rfl) ?_
 refine WO.one (SA.F sameR sameT _ 24 _ (by kernel_rfl)) 29 (.pointer (some ⟨g, 1, none⟩)) (by kernel_rfl) ?_
 refine WO.ld (SA.S sameR sameT _ 25 _ (by kernel_rfl)) 30 (.int .i64 (p : Int)) (by kernel_rfl) (same (HB.at 1 (by kernel_rfl))) ?_
 refine WO.ixS (i := (p : Int)) (SA.F sameR sameT _ 26 _ (by kernel_rfl)) 31 p s (by kernel_rfl) (by rfl) (by omega) ?_
 refine WO.one (SA.F sameR sameT _ 27 _ (by kernel_rfl)) 32 (.int .u8 (c.toNat : Int)) (by kernel_rfl) ?_
 refine WO.one (SA.F sameR sameT _ 28 _ (by kernel_rfl)) 33 (.bool (!decide ((((gB s p).toNat : Int) : Int) = (c.toNat : Int)))) (by kernel_rfl) ?_
 refine WO.topNF ((((gB s p).toNat : Int) : Int) = (c.toNat : Int)) (by intro h_; exact hc ⟨by omega, u8_eq h_⟩) ?_
 refine WO.one (SA.F sameR sameT _ 29 _ (by kernel_rfl)) 34 (.bool true) (by kernel_rfl) ?_
 refine WO.doneA (by kernel_rfl) ?_
 refine WQ.keep [0, 1, 4, 34] (e' := [(0, .pointer (some ⟨g, 0, none⟩)), (1, .int .u8 (c.toNat : Int)), (4, .bool false), (34, .bool true)]) (by kernel_rfl) ?_
 refine WQ.thenN ?_
 refine WE.condT (by kernel_rfl) ?_
 refine WE.seq ?_
 refine WE.region ?_
 refine WO.run 1 0 [(4, .bool false)] (by kernel_rfl) (by kernel_rfl) ?_
 refine WO.done (by kernel_rfl) ?_
 refine WQ.keep [0, 1, 4, 34] (e' := [(0, .pointer (some ⟨g, 0, none⟩)), (1, .int .u8 (c.toNat : Int)), (4, .bool false), (34, .bool true)]) (by kernel_rfl) ?_
 refine WQ.thenN ?_
 refine WE.ret ?_
 refine WQ.thenR ?_
 refine WQ.ret (v := .bool false) (by kernel_rfl) ?_
 exact ⟨rfl, HB, HA⟩
set_option maxRecDepth 100000 in
set_option maxHeartbeats 400000 in
theorem sign_yes (g : Nat) (s : L) (p : Nat) (w : World) (hp : p ≤ s.length) (hs : s.length ≤ 1000000) (c : UInt8) (hlt : p < s.length) (hc : gB s p = c) (HB : Blk w g #[.string (str s), .int .i64 (p : Int), .int .i64 (-1)] 60) :
  Calls Tryd.prog 36 #[.pointer (some ⟨g, 0, none⟩), .int .u8 (c.toNat : Int)] w fun e w' => e = .returned (.tuple #[]) ∧ Blk w' g #[.string (str s), .int .i64 ((p + 1 : Nat) : Int), .int .i64 (-1)] 60 ∧ Fr [g] w w' := by
 have HA := Fr.refl [g] w
 refine enter (N := 14) Tryd.func36 (c := _) rfl (by kernel_rfl) (by kernel_rfl) (e := [(0, .pointer (some ⟨g, 0, none⟩)), (1, .int .u8 (c.toNat : Int))]) (by kernel_rfl) ?_
 refine WE.seq ?_
 refine WE.region ?_
 refine WO.run 2 0 [(5, .int .u8 (c.toNat : Int)), (4, .pointer (some ⟨g, 0, none⟩))] (by kernel_rfl) (by kernel_rfl) ?_
 refine WO.call (SQ.E 2 (by kernel_rfl)) 6 (by kernel_rfl) (next_yes g s p _ hp hs c hlt hc HB) ?_
 rintro _ w1 ⟨rfl, HB3, F2⟩
 refine ⟨_, rfl, trivial, ?_⟩
 have HA := Fr.step HA F2 (inSL (by simp) inS0)
 refine WO.run 1 3 [(7, .bool false)] (by kernel_rfl) (by kernel_rfl) ?_
 refine WO.done (by kernel_rfl) ?_
 refine WQ.keep [0, 1, 7] (e' := [(0, .pointer (some ⟨g, 0, none⟩)), (1, .int .u8 (c.toNat : Int)), (7, .bool false)]) (by kernel_rfl) ?_
 refine WQ.thenN ?_
 refine WE.condF (by kernel_rfl) ?_
 refine WE.skip ?_
 refine WQ.fall (v := .tuple #[]) (by kernel_rfl) ?_
 exact ⟨rfl, HB3, HA⟩
set_option maxRecDepth 100000 in
set_option maxHeartbeats 400000 in
theorem sign_no (g : Nat) (s : L) (p : Nat) (w : World) (hp : p ≤ s.length) (hs : s.length ≤ 1000000) (c : UInt8) (hc : ¬ (p < s.length ∧ gB s p = c)) (HB : Blk w g #[.string (str s), .int .i64 (p : Int), .int .i64 (-1)] 60) :
  Calls Tryd.prog 36 #[.pointer (some ⟨g, 0, none⟩), .int .u8 (c.toNat : Int)] w fun e w' => e = .returned (.tuple #[]) ∧ Blk w' g #[.string (str s), .int .i64 (p : Int), .int .i64 (p : Int)] 60 ∧ Fr [g] w w' := by
 have HA := Fr.refl [g] w
 refine enter (N := 14) Tryd.func36 (c := _) rfl (by kernel_rfl) (by kernel_rfl) (e := [(0, .pointer (some ⟨g, 0, none⟩)), (1, .int .u8 (c.toNat : Int))]) (by kernel_rfl) ?_
 refine WE.seq ?_
 refine WE.region ?_
 refine WO.run 2 0 [(5, .int .u8 (c.toNat : Int)), (4, .pointer (some ⟨g, 0, none⟩))] (by kernel_rfl) (by kernel_rfl) ?_
 refine WO.call (SQ.E 2 (by kernel_rfl)) 6 (by kernel_rfl) (next_no g s p _ hp hs c hc HB) ?_
 rintro _ w1 ⟨rfl, HB3, F2⟩
 refine ⟨_, rfl, trivial, ?_⟩
 have HA := Fr.step HA F2 (inSL (by simp) inS0)
 refine WO.run 1 3 [(7, .bool true)] (by kernel_rfl) (by kernel_rfl) ?_
 refine WO.done (by kernel_rfl) ?_
 refine WQ.keep [0, 1, 7] (e' := [(0, .pointer (some ⟨g, 0, none⟩)), (1, .int .u8 (c.toNat : Int)), (7, .bool true)]) (by kernel_rfl) ?_
 refine WQ.thenN ?_
 refine WE.condT (by kernel_rfl) ?_
 refine WE.region ?_
 refine WO.run 4 0 [(11, .pointer (some ⟨g, 1, none⟩)), (10, .pointer (some ⟨g, 0, none⟩)), (9, .pointer (some ⟨g, 0, none⟩)), (8, .pointer (some ⟨g, 0, none⟩))] (by kernel_rfl) (by kernel_rfl) ?_
 refine WO.ld (SQ.S 4 (by kernel_rfl)) 12 (.int .i64 (p : Int)) (by kernel_rfl) (same (HB3.at 1 (by kernel_rfl))) ?_
 refine WO.call (SQ.E 5 (by kernel_rfl)) 13 (by kernel_rfl) (fail_ok g s p _ (by omega) hs ((p : Int) : Int) HB3) ?_
 rintro _ w4 ⟨rfl, HB6, F5⟩
 refine ⟨_, rfl, trivial, ?_⟩
 have HA := Fr.step HA F5 (inSL (by simp) inS0)
 refine WO.done (by kernel_rfl) ?_
 refine WQ.keep [0, 1, 7] (e' := [(0, .pointer (some ⟨g, 0, none⟩)), (1, .int .u8 (c.toNat : Int)), (7, .bool true)]) (by kernel_rfl) ?_
 refine WQ.fall (v := .tuple #[]) (by kernel_rfl) ?_
 exact ⟨rfl, HB6, HA⟩
set_option maxRecDepth 100000 in
set_option maxHeartbeats 400000 in
theorem sign_bad (g : Nat) (s : L) (p : Nat) (bz : Int) (w : World) (hp : p ≤ s.length) (hs : s.length ≤ 1000000) (hbz : 0 ≤ bz) (c : UInt8) (HB : Blk w g #[.string (str s), .int .i64 (p : Int), .int .i64 bz] 60) :
  Calls Tryd.prog 36 #[.pointer (some ⟨g, 0, none⟩), .int .u8 (c.toNat : Int)] w fun e w' => e = .returned (.tuple #[]) ∧ Blk w' g #[.string (str s), .int .i64 (p : Int), .int .i64 bz] 60 ∧ Fr [g] w w' := by
 have HA := Fr.refl [g] w
 refine enter (N := 14) Tryd.func36 (c := _) rfl (by kernel_rfl) (by kernel_rfl) (e := [(0, .pointer (some ⟨g, 0, none⟩)), (1, .int .u8 (c.toNat : Int))]) (by kernel_rfl) ?_
 refine WE.seq ?_
 refine WE.region ?_
 refine WO.run 2 0 [(5, .int .u8 (c.toNat : Int)), (4, .pointer (some ⟨g, 0, none⟩))] (by kernel_rfl) (by kernel_rfl) ?_
 refine WO.call (SQ.E 2 (by kernel_rfl)) 6 (by kernel_rfl) (next_bad g s p bz _ hp hs hbz c HB) ?_
 rintro _ w1 ⟨rfl, HB3, F2⟩
 refine ⟨_, rfl, trivial, ?_⟩
 have HA := Fr.step HA F2 (inSL (by simp) inS0)
 refine WO.run 1 3 [(7, .bool true)] (by kernel_rfl) (by kernel_rfl) ?_
 refine WO.done (by kernel_rfl) ?_
 refine WQ.keep [0, 1, 7] (e' := [(0, .pointer (some ⟨g, 0, none⟩)), (1, .int .u8 (c.toNat : Int)), (7, .bool true)]) (by kernel_rfl) ?_
 refine WQ.thenN ?_
 refine WE.condT (by kernel_rfl) ?_
 refine WE.region ?_
 refine WO.run 4 0 [(11, .pointer (some ⟨g, 1, none⟩)), (10, .pointer (some ⟨g, 0, none⟩)), (9, .pointer (some ⟨g, 0, none⟩)), (8, .pointer (some ⟨g, 0, none⟩))] (by kernel_rfl) (by kernel_rfl) ?_
 refine WO.ld (SQ.S 4 (by kernel_rfl)) 12 (.int .i64 (p : Int)) (by kernel_rfl) (same (HB3.at 1 (by kernel_rfl))) ?_
 refine WO.call (SQ.E 5 (by kernel_rfl)) 13 (by kernel_rfl) (fail_bad g s p bz _ (by omega) hs hbz ((p : Int) : Int) HB3) ?_
 rintro _ w4 ⟨rfl, HB6, F5⟩
 refine ⟨_, rfl, trivial, ?_⟩
 have HA := Fr.step HA F5 (inSL (by simp) inS0)
 refine WO.done (by kernel_rfl) ?_
 refine WQ.keep [0, 1, 7] (e' := [(0, .pointer (some ⟨g, 0, none⟩)), (1, .int .u8 (c.toNat : Int)), (7, .bool true)]) (by kernel_rfl) ?_
 refine WQ.fall (v := .tuple #[]) (by kernel_rfl) ?_
 exact ⟨rfl, HB6, HA⟩
set_option maxRecDepth 100000 in
set_option maxHeartbeats 400000 in
theorem one_bad (g : Nat) (s : L) (p : Nat) (bz : Int) (w : World) (hp : p ≤ s.length) (hs : s.length ≤ 1000000) (hbz : 0 ≤ bz) (HB : Blk w g #[.string (str s), .int .i64 (p : Int), .int .i64 bz] 60) :
  Calls Tryd.prog 38 #[.pointer (some ⟨g, 0, none⟩)] w fun e w' => e = .returned (.string (⟨#[63]⟩)) ∧ Blk w' g #[.string (str s), .int .i64 (p : Int), .int .i64 bz] 60 ∧ Fr [g] w w' := by
 have HA := Fr.refl [g] w
 refine enter (N := 41) Tryd.func38 (c := _) rfl (by kernel_rfl) (by kernel_rfl) (e := [(0, .pointer (some ⟨g, 0, none⟩))]) (by kernel_rfl) ?_
 refine WE.seq ?_
 refine WE.region ?_
 refine WO.run 1 0 [(2, .string (⟨#[]⟩))] (by kernel_rfl) (by kernel_rfl) ?_
 refine WO.done (by kernel_rfl) ?_
 refine WQ.keep [0, 2] (e' := [(0, .pointer (some ⟨g, 0, none⟩)), (2, .string (⟨#[]⟩))]) (by kernel_rfl) ?_
 refine WQ.thenN ?_
 refine WE.seq ?_
 refine WE.seq ?_
 refine WE.draw [.free, .free, .free, .still, .free, .free, .free, .free, .free, .still, .free, .free, .free, .still, .free, .free, .free] Same sameR (by kernel_rfl) 17 (Array.replicate 17 false) (by kernel_rfl) rfl ?_
 intro w1 F2 _
 have HB := Blk.keep HB F2 (nin0 _)
 have HA := Fr.step0 HA F2
 refine WO.one (SA.F sameR sameT _ 0 _ (by kernel_rfl)) 3 (.pointer (some ⟨g, 0, none⟩)) (by kernel_rfl) ?_
 refine WO.one (SA.F sameR sameT _ 1 _ (by kernel_rfl)) 4 (.pointer (some ⟨g, 0, none⟩)) (by kernel_rfl) ?_
 refine WO.one (SA.F sameR sameT _ 2 _ (by kernel_rfl)) 5 (.pointer (some ⟨g, 2, none⟩)) (by kernel_rfl) ?_
 refine WO.ld (SA.S sameR sameT _ 3 _ (by kernel_rfl)) 6 (.int .i64 bz) (by kernel_rfl) (same (HB.at 2 (by kernel_rfl))) ?_
 refine WO.one (SA.F sameR sameT _ 4 _ (by kernel_rfl)) 7 (.bool (decide ((bz : Int) ≥ 0))) (by kernel_rfl) ?_
 refine WO.topPT ((bz : Int) ≥ 0) (by omega) ?_
 refine WO.one (SA.F sameR sameT _ 5 _ (by kernel_rfl)) 8 (.bool true) (by kernel_rfl) ?_
 refine WO.off (SA.O sameR sameT _ 6 _ (by kernel_rfl)) 9 (by kernel_rfl) ?_
 refine WO.off (SA.O sameR sameT _ 7 _ (by kernel_rfl)) 10 (by kernel_rfl) ?_
 refine WO.off (SA.O sameR sameT _ 8 _ (by kernel_rfl)) 11 (by kernel_rfl) ?_
 refine WO.off (SA.O sameR sameT _ 9 _ (by kernel_rfl)) 12 (by kernel_rfl) ?_
 refine WO.off (SA.O sameR sameT _ 10 _ (by kernel_rfl)) 13 (by kernel_rfl) ?_
 refine WO.off (SA.O sameR sameT _ 11 _ (by kernel_rfl)) 14 (by kernel_rfl) ?_
 refine WO.off (SA.O sameR sameT _ 12 _ (by kernel_rfl)) 15 (by kernel_rfl) ?_
 refine WO.off (SA.O sameR sameT _ 13 _ (by kernel_rfl)) 16 (by kernel_rfl) ?_
 refine WO.off (SA.O sameR sameT _ 14 _ (by kernel_rfl)) 17 (by kernel_rfl) ?_
 refine WO.off (SA.O sameR sameT _ 15 _ (by kernel_rfl)) 18 (by kernel_rfl) ?_
 refine WO.one (SA.F sameR sameT _ 16 _ (by kernel_rfl)) 19 (.bool true) (by kernel_rfl) ?_
 refine WO.doneA (by kernel_rfl) ?_
 refine WQ.keep [0, 2, 19] (e' := [(0, .pointer (some ⟨g, 0, none⟩)), (2, .string (⟨#[]⟩)), (19, .bool true)]) (by kernel_rfl) ?_
 refine WQ.thenN ?_
 refine WE.condT (by kernel_rfl) ?_
 refine WE.seq ?_
 refine WE.region ?_
 refine WO.run 1 0 [(2, .string (⟨#[63]⟩))] (by kernel_rfl) (by kernel_rfl) ?_
 refine WO.done (by kernel_rfl) ?_
 refine WQ.keep [0, 2, 19] (e' := [(0, .pointer (some ⟨g, 0, none⟩)), (2, .string (⟨#[63]⟩)), (19, .bool true)]) (by kernel_rfl) ?_
 refine WQ.thenN ?_
 refine WE.ret ?_
 refine WQ.thenR ?_
 refine WQ.ret (v := .string (⟨#[63]⟩)) (by kernel_rfl) ?_
 exact ⟨rfl, HB, HA⟩
set_option maxRecDepth 100000 in
set_option maxHeartbeats 400000 in
theorem one_end (g : Nat) (s : L) (p : Nat) (w : World) (hp : p ≤ s.length) (hs : s.length ≤ 1000000) (he : s.length ≤ p) (HB : Blk w g #[.string (str s), .int .i64 (p : Int), .int .i64 (-1)] 60) :
  Calls Tryd.prog 38 #[.pointer (some ⟨g, 0, none⟩)] w fun e w' => e = .returned (.string (⟨#[63]⟩)) ∧ Blk w' g #[.string (str s), .int .i64 (p : Int), .int .i64 (-1)] 60 ∧ Fr [g] w w' := by
 have HA := Fr.refl [g] w
 refine enter (N := 41) Tryd.func38 (c := _) rfl (by kernel_rfl) (by kernel_rfl) (e := [(0, .pointer (some ⟨g, 0, none⟩))]) (by kernel_rfl) ?_
 refine WE.seq ?_
 refine WE.region ?_
 refine WO.run 1 0 [(2, .string (⟨#[]⟩))] (by kernel_rfl) (by kernel_rfl) ?_
 refine WO.done (by kernel_rfl) ?_
 refine WQ.keep [0, 2] (e' := [(0, .pointer (some ⟨g, 0, none⟩)), (2, .string (⟨#[]⟩))]) (by kernel_rfl) ?_
 refine WQ.thenN ?_
 refine WE.seq ?_
 refine WE.seq ?_
 refine WE.draw [.free, .free, .free, .still, .free, .free, .free, .free, .free, .still, .free, .free, .free, .still, .free, .free, .free] Same sameR (by kernel_rfl) 17 (Array.replicate 17 false) (by kernel_rfl) rfl ?_
 intro w1 F2 _
 have HB := Blk.keep HB F2 (nin0 _)
 have HA := Fr.step0 HA F2
 refine WO.one (SA.F sameR sameT _ 0 _ (by kernel_rfl)) 3 (.pointer (some ⟨g, 0, none⟩)) (by kernel_rfl) ?_
 refine WO.one (SA.F sameR sameT _ 1 _ (by kernel_rfl)) 4 (.pointer (some ⟨g, 0, none⟩)) (by kernel_rfl) ?_
 refine WO.one (SA.F sameR sameT _ 2 _ (by kernel_rfl)) 5 (.pointer (some ⟨g, 2, none⟩)) (by kernel_rfl) ?_
 refine WO.ld (SA.S sameR sameT _ 3 _ (by kernel_rfl)) 6 (.int .i64 (-1)) (by kernel_rfl) (same (HB.at 2 (by kernel_rfl))) ?_
 refine WO.one (SA.F sameR sameT _ 4 _ (by kernel_rfl)) 7 (.bool false) (by kernel_rfl) ?_
 refine WO.one (SA.F sameR sameT _ 5 _ (by kernel_rfl)) 8 (.bool false) (by kernel_rfl) ?_
 refine WO.one (SA.F sameR sameT _ 6 _ (by kernel_rfl)) 9 (.pointer (some ⟨g, 0, none⟩)) (by kernel_rfl) ?_
 refine WO.one (SA.F sameR sameT _ 7 _ (by kernel_rfl)) 10 (.pointer (some ⟨g, 0, none⟩)) (by kernel_rfl) ?_
 refine WO.one (SA.F sameR sameT _ 8 _ (by kernel_rfl)) 11 (.pointer (some ⟨g, 1, none⟩)) (by kernel_rfl) ?_
 refine WO.ld (SA.S sameR sameT _ 9 _ (by kernel_rfl)) 12 (.int .i64 (p : Int)) (by kernel_rfl) (same (HB.at 1 (by kernel_rfl))) ?_
 refine WO.one (SA.F sameR sameT _ 10 _ (by kernel_rfl)) 13 (.pointer (some ⟨g, 0, none⟩)) (by kernel_rfl) ?_
 refine WO.one (SA.F sameR sameT _ 11 _ (by kernel_rfl)) 14 (.pointer (some ⟨g, 0, none⟩)) (by kernel_rfl) ?_
 refine WO.one (SA.F sameR sameT _ 12 _ (by kernel_rfl)) 15 (.pointer (some ⟨g, 0, none⟩)) (by kernel_rfl) ?_
 refine WO.ld (SA.S sameR sameT _ 13 _ (by kernel_rfl)) 16 (.string (str s)) (by kernel_rfl) (same (HB.at 0 (by kernel_rfl))) ?_
 refine WO.one (SA.F sameR sameT _ 14 _ (by kernel_rfl)) 17 (.int .i64 (s.length : Int)) (by kernel_rfl) ?_
 refine WO.one (SA.F sameR sameT _ 15 _ (by kernel_rfl)) 18 (.bool (decide (((p : Int) : Int) ≥ (s.length : Int)))) (by kernel_rfl) ?_
 refine WO.topPT (((p : Int) : Int) ≥ (s.length : Int)) (by omega) ?_
 refine WO.one (SA.F sameR sameT _ 16 _ (by kernel_rfl)) 19 (.bool true) (by kernel_rfl) ?_
 refine WO.doneA (by kernel_rfl) ?_
 refine WQ.keep [0, 2, 19] (e' := [(0, .pointer (some ⟨g, 0, none⟩)), (2, .string (⟨#[]⟩)), (19, .bool true)]) (by kernel_rfl) ?_
 refine WQ.thenN ?_
 refine WE.condT (by kernel_rfl) ?_
 refine WE.seq ?_
 refine WE.region ?_
 refine WO.run 1 0 [(2, .string (⟨#[63]⟩))] (by kernel_rfl) (by kernel_rfl) ?_
 refine WO.done (by kernel_rfl) ?_
 refine WQ.keep [0, 2, 19] (e' := [(0, .pointer (some ⟨g, 0, none⟩)), (2, .string (⟨#[63]⟩)), (19, .bool true)]) (by kernel_rfl) ?_
 refine WQ.thenN ?_
 refine WE.ret ?_
 refine WQ.thenR ?_
 refine WQ.ret (v := .string (⟨#[63]⟩)) (by kernel_rfl) ?_
 exact ⟨rfl, HB, HA⟩
set_option maxRecDepth 100000 in
set_option maxHeartbeats 400000 in
theorem one_yes (g : Nat) (s : L) (p : Nat) (w : World) (hp : p ≤ s.length) (hs : s.length ≤ 1000000) (hlt : p < s.length) (HB : Blk w g #[.string (str s), .int .i64 (p : Int), .int .i64 (-1)] 60) :
  Calls Tryd.prog 38 #[.pointer (some ⟨g, 0, none⟩)] w fun e w' => e = .returned (.string (str [gB s p])) ∧ Blk w' g #[.string (str s), .int .i64 ((p + 1 : Nat) : Int), .int .i64 (-1)] 60 ∧ Fr [g] w w' := by
 have HA := Fr.refl [g] w
 refine enter (N := 41) Tryd.func38 (c := _) rfl (by kernel_rfl) (by kernel_rfl) (e := [(0, .pointer (some ⟨g, 0, none⟩))]) (by kernel_rfl) ?_
 refine WE.seq ?_
 refine WE.region ?_
 refine WO.run 1 0 [(2, .string (⟨#[]⟩))] (by kernel_rfl) (by kernel_rfl) ?_
 refine WO.done (by kernel_rfl) ?_
 refine WQ.keep [0, 2] (e' := [(0, .pointer (some ⟨g, 0, none⟩)), (2, .string (⟨#[]⟩))]) (by kernel_rfl) ?_
 refine WQ.thenN ?_
 refine WE.seq ?_
 refine WE.seq ?_
 refine WE.draw [.free, .free, .free, .still, .free, .free, .free, .free, .free, .still, .free, .free, .free, .still, .free, .free, .free] Same sameR (by kernel_rfl) 17 (Array.replicate 17 false) (by kernel_rfl) rfl ?_
 intro w1 F2 _
 have HB := Blk.keep HB F2 (nin0 _)
 have HA := Fr.step0 HA F2
 refine WO.one (SA.F sameR sameT _ 0 _ (by kernel_rfl)) 3 (.pointer (some ⟨g, 0, none⟩)) (by kernel_rfl) ?_
 refine WO.one (SA.F sameR sameT _ 1 _ (by kernel_rfl)) 4 (.pointer (some ⟨g, 0, none⟩)) (by kernel_rfl) ?_
 refine WO.one (SA.F sameR sameT _ 2 _ (by kernel_rfl)) 5 (.pointer (some ⟨g, 2, none⟩)) (by kernel_rfl) ?_
 refine WO.ld (SA.S sameR sameT _ 3 _ (by kernel_rfl)) 6 (.int .i64 (-1)) (by kernel_rfl) (same (HB.at 2 (by kernel_rfl))) ?_
 refine WO.one (SA.F sameR sameT _ 4 _ (by kernel_rfl)) 7 (.bool false) (by kernel_rfl) ?_
 refine WO.one (SA.F sameR sameT _ 5 _ (by kernel_rfl)) 8 (.bool false) (by kernel_rfl) ?_
 refine WO.one (SA.F sameR sameT _ 6 _ (by kernel_rfl)) 9 (.pointer (some ⟨g, 0, none⟩)) (by kernel_rfl) ?_
 refine WO.one (SA.F sameR sameT _ 7 _ (by kernel_rfl)) 10 (.pointer (some ⟨g, 0, none⟩)) (by kernel_rfl) ?_
 refine WO.one (SA.F sameR sameT _ 8 _ (by kernel_rfl)) 11 (.pointer (some ⟨g, 1, none⟩)) (by kernel_rfl) ?_
 refine WO.ld (SA.S sameR sameT _ 9 _ (by kernel_rfl)) 12 (.int .i64 (p : Int)) (by kernel_rfl) (same (HB.at 1 (by kernel_rfl))) ?_
 refine WO.one (SA.F sameR sameT _ 10 _ (by kernel_rfl)) 13 (.pointer (some ⟨g, 0, none⟩)) (by kernel_rfl) ?_
 refine WO.one (SA.F sameR sameT _ 11 _ (by kernel_rfl)) 14 (.pointer (some ⟨g, 0, none⟩)) (by kernel_rfl) ?_
 refine WO.one (SA.F sameR sameT _ 12 _ (by kernel_rfl)) 15 (.pointer (some ⟨g, 0, none⟩)) (by kernel_rfl) ?_
 refine WO.ld (SA.S sameR sameT _ 13 _ (by kernel_rfl)) 16 (.string (str s)) (by kernel_rfl) (same (HB.at 0 (by kernel_rfl))) ?_
 refine WO.one (SA.F sameR sameT _ 14 _ (by kernel_rfl)) 17 (.int .i64 (s.length : Int)) (by kernel_rfl) ?_
 refine WO.one (SA.F sameR sameT _ 15 _ (by kernel_rfl)) 18 (.bool (decide (((p : Int) : Int) ≥ (s.length : Int)))) (by kernel_rfl) ?_
 refine WO.topPF (((p : Int) : Int) ≥ (s.length : Int)) (by omega) ?_
 refine WO.one (SA.F sameR sameT _ 16 _ (by kernel_rfl)) 19 (.bool false) (by kernel_rfl) ?_
 refine WO.doneA (by kernel_rfl) ?_
 refine WQ.keep [0, 2, 19] (e' := [(0, .pointer (some ⟨g, 0, none⟩)), (2, .string (⟨#[]⟩)), (19, .bool false)]) (by kernel_rfl) ?_
 refine WQ.thenN ?_
 refine WE.condF (by kernel_rfl) ?_
 refine WE.skip ?_
 refine WQ.thenN ?_
 refine WE.seq ?_
 refine WE.region ?_
 refine WO.run 3 0 [(22, .pointer (some ⟨g, 1, none⟩)), (21, .pointer (some ⟨g, 0, none⟩)), (20, .pointer (some ⟨g, 0, none⟩))] (by kernel_rfl) (by kernel_rfl) ?_
 refine WO.ld (SQ.S 3 (by kernel_rfl)) 23 (.int .i64 (p : Int)) (by kernel_rfl) (same (HB.at 1 (by kernel_rfl))) ?_
 refine WO.one (SQ.F 4 (by kernel_rfl)) 24 (.int .i64 (IntKind.i64.wrap ((p : Int) + 1))) (by kernel_rfl) ?_
 refine WO.top (v' := .int .i64 ((p + 1 : Nat) : Int)) (wrap_i64 (by omega) (by omega)) ?_
 refine WO.run 2 5 [(26, .pointer (some ⟨g, 1, none⟩)), (25, .pointer (some ⟨g, 0, none⟩))] (by kernel_rfl) (by kernel_rfl) ?_
 refine WO.st (SQ.E 7 (by kernel_rfl)) g 1 [.int .i64 ((p + 1 : Nat) : Int)] #[.string (str s), .int .i64 ((p + 1 : Nat) : Int), .int .i64 (-1)] (by kernel_rfl) HB (by kernel_rfl) (by kernel_rfl) (fun _ _ => trivial) ?_
 intro w3 HB5 F4 _
 have HA := Fr.step HA F4 (inSL (by simp) inS0)
 refine WO.done (by kernel_rfl) ?_
 refine WQ.keep [0, 2, 19] (e' := [(0, .pointer (some ⟨g, 0, none⟩)), (2, .string (⟨#[]⟩)), (19, .bool false)]) (by kernel_rfl) ?_
 refine WQ.thenN ?_
 refine WE.seq ?_
 refine WE.draw [.free, .free, .free, .still, .free, .free, .free, .still, .free, .free, .free, .free, .still, .free, .free] Same sameR (by kernel_rfl) 15 (Array.replicate 15 false) (by kernel_rfl) rfl ?_
 intro w6 F7 _
 have HB5 := Blk.keep HB5 F7 (nin0 _)
 have HA := Fr.step0 HA F7
 refine WO.one (SA.F sameR sameT _ 0 _ (by kernel_rfl)) 27 (.pointer (some ⟨g, 0, none⟩)) (by kernel_rfl) ?_
 refine WO.one (SA.F sameR sameT _ 1 _ (by kernel_rfl)) 28 (.pointer (some ⟨g, 0, none⟩)) (by kernel_rfl) ?_
 refine WO.one (SA.F sameR sameT _ 2 _ (by kernel_rfl)) 29 (.pointer (some ⟨g, 0, none⟩)) (by kernel_rfl) ?_
 refine WO.ld (SA.S sameR sameT _ 3 _ (by kernel_rfl)) 30 (.string (str s)) (by kernel_rfl) (same (HB5.at 0 (by kernel_rfl))) ?_
 refine WO.one (SA.F sameR sameT _ 4 _ (by kernel_rfl)) 31 (.pointer (some ⟨g, 0, none⟩)) (by kernel_rfl) ?_
 refine WO.one (SA.F sameR sameT _ 5 _ (by kernel_rfl)) 32 (.pointer (some ⟨g, 0, none⟩)) (by kernel_rfl) ?_
 refine WO.one (SA.F sameR sameT _ 6 _ (by kernel_rfl)) 33 (.pointer (some ⟨g, 1, none⟩)) (by kernel_rfl) ?_
 refine WO.ld (SA.S sameR sameT _ 7 _ (by kernel_rfl)) 34 (.int .i64 ((p + 1 : Nat) : Int)) (by kernel_rfl) (same (HB5.at 1 (by kernel_rfl))) ?_
 refine WO.one (SA.F sameR sameT _ 8 _ (by kernel_rfl)) 35 (.int .i64 (IntKind.i64.wrap (((p + 1 : Nat) : Int) - 1))) (by kernel_rfl) ?_
 refine WO.top (v' := .int .i64 (p : Int)) (wrap_i64 (by omega) (by omega)) ?_
 refine WO.one (SA.F sameR sameT _ 9 _ (by kernel_rfl)) 36 (.pointer (some ⟨g, 0, none⟩)) (by kernel_rfl) ?_
 refine WO.one (SA.F sameR sameT _ 10 _ (by kernel_rfl)) 37 (.pointer (some ⟨g, 0, none⟩)) (by kernel_rfl) ?_
 refine WO.one (SA.F sameR sameT _ 11 _ (by kernel_rfl)) 38 (.pointer (some ⟨g, 1, none⟩)) (by kernel_rfl) ?_
 refine WO.ld (SA.S sameR sameT _ 12 _ (by kernel_rfl)) 39 (.int .i64 ((p + 1 : Nat) : Int)) (by kernel_rfl) (same (HB5.at 1 (by kernel_rfl))) ?_
 refine WO.slS2 (lo := (p : Int)) (hi := ((p + 1 : Nat) : Int)) (SA.F sameR sameT _ 13 _ (by kernel_rfl)) 40 p (p + 1) s (by kernel_rfl) (by rfl) (by rfl) (by omega) (by omega) ?_
 refine WO.one (SA.F sameR sameT _ 14 _ (by kernel_rfl)) 2 (.string (str ((s.take (p + 1)).drop p))) (by kernel_rfl) ?_
 refine WO.doneA (by kernel_rfl) ?_
 refine WQ.keep [0, 2, 19] (e' := [(0, .pointer (some ⟨g, 0, none⟩)), (2, .string (str ((s.take (p + 1)).drop p))), (19, .bool false)]) (by kernel_rfl) ?_
 refine WQ.thenN ?_
 refine WE.ret ?_
 refine WQ.ret (v := .string (str ((s.take (p + 1)).drop p))) (by kernel_rfl) ?_
 exact ⟨by rw [one_part hlt], HB5, HA⟩
set_option maxRecDepth 100000 in
set_option maxHeartbeats 400000 in
theorem isD_c (c : UInt8) (w : World) :
  Calls Tryd.prog 56 #[.int .u8 (c.toNat : Int)] w fun e w' => e = .returned (.bool (isD c)) ∧ Fr [] w w' := by
 have HA := Fr.refl [] w
 refine enter (N := 9) Tryd.func56 (c := _) rfl (by kernel_rfl) (by kernel_rfl) (e := [(0, .int .u8 (c.toNat : Int))]) (by kernel_rfl) ?_
 refine WE.seq ?_
 refine WE.region ?_
 refine WO.run 1 0 [(2, .bool false)] (by kernel_rfl) (by kernel_rfl) ?_
 refine WO.done (by kernel_rfl) ?_
 refine WQ.keep [0, 2] (e' := [(0, .int .u8 (c.toNat : Int)), (2, .bool false)]) (by kernel_rfl) ?_
 refine WQ.thenN ?_
 refine WE.seq ?_
 refine WE.region ?_
 refine WO.run 1 0 [(3, .int .u8 (c.toNat : Int))] (by kernel_rfl) (by kernel_rfl) ?_
 refine WO.one (SQ.F 1 (by kernel_rfl)) 4 (.bool (decide (((c.toNat : Int) : Int) ≥ (48 : Int)))) (by kernel_rfl) ?_
 refine WO.topP (((c.toNat : Int) : Int) ≥ (48 : Int)) ?_ ?_
 ·
  intro h1
  refine WO.run 5 2 [(2, .bool (decide (((c.toNat : Int) : Int) ≤ (57 : Int)))), (8, .bool (decide (((c.toNat : Int) : Int) ≤ (57 : Int)))), (7, .bool (decide (((c.toNat : Int) : Int) ≤ (57 : Int)))), (6, .int .u8 (c.toNat : Int)), (5, .bool true)] (by kernel_rfl) (by kernel_rfl) ?_
  refine WO.done (by kernel_rfl) ?_
  refine WQ.keep [0, 2] (e' := [(0, .int .u8 (c.toNat : Int)), (2, .bool (decide (((c.toNat : Int) : Int) ≤ (57 : Int))))]) (by kernel_rfl) ?_
  refine WQ.thenN ?_
  refine WE.ret ?_
  refine WQ.ret (v := .bool (decide (((c.toNat : Int) : Int) ≤ (57 : Int)))) (by kernel_rfl) ?_
  exact ⟨congrArg (fun b => Ending.returned (Value.bool b)) (isD_57 (by omega)), HA⟩
 intro h1
 refine WO.run 5 2 [(2, .bool false), (8, .bool false), (7, undef), (6, undef), (5, .bool false)] (by kernel_rfl) (by kernel_rfl) ?_
 refine WO.done (by kernel_rfl) ?_
 refine WQ.keep [0, 2] (e' := [(0, .int .u8 (c.toNat : Int)), (2, .bool false)]) (by kernel_rfl) ?_
 refine WQ.thenN ?_
 refine WE.ret ?_
 refine WQ.ret (v := .bool false) (by kernel_rfl) ?_
 exact ⟨by rw [isD_f (by omega)], HA⟩
set_option maxRecDepth 100000 in
set_option maxHeartbeats 400000 in
theorem run_w (g : Nat) (s : L) (p : Nat) (w : World) (hp : p ≤ s.length) (hs : s.length ≤ 1000000) (HB : Blk w g #[.string (str s), .int .i64 (p : Int), .int .i64 (-1)] 60) :
  Calls Tryd.prog 53 #[.pointer (some ⟨g, 0, none⟩), .func (.func 54) #[] #[]] w fun e w' => e = .returned (.string (str ((s.take (runE inW s p)).drop p))) ∧ Blk w' g #[.string (str s), .int .i64 ((runE inW s p : Nat) : Int), .int .i64 (-1)] 60 ∧ Fr [g] w w' := by
 have HA := Fr.refl [g] w
 refine enter (N := 57) Tryd.func53 (c := _) rfl (by kernel_rfl) (by kernel_rfl) (e := [(0, .pointer (some ⟨g, 0, none⟩)), (1, .func (.func 54) #[] #[])]) (by kernel_rfl) ?_
 refine WE.seq ?_
 refine WE.region ?_
 refine WO.run 1 0 [(4, .string (⟨#[]⟩))] (by kernel_rfl) (by kernel_rfl) ?_
 refine WO.done (by kernel_rfl) ?_
 refine WQ.keep [0, 1, 4] (e' := [(0, .pointer (some ⟨g, 0, none⟩)), (1, .func (.func 54) #[] #[]), (4, .string (⟨#[]⟩))]) (by kernel_rfl) ?_
 refine WQ.thenN ?_
 refine WE.seq ?_
 refine WE.region ?_
 refine WO.run 3 0 [(8, .pointer (some ⟨g, 1, none⟩)), (7, .pointer (some ⟨g, 0, none⟩)), (6, .pointer (some ⟨g, 0, none⟩))] (by kernel_rfl) (by kernel_rfl) ?_
 refine WO.ld (SQ.S 3 (by kernel_rfl)) 9 (.int .i64 (p : Int)) (by kernel_rfl) (same (HB.at 1 (by kernel_rfl))) ?_
 refine WO.run 1 4 [(5, .int .i64 (p : Int))] (by kernel_rfl) (by kernel_rfl) ?_
 refine WO.done (by kernel_rfl) ?_
 refine WQ.keep [0, 1, 4, 5] (e' := [(0, .pointer (some ⟨g, 0, none⟩)), (1, .func (.func 54) #[] #[]), (4, .string (⟨#[]⟩)), (5, .int .i64 (p : Int))]) (by kernel_rfl) ?_
 refine WQ.thenN ?_
 refine WE.seq ?_
 refine WE.block ?_
 refine WE.loop (α := Nat) (E := fun k => [(0, .pointer (some ⟨g, 0, none⟩)), (1, .func (.func 54) #[] #[]), (5, .int .i64 (p : Int))]) (I := fun k wr => p ≤ k ∧ k ≤ s.length ∧ (∀ j, p ≤ j → j < k → inW (gb s j) = true) ∧ Blk wr g #[.string (str s), .int .i64 (k : Int), .int .i64 (-1)] 60 ∧ Fr [g] w wr) (m := fun k => s.length - k) p [0, 1, 5] (by kernel_rfl) ?_ ?_
 ·
  exact ⟨Nat.le_refl _, hp, fun j h1_ h2_ => absurd h2_ (Nat.not_lt.2 h1_), HB, HA⟩
 rintro k wr ⟨hk1, hk2, hbe, HB, HA⟩
 refine WE.seq ?_
 refine WE.seq ?_
 refine WE.draw [.free, .free, .free, .still, .free, .free, .free, .free, .free, .still, .free, .free, .free, .still, .free, .free, .free, .free, .free, .free, .free, .free, .still, .free, .free, .free, .still, .free, .eff, .free] Same sameR (by kernel_rfl) 30 (Array.replicate 30 false) (by kernel_rfl) rfl ?_
 intro w1 F2 _
 have HB := Blk.keep HB F2 (nin0 _)
 have HA := Fr.step0 HA F2
 refine WO.one (SA.F sameR sameT _ 0 _ (by kernel_rfl)) 10 (.pointer (some ⟨g, 0, none⟩)) (by kernel_rfl) ?_
 refine WO.one (SA.F sameR sameT _ 1 _ (by kernel_rfl)) 11 (.pointer (some ⟨g, 0, none⟩)) (by kernel_rfl) ?_
 refine WO.one (SA.F sameR sameT _ 2 _ (by kernel_rfl)) 12 (.pointer (some ⟨g, 2, none⟩)) (by kernel_rfl) ?_
 refine WO.ld (SA.S sameR sameT _ 3 _ (by kernel_rfl)) 13 (.int .i64 (-1)) (by kernel_rfl) (same (HB.at 2 (by kernel_rfl))) ?_
 refine WO.one (SA.F sameR sameT _ 4 _ (by kernel_rfl)) 14 (.bool true) (by kernel_rfl) ?_
 refine WO.one (SA.F sameR sameT _ 5 _ (by kernel_rfl)) 15 (.bool true) (by kernel_rfl) ?_
 refine WO.one (SA.F sameR sameT _ 6 _ (by kernel_rfl)) 16 (.pointer (some ⟨g, 0, none⟩)) (by kernel_rfl) ?_
 refine WO.one (SA.F sameR sameT _ 7 _ (by kernel_rfl)) 17 (.pointer (some ⟨g, 0, none⟩)) (by kernel_rfl) ?_
 refine WO.one (SA.F sameR sameT _ 8 _ (by kernel_rfl)) 18 (.pointer (some ⟨g, 1, none⟩)) (by kernel_rfl) ?_
 refine WO.ld (SA.S sameR sameT _ 9 _ (by kernel_rfl)) 19 (.int .i64 (k : Int)) (by kernel_rfl) (same (HB.at 1 (by kernel_rfl))) ?_
 refine WO.one (SA.F sameR sameT _ 10 _ (by kernel_rfl)) 20 (.pointer (some ⟨g, 0, none⟩)) (by kernel_rfl) ?_
 refine WO.one (SA.F sameR sameT _ 11 _ (by kernel_rfl)) 21 (.pointer (some ⟨g, 0, none⟩)) (by kernel_rfl) ?_
 refine WO.one (SA.F sameR sameT _ 12 _ (by kernel_rfl)) 22 (.pointer (some ⟨g, 0, none⟩)) (by kernel_rfl) ?_
 refine WO.ld (SA.S sameR sameT _ 13 _ (by kernel_rfl)) 23 (.string (str s)) (by kernel_rfl) (same (HB.at 0 (by kernel_rfl))) ?_
 refine WO.one (SA.F sameR sameT _ 14 _ (by kernel_rfl)) 24 (.int .i64 (s.length : Int)) (by kernel_rfl) ?_
 refine WO.one (SA.F sameR sameT _ 15 _ (by kernel_rfl)) 25 (.bool (decide (((k : Int) : Int) < (s.length : Int)))) (by kernel_rfl) ?_
 refine WO.topP (((k : Int) : Int) < (s.length : Int)) ?_ ?_
 ·
  intro h3
  refine WO.one (SA.F sameR sameT _ 16 _ (by kernel_rfl)) 26 (.bool true) (by kernel_rfl) ?_
  refine WO.one (SA.F sameR sameT _ 17 _ (by kernel_rfl)) 27 (.bool true) (by kernel_rfl) ?_
  refine WO.one (SA.F sameR sameT _ 18 _ (by kernel_rfl)) 28 (.func (.func 54) #[] #[]) (by kernel_rfl) ?_
  refine WO.one (SA.F sameR sameT _ 19 _ (by kernel_rfl)) 29 (.pointer (some ⟨g, 0, none⟩)) (by kernel_rfl) ?_
  refine WO.one (SA.F sameR sameT _ 20 _ (by kernel_rfl)) 30 (.pointer (some ⟨g, 0, none⟩)) (by kernel_rfl) ?_
  refine WO.one (SA.F sameR sameT _ 21 _ (by kernel_rfl)) 31 (.pointer (some ⟨g, 0, none⟩)) (by kernel_rfl) ?_
  refine WO.ld (SA.S sameR sameT _ 22 _ (by kernel_rfl)) 32 (.string (str s)) (by kernel_rfl) (same (HB.at 0 (by kernel_rfl))) ?_
  refine WO.one (SA.F sameR sameT _ 23 _ (by kernel_rfl)) 33 (.pointer (some ⟨g, 0, none⟩)) (by kernel_rfl) ?_
  refine WO.one (SA.F sameR sameT _ 24 _ (by kernel_rfl)) 34 (.pointer (some ⟨g, 0, none⟩)) (by kernel_rfl) ?_
  refine WO.one (SA.F sameR sameT _ 25 _ (by kernel_rfl)) 35 (.pointer (some ⟨g, 1, none⟩)) (by kernel_rfl) ?_
  refine WO.ld (SA.S sameR sameT _ 26 _ (by kernel_rfl)) 36 (.int .i64 (k : Int)) (by kernel_rfl) (same (HB.at 1 (by kernel_rfl))) ?_
  refine WO.ixS (i := (k : Int)) (SA.F sameR sameT _ 27 _ (by kernel_rfl)) 37 k s (by kernel_rfl) (by rfl) (by omega) ?_
  refine WO.call (SA.E _ 28 _ (by kernel_rfl) rfl) 38 (by kernel_rfl) (within_l (gB s k) _) ?_
  rintro _ w4 ⟨rfl, F5⟩
  refine ⟨_, rfl, trivial, ?_⟩
  have HB := Blk.keep HB F5 (nin0 _)
  have HA := Fr.step0 HA F5
  rcases Bool.eq_false_or_eq_true (inW (gB s k)) with h6 | h6
  ·
   rw [h6]
   refine WO.one (SA.F sameR sameT _ 29 _ (by kernel_rfl)) 39 (.bool true) (by kernel_rfl) ?_
   refine WO.doneA (by kernel_rfl) ?_
   refine WQ.keep [0, 1, 5, 39] (e' := [(0, .pointer (some ⟨g, 0, none⟩)), (1, .func (.func 54) #[] #[]), (5, .int .i64 (p : Int)), (39, .bool true)]) (by kernel_rfl) ?_
   refine WQ.thenN ?_
   refine WE.condT (by kernel_rfl) ?_
   refine WE.skip ?_
   refine WQ.thenN ?_
   refine WE.block ?_
   refine WE.region ?_
   refine WO.run 3 0 [(42, .pointer (some ⟨g, 1, none⟩)), (41, .pointer (some ⟨g, 0, none⟩)), (40, .pointer (some ⟨g, 0, none⟩))] (by kernel_rfl) (by kernel_rfl) ?_
   refine WO.ld (SQ.S 3 (by kernel_rfl)) 43 (.int .i64 (k : Int)) (by kernel_rfl) (same (HB.at 1 (by kernel_rfl))) ?_
   refine WO.one (SQ.F 4 (by kernel_rfl)) 44 (.int .i64 (IntKind.i64.wrap ((k : Int) + 1))) (by kernel_rfl) ?_
   refine WO.top (v' := .int .i64 ((k + 1 : Nat) : Int)) (wrap_i64 (by omega) (by omega)) ?_
   refine WO.run 2 5 [(46, .pointer (some ⟨g, 1, none⟩)), (45, .pointer (some ⟨g, 0, none⟩))] (by kernel_rfl) (by kernel_rfl) ?_
   refine WO.st (SQ.E 7 (by kernel_rfl)) g 1 [.int .i64 ((k + 1 : Nat) : Int)] #[.string (str s), .int .i64 ((k + 1 : Nat) : Int), .int .i64 (-1)] (by kernel_rfl) HB (by kernel_rfl) (by kernel_rfl) (fun _ _ => trivial) ?_
   intro w7 HB9 F8 _
   have HA := Fr.step HA F8 (inSL (by simp) inS0)
   refine WO.done (by kernel_rfl) ?_
   refine WQ.keep [0, 1, 5, 39] (e' := [(0, .pointer (some ⟨g, 0, none⟩)), (1, .func (.func 54) #[] #[]), (5, .int .i64 (p : Int)), (39, .bool true)]) (by kernel_rfl) ?_
   refine WQ.blkN ?_
   refine WQ.round ?_
   intro a_ ha_
   refine ⟨k + 1, ?_, ha_.keep [0, 1, 5] (by kernel_rfl), ?_⟩
   ·
    omega
   ·
    exact ⟨by omega, by omega, fun j h1_ h2_ => (Nat.lt_succ_iff_lt_or_eq.1 h2_).elim (hbe j h1_) (fun h_ => by rw [h_]; assumption), HB9, HA⟩
  ·
   rw [h6]
   refine WO.one (SA.F sameR sameT _ 29 _ (by kernel_rfl)) 39 (.bool false) (by kernel_rfl) ?_
   refine WO.doneA (by kernel_rfl) ?_
   refine WQ.keep [0, 1, 5, 39] (e' := [(0, .pointer (some ⟨g, 0, none⟩)), (1, .func (.func 54) #[] #[]), (5, .int .i64 (p : Int)), (39, .bool false)]) (by kernel_rfl) ?_
   refine WQ.thenN ?_
   refine WE.condF (by kernel_rfl) ?_
   refine WE.exit ?_
   refine WQ.thenE ?_
   refine WQ.thenE ?_
   refine WQ.blkE ?_
   refine WQ.thenN ?_
   refine WE.seq ?_
   refine WE.draw [.free, .free, .free, .still, .free, .free, .free, .free, .still, .free, .free] Same sameR (by kernel_rfl) 11 (Array.replicate 11 false) (by kernel_rfl) rfl ?_
   intro w10 F11 _
   have HB := Blk.keep HB F11 (nin0 _)
   have HA := Fr.step0 HA F11
   refine WO.one (SA.F sameR sameT _ 0 _ (by kernel_rfl)) 47 (.pointer (some ⟨g, 0, none⟩)) (by kernel_rfl) ?_
   refine WO.one (SA.F sameR sameT _ 1 _ (by kernel_rfl)) 48 (.pointer (some ⟨g, 0, none⟩)) (by kernel_rfl) ?_
   refine WO.one (SA.F sameR sameT _ 2 _ (by kernel_rfl)) 49 (.pointer (some ⟨g, 0, none⟩)) (by kernel_rfl) ?_
   refine WO.ld (SA.S sameR sameT _ 3 _ (by kernel_rfl)) 50 (.string (str s)) (by kernel_rfl) (same (HB.at 0 (by kernel_rfl))) ?_
   refine WO.one (SA.F sameR sameT _ 4 _ (by kernel_rfl)) 51 (.int .i64 (p : Int)) (by kernel_rfl) ?_
   refine WO.one (SA.F sameR sameT _ 5 _ (by kernel_rfl)) 52 (.pointer (some ⟨g, 0, none⟩)) (by kernel_rfl) ?_
   refine WO.one (SA.F sameR sameT _ 6 _ (by kernel_rfl)) 53 (.pointer (some ⟨g, 0, none⟩)) (by kernel_rfl) ?_
   refine WO.one (SA.F sameR sameT _ 7 _ (by kernel_rfl)) 54 (.pointer (some ⟨g, 1, none⟩)) (by kernel_rfl) ?_
   refine WO.ld (SA.S sameR sameT _ 8 _ (by kernel_rfl)) 55 (.int .i64 (k : Int)) (by kernel_rfl) (same (HB.at 1 (by kernel_rfl))) ?_
   refine WO.slS2 (lo := (p : Int)) (hi := (k : Int)) (SA.F sameR sameT _ 9 _ (by kernel_rfl)) 56 p k s (by kernel_rfl) (by rfl) (by rfl) (by omega) (by omega) ?_
   refine WO.one (SA.F sameR sameT _ 10 _ (by kernel_rfl)) 4 (.string (str ((s.take k).drop p))) (by kernel_rfl) ?_
   refine WO.doneA (by kernel_rfl) ?_
   refine WQ.keep [0, 1, 4, 5, 39] (e' := [(0, .pointer (some ⟨g, 0, none⟩)), (1, .func (.func 54) #[] #[]), (4, .string (str ((s.take k).drop p))), (5, .int .i64 (p : Int)), (39, .bool false)]) (by kernel_rfl) ?_
   refine WQ.thenN ?_
   refine WE.ret ?_
   refine WQ.ret (v := .string (str ((s.take k).drop p))) (by kernel_rfl) ?_
   first | (rw [runE_eq (pr := inW) hk1 hk2 hbe (.inr ⟨by omega, by assumption⟩)]; exact ⟨rfl, HB, HA⟩) | (rw [runE_eq (pr := inW) hk1 hk2 hbe (.inl (by omega))]; exact ⟨rfl, HB, HA⟩)
 intro h3
 refine WO.one (SA.F sameR sameT _ 16 _ (by kernel_rfl)) 26 (.bool false) (by kernel_rfl) ?_
 refine WO.one (SA.F sameR sameT _ 17 _ (by kernel_rfl)) 27 (.bool false) (by kernel_rfl) ?_
 refine WO.off (SA.O sameR sameT _ 18 _ (by kernel_rfl)) 28 (by kernel_rfl) ?_
 refine WO.off (SA.O sameR sameT _ 19 _ (by kernel_rfl)) 29 (by kernel_rfl) ?_
 refine WO.off (SA.O sameR sameT _ 20 _ (by kernel_rfl)) 30 (by kernel_rfl) ?_
 refine WO.off (SA.O sameR sameT _ 21 _ (by kernel_rfl)) 31 (by kernel_rfl) ?_
 refine WO.off (SA.O sameR sameT _ 22 _ (by kernel_rfl)) 32 (by kernel_rfl) ?_
 refine WO.off (SA.O sameR sameT _ 23 _ (by kernel_rfl)) 33 (by kernel_rfl) ?_
 refine WO.off (SA.O sameR sameT _ 24 _ (by kernel_rfl)) 34 (by kernel_rfl) ?_
 refine WO.off (SA.O sameR sameT _ 25 _ (by kernel_rfl)) 35 (by kernel_rfl) ?_
 refine WO.off (SA.O sameR sameT _ 26 _ (by kernel_rfl)) 36 (by kernel_rfl) ?_
 refine WO.off (SA.O sameR sameT _ 27 _ (by kernel_rfl)) 37 (by kernel_rfl) ?_
 refine WO.off (SA.O sameR sameT _ 28 _ (by kernel_rfl)) 38 (by kernel_rfl) ?_
 refine WO.one (SA.F sameR sameT _ 29 _ (by kernel_rfl)) 39 (.bool false) (by kernel_rfl) ?_
 refine WO.doneA (by kernel_rfl) ?_
 refine WQ.keep [0, 1, 5, 39] (e' := [(0, .pointer (some ⟨g, 0, none⟩)), (1, .func (.func 54) #[] #[]), (5, .int .i64 (p : Int)), (39, .bool false)]) (by kernel_rfl) ?_
 refine WQ.thenN ?_
 refine WE.condF (by kernel_rfl) ?_
 refine WE.exit ?_
 refine WQ.thenE ?_
 refine WQ.thenE ?_
 refine WQ.blkE ?_
 refine WQ.thenN ?_
 refine WE.seq ?_
 refine WE.draw [.free, .free, .free, .still, .free, .free, .free, .free, .still, .free, .free] Same sameR (by kernel_rfl) 11 (Array.replicate 11 false) (by kernel_rfl) rfl ?_
 intro w12 F13 _
 have HB := Blk.keep HB F13 (nin0 _)
 have HA := Fr.step0 HA F13
 refine WO.one (SA.F sameR sameT _ 0 _ (by kernel_rfl)) 47 (.pointer (some ⟨g, 0, none⟩)) (by kernel_rfl) ?_
 refine WO.one (SA.F sameR sameT _ 1 _ (by kernel_rfl)) 48 (.pointer (some ⟨g, 0, none⟩)) (by kernel_rfl) ?_
 refine WO.one (SA.F sameR sameT _ 2 _ (by kernel_rfl)) 49 (.pointer (some ⟨g, 0, none⟩)) (by kernel_rfl) ?_
 refine WO.ld (SA.S sameR sameT _ 3 _ (by kernel_rfl)) 50 (.string (str s)) (by kernel_rfl) (same (HB.at 0 (by kernel_rfl))) ?_
 refine WO.one (SA.F sameR sameT _ 4 _ (by kernel_rfl)) 51 (.int .i64 (p : Int)) (by kernel_rfl) ?_
 refine WO.one (SA.F sameR sameT _ 5 _ (by kernel_rfl)) 52 (.pointer (some ⟨g, 0, none⟩)) (by kernel_rfl) ?_
 refine WO.one (SA.F sameR sameT _ 6 _ (by kernel_rfl)) 53 (.pointer (some ⟨g, 0, none⟩)) (by kernel_rfl) ?_
 refine WO.one (SA.F sameR sameT _ 7 _ (by kernel_rfl)) 54 (.pointer (some ⟨g, 1, none⟩)) (by kernel_rfl) ?_
 refine WO.ld (SA.S sameR sameT _ 8 _ (by kernel_rfl)) 55 (.int .i64 (k : Int)) (by kernel_rfl) (same (HB.at 1 (by kernel_rfl))) ?_
 refine WO.slS2 (lo := (p : Int)) (hi := (k : Int)) (SA.F sameR sameT _ 9 _ (by kernel_rfl)) 56 p k s (by kernel_rfl) (by rfl) (by rfl) (by omega) (by omega) ?_
 refine WO.one (SA.F sameR sameT _ 10 _ (by kernel_rfl)) 4 (.string (str ((s.take k).drop p))) (by kernel_rfl) ?_
 refine WO.doneA (by kernel_rfl) ?_
 refine WQ.keep [0, 1, 4, 5, 39] (e' := [(0, .pointer (some ⟨g, 0, none⟩)), (1, .func (.func 54) #[] #[]), (4, .string (str ((s.take k).drop p))), (5, .int .i64 (p : Int)), (39, .bool false)]) (by kernel_rfl) ?_
 refine WQ.thenN ?_
 refine WE.ret ?_
 refine WQ.ret (v := .string (str ((s.take k).drop p))) (by kernel_rfl) ?_
 first | (rw [runE_eq (pr := inW) hk1 hk2 hbe (.inr ⟨by omega, by assumption⟩)]; exact ⟨rfl, HB, HA⟩) | (rw [runE_eq (pr := inW) hk1 hk2 hbe (.inl (by omega))]; exact ⟨rfl, HB, HA⟩)
set_option maxRecDepth 100000 in
set_option maxHeartbeats 400000 in
theorem runbad_w (g : Nat) (s : L) (p : Nat) (bz : Int) (w : World) (hp : p ≤ s.length) (hs : s.length ≤ 1000000) (hbz : 0 ≤ bz) (HB : Blk w g #[.string (str s), .int .i64 (p : Int), .int .i64 bz] 60) :
  Calls Tryd.prog 53 #[.pointer (some ⟨g, 0, none⟩), .func (.func 54) #[] #[]] w fun e w' => e = .returned (.string (str ((s.take p).drop p))) ∧ Blk w' g #[.string (str s), .int .i64 (p : Int), .int .i64 bz] 60 ∧ Fr [g] w w' := by
 have HA := Fr.refl [g] w
 refine enter (N := 57) Tryd.func53 (c := _) rfl (by kernel_rfl) (by kernel_rfl) (e := [(0, .pointer (some ⟨g, 0, none⟩)), (1, .func (.func 54) #[] #[])]) (by kernel_rfl) ?_
 refine WE.seq ?_
 refine WE.region ?_
 refine WO.run 1 0 [(4, .string (⟨#[]⟩))] (by kernel_rfl) (by kernel_rfl) ?_
 refine WO.done (by kernel_rfl) ?_
 refine WQ.keep [0, 1, 4] (e' := [(0, .pointer (some ⟨g, 0, none⟩)), (1, .func (.func 54) #[] #[]), (4, .string (⟨#[]⟩))]) (by kernel_rfl) ?_
 refine WQ.thenN ?_
 refine WE.seq ?_
 refine WE.region ?_
 refine WO.run 3 0 [(8, .pointer (some ⟨g, 1, none⟩)), (7, .pointer (some ⟨g, 0, none⟩)), (6, .pointer (some ⟨g, 0, none⟩))] (by kernel_rfl) (by kernel_rfl) ?_
 refine WO.ld (SQ.S 3 (by kernel_rfl)) 9 (.int .i64 (p : Int)) (by kernel_rfl) (same (HB.at 1 (by kernel_rfl))) ?_
 refine WO.run 1 4 [(5, .int .i64 (p : Int))] (by kernel_rfl) (by kernel_rfl) ?_
 refine WO.done (by kernel_rfl) ?_
 refine WQ.keep [0, 1, 4, 5] (e' := [(0, .pointer (some ⟨g, 0, none⟩)), (1, .func (.func 54) #[] #[]), (4, .string (⟨#[]⟩)), (5, .int .i64 (p : Int))]) (by kernel_rfl) ?_
 refine WQ.thenN ?_
 refine WE.seq ?_
 refine WE.block ?_
 refine WE.loop (α := Unit) (E := fun _ => [(0, .pointer (some ⟨g, 0, none⟩)), (1, .func (.func 54) #[] #[]), (5, .int .i64 (p : Int))]) (I := fun _ wr => Blk wr g #[.string (str s), .int .i64 (p : Int), .int .i64 bz] 60 ∧ Fr [g] w wr) (m := fun _ => 0) () [0, 1, 5] (by kernel_rfl) ?_ ?_
 ·
  exact ⟨HB, HA⟩
 rintro _ wr ⟨HB, HA⟩
 refine WE.seq ?_
 refine WE.seq ?_
 refine WE.draw [.free, .free, .free, .still, .free, .free, .free, .free, .free, .still, .free, .free, .free, .still, .free, .free, .free, .free, .free, .free, .free, .free, .still, .free, .free, .free, .still, .free, .eff, .free] Same sameR (by kernel_rfl) 30 (Array.replicate 30 false) (by kernel_rfl) rfl ?_
 intro w1 F2 _
 have HB := Blk.keep HB F2 (nin0 _)
 have HA := Fr.step0 HA F2
 refine WO.one (SA.F sameR sameT _ 0 _ (by kernel_rfl)) 10 (.pointer (some ⟨g, 0, none⟩)) (by kernel_rfl) ?_
 refine WO.one (SA.F sameR sameT _ 1 _ (by kernel_rfl)) 11 (.pointer (some ⟨g, 0, none⟩)) (by kernel_rfl) ?_
 refine WO.one (SA.F sameR sameT _ 2 _ (by kernel_rfl)) 12 (.pointer (some ⟨g, 2, none⟩)) (by kernel_rfl) ?_
 refine WO.ld (SA.S sameR sameT _ 3 _ (by kernel_rfl)) 13 (.int .i64 bz) (by kernel_rfl) (same (HB.at 2 (by kernel_rfl))) ?_
 refine WO.one (SA.F sameR sameT _ 4 _ (by kernel_rfl)) 14 (.bool (decide ((bz : Int) < 0))) (by kernel_rfl) ?_
 refine WO.topPF ((bz : Int) < 0) (by omega) ?_
 refine WO.one (SA.F sameR sameT _ 5 _ (by kernel_rfl)) 15 (.bool false) (by kernel_rfl) ?_
 refine WO.off (SA.O sameR sameT _ 6 _ (by kernel_rfl)) 16 (by kernel_rfl) ?_
 refine WO.off (SA.O sameR sameT _ 7 _ (by kernel_rfl)) 17 (by kernel_rfl) ?_
 refine WO.off (SA.O sameR sameT _ 8 _ (by kernel_rfl)) 18 (by kernel_rfl) ?_
 refine WO.off (SA.O sameR sameT _ 9 _ (by kernel_rfl)) 19 (by kernel_rfl) ?_
 refine WO.off (SA.O sameR sameT _ 10 _ (by kernel_rfl)) 20 (by kernel_rfl) ?_
 refine WO.off (SA.O sameR sameT _ 11 _ (by kernel_rfl)) 21 (by kernel_rfl) ?_
 refine WO.off (SA.O sameR sameT _ 12 _ (by kernel_rfl)) 22 (by kernel_rfl) ?_
 refine WO.off (SA.O sameR sameT _ 13 _ (by kernel_rfl)) 23 (by kernel_rfl) ?_
 refine WO.off (SA.O sameR sameT _ 14 _ (by kernel_rfl)) 24 (by kernel_rfl) ?_
 refine WO.off (SA.O sameR sameT _ 15 _ (by kernel_rfl)) 25 (by kernel_rfl) ?_
 refine WO.one (SA.F sameR sameT _ 16 _ (by kernel_rfl)) 26 (.bool false) (by kernel_rfl) ?_
 refine WO.one (SA.F sameR sameT _ 17 _ (by kernel_rfl)) 27 (.bool false) (by kernel_rfl) ?_
 refine WO.off (SA.O sameR sameT _ 18 _ (by kernel_rfl)) 28 (by kernel_rfl) ?_
 refine WO.off (SA.O sameR sameT _ 19 _ (by kernel_rfl)) 29 (by kernel_rfl) ?_
 refine WO.off (SA.O sameR sameT _ 20 _ (by kernel_rfl)) 30 (by kernel_rfl) ?_
 refine WO.off (SA.O sameR sameT _ 21 _ (by kernel_rfl)) 31 (by kernel_rfl) ?_
 refine WO.off (SA.O sameR sameT _ 22 _ (by kernel_rfl)) 32 (by kernel_rfl) ?_
 refine WO.off (SA.O sameR sameT _ 23 _ (by kernel_rfl)) 33 (by kernel_rfl) ?_
 refine WO.off (SA.O sameR sameT _ 24 _ (by kernel_rfl)) 34 (by kernel_rfl) ?_
 refine WO.off (SA.O sameR sameT _ 25 _ (by kernel_rfl)) 35 (by kernel_rfl) ?_
 refine WO.off (SA.O sameR sameT _ 26 _ (by kernel_rfl)) 36 (by kernel_rfl) ?_
 refine WO.off (SA.O sameR sameT _ 27 _ (by kernel_rfl)) 37 (by kernel_rfl) ?_
 refine WO.off (SA.O sameR sameT _ 28 _ (by kernel_rfl)) 38 (by kernel_rfl) ?_
 refine WO.one (SA.F sameR sameT _ 29 _ (by kernel_rfl)) 39 (.bool false) (by kernel_rfl) ?_
 refine WO.doneA (by kernel_rfl) ?_
 refine WQ.keep [0, 1, 5, 39] (e' := [(0, .pointer (some ⟨g, 0, none⟩)), (1, .func (.func 54) #[] #[]), (5, .int .i64 (p : Int)), (39, .bool false)]) (by kernel_rfl) ?_
 refine WQ.thenN ?_
 refine WE.condF (by kernel_rfl) ?_
 refine WE.exit ?_
 refine WQ.thenE ?_
 refine WQ.thenE ?_
 refine WQ.blkE ?_
 refine WQ.thenN ?_
 refine WE.seq ?_
 refine WE.draw [.free, .free, .free, .still, .free, .free, .free, .free, .still, .free, .free] Same sameR (by kernel_rfl) 11 (Array.replicate 11 false) (by kernel_rfl) rfl ?_
 intro w3 F4 _
 have HB := Blk.keep HB F4 (nin0 _)
 have HA := Fr.step0 HA F4
 refine WO.one (SA.F sameR sameT _ 0 _ (by kernel_rfl)) 47 (.pointer (some ⟨g, 0, none⟩)) (by kernel_rfl) ?_
 refine WO.one (SA.F sameR sameT _ 1 _ (by kernel_rfl)) 48 (.pointer (some ⟨g, 0, none⟩)) (by kernel_rfl) ?_
 refine WO.one (SA.F sameR sameT _ 2 _ (by kernel_rfl)) 49 (.pointer (some ⟨g, 0, none⟩)) (by kernel_rfl) ?_
 refine WO.ld (SA.S sameR sameT _ 3 _ (by kernel_rfl)) 50 (.string (str s)) (by kernel_rfl) (same (HB.at 0 (by kernel_rfl))) ?_
 refine WO.one (SA.F sameR sameT _ 4 _ (by kernel_rfl)) 51 (.int .i64 (p : Int)) (by kernel_rfl) ?_
 refine WO.one (SA.F sameR sameT _ 5 _ (by kernel_rfl)) 52 (.pointer (some ⟨g, 0, none⟩)) (by kernel_rfl) ?_
 refine WO.one (SA.F sameR sameT _ 6 _ (by kernel_rfl)) 53 (.pointer (some ⟨g, 0, none⟩)) (by kernel_rfl) ?_
 refine WO.one (SA.F sameR sameT _ 7 _ (by kernel_rfl)) 54 (.pointer (some ⟨g, 1, none⟩)) (by kernel_rfl) ?_
 refine WO.ld (SA.S sameR sameT _ 8 _ (by kernel_rfl)) 55 (.int .i64 (p : Int)) (by kernel_rfl) (same (HB.at 1 (by kernel_rfl))) ?_
 refine WO.slS2 (lo := (p : Int)) (hi := (p : Int)) (SA.F sameR sameT _ 9 _ (by kernel_rfl)) 56 p p s (by kernel_rfl) (by rfl) (by rfl) (by omega) (by omega) ?_
 refine WO.one (SA.F sameR sameT _ 10 _ (by kernel_rfl)) 4 (.string (str ((s.take p).drop p))) (by kernel_rfl) ?_
 refine WO.doneA (by kernel_rfl) ?_
 refine WQ.keep [0, 1, 4, 5, 39] (e' := [(0, .pointer (some ⟨g, 0, none⟩)), (1, .func (.func 54) #[] #[]), (4, .string (str ((s.take p).drop p))), (5, .int .i64 (p : Int)), (39, .bool false)]) (by kernel_rfl) ?_
 refine WQ.thenN ?_
 refine WE.ret ?_
 refine WQ.ret (v := .string (str ((s.take p).drop p))) (by kernel_rfl) ?_
 exact ⟨rfl, HB, HA⟩
set_option maxRecDepth 100000 in
set_option maxHeartbeats 400000 in
theorem run_d (g : Nat) (s : L) (p : Nat) (w : World) (hp : p ≤ s.length) (hs : s.length ≤ 1000000) (HB : Blk w g #[.string (str s), .int .i64 (p : Int), .int .i64 (-1)] 60) :
  Calls Tryd.prog 53 #[.pointer (some ⟨g, 0, none⟩), .func (.func 56) #[] #[]] w fun e w' => e = .returned (.string (str ((s.take (runE isD s p)).drop p))) ∧ Blk w' g #[.string (str s), .int .i64 ((runE isD s p : Nat) : Int), .int .i64 (-1)] 60 ∧ Fr [g] w w' := by
 have HA := Fr.refl [g] w
 refine enter (N := 57) Tryd.func53 (c := _) rfl (by kernel_rfl) (by kernel_rfl) (e := [(0, .pointer (some ⟨g, 0, none⟩)), (1, .func (.func 56) #[] #[])]) (by kernel_rfl) ?_
 refine WE.seq ?_
 refine WE.region ?_
 refine WO.run 1 0 [(4, .string (⟨#[]⟩))] (by kernel_rfl) (by kernel_rfl) ?_
 refine WO.done (by kernel_rfl) ?_
 refine WQ.keep [0, 1, 4] (e' := [(0, .pointer (some ⟨g, 0, none⟩)), (1, .func (.func 56) #[] #[]), (4, .string (⟨#[]⟩))]) (by kernel_rfl) ?_
 refine WQ.thenN ?_
 refine WE.seq ?_
 refine WE.region ?_
 refine WO.run 3 0 [(8, .pointer (some ⟨g, 1, none⟩)), (7, .pointer (some ⟨g, 0, none⟩)), (6, .pointer (some ⟨g, 0, none⟩))] (by kernel_rfl) (by kernel_rfl) ?_
 refine WO.ld (SQ.S 3 (by kernel_rfl)) 9 (.int .i64 (p : Int)) (by kernel_rfl) (same (HB.at 1 (by kernel_rfl))) ?_
 refine WO.run 1 4 [(5, .int .i64 (p : Int))] (by kernel_rfl) (by kernel_rfl) ?_
 refine WO.done (by kernel_rfl) ?_
 refine WQ.keep [0, 1, 4, 5] (e' := [(0, .pointer (some ⟨g, 0, none⟩)), (1, .func (.func 56) #[] #[]), (4, .string (⟨#[]⟩)), (5, .int .i64 (p : Int))]) (by kernel_rfl) ?_
 refine WQ.thenN ?_
 refine WE.seq ?_
 refine WE.block ?_
 refine WE.loop (α := Nat) (E := fun k => [(0, .pointer (some ⟨g, 0, none⟩)), (1, .func (.func 56) #[] #[]), (5, .int .i64 (p : Int))]) (I := fun k wr => p ≤ k ∧ k ≤ s.length ∧ (∀ j, p ≤ j → j < k → isD (gb s j) = true) ∧ Blk wr g #[.string (str s), .int .i64 (k : Int), .int .i64 (-1)] 60 ∧ Fr [g] w wr) (m := fun k => s.length - k) p [0, 1, 5] (by kernel_rfl) ?_ ?_
 ·
  exact ⟨Nat.le_refl _, hp, fun j h1_ h2_ => absurd h2_ (Nat.not_lt.2 h1_), HB, HA⟩
 rintro k wr ⟨hk1, hk2, hbe, HB, HA⟩
 refine WE.seq ?_
 refine WE.seq ?_
 refine WE.draw [.free, .free, .free, .still, .free, .free, .free, .free, .free, .still, .free, .free, .free, .still, .free, .free, .free, .free, .free, .free, .free, .free, .still, .free, .free, .free, .still, .free, .eff, .free] Same sameR (by kernel_rfl) 30 (Array.replicate 30 false) (by kernel_rfl) rfl ?_
 intro w1 F2 _
 have HB := Blk.keep HB F2 (nin0 _)
 have HA := Fr.step0 HA F2
 refine WO.one (SA.F sameR sameT _ 0 _ (by kernel_rfl)) 10 (.pointer (some ⟨g, 0, none⟩)) (by kernel_rfl) ?_
 refine WO.one (SA.F sameR sameT _ 1 _ (by kernel_rfl)) 11 (.pointer (some ⟨g, 0, none⟩)) (by kernel_rfl) ?_
 refine WO.one (SA.F sameR sameT _ 2 _ (by kernel_rfl)) 12 (.pointer (some ⟨g, 2, none⟩)) (by kernel_rfl) ?_
 refine WO.ld (SA.S sameR sameT _ 3 _ (by kernel_rfl)) 13 (.int .i64 (-1)) (by kernel_rfl) (same (HB.at 2 (by kernel_rfl))) ?_
 refine WO.one (SA.F sameR sameT _ 4 _ (by kernel_rfl)) 14 (.bool true) (by kernel_rfl) ?_
 refine WO.one (SA.F sameR sameT _ 5 _ (by kernel_rfl)) 15 (.bool true) (by kernel_rfl) ?_
 refine WO.one (SA.F sameR sameT _ 6 _ (by kernel_rfl)) 16 (.pointer (some ⟨g, 0, none⟩)) (by kernel_rfl) ?_
 refine WO.one (SA.F sameR sameT _ 7 _ (by kernel_rfl)) 17 (.pointer (some ⟨g, 0, none⟩)) (by kernel_rfl) ?_
 refine WO.one (SA.F sameR sameT _ 8 _ (by kernel_rfl)) 18 (.pointer (some ⟨g, 1, none⟩)) (by kernel_rfl) ?_
 refine WO.ld (SA.S sameR sameT _ 9 _ (by kernel_rfl)) 19 (.int .i64 (k : Int)) (by kernel_rfl) (same (HB.at 1 (by kernel_rfl))) ?_
 refine WO.one (SA.F sameR sameT _ 10 _ (by kernel_rfl)) 20 (.pointer (some ⟨g, 0, none⟩)) (by kernel_rfl) ?_
 refine WO.one (SA.F sameR sameT _ 11 _ (by kernel_rfl)) 21 (.pointer (some ⟨g, 0, none⟩)) (by kernel_rfl) ?_
 refine WO.one (SA.F sameR sameT _ 12 _ (by kernel_rfl)) 22 (.pointer (some ⟨g, 0, none⟩)) (by kernel_rfl) ?_
 refine WO.ld (SA.S sameR sameT _ 13 _ (by kernel_rfl)) 23 (.string (str s)) (by kernel_rfl) (same (HB.at 0 (by kernel_rfl))) ?_
 refine WO.one (SA.F sameR sameT _ 14 _ (by kernel_rfl)) 24 (.int .i64 (s.length : Int)) (by kernel_rfl) ?_
 refine WO.one (SA.F sameR sameT _ 15 _ (by kernel_rfl)) 25 (.bool (decide (((k : Int) : Int) < (s.length : Int)))) (by kernel_rfl) ?_
 refine WO.topP (((k : Int) : Int) < (s.length : Int)) ?_ ?_
 ·
  intro h3
  refine WO.one (SA.F sameR sameT _ 16 _ (by kernel_rfl)) 26 (.bool true) (by kernel_rfl) ?_
  refine WO.one (SA.F sameR sameT _ 17 _ (by kernel_rfl)) 27 (.bool true) (by kernel_rfl) ?_
  refine WO.one (SA.F sameR sameT _ 18 _ (by kernel_rfl)) 28 (.func (.func 56) #[] #[]) (by kernel_rfl) ?_
  refine WO.one (SA.F sameR sameT _ 19 _ (by kernel_rfl)) 29 (.pointer (some ⟨g, 0, none⟩)) (by kernel_rfl) ?_
  refine WO.one (SA.F sameR sameT _ 20 _ (by kernel_rfl)) 30 (.pointer (some ⟨g, 0, none⟩)) (by kernel_rfl) ?_
  refine WO.one (SA.F sameR sameT _ 21 _ (by kernel_rfl)) 31 (.pointer (some ⟨g, 0, none⟩)) (by kernel_rfl) ?_
  refine WO.ld (SA.S sameR sameT _ 22 _ (by kernel_rfl)) 32 (.string (str s)) (by kernel_rfl) (same (HB.at 0 (by kernel_rfl))) ?_
  refine WO.one (SA.F sameR sameT _ 23 _ (by kernel_rfl)) 33 (.pointer (some ⟨g, 0, none⟩)) (by kernel_rfl) ?_
  refine WO.one (SA.F sameR sameT _ 24 _ (by kernel_rfl)) 34 (.pointer (some ⟨g, 0, none⟩)) (by kernel_rfl) ?_
  refine WO.one (SA.F sameR sameT _ 25 _ (by kernel_rfl)) 35 (.pointer (some ⟨g, 1, none⟩)) (by kernel_rfl) ?_
  refine WO.ld (SA.S sameR sameT _ 26 _ (by kernel_rfl)) 36 (.int .i64 (k : Int)) (by kernel_rfl) (same (HB.at 1 (by kernel_rfl))) ?_
  refine WO.ixS (i := (k : Int)) (SA.F sameR sameT _ 27 _ (by kernel_rfl)) 37 k s (by kernel_rfl) (by rfl) (by omega) ?_
  refine WO.call (SA.E _ 28 _ (by kernel_rfl) rfl) 38 (by kernel_rfl) (isD_c (gB s k) _) ?_
  rintro _ w4 ⟨rfl, F5⟩
  refine ⟨_, rfl, trivial, ?_⟩
  have HB := Blk.keep HB F5 (nin0 _)
  have HA := Fr.step0 HA F5
  rcases Bool.eq_false_or_eq_true (isD (gB s k)) with h6 | h6
  ·
   rw [h6]
   refine WO.one (SA.F sameR sameT _ 29 _ (by kernel_rfl)) 39 (.bool true) (by kernel_rfl) ?_
   refine WO.doneA (by kernel_rfl) ?_
   refine WQ.keep [0, 1, 5, 39] (e' := [(0, .pointer (some ⟨g, 0, none⟩)), (1, .func (.func 56) #[] #[]), (5, .int .i64 (p : Int)), (39, .bool true)]) (by kernel_rfl) ?_
   refine WQ.thenN ?_
   refine WE.condT (by kernel_rfl) ?_
   refine WE.skip ?_
   refine WQ.thenN ?_
   refine WE.block ?_
   refine WE.region ?_
   refine WO.run 3 0 [(42, .pointer (some ⟨g, 1, none⟩)), (41, .pointer (some ⟨g, 0, none⟩)), (40, .pointer (some ⟨g, 0, none⟩))] (by kernel_rfl) (by kernel_rfl) ?_
   refine WO.ld (SQ.S 3 (by kernel_rfl)) 43 (.int .i64 (k : Int)) (by kernel_rfl) (same (HB.at 1 (by kernel_rfl))) ?_
   refine WO.one (SQ.F 4 (by kernel_rfl)) 44 (.int .i64 (IntKind.i64.wrap ((k : Int) + 1))) (by kernel_rfl) ?_
   refine WO.top (v' := .int .i64 ((k + 1 : Nat) : Int)) (wrap_i64 (by omega) (by omega)) ?_
   refine WO.run 2 5 [(46, .pointer (some ⟨g, 1, none⟩)), (45, .pointer (some ⟨g, 0, none⟩))] (by kernel_rfl) (by kernel_rfl) ?_
   refine WO.st (SQ.E 7 (by kernel_rfl)) g 1 [.int .i64 ((k + 1 : Nat) : Int)] #[.string (str s), .int .i64 ((k + 1 : Nat) : Int), .int .i64 (-1)] (by kernel_rfl) HB (by kernel_rfl) (by kernel_rfl) (fun _ _ => trivial) ?_
   intro w7 HB9 F8 _
   have HA := Fr.step HA F8 (inSL (by simp) inS0)
   refine WO.done (by kernel_rfl) ?_
   refine WQ.keep [0, 1, 5, 39] (e' := [(0, .pointer (some ⟨g, 0, none⟩)), (1, .func (.func 56) #[] #[]), (5, .int .i64 (p : Int)), (39, .bool true)]) (by kernel_rfl) ?_
   refine WQ.blkN ?_
   refine WQ.round ?_
   intro a_ ha_
   refine ⟨k + 1, ?_, ha_.keep [0, 1, 5] (by kernel_rfl), ?_⟩
   ·
    omega
   ·
    exact ⟨by omega, by omega, fun j h1_ h2_ => (Nat.lt_succ_iff_lt_or_eq.1 h2_).elim (hbe j h1_) (fun h_ => by rw [h_]; assumption), HB9, HA⟩
  ·
   rw [h6]
   refine WO.one (SA.F sameR sameT _ 29 _ (by kernel_rfl)) 39 (.bool false) (by kernel_rfl) ?_
   refine WO.doneA (by kernel_rfl) ?_
   refine WQ.keep [0, 1, 5, 39] (e' := [(0, .pointer (some ⟨g, 0, none⟩)), (1, .func (.func 56) #[] #[]), (5, .int .i64 (p : Int)), (39, .bool false)]) (by kernel_rfl) ?_
   refine WQ.thenN ?_
   refine WE.condF (by kernel_rfl) ?_
   refine WE.exit ?_
   refine WQ.thenE ?_
   refine WQ.thenE ?_
   refine WQ.blkE ?_
   refine WQ.thenN ?_
   refine WE.seq ?_
   refine WE.draw [.free, .free, .free, .still, .free, .free, .free, .free, .still, .free, .free] Same sameR (by kernel_rfl) 11 (Array.replicate 11 false) (by kernel_rfl) rfl ?_
   intro w10 F11 _
   have HB := Blk.keep HB F11 (nin0 _)
   have HA := Fr.step0 HA F11
   refine WO.one (SA.F sameR sameT _ 0 _ (by kernel_rfl)) 47 (.pointer (some ⟨g, 0, none⟩)) (by kernel_rfl) ?_
   refine WO.one (SA.F sameR sameT _ 1 _ (by kernel_rfl)) 48 (.pointer (some ⟨g, 0, none⟩)) (by kernel_rfl) ?_
   refine WO.one (SA.F sameR sameT _ 2 _ (by kernel_rfl)) 49 (.pointer (some ⟨g, 0, none⟩)) (by kernel_rfl) ?_
   refine WO.ld (SA.S sameR sameT _ 3 _ (by kernel_rfl)) 50 (.string (str s)) (by kernel_rfl) (same (HB.at 0 (by kernel_rfl))) ?_
   refine WO.one (SA.F sameR sameT _ 4 _ (by kernel_rfl)) 51 (.int .i64 (p : Int)) (by kernel_rfl) ?_
   refine WO.one (SA.F sameR sameT _ 5 _ (by kernel_rfl)) 52 (.pointer (some ⟨g, 0, none⟩)) (by kernel_rfl) ?_
   refine WO.one (SA.F sameR sameT _ 6 _ (by kernel_rfl)) 53 (.pointer (some ⟨g, 0, none⟩)) (by kernel_rfl) ?_
   refine WO.one (SA.F sameR sameT _ 7 _ (by kernel_rfl)) 54 (.pointer (some ⟨g, 1, none⟩)) (by kernel_rfl) ?_
   refine WO.ld (SA.S sameR sameT _ 8 _ (by kernel_rfl)) 55 (.int .i64 (k : Int)) (by kernel_rfl) (same (HB.at 1 (by kernel_rfl))) ?_
   refine WO.slS2 (lo := (p : Int)) (hi := (k : Int)) (SA.F sameR sameT _ 9 _ (by kernel_rfl)) 56 p k s (by kernel_rfl) (by rfl) (by rfl) (by omega) (by omega) ?_
   refine WO.one (SA.F sameR sameT _ 10 _ (by kernel_rfl)) 4 (.string (str ((s.take k).drop p))) (by kernel_rfl) ?_
   refine WO.doneA (by kernel_rfl) ?_
   refine WQ.keep [0, 1, 4, 5, 39] (e' := [(0, .pointer (some ⟨g, 0, none⟩)), (1, .func (.func 56) #[] #[]), (4, .string (str ((s.take k).drop p))), (5, .int .i64 (p : Int)), (39, .bool false)]) (by kernel_rfl) ?_
   refine WQ.thenN ?_
   refine WE.ret ?_
   refine WQ.ret (v := .string (str ((s.take k).drop p))) (by kernel_rfl) ?_
   first | (rw [runE_eq (pr := isD) hk1 hk2 hbe (.inr ⟨by omega, by assumption⟩)]; exact ⟨rfl, HB, HA⟩) | (rw [runE_eq (pr := isD) hk1 hk2 hbe (.inl (by omega))]; exact ⟨rfl, HB, HA⟩)
 intro h3
 refine WO.one (SA.F sameR sameT _ 16 _ (by kernel_rfl)) 26 (.bool false) (by kernel_rfl) ?_
 refine WO.one (SA.F sameR sameT _ 17 _ (by kernel_rfl)) 27 (.bool false) (by kernel_rfl) ?_
 refine WO.off (SA.O sameR sameT _ 18 _ (by kernel_rfl)) 28 (by kernel_rfl) ?_
 refine WO.off (SA.O sameR sameT _ 19 _ (by kernel_rfl)) 29 (by kernel_rfl) ?_
 refine WO.off (SA.O sameR sameT _ 20 _ (by kernel_rfl)) 30 (by kernel_rfl) ?_
 refine WO.off (SA.O sameR sameT _ 21 _ (by kernel_rfl)) 31 (by kernel_rfl) ?_
 refine WO.off (SA.O sameR sameT _ 22 _ (by kernel_rfl)) 32 (by kernel_rfl) ?_
 refine WO.off (SA.O sameR sameT _ 23 _ (by kernel_rfl)) 33 (by kernel_rfl) ?_
 refine WO.off (SA.O sameR sameT _ 24 _ (by kernel_rfl)) 34 (by kernel_rfl) ?_
 refine WO.off (SA.O sameR sameT _ 25 _ (by kernel_rfl)) 35 (by kernel_rfl) ?_
 refine WO.off (SA.O sameR sameT _ 26 _ (by kernel_rfl)) 36 (by kernel_rfl) ?_
 refine WO.off (SA.O sameR sameT _ 27 _ (by kernel_rfl)) 37 (by kernel_rfl) ?_
 refine WO.off (SA.O sameR sameT _ 28 _ (by kernel_rfl)) 38 (by kernel_rfl) ?_
 refine WO.one (SA.F sameR sameT _ 29 _ (by kernel_rfl)) 39 (.bool false) (by kernel_rfl) ?_
 refine WO.doneA (by kernel_rfl) ?_
 refine WQ.keep [0, 1, 5, 39] (e' := [(0, .pointer (some ⟨g, 0, none⟩)), (1, .func (.func 56) #[] #[]), (5, .int .i64 (p : Int)), (39, .bool false)]) (by kernel_rfl) ?_
 refine WQ.thenN ?_
 refine WE.condF (by kernel_rfl) ?_
 refine WE.exit ?_
 refine WQ.thenE ?_
 refine WQ.thenE ?_
 refine WQ.blkE ?_
 refine WQ.thenN ?_
 refine WE.seq ?_
 refine WE.draw [.free, .free, .free, .still, .free, .free, .free, .free, .still, .free, .free] Same sameR (by kernel_rfl) 11 (Array.replicate 11 false) (by kernel_rfl) rfl ?_
 intro w12 F13 _
 have HB := Blk.keep HB F13 (nin0 _)
 have HA := Fr.step0 HA F13
 refine WO.one (SA.F sameR sameT _ 0 _ (by kernel_rfl)) 47 (.pointer (some ⟨g, 0, none⟩)) (by kernel_rfl) ?_
 refine WO.one (SA.F sameR sameT _ 1 _ (by kernel_rfl)) 48 (.pointer (some ⟨g, 0, none⟩)) (by kernel_rfl) ?_
 refine WO.one (SA.F sameR sameT _ 2 _ (by kernel_rfl)) 49 (.pointer (some ⟨g, 0, none⟩)) (by kernel_rfl) ?_
 refine WO.ld (SA.S sameR sameT _ 3 _ (by kernel_rfl)) 50 (.string (str s)) (by kernel_rfl) (same (HB.at 0 (by kernel_rfl))) ?_
 refine WO.one (SA.F sameR sameT _ 4 _ (by kernel_rfl)) 51 (.int .i64 (p : Int)) (by kernel_rfl) ?_
 refine WO.one (SA.F sameR sameT _ 5 _ (by kernel_rfl)) 52 (.pointer (some ⟨g, 0, none⟩)) (by kernel_rfl) ?_
 refine WO.one (SA.F sameR sameT _ 6 _ (by kernel_rfl)) 53 (.pointer (some ⟨g, 0, none⟩)) (by kernel_rfl) ?_
 refine WO.one (SA.F sameR sameT _ 7 _ (by kernel_rfl)) 54 (.pointer (some ⟨g, 1, none⟩)) (by kernel_rfl) ?_
 refine WO.ld (SA.S sameR sameT _ 8 _ (by kernel_rfl)) 55 (.int .i64 (k : Int)) (by kernel_rfl) (same (HB.at 1 (by kernel_rfl))) ?_
 refine WO.slS2 (lo := (p : Int)) (hi := (k : Int)) (SA.F sameR sameT _ 9 _ (by kernel_rfl)) 56 p k s (by kernel_rfl) (by rfl) (by rfl) (by omega) (by omega) ?_
 refine WO.one (SA.F sameR sameT _ 10 _ (by kernel_rfl)) 4 (.string (str ((s.take k).drop p))) (by kernel_rfl) ?_
 refine WO.doneA (by kernel_rfl) ?_
 refine WQ.keep [0, 1, 4, 5, 39] (e' := [(0, .pointer (some ⟨g, 0, none⟩)), (1, .func (.func 56) #[] #[]), (4, .string (str ((s.take k).drop p))), (5, .int .i64 (p : Int)), (39, .bool false)]) (by kernel_rfl) ?_
 refine WQ.thenN ?_
 refine WE.ret ?_
 refine WQ.ret (v := .string (str ((s.take k).drop p))) (by kernel_rfl) ?_
 first | (rw [runE_eq (pr := isD) hk1 hk2 hbe (.inr ⟨by omega, by assumption⟩)]; exact ⟨rfl, HB, HA⟩) | (rw [runE_eq (pr := isD) hk1 hk2 hbe (.inl (by omega))]; exact ⟨rfl, HB, HA⟩)
set_option maxRecDepth 100000 in
set_option maxHeartbeats 400000 in
theorem runbad_d (g : Nat) (s : L) (p : Nat) (bz : Int) (w : World) (hp : p ≤ s.length) (hs : s.length ≤ 1000000) (hbz : 0 ≤ bz) (HB : Blk w g #[.string (str s), .int .i64 (p : Int), .int .i64 bz] 60) :
  Calls Tryd.prog 53 #[.pointer (some ⟨g, 0, none⟩), .func (.func 56) #[] #[]] w fun e w' => e = .returned (.string (str ((s.take p).drop p))) ∧ Blk w' g #[.string (str s), .int .i64 (p : Int), .int .i64 bz] 60 ∧ Fr [g] w w' := by
 have HA := Fr.refl [g] w
 refine enter (N := 57) Tryd.func53 (c := _) rfl (by kernel_rfl) (by kernel_rfl) (e := [(0, .pointer (some ⟨g, 0, none⟩)), (1, .func (.func 56) #[] #[])]) (by kernel_rfl) ?_
 refine WE.seq ?_
 refine WE.region ?_
 refine WO.run 1 0 [(4, .string (⟨#[]⟩))] (by kernel_rfl) (by kernel_rfl) ?_
 refine WO.done (by kernel_rfl) ?_
 refine WQ.keep [0, 1, 4] (e' := [(0, .pointer (some ⟨g, 0, none⟩)), (1, .func (.func 56) #[] #[]), (4, .string (⟨#[]⟩))]) (by kernel_rfl) ?_
 refine WQ.thenN ?_
 refine WE.seq ?_
 refine WE.region ?_
 refine WO.run 3 0 [(8, .pointer (some ⟨g, 1, none⟩)), (7, .pointer (some ⟨g, 0, none⟩)), (6, .pointer (some ⟨g, 0, none⟩))] (by kernel_rfl) (by kernel_rfl) ?_
 refine WO.ld (SQ.S 3 (by kernel_rfl)) 9 (.int .i64 (p : Int)) (by kernel_rfl) (same (HB.at 1 (by kernel_rfl))) ?_
 refine WO.run 1 4 [(5, .int .i64 (p : Int))] (by kernel_rfl) (by kernel_rfl) ?_
 refine WO.done (by kernel_rfl) ?_
 refine WQ.keep [0, 1, 4, 5] (e' := [(0, .pointer (some ⟨g, 0, none⟩)), (1, .func (.func 56) #[] #[]), (4, .string (⟨#[]⟩)), (5, .int .i64 (p : Int))]) (by kernel_rfl) ?_
 refine WQ.thenN ?_
 refine WE.seq ?_
 refine WE.block ?_
 refine WE.loop (α := Unit) (E := fun _ => [(0, .pointer (some ⟨g, 0, none⟩)), (1, .func (.func 56) #[] #[]), (5, .int .i64 (p : Int))]) (I := fun _ wr => Blk wr g #[.string (str s), .int .i64 (p : Int), .int .i64 bz] 60 ∧ Fr [g] w wr) (m := fun _ => 0) () [0, 1, 5] (by kernel_rfl) ?_ ?_
 ·
  exact ⟨HB, HA⟩
 rintro _ wr ⟨HB, HA⟩
 refine WE.seq ?_
 refine WE.seq ?_
 refine WE.draw [.free, .free, .free, .still, .free, .free, .free, .free, .free, .still, .free, .free, .free, .still, .free, .free, .free, .free, .free, .free, .free, .free, .still, .free, .free, .free, .still, .free, .eff, .free] Same sameR (by kernel_rfl) 30 (Array.replicate 30 false) (by kernel_rfl) rfl ?_
 intro w1 F2 _
 have HB := Blk.keep HB F2 (nin0 _)
 have HA := Fr.step0 HA F2
 refine WO.one (SA.F sameR sameT _ 0 _ (by kernel_rfl)) 10 (.pointer (some ⟨g, 0, none⟩)) (by kernel_rfl) ?_
 refine WO.one (SA.F sameR sameT _ 1 _ (by kernel_rfl)) 11 (.pointer (some ⟨g, 0, none⟩)) (by kernel_rfl) ?_
 refine WO.one (SA.F sameR sameT _ 2 _ (by kernel_rfl)) 12 (.pointer (some ⟨g, 2, none⟩)) (by kernel_rfl) ?_
 refine WO.ld (SA.S sameR sameT _ 3 _ (by kernel_rfl)) 13 (.int .i64 bz) (by kernel_rfl) (same (HB.at 2 (by kernel_rfl))) ?_
 refine WO.one (SA.F sameR sameT _ 4 _ (by kernel_rfl)) 14 (.bool (decide ((bz : Int) < 0))) (by kernel_rfl) ?_
 refine WO.topPF ((bz : Int) < 0) (by omega) ?_
 refine WO.one (SA.F sameR sameT _ 5 _ (by kernel_rfl)) 15 (.bool false) (by kernel_rfl) ?_
 refine WO.off (SA.O sameR sameT _ 6 _ (by kernel_rfl)) 16 (by kernel_rfl) ?_
 refine WO.off (SA.O sameR sameT _ 7 _ (by kernel_rfl)) 17 (by kernel_rfl) ?_
 refine WO.off (SA.O sameR sameT _ 8 _ (by kernel_rfl)) 18 (by kernel_rfl) ?_
 refine WO.off (SA.O sameR sameT _ 9 _ (by kernel_rfl)) 19 (by kernel_rfl) ?_
 refine WO.off (SA.O sameR sameT _ 10 _ (by kernel_rfl)) 20 (by kernel_rfl) ?_
 refine WO.off (SA.O sameR sameT _ 11 _ (by kernel_rfl)) 21 (by kernel_rfl) ?_
 refine WO.off (SA.O sameR sameT _ 12 _ (by kernel_rfl)) 22 (by kernel_rfl) ?_
 refine WO.off (SA.O sameR sameT _ 13 _ (by kernel_rfl)) 23 (by kernel_rfl) ?_
 refine WO.off (SA.O sameR sameT _ 14 _ (by kernel_rfl)) 24 (by kernel_rfl) ?_
 refine WO.off (SA.O sameR sameT _ 15 _ (by kernel_rfl)) 25 (by kernel_rfl) ?_
 refine WO.one (SA.F sameR sameT _ 16 _ (by kernel_rfl)) 26 (.bool false) (by kernel_rfl) ?_
 refine WO.one (SA.F sameR sameT _ 17 _ (by kernel_rfl)) 27 (.bool false) (by kernel_rfl) ?_
 refine WO.off (SA.O sameR sameT _ 18 _ (by kernel_rfl)) 28 (by kernel_rfl) ?_
 refine WO.off (SA.O sameR sameT _ 19 _ (by kernel_rfl)) 29 (by kernel_rfl) ?_
 refine WO.off (SA.O sameR sameT _ 20 _ (by kernel_rfl)) 30 (by kernel_rfl) ?_
 refine WO.off (SA.O sameR sameT _ 21 _ (by kernel_rfl)) 31 (by kernel_rfl) ?_
 refine WO.off (SA.O sameR sameT _ 22 _ (by kernel_rfl)) 32 (by kernel_rfl) ?_
 refine WO.off (SA.O sameR sameT _ 23 _ (by kernel_rfl)) 33 (by kernel_rfl) ?_
 refine WO.off (SA.O sameR sameT _ 24 _ (by kernel_rfl)) 34 (by kernel_rfl) ?_
 refine WO.off (SA.O sameR sameT _ 25 _ (by kernel_rfl)) 35 (by kernel_rfl) ?_
 refine WO.off (SA.O sameR sameT _ 26 _ (by kernel_rfl)) 36 (by kernel_rfl) ?_
 refine WO.off (SA.O sameR sameT _ 27 _ (by kernel_rfl)) 37 (by kernel_rfl) ?_
 refine WO.off (SA.O sameR sameT _ 28 _ (by kernel_rfl)) 38 (by kernel_rfl) ?_
 refine WO.one (SA.F sameR sameT _ 29 _ (by kernel_rfl)) 39 (.bool false) (by kernel_rfl) ?_
 refine WO.doneA (by kernel_rfl) ?_
 refine WQ.keep [0, 1, 5, 39] (e' := [(0, .pointer (some ⟨g, 0, none⟩)), (1, .func (.func 56) #[] #[]), (5, .int .i64 (p : Int)), (39, .bool false)]) (by kernel_rfl) ?_
 refine WQ.thenN ?_
 refine WE.condF (by kernel_rfl) ?_
 refine WE.exit ?_
 refine WQ.thenE ?_
 refine WQ.thenE ?_
 refine WQ.blkE ?_
 refine WQ.thenN ?_
 refine WE.seq ?_
 refine WE.draw [.free, .free, .free, .still, .free, .free, .free, .free, .still, .free, .free] Same sameR (by kernel_rfl) 11 (Array.replicate 11 false) (by kernel_rfl) rfl ?_
 intro w3 F4 _
 have HB := Blk.keep HB F4 (nin0 _)
 have HA := Fr.step0 HA F4
 refine WO.one (SA.F sameR sameT _ 0 _ (by kernel_rfl)) 47 (.pointer (some ⟨g, 0, none⟩)) (by kernel_rfl) ?_
 refine WO.one (SA.F sameR sameT _ 1 _ (by kernel_rfl)) 48 (.pointer (some ⟨g, 0, none⟩)) (by kernel_rfl) ?_
 refine WO.one (SA.F sameR sameT _ 2 _ (by kernel_rfl)) 49 (.pointer (some ⟨g, 0, none⟩)) (by kernel_rfl) ?_
 refine WO.ld (SA.S sameR sameT _ 3 _ (by kernel_rfl)) 50 (.string (str s)) (by kernel_rfl) (same (HB.at 0 (by kernel_rfl))) ?_
 refine WO.one (SA.F sameR sameT _ 4 _ (by kernel_rfl)) 51 (.int .i64 (p : Int)) (by kernel_rfl) ?_
 refine WO.one (SA.F sameR sameT _ 5 _ (by kernel_rfl)) 52 (.pointer (some ⟨g, 0, none⟩)) (by kernel_rfl) ?_
 refine WO.one (SA.F sameR sameT _ 6 _ (by kernel_rfl)) 53 (.pointer (some ⟨g, 0, none⟩)) (by kernel_rfl) ?_
 refine WO.one (SA.F sameR sameT _ 7 _ (by kernel_rfl)) 54 (.pointer (some ⟨g, 1, none⟩)) (by kernel_rfl) ?_
 refine WO.ld (SA.S sameR sameT _ 8 _ (by kernel_rfl)) 55 (.int .i64 (p : Int)) (by kernel_rfl) (same (HB.at 1 (by kernel_rfl))) ?_
 refine WO.slS2 (lo := (p : Int)) (hi := (p : Int)) (SA.F sameR sameT _ 9 _ (by kernel_rfl)) 56 p p s (by kernel_rfl) (by rfl) (by rfl) (by omega) (by omega) ?_
 refine WO.one (SA.F sameR sameT _ 10 _ (by kernel_rfl)) 4 (.string (str ((s.take p).drop p))) (by kernel_rfl) ?_
 refine WO.doneA (by kernel_rfl) ?_
 refine WQ.keep [0, 1, 4, 5, 39] (e' := [(0, .pointer (some ⟨g, 0, none⟩)), (1, .func (.func 56) #[] #[]), (4, .string (str ((s.take p).drop p))), (5, .int .i64 (p : Int)), (39, .bool false)]) (by kernel_rfl) ?_
 refine WQ.thenN ?_
 refine WE.ret ?_
 refine WQ.ret (v := .string (str ((s.take p).drop p))) (by kernel_rfl) ?_
 exact ⟨rfl, HB, HA⟩
end Go.Proofs.YtdhonbahpcmmnaaDoor.Line
