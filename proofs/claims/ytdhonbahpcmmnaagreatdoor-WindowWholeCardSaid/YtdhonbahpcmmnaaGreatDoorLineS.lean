/- Layer 4's walks: the reader of lines. -/
import Derived.Test.YtdhonbahpcmmnaaGreatDoorLineW
import Derived.Test.YtdhonbahpcmmnaaGreatDoorEngC
section
set_option linter.unusedVariables false
set_option linter.unusedSimpArgs false
namespace Go.Proofs.YtdhonbahpcmmnaaGreatDoor.Line
open Go Go.RowKit Go.Proofs.YtdhonbahpcmmnaaGreatDoor Go.Proofs.YtdhonbahpcmmnaaGreatDoor.Eng Go.Proofs.YtdhonbahpcmmnaaGreatDoorW.PrintWords
theorem u8_eq {a b : UInt8} (h : (a.toNat : Int) = (b.toNat : Int)) : a = b := by
  apply UInt8.toNat_inj.1
  omega
theorem one_part {s : L} {p : Nat} (h : p < s.length) : (s.take (p + 1)).drop p = [gB s p] := by
  have h1 := gB_some s p h
  rw [List.take_add_one, h1, List.drop_append_of_le_length (by rw [List.length_take]; omega)]
  rw [List.drop_of_length_le (by rw [List.length_take]; omega)]
  rfl
def isD (c : UInt8) : Bool := decide (48 ≤ c.toNat) && decide (c.toNat ≤ 57)
theorem isD_f {c : UInt8} (h : ¬ (48 ≤ c.toNat ∧ c.toNat ≤ 57)) : isD c = false := by
  rw [Bool.eq_false_iff]
  intro h2
  unfold isD at h2
  simp only [Bool.and_eq_true, decide_eq_true_eq] at h2
  exact h h2
theorem isD_57 {c : UInt8} (h : 48 ≤ c.toNat) : decide ((c.toNat : Int) ≤ 57) = isD c := by
  unfold isD
  rw [decide_eq_true h, Bool.true_and, decide_eq_decide]
  omega
def runE (pr : UInt8 → Bool) (s : L) (p : Nat) : Nat := p + ((s.drop p).takeWhile pr).length
theorem runE_eq {pr : UInt8 → Bool} {s : L} : ∀ {p k : Nat}, p ≤ k → k ≤ s.length → (∀ j, p ≤ j → j < k → pr (gb s j) = true) → (k = s.length ∨ (k < s.length ∧ pr (gB s k) = false)) → runE pr s p = k := by
  intro p k h1 h2 h3 h4
  obtain ⟨n, rfl⟩ := Nat.exists_eq_add_of_le h1
  induction n generalizing p with
  | zero =>
    unfold runE
    rcases h4 with h4 | ⟨h4, h5⟩
    · rw [List.drop_of_length_le (by omega)]
      rfl
    · rw [List.drop_eq_getElem_cons (by omega : p < s.length), List.takeWhile_cons]
      have e : gB s (p + 0) = s[p] := by
        unfold gB
        rw [List.getD_eq_getElem?_getD, List.getElem?_eq_getElem (by omega : p + 0 < s.length)]
        rfl
      rw [e] at h5
      rw [if_neg (by rw [h5]; simp)]
      rfl
  | succ n ih =>
    have hp := h3 p (Nat.le_refl _) (by omega)
    have e : gb s p = s[p] := by
      unfold gb
      rw [List.getD_eq_getElem?_getD, List.getElem?_eq_getElem (by omega : p < s.length)]
      rfl
    rw [e] at hp
    have := ih (p := p + 1) (by omega) (by omega) (fun j hj1 hj2 => h3 j (by omega) (by omega)) (by rw [show p + 1 + n = p + (n + 1) by omega]; exact h4)
    unfold runE at this ⊢
    rw [List.drop_eq_getElem_cons (by omega : p < s.length), List.takeWhile_cons, if_pos hp, List.length_cons]
    omega
set_option maxRecDepth 100000 in
set_option maxHeartbeats 400000 in
theorem fail_ok (g : Nat) (s : L) (p : Nat) (w : World) (hp : p ≤ s.length) (hs : s.length ≤ 1000000) (t : Int) (HB : Blk w g #[.string (str s), .int .i64 (p : Int), .int .i64 (-1)] 138) :
    Calls Tryz.prog 81 #[.pointer (some ⟨g, 0, none⟩), .int .i64 t] w fun e w' => e = .returned (.tuple #[]) ∧ Blk w' g #[.string (str s), .int .i64 (p : Int), .int .i64 t] 138 ∧ Fr [g] w w' := by
 have HA := Fr.refl [g] w
 refine Ze Tryz.func81 _ <| Zsg <| Zr 3 <| Zl 7 (J (-1)) (HB.s 2) <| Zr 1 <| Zdn <| ZT <| WE.region <| Zr 4 <| Zst g 2 #[.string (str s), J (p : Int), J t] HB ?_
 intro w1 HB3 F2 _
 refine Zd <| ZV (.tuple #[]) ?_
 exact ⟨rfl, HB3, (HA.step F2 (inSL (by simp) inS0))⟩
set_option maxRecDepth 100000 in
set_option maxHeartbeats 400000 in
theorem fail_bad (g : Nat) (s : L) (p : Nat) (bz : Int) (w : World) (hp : p ≤ s.length) (hs : s.length ≤ 1000000) (hbz : 0 ≤ bz) (t : Int) (HB : Blk w g #[.string (str s), .int .i64 (p : Int), .int .i64 bz] 138) :
    Calls Tryz.prog 81 #[.pointer (some ⟨g, 0, none⟩), .int .i64 t] w fun e w' => e = .returned (.tuple #[]) ∧ Blk w' g #[.string (str s), .int .i64 (p : Int), .int .i64 bz] 138 ∧ Fr [g] w w' := by
 have HA := Fr.refl [g] w
 refine Ze Tryz.func81 _ <| Zsg <| Zr 3 <| Zl 7 (J bz) (HB.s 2) <| ZoPF 8 ((bz : Int) < 0) (by omega) <| Zdn <| ZF <| WE.skip <| ZV (.tuple #[]) ?_
 exact ⟨rfl, HB, HA⟩
set_option maxRecDepth 100000 in
set_option maxHeartbeats 400000 in
theorem next_bad (g : Nat) (s : L) (p : Nat) (bz : Int) (w : World) (hp : p ≤ s.length) (hs : s.length ≤ 1000000) (hbz : 0 ≤ bz) (c : UInt8) (HB : Blk w g #[.string (str s), .int .i64 (p : Int), .int .i64 bz] 138) :
    Calls Tryz.prog 80 #[.pointer (some ⟨g, 0, none⟩), .int .u8 (c.toNat : Int)] w fun e w' => e = .returned (.bool false) ∧ Blk w' g #[.string (str s), .int .i64 (p : Int), .int .i64 bz] 138 ∧ Fr [g] w w' := by
 have HA := Fr.refl [g] w
 refine Ze Tryz.func80 _ <| Zsg <| Zr 1 <| Zdn <| Zq <| Zq <| ZE [3, 9, 13, 21, 25] [] [] 30 ?_
 intro w1 F2 _
 have HB := HB.k F2
 refine Yq 0 3 <| Yl 3 8 (J bz) (HB.s 2) <| Yr0 [4] [(9, .bool (decide ((bz : Int) ≥ 0)))] <| WO.topPT ((bz : Int) ≥ 0) (by omega) <| Yq 5 25 <| Ydn <| ZT <| Zsg <| Zr 1 <| Zdn <| WE.ret <| WQ.thenR <| ZR (.bool false) ?_
 exact ⟨rfl, HB, (HA.step0 F2)⟩
set_option maxRecDepth 100000 in
set_option maxHeartbeats 400000 in
theorem next_yes (g : Nat) (s : L) (p : Nat) (w : World) (hp : p ≤ s.length) (hs : s.length ≤ 1000000) (c : UInt8) (hlt : p < s.length) (hc : gB s p = c) (HB : Blk w g #[.string (str s), .int .i64 (p : Int), .int .i64 (-1)] 138) :
    Calls Tryz.prog 80 #[.pointer (some ⟨g, 0, none⟩), .int .u8 (c.toNat : Int)] w fun e w' => e = .returned (.bool true) ∧ Blk w' g #[.string (str s), .int .i64 ((p + 1 : Nat) : Int), .int .i64 (-1)] 138 ∧ Fr [g] w w' := by
 have HA := Fr.refl [g] w
 refine Ze Tryz.func80 _ <| Zsg <| Zr 1 <| Zdn <| Zq <| Zq <| ZE [3, 9, 13, 21, 25] [] [] 30 ?_
 intro w1 F2 _
 have HB := HB.k F2
 refine Yq 0 3 <| Yl 3 8 (J (-1)) (HB.s 2) <| Yq 4 5 <| Yl 9 14 (J (p : Int)) (HB.s 1) <| Yq 10 3 <| Yl 13 18 (.string (str s)) (HB.s 0) <| Yr0 [14, 15] [(20, .bool (decide (((p : Int) : Int) ≥ (s.length : Int)))), (19, J (s.length : Int))] <| WO.topPF (((p : Int) : Int) ≥ (s.length : Int)) (by omega) <| Yq 16 5 <| Yl 21 26 (.string (str s)) (HB.s 0) <| Yq 22 3 <| Yl 25 30 (J (p : Int)) (HB.s 1) <| Yis 26 (i := (p : Int)) 31 p s (by rfl) (by omega) <| Yr0 [27, 28] [(33, .bool (!decide ((((gB s p).toNat : Int) : Int) = (c.toNat : Int)))), (32, .int .u8 (c.toNat : Int))] <| WO.topNT ((((gB s p).toNat : Int) : Int) = (c.toNat : Int)) (by rw [hc]) <| Yq 29 1 <| Ydn <| ZF <| Zk <| Zsg <| Zr 3 <| Zl 38 (J (p : Int)) (HB.s 1) <| Zw 39 ((p : Int) + 1) ((p + 1 : Nat) : Int) <| Zr 2 <| Zst g 1 #[.string (str s), J ((p + 1 : Nat) : Int), J (-1)] HB ?_
 intro w3 HB5 F4 _
 refine Zdn <| Zsg <| Zr 1 <| Zdn <| WE.ret <| ZR (.bool true) ?_
 exact ⟨rfl, HB5, ((HA.step0 F2).step F4 (inSL (by simp) inS0))⟩
set_option maxRecDepth 100000 in
set_option maxHeartbeats 400000 in
theorem next_no (g : Nat) (s : L) (p : Nat) (w : World) (hp : p ≤ s.length) (hs : s.length ≤ 1000000) (c : UInt8) (hc : ¬ (p < s.length ∧ gB s p = c)) (HB : Blk w g #[.string (str s), .int .i64 (p : Int), .int .i64 (-1)] 138) :
    Calls Tryz.prog 80 #[.pointer (some ⟨g, 0, none⟩), .int .u8 (c.toNat : Int)] w fun e w' => e = .returned (.bool false) ∧ Blk w' g #[.string (str s), .int .i64 (p : Int), .int .i64 (-1)] 138 ∧ Fr [g] w w' := by
 have HA := Fr.refl [g] w
 refine Ze Tryz.func80 _ <| Zsg <| Zr 1 <| Zdn <| Zq <| Zq <| ZE [3, 9, 13, 21, 25] [] [] 30 ?_
 intro w1 F2 _
 have HB := HB.k F2
 refine Yq 0 3 <| Yl 3 8 (J (-1)) (HB.s 2) <| Yq 4 5 <| Yl 9 14 (J (p : Int)) (HB.s 1) <| Yq 10 3 <| Yl 13 18 (.string (str s)) (HB.s 0) <| Yr0 [14, 15] [(20, .bool (decide (((p : Int) : Int) ≥ (s.length : Int)))), (19, J (s.length : Int))] <| WO.topP (((p : Int) : Int) ≥ (s.length : Int)) ?_ ?_
 ·
  intro h3
  refine Yq 16 14 <| Ydn <| ZT <| Zsg <| Zr 1 <| Zdn <| WE.ret <| WQ.thenR <| ZR (.bool false) ?_
  exact ⟨rfl, HB, (HA.step0 F2)⟩
 intro h3
 refine Yq 16 5 <| Yl 21 26 (.string (str s)) (HB.s 0) <| Yq 22 3 <| Yl 25 30 (J (p : Int)) (HB.s 1) <| Yis 26 (i := (p : Int)) 31 p s (by rfl) (by omega) <| Yr0 [27, 28] [(33, .bool (!decide ((((gB s p).toNat : Int) : Int) = (c.toNat : Int)))), (32, .int .u8 (c.toNat : Int))] <| WO.topNF ((((gB s p).toNat : Int) : Int) = (c.toNat : Int)) (by intro h_; exact hc ⟨by omega, u8_eq h_⟩) <| Yq 29 1 <| Ydn <| ZT <| Zsg <| Zr 1 <| Zdn <| WE.ret <| WQ.thenR <| ZR (.bool false) ?_
 exact ⟨rfl, HB, (HA.step0 F2)⟩
set_option maxRecDepth 100000 in
set_option maxHeartbeats 400000 in
theorem sign_yes (g : Nat) (s : L) (p : Nat) (w : World) (hp : p ≤ s.length) (hs : s.length ≤ 1000000) (c : UInt8) (hlt : p < s.length) (hc : gB s p = c) (HB : Blk w g #[.string (str s), .int .i64 (p : Int), .int .i64 (-1)] 138) :
    Calls Tryz.prog 82 #[.pointer (some ⟨g, 0, none⟩), .int .u8 (c.toNat : Int)] w fun e w' => e = .returned (.tuple #[]) ∧ Blk w' g #[.string (str s), .int .i64 ((p + 1 : Nat) : Int), .int .i64 (-1)] 138 ∧ Fr [g] w w' := by
 have HA := Fr.refl [g] w
 refine Ze Tryz.func82 _ <| Zsg <| Zr 2 <| Zc 6 (next_yes g s p _ hp hs c hlt hc HB) ?_
 rintro _ w1 ⟨rfl, HB3, F2⟩
 refine ⟨_, rfl, trivial, Zr 1 <| Zdn <| ZF <| WE.skip <| ZV (.tuple #[]) ?_⟩
 exact ⟨rfl, HB3, (HA.step F2 (inSL (by simp) inS0))⟩
set_option maxRecDepth 100000 in
set_option maxHeartbeats 400000 in
theorem sign_no (g : Nat) (s : L) (p : Nat) (w : World) (hp : p ≤ s.length) (hs : s.length ≤ 1000000) (c : UInt8) (hc : ¬ (p < s.length ∧ gB s p = c)) (HB : Blk w g #[.string (str s), .int .i64 (p : Int), .int .i64 (-1)] 138) :
    Calls Tryz.prog 82 #[.pointer (some ⟨g, 0, none⟩), .int .u8 (c.toNat : Int)] w fun e w' => e = .returned (.tuple #[]) ∧ Blk w' g #[.string (str s), .int .i64 (p : Int), .int .i64 (p : Int)] 138 ∧ Fr [g] w w' := by
 have HA := Fr.refl [g] w
 refine Ze Tryz.func82 _ <| Zsg <| Zr 2 <| Zc 6 (next_no g s p _ hp hs c hc HB) ?_
 rintro _ w1 ⟨rfl, HB3, F2⟩
 refine ⟨_, rfl, trivial, Zr 1 <| Zdn <| ZT <| WE.region <| Zr 4 <| Zl 12 (J (p : Int)) (HB3.s 1) <| Zc 13 (fail_ok g s p _ (by omega) hs ((p : Int) : Int) HB3) ?_⟩
 rintro _ w4 ⟨rfl, HB6, F5⟩
 refine ⟨_, rfl, trivial, Zd <| ZV (.tuple #[]) ?_⟩
 exact ⟨rfl, HB6, ((HA.step F2 (inSL (by simp) inS0)).step F5 (inSL (by simp) inS0))⟩
set_option maxRecDepth 100000 in
set_option maxHeartbeats 400000 in
theorem sign_bad (g : Nat) (s : L) (p : Nat) (bz : Int) (w : World) (hp : p ≤ s.length) (hs : s.length ≤ 1000000) (hbz : 0 ≤ bz) (c : UInt8) (HB : Blk w g #[.string (str s), .int .i64 (p : Int), .int .i64 bz] 138) :
    Calls Tryz.prog 82 #[.pointer (some ⟨g, 0, none⟩), .int .u8 (c.toNat : Int)] w fun e w' => e = .returned (.tuple #[]) ∧ Blk w' g #[.string (str s), .int .i64 (p : Int), .int .i64 bz] 138 ∧ Fr [g] w w' := by
 have HA := Fr.refl [g] w
 refine Ze Tryz.func82 _ <| Zsg <| Zr 2 <| Zc 6 (next_bad g s p bz _ hp hs hbz c HB) ?_
 rintro _ w1 ⟨rfl, HB3, F2⟩
 refine ⟨_, rfl, trivial, Zr 1 <| Zdn <| ZT <| WE.region <| Zr 4 <| Zl 12 (J (p : Int)) (HB3.s 1) <| Zc 13 (fail_bad g s p bz _ (by omega) hs hbz ((p : Int) : Int) HB3) ?_⟩
 rintro _ w4 ⟨rfl, HB6, F5⟩
 refine ⟨_, rfl, trivial, Zd <| ZV (.tuple #[]) ?_⟩
 exact ⟨rfl, HB6, ((HA.step F2 (inSL (by simp) inS0)).step F5 (inSL (by simp) inS0))⟩
set_option maxRecDepth 100000 in
set_option maxHeartbeats 400000 in
theorem one_bad (g : Nat) (s : L) (p : Nat) (bz : Int) (w : World) (hp : p ≤ s.length) (hs : s.length ≤ 1000000) (hbz : 0 ≤ bz) (HB : Blk w g #[.string (str s), .int .i64 (p : Int), .int .i64 bz] 138) :
    Calls Tryz.prog 84 #[.pointer (some ⟨g, 0, none⟩)] w fun e w' => e = .returned (.string (⟨#[63]⟩)) ∧ Blk w' g #[.string (str s), .int .i64 (p : Int), .int .i64 bz] 138 ∧ Fr [g] w w' := by
 have HA := Fr.refl [g] w
 refine Ze Tryz.func84 _ <| Zsg <| Zr 1 <| Zdn <| Zq <| Zq <| ZE [3, 9, 13] [] [] 17 ?_
 intro w1 F2 _
 have HB := HB.k F2
 refine Yq 0 3 <| Yl 3 6 (J bz) (HB.s 2) <| Yr0 [4] [(7, .bool (decide ((bz : Int) ≥ 0)))] <| WO.topPT ((bz : Int) ≥ 0) (by omega) <| Yq 5 12 <| Ydn <| ZT <| Zsg <| Zr 1 <| Zdn <| WE.ret <| WQ.thenR <| ZR (.string (⟨#[63]⟩)) ?_
 exact ⟨rfl, HB, (HA.step0 F2)⟩
set_option maxRecDepth 100000 in
set_option maxHeartbeats 400000 in
theorem one_end (g : Nat) (s : L) (p : Nat) (w : World) (hp : p ≤ s.length) (hs : s.length ≤ 1000000) (he : s.length ≤ p) (HB : Blk w g #[.string (str s), .int .i64 (p : Int), .int .i64 (-1)] 138) :
    Calls Tryz.prog 84 #[.pointer (some ⟨g, 0, none⟩)] w fun e w' => e = .returned (.string (⟨#[63]⟩)) ∧ Blk w' g #[.string (str s), .int .i64 (p : Int), .int .i64 (-1)] 138 ∧ Fr [g] w w' := by
 have HA := Fr.refl [g] w
 refine Ze Tryz.func84 _ <| Zsg <| Zr 1 <| Zdn <| Zq <| Zq <| ZE [3, 9, 13] [] [] 17 ?_
 intro w1 F2 _
 have HB := HB.k F2
 refine Yq 0 3 <| Yl 3 6 (J (-1)) (HB.s 2) <| Yq 4 5 <| Yl 9 12 (J (p : Int)) (HB.s 1) <| Yq 10 3 <| Yl 13 16 (.string (str s)) (HB.s 0) <| Yr0 [14, 15] [(18, .bool (decide (((p : Int) : Int) ≥ (s.length : Int)))), (17, J (s.length : Int))] <| WO.topPT (((p : Int) : Int) ≥ (s.length : Int)) (by omega) <| Yq 16 1 <| Ydn <| ZT <| Zsg <| Zr 1 <| Zdn <| WE.ret <| WQ.thenR <| ZR (.string (⟨#[63]⟩)) ?_
 exact ⟨rfl, HB, (HA.step0 F2)⟩
set_option maxRecDepth 100000 in
set_option maxHeartbeats 400000 in
theorem one_yes (g : Nat) (s : L) (p : Nat) (w : World) (hp : p ≤ s.length) (hs : s.length ≤ 1000000) (hlt : p < s.length) (HB : Blk w g #[.string (str s), .int .i64 (p : Int), .int .i64 (-1)] 138) :
    Calls Tryz.prog 84 #[.pointer (some ⟨g, 0, none⟩)] w fun e w' => e = .returned (.string (str [gB s p])) ∧ Blk w' g #[.string (str s), .int .i64 ((p + 1 : Nat) : Int), .int .i64 (-1)] 138 ∧ Fr [g] w w' := by
 have HA := Fr.refl [g] w
 refine Ze Tryz.func84 _ <| Zsg <| Zr 1 <| Zdn <| Zq <| Zq <| ZE [3, 9, 13] [] [] 17 ?_
 intro w1 F2 _
 have HB := HB.k F2
 refine Yq 0 3 <| Yl 3 6 (J (-1)) (HB.s 2) <| Yq 4 5 <| Yl 9 12 (J (p : Int)) (HB.s 1) <| Yq 10 3 <| Yl 13 16 (.string (str s)) (HB.s 0) <| Yr0 [14, 15] [(18, .bool (decide (((p : Int) : Int) ≥ (s.length : Int)))), (17, J (s.length : Int))] <| WO.topPF (((p : Int) : Int) ≥ (s.length : Int)) (by omega) <| Yq 16 1 <| Ydn <| ZF <| Zk <| Zsg <| Zr 3 <| Zl 23 (J (p : Int)) (HB.s 1) <| Zw 24 ((p : Int) + 1) ((p + 1 : Nat) : Int) <| Zr 2 <| Zst g 1 #[.string (str s), J ((p + 1 : Nat) : Int), J (-1)] HB ?_
 intro w3 HB5 F4 _
 refine Zdn <| Zq <| ZE [3, 7, 12] [] [] 15 ?_
 intro w6 F7 _
 have HB5 := HB5.k F7
 refine Yq 0 3 <| Yl 3 30 (.string (str s)) (HB5.s 0) <| Yq 4 3 <| Yl 7 34 (J ((p + 1 : Nat) : Int)) (HB5.s 1) <| Yr0 [8] [(35, J (IntKind.i64.wrap (((p + 1 : Nat) : Int) - 1)))] <| WO.top (v' := J (p : Int)) (wrap_i64 (by omega) (by omega)) <| Yq 9 3 <| Yl 12 39 (J ((p + 1 : Nat) : Int)) (HB5.s 1) <| Yvt 13 (lo := (p : Int)) (hi := ((p + 1 : Nat) : Int)) 40 p (p + 1) s (by rfl) (by rfl) (by omega) (by omega) <| Yq 14 1 <| Ydn <| WE.ret <| ZR (.string (str ((s.take (p + 1)).drop p))) ?_
 exact ⟨by rw [one_part hlt], HB5, (((HA.step0 F2).step F4 (inSL (by simp) inS0)).step0 F7)⟩
set_option maxRecDepth 100000 in
set_option maxHeartbeats 400000 in
theorem isD_c (c : UInt8) (w : World) :
    Calls Tryz.prog 113 #[.int .u8 (c.toNat : Int)] w fun e w' => e = .returned (.bool (isD c)) ∧ Fr [] w w' := by
 have HA := Fr.refl [] w
 refine Ze Tryz.func113 _ <| Zsg <| Zr 1 <| Zdn <| Zsg <| Zr 1 <| ZoP 4 (((c.toNat : Int) : Int) ≥ (48 : Int)) ?_ ?_
 ·
  intro h1
  refine Zr 5 <| Zdn <| WE.ret <| ZR (.bool (decide (((c.toNat : Int) : Int) ≤ (57 : Int)))) ?_
  exact ⟨congrArg (fun b => Ending.returned (Value.bool b)) (isD_57 (by omega)), HA⟩
 intro h1
 refine Zr 5 <| Zdn <| WE.ret <| ZR (.bool false) ?_
 exact ⟨by rw [isD_f (by omega)], HA⟩
set_option maxRecDepth 100000 in
set_option maxHeartbeats 400000 in
theorem run_w (g : Nat) (s : L) (p : Nat) (w : World) (hp : p ≤ s.length) (hs : s.length ≤ 1000000) (HB : Blk w g #[.string (str s), .int .i64 (p : Int), .int .i64 (-1)] 138) :
    Calls Tryz.prog 109 #[.pointer (some ⟨g, 0, none⟩), .func (.func 110) #[] #[]] w fun e w' => e = .returned (.string (str ((s.take (runE inW s p)).drop p))) ∧ Blk w' g #[.string (str s), .int .i64 ((runE inW s p : Nat) : Int), .int .i64 (-1)] 138 ∧ Fr [g] w w' := by
 have HA := Fr.refl [g] w
 refine Ze Tryz.func109 _ <| Zsg <| Zr 1 <| Zdn <| Zsg <| Zr 3 <| Zl 9 (J (p : Int)) (HB.s 1) <| Zr 1 <| Zdn <| Zq <| WE.block <| WE.loop (α := Nat) (E := fun k => [(0, Pt g 0), (1, .func (.func 110) #[] #[]), (5, J (p : Int))]) (I := fun k wr => p ≤ k ∧ k ≤ s.length ∧ (∀ j, p ≤ j → j < k → inW (gb s j) = true) ∧ Blk wr g #[.string (str s), J (k : Int), J (-1)] 138 ∧ Fr [g] w wr) (m := fun k => s.length - k) p [0, 1, 5] (by kernel_rfl) ?_ ?_
 ·
  exact ⟨Nat.le_refl _, hp, fun j h1_ h2_ => absurd h2_ (Nat.not_lt.2 h1_), HB, HA⟩
 rintro k wr ⟨hk1, hk2, hbe, HB, HA⟩
 refine Zq <| Zq <| ZE [3, 9, 13, 22, 26] [] [28] 30 ?_
 intro w1 F2 _
 have HB := HB.k F2
 refine Yq 0 3 <| Yl 3 13 (J (-1)) (HB.s 2) <| Yq 4 5 <| Yl 9 19 (J (k : Int)) (HB.s 1) <| Yq 10 3 <| Yl 13 23 (.string (str s)) (HB.s 0) <| Yr0 [14, 15] [(25, .bool (decide (((k : Int) : Int) < (s.length : Int)))), (24, J (s.length : Int))] <| WO.topP (((k : Int) : Int) < (s.length : Int)) ?_ ?_
 ·
  intro h3
  refine Yq 16 6 <| Yl 22 32 (.string (str s)) (HB.s 0) <| Yq 23 3 <| Yl 26 36 (J (k : Int)) (HB.s 1) <| Yis 27 (i := (k : Int)) 37 k s (by rfl) (by omega) <| Yc 28 38 (within_l (gB s k) _) ?_
  rintro _ w4 ⟨rfl, F5⟩
  have HA := (HA.step0 F2).step0 F5
  refine ⟨_, rfl, trivial, ?_⟩
  rcases Bool.eq_false_or_eq_true (inW (gB s k)) with h6 | h6
  ·
   rw [h6]
   have HB := HB.k F5
   refine Yq 29 1 <| Ydn <| ZT <| Zk <| WE.block <| WE.region <| Zr 3 <| Zl 43 (J (k : Int)) (HB.s 1) <| Zw 44 ((k : Int) + 1) ((k + 1 : Nat) : Int) <| Zr 2 <| Zst g 1 #[.string (str s), J ((k + 1 : Nat) : Int), J (-1)] HB ?_
   intro w7 HB9 F8 _
   refine Zd <| WQ.blkN <| WQ.round ?_
   intro a_ ha_
   refine ⟨k + 1, ?_, ha_.keep [0, 1, 5] (by kernel_rfl), ?_⟩
   ·
    omega
   ·
    exact ⟨by omega, by omega, fun j h1_ h2_ => (Nat.lt_succ_iff_lt_or_eq.1 h2_).elim (hbe j h1_) (fun h_ => by rw [h_]; assumption), HB9, (HA.step F8 (inSL (by simp) inS0))⟩
  ·
   rw [h6]
   refine Yq 29 1 <| Ydn <| ZF <| WE.exit <| WQ.thenE <| WQ.thenE <| WQ.blkE <| Zn <| Zq <| ZE [3, 8] [] [] 11 ?_
   intro w10 F11 _
   have HB := (HB.k F5).k F11
   have HA := HA.step0 F11
   refine Yq 0 3 <| Yl 3 50 (.string (str s)) (HB.s 0) <| Yq 4 4 <| Yl 8 55 (J (k : Int)) (HB.s 1) <| Yvt 9 (lo := (p : Int)) (hi := (k : Int)) 56 p k s (by rfl) (by rfl) (by omega) (by omega) <| Yq 10 1 <| Ydn <| WE.ret <| ZR (.string (str ((s.take k).drop p))) ?_
   first | (rw [runE_eq (pr := inW) hk1 hk2 hbe (.inr ⟨by omega, by assumption⟩)]; exact ⟨rfl, HB, HA⟩) | (rw [runE_eq (pr := inW) hk1 hk2 hbe (.inl (by omega))]; exact ⟨rfl, HB, HA⟩)
 intro h3
 refine Yq 16 14 <| Ydn <| ZF <| WE.exit <| WQ.thenE <| WQ.thenE <| WQ.blkE <| Zn <| Zq <| ZE [3, 8] [] [] 11 ?_
 intro w12 F13 _
 have HB := HB.k F13
 have HA := (HA.step0 F2).step0 F13
 refine Yq 0 3 <| Yl 3 50 (.string (str s)) (HB.s 0) <| Yq 4 4 <| Yl 8 55 (J (k : Int)) (HB.s 1) <| Yvt 9 (lo := (p : Int)) (hi := (k : Int)) 56 p k s (by rfl) (by rfl) (by omega) (by omega) <| Yq 10 1 <| Ydn <| WE.ret <| ZR (.string (str ((s.take k).drop p))) ?_
 first | (rw [runE_eq (pr := inW) hk1 hk2 hbe (.inr ⟨by omega, by assumption⟩)]; exact ⟨rfl, HB, HA⟩) | (rw [runE_eq (pr := inW) hk1 hk2 hbe (.inl (by omega))]; exact ⟨rfl, HB, HA⟩)
set_option maxRecDepth 100000 in
set_option maxHeartbeats 400000 in
theorem runbad_w (g : Nat) (s : L) (p : Nat) (bz : Int) (w : World) (hp : p ≤ s.length) (hs : s.length ≤ 1000000) (hbz : 0 ≤ bz) (HB : Blk w g #[.string (str s), .int .i64 (p : Int), .int .i64 bz] 138) :
    Calls Tryz.prog 109 #[.pointer (some ⟨g, 0, none⟩), .func (.func 110) #[] #[]] w fun e w' => e = .returned (.string (str ((s.take p).drop p))) ∧ Blk w' g #[.string (str s), .int .i64 (p : Int), .int .i64 bz] 138 ∧ Fr [g] w w' := by
 have HA := Fr.refl [g] w
 refine Ze Tryz.func109 _ <| Zsg <| Zr 1 <| Zdn <| Zsg <| Zr 3 <| Zl 9 (J (p : Int)) (HB.s 1) <| Zr 1 <| Zdn <| Zq <| WE.block <| WE.loop (α := Unit) (E := fun _ => [(0, Pt g 0), (1, .func (.func 110) #[] #[]), (5, J (p : Int))]) (I := fun _ wr => Blk wr g #[.string (str s), J (p : Int), J bz] 138 ∧ Fr [g] w wr) (m := fun _ => 0) () [0, 1, 5] (by kernel_rfl) ?_ ?_
 ·
  exact ⟨HB, HA⟩
 rintro _ wr ⟨HB, HA⟩
 refine Zq <| Zq <| ZE [3, 9, 13, 22, 26] [] [28] 30 ?_
 intro w1 F2 _
 have HB := HB.k F2
 refine Yq 0 3 <| Yl 3 13 (J bz) (HB.s 2) <| Yr0 [4] [(14, .bool (decide ((bz : Int) < 0)))] <| WO.topPF ((bz : Int) < 0) (by omega) <| Yq 5 25 <| Ydn <| ZF <| WE.exit <| WQ.thenE <| WQ.thenE <| WQ.blkE <| Zn <| Zq <| ZE [3, 8] [] [] 11 ?_
 intro w3 F4 _
 have HB := HB.k F4
 refine Yq 0 3 <| Yl 3 50 (.string (str s)) (HB.s 0) <| Yq 4 4 <| Yl 8 55 (J (p : Int)) (HB.s 1) <| Yvt 9 (lo := (p : Int)) (hi := (p : Int)) 56 p p s (by rfl) (by rfl) (by omega) (by omega) <| Yq 10 1 <| Ydn <| WE.ret <| ZR (.string (str ((s.take p).drop p))) ?_
 exact ⟨rfl, HB, ((HA.step0 F2).step0 F4)⟩
set_option maxRecDepth 100000 in
set_option maxHeartbeats 400000 in
theorem run_d (g : Nat) (s : L) (p : Nat) (w : World) (hp : p ≤ s.length) (hs : s.length ≤ 1000000) (HB : Blk w g #[.string (str s), .int .i64 (p : Int), .int .i64 (-1)] 138) :
    Calls Tryz.prog 109 #[.pointer (some ⟨g, 0, none⟩), .func (.func 113) #[] #[]] w fun e w' => e = .returned (.string (str ((s.take (runE isD s p)).drop p))) ∧ Blk w' g #[.string (str s), .int .i64 ((runE isD s p : Nat) : Int), .int .i64 (-1)] 138 ∧ Fr [g] w w' := by
 have HA := Fr.refl [g] w
 refine Ze Tryz.func109 _ <| Zsg <| Zr 1 <| Zdn <| Zsg <| Zr 3 <| Zl 9 (J (p : Int)) (HB.s 1) <| Zr 1 <| Zdn <| Zq <| WE.block <| WE.loop (α := Nat) (E := fun k => [(0, Pt g 0), (1, .func (.func 113) #[] #[]), (5, J (p : Int))]) (I := fun k wr => p ≤ k ∧ k ≤ s.length ∧ (∀ j, p ≤ j → j < k → isD (gb s j) = true) ∧ Blk wr g #[.string (str s), J (k : Int), J (-1)] 138 ∧ Fr [g] w wr) (m := fun k => s.length - k) p [0, 1, 5] (by kernel_rfl) ?_ ?_
 ·
  exact ⟨Nat.le_refl _, hp, fun j h1_ h2_ => absurd h2_ (Nat.not_lt.2 h1_), HB, HA⟩
 rintro k wr ⟨hk1, hk2, hbe, HB, HA⟩
 refine Zq <| Zq <| ZE [3, 9, 13, 22, 26] [] [28] 30 ?_
 intro w1 F2 _
 have HB := HB.k F2
 refine Yq 0 3 <| Yl 3 13 (J (-1)) (HB.s 2) <| Yq 4 5 <| Yl 9 19 (J (k : Int)) (HB.s 1) <| Yq 10 3 <| Yl 13 23 (.string (str s)) (HB.s 0) <| Yr0 [14, 15] [(25, .bool (decide (((k : Int) : Int) < (s.length : Int)))), (24, J (s.length : Int))] <| WO.topP (((k : Int) : Int) < (s.length : Int)) ?_ ?_
 ·
  intro h3
  refine Yq 16 6 <| Yl 22 32 (.string (str s)) (HB.s 0) <| Yq 23 3 <| Yl 26 36 (J (k : Int)) (HB.s 1) <| Yis 27 (i := (k : Int)) 37 k s (by rfl) (by omega) <| Yc 28 38 (isD_c (gB s k) _) ?_
  rintro _ w4 ⟨rfl, F5⟩
  have HA := (HA.step0 F2).step0 F5
  refine ⟨_, rfl, trivial, ?_⟩
  rcases Bool.eq_false_or_eq_true (isD (gB s k)) with h6 | h6
  ·
   rw [h6]
   have HB := HB.k F5
   refine Yq 29 1 <| Ydn <| ZT <| Zk <| WE.block <| WE.region <| Zr 3 <| Zl 43 (J (k : Int)) (HB.s 1) <| Zw 44 ((k : Int) + 1) ((k + 1 : Nat) : Int) <| Zr 2 <| Zst g 1 #[.string (str s), J ((k + 1 : Nat) : Int), J (-1)] HB ?_
   intro w7 HB9 F8 _
   refine Zd <| WQ.blkN <| WQ.round ?_
   intro a_ ha_
   refine ⟨k + 1, ?_, ha_.keep [0, 1, 5] (by kernel_rfl), ?_⟩
   ·
    omega
   ·
    exact ⟨by omega, by omega, fun j h1_ h2_ => (Nat.lt_succ_iff_lt_or_eq.1 h2_).elim (hbe j h1_) (fun h_ => by rw [h_]; assumption), HB9, (HA.step F8 (inSL (by simp) inS0))⟩
  ·
   rw [h6]
   refine Yq 29 1 <| Ydn <| ZF <| WE.exit <| WQ.thenE <| WQ.thenE <| WQ.blkE <| Zn <| Zq <| ZE [3, 8] [] [] 11 ?_
   intro w10 F11 _
   have HB := (HB.k F5).k F11
   have HA := HA.step0 F11
   refine Yq 0 3 <| Yl 3 50 (.string (str s)) (HB.s 0) <| Yq 4 4 <| Yl 8 55 (J (k : Int)) (HB.s 1) <| Yvt 9 (lo := (p : Int)) (hi := (k : Int)) 56 p k s (by rfl) (by rfl) (by omega) (by omega) <| Yq 10 1 <| Ydn <| WE.ret <| ZR (.string (str ((s.take k).drop p))) ?_
   first | (rw [runE_eq (pr := isD) hk1 hk2 hbe (.inr ⟨by omega, by assumption⟩)]; exact ⟨rfl, HB, HA⟩) | (rw [runE_eq (pr := isD) hk1 hk2 hbe (.inl (by omega))]; exact ⟨rfl, HB, HA⟩)
 intro h3
 refine Yq 16 14 <| Ydn <| ZF <| WE.exit <| WQ.thenE <| WQ.thenE <| WQ.blkE <| Zn <| Zq <| ZE [3, 8] [] [] 11 ?_
 intro w12 F13 _
 have HB := HB.k F13
 have HA := (HA.step0 F2).step0 F13
 refine Yq 0 3 <| Yl 3 50 (.string (str s)) (HB.s 0) <| Yq 4 4 <| Yl 8 55 (J (k : Int)) (HB.s 1) <| Yvt 9 (lo := (p : Int)) (hi := (k : Int)) 56 p k s (by rfl) (by rfl) (by omega) (by omega) <| Yq 10 1 <| Ydn <| WE.ret <| ZR (.string (str ((s.take k).drop p))) ?_
 first | (rw [runE_eq (pr := isD) hk1 hk2 hbe (.inr ⟨by omega, by assumption⟩)]; exact ⟨rfl, HB, HA⟩) | (rw [runE_eq (pr := isD) hk1 hk2 hbe (.inl (by omega))]; exact ⟨rfl, HB, HA⟩)
set_option maxRecDepth 100000 in
set_option maxHeartbeats 400000 in
theorem runbad_d (g : Nat) (s : L) (p : Nat) (bz : Int) (w : World) (hp : p ≤ s.length) (hs : s.length ≤ 1000000) (hbz : 0 ≤ bz) (HB : Blk w g #[.string (str s), .int .i64 (p : Int), .int .i64 bz] 138) :
    Calls Tryz.prog 109 #[.pointer (some ⟨g, 0, none⟩), .func (.func 113) #[] #[]] w fun e w' => e = .returned (.string (str ((s.take p).drop p))) ∧ Blk w' g #[.string (str s), .int .i64 (p : Int), .int .i64 bz] 138 ∧ Fr [g] w w' := by
 have HA := Fr.refl [g] w
 refine Ze Tryz.func109 _ <| Zsg <| Zr 1 <| Zdn <| Zsg <| Zr 3 <| Zl 9 (J (p : Int)) (HB.s 1) <| Zr 1 <| Zdn <| Zq <| WE.block <| WE.loop (α := Unit) (E := fun _ => [(0, Pt g 0), (1, .func (.func 113) #[] #[]), (5, J (p : Int))]) (I := fun _ wr => Blk wr g #[.string (str s), J (p : Int), J bz] 138 ∧ Fr [g] w wr) (m := fun _ => 0) () [0, 1, 5] (by kernel_rfl) ?_ ?_
 ·
  exact ⟨HB, HA⟩
 rintro _ wr ⟨HB, HA⟩
 refine Zq <| Zq <| ZE [3, 9, 13, 22, 26] [] [28] 30 ?_
 intro w1 F2 _
 have HB := HB.k F2
 refine Yq 0 3 <| Yl 3 13 (J bz) (HB.s 2) <| Yr0 [4] [(14, .bool (decide ((bz : Int) < 0)))] <| WO.topPF ((bz : Int) < 0) (by omega) <| Yq 5 25 <| Ydn <| ZF <| WE.exit <| WQ.thenE <| WQ.thenE <| WQ.blkE <| Zn <| Zq <| ZE [3, 8] [] [] 11 ?_
 intro w3 F4 _
 have HB := HB.k F4
 refine Yq 0 3 <| Yl 3 50 (.string (str s)) (HB.s 0) <| Yq 4 4 <| Yl 8 55 (J (p : Int)) (HB.s 1) <| Yvt 9 (lo := (p : Int)) (hi := (p : Int)) 56 p p s (by rfl) (by rfl) (by omega) (by omega) <| Yq 10 1 <| Ydn <| WE.ret <| ZR (.string (str ((s.take p).drop p))) ?_
 exact ⟨rfl, HB, ((HA.step0 F2).step0 F4)⟩
end Go.Proofs.YtdhonbahpcmmnaaGreatDoor.Line
end
section
set_option linter.unusedVariables false
set_option linter.unusedSimpArgs false
namespace Go.Proofs.YtdhonbahpcmmnaaGreatDoor.Line
open Go Go.RowKit Go.Proofs.YtdhonbahpcmmnaaGreatDoor Go.Proofs.YtdhonbahpcmmnaaGreatDoor.Eng Go.Proofs.YtdhonbahpcmmnaaGreatDoorW.PrintWords
theorem isD_t {c : UInt8} (h : 48 ≤ c.toNat ∧ c.toNat ≤ 57) : isD c = true := by
  unfold isD
  simp only [Bool.and_eq_true, decide_eq_true_eq]
  exact h
set_option maxRecDepth 100000 in
set_option maxHeartbeats 400000 in
theorem rrun_w (s : L) (p : Nat) (w : World) (hp : p ≤ s.length) (hs : s.length ≤ 1000000) :
    Calls Tryz.prog 104 #[.string (str s), .int .i64 (p : Int), .bool false] w fun e w' => e = .returned (.int .i64 ((runE inW s p : Nat) : Int)) ∧ Fr [] w w' := by
 have HA := Fr.refl [] w
 refine Ze Tryz.func104 _ <| Zsg <| Zr 1 <| Zdn <| Zq <| WE.block <| WE.loop (α := Nat) (E := fun k => [(0, .string (str s)), (1, J (k : Int)), (2, .bool false), (6, J 0)]) (I := fun k wr => p ≤ k ∧ k ≤ s.length ∧ (∀ j, p ≤ j → j < k → inW (gb s j) = true) ∧ Fr [] w wr) (m := fun k => s.length - k) p [0, 1, 2, 6] (by kernel_rfl) ?_ ?_
 ·
  exact ⟨Nat.le_refl _, hp, fun j h1_ h2_ => absurd h2_ (Nat.not_lt.2 h1_), HA⟩
 rintro k wr ⟨hk1, hk2, hbe, HA⟩
 refine Zq <| Zsg <| Zr 3 <| ZoP 11 (((k : Int) : Int) < (s.length : Int)) ?_ ?_
 ·
  intro h1
  refine Zdn <| ZT <| Zk <| WE.block <| Zsg <| Zr 2 <| Zis (i := (k : Int)) 14 k s (by rfl) (by omega) <| Zcf 15 (within_r (gB s k) _) ?_
  intro w2 F3
  rcases Bool.eq_false_or_eq_true (inW (gB s k)) with h4 | h4
  ·
   rw [h4]
   refine Zr 1 <| Zdn <| Zq <| Zsg <| Zr 1 <| Zdn <| ZF <| Zk <| Zq <| Zsg <| Zr 2 <| Zdn <| ZF <| Zk <| WE.region <| Zr 1 <| Zw 31 ((k : Int) + 1) ((k + 1 : Nat) : Int) <| Zr 1 <| Zd <| WQ.blkN <| WQ.round ?_
   intro a_ ha_
   refine ⟨k + 1, ?_, ha_.keep [0, 1, 2, 6] (by kernel_rfl), ?_⟩
   ·
    omega
   ·
    exact ⟨by omega, by omega, fun j h1_ h2_ => (Nat.lt_succ_iff_lt_or_eq.1 h2_).elim (hbe j h1_) (fun h_ => by rw [h_]; first | assumption | exact isD_t (c := gB s k) (by omega)), (HA.step0 F3)⟩
  ·
   rw [h4]
   have HA := HA.step0 F3
   refine Zr 1 <| Zdn <| Zq <| Zsg <| Zr 1 <| Zdn <| ZF <| Zk <| Zq <| Zsg <| Zr 2 <| Zdn <| ZT <| Zsg <| Zr 2 <| Zdn <| WE.ret <| WQ.thenR <| WQ.blkR <| WQ.thenR <| WQ.blkR <| WQ.thenR <| ZR (J (k : Int)) ?_
   first | (rw [runE_eq (pr := inW) hk1 hk2 hbe (.inr ⟨by omega, by first | assumption | exact isD_f (c := gB s k) (by omega)⟩)]; exact ⟨rfl, HA⟩) | (rw [runE_eq (pr := inW) hk1 hk2 hbe (.inl (by omega))]; exact ⟨rfl, HA⟩)
 intro h1
 refine Zdn <| ZF <| WE.exit <| WQ.thenE <| WQ.thenE <| WQ.blkE <| Zn <| Zsg <| Zr 2 <| Zdn <| WE.ret <| ZR (J (k : Int)) ?_
 first | (rw [runE_eq (pr := inW) hk1 hk2 hbe (.inr ⟨by omega, by first | assumption | exact isD_f (c := gB s k) (by omega)⟩)]; exact ⟨rfl, HA⟩) | (rw [runE_eq (pr := inW) hk1 hk2 hbe (.inl (by omega))]; exact ⟨rfl, HA⟩)
set_option maxRecDepth 100000 in
set_option maxHeartbeats 400000 in
theorem rrun_d (s : L) (p : Nat) (w : World) (hp : p ≤ s.length) (hs : s.length ≤ 1000000) :
    Calls Tryz.prog 104 #[.string (str s), .int .i64 (p : Int), .bool true] w fun e w' => e = .returned (.int .i64 ((runE isD s p : Nat) : Int)) ∧ Fr [] w w' := by
 have HA := Fr.refl [] w
 refine Ze Tryz.func104 _ <| Zsg <| Zr 1 <| Zdn <| Zq <| WE.block <| WE.loop (α := Nat) (E := fun k => [(0, .string (str s)), (1, J (k : Int)), (2, .bool true), (6, J 0)]) (I := fun k wr => p ≤ k ∧ k ≤ s.length ∧ (∀ j, p ≤ j → j < k → isD (gb s j) = true) ∧ Fr [] w wr) (m := fun k => s.length - k) p [0, 1, 2, 6] (by kernel_rfl) ?_ ?_
 ·
  exact ⟨Nat.le_refl _, hp, fun j h1_ h2_ => absurd h2_ (Nat.not_lt.2 h1_), HA⟩
 rintro k wr ⟨hk1, hk2, hbe, HA⟩
 refine Zq <| Zsg <| Zr 3 <| ZoP 11 (((k : Int) : Int) < (s.length : Int)) ?_ ?_
 ·
  intro h1
  refine Zdn <| ZT <| Zk <| WE.block <| Zsg <| Zr 2 <| Zis (i := (k : Int)) 14 k s (by rfl) (by omega) <| Zcf 15 (within_r (gB s k) _) ?_
  intro w2 F3
  generalize inW (gB s k) = bw_
  refine Zo 7 (.bool bw_) <| WO.topB (bw_) ?_ ?_
  ·
   intro h4
   refine Zdn <| Zq <| Zsg <| Zr 1 <| Zdn <| ZT <| WE.region <| Zr 2 <| Zis (i := (k : Int)) 19 k s (by rfl) (by omega) <| ZoP 20 ((((gB s k).toNat : Int) : Int) ≥ (48 : Int)) ?_ ?_
   ·
    intro h5
    refine Zr 3 <| Zis (i := (k : Int)) 24 k s (by rfl) (by omega) <| ZoP 25 ((((gB s k).toNat : Int) : Int) ≤ (57 : Int)) ?_ ?_
    ·
     intro h6
     refine Zr 2 <| Zdn <| Zq <| Zsg <| Zr 2 <| Zdn <| ZF <| Zk <| WE.region <| Zr 1 <| Zw 31 ((k : Int) + 1) ((k + 1 : Nat) : Int) <| Zr 1 <| Zd <| WQ.blkN <| WQ.round ?_
     intro a_ ha_
     refine ⟨k + 1, ?_, ha_.keep [0, 1, 2, 6] (by kernel_rfl), ?_⟩
     ·
      omega
     ·
      exact ⟨by omega, by omega, fun j h1_ h2_ => (Nat.lt_succ_iff_lt_or_eq.1 h2_).elim (hbe j h1_) (fun h_ => by rw [h_]; first | assumption | exact isD_t (c := gB s k) (by omega)), (HA.step0 F3)⟩
    intro h6
    have HA := HA.step0 F3
    refine Zr 2 <| Zdn <| Zq <| Zsg <| Zr 2 <| Zdn <| ZT <| Zsg <| Zr 2 <| Zdn <| WE.ret <| WQ.thenR <| WQ.blkR <| WQ.thenR <| WQ.blkR <| WQ.thenR <| ZR (J (k : Int)) ?_
    first | (rw [runE_eq (pr := isD) hk1 hk2 hbe (.inr ⟨by omega, by first | assumption | exact isD_f (c := gB s k) (by omega)⟩)]; exact ⟨rfl, HA⟩) | (rw [runE_eq (pr := isD) hk1 hk2 hbe (.inl (by omega))]; exact ⟨rfl, HA⟩)
   intro h5
   have HA := HA.step0 F3
   refine Zr 7 <| Zdn <| Zq <| Zsg <| Zr 2 <| Zdn <| ZT <| Zsg <| Zr 2 <| Zdn <| WE.ret <| WQ.thenR <| WQ.blkR <| WQ.thenR <| WQ.blkR <| WQ.thenR <| ZR (J (k : Int)) ?_
   first | (rw [runE_eq (pr := isD) hk1 hk2 hbe (.inr ⟨by omega, by first | assumption | exact isD_f (c := gB s k) (by omega)⟩)]; exact ⟨rfl, HA⟩) | (rw [runE_eq (pr := isD) hk1 hk2 hbe (.inl (by omega))]; exact ⟨rfl, HA⟩)
  intro h4
  refine Zdn <| Zq <| Zsg <| Zr 1 <| Zdn <| ZT <| WE.region <| Zr 2 <| Zis (i := (k : Int)) 19 k s (by rfl) (by omega) <| ZoP 20 ((((gB s k).toNat : Int) : Int) ≥ (48 : Int)) ?_ ?_
  ·
   intro h7
   refine Zr 3 <| Zis (i := (k : Int)) 24 k s (by rfl) (by omega) <| ZoP 25 ((((gB s k).toNat : Int) : Int) ≤ (57 : Int)) ?_ ?_
   ·
    intro h8
    refine Zr 2 <| Zdn <| Zq <| Zsg <| Zr 2 <| Zdn <| ZF <| Zk <| WE.region <| Zr 1 <| Zw 31 ((k : Int) + 1) ((k + 1 : Nat) : Int) <| Zr 1 <| Zd <| WQ.blkN <| WQ.round ?_
    intro a_ ha_
    refine ⟨k + 1, ?_, ha_.keep [0, 1, 2, 6] (by kernel_rfl), ?_⟩
    ·
     omega
    ·
     exact ⟨by omega, by omega, fun j h1_ h2_ => (Nat.lt_succ_iff_lt_or_eq.1 h2_).elim (hbe j h1_) (fun h_ => by rw [h_]; first | assumption | exact isD_t (c := gB s k) (by omega)), (HA.step0 F3)⟩
   intro h8
   have HA := HA.step0 F3
   refine Zr 2 <| Zdn <| Zq <| Zsg <| Zr 2 <| Zdn <| ZT <| Zsg <| Zr 2 <| Zdn <| WE.ret <| WQ.thenR <| WQ.blkR <| WQ.thenR <| WQ.blkR <| WQ.thenR <| ZR (J (k : Int)) ?_
   first | (rw [runE_eq (pr := isD) hk1 hk2 hbe (.inr ⟨by omega, by first | assumption | exact isD_f (c := gB s k) (by omega)⟩)]; exact ⟨rfl, HA⟩) | (rw [runE_eq (pr := isD) hk1 hk2 hbe (.inl (by omega))]; exact ⟨rfl, HA⟩)
  intro h7
  have HA := HA.step0 F3
  refine Zr 7 <| Zdn <| Zq <| Zsg <| Zr 2 <| Zdn <| ZT <| Zsg <| Zr 2 <| Zdn <| WE.ret <| WQ.thenR <| WQ.blkR <| WQ.thenR <| WQ.blkR <| WQ.thenR <| ZR (J (k : Int)) ?_
  first | (rw [runE_eq (pr := isD) hk1 hk2 hbe (.inr ⟨by omega, by first | assumption | exact isD_f (c := gB s k) (by omega)⟩)]; exact ⟨rfl, HA⟩) | (rw [runE_eq (pr := isD) hk1 hk2 hbe (.inl (by omega))]; exact ⟨rfl, HA⟩)
 intro h1
 refine Zdn <| ZF <| WE.exit <| WQ.thenE <| WQ.thenE <| WQ.blkE <| Zn <| Zsg <| Zr 2 <| Zdn <| WE.ret <| ZR (J (k : Int)) ?_
 first | (rw [runE_eq (pr := isD) hk1 hk2 hbe (.inr ⟨by omega, by first | assumption | exact isD_f (c := gB s k) (by omega)⟩)]; exact ⟨rfl, HA⟩) | (rw [runE_eq (pr := isD) hk1 hk2 hbe (.inl (by omega))]; exact ⟨rfl, HA⟩)
end Go.Proofs.YtdhonbahpcmmnaaGreatDoor.Line
end
