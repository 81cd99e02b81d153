-- PRINTED BY print.sh 35421559b90ae4d0a3588c463048766b98c2df88dd9212a6774a882060cdf62d: not written by this session
import Derived.Test.YtjkaldnhfenbhaaPSampleKeepsx0
namespace Go.Proofs.Ytjkaldnhfenbhaa.PSampleKeeps
open Go.RowKit Go.Proofs.YtjkaldnhfenbhaaW.PrintWords Go.Proofs.YtjkaldnhfenbhaaW.PrintLast Go.Proofs.YtjkaldnhfenbhaaW.PrintMore
attribute [local go_sem] max2_int min2_int max_two min_two max_three min_three max_four min_four   -- for this text's walks alone
set_option linter.unusedVariables false
set_option linter.unusedSimpArgs false

/-! ### cmp_isNaN_int: function 92 -/
def cmp_isNaN_int.f (a0 : Int) : Option (Bool) := some (a0 != a0)
set_option maxHeartbeats 8000000 in
set_option maxRecDepth 100000 in
theorem cmp_isNaN_int.calls (a0 : Int) (r : Bool) (w : World) (h : cmp_isNaN_int.f a0 = some r) :
    Calls Try.prog 92 #[.int .i64 a0] w fun e w' => e = .returned (.bool r) ∧ Drawn0 w w' := by
  have H : (some (a0 != a0)) = some r := h
  clear h
  obtain rfl := Option.some.inj H
  go_enter Try.func92, Try.ntmps92
  go_wp2
  go_ret
  exact ⟨by first | rfl | (simp; done) | (simp [*]; done), by repeat (first | exact Drawn0.refl _ | apply Drawn0.step)⟩

/-! ### cmp_Less_int: function 89 -/
def cmp_Less_int.f (a0 : Int) (a1 : Int) : Option (Bool) := (cmp_isNaN_int.f a0).bind fun t101 => (if t101 = true then ((cmp_isNaN_int.f a1).bind fun t102 => (if t102 = true then (some (decide (a0 < a1))) else (some true))) else (some (decide (a0 < a1))))
set_option maxHeartbeats 8000000 in
set_option maxRecDepth 100000 in
theorem cmp_Less_int.calls (a0 : Int) (a1 : Int) (r : Bool) (w : World) (h : cmp_Less_int.f a0 a1 = some r) :
    Calls Try.prog 89 #[.int .i64 a0, .int .i64 a1] w fun e w' => e = .returned (.bool r) ∧ Drawn0 w w' := by
  have H : ((cmp_isNaN_int.f a0).bind fun t101 => (if t101 = true then ((cmp_isNaN_int.f a1).bind fun t102 => (if t102 = true then (some (decide (a0 < a1))) else (some true))) else (some (decide (a0 < a1))))) = some r := h
  clear h
  replace H := Option.bind_eq_some_iff.mp H
  obtain ⟨t101, A30, H⟩ := H
  replace H : (if t101 = true then ((cmp_isNaN_int.f a1).bind fun t102 => (if t102 = true then (some (decide (a0 < a1))) else (some true))) else (some (decide (a0 < a1)))) = some r := H
  have A3 := Aside0.mk A30
  clear A30
  by_cases c4 : t101 = true
  · subst c4
    have H1 : ((cmp_isNaN_int.f a1).bind fun t102 => (if t102 = true then (some (decide (a0 < a1))) else (some true))) = some r := by rw [if_pos rfl] at H; exact H
    clear H
    have H := H1
    clear H1
    replace H := Option.bind_eq_some_iff.mp H
    obtain ⟨t102, A50, H⟩ := H
    replace H : (if t102 = true then (some (decide (a0 < a1))) else (some true)) = some r := H
    have A5 := Aside0.mk A50
    clear A50
    by_cases c6 : t102 = true
    · subst c6
      have H1 : (some (decide (a0 < a1))) = some r := by rw [if_pos rfl] at H; exact H
      clear H
      have H := H1
      clear H1
      obtain rfl := Option.some.inj H
      go_enter Try.func89, Try.ntmps89
      go_wp2_with (first | ((with_reducible refine gate_callee (f := 92) rfl ?_); refine goesL_ (some 6) rfl rfl Try.func92 (by kernel_rfl) rfl #[.int .i64 a0] rfl (by (try simp only [List.map_toArray, List.map_cons, List.map_nil]); first | done | rfl | (simp only [List.length_drop, List.length_take]; rfl)) ?_; (with_reducible refine (cmp_isNaN_int.calls a0 true _ A3.out).mono ?_); rintro e w' ⟨rfl, ⟨nd, rfl⟩⟩; refine ⟨_, rfl, ?_⟩) | (go_at_call 92; (with_reducible refine (cmp_isNaN_int.calls a1 true _ A5.out).mono ?_); rintro e w' ⟨rfl, ⟨nd, rfl⟩⟩))
      go_ret
      exact ⟨by first | rfl | (simp; done) | (simp [*]; done), by repeat (first | exact Drawn0.refl _ | apply Drawn0.step)⟩
    · replace c6 := Bool.eq_false_iff.mpr c6
      subst c6
      have H1 : (some true) = some r := by rw [if_neg (show ¬ (false = true) by decide)] at H; exact H
      clear H
      have H := H1
      clear H1
      obtain rfl := Option.some.inj H
      go_enter Try.func89, Try.ntmps89
      go_wp2_with (first | ((with_reducible refine gate_callee (f := 92) rfl ?_); refine goesL_ (some 6) rfl rfl Try.func92 (by kernel_rfl) rfl #[.int .i64 a0] rfl (by (try simp only [List.map_toArray, List.map_cons, List.map_nil]); first | done | rfl | (simp only [List.length_drop, List.length_take]; rfl)) ?_; (with_reducible refine (cmp_isNaN_int.calls a0 true _ A3.out).mono ?_); rintro e w' ⟨rfl, ⟨nd, rfl⟩⟩; refine ⟨_, rfl, ?_⟩) | (go_at_call 92; (with_reducible refine (cmp_isNaN_int.calls a1 false _ A5.out).mono ?_); rintro e w' ⟨rfl, ⟨nd, rfl⟩⟩))
      go_ret
      exact ⟨by first | rfl | (simp; done) | (simp [*]; done), by repeat (first | exact Drawn0.refl _ | apply Drawn0.step)⟩
  · replace c4 := Bool.eq_false_iff.mpr c4
    subst c4
    have H1 : (some (decide (a0 < a1))) = some r := by rw [if_neg (show ¬ (false = true) by decide)] at H; exact H
    clear H
    have H := H1
    clear H1
    obtain rfl := Option.some.inj H
    go_enter Try.func89, Try.ntmps89
    go_wp2_with (first | ((with_reducible refine gate_callee (f := 92) rfl ?_); refine goesL_ (some 6) rfl rfl Try.func92 (by kernel_rfl) rfl #[.int .i64 a0] rfl (by (try simp only [List.map_toArray, List.map_cons, List.map_nil]); first | done | rfl | (simp only [List.length_drop, List.length_take]; rfl)) ?_; (with_reducible refine (cmp_isNaN_int.calls a0 false _ A3.out).mono ?_); rintro e w' ⟨rfl, ⟨nd, rfl⟩⟩; refine ⟨_, rfl, ?_⟩))
    go_ret
    exact ⟨by first | rfl | (simp; done) | (simp [*]; done), by repeat (first | exact Drawn0.refl _ | apply Drawn0.step)⟩

/-! ### slices_IsSorted_int_int: function 78 -/
def slices_IsSorted_int_int.l0 : Nat → List Int → Int → Option (Bool)
  | 0, _, _ => none
  | k + 1, x0, x3 => if x3 > 0 then (if 0 ≤ x3 then (if x3 < (x0.length : Int) then (if 0 ≤ (wrap64 (x3 - 1)) then (if (wrap64 (x3 - 1)) < (x0.length : Int) then ((cmp_Less_int.f (rd x0 x3) (rd x0 (wrap64 (x3 - 1)))).bind fun t105 => (if t105 = true then (some false) else (slices_IsSorted_int_int.l0 k x0 (wrap64 (x3 - 1))))) else (none)) else (none)) else (none)) else (none)) else (some true)
def slices_IsSorted_int_int.f (k : Nat) (l0 : List Int) : Option (Bool) := slices_IsSorted_int_int.l0 k l0 (wrap64 ((l0.length : Int) - 1))
theorem slices_IsSorted_int_int.mono_l : ∀ k, (∀ y0 y1, LeO (slices_IsSorted_int_int.l0 k y0 y1) (slices_IsSorted_int_int.l0 (k + 1) y0 y1))
  | 0 => fun _ _ r h => by simp [slices_IsSorted_int_int.l0] at h
  | k + 1 => by
    have ih0 := slices_IsSorted_int_int.mono_l k
    · intro y0 y1
      unfold slices_IsSorted_int_int.l0
      repeat' first
      | (with_reducible exact ih0 _ _)
      | (with_reducible exact LeO.refl _)
      | (with_reducible exact LeO.none _)
      | (with_reducible refine LeO.ite ?_ ?_)
      | (with_reducible refine LeO.bind ?_ (fun _ => ?_))
      | exact ih0 _ _
      | exact LeO.none _
      | refine LeO.ite ?_ ?_
      | refine LeO.bind ?_ (fun _ => ?_)
theorem slices_IsSorted_int_int.mono : ∀ a0 k, LeO (slices_IsSorted_int_int.f k a0) (slices_IsSorted_int_int.f (k + 1) a0) := by
  intro a0 k
  have ih0 := slices_IsSorted_int_int.mono_l k
  unfold slices_IsSorted_int_int.f
  repeat' first
      | (with_reducible exact ih0 _ _)
      | (with_reducible exact LeO.refl _)
      | (with_reducible exact LeO.none _)
      | (with_reducible refine LeO.ite ?_ ?_)
      | (with_reducible refine LeO.bind ?_ (fun _ => ?_))
      | exact ih0 _ _
      | exact LeO.none _
      | refine LeO.ite ?_ ?_
      | refine LeO.bind ?_ (fun _ => ?_)
set_option maxHeartbeats 8000000 in
set_option maxRecDepth 100000 in
theorem slices_IsSorted_int_int.calls (k : Nat) (A0 : Option Addr) (c0 : Nat) (l0 : List Int) (r : Bool) (w : World) (hr0 : Kd.C (Kd.int .i64) w A0 l0.length l0) (hc0 : l0.length ≤ c0) (h : slices_IsSorted_int_int.f k l0 = some r) :
    Calls Try.prog 78 #[.slice A0 l0.length c0] w fun e w' => e = .returned (.bool r) ∧ Drawn0 w w' := by
  have HR0 := Aside0.mk hr0
  have HC0 := Aside0.mk hc0
  clear hr0 hc0
  have H : (slices_IsSorted_int_int.l0 k l0 (wrap64 ((l0.length : Int) - 1))) = some r := h
  clear h
  have H' := Aside0.mk H
  clear H
  go_enter Try.func78, Try.ntmps78
  go_wp2
  repeat (go_quiet (fail); try go_wp2)
  go_loopg [3] k (fun kq v3 w' => ∃ (x3_1 : Int), v3 = .int .i64 x3_1 ∧ Aside0 (slices_IsSorted_int_int.l0 kq l0 x3_1 = some r) ∧ Aside0 (kq ≤ k) ∧ Drawn0 w w')
  case atStart => exact ⟨(wrap64 ((l0.length : Int) - 1)), (by first | rfl | (simp; done) | (simp [*]; done)), H', ⟨Nat.le_refl _⟩, by repeat (first | exact Drawn0.refl _ | apply Drawn0.step)⟩
  case round =>
    clear H'
    obtain ⟨x3_1, rfl, HA, HK1, ⟨m1, rfl⟩⟩ := hrel
    cases gk with
    | zero => exact absurd HA.out (by simp [slices_IsSorted_int_int.l0])
    | succ k1 =>
      have H := HA.out
      clear HA
      simp only [slices_IsSorted_int_int.l0] at H
      by_cases c2 : x3_1 > 0
      · rw [if_pos c2] at H
        have c2b0 : decide (0 < x3_1) = true := decide_eq_true c2
        clear c2
        by_cases c3 : 0 ≤ x3_1
        · rw [if_pos c3] at H
          have c3b0 : decide (0 ≤ x3_1) = true := decide_eq_true c3
          clear c3
          by_cases c4 : x3_1 < (l0.length : Int)
          · rw [if_pos c4] at H
            have c4b0 : decide (x3_1 < (l0.length : Int)) = true := decide_eq_true c4
            clear c4
            obtain ⟨ji5, hji5⟩ : ∃ j_ : Int, (wrap64 (x3_1 - 1)) = j_ := ⟨_, rfl⟩
            replace H : (if 0 ≤ (ji5) then (if (ji5) < (l0.length : Int) then ((cmp_Less_int.f (rd l0 x3_1) (rd l0 (ji5))).bind fun t105 => (if t105 = true then (some false) else (slices_IsSorted_int_int.l0 k1 l0 ji5))) else (none)) else (none)) = some r := by first | (rw [hji5] at H; exact H) | (simp only [hji5] at H ⊢; exact H)
            have hji5w : (IntKind.i64.wrap (x3_1 - 1)) = ji5 := (i64_w _).trans hji5
            by_cases c6 : 0 ≤ (ji5)
            · rw [if_pos c6] at H
              have c6b0 : decide (0 ≤ (ji5)) = true := decide_eq_true c6
              clear c6
              by_cases c7 : (ji5) < (l0.length : Int)
              · rw [if_pos c7] at H
                have c7b0 : decide ((ji5) < (l0.length : Int)) = true := decide_eq_true c7
                clear c7
                replace H := Option.bind_eq_some_iff.mp H
                obtain ⟨t105, A80, H⟩ := H
                replace H : (if t105 = true then (some false) else (slices_IsSorted_int_int.l0 k1 l0 ji5)) = some r := H
                have A8 := Aside0.mk A80
                clear A80
                by_cases c9 : t105 = true
                · subst c9
                  have H1 : (some false) = some r := by rw [if_pos rfl] at H; exact H
                  clear H
                  have H := H1
                  clear H1
                  obtain rfl := Option.some.inj H
                  have p103 : 0 ≤ (x3_1 : Int) := of_decide_eq_true (by first | (with_reducible assumption) | assumption)
                  have q103 : x3_1 < (l0.length : Int) := of_decide_eq_true (by first | (with_reducible assumption) | assumption)
                  obtain ⟨ad103, e103, hx103_0⟩ := Kd.at_int HR0.out x3_1 p103 q103
                  cases e103
                  replace p103 := eq_true p103
                  replace q103 := eq_true q103
                  have p104 : 0 ≤ ((ji5) : Int) := of_decide_eq_true (by first | (with_reducible assumption) | assumption)
                  have q104 : (ji5) < (l0.length : Int) := of_decide_eq_true (by first | (with_reducible assumption) | assumption)
                  obtain ⟨ad104, e104, hx104_0⟩ := Kd.at_int HR0.out (ji5) p104 q104
                  obtain rfl : ad103 = ad104 := (by injection e104)
                  replace p104 := eq_true p104
                  replace q104 := eq_true q104
                  go_wp2_with (first | (go_at_call 89; (with_reducible refine (cmp_Less_int.calls (rd l0 x3_1) (rd l0 (ji5)) true _ A8.out).mono ?_); rintro e w' ⟨rfl, ⟨nd, rfl⟩⟩; (try first | exact ⟨rfl, _, World.drewN_drewN _ _ _⟩ | exact ⟨rfl, _, Eq.trans (World.drewN_drewN _ _ _) (congrArg (World.drewN _) (Nat.add_assoc _ _ _))⟩)))
                  repeat (go_quiet (first | (go_at_call 89; (with_reducible refine (cmp_Less_int.calls (rd l0 x3_1) (rd l0 (ji5)) true _ A8.out).mono ?_); rintro e w' ⟨rfl, ⟨nd, rfl⟩⟩; (try first | exact ⟨rfl, _, World.drewN_drewN _ _ _⟩ | exact ⟨rfl, _, Eq.trans (World.drewN_drewN _ _ _) (congrArg (World.drewN _) (Nat.add_assoc _ _ _))⟩))); try go_wp2_with (first | (go_at_call 89; (with_reducible refine (cmp_Less_int.calls (rd l0 x3_1) (rd l0 (ji5)) true _ A8.out).mono ?_); rintro e w' ⟨rfl, ⟨nd, rfl⟩⟩; (try first | exact ⟨rfl, _, World.drewN_drewN _ _ _⟩ | exact ⟨rfl, _, Eq.trans (World.drewN_drewN _ _ _) (congrArg (World.drewN _) (Nat.add_assoc _ _ _))⟩))))
                  go_ret
                  exact ⟨by first | rfl | (simp; done) | (simp only [← hji5] <;> (first | rfl | simp)) | (simp [*]; done), by repeat (first | exact Drawn0.refl _ | apply Drawn0.step)⟩
                · replace c9 := Bool.eq_false_iff.mpr c9
                  subst c9
                  have H1 : (slices_IsSorted_int_int.l0 k1 l0 ji5) = some r := by rw [if_neg (show ¬ (false = true) by decide)] at H; exact H
                  clear H
                  have H := H1
                  clear H1
                  have H' := Aside0.mk H
                  clear H
                  have p103 : 0 ≤ (x3_1 : Int) := of_decide_eq_true (by first | (with_reducible assumption) | assumption)
                  have q103 : x3_1 < (l0.length : Int) := of_decide_eq_true (by first | (with_reducible assumption) | assumption)
                  obtain ⟨ad103, e103, hx103_0⟩ := Kd.at_int HR0.out x3_1 p103 q103
                  cases e103
                  replace p103 := eq_true p103
                  replace q103 := eq_true q103
                  have p104 : 0 ≤ ((ji5) : Int) := of_decide_eq_true (by first | (with_reducible assumption) | assumption)
                  have q104 : (ji5) < (l0.length : Int) := of_decide_eq_true (by first | (with_reducible assumption) | assumption)
                  obtain ⟨ad104, e104, hx104_0⟩ := Kd.at_int HR0.out (ji5) p104 q104
                  obtain rfl : ad103 = ad104 := (by injection e104)
                  replace p104 := eq_true p104
                  replace q104 := eq_true q104
                  go_wp2_with (first | (go_at_call 89; (with_reducible refine (cmp_Less_int.calls (rd l0 x3_1) (rd l0 (ji5)) false _ A8.out).mono ?_); rintro e w' ⟨rfl, ⟨nd, rfl⟩⟩; (try first | exact ⟨rfl, _, World.drewN_drewN _ _ _⟩ | exact ⟨rfl, _, Eq.trans (World.drewN_drewN _ _ _) (congrArg (World.drewN _) (Nat.add_assoc _ _ _))⟩)))
                  repeat (go_quiet (first | (go_at_call 89; (with_reducible refine (cmp_Less_int.calls (rd l0 x3_1) (rd l0 (ji5)) false _ A8.out).mono ?_); rintro e w' ⟨rfl, ⟨nd, rfl⟩⟩; (try first | exact ⟨rfl, _, World.drewN_drewN _ _ _⟩ | exact ⟨rfl, _, Eq.trans (World.drewN_drewN _ _ _) (congrArg (World.drewN _) (Nat.add_assoc _ _ _))⟩))); try go_wp2_with (first | (go_at_call 89; (with_reducible refine (cmp_Less_int.calls (rd l0 x3_1) (rd l0 (ji5)) false _ A8.out).mono ?_); rintro e w' ⟨rfl, ⟨nd, rfl⟩⟩; (try first | exact ⟨rfl, _, World.drewN_drewN _ _ _⟩ | exact ⟨rfl, _, Eq.trans (World.drewN_drewN _ _ _) (congrArg (World.drewN _) (Nat.add_assoc _ _ _))⟩))))
                  go_roundg k1
                  case measure => have := HK1.out; omega
                  case rel => exact ⟨(ji5), (by first | rfl | (simp; done) | (simp only [← hji5] <;> (first | rfl | simp)) | (simp [*]; done)), H', ⟨by have := HK1.out; omega⟩, by repeat (first | exact Drawn0.refl _ | apply Drawn0.step)⟩
              · rw [if_neg c7] at H
                exact absurd H (by simp)
            · rw [if_neg c6] at H
              exact absurd H (by simp)
          · rw [if_neg c4] at H
            exact absurd H (by simp)
        · rw [if_neg c3] at H
          exact absurd H (by simp)
      · rw [if_neg c2] at H
        have c2b0 : decide (0 < x3_1) = false := decide_eq_false c2
        clear c2
        obtain rfl := Option.some.inj H
        go_wp2
        repeat (go_quiet (fail); try go_wp2)
        go_ret
        exact ⟨by first | rfl | (simp; done) | (simp [*]; done), by repeat (first | exact Drawn0.refl _ | apply Drawn0.step)⟩

/-! ### sample_May: function 49 -/
mutual
def sample_May.j0 : Nat → List (List Int) → Bool → Option (Bool)
  | 0, _, _ => none
  | k + 1, x0, x13 => if x13 = true then (some false) else (sample_May.l0 k x0 x0 (x0.length : Int) 0)
def sample_May.l0 : Nat → List (List Int) → List (List Int) → Int → Int → Option (Bool)
  | 0, _, _, _, _ => none
  | k + 1, x0, x14, x15, x16 => if x16 < x15 then (if 0 ≤ x16 then (if x16 < (x14.length : Int) then (if ((rd_L1 x14 x16).length : Int) < 1 then (some false) else (if ((rd_L1 x14 x16).length : Int) > 8 then (some false) else (if 0 < (x0.length : Int) then (if ((rd_L1 x14 x16).length : Int) = ((rd_L1 x0 0).length : Int) then (if 0 < ((rd_L1 x14 x16).length : Int) then (if (rd (rd_L1 x14 x16) 0) = 0 then ((slices_IsSorted_int_int.f k (rd_L1 x14 x16)).bind fun t109 => (if t109 = true then (if 0 ≤ (wrap64 (((rd_L1 x14 x16).length : Int) - 1)) then (if (wrap64 (((rd_L1 x14 x16).length : Int) - 1)) < ((rd_L1 x14 x16).length : Int) then (if (rd (rd_L1 x14 x16) (wrap64 (((rd_L1 x14 x16).length : Int) - 1))) > 65536 then (some false) else (sample_May.l0 k x0 x14 x15 (wrap64 (x16 + 1)))) else (none)) else (none)) else (some false))) else (some false)) else (none)) else (some false)) else (none)))) else (none)) else (none)) else (some true)
end
def sample_May.f (k : Nat) (l0 : List (List Int)) : Option (Bool) := if (l0.length : Int) < 1 then (sample_May.j0 k l0 true) else (sample_May.j0 k l0 (decide ((l0.length : Int) > 4)))
theorem sample_May.mono_l : ∀ k, (∀ y0 y1, LeO (sample_May.j0 k y0 y1) (sample_May.j0 (k + 1) y0 y1)) ∧ (∀ y0 y1 y2 y3, LeO (sample_May.l0 k y0 y1 y2 y3) (sample_May.l0 (k + 1) y0 y1 y2 y3))
  | 0 => ⟨fun _ _ r h => by simp [sample_May.j0] at h, fun _ _ _ _ r h => by simp [sample_May.l0] at h⟩
  | k + 1 => by
    obtain ⟨ih0, ih1⟩ := sample_May.mono_l k
    refine ⟨?_, ?_⟩
    · intro y0 y1
      unfold sample_May.j0
      repeat' first
      | (with_reducible exact ih0 _ _)
      | (with_reducible exact ih1 _ _ _ _)
      | (with_reducible exact slices_IsSorted_int_int.mono _ _)
      | (with_reducible exact LeO.refl _)
      | (with_reducible exact LeO.none _)
      | (with_reducible refine LeO.ite ?_ ?_)
      | (with_reducible refine LeO.bind ?_ (fun _ => ?_))
      | exact ih0 _ _
      | exact ih1 _ _ _ _
      | exact slices_IsSorted_int_int.mono _ _
      | exact LeO.none _
      | refine LeO.ite ?_ ?_
      | refine LeO.bind ?_ (fun _ => ?_)
    · intro y0 y1 y2 y3
      unfold sample_May.l0
      repeat' first
      | (with_reducible exact ih0 _ _)
      | (with_reducible exact ih1 _ _ _ _)
      | (with_reducible exact slices_IsSorted_int_int.mono _ _)
      | (with_reducible exact LeO.refl _)
      | (with_reducible exact LeO.none _)
      | (with_reducible refine LeO.ite ?_ ?_)
      | (with_reducible refine LeO.bind ?_ (fun _ => ?_))
      | exact ih0 _ _
      | exact ih1 _ _ _ _
      | exact slices_IsSorted_int_int.mono _ _
      | exact LeO.none _
      | refine LeO.ite ?_ ?_
      | refine LeO.bind ?_ (fun _ => ?_)
theorem sample_May.mono : ∀ a0 k, LeO (sample_May.f k a0) (sample_May.f (k + 1) a0) := by
  intro a0 k
  obtain ⟨ih0, ih1⟩ := sample_May.mono_l k
  unfold sample_May.f
  repeat' first
      | (with_reducible exact ih0 _ _)
      | (with_reducible exact ih1 _ _ _ _)
      | (with_reducible exact slices_IsSorted_int_int.mono _ _)
      | (with_reducible exact LeO.refl _)
      | (with_reducible exact LeO.none _)
      | (with_reducible refine LeO.ite ?_ ?_)
      | (with_reducible refine LeO.bind ?_ (fun _ => ?_))
      | exact ih0 _ _
      | exact ih1 _ _ _ _
      | exact slices_IsSorted_int_int.mono _ _
      | exact LeO.none _
      | refine LeO.ite ?_ ?_
      | refine LeO.bind ?_ (fun _ => ?_)
set_option maxHeartbeats 8000000 in
set_option maxRecDepth 100000 in
theorem sample_May.calls (k : Nat) (A0 : Option Addr) (c0 : Nat) (l0 : List (List Int)) (r : Bool) (w : World) (hr0 : Kd.C (Kd.slice 3 (Kd.int .i64)) w A0 l0.length l0) (hc0 : l0.length ≤ c0) (h : sample_May.f k l0 = some r) :
    Calls Try.prog 49 #[.slice A0 l0.length c0] w fun e w' => e = .returned (.bool r) ∧ Drawn0 w w' := by
  have HR0 := Aside0.mk hr0
  have HC0 := Aside0.mk hc0
  clear hr0 hc0
  have H : (if (l0.length : Int) < 1 then (sample_May.j0 k l0 true) else (sample_May.j0 k l0 (decide ((l0.length : Int) > 4)))) = some r := h
  clear h
  have HC2 := Aside0.mk H
  clear H
  go_enter Try.func49, Try.ntmps49
  go_upto_region 1 with (fail)
  go_cut [13] (fun v13 wc => ∃ (kq : Nat) (x13_1 : Bool), v13 = .bool x13_1 ∧ Aside0 (sample_May.j0 kq l0 x13_1 = some r) ∧ Aside0 (kq ≤ k) ∧ Drawn0 w wc)
  case first =>
    have H := HC2.out
    clear HC2
    by_cases c3 : (l0.length : Int) < 1
    · rw [if_pos c3] at H
      have c3b0 : decide ((l0.length : Int) < 1) = true := decide_eq_true c3
      have c3b1 : decide (l0.length < 1) = true := decide_eq_true (by omega)
      clear c3
      (first | rw [c3b0] | (simp only [i64_w, i32_w]; rw [c3b0]) | skip)
      have H' := Aside0.mk H
      clear H
      go_wp2
      go_meet
      case rel => exact ⟨_, (true), (by first | rfl | (simp; done) | (simp [*]; done)), H', ⟨by first | omega | exact Nat.le_refl _⟩, by repeat (first | exact Drawn0.refl _ | apply Drawn0.step)⟩
    · rw [if_neg c3] at H
      have c3b0 : decide ((l0.length : Int) < 1) = false := decide_eq_false c3
      have c3b1 : decide (l0.length < 1) = false := decide_eq_false (by omega)
      clear c3
      (first | rw [c3b0] | (simp only [i64_w, i32_w]; rw [c3b0]) | skip)
      have H' := Aside0.mk H
      clear H
      go_wp2
      go_meet
      case rel => exact ⟨_, (decide ((l0.length : Int) > 4)), (by first | rfl | (simp; done) | (simp [*]; done)), H', ⟨by first | omega | exact Nat.le_refl _⟩, by repeat (first | exact Drawn0.refl _ | apply Drawn0.step)⟩
  case rest =>
    clear HC2
    try clear p2
    try clear c3
    try clear c3b0
    try clear c3b1
    obtain ⟨kq, x13_1, rfl, HA, HJ1, ⟨mc1, rfl⟩⟩ := hcut
    cases kq with
    | zero => exact absurd HA.out (by simp [sample_May.j0])
    | succ kj1 =>
      have H := HA.out
      clear HA
      simp only [sample_May.j0] at H
      by_cases c4 : x13_1 = true
      · subst c4
        have H1 : (some false) = some r := by rw [if_pos rfl] at H; exact H
        clear H
        have H := H1
        clear H1
        obtain rfl := Option.some.inj H
        go_wp2
        go_ret
        exact ⟨by first | rfl | (simp; done) | (simp [*]; done), by repeat (first | exact Drawn0.refl _ | apply Drawn0.step)⟩
      · replace c4 := Bool.eq_false_iff.mpr c4
        subst c4
        have H1 : (sample_May.l0 kj1 l0 l0 (l0.length : Int) 0) = some r := by rw [if_neg (show ¬ (false = true) by decide)] at H; exact H
        clear H
        have H := H1
        clear H1
        have H' := Aside0.mk H
        clear H
        go_wp2
        go_loopg [16] kj1 (fun kq v16 w' => ∃ (x16_2 : Int), v16 = .int .i64 x16_2 ∧ Aside0 (sample_May.l0 kq l0 l0 (l0.length : Int) x16_2 = some r) ∧ Aside0 (kq ≤ kj1) ∧ Drawn0 w w')
        case atStart => exact ⟨(0), (by first | rfl | (simp; done) | (simp [*]; done)), H', ⟨Nat.le_refl _⟩, by repeat (first | exact Drawn0.refl _ | apply Drawn0.step)⟩
        case round =>
          clear H'
          try clear c1
          try clear p2
          try clear c3
          try clear c3b0
          try clear c3b1
          try clear c4
          try clear p2
          obtain ⟨x16_2, rfl, HA, HK2, ⟨m2, rfl⟩⟩ := hrel
          cases gk with
          | zero => exact absurd HA.out (by simp [sample_May.l0])
          | succ k2 =>
            have H := HA.out
            clear HA
            simp only [sample_May.l0] at H
            by_cases c5 : x16_2 < (l0.length : Int)
            · rw [if_pos c5] at H
              have c5b0 : decide (x16_2 < (l0.length : Int)) = true := decide_eq_true c5
              clear c5
              by_cases c6 : 0 ≤ x16_2
              · rw [if_pos c6] at H
                have c6b0 : decide (0 ≤ x16_2) = true := decide_eq_true c6
                clear c6
                by_cases c7 : x16_2 < (l0.length : Int)
                · rw [if_pos c7] at H
                  have c7b0 : decide (x16_2 < (l0.length : Int)) = true := decide_eq_true c7
                  clear c7
                  by_cases c8 : ((rd_L1 l0 x16_2).length : Int) < 1
                  · rw [if_pos c8] at H
                    have c8b0 : decide (((rd_L1 l0 x16_2).length : Int) < 1) = true := decide_eq_true c8
                    have c8b1 : decide ((rd_L1 l0 x16_2).length < 1) = true := decide_eq_true (by omega)
                    clear c8
                    obtain rfl := Option.some.inj H
                    have p106 : 0 ≤ (x16_2 : Int) := of_decide_eq_true (by first | (with_reducible assumption) | assumption)
                    have q106 : x16_2 < (l0.length : Int) := of_decide_eq_true (by first | (with_reducible assumption) | assumption)
                    obtain ⟨ad106, A106_0, c106_0, e106, hx106_0, hl106_0, hi106_0⟩ := at_L1 HR0.out x16_2 p106 q106
                    cases e106
                    have HR106_0 := Aside0.mk hi106_0
                    have HC106_0 := Aside0.mk hl106_0
                    clear hi106_0 hl106_0
                    replace p106 := eq_true p106
                    replace q106 := eq_true q106
                    go_wp2
                    go_ret
                    exact ⟨by first | rfl | (simp; done) | (simp [*]; done), by repeat (first | exact Drawn0.refl _ | apply Drawn0.step)⟩
                  · rw [if_neg c8] at H
                    have c8b0 : decide (((rd_L1 l0 x16_2).length : Int) < 1) = false := decide_eq_false c8
                    have c8b1 : decide ((rd_L1 l0 x16_2).length < 1) = false := decide_eq_false (by omega)
                    clear c8
                    by_cases c9 : ((rd_L1 l0 x16_2).length : Int) > 8
                    · rw [if_pos c9] at H
                      have c9b0 : decide (8 < ((rd_L1 l0 x16_2).length : Int)) = true := decide_eq_true c9
                      have c9b1 : decide (8 < (rd_L1 l0 x16_2).length) = true := decide_eq_true (by omega)
                      clear c9
                      obtain rfl := Option.some.inj H
                      have p106 : 0 ≤ (x16_2 : Int) := of_decide_eq_true (by first | (with_reducible assumption) | assumption)
                      have q106 : x16_2 < (l0.length : Int) := of_decide_eq_true (by first | (with_reducible assumption) | assumption)
                      obtain ⟨ad106, A106_0, c106_0, e106, hx106_0, hl106_0, hi106_0⟩ := at_L1 HR0.out x16_2 p106 q106
                      cases e106
                      have HR106_0 := Aside0.mk hi106_0
                      have HC106_0 := Aside0.mk hl106_0
                      clear hi106_0 hl106_0
                      replace p106 := eq_true p106
                      replace q106 := eq_true q106
                      go_wp2
                      go_ret
                      exact ⟨by first | rfl | (simp; done) | (simp [*]; done), by repeat (first | exact Drawn0.refl _ | apply Drawn0.step)⟩
                    · rw [if_neg c9] at H
                      have c9b0 : decide (8 < ((rd_L1 l0 x16_2).length : Int)) = false := decide_eq_false c9
                      have c9b1 : decide (8 < (rd_L1 l0 x16_2).length) = false := decide_eq_false (by omega)
                      clear c9
                      by_cases c10 : 0 < (l0.length : Int)
                      · rw [if_pos c10] at H
                        have c10b0 : decide (0 < (l0.length : Int)) = true := decide_eq_true c10
                        have c10b1 : decide (0 < l0.length) = true := decide_eq_true (by omega)
                        clear c10
                        by_cases c11 : ((rd_L1 l0 x16_2).length : Int) = ((rd_L1 l0 0).length : Int)
                        · rw [if_pos c11] at H
                          have c11b0 : (((rd_L1 l0 x16_2).length : Int) == ((rd_L1 l0 0).length : Int)) = true := beq_iff_eq.mpr c11
                          have c11b1 : (((rd_L1 l0 x16_2).length : Int) != ((rd_L1 l0 0).length : Int)) = false := bne_eq_false_iff_eq.mpr c11
                          have c11b2 : ((rd_L1 l0 x16_2).length == (rd_L1 l0 0).length) = true := by first | simpa using c11 | (simp at c11 ⊢; omega)
                          clear c11
                          by_cases c12 : 0 < ((rd_L1 l0 x16_2).length : Int)
                          · rw [if_pos c12] at H
                            have c12b0 : decide (0 < ((rd_L1 l0 x16_2).length : Int)) = true := decide_eq_true c12
                            have c12b1 : decide (0 < (rd_L1 l0 x16_2).length) = true := decide_eq_true (by omega)
                            clear c12
                            by_cases c13 : (rd (rd_L1 l0 x16_2) 0) = 0
                            · rw [if_pos c13] at H
                              have c13b0 : ((rd (rd_L1 l0 x16_2) 0) == 0) = true := beq_iff_eq.mpr c13
                              have c13b1 : ((rd (rd_L1 l0 x16_2) 0) != 0) = false := bne_eq_false_iff_eq.mpr c13
                              clear c13
                              replace H := Option.bind_eq_some_iff.mp H
                              obtain ⟨t109, A140, H⟩ := H
                              replace H : (if t109 = true then (if 0 ≤ (wrap64 (((rd_L1 l0 x16_2).length : Int) - 1)) then (if (wrap64 (((rd_L1 l0 x16_2).length : Int) - 1)) < ((rd_L1 l0 x16_2).length : Int) then (if (rd (rd_L1 l0 x16_2) (wrap64 (((rd_L1 l0 x16_2).length : Int) - 1))) > 65536 then (some false) else (sample_May.l0 k2 l0 l0 (l0.length : Int) (wrap64 (x16_2 + 1)))) else (none)) else (none)) else (some false)) = some r := H
                              have A14 := Aside0.mk A140
                              clear A140
                              by_cases c15 : t109 = true
                              · subst c15
                                have H1 : (if 0 ≤ (wrap64 (((rd_L1 l0 x16_2).length : Int) - 1)) then (if (wrap64 (((rd_L1 l0 x16_2).length : Int) - 1)) < ((rd_L1 l0 x16_2).length : Int) then (if (rd (rd_L1 l0 x16_2) (wrap64 (((rd_L1 l0 x16_2).length : Int) - 1))) > 65536 then (some false) else (sample_May.l0 k2 l0 l0 (l0.length : Int) (wrap64 (x16_2 + 1)))) else (none)) else (none)) = some r := by rw [if_pos rfl] at H; exact H
                                clear H
                                have H := H1
                                clear H1
                                obtain ⟨ji16, hji16⟩ : ∃ j_ : Int, (wrap64 (((rd_L1 l0 x16_2).length : Int) - 1)) = j_ := ⟨_, rfl⟩
                                replace H : (if 0 ≤ (ji16) then (if (ji16) < ((rd_L1 l0 x16_2).length : Int) then (if (rd (rd_L1 l0 x16_2) (ji16)) > 65536 then (some false) else (sample_May.l0 k2 l0 l0 (l0.length : Int) (wrap64 (x16_2 + 1)))) else (none)) else (none)) = some r := by first | (rw [hji16] at H; exact H) | (simp only [hji16] at H ⊢; exact H)
                                (try rw [hji16] at A14)
                                have hji16w : (IntKind.i64.wrap (((rd_L1 l0 x16_2).length : Int) - 1)) = ji16 := (i64_w _).trans hji16
                                by_cases c17 : 0 ≤ (ji16)
                                · rw [if_pos c17] at H
                                  have c17b0 : decide (0 ≤ (ji16)) = true := decide_eq_true c17
                                  clear c17
                                  by_cases c18 : (ji16) < ((rd_L1 l0 x16_2).length : Int)
                                  · rw [if_pos c18] at H
                                    have c18b0 : decide ((ji16) < ((rd_L1 l0 x16_2).length : Int)) = true := decide_eq_true c18
                                    clear c18
                                    by_cases c19 : (rd (rd_L1 l0 x16_2) (ji16)) > 65536
                                    · rw [if_pos c19] at H
                                      have c19b0 : decide (65536 < (rd (rd_L1 l0 x16_2) (ji16))) = true := decide_eq_true c19
                                      clear c19
                                      obtain rfl := Option.some.inj H
                                      have p106 : 0 ≤ (x16_2 : Int) := of_decide_eq_true (by first | (with_reducible assumption) | assumption)
                                      have q106 : x16_2 < (l0.length : Int) := of_decide_eq_true (by first | (with_reducible assumption) | assumption)
                                      obtain ⟨ad106, A106_0, c106_0, e106, hx106_0, hl106_0, hi106_0⟩ := at_L1 HR0.out x16_2 p106 q106
                                      cases e106
                                      have HR106_0 := Aside0.mk hi106_0
                                      have HC106_0 := Aside0.mk hl106_0
                                      clear hi106_0 hl106_0
                                      replace p106 := eq_true p106
                                      replace q106 := eq_true q106
                                      have p107 : 0 ≤ (0 : Int) := (by omega)
                                      have q107 : 0 < (l0.length : Int) := of_decide_eq_true (by first | (with_reducible assumption) | assumption)
                                      obtain ⟨ad107, A107_0, c107_0, e107, hx107_0, hl107_0, hi107_0⟩ := at_L1 HR0.out 0 p107 q107
                                      obtain rfl : ad106 = ad107 := (by injection e107)
                                      have qi107 : (0 < l0.length) = True := eq_true (by omega)
                                      (try rw [show ((0 : Int)).toNat = 0 from rfl] at hx107_0)
                                      (try rw [Addr.add_zero'] at hx107_0)
                                      have HR107_0 := Aside0.mk hi107_0
                                      have HC107_0 := Aside0.mk hl107_0
                                      clear hi107_0 hl107_0
                                      replace p107 := eq_true p107
                                      replace q107 := eq_true q107
                                      have p108 : 0 ≤ (0 : Int) := (by omega)
                                      have q108 : 0 < ((rd_L1 l0 x16_2).length : Int) := of_decide_eq_true (by first | (with_reducible assumption) | assumption)
                                      obtain ⟨ad108, e108, hx108_0⟩ := Kd.at_int HR106_0.out 0 p108 q108
                                      cases e108
                                      have qi108 : (0 < (rd_L1 l0 x16_2).length) = True := eq_true (by omega)
                                      (try rw [show ((0 : Int)).toNat = 0 from rfl] at hx108_0)
                                      (try rw [Addr.add_zero'] at hx108_0)
                                      replace p108 := eq_true p108
                                      replace q108 := eq_true q108
                                      go_wp2_with (first | (go_at_call 78; (with_reducible refine (slices_IsSorted_int_int.calls k2 _ _ (rd_L1 l0 x16_2) true _ ?side1 ?side2 A14.out).mono ?_); (case side1 => repeat (first | exact HR106_0.out | (with_reducible refine Kd.C_alloc ?_ _) | (with_reducible refine Kd.C_drewN ?_ _) | (with_reducible refine Kd.C_drew ?_))); (case side2 => exact HC106_0.out); rintro e w' ⟨rfl, ⟨nd, rfl⟩⟩; have p110 : 0 ≤ ((ji16) : Int) := of_decide_eq_true (by first | (with_reducible assumption) | assumption); have q110 : (ji16) < ((rd_L1 l0 x16_2).length : Int) := of_decide_eq_true (by first | (with_reducible assumption) | assumption); obtain ⟨ad110, e110, hx110_0⟩ := Kd.at_int HR106_0.out (ji16) p110 q110; obtain rfl : ad108 = ad110 := (by injection e110); replace p110 := eq_true p110; replace q110 := eq_true q110))
                                      go_ret
                                      exact ⟨by first | rfl | (simp; done) | (simp only [← hji16] <;> (first | rfl | simp)) | (simp [*]; done), by repeat (first | exact Drawn0.refl _ | apply Drawn0.step)⟩
                                    · rw [if_neg c19] at H
                                      have c19b0 : decide (65536 < (rd (rd_L1 l0 x16_2) (ji16))) = false := decide_eq_false c19
                                      clear c19
                                      have H' := Aside0.mk H
                                      clear H
                                      have p106 : 0 ≤ (x16_2 : Int) := of_decide_eq_true (by first | (with_reducible assumption) | assumption)
                                      have q106 : x16_2 < (l0.length : Int) := of_decide_eq_true (by first | (with_reducible assumption) | assumption)
                                      obtain ⟨ad106, A106_0, c106_0, e106, hx106_0, hl106_0, hi106_0⟩ := at_L1 HR0.out x16_2 p106 q106
                                      cases e106
                                      have HR106_0 := Aside0.mk hi106_0
                                      have HC106_0 := Aside0.mk hl106_0
                                      clear hi106_0 hl106_0
                                      replace p106 := eq_true p106
                                      replace q106 := eq_true q106
                                      have p107 : 0 ≤ (0 : Int) := (by omega)
                                      have q107 : 0 < (l0.length : Int) := of_decide_eq_true (by first | (with_reducible assumption) | assumption)
                                      obtain ⟨ad107, A107_0, c107_0, e107, hx107_0, hl107_0, hi107_0⟩ := at_L1 HR0.out 0 p107 q107
                                      obtain rfl : ad106 = ad107 := (by injection e107)
                                      have qi107 : (0 < l0.length) = True := eq_true (by omega)
                                      (try rw [show ((0 : Int)).toNat = 0 from rfl] at hx107_0)
                                      (try rw [Addr.add_zero'] at hx107_0)
                                      have HR107_0 := Aside0.mk hi107_0
                                      have HC107_0 := Aside0.mk hl107_0
                                      clear hi107_0 hl107_0
                                      replace p107 := eq_true p107
                                      replace q107 := eq_true q107
                                      have p108 : 0 ≤ (0 : Int) := (by omega)
                                      have q108 : 0 < ((rd_L1 l0 x16_2).length : Int) := of_decide_eq_true (by first | (with_reducible assumption) | assumption)
                                      obtain ⟨ad108, e108, hx108_0⟩ := Kd.at_int HR106_0.out 0 p108 q108
                                      cases e108
                                      have qi108 : (0 < (rd_L1 l0 x16_2).length) = True := eq_true (by omega)
                                      (try rw [show ((0 : Int)).toNat = 0 from rfl] at hx108_0)
                                      (try rw [Addr.add_zero'] at hx108_0)
                                      replace p108 := eq_true p108
                                      replace q108 := eq_true q108
                                      go_wp2_with (first | (go_at_call 78; (with_reducible refine (slices_IsSorted_int_int.calls k2 _ _ (rd_L1 l0 x16_2) true _ ?side1 ?side2 A14.out).mono ?_); (case side1 => repeat (first | exact HR106_0.out | (with_reducible refine Kd.C_alloc ?_ _) | (with_reducible refine Kd.C_drewN ?_ _) | (with_reducible refine Kd.C_drew ?_))); (case side2 => exact HC106_0.out); rintro e w' ⟨rfl, ⟨nd, rfl⟩⟩; have p110 : 0 ≤ ((ji16) : Int) := of_decide_eq_true (by first | (with_reducible assumption) | assumption); have q110 : (ji16) < ((rd_L1 l0 x16_2).length : Int) := of_decide_eq_true (by first | (with_reducible assumption) | assumption); obtain ⟨ad110, e110, hx110_0⟩ := Kd.at_int HR106_0.out (ji16) p110 q110; obtain rfl : ad108 = ad110 := (by injection e110); replace p110 := eq_true p110; replace q110 := eq_true q110))
                                      go_roundg k2
                                      case measure => have := HJ1.out; have := HK2.out; omega
                                      case rel => exact ⟨(wrap64 (x16_2 + 1)), (by first | rfl | (simp; done) | (simp [*]; done)), H', ⟨by have := HJ1.out; have := HK2.out; omega⟩, by repeat (first | exact Drawn0.refl _ | apply Drawn0.step)⟩
                                  · rw [if_neg c18] at H
                                    exact absurd H (by simp)
                                · rw [if_neg c17] at H
                                  exact absurd H (by simp)
                              · replace c15 := Bool.eq_false_iff.mpr c15
                                subst c15
                                have H1 : (some false) = some r := by rw [if_neg (show ¬ (false = true) by decide)] at H; exact H
                                clear H
                                have H := H1
                                clear H1
                                obtain rfl := Option.some.inj H
                                have p106 : 0 ≤ (x16_2 : Int) := of_decide_eq_true (by first | (with_reducible assumption) | assumption)
                                have q106 : x16_2 < (l0.length : Int) := of_decide_eq_true (by first | (with_reducible assumption) | assumption)
                                obtain ⟨ad106, A106_0, c106_0, e106, hx106_0, hl106_0, hi106_0⟩ := at_L1 HR0.out x16_2 p106 q106
                                cases e106
                                have HR106_0 := Aside0.mk hi106_0
                                have HC106_0 := Aside0.mk hl106_0
                                clear hi106_0 hl106_0
                                replace p106 := eq_true p106
                                replace q106 := eq_true q106
                                have p107 : 0 ≤ (0 : Int) := (by omega)
                                have q107 : 0 < (l0.length : Int) := of_decide_eq_true (by first | (with_reducible assumption) | assumption)
                                obtain ⟨ad107, A107_0, c107_0, e107, hx107_0, hl107_0, hi107_0⟩ := at_L1 HR0.out 0 p107 q107
                                obtain rfl : ad106 = ad107 := (by injection e107)
                                have qi107 : (0 < l0.length) = True := eq_true (by omega)
                                (try rw [show ((0 : Int)).toNat = 0 from rfl] at hx107_0)
                                (try rw [Addr.add_zero'] at hx107_0)
                                have HR107_0 := Aside0.mk hi107_0
                                have HC107_0 := Aside0.mk hl107_0
                                clear hi107_0 hl107_0
                                replace p107 := eq_true p107
                                replace q107 := eq_true q107
                                have p108 : 0 ≤ (0 : Int) := (by omega)
                                have q108 : 0 < ((rd_L1 l0 x16_2).length : Int) := of_decide_eq_true (by first | (with_reducible assumption) | assumption)
                                obtain ⟨ad108, e108, hx108_0⟩ := Kd.at_int HR106_0.out 0 p108 q108
                                cases e108
                                have qi108 : (0 < (rd_L1 l0 x16_2).length) = True := eq_true (by omega)
                                (try rw [show ((0 : Int)).toNat = 0 from rfl] at hx108_0)
                                (try rw [Addr.add_zero'] at hx108_0)
                                replace p108 := eq_true p108
                                replace q108 := eq_true q108
                                go_wp2_with (first | (go_at_call 78; (with_reducible refine (slices_IsSorted_int_int.calls k2 _ _ (rd_L1 l0 x16_2) false _ ?side1 ?side2 A14.out).mono ?_); (case side1 => repeat (first | exact HR106_0.out | (with_reducible refine Kd.C_alloc ?_ _) | (with_reducible refine Kd.C_drewN ?_ _) | (with_reducible refine Kd.C_drew ?_))); (case side2 => exact HC106_0.out); rintro e w' ⟨rfl, ⟨nd, rfl⟩⟩))
                                go_ret
                                exact ⟨by first | rfl | (simp; done) | (simp [*]; done), by repeat (first | exact Drawn0.refl _ | apply Drawn0.step)⟩
                            · rw [if_neg c13] at H
                              have c13b0 : ((rd (rd_L1 l0 x16_2) 0) == 0) = false := beq_eq_false_iff_ne.mpr c13
                              have c13b1 : ((rd (rd_L1 l0 x16_2) 0) != 0) = true := bne_iff_ne.mpr c13
                              obtain rfl := Option.some.inj H
                              have p106 : 0 ≤ (x16_2 : Int) := of_decide_eq_true (by first | (with_reducible assumption) | assumption)
                              have q106 : x16_2 < (l0.length : Int) := of_decide_eq_true (by first | (with_reducible assumption) | assumption)
                              obtain ⟨ad106, A106_0, c106_0, e106, hx106_0, hl106_0, hi106_0⟩ := at_L1 HR0.out x16_2 p106 q106
                              cases e106
                              have HR106_0 := Aside0.mk hi106_0
                              have HC106_0 := Aside0.mk hl106_0
                              clear hi106_0 hl106_0
                              replace p106 := eq_true p106
                              replace q106 := eq_true q106
                              have p107 : 0 ≤ (0 : Int) := (by omega)
                              have q107 : 0 < (l0.length : Int) := of_decide_eq_true (by first | (with_reducible assumption) | assumption)
                              obtain ⟨ad107, A107_0, c107_0, e107, hx107_0, hl107_0, hi107_0⟩ := at_L1 HR0.out 0 p107 q107
                              obtain rfl : ad106 = ad107 := (by injection e107)
                              have qi107 : (0 < l0.length) = True := eq_true (by omega)
                              (try rw [show ((0 : Int)).toNat = 0 from rfl] at hx107_0)
                              (try rw [Addr.add_zero'] at hx107_0)
                              have HR107_0 := Aside0.mk hi107_0
                              have HC107_0 := Aside0.mk hl107_0
                              clear hi107_0 hl107_0
                              replace p107 := eq_true p107
                              replace q107 := eq_true q107
                              have p108 : 0 ≤ (0 : Int) := (by omega)
                              have q108 : 0 < ((rd_L1 l0 x16_2).length : Int) := of_decide_eq_true (by first | (with_reducible assumption) | assumption)
                              obtain ⟨ad108, e108, hx108_0⟩ := Kd.at_int HR106_0.out 0 p108 q108
                              cases e108
                              have qi108 : (0 < (rd_L1 l0 x16_2).length) = True := eq_true (by omega)
                              (try rw [show ((0 : Int)).toNat = 0 from rfl] at hx108_0)
                              (try rw [Addr.add_zero'] at hx108_0)
                              replace p108 := eq_true p108
                              replace q108 := eq_true q108
                              go_wp2
                              go_ret
                              exact ⟨by first | rfl | (simp; done) | (simp [*]; done), by repeat (first | exact Drawn0.refl _ | apply Drawn0.step)⟩
                          · rw [if_neg c12] at H
                            exact absurd H (by simp)
                        · rw [if_neg c11] at H
                          have c11b0 : (((rd_L1 l0 x16_2).length : Int) == ((rd_L1 l0 0).length : Int)) = false := beq_eq_false_iff_ne.mpr c11
                          have c11b1 : (((rd_L1 l0 x16_2).length : Int) != ((rd_L1 l0 0).length : Int)) = true := bne_iff_ne.mpr c11
                          have c11b2 : ((rd_L1 l0 x16_2).length == (rd_L1 l0 0).length) = false := by first | simpa using c11 | (simp at c11 ⊢; omega)
                          obtain rfl := Option.some.inj H
                          have p106 : 0 ≤ (x16_2 : Int) := of_decide_eq_true (by first | (with_reducible assumption) | assumption)
                          have q106 : x16_2 < (l0.length : Int) := of_decide_eq_true (by first | (with_reducible assumption) | assumption)
                          obtain ⟨ad106, A106_0, c106_0, e106, hx106_0, hl106_0, hi106_0⟩ := at_L1 HR0.out x16_2 p106 q106
                          cases e106
                          have HR106_0 := Aside0.mk hi106_0
                          have HC106_0 := Aside0.mk hl106_0
                          clear hi106_0 hl106_0
                          replace p106 := eq_true p106
                          replace q106 := eq_true q106
                          have p107 : 0 ≤ (0 : Int) := (by omega)
                          have q107 : 0 < (l0.length : Int) := of_decide_eq_true (by first | (with_reducible assumption) | assumption)
                          obtain ⟨ad107, A107_0, c107_0, e107, hx107_0, hl107_0, hi107_0⟩ := at_L1 HR0.out 0 p107 q107
                          obtain rfl : ad106 = ad107 := (by injection e107)
                          have qi107 : (0 < l0.length) = True := eq_true (by omega)
                          (try rw [show ((0 : Int)).toNat = 0 from rfl] at hx107_0)
                          (try rw [Addr.add_zero'] at hx107_0)
                          have HR107_0 := Aside0.mk hi107_0
                          have HC107_0 := Aside0.mk hl107_0
                          clear hi107_0 hl107_0
                          replace p107 := eq_true p107
                          replace q107 := eq_true q107
                          go_wp2
                          go_ret
                          exact ⟨by first | rfl | (simp; done) | (simp [*]; done), by repeat (first | exact Drawn0.refl _ | apply Drawn0.step)⟩
                      · rw [if_neg c10] at H
                        exact absurd H (by simp)
                · rw [if_neg c7] at H
                  exact absurd H (by simp)
              · rw [if_neg c6] at H
                exact absurd H (by simp)
            · rw [if_neg c5] at H
              have c5b0 : decide (x16_2 < (l0.length : Int)) = false := decide_eq_false c5
              clear c5
              obtain rfl := Option.some.inj H
              go_wp2
              go_ret
              exact ⟨by first | rfl | (simp; done) | (simp [*]; done), by repeat (first | exact Drawn0.refl _ | apply Drawn0.step)⟩

/-! ### sample_threshold: function 76 -/
def sample_threshold.f (k : Nat) (l0 : List (List Int)) (a1 : Int) (a2 : Int) : Option (Int × Option Int) := (sample_May.f k l0).bind fun t111 => (if t111 = true then (if a1 < 0 then (some (0, some 1)) else (if a1 ≥ (l0.length : Int) then (some (0, some 1)) else (if a2 < 0 then (some (0, some 1)) else (if 0 < (l0.length : Int) then (if a2 ≥ ((rd_L1 l0 0).length : Int) then (some (0, some 1)) else (if 0 ≤ a1 then (if a1 < (l0.length : Int) then (if 0 ≤ a2 then (if a2 < ((rd_L1 l0 a1).length : Int) then (some (rd (rd_L1 l0 a1) a2, none)) else (none)) else (none)) else (none)) else (none))) else (none))))) else (some (0, some 1)))
theorem sample_threshold.mono : ∀ a0 a1 a2 k, LeO (sample_threshold.f k a0 a1 a2) (sample_threshold.f (k + 1) a0 a1 a2) := by
  intro a0 a1 a2 k
  unfold sample_threshold.f
  repeat' first
      | (with_reducible exact sample_May.mono _ _)
      | (with_reducible exact LeO.refl _)
      | (with_reducible exact LeO.none _)
      | (with_reducible refine LeO.ite ?_ ?_)
      | (with_reducible refine LeO.bind ?_ (fun _ => ?_))
      | exact sample_May.mono _ _
      | exact LeO.none _
      | refine LeO.ite ?_ ?_
      | refine LeO.bind ?_ (fun _ => ?_)
set_option maxHeartbeats 8000000 in
set_option maxRecDepth 100000 in
theorem sample_threshold.calls (k : Nat) (A0 : Option Addr) (c0 : Nat) (l0 : List (List Int)) (a1 : Int) (a2 : Int) (r1 : Int) (r2 : Option Int) (w : World) (hr0 : Kd.C (Kd.slice 3 (Kd.int .i64)) w A0 l0.length l0) (hc0 : l0.length ≤ c0) (h : sample_threshold.f k l0 a1 a2 = some (r1, r2)) :
    Calls Try.prog 76 #[.slice A0 l0.length c0, .int .i64 a1, .int .i64 a2] w fun e w' => e = .returned (.tuple #[.int .i64 r1, errW r2]) ∧ Drawn0 w w' := by
  have hu26 := Try.underlying26
  have hu29 := Try.underlying29
  have HR0 := Aside0.mk hr0
  have HC0 := Aside0.mk hc0
  clear hr0 hc0
  have H : ((sample_May.f k l0).bind fun t111 => (if t111 = true then (if a1 < 0 then (some (0, some 1)) else (if a1 ≥ (l0.length : Int) then (some (0, some 1)) else (if a2 < 0 then (some (0, some 1)) else (if 0 < (l0.length : Int) then (if a2 ≥ ((rd_L1 l0 0).length : Int) then (some (0, some 1)) else (if 0 ≤ a1 then (if a1 < (l0.length : Int) then (if 0 ≤ a2 then (if a2 < ((rd_L1 l0 a1).length : Int) then (some (rd (rd_L1 l0 a1) a2, none)) else (none)) else (none)) else (none)) else (none))) else (none))))) else (some (0, some 1)))) = some (r1, r2) := h
  clear h
  replace H := Option.bind_eq_some_iff.mp H
  obtain ⟨t111, A40, H⟩ := H
  replace H : (if t111 = true then (if a1 < 0 then (some (0, some 1)) else (if a1 ≥ (l0.length : Int) then (some (0, some 1)) else (if a2 < 0 then (some (0, some 1)) else (if 0 < (l0.length : Int) then (if a2 ≥ ((rd_L1 l0 0).length : Int) then (some (0, some 1)) else (if 0 ≤ a1 then (if a1 < (l0.length : Int) then (if 0 ≤ a2 then (if a2 < ((rd_L1 l0 a1).length : Int) then (some (rd (rd_L1 l0 a1) a2, none)) else (none)) else (none)) else (none)) else (none))) else (none))))) else (some (0, some 1))) = some (r1, r2) := H
  have A4 := Aside0.mk A40
  clear A40
  by_cases c5 : t111 = true
  · subst c5
    have H1 : (if a1 < 0 then (some (0, some 1)) else (if a1 ≥ (l0.length : Int) then (some (0, some 1)) else (if a2 < 0 then (some (0, some 1)) else (if 0 < (l0.length : Int) then (if a2 ≥ ((rd_L1 l0 0).length : Int) then (some (0, some 1)) else (if 0 ≤ a1 then (if a1 < (l0.length : Int) then (if 0 ≤ a2 then (if a2 < ((rd_L1 l0 a1).length : Int) then (some (rd (rd_L1 l0 a1) a2, none)) else (none)) else (none)) else (none)) else (none))) else (none))))) = some (r1, r2) := by rw [if_pos rfl] at H; exact H
    clear H
    have H := H1
    clear H1
    by_cases c6 : a1 < 0
    · rw [if_pos c6] at H
      have c6b0 : decide (a1 < 0) = true := decide_eq_true c6
      clear c6
      simp only [Option.some.injEq, Prod.mk.injEq] at H
      obtain ⟨rfl, rfl⟩ := H
      go_enter Try.func76, Try.ntmps76
      go_wp2_with (first | ((with_reducible refine gate_callee (f := 49) rfl ?_); refine goesL_ (some 9) rfl rfl Try.func49 (by kernel_rfl) rfl #[.slice A0 l0.length c0] rfl (by (try simp only [List.map_toArray, List.map_cons, List.map_nil]); first | done | rfl | (simp only [List.length_drop, List.length_take]; rfl)) ?_; (with_reducible refine (sample_May.calls k _ _ l0 true _ ?side1 ?side2 A4.out).mono ?_); (case side1 => repeat (first | exact HR0.out | (with_reducible refine Kd.C_alloc ?_ _) | (with_reducible refine Kd.C_drewN ?_ _) | (with_reducible refine Kd.C_drew ?_))); (case side2 => exact HC0.out); rintro e w' ⟨rfl, ⟨nd, rfl⟩⟩; refine ⟨_, rfl, ?_⟩))
      go_ret2
      exact ⟨by first | rfl | (simp; done) | (simp [*]; done), by repeat (first | exact Drawn0.refl _ | apply Drawn0.step)⟩
    · rw [if_neg c6] at H
      have c6b0 : decide (a1 < 0) = false := decide_eq_false c6
      clear c6
      by_cases c7 : a1 ≥ (l0.length : Int)
      · rw [if_pos c7] at H
        have c7b0 : decide ((l0.length : Int) ≤ a1) = true := decide_eq_true c7
        clear c7
        simp only [Option.some.injEq, Prod.mk.injEq] at H
        obtain ⟨rfl, rfl⟩ := H
        go_enter Try.func76, Try.ntmps76
        go_wp2_with (first | ((with_reducible refine gate_callee (f := 49) rfl ?_); refine goesL_ (some 9) rfl rfl Try.func49 (by kernel_rfl) rfl #[.slice A0 l0.length c0] rfl (by (try simp only [List.map_toArray, List.map_cons, List.map_nil]); first | done | rfl | (simp only [List.length_drop, List.length_take]; rfl)) ?_; (with_reducible refine (sample_May.calls k _ _ l0 true _ ?side1 ?side2 A4.out).mono ?_); (case side1 => repeat (first | exact HR0.out | (with_reducible refine Kd.C_alloc ?_ _) | (with_reducible refine Kd.C_drewN ?_ _) | (with_reducible refine Kd.C_drew ?_))); (case side2 => exact HC0.out); rintro e w' ⟨rfl, ⟨nd, rfl⟩⟩; refine ⟨_, rfl, ?_⟩))
        go_ret2
        exact ⟨by first | rfl | (simp; done) | (simp [*]; done), by repeat (first | exact Drawn0.refl _ | apply Drawn0.step)⟩
      · rw [if_neg c7] at H
        have c7b0 : decide ((l0.length : Int) ≤ a1) = false := decide_eq_false c7
        clear c7
        by_cases c8 : a2 < 0
        · rw [if_pos c8] at H
          have c8b0 : decide (a2 < 0) = true := decide_eq_true c8
          clear c8
          simp only [Option.some.injEq, Prod.mk.injEq] at H
          obtain ⟨rfl, rfl⟩ := H
          go_enter Try.func76, Try.ntmps76
          go_wp2_with (first | ((with_reducible refine gate_callee (f := 49) rfl ?_); refine goesL_ (some 9) rfl rfl Try.func49 (by kernel_rfl) rfl #[.slice A0 l0.length c0] rfl (by (try simp only [List.map_toArray, List.map_cons, List.map_nil]); first | done | rfl | (simp only [List.length_drop, List.length_take]; rfl)) ?_; (with_reducible refine (sample_May.calls k _ _ l0 true _ ?side1 ?side2 A4.out).mono ?_); (case side1 => repeat (first | exact HR0.out | (with_reducible refine Kd.C_alloc ?_ _) | (with_reducible refine Kd.C_drewN ?_ _) | (with_reducible refine Kd.C_drew ?_))); (case side2 => exact HC0.out); rintro e w' ⟨rfl, ⟨nd, rfl⟩⟩; refine ⟨_, rfl, ?_⟩))
          go_ret2
          exact ⟨by first | rfl | (simp; done) | (simp [*]; done), by repeat (first | exact Drawn0.refl _ | apply Drawn0.step)⟩
        · rw [if_neg c8] at H
          have c8b0 : decide (a2 < 0) = false := decide_eq_false c8
          clear c8
          by_cases c9 : 0 < (l0.length : Int)
          · rw [if_pos c9] at H
            have c9b0 : decide (0 < (l0.length : Int)) = true := decide_eq_true c9
            have c9b1 : decide (0 < l0.length) = true := decide_eq_true (by omega)
            clear c9
            by_cases c10 : a2 ≥ ((rd_L1 l0 0).length : Int)
            · rw [if_pos c10] at H
              have c10b0 : decide (((rd_L1 l0 0).length : Int) ≤ a2) = true := decide_eq_true c10
              clear c10
              simp only [Option.some.injEq, Prod.mk.injEq] at H
              obtain ⟨rfl, rfl⟩ := H
              go_enter Try.func76, Try.ntmps76
              go_wp2_with (first | ((with_reducible refine gate_callee (f := 49) rfl ?_); refine goesL_ (some 9) rfl rfl Try.func49 (by kernel_rfl) rfl #[.slice A0 l0.length c0] rfl (by (try simp only [List.map_toArray, List.map_cons, List.map_nil]); first | done | rfl | (simp only [List.length_drop, List.length_take]; rfl)) ?_; (with_reducible refine (sample_May.calls k _ _ l0 true _ ?side1 ?side2 A4.out).mono ?_); (case side1 => repeat (first | exact HR0.out | (with_reducible refine Kd.C_alloc ?_ _) | (with_reducible refine Kd.C_drewN ?_ _) | (with_reducible refine Kd.C_drew ?_))); (case side2 => exact HC0.out); rintro e w' ⟨rfl, ⟨nd, rfl⟩⟩; refine ⟨_, rfl, ?_⟩; have p112 : 0 ≤ (0 : Int) := (by omega); have q112 : 0 < (l0.length : Int) := of_decide_eq_true (by first | (with_reducible assumption) | assumption); obtain ⟨ad112, A112_0, c112_0, e112, hx112_0, hl112_0, hi112_0⟩ := at_L1 HR0.out 0 p112 q112; cases e112; have qi112 : (0 < l0.length) = True := eq_true (by omega); (try rw [show ((0 : Int)).toNat = 0 from rfl] at hx112_0); (try rw [Addr.add_zero'] at hx112_0); have HR112_0 := Aside0.mk hi112_0; have HC112_0 := Aside0.mk hl112_0; clear hi112_0 hl112_0; replace p112 := eq_true p112; replace q112 := eq_true q112))
              go_ret2
              exact ⟨by first | rfl | (simp; done) | (simp [*]; done), by repeat (first | exact Drawn0.refl _ | apply Drawn0.step)⟩
            · rw [if_neg c10] at H
              have c10b0 : decide (((rd_L1 l0 0).length : Int) ≤ a2) = false := decide_eq_false c10
              clear c10
              by_cases c11 : 0 ≤ a1
              · rw [if_pos c11] at H
                have c11b0 : decide (0 ≤ a1) = true := decide_eq_true c11
                clear c11
                by_cases c12 : a1 < (l0.length : Int)
                · rw [if_pos c12] at H
                  have c12b0 : decide (a1 < (l0.length : Int)) = true := decide_eq_true c12
                  clear c12
                  by_cases c13 : 0 ≤ a2
                  · rw [if_pos c13] at H
                    have c13b0 : decide (0 ≤ a2) = true := decide_eq_true c13
                    clear c13
                    by_cases c14 : a2 < ((rd_L1 l0 a1).length : Int)
                    · rw [if_pos c14] at H
                      have c14b0 : decide (a2 < ((rd_L1 l0 a1).length : Int)) = true := decide_eq_true c14
                      clear c14
                      simp only [Option.some.injEq, Prod.mk.injEq] at H
                      obtain ⟨rfl, rfl⟩ := H
                      go_enter Try.func76, Try.ntmps76
                      go_wp2_with (first | ((with_reducible refine gate_callee (f := 49) rfl ?_); refine goesL_ (some 9) rfl rfl Try.func49 (by kernel_rfl) rfl #[.slice A0 l0.length c0] rfl (by (try simp only [List.map_toArray, List.map_cons, List.map_nil]); first | done | rfl | (simp only [List.length_drop, List.length_take]; rfl)) ?_; (with_reducible refine (sample_May.calls k _ _ l0 true _ ?side1 ?side2 A4.out).mono ?_); (case side1 => repeat (first | exact HR0.out | (with_reducible refine Kd.C_alloc ?_ _) | (with_reducible refine Kd.C_drewN ?_ _) | (with_reducible refine Kd.C_drew ?_))); (case side2 => exact HC0.out); rintro e w' ⟨rfl, ⟨nd, rfl⟩⟩; refine ⟨_, rfl, ?_⟩; have p112 : 0 ≤ (0 : Int) := (by omega); have q112 : 0 < (l0.length : Int) := of_decide_eq_true (by first | (with_reducible assumption) | assumption); obtain ⟨ad112, A112_0, c112_0, e112, hx112_0, hl112_0, hi112_0⟩ := at_L1 HR0.out 0 p112 q112; cases e112; have qi112 : (0 < l0.length) = True := eq_true (by omega); (try rw [show ((0 : Int)).toNat = 0 from rfl] at hx112_0); (try rw [Addr.add_zero'] at hx112_0); have HR112_0 := Aside0.mk hi112_0; have HC112_0 := Aside0.mk hl112_0; clear hi112_0 hl112_0; replace p112 := eq_true p112; replace q112 := eq_true q112; have p113 : 0 ≤ (a1 : Int) := of_decide_eq_true (by first | (with_reducible assumption) | assumption); have q113 : a1 < (l0.length : Int) := of_decide_eq_true (by first | (with_reducible assumption) | assumption); obtain ⟨ad113, A113_0, c113_0, e113, hx113_0, hl113_0, hi113_0⟩ := at_L1 HR0.out a1 p113 q113; obtain rfl : ad112 = ad113 := (by injection e113); have HR113_0 := Aside0.mk hi113_0; have HC113_0 := Aside0.mk hl113_0; clear hi113_0 hl113_0; replace p113 := eq_true p113; replace q113 := eq_true q113; have p114 : 0 ≤ (a2 : Int) := of_decide_eq_true (by first | (with_reducible assumption) | assumption); have q114 : a2 < ((rd_L1 l0 a1).length : Int) := of_decide_eq_true (by first | (with_reducible assumption) | assumption); obtain ⟨ad114, e114, hx114_0⟩ := Kd.at_int HR113_0.out a2 p114 q114; cases e114; replace p114 := eq_true p114; replace q114 := eq_true q114))
                      go_ret2
                      exact ⟨by first | rfl | (simp; done) | (simp [*]; done), by repeat (first | exact Drawn0.refl _ | apply Drawn0.step)⟩
                    · rw [if_neg c14] at H
                      exact absurd H (by simp)
                  · rw [if_neg c13] at H
                    exact absurd H (by simp)
                · rw [if_neg c12] at H
                  exact absurd H (by simp)
              · rw [if_neg c11] at H
                exact absurd H (by simp)
          · rw [if_neg c9] at H
            exact absurd H (by simp)
  · replace c5 := Bool.eq_false_iff.mpr c5
    subst c5
    have H1 : (some (0, some 1)) = some (r1, r2) := by rw [if_neg (show ¬ (false = true) by decide)] at H; exact H
    clear H
    have H := H1
    clear H1
    simp only [Option.some.injEq, Prod.mk.injEq] at H
    obtain ⟨rfl, rfl⟩ := H
    go_enter Try.func76, Try.ntmps76
    go_wp2_with (first | ((with_reducible refine gate_callee (f := 49) rfl ?_); refine goesL_ (some 9) rfl rfl Try.func49 (by kernel_rfl) rfl #[.slice A0 l0.length c0] rfl (by (try simp only [List.map_toArray, List.map_cons, List.map_nil]); first | done | rfl | (simp only [List.length_drop, List.length_take]; rfl)) ?_; (with_reducible refine (sample_May.calls k _ _ l0 false _ ?side1 ?side2 A4.out).mono ?_); (case side1 => repeat (first | exact HR0.out | (with_reducible refine Kd.C_alloc ?_ _) | (with_reducible refine Kd.C_drewN ?_ _) | (with_reducible refine Kd.C_drew ?_))); (case side2 => exact HC0.out); rintro e w' ⟨rfl, ⟨nd, rfl⟩⟩; refine ⟨_, rfl, ?_⟩))
    go_ret2
    exact ⟨by first | rfl | (simp; done) | (simp [*]; done), by repeat (first | exact Drawn0.refl _ | apply Drawn0.step)⟩

end Go.Proofs.Ytjkaldnhfenbhaa.PSampleKeeps
