-- PRINTED BY print.sh 35421559b90ae4d0a3588c463048766b98c2df88dd9212a6774a882060cdf62d: not written by this session
import Derived.Test.YtjkaldnhfenbhaaPSampleKeepsx0
namespace Go.Proofs.Ytjkaldnhfenbhaa.PSampleKeeps
open Go.RowKit Go.Proofs.YtjkaldnhfenbhaaW.PrintWords Go.Proofs.YtjkaldnhfenbhaaW.PrintLast Go.Proofs.YtjkaldnhfenbhaaW.PrintMore
attribute [local go_sem] max2_int min2_int max_two min_two max_three min_three max_four min_four   -- for this text's walks alone
set_option linter.unusedVariables false
set_option linter.unusedSimpArgs false

/-! ### nogginref14_Thresholds: function 48 -/
mutual
def nogginref14_Thresholds.j0 : Nat → List (List Int) → Bool → Option (Bool)
  | 0, _, _ => none
  | k + 1, x0, x12 => if x12 = true then (some false) else (nogginref14_Thresholds.l0 k x0 0)
def nogginref14_Thresholds.l0 : Nat → List (List Int) → Int → Option (Bool)
  | 0, _, _ => none
  | k + 1, x0, x3 => if x3 < (x0.length : Int) then (if 0 ≤ x3 then (if ((rd_L1 x0 x3).length : Int) < 1 then (nogginref14_Thresholds.j2 k x0 x3 true) else (if ((rd_L1 x0 x3).length : Int) > 8 then (nogginref14_Thresholds.j2 k x0 x3 true) else (if 0 < (x0.length : Int) then (nogginref14_Thresholds.j2 k x0 x3 (((rd_L1 x0 x3).length : Int) != ((rd_L1 x0 0).length : Int))) else (none)))) else (none)) else (some true)
def nogginref14_Thresholds.j2 : Nat → List (List Int) → Int → Bool → Option (Bool)
  | 0, _, _, _ => none
  | k + 1, x0, x3, x44 => if x44 = true then (some false) else (if 0 ≤ x3 then (if x3 < (x0.length : Int) then (if 0 < ((rd_L1 x0 x3).length : Int) then (if (rd (rd_L1 x0 x3) 0) = 0 then (nogginref14_Thresholds.l1 k x0 x3 1) else (some false)) else (none)) else (none)) else (none))
def nogginref14_Thresholds.l1 : Nat → List (List Int) → Int → Int → Option (Bool)
  | 0, _, _, _ => none
  | k + 1, x0, x3, x4 => if 0 ≤ x3 then (if x3 < (x0.length : Int) then (if x4 < ((rd_L1 x0 x3).length : Int) then (if 0 ≤ x4 then (if 0 ≤ (wrap64 (x4 - 1)) then (if (wrap64 (x4 - 1)) < ((rd_L1 x0 x3).length : Int) then (if (rd (rd_L1 x0 x3) x4) < (rd (rd_L1 x0 x3) (wrap64 (x4 - 1))) then (some false) else (if (rd (rd_L1 x0 x3) x4) > 65536 then (some false) else (nogginref14_Thresholds.l1 k x0 x3 (wrap64 (x4 + 1))))) else (none)) else (none)) else (none)) else (nogginref14_Thresholds.l0 k x0 (wrap64 (x3 + 1)))) else (none)) else (none)
end
def nogginref14_Thresholds.f (k : Nat) (l0 : List (List Int)) : Option (Bool) := if (l0.length : Int) < 1 then (nogginref14_Thresholds.j0 k l0 true) else (nogginref14_Thresholds.j0 k l0 (decide ((l0.length : Int) > 4)))
theorem nogginref14_Thresholds.mono_l : ∀ k, (∀ y0 y1, LeO (nogginref14_Thresholds.j0 k y0 y1) (nogginref14_Thresholds.j0 (k + 1) y0 y1)) ∧ (∀ y0 y1, LeO (nogginref14_Thresholds.l0 k y0 y1) (nogginref14_Thresholds.l0 (k + 1) y0 y1)) ∧ (∀ y0 y1 y2, LeO (nogginref14_Thresholds.j2 k y0 y1 y2) (nogginref14_Thresholds.j2 (k + 1) y0 y1 y2)) ∧ (∀ y0 y1 y2, LeO (nogginref14_Thresholds.l1 k y0 y1 y2) (nogginref14_Thresholds.l1 (k + 1) y0 y1 y2))
  | 0 => ⟨fun _ _ r h => by simp [nogginref14_Thresholds.j0] at h, fun _ _ r h => by simp [nogginref14_Thresholds.l0] at h, fun _ _ _ r h => by simp [nogginref14_Thresholds.j2] at h, fun _ _ _ r h => by simp [nogginref14_Thresholds.l1] at h⟩
  | k + 1 => by
    obtain ⟨ih0, ih1, ih2, ih3⟩ := nogginref14_Thresholds.mono_l k
    refine ⟨?_, ?_, ?_, ?_⟩
    · intro y0 y1
      unfold nogginref14_Thresholds.j0
      repeat' first
      | (with_reducible exact ih0 _ _)
      | (with_reducible exact ih1 _ _)
      | (with_reducible exact ih2 _ _ _)
      | (with_reducible exact ih3 _ _ _)
      | (with_reducible exact LeO.refl _)
      | (with_reducible exact LeO.none _)
      | (with_reducible refine LeO.ite ?_ ?_)
      | (with_reducible refine LeO.bind ?_ (fun _ => ?_))
      | exact ih0 _ _
      | exact ih1 _ _
      | exact ih2 _ _ _
      | exact ih3 _ _ _
      | exact LeO.none _
      | refine LeO.ite ?_ ?_
      | refine LeO.bind ?_ (fun _ => ?_)
    · intro y0 y1
      unfold nogginref14_Thresholds.l0
      repeat' first
      | (with_reducible exact ih0 _ _)
      | (with_reducible exact ih1 _ _)
      | (with_reducible exact ih2 _ _ _)
      | (with_reducible exact ih3 _ _ _)
      | (with_reducible exact LeO.refl _)
      | (with_reducible exact LeO.none _)
      | (with_reducible refine LeO.ite ?_ ?_)
      | (with_reducible refine LeO.bind ?_ (fun _ => ?_))
      | exact ih0 _ _
      | exact ih1 _ _
      | exact ih2 _ _ _
      | exact ih3 _ _ _
      | exact LeO.none _
      | refine LeO.ite ?_ ?_
      | refine LeO.bind ?_ (fun _ => ?_)
    · intro y0 y1 y2
      unfold nogginref14_Thresholds.j2
      repeat' first
      | (with_reducible exact ih0 _ _)
      | (with_reducible exact ih1 _ _)
      | (with_reducible exact ih2 _ _ _)
      | (with_reducible exact ih3 _ _ _)
      | (with_reducible exact LeO.refl _)
      | (with_reducible exact LeO.none _)
      | (with_reducible refine LeO.ite ?_ ?_)
      | (with_reducible refine LeO.bind ?_ (fun _ => ?_))
      | exact ih0 _ _
      | exact ih1 _ _
      | exact ih2 _ _ _
      | exact ih3 _ _ _
      | exact LeO.none _
      | refine LeO.ite ?_ ?_
      | refine LeO.bind ?_ (fun _ => ?_)
    · intro y0 y1 y2
      unfold nogginref14_Thresholds.l1
      repeat' first
      | (with_reducible exact ih0 _ _)
      | (with_reducible exact ih1 _ _)
      | (with_reducible exact ih2 _ _ _)
      | (with_reducible exact ih3 _ _ _)
      | (with_reducible exact LeO.refl _)
      | (with_reducible exact LeO.none _)
      | (with_reducible refine LeO.ite ?_ ?_)
      | (with_reducible refine LeO.bind ?_ (fun _ => ?_))
      | exact ih0 _ _
      | exact ih1 _ _
      | exact ih2 _ _ _
      | exact ih3 _ _ _
      | exact LeO.none _
      | refine LeO.ite ?_ ?_
      | refine LeO.bind ?_ (fun _ => ?_)
theorem nogginref14_Thresholds.mono : ∀ a0 k, LeO (nogginref14_Thresholds.f k a0) (nogginref14_Thresholds.f (k + 1) a0) := by
  intro a0 k
  obtain ⟨ih0, ih1, ih2, ih3⟩ := nogginref14_Thresholds.mono_l k
  unfold nogginref14_Thresholds.f
  repeat' first
      | (with_reducible exact ih0 _ _)
      | (with_reducible exact ih1 _ _)
      | (with_reducible exact ih2 _ _ _)
      | (with_reducible exact ih3 _ _ _)
      | (with_reducible exact LeO.refl _)
      | (with_reducible exact LeO.none _)
      | (with_reducible refine LeO.ite ?_ ?_)
      | (with_reducible refine LeO.bind ?_ (fun _ => ?_))
      | exact ih0 _ _
      | exact ih1 _ _
      | exact ih2 _ _ _
      | exact ih3 _ _ _
      | exact LeO.none _
      | refine LeO.ite ?_ ?_
      | refine LeO.bind ?_ (fun _ => ?_)
set_option maxHeartbeats 8000000 in
set_option maxRecDepth 100000 in
theorem nogginref14_Thresholds.calls (k : Nat) (A0 : Option Addr) (c0 : Nat) (l0 : List (List Int)) (r : Bool) (w : World) (hr0 : Kd.C (Kd.slice 3 (Kd.int .i64)) w A0 l0.length l0) (hc0 : l0.length ≤ c0) (h : nogginref14_Thresholds.f k l0 = some r) :
    Calls Try.prog 48 #[.slice A0 l0.length c0] w fun e w' => e = .returned (.bool r) ∧ Drawn0 w w' := by
  have HR0 := Aside0.mk hr0
  have HC0 := Aside0.mk hc0
  clear hr0 hc0
  have H : (if (l0.length : Int) < 1 then (nogginref14_Thresholds.j0 k l0 true) else (nogginref14_Thresholds.j0 k l0 (decide ((l0.length : Int) > 4)))) = some r := h
  clear h
  have HC2 := Aside0.mk H
  clear H
  go_enter Try.func48, Try.ntmps48
  go_upto_region 1 with (fail)
  repeat (go_quiet (fail); go_upto_region 1 with (fail))
  go_cut [12] (fun v12 wc => ∃ (kq : Nat) (x12_1 : Bool), v12 = .bool x12_1 ∧ Aside0 (nogginref14_Thresholds.j0 kq l0 x12_1 = some r) ∧ Aside0 (kq ≤ k) ∧ Drawn0 w wc)
  case first =>
    have H := HC2.out
    clear HC2
    by_cases c3 : (l0.length : Int) < 1
    · rw [if_pos c3] at H
      have c3b0 : decide ((l0.length : Int) < 1) = true := decide_eq_true c3
      have c3b1 : decide (l0.length < 1) = true := decide_eq_true (by omega)
      clear c3
      (first | rw [c3b0] | (simp only [i64_w, i32_w]; rw [c3b0]) | skip)
      have H' := Aside0.mk H
      clear H
      go_wp2
      repeat (go_quiet (fail); try go_wp2)
      go_meet
      case rel => exact ⟨_, (true), (by first | rfl | (simp; done) | (simp [*]; done)), H', ⟨by first | omega | exact Nat.le_refl _⟩, by repeat (first | exact Drawn0.refl _ | apply Drawn0.step)⟩
    · rw [if_neg c3] at H
      have c3b0 : decide ((l0.length : Int) < 1) = false := decide_eq_false c3
      have c3b1 : decide (l0.length < 1) = false := decide_eq_false (by omega)
      clear c3
      (first | rw [c3b0] | (simp only [i64_w, i32_w]; rw [c3b0]) | skip)
      have H' := Aside0.mk H
      clear H
      go_wp2
      repeat (go_quiet (fail); try go_wp2)
      go_meet
      case rel => exact ⟨_, (decide ((l0.length : Int) > 4)), (by first | rfl | (simp; done) | (simp [*]; done)), H', ⟨by first | omega | exact Nat.le_refl _⟩, by repeat (first | exact Drawn0.refl _ | apply Drawn0.step)⟩
  case rest =>
    clear HC2
    try clear p2
    try clear c3
    try clear c3b0
    try clear c3b1
    obtain ⟨kq, x12_1, rfl, HA, HJ1, ⟨mc1, rfl⟩⟩ := hcut
    cases kq with
    | zero => exact absurd HA.out (by simp [nogginref14_Thresholds.j0])
    | succ kj1 =>
      have H := HA.out
      clear HA
      simp only [nogginref14_Thresholds.j0] at H
      by_cases c4 : x12_1 = true
      · subst c4
        have H1 : (some false) = some r := by rw [if_pos rfl] at H; exact H
        clear H
        have H := H1
        clear H1
        obtain rfl := Option.some.inj H
        go_wp2
        repeat (go_quiet (fail); try go_wp2)
        go_ret
        exact ⟨by first | rfl | (simp; done) | (simp [*]; done), by repeat (first | exact Drawn0.refl _ | apply Drawn0.step)⟩
      · replace c4 := Bool.eq_false_iff.mpr c4
        subst c4
        have H1 : (nogginref14_Thresholds.l0 kj1 l0 0) = some r := by rw [if_neg (show ¬ (false = true) by decide)] at H; exact H
        clear H
        have H := H1
        clear H1
        have H' := Aside0.mk H
        clear H
        go_wp2
        repeat (go_quiet (fail); try go_wp2)
        go_loopg [3] kj1 (fun kq v3 w' => ∃ (x3_2 : Int), v3 = .int .i64 x3_2 ∧ Aside0 (nogginref14_Thresholds.l0 kq l0 x3_2 = some r) ∧ Aside0 (kq ≤ kj1) ∧ Drawn0 w w')
        case atStart => exact ⟨(0), (by first | rfl | (simp; done) | (simp [*]; done)), H', ⟨Nat.le_refl _⟩, by repeat (first | exact Drawn0.refl _ | apply Drawn0.step)⟩
        case round =>
          clear H'
          try clear c1
          try clear p2
          try clear c3
          try clear c3b0
          try clear c3b1
          try clear c4
          try clear p2
          obtain ⟨x3_2, rfl, HA, HK2, ⟨m2, rfl⟩⟩ := hrel
          cases gk with
          | zero => exact absurd HA.out (by simp [nogginref14_Thresholds.l0])
          | succ k2 =>
            have H := HA.out
            clear HA
            simp only [nogginref14_Thresholds.l0] at H
            by_cases c5 : x3_2 < (l0.length : Int)
            · rw [if_pos c5] at H
              have c5b0 : decide (x3_2 < (l0.length : Int)) = true := decide_eq_true c5
              clear c5
              have HC6 := Aside0.mk H
              clear H
              go_upto_region 6 with (fail)
              repeat (go_quiet (fail); go_upto_region 6 with (fail))
              go_cut [44] (fun v44 wc => ∃ (kq : Nat) (x44_5 : Bool), v44 = .bool x44_5 ∧ Aside0 (nogginref14_Thresholds.j2 kq l0 x3_2 x44_5 = some r) ∧ Aside0 (kq ≤ k2) ∧ Drawn0 w wc)
              case first =>
                have H := HC6.out
                clear HC6
                by_cases c7 : 0 ≤ x3_2
                · rw [if_pos c7] at H
                  have c7b0 : decide (0 ≤ x3_2) = true := decide_eq_true c7
                  clear c7
                  (first | rw [c7b0] | (simp only [i64_w, i32_w]; rw [c7b0]) | skip)
                  by_cases c8 : ((rd_L1 l0 x3_2).length : Int) < 1
                  · rw [if_pos c8] at H
                    have c8b0 : decide (((rd_L1 l0 x3_2).length : Int) < 1) = true := decide_eq_true c8
                    have c8b1 : decide ((rd_L1 l0 x3_2).length < 1) = true := decide_eq_true (by omega)
                    clear c8
                    have H' := Aside0.mk H
                    clear H
                    have p128 : 0 ≤ (x3_2 : Int) := of_decide_eq_true (by first | (with_reducible assumption) | assumption)
                    have q128 : x3_2 < (l0.length : Int) := of_decide_eq_true (by first | (with_reducible assumption) | assumption)
                    obtain ⟨ad128, A128_0, c128_0, e128, hx128_0, hl128_0, hi128_0⟩ := at_L1 HR0.out x3_2 p128 q128
                    cases e128
                    have HR128_0 := Aside0.mk hi128_0
                    have HC128_0 := Aside0.mk hl128_0
                    clear hi128_0 hl128_0
                    replace p128 := eq_true p128
                    replace q128 := eq_true q128
                    go_wp2
                    repeat (go_quiet (fail); try go_wp2)
                    go_meet
                    case rel => exact ⟨_, (true), (by first | rfl | (simp; done) | (simp [*]; done)), H', ⟨by have := HJ1.out; have := HK2.out; first | omega | exact Nat.le_refl _⟩, by repeat (first | exact Drawn0.refl _ | apply Drawn0.step)⟩
                  · rw [if_neg c8] at H
                    have c8b0 : decide (((rd_L1 l0 x3_2).length : Int) < 1) = false := decide_eq_false c8
                    have c8b1 : decide ((rd_L1 l0 x3_2).length < 1) = false := decide_eq_false (by omega)
                    clear c8
                    by_cases c9 : ((rd_L1 l0 x3_2).length : Int) > 8
                    · rw [if_pos c9] at H
                      have c9b0 : decide (8 < ((rd_L1 l0 x3_2).length : Int)) = true := decide_eq_true c9
                      have c9b1 : decide (8 < (rd_L1 l0 x3_2).length) = true := decide_eq_true (by omega)
                      clear c9
                      have H' := Aside0.mk H
                      clear H
                      have p128 : 0 ≤ (x3_2 : Int) := of_decide_eq_true (by first | (with_reducible assumption) | assumption)
                      have q128 : x3_2 < (l0.length : Int) := of_decide_eq_true (by first | (with_reducible assumption) | assumption)
                      obtain ⟨ad128, A128_0, c128_0, e128, hx128_0, hl128_0, hi128_0⟩ := at_L1 HR0.out x3_2 p128 q128
                      cases e128
                      have HR128_0 := Aside0.mk hi128_0
                      have HC128_0 := Aside0.mk hl128_0
                      clear hi128_0 hl128_0
                      replace p128 := eq_true p128
                      replace q128 := eq_true q128
                      have p129 : 0 ≤ (x3_2 : Int) := of_decide_eq_true (by first | (with_reducible assumption) | assumption)
                      have q129 : x3_2 < (l0.length : Int) := of_decide_eq_true (by first | (with_reducible assumption) | assumption)
                      obtain ⟨ad129, A129_0, c129_0, e129, hx129_0, hl129_0, hi129_0⟩ := at_L1 HR0.out x3_2 p129 q129
                      obtain rfl : ad128 = ad129 := (by injection e129)
                      have HR129_0 := Aside0.mk hi129_0
                      have HC129_0 := Aside0.mk hl129_0
                      clear hi129_0 hl129_0
                      replace p129 := eq_true p129
                      replace q129 := eq_true q129
                      have ea_ := Option.some.inj (hx128_0.symm.trans hx129_0)
                      injection ea_ with ea_ en_ ec_
                      subst ea_
                      subst ec_
                      clear en_
                      go_wp2
                      repeat (go_quiet (fail); try go_wp2)
                      go_meet
                      case rel => exact ⟨_, (true), (by first | rfl | (simp; done) | (simp [*]; done)), H', ⟨by have := HJ1.out; have := HK2.out; first | omega | exact Nat.le_refl _⟩, by repeat (first | exact Drawn0.refl _ | apply Drawn0.step)⟩
                    · rw [if_neg c9] at H
                      have c9b0 : decide (8 < ((rd_L1 l0 x3_2).length : Int)) = false := decide_eq_false c9
                      have c9b1 : decide (8 < (rd_L1 l0 x3_2).length) = false := decide_eq_false (by omega)
                      clear c9
                      by_cases c10 : 0 < (l0.length : Int)
                      · rw [if_pos c10] at H
                        have c10b0 : decide (0 < (l0.length : Int)) = true := decide_eq_true c10
                        have c10b1 : decide (0 < l0.length) = true := decide_eq_true (by omega)
                        clear c10
                        have H' := Aside0.mk H
                        clear H
                        have p128 : 0 ≤ (x3_2 : Int) := of_decide_eq_true (by first | (with_reducible assumption) | assumption)
                        have q128 : x3_2 < (l0.length : Int) := of_decide_eq_true (by first | (with_reducible assumption) | assumption)
                        obtain ⟨ad128, A128_0, c128_0, e128, hx128_0, hl128_0, hi128_0⟩ := at_L1 HR0.out x3_2 p128 q128
                        cases e128
                        have HR128_0 := Aside0.mk hi128_0
                        have HC128_0 := Aside0.mk hl128_0
                        clear hi128_0 hl128_0
                        replace p128 := eq_true p128
                        replace q128 := eq_true q128
                        have p129 : 0 ≤ (x3_2 : Int) := of_decide_eq_true (by first | (with_reducible assumption) | assumption)
                        have q129 : x3_2 < (l0.length : Int) := of_decide_eq_true (by first | (with_reducible assumption) | assumption)
                        obtain ⟨ad129, A129_0, c129_0, e129, hx129_0, hl129_0, hi129_0⟩ := at_L1 HR0.out x3_2 p129 q129
                        obtain rfl : ad128 = ad129 := (by injection e129)
                        have HR129_0 := Aside0.mk hi129_0
                        have HC129_0 := Aside0.mk hl129_0
                        clear hi129_0 hl129_0
                        replace p129 := eq_true p129
                        replace q129 := eq_true q129
                        have ea_ := Option.some.inj (hx128_0.symm.trans hx129_0)
                        injection ea_ with ea_ en_ ec_
                        subst ea_
                        subst ec_
                        clear en_
                        have p130 : 0 ≤ (x3_2 : Int) := of_decide_eq_true (by first | (with_reducible assumption) | assumption)
                        have q130 : x3_2 < (l0.length : Int) := of_decide_eq_true (by first | (with_reducible assumption) | assumption)
                        obtain ⟨ad130, A130_0, c130_0, e130, hx130_0, hl130_0, hi130_0⟩ := at_L1 HR0.out x3_2 p130 q130
                        obtain rfl : ad128 = ad130 := (by injection e130)
                        have HR130_0 := Aside0.mk hi130_0
                        have HC130_0 := Aside0.mk hl130_0
                        clear hi130_0 hl130_0
                        replace p130 := eq_true p130
                        replace q130 := eq_true q130
                        have ea_ := Option.some.inj (hx128_0.symm.trans hx130_0)
                        injection ea_ with ea_ en_ ec_
                        subst ea_
                        subst ec_
                        clear en_
                        have p131 : 0 ≤ (0 : Int) := (by omega)
                        have q131 : 0 < (l0.length : Int) := of_decide_eq_true (by first | (with_reducible assumption) | assumption)
                        obtain ⟨ad131, A131_0, c131_0, e131, hx131_0, hl131_0, hi131_0⟩ := at_L1 HR0.out 0 p131 q131
                        obtain rfl : ad128 = ad131 := (by injection e131)
                        have qi131 : (0 < l0.length) = True := eq_true (by omega)
                        (try rw [show ((0 : Int)).toNat = 0 from rfl] at hx131_0)
                        (try rw [Addr.add_zero'] at hx131_0)
                        have HR131_0 := Aside0.mk hi131_0
                        have HC131_0 := Aside0.mk hl131_0
                        clear hi131_0 hl131_0
                        replace p131 := eq_true p131
                        replace q131 := eq_true q131
                        go_wp2
                        repeat (go_quiet (fail); try go_wp2)
                        go_meet
                        case rel => exact ⟨_, ((((rd_L1 l0 x3_2).length : Int) != ((rd_L1 l0 0).length : Int))), (by first | rfl | (simp; done) | (simp [*]; done)), H', ⟨by have := HJ1.out; have := HK2.out; first | omega | exact Nat.le_refl _⟩, by repeat (first | exact Drawn0.refl _ | apply Drawn0.step)⟩
                      · rw [if_neg c10] at H
                        exact absurd H (by simp)
                · rw [if_neg c7] at H
                  exact absurd H (by simp)
              case rest =>
                clear HC6
                try clear c1
                try clear p1
                try clear q1
                try clear hx1
                try clear qi1
                try clear p2
                try clear c3
                try clear c3b0
                try clear c3b1
                try clear c4
                try clear c5
                try clear c5b0
                try clear c7
                try clear c7b0
                try clear c8
                try clear c8b0
                try clear c8b1
                try clear c9
                try clear c9b0
                try clear c9b1
                try clear c10
                try clear c10b0
                try clear c10b1
                try clear hx128_0
                try clear hx129_0
                try clear hx130_0
                try clear hx131_0
                try clear p128
                try clear p129
                try clear p130
                try clear p131
                try clear p2
                try clear q128
                try clear q129
                try clear q130
                try clear q131
                obtain ⟨kq, x44_5, rfl, HA, HJ5, ⟨mc5, rfl⟩⟩ := hcut
                cases kq with
                | zero => exact absurd HA.out (by simp [nogginref14_Thresholds.j2])
                | succ kj5 =>
                  have H := HA.out
                  clear HA
                  simp only [nogginref14_Thresholds.j2] at H
                  by_cases c11 : x44_5 = true
                  · subst c11
                    have H1 : (some false) = some r := by rw [if_pos rfl] at H; exact H
                    clear H
                    have H := H1
                    clear H1
                    obtain rfl := Option.some.inj H
                    go_wp2
                    repeat (go_quiet (fail); try go_wp2)
                    go_ret
                    exact ⟨by first | rfl | (simp; done) | (simp [*]; done), by repeat (first | exact Drawn0.refl _ | apply Drawn0.step)⟩
                  · replace c11 := Bool.eq_false_iff.mpr c11
                    subst c11
                    have H1 : (if 0 ≤ x3_2 then (if x3_2 < (l0.length : Int) then (if 0 < ((rd_L1 l0 x3_2).length : Int) then (if (rd (rd_L1 l0 x3_2) 0) = 0 then (nogginref14_Thresholds.l1 kj5 l0 x3_2 1) else (some false)) else (none)) else (none)) else (none)) = some r := by rw [if_neg (show ¬ (false = true) by decide)] at H; exact H
                    clear H
                    have H := H1
                    clear H1
                    by_cases c12 : 0 ≤ x3_2
                    · rw [if_pos c12] at H
                      have c12b0 : decide (0 ≤ x3_2) = true := decide_eq_true c12
                      clear c12
                      by_cases c13 : x3_2 < (l0.length : Int)
                      · rw [if_pos c13] at H
                        have c13b0 : decide (x3_2 < (l0.length : Int)) = true := decide_eq_true c13
                        clear c13
                        by_cases c14 : 0 < ((rd_L1 l0 x3_2).length : Int)
                        · rw [if_pos c14] at H
                          have c14b0 : decide (0 < ((rd_L1 l0 x3_2).length : Int)) = true := decide_eq_true c14
                          have c14b1 : decide (0 < (rd_L1 l0 x3_2).length) = true := decide_eq_true (by omega)
                          clear c14
                          by_cases c15 : (rd (rd_L1 l0 x3_2) 0) = 0
                          · rw [if_pos c15] at H
                            have c15b0 : ((rd (rd_L1 l0 x3_2) 0) == 0) = true := beq_iff_eq.mpr c15
                            have c15b1 : ((rd (rd_L1 l0 x3_2) 0) != 0) = false := bne_eq_false_iff_eq.mpr c15
                            clear c15
                            have H' := Aside0.mk H
                            clear H
                            have p132 : 0 ≤ (x3_2 : Int) := of_decide_eq_true (by first | (with_reducible assumption) | assumption)
                            have q132 : x3_2 < (l0.length : Int) := of_decide_eq_true (by first | (with_reducible assumption) | assumption)
                            obtain ⟨ad132, A132_0, c132_0, e132, hx132_0, hl132_0, hi132_0⟩ := at_L1 HR0.out x3_2 p132 q132
                            cases e132
                            have HR132_0 := Aside0.mk hi132_0
                            have HC132_0 := Aside0.mk hl132_0
                            clear hi132_0 hl132_0
                            replace p132 := eq_true p132
                            replace q132 := eq_true q132
                            have p133 : 0 ≤ (0 : Int) := (by omega)
                            have q133 : 0 < ((rd_L1 l0 x3_2).length : Int) := of_decide_eq_true (by first | (with_reducible assumption) | assumption)
                            obtain ⟨ad133, e133, hx133_0⟩ := Kd.at_int HR132_0.out 0 p133 q133
                            cases e133
                            have qi133 : (0 < (rd_L1 l0 x3_2).length) = True := eq_true (by omega)
                            (try rw [show ((0 : Int)).toNat = 0 from rfl] at hx133_0)
                            (try rw [Addr.add_zero'] at hx133_0)
                            replace p133 := eq_true p133
                            replace q133 := eq_true q133
                            go_wp2
                            repeat (go_quiet (fail); try go_wp2)
                            go_loopg [4] kj5 (fun kq v4 w' => ∃ (x4_4 : Int), v4 = .int .i64 x4_4 ∧ Aside0 (nogginref14_Thresholds.l1 kq l0 x3_2 x4_4 = some r) ∧ Aside0 (kq ≤ kj5) ∧ Drawn0 w w')
                            case atStart => exact ⟨(1), (by first | rfl | (simp; done) | (simp [*]; done)), H', ⟨Nat.le_refl _⟩, by repeat (first | exact Drawn0.refl _ | apply Drawn0.step)⟩
                            case round =>
                              clear H'
                              try clear c1
                              try clear p1
                              try clear q1
                              try clear hx1
                              try clear qi1
                              try clear p2
                              try clear c3
                              try clear c3b0
                              try clear c3b1
                              try clear c4
                              try clear c5
                              try clear c5b0
                              try clear c7
                              try clear c7b0
                              try clear c8
                              try clear c8b0
                              try clear c8b1
                              try clear c9
                              try clear c9b0
                              try clear c9b1
                              try clear c10
                              try clear c10b0
                              try clear c10b1
                              try clear c11
                              try clear c12
                              try clear c12b0
                              try clear p12
                              try clear q12
                              try clear hx12
                              try clear c13
                              try clear c13b0
                              try clear p13
                              try clear q13
                              try clear hx13
                              try clear qi13
                              try clear c14
                              try clear c14b0
                              try clear c14b1
                              try clear c15
                              try clear c15b0
                              try clear c15b1
                              try clear hx128_0
                              try clear hx129_0
                              try clear hx130_0
                              try clear hx131_0
                              try clear hx132_0
                              try clear hx133_0
                              try clear p1
                              try clear p128
                              try clear p129
                              try clear p130
                              try clear p131
                              try clear p132
                              try clear p133
                              try clear p2
                              try clear q1
                              try clear q128
                              try clear q129
                              try clear q130
                              try clear q131
                              try clear q132
                              try clear q133
                              obtain ⟨x4_4, rfl, HA, HK4, ⟨m4, rfl⟩⟩ := hrel
                              cases gk with
                              | zero => exact absurd HA.out (by simp [nogginref14_Thresholds.l1])
                              | succ k4 =>
                                have H := HA.out
                                clear HA
                                simp only [nogginref14_Thresholds.l1] at H
                                by_cases c16 : 0 ≤ x3_2
                                · rw [if_pos c16] at H
                                  have c16b0 : decide (0 ≤ x3_2) = true := decide_eq_true c16
                                  clear c16
                                  by_cases c17 : x3_2 < (l0.length : Int)
                                  · rw [if_pos c17] at H
                                    have c17b0 : decide (x3_2 < (l0.length : Int)) = true := decide_eq_true c17
                                    clear c17
                                    by_cases c18 : x4_4 < ((rd_L1 l0 x3_2).length : Int)
                                    · rw [if_pos c18] at H
                                      have c18b0 : decide (x4_4 < ((rd_L1 l0 x3_2).length : Int)) = true := decide_eq_true c18
                                      clear c18
                                      by_cases c19 : 0 ≤ x4_4
                                      · rw [if_pos c19] at H
                                        have c19b0 : decide (0 ≤ x4_4) = true := decide_eq_true c19
                                        clear c19
                                        obtain ⟨ji20, hji20⟩ : ∃ j_ : Int, (wrap64 (x4_4 - 1)) = j_ := ⟨_, rfl⟩
                                        replace H : (if 0 ≤ (ji20) then (if (ji20) < ((rd_L1 l0 x3_2).length : Int) then (if (rd (rd_L1 l0 x3_2) x4_4) < (rd (rd_L1 l0 x3_2) (ji20)) then (some false) else (if (rd (rd_L1 l0 x3_2) x4_4) > 65536 then (some false) else (nogginref14_Thresholds.l1 k4 l0 x3_2 (wrap64 (x4_4 + 1))))) else (none)) else (none)) = some r := by first | (rw [hji20] at H; exact H) | (simp only [hji20] at H ⊢; exact H)
                                        have hji20w : (IntKind.i64.wrap (x4_4 - 1)) = ji20 := (i64_w _).trans hji20
                                        by_cases c21 : 0 ≤ (ji20)
                                        · rw [if_pos c21] at H
                                          have c21b0 : decide (0 ≤ (ji20)) = true := decide_eq_true c21
                                          clear c21
                                          by_cases c22 : (ji20) < ((rd_L1 l0 x3_2).length : Int)
                                          · rw [if_pos c22] at H
                                            have c22b0 : decide ((ji20) < ((rd_L1 l0 x3_2).length : Int)) = true := decide_eq_true c22
                                            clear c22
                                            by_cases c23 : (rd (rd_L1 l0 x3_2) x4_4) < (rd (rd_L1 l0 x3_2) (ji20))
                                            · rw [if_pos c23] at H
                                              have c23b0 : decide ((rd (rd_L1 l0 x3_2) x4_4) < (rd (rd_L1 l0 x3_2) (ji20))) = true := decide_eq_true c23
                                              clear c23
                                              obtain rfl := Option.some.inj H
                                              have p134 : 0 ≤ (x3_2 : Int) := of_decide_eq_true (by first | (with_reducible assumption) | assumption)
                                              have q134 : x3_2 < (l0.length : Int) := of_decide_eq_true (by first | (with_reducible assumption) | assumption)
                                              obtain ⟨ad134, A134_0, c134_0, e134, hx134_0, hl134_0, hi134_0⟩ := at_L1 HR0.out x3_2 p134 q134
                                              obtain rfl : ad132 = ad134 := (by injection e134)
                                              have HR134_0 := Aside0.mk hi134_0
                                              have HC134_0 := Aside0.mk hl134_0
                                              clear hi134_0 hl134_0
                                              replace p134 := eq_true p134
                                              replace q134 := eq_true q134
                                              have p135 : 0 ≤ (x3_2 : Int) := of_decide_eq_true (by first | (with_reducible assumption) | assumption)
                                              have q135 : x3_2 < (l0.length : Int) := of_decide_eq_true (by first | (with_reducible assumption) | assumption)
                                              obtain ⟨ad135, A135_0, c135_0, e135, hx135_0, hl135_0, hi135_0⟩ := at_L1 HR0.out x3_2 p135 q135
                                              obtain rfl : ad132 = ad135 := (by injection e135)
                                              have HR135_0 := Aside0.mk hi135_0
                                              have HC135_0 := Aside0.mk hl135_0
                                              clear hi135_0 hl135_0
                                              replace p135 := eq_true p135
                                              replace q135 := eq_true q135
                                              have ea_ := Option.some.inj (hx134_0.symm.trans hx135_0)
                                              injection ea_ with ea_ en_ ec_
                                              subst ea_
                                              subst ec_
                                              clear en_
                                              have p136 : 0 ≤ (x4_4 : Int) := of_decide_eq_true (by first | (with_reducible assumption) | assumption)
                                              have q136 : x4_4 < ((rd_L1 l0 x3_2).length : Int) := of_decide_eq_true (by first | (with_reducible assumption) | assumption)
                                              obtain ⟨ad136, e136, hx136_0⟩ := Kd.at_int HR135_0.out x4_4 p136 q136
                                              cases e136
                                              replace p136 := eq_true p136
                                              replace q136 := eq_true q136
                                              have p137 : 0 ≤ (x3_2 : Int) := of_decide_eq_true (by first | (with_reducible assumption) | assumption)
                                              have q137 : x3_2 < (l0.length : Int) := of_decide_eq_true (by first | (with_reducible assumption) | assumption)
                                              obtain ⟨ad137, A137_0, c137_0, e137, hx137_0, hl137_0, hi137_0⟩ := at_L1 HR0.out x3_2 p137 q137
                                              obtain rfl : ad132 = ad137 := (by injection e137)
                                              have HR137_0 := Aside0.mk hi137_0
                                              have HC137_0 := Aside0.mk hl137_0
                                              clear hi137_0 hl137_0
                                              replace p137 := eq_true p137
                                              replace q137 := eq_true q137
                                              have ea_ := Option.some.inj (hx134_0.symm.trans hx137_0)
                                              injection ea_ with ea_ en_ ec_
                                              subst ea_
                                              subst ec_
                                              clear en_
                                              have p138 : 0 ≤ ((ji20) : Int) := of_decide_eq_true (by first | (with_reducible assumption) | assumption)
                                              have q138 : (ji20) < ((rd_L1 l0 x3_2).length : Int) := of_decide_eq_true (by first | (with_reducible assumption) | assumption)
                                              obtain ⟨ad138, e138, hx138_0⟩ := Kd.at_int HR137_0.out (ji20) p138 q138
                                              cases e138
                                              replace p138 := eq_true p138
                                              replace q138 := eq_true q138
                                              go_wp2
                                              repeat (go_quiet (fail); try go_wp2)
                                              go_ret
                                              exact ⟨by first | rfl | (simp; done) | (simp only [← hji20] <;> (first | rfl | simp)) | (simp [*]; done), by repeat (first | exact Drawn0.refl _ | apply Drawn0.step)⟩
                                            · rw [if_neg c23] at H
                                              have c23b0 : decide ((rd (rd_L1 l0 x3_2) x4_4) < (rd (rd_L1 l0 x3_2) (ji20))) = false := decide_eq_false c23
                                              clear c23
                                              by_cases c24 : (rd (rd_L1 l0 x3_2) x4_4) > 65536
                                              · rw [if_pos c24] at H
                                                have c24b0 : decide (65536 < (rd (rd_L1 l0 x3_2) x4_4)) = true := decide_eq_true c24
                                                clear c24
                                                obtain rfl := Option.some.inj H
                                                have p134 : 0 ≤ (x3_2 : Int) := of_decide_eq_true (by first | (with_reducible assumption) | assumption)
                                                have q134 : x3_2 < (l0.length : Int) := of_decide_eq_true (by first | (with_reducible assumption) | assumption)
                                                obtain ⟨ad134, A134_0, c134_0, e134, hx134_0, hl134_0, hi134_0⟩ := at_L1 HR0.out x3_2 p134 q134
                                                obtain rfl : ad132 = ad134 := (by injection e134)
                                                have HR134_0 := Aside0.mk hi134_0
                                                have HC134_0 := Aside0.mk hl134_0
                                                clear hi134_0 hl134_0
                                                replace p134 := eq_true p134
                                                replace q134 := eq_true q134
                                                have p135 : 0 ≤ (x3_2 : Int) := of_decide_eq_true (by first | (with_reducible assumption) | assumption)
                                                have q135 : x3_2 < (l0.length : Int) := of_decide_eq_true (by first | (with_reducible assumption) | assumption)
                                                obtain ⟨ad135, A135_0, c135_0, e135, hx135_0, hl135_0, hi135_0⟩ := at_L1 HR0.out x3_2 p135 q135
                                                obtain rfl : ad132 = ad135 := (by injection e135)
                                                have HR135_0 := Aside0.mk hi135_0
                                                have HC135_0 := Aside0.mk hl135_0
                                                clear hi135_0 hl135_0
                                                replace p135 := eq_true p135
                                                replace q135 := eq_true q135
                                                have ea_ := Option.some.inj (hx134_0.symm.trans hx135_0)
                                                injection ea_ with ea_ en_ ec_
                                                subst ea_
                                                subst ec_
                                                clear en_
                                                have p136 : 0 ≤ (x4_4 : Int) := of_decide_eq_true (by first | (with_reducible assumption) | assumption)
                                                have q136 : x4_4 < ((rd_L1 l0 x3_2).length : Int) := of_decide_eq_true (by first | (with_reducible assumption) | assumption)
                                                obtain ⟨ad136, e136, hx136_0⟩ := Kd.at_int HR135_0.out x4_4 p136 q136
                                                cases e136
                                                replace p136 := eq_true p136
                                                replace q136 := eq_true q136
                                                have p137 : 0 ≤ (x3_2 : Int) := of_decide_eq_true (by first | (with_reducible assumption) | assumption)
                                                have q137 : x3_2 < (l0.length : Int) := of_decide_eq_true (by first | (with_reducible assumption) | assumption)
                                                obtain ⟨ad137, A137_0, c137_0, e137, hx137_0, hl137_0, hi137_0⟩ := at_L1 HR0.out x3_2 p137 q137
                                                obtain rfl : ad132 = ad137 := (by injection e137)
                                                have HR137_0 := Aside0.mk hi137_0
                                                have HC137_0 := Aside0.mk hl137_0
                                                clear hi137_0 hl137_0
                                                replace p137 := eq_true p137
                                                replace q137 := eq_true q137
                                                have ea_ := Option.some.inj (hx134_0.symm.trans hx137_0)
                                                injection ea_ with ea_ en_ ec_
                                                subst ea_
                                                subst ec_
                                                clear en_
                                                have p138 : 0 ≤ ((ji20) : Int) := of_decide_eq_true (by first | (with_reducible assumption) | assumption)
                                                have q138 : (ji20) < ((rd_L1 l0 x3_2).length : Int) := of_decide_eq_true (by first | (with_reducible assumption) | assumption)
                                                obtain ⟨ad138, e138, hx138_0⟩ := Kd.at_int HR137_0.out (ji20) p138 q138
                                                cases e138
                                                replace p138 := eq_true p138
                                                replace q138 := eq_true q138
                                                have p139 : 0 ≤ (x3_2 : Int) := of_decide_eq_true (by first | (with_reducible assumption) | assumption)
                                                have q139 : x3_2 < (l0.length : Int) := of_decide_eq_true (by first | (with_reducible assumption) | assumption)
                                                obtain ⟨ad139, A139_0, c139_0, e139, hx139_0, hl139_0, hi139_0⟩ := at_L1 HR0.out x3_2 p139 q139
                                                obtain rfl : ad132 = ad139 := (by injection e139)
                                                have HR139_0 := Aside0.mk hi139_0
                                                have HC139_0 := Aside0.mk hl139_0
                                                clear hi139_0 hl139_0
                                                replace p139 := eq_true p139
                                                replace q139 := eq_true q139
                                                have ea_ := Option.some.inj (hx134_0.symm.trans hx139_0)
                                                injection ea_ with ea_ en_ ec_
                                                subst ea_
                                                subst ec_
                                                clear en_
                                                have p140 : 0 ≤ (x4_4 : Int) := of_decide_eq_true (by first | (with_reducible assumption) | assumption)
                                                have q140 : x4_4 < ((rd_L1 l0 x3_2).length : Int) := of_decide_eq_true (by first | (with_reducible assumption) | assumption)
                                                obtain ⟨ad140, e140, hx140_0⟩ := Kd.at_int HR139_0.out x4_4 p140 q140
                                                cases e140
                                                replace p140 := eq_true p140
                                                replace q140 := eq_true q140
                                                go_wp2
                                                repeat (go_quiet (fail); try go_wp2)
                                                go_ret
                                                exact ⟨by first | rfl | (simp; done) | (simp only [← hji20] <;> (first | rfl | simp)) | (simp [*]; done), by repeat (first | exact Drawn0.refl _ | apply Drawn0.step)⟩
                                              · rw [if_neg c24] at H
                                                have c24b0 : decide (65536 < (rd (rd_L1 l0 x3_2) x4_4)) = false := decide_eq_false c24
                                                clear c24
                                                have H' := Aside0.mk H
                                                clear H
                                                have p134 : 0 ≤ (x3_2 : Int) := of_decide_eq_true (by first | (with_reducible assumption) | assumption)
                                                have q134 : x3_2 < (l0.length : Int) := of_decide_eq_true (by first | (with_reducible assumption) | assumption)
                                                obtain ⟨ad134, A134_0, c134_0, e134, hx134_0, hl134_0, hi134_0⟩ := at_L1 HR0.out x3_2 p134 q134
                                                obtain rfl : ad132 = ad134 := (by injection e134)
                                                have HR134_0 := Aside0.mk hi134_0
                                                have HC134_0 := Aside0.mk hl134_0
                                                clear hi134_0 hl134_0
                                                replace p134 := eq_true p134
                                                replace q134 := eq_true q134
                                                have p135 : 0 ≤ (x3_2 : Int) := of_decide_eq_true (by first | (with_reducible assumption) | assumption)
                                                have q135 : x3_2 < (l0.length : Int) := of_decide_eq_true (by first | (with_reducible assumption) | assumption)
                                                obtain ⟨ad135, A135_0, c135_0, e135, hx135_0, hl135_0, hi135_0⟩ := at_L1 HR0.out x3_2 p135 q135
                                                obtain rfl : ad132 = ad135 := (by injection e135)
                                                have HR135_0 := Aside0.mk hi135_0
                                                have HC135_0 := Aside0.mk hl135_0
                                                clear hi135_0 hl135_0
                                                replace p135 := eq_true p135
                                                replace q135 := eq_true q135
                                                have ea_ := Option.some.inj (hx134_0.symm.trans hx135_0)
                                                injection ea_ with ea_ en_ ec_
                                                subst ea_
                                                subst ec_
                                                clear en_
                                                have p136 : 0 ≤ (x4_4 : Int) := of_decide_eq_true (by first | (with_reducible assumption) | assumption)
                                                have q136 : x4_4 < ((rd_L1 l0 x3_2).length : Int) := of_decide_eq_true (by first | (with_reducible assumption) | assumption)
                                                obtain ⟨ad136, e136, hx136_0⟩ := Kd.at_int HR135_0.out x4_4 p136 q136
                                                cases e136
                                                replace p136 := eq_true p136
                                                replace q136 := eq_true q136
                                                have p137 : 0 ≤ (x3_2 : Int) := of_decide_eq_true (by first | (with_reducible assumption) | assumption)
                                                have q137 : x3_2 < (l0.length : Int) := of_decide_eq_true (by first | (with_reducible assumption) | assumption)
                                                obtain ⟨ad137, A137_0, c137_0, e137, hx137_0, hl137_0, hi137_0⟩ := at_L1 HR0.out x3_2 p137 q137
                                                obtain rfl : ad132 = ad137 := (by injection e137)
                                                have HR137_0 := Aside0.mk hi137_0
                                                have HC137_0 := Aside0.mk hl137_0
                                                clear hi137_0 hl137_0
                                                replace p137 := eq_true p137
                                                replace q137 := eq_true q137
                                                have ea_ := Option.some.inj (hx134_0.symm.trans hx137_0)
                                                injection ea_ with ea_ en_ ec_
                                                subst ea_
                                                subst ec_
                                                clear en_
                                                have p138 : 0 ≤ ((ji20) : Int) := of_decide_eq_true (by first | (with_reducible assumption) | assumption)
                                                have q138 : (ji20) < ((rd_L1 l0 x3_2).length : Int) := of_decide_eq_true (by first | (with_reducible assumption) | assumption)
                                                obtain ⟨ad138, e138, hx138_0⟩ := Kd.at_int HR137_0.out (ji20) p138 q138
                                                cases e138
                                                replace p138 := eq_true p138
                                                replace q138 := eq_true q138
                                                have p139 : 0 ≤ (x3_2 : Int) := of_decide_eq_true (by first | (with_reducible assumption) | assumption)
                                                have q139 : x3_2 < (l0.length : Int) := of_decide_eq_true (by first | (with_reducible assumption) | assumption)
                                                obtain ⟨ad139, A139_0, c139_0, e139, hx139_0, hl139_0, hi139_0⟩ := at_L1 HR0.out x3_2 p139 q139
                                                obtain rfl : ad132 = ad139 := (by injection e139)
                                                have HR139_0 := Aside0.mk hi139_0
                                                have HC139_0 := Aside0.mk hl139_0
                                                clear hi139_0 hl139_0
                                                replace p139 := eq_true p139
                                                replace q139 := eq_true q139
                                                have ea_ := Option.some.inj (hx134_0.symm.trans hx139_0)
                                                injection ea_ with ea_ en_ ec_
                                                subst ea_
                                                subst ec_
                                                clear en_
                                                have p140 : 0 ≤ (x4_4 : Int) := of_decide_eq_true (by first | (with_reducible assumption) | assumption)
                                                have q140 : x4_4 < ((rd_L1 l0 x3_2).length : Int) := of_decide_eq_true (by first | (with_reducible assumption) | assumption)
                                                obtain ⟨ad140, e140, hx140_0⟩ := Kd.at_int HR139_0.out x4_4 p140 q140
                                                cases e140
                                                replace p140 := eq_true p140
                                                replace q140 := eq_true q140
                                                go_wp2
                                                repeat (go_quiet (fail); try go_wp2)
                                                go_roundg k4
                                                case measure => have := HJ1.out; have := HK2.out; have := HJ5.out; have := HK4.out; omega
                                                case rel => exact ⟨(wrap64 (x4_4 + 1)), (by first | rfl | (simp; done) | (simp [*]; done)), H', ⟨by have := HJ1.out; have := HK2.out; have := HJ5.out; have := HK4.out; omega⟩, by repeat (first | exact Drawn0.refl _ | apply Drawn0.step)⟩
                                          · rw [if_neg c22] at H
                                            exact absurd H (by simp)
                                        · rw [if_neg c21] at H
                                          exact absurd H (by simp)
                                      · rw [if_neg c19] at H
                                        exact absurd H (by simp)
                                    · rw [if_neg c18] at H
                                      have c18b0 : decide (x4_4 < ((rd_L1 l0 x3_2).length : Int)) = false := decide_eq_false c18
                                      clear c18
                                      have H' := Aside0.mk H
                                      clear H
                                      have p134 : 0 ≤ (x3_2 : Int) := of_decide_eq_true (by first | (with_reducible assumption) | assumption)
                                      have q134 : x3_2 < (l0.length : Int) := of_decide_eq_true (by first | (with_reducible assumption) | assumption)
                                      obtain ⟨ad134, A134_0, c134_0, e134, hx134_0, hl134_0, hi134_0⟩ := at_L1 HR0.out x3_2 p134 q134
                                      obtain rfl : ad132 = ad134 := (by injection e134)
                                      have HR134_0 := Aside0.mk hi134_0
                                      have HC134_0 := Aside0.mk hl134_0
                                      clear hi134_0 hl134_0
                                      replace p134 := eq_true p134
                                      replace q134 := eq_true q134
                                      go_wp2
                                      repeat (go_quiet (fail); try go_wp2)
                                      go_roundg k4
                                      case measure => have := HJ1.out; have := HK2.out; have := HJ5.out; have := HK4.out; omega
                                      case rel => exact ⟨(wrap64 (x3_2 + 1)), (by first | rfl | (simp; done) | (simp [*]; done)), H', ⟨by have := HJ1.out; have := HK2.out; have := HJ5.out; have := HK4.out; omega⟩, by repeat (first | exact Drawn0.refl _ | apply Drawn0.step)⟩
                                  · rw [if_neg c17] at H
                                    exact absurd H (by simp)
                                · rw [if_neg c16] at H
                                  exact absurd H (by simp)
                          · rw [if_neg c15] at H
                            have c15b0 : ((rd (rd_L1 l0 x3_2) 0) == 0) = false := beq_eq_false_iff_ne.mpr c15
                            have c15b1 : ((rd (rd_L1 l0 x3_2) 0) != 0) = true := bne_iff_ne.mpr c15
                            obtain rfl := Option.some.inj H
                            have p132 : 0 ≤ (x3_2 : Int) := of_decide_eq_true (by first | (with_reducible assumption) | assumption)
                            have q132 : x3_2 < (l0.length : Int) := of_decide_eq_true (by first | (with_reducible assumption) | assumption)
                            obtain ⟨ad132, A132_0, c132_0, e132, hx132_0, hl132_0, hi132_0⟩ := at_L1 HR0.out x3_2 p132 q132
                            cases e132
                            have HR132_0 := Aside0.mk hi132_0
                            have HC132_0 := Aside0.mk hl132_0
                            clear hi132_0 hl132_0
                            replace p132 := eq_true p132
                            replace q132 := eq_true q132
                            have p133 : 0 ≤ (0 : Int) := (by omega)
                            have q133 : 0 < ((rd_L1 l0 x3_2).length : Int) := of_decide_eq_true (by first | (with_reducible assumption) | assumption)
                            obtain ⟨ad133, e133, hx133_0⟩ := Kd.at_int HR132_0.out 0 p133 q133
                            cases e133
                            have qi133 : (0 < (rd_L1 l0 x3_2).length) = True := eq_true (by omega)
                            (try rw [show ((0 : Int)).toNat = 0 from rfl] at hx133_0)
                            (try rw [Addr.add_zero'] at hx133_0)
                            replace p133 := eq_true p133
                            replace q133 := eq_true q133
                            go_wp2
                            repeat (go_quiet (fail); try go_wp2)
                            go_ret
                            exact ⟨by first | rfl | (simp; done) | (simp [*]; done), by repeat (first | exact Drawn0.refl _ | apply Drawn0.step)⟩
                        · rw [if_neg c14] at H
                          exact absurd H (by simp)
                      · rw [if_neg c13] at H
                        exact absurd H (by simp)
                    · rw [if_neg c12] at H
                      exact absurd H (by simp)
            · rw [if_neg c5] at H
              have c5b0 : decide (x3_2 < (l0.length : Int)) = false := decide_eq_false c5
              clear c5
              obtain rfl := Option.some.inj H
              go_wp2
              repeat (go_quiet (fail); try go_wp2)
              go_ret
              exact ⟨by first | rfl | (simp; done) | (simp [*]; done), by repeat (first | exact Drawn0.refl _ | apply Drawn0.step)⟩

end Go.Proofs.Ytjkaldnhfenbhaa.PSampleKeeps
