/- The plain side of layer 11: the root of a number, and a pause. -/
import Derived.Test.YtjkaldnhfenbhaaPDelayLawx1
import Derived.Laws.BitsAllLaws
import Derived.IntWalk
set_option linter.unusedVariables false
namespace Go.Proofs.Ytjkaldnhfenbhaa.Delay
open Go.RowKit Go.Proofs.YtjkaldnhfenbhaaW.PrintWords Go.Proofs.YtjkaldnhfenbhaaW.PrintLast Go.Proofs.Ytjkaldnhfenbhaa.PDelayLaw

/-- r is the root of n, as far as 32 bits go -/
def Root (n r : Int) : Prop := 0 ≤ r ∧ r ≤ 4294967295 ∧ r * r ≤ n ∧ (r < 4294967295 → n < (r + 1) * (r + 1))

theorem or_at (m q : Nat) (h : 2 ^ (m + 1) * q + 2 ^ m < 18446744073709551616) : Go.bits .or .u64 ((2 ^ (m + 1) * q : Nat) : Int) ((2 ^ m : Nat) : Int) = ((2 ^ (m + 1) * q + 2 ^ m : Nat) : Int) := by
  rw [u64_or_nat _ _ (Nat.lt_of_le_of_lt (Nat.le_add_right _ _) h) (Nat.lt_of_le_of_lt (Nat.le_add_left _ _) h), Nat.two_pow_add_eq_or_of_lt (Nat.pow_lt_pow_right (by omega) (by omega))]

theorem sq_in (X : Nat) (h : X < 4294967296) : IntKind.u64.wrap ((X : Int) * (X : Int)) = (X : Int) * (X : Int) := by
  refine IntWalk.u64_in _ ⟨Int.mul_nonneg (by omega) (by omega), ?_⟩
  have h1 : (X : Int) * (X : Int) ≤ 4294967295 * 4294967295 := Int.mul_le_mul (by omega) (by omega) (by omega) (by omega)
  omega
theorem root_l (n : Int) (hn : n < 18446744073709551616) : ∀ (m q : Nat), 2 ^ m * q + 2 ^ m ≤ 4294967296 → ((2 ^ m * q * (2 ^ m * q) : Nat) : Int) ≤ n → (n < (((2 ^ m * q + 2 ^ m) * (2 ^ m * q + 2 ^ m) : Nat) : Int) ∨ 2 ^ m * q + 2 ^ m = 4294967296) →
    ∃ r, delay_Root.l0 (m + 1) n ((2 ^ m * q : Nat) : Int) ((2 ^ m / 2 : Nat) : Int) = some r ∧ Root n r := by
  intro m
  induction m with
  | zero =>
    intro q h1 h2 h3
    refine ⟨((2 ^ 0 * q : Nat) : Int), ?_, ?_⟩
    · rw [delay_Root.l0, if_neg (by simp)]
    · simp only [Nat.pow_zero, Nat.one_mul] at h1 h2 h3 ⊢
      refine ⟨by omega, by omega, by simpa using h2, fun h => ?_⟩
      rcases h3 with h3 | h3
      · simpa using h3
      · omega
  | succ m ih =>
    intro q h1 h2 h3
    have hp : 0 < 2 ^ m := Nat.pow_pos (by omega)
    have e2 : 2 ^ (m + 1) = 2 * 2 ^ m := by rw [Nat.pow_succ]; omega
    have e3 : 2 ^ (m + 1) / 2 = 2 ^ m := by omega
    have hlt : 2 ^ (m + 1) * q + 2 ^ m < 4294967296 := by omega
    have ex : 2 ^ (m + 1) * q + 2 ^ m = 2 ^ m * (2 * q + 1) := by rw [e2, Nat.mul_add, Nat.mul_one, Nat.mul_left_comm, Nat.mul_assoc]
    have ey : 2 ^ (m + 1) * q = 2 ^ m * (2 * q) := by rw [e2, Nat.mul_left_comm, Nat.mul_assoc]
    rw [delay_Root.l0, e3, if_pos (show ((2 ^ m : Nat) : Int) > 0 by omega), or_at m q (by omega), sq_in _ hlt]
    have eb : ((2 ^ m : Nat) : Int) / 2 = ((2 ^ m / 2 : Nat) : Int) := by omega
    rw [eb]
    by_cases c : ((2 ^ (m + 1) * q + 2 ^ m : Nat) : Int) * ((2 ^ (m + 1) * q + 2 ^ m : Nat) : Int) ≤ n
    · rw [if_pos c, ex]
      refine ih (2 * q + 1) (by rw [← ex]; omega) (by rw [← ex, Int.natCast_mul]; exact c) ?_
      rw [← ex]
      rw [show 2 ^ (m + 1) * q + 2 ^ m + 2 ^ m = 2 ^ (m + 1) * q + 2 ^ (m + 1) by omega]
      exact h3
    · rw [if_neg c, ey]
      refine ih (2 * q) (by rw [← ey]; omega) (by rw [← ey]; exact h2) (.inl ?_)
      rw [← ey, Int.natCast_mul]
      omega

theorem root_f (n : Int) (h0 : 0 ≤ n) (hn : n < 18446744073709551616) : ∃ r, delay_Root.f 33 n = some r ∧ Root n r := by
  have := root_l n hn 32 0 (by decide) (by simpa using h0) (.inr (by decide))
  simpa [delay_Root.f] using this
theorem root_le {n m r s : Int} (hr : Root n r) (hs : Root m s) (h : n ≤ m) : r ≤ s := by
  obtain ⟨a1, a2, a3, a4⟩ := hr
  obtain ⟨b1, b2, b3, b4⟩ := hs
  by_cases c : r ≤ s
  · exact c
  · exfalso
    have h1 := b4 (by omega)
    have h2 : (s + 1) * (s + 1) ≤ r * r := Int.mul_le_mul (by omega) (by omega) (by omega) (by omega)
    omega
theorem root_of {n r s : Int} (hr : Root n r) (h0 : 0 ≤ s) (h : s * s = n) (hs : s ≤ 4294967295) : r = s := by
  obtain ⟨a1, a2, a3, a4⟩ := hr
  by_cases c : r < s
  · have h1 := a4 (by omega)
    have h2 : (r + 1) * (r + 1) ≤ s * s := Int.mul_le_mul (by omega) (by omega) (by omega) (by omega)
    omega
  · by_cases c2 : s < r
    · have h2 : (s + 1) * (s + 1) ≤ r * r := Int.mul_le_mul (by omega) (by omega) (by omega) (by omega)
      have h3 : (s + 1) * (s + 1) = s * s + 2 * s + 1 := by rw [Int.add_mul, Int.mul_add]; omega
      omega
    · omega

/-- a pause: it is so for a root that is so -/
def Paused (iv c p : Int) : Prop := if 1 ≤ iv ∧ iv ≤ 1000000 ∧ 1 ≤ c ∧ c ≤ 1000000 then ∃ r, Root (c * 1024 * 1024) r ∧ 1 ≤ r ∧ p = iv * 1024 / r else p = 0
theorem pause_f (iv c : Int) : ∃ p, delay_Pause.f 33 iv c = some p ∧ Paused iv c p := by
  unfold delay_Pause.f Paused
  by_cases h1 : iv < 1
  · exact ⟨0, by rw [if_pos h1], by rw [if_neg (by omega)]⟩
  · by_cases h2 : 1000000 < iv
    · exact ⟨0, by rw [if_neg h1, if_pos h2], by rw [if_neg (by omega)]⟩
    · by_cases h3 : c < 1
      · exact ⟨0, by rw [if_neg h1, if_neg h2, if_pos h3], by rw [if_neg (by omega)]⟩
      · by_cases h4 : 1000000 < c
        · exact ⟨0, by rw [if_neg h1, if_neg h2, if_neg h3, if_pos h4], by rw [if_neg (by omega)]⟩
        · obtain ⟨r, hr, hR⟩ := root_f (c * 1024 * 1024) (by omega) (by omega)
          have hr1 : 1 ≤ r := by
            obtain ⟨a1, a2, a3, a4⟩ := hR
            by_cases c0 : r = 0
            · subst c0
              have := a4 (by omega)
              omega
            · omega
          refine ⟨iv * 1024 / r, ?_, by rw [if_pos (by omega)]; exact ⟨r, hR, hr1, rfl⟩⟩
          have hr2 := hR.2.1
          have hd1 : 0 ≤ iv * 1024 / r := Int.ediv_nonneg (by omega) (by omega)
          have hd2 : iv * 1024 / r ≤ iv * 1024 := Int.ediv_le_self _ (by omega)
          have w1 : wrap64 r = r := by unfold wrap64; omega
          have w2 : wrap64 (iv * 1024) = iv * 1024 := by unfold wrap64; omega
          rw [if_neg h1, if_neg h2, if_neg h3, if_neg h4, IntWalk.u64_in c (by omega), IntWalk.u64_in (c * 1024) (by omega), IntWalk.u64_in (c * 1024 * 1024) (by omega), hr, Option.bind_some, w1, w2, if_neg (by omega), Int.tdiv_eq_ediv_of_nonneg (by omega)]
          have w3 : wrap64 (iv * 1024 / r) = iv * 1024 / r := by
            generalize iv * 1024 / r = z at hd1 hd2
            unfold wrap64
            omega
          rw [w3]
theorem pause_mono {iv c p q : Int} (hc : 1 ≤ c) (hc2 : c < 1000000) (hp : Paused iv c p) (hq : Paused iv (c + 1) q) : q ≤ p := by
  unfold Paused at hp hq
  by_cases h : 1 ≤ iv ∧ iv ≤ 1000000
  · rw [if_pos (by omega)] at hp hq
    obtain ⟨r, hr, r1, rfl⟩ := hp
    obtain ⟨s, hs, s1, rfl⟩ := hq
    have hrs := root_le hr hs (by omega)
    rw [Int.le_ediv_iff_mul_le (by omega)]
    have h1 : iv * 1024 / s * r ≤ iv * 1024 / s * s := Int.mul_le_mul_of_nonneg_left hrs (Int.ediv_nonneg (by omega) (by omega))
    have h2 : iv * 1024 / s * s ≤ iv * 1024 := Int.ediv_mul_le _ (by omega)
    omega
  · rw [if_neg (by omega)] at hp hq
    omega
theorem pause_one {iv p : Int} (h : 1 ≤ iv ∧ iv ≤ 1000000) (hp : Paused iv 1 p) : p = iv := by
  unfold Paused at hp
  rw [if_pos (by omega)] at hp
  obtain ⟨r, hr, r1, rfl⟩ := hp
  obtain rfl := root_of hr (s := 1024) (by omega) (by omega) (by omega)
  omega
theorem pause_nonneg {iv c p : Int} (hp : Paused iv c p) : 0 ≤ p ∧ p ≤ 1024000000 := by
  unfold Paused at hp
  by_cases h : 1 ≤ iv ∧ iv ≤ 1000000 ∧ 1 ≤ c ∧ c ≤ 1000000
  · rw [if_pos h] at hp
    obtain ⟨r, hr, r1, rfl⟩ := hp
    have hd1 : 0 ≤ iv * 1024 / r := Int.ediv_nonneg (by omega) (by omega)
    have hd2 : iv * 1024 / r ≤ iv * 1024 := Int.ediv_le_self _ (by omega)
    omega
  · rw [if_neg h] at hp
    omega
end Go.Proofs.Ytjkaldnhfenbhaa.Delay
