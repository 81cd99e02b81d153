/- The plain side of layer 22: how long a wait is. -/
import Derived.Test.YtkfcgmknoogliaaPBackoffWaitsx1
set_option linter.unusedVariables false
namespace Go.Proofs.Ytkfcgmknoogliaa.Backoff
open Go.RowKit Go.Proofs.YtkfcgmknoogliaaW.PrintWords Go.Proofs.YtkfcgmknoogliaaW.PrintLast Go.Proofs.Ytkfcgmknoogliaa.PBackoffWaits

/-- how long a wait is behind so many failures, without jitter -/
def longOf (b l : Int) : Nat → Int
  | 0 => b
  | n + 1 => if 2 * longOf b l n > l then l else 2 * longOf b l n
/-- with jitter -/
def waitOf (L j : Int) : Int := L - (if j < 0 then 0 else j) % (L / 2 + 1)

theorem longOf_bd (b l : Int) (h1 : 1 ≤ b) (h2 : b ≤ l) (n : Nat) : 1 ≤ longOf b l n ∧ longOf b l n ≤ l ∧ b ≤ longOf b l n := by
  induction n with
  | zero => exact ⟨h1, h2, Int.le_refl _⟩
  | succ n ih =>
    unfold longOf
    split <;> omega
theorem longOf_stays (b l : Int) (h1 : 1 ≤ b) (h2 : b ≤ l) (n m : Nat) (h : longOf b l n = l) : longOf b l (n + m) = l := by
  induction m with
  | zero => exact h
  | succ m ih =>
    rw [← Nat.add_assoc]
    unfold longOf
    rw [ih, if_pos (by omega)]
theorem longOf_grows (b l : Int) (h1 : 1 ≤ b) (h2 : b ≤ l) (n : Nat) : longOf b l n = l ∨ 2 ^ n ≤ longOf b l n := by
  induction n with
  | zero => right; show (1 : Int) ≤ b; exact h1
  | succ n ih =>
    unfold longOf
    split
    · left; rfl
    · right
      rcases ih with h | h
      · omega
      · rw [Int.pow_succ]; omega
theorem longOf_late (b l : Int) (h1 : 1 ≤ b) (h2 : b ≤ l) (h3 : l ≤ 1000000) (n : Nat) (hn : 40 ≤ n) : longOf b l n = l := by
  have h20 : longOf b l 20 = l := by
    rcases longOf_grows b l h1 h2 20 with h | h
    · exact h
    · have := (longOf_bd b l h1 h2 20).2.1
      rw [show (2 : Int) ^ 20 = 1048576 from rfl] at h
      omega
  obtain ⟨m, rfl⟩ : ∃ m, n = 20 + m := ⟨n - 20, by omega⟩
  exact longOf_stays b l h1 h2 20 m h20

theorem wait_bd (L j : Int) (h1 : 1 ≤ L) : 1 ≤ waitOf L j ∧ waitOf L j ≤ L ∧ L ≤ 2 * waitOf L j := by
  unfold waitOf
  have := Int.emod_nonneg (if j < 0 then 0 else j) (show L / 2 + 1 ≠ 0 by omega)
  have := Int.emod_lt_of_pos (if j < 0 then 0 else j) (show 0 < L / 2 + 1 by omega)
  omega
theorem wait_none (L : Int) : waitOf L 0 = L := by simp [waitOf]

/-- the program's last line -/
theorem last_eq (L j : Int) (h1 : 1 ≤ L) (h2 : L ≤ 1000000) : wrap64 (L - ((mx j 0) % (wrap64 ((wrap64 (Int.tdiv L 2)) + 1)))) = waitOf L j := by
  have e1 : wrap64 (Int.tdiv L 2) = L / 2 := by rw [Int.tdiv_eq_ediv_of_nonneg (by omega)]; unfold wrap64; omega
  have e2 : wrap64 (L / 2 + 1) = L / 2 + 1 := by unfold wrap64; omega
  have e3 : mx j 0 = if j < 0 then 0 else j := by unfold mx; split <;> omega
  have hb := wait_bd L j h1
  rw [e1, e2, e3]
  unfold waitOf at hb ⊢
  generalize (if j < 0 then 0 else j) % (L / 2 + 1) = q at *
  unfold wrap64
  omega
theorem half_ne (L : Int) (h1 : 1 ≤ L) (h2 : L ≤ 1000000) : ¬ wrap64 ((wrap64 (Int.tdiv L 2)) + 1) = 0 := by
  have e1 : wrap64 (Int.tdiv L 2) = L / 2 := by rw [Int.tdiv_eq_ediv_of_nonneg (by omega)]; unfold wrap64; omega
  have e2 : wrap64 (L / 2 + 1) = L / 2 + 1 := by unfold wrap64; omega
  rw [e1, e2]
  omega

theorem fail_step (k : Nat) (x1 x5 x6 x1000 x1001 x1002 : Int) : backoff_Wait_Fail.l0 (k + 1) x1 x5 x6 x1000 x1001 x1002 =
    if x6 < x1002 then (if x5 < x1001 then (backoff_Wait_Fail.l0 k x1 (wrap64 (x5 * 2)) (wrap64 (x6 + 1)) x1000 x1001 x1002) else (if (wrap64 ((wrap64 (Int.tdiv (mn x5 x1001) 2)) + 1)) = 0 then (none) else (some (wrap64 ((mn x5 x1001) - ((mx x1 0) % (wrap64 ((wrap64 (Int.tdiv (mn x5 x1001) 2)) + 1)))), x1000, x1001, wrap64 (x1002 + 1))))) else (if (wrap64 ((wrap64 (Int.tdiv (mn x5 x1001) 2)) + 1)) = 0 then (none) else (some (wrap64 ((mn x5 x1001) - ((mx x1 0) % (wrap64 ((wrap64 (Int.tdiv (mn x5 x1001) 2)) + 1)))), x1000, x1001, wrap64 (x1002 + 1)))) := rfl

theorem fail_from (b l j : Int) (n : Nat) (h1 : 1 ≤ b) (h2 : b ≤ l) (h3 : l ≤ 1000000) (hn : n ≤ 1000) (d : Nat) : ∀ (k i : Nat) (x : Int), d < k → i ≤ n → n - i = d → 1 ≤ x → x ≤ 2000000 → mn x l = longOf b l i →
    backoff_Wait_Fail.l0 k j x (i : Int) b l (n : Int) = some (waitOf (longOf b l n) j, b, l, (n : Int) + 1) := by
  have hw : wrap64 ((n : Int) + 1) = (n : Int) + 1 := by unfold wrap64; omega
  induction d with
  | zero =>
    intro k i x hk hi hd hx1 hx2 hm
    obtain ⟨k, rfl⟩ : ∃ m, k = m + 1 := ⟨k - 1, by omega⟩
    obtain rfl : i = n := by omega
    have hb := longOf_bd b l h1 h2 i
    rw [fail_step, if_neg (by omega), hm, if_neg (half_ne _ hb.1 (by omega)), last_eq _ _ hb.1 (by omega), hw]
  | succ d ih =>
    intro k i x hk hi hd hx1 hx2 hm
    obtain ⟨k, rfl⟩ : ∃ m, k = m + 1 := ⟨k - 1, by omega⟩
    have hb := longOf_bd b l h1 h2 i
    rw [fail_step, if_pos (by omega)]
    by_cases hc : x < l
    · have hx : x = longOf b l i := by rw [← hm]; unfold mn; split <;> omega
      rw [if_pos hc, show wrap64 (x * 2) = x * 2 by unfold wrap64; omega, show wrap64 ((i : Int) + 1) = ((i + 1 : Nat) : Int) by unfold wrap64; omega]
      refine ih k (i + 1) (x * 2) (by omega) (by omega) (by omega) (by omega) (by omega) ?_
      unfold mn longOf
      rw [← hx]
      split <;> split <;> omega
    · have hl : longOf b l i = l := by rw [← hm]; unfold mn; split <;> omega
      have hln : longOf b l n = l := by
        have := longOf_stays b l h1 h2 i (n - i) hl
        rwa [show i + (n - i) = n by omega] at this
      rw [if_neg hc, hm, hl, if_neg (half_ne _ (by omega) (by omega)), last_eq _ _ (by omega) (by omega), hw, hln]

theorem fail_eq (b l j : Int) (n : Nat) (h1 : 1 ≤ b) (h2 : b ≤ l) (h3 : l ≤ 1000000) (hn : n ≤ 1000) :
    backoff_Wait_Fail.f (n + 1) b l (n : Int) j = some (waitOf (longOf b l n) j, b, l, (n : Int) + 1) :=
  fail_from b l j n h1 h2 h3 hn n (n + 1) 0 b (by omega) (by omega) (by omega) h1 (by omega) (by unfold mn longOf; split <;> omega)

/-- the document's last lines -/
theorem ref_last (L j : Int) (h1 : 1 ≤ L) (h2 : L ≤ 1000000) (n : Nat) (b l : Int) (hn : n ≤ 1000) :
    (if j < 0 then (if (wrap64 ((wrap64 (Int.tdiv L 2)) + 1)) = 0 then (none) else (some (wrap64 (L - ((0 : Int) % (wrap64 ((wrap64 (Int.tdiv L 2)) + 1)))), b, l, wrap64 ((n : Int) + 1)))) else (if (wrap64 ((wrap64 (Int.tdiv L 2)) + 1)) = 0 then (none) else (some (wrap64 (L - (Int.tmod j (wrap64 ((wrap64 (Int.tdiv L 2)) + 1)))), b, l, wrap64 ((n : Int) + 1))))) = some (waitOf L j, b, l, (n : Int) + 1) := by
  have e1 : wrap64 (Int.tdiv L 2) = L / 2 := by rw [Int.tdiv_eq_ediv_of_nonneg (by omega)]; unfold wrap64; omega
  have e2 : wrap64 (L / 2 + 1) = L / 2 + 1 := by unfold wrap64; omega
  have hw : wrap64 ((n : Int) + 1) = (n : Int) + 1 := by unfold wrap64; omega
  have hb := wait_bd L j h1
  rw [e1, e2, hw]
  by_cases hj : j < 0
  · rw [if_pos hj, if_neg (by omega)]
    have : wrap64 (L - (0 : Int) % (L / 2 + 1)) = waitOf L j := by
      unfold waitOf; rw [if_pos hj]; simp only [Int.zero_emod]; unfold wrap64; omega
    rw [this]
  · rw [if_neg hj, if_neg (by omega)]
    have : wrap64 (L - Int.tmod j (L / 2 + 1)) = waitOf L j := by
      rw [Int.tmod_eq_emod_of_nonneg (by omega)]
      unfold waitOf at hb ⊢; rw [if_neg hj] at hb ⊢
      generalize j % (L / 2 + 1) = q at *
      unfold wrap64; omega
    rw [this]

theorem ref_step (k : Nat) (x1 x5 x6 x1000 x1001 x1002 : Int) : nogginref22_Wait_Fail.l0 (k + 1) x1 x5 x6 x1000 x1001 x1002 =
    if x6 < x1002 then (nogginref22_Wait_Fail.j1 k x1 x5 x6 (decide (x6 < 40)) x1000 x1001 x1002) else (nogginref22_Wait_Fail.j1 k x1 x5 x6 false x1000 x1001 x1002) := by rw [nogginref22_Wait_Fail.l0]
theorem ref_join (k : Nat) (x1 x5 x6 : Int) (x20 : Bool) (x1000 x1001 x1002 : Int) : nogginref22_Wait_Fail.j1 (k + 1) x1 x5 x6 x20 x1000 x1001 x1002 =
    if x20 = true then (if (wrap64 (x5 * 2)) > x1001 then (nogginref22_Wait_Fail.l0 k x1 x1001 (wrap64 (x6 + 1)) x1000 x1001 x1002) else (nogginref22_Wait_Fail.l0 k x1 (wrap64 (x5 * 2)) (wrap64 (x6 + 1)) x1000 x1001 x1002)) else (if x1 < 0 then (if (wrap64 ((wrap64 (Int.tdiv x5 2)) + 1)) = 0 then (none) else (some (wrap64 (x5 - ((0 : Int) % (wrap64 ((wrap64 (Int.tdiv x5 2)) + 1)))), x1000, x1001, wrap64 (x1002 + 1)))) else (if (wrap64 ((wrap64 (Int.tdiv x5 2)) + 1)) = 0 then (none) else (some (wrap64 (x5 - (Int.tmod x1 (wrap64 ((wrap64 (Int.tdiv x5 2)) + 1)))), x1000, x1001, wrap64 (x1002 + 1))))) := by rw [nogginref22_Wait_Fail.j1]

theorem ref_from (b l j : Int) (n : Nat) (h1 : 1 ≤ b) (h2 : b ≤ l) (h3 : l ≤ 1000000) (hn : n ≤ 1000) (d : Nat) : ∀ (k i : Nat), 2 * d + 1 < k → i ≤ n → i ≤ 40 → n - i = d →
    nogginref22_Wait_Fail.l0 k j (longOf b l i) (i : Int) b l (n : Int) = some (waitOf (longOf b l n) j, b, l, (n : Int) + 1) := by
  induction d with
  | zero =>
    intro k i hk hi hf hd
    obtain ⟨k, rfl⟩ : ∃ m, k = m + 2 := ⟨k - 2, by omega⟩
    obtain rfl : i = n := by omega
    have hb := longOf_bd b l h1 h2 i
    rw [ref_step, if_neg (by omega), ref_join, if_neg (by decide), ref_last _ _ hb.1 (by omega) i b l hn]
  | succ d ih =>
    intro k i hk hi hf hd
    obtain ⟨k, rfl⟩ : ∃ m, k = m + 2 := ⟨k - 2, by omega⟩
    have hb := longOf_bd b l h1 h2 i
    rw [ref_step, if_pos (by omega)]
    by_cases h40 : i < 40
    · rw [decide_eq_true (by omega : (i : Int) < 40), ref_join, if_pos rfl, show wrap64 ((i : Int) + 1) = ((i + 1 : Nat) : Int) by unfold wrap64; omega,
        show wrap64 (longOf b l i * 2) = 2 * longOf b l i by unfold wrap64; omega]
      have := ih k (i + 1) (by omega) (by omega) (by omega) (by omega)
      rw [longOf] at this
      by_cases hc : 2 * longOf b l i > l
      · rw [if_pos hc] at this ⊢; exact this
      · rw [if_neg hc] at this ⊢; exact this
    · rw [decide_eq_false (by omega : ¬ (i : Int) < 40), ref_join, if_neg (by decide), ref_last _ _ hb.1 (by omega) n b l hn, longOf_late b l h1 h2 h3 i (by omega), longOf_late b l h1 h2 h3 n (by omega)]

theorem ref_eq (b l j : Int) (n : Nat) (h1 : 1 ≤ b) (h2 : b ≤ l) (h3 : l ≤ 1000000) (hn : n ≤ 1000) :
    nogginref22_Wait_Fail.f (2 * n + 2) b l (n : Int) j = some (waitOf (longOf b l n) j, b, l, (n : Int) + 1) :=
  ref_from b l j n h1 h2 h3 hn n (2 * n + 2) 0 (by omega) (by omega) (by omega) (by omega)
end Go.Proofs.Ytkfcgmknoogliaa.Backoff
