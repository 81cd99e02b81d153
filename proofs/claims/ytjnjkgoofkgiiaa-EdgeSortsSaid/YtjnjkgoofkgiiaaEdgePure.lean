/- Layer 2's plain side: the order of floats by their bits. -/
import Derived.WalkKit
set_option linter.unusedVariables false
set_option linter.unusedSimpArgs false
namespace Go.Proofs.Ytjnjkgoofkgiiaa.Edge
open Go Ieee
abbrev ord (x y : Nat) : Option Ordering := FloatKind.f64.format.order x y
def sg (x : Nat) : Bool := x / 9223372036854775808 % 2 == 1
def rg (x : Nat) : Nat := x % 9223372036854775808
def inf : Nat := 9218868437227405312
def key (x : Nat) : Int := if sg x then -(rg x : Int) else rg x
/-- a rung's magnitude in least places -/
def mg (r : Nat) : Nat := if r < 4503599627370496 then r else (4503599627370496 + r % 4503599627370496) * 2 ^ (r / 4503599627370496 - 1)
theorem mg_lt {r s : Nat} (h : r < s) : mg r < mg s := by
  unfold mg
  by_cases h1 : s < 4503599627370496
  · rw [if_pos h1, if_pos (by omega)]; exact h
  · rw [if_neg h1]
    have hp : 1 ≤ 2 ^ (s / 4503599627370496 - 1) := Nat.one_le_two_pow
    have hm := Nat.mul_le_mul_left (4503599627370496 + s % 4503599627370496) hp
    by_cases h2 : r < 4503599627370496
    · rw [if_pos h2]; omega
    · rw [if_neg h2]
      by_cases hq : r / 4503599627370496 = s / 4503599627370496
      · rw [hq]
        exact Nat.mul_lt_mul_of_pos_right (by omega) (by omega)
      · have hq2 : r / 4503599627370496 < s / 4503599627370496 := by omega
        have e1 : (4503599627370496 + r % 4503599627370496) * 2 ^ (r / 4503599627370496 - 1) < 9007199254740992 * 2 ^ (r / 4503599627370496 - 1) :=
          Nat.mul_lt_mul_of_pos_right (by omega) (Nat.lt_of_lt_of_le Nat.zero_lt_one Nat.one_le_two_pow)
        have e2 : 9007199254740992 * 2 ^ (r / 4503599627370496 - 1) ≤ 4503599627370496 * 2 ^ (s / 4503599627370496 - 1) := by
          have e3 : s / 4503599627370496 - 1 = (r / 4503599627370496 - 1) + 1 + (s / 4503599627370496 - r / 4503599627370496 - 1) := by omega
          rw [e3, Nat.pow_add, Nat.pow_add]
          have e4 : 1 ≤ 2 ^ (s / 4503599627370496 - r / 4503599627370496 - 1) := Nat.one_le_two_pow
          have e5 := Nat.mul_le_mul_left (4503599627370496 * (2 ^ (r / 4503599627370496 - 1) * 2 ^ 1)) e4
          rw [← Nat.mul_assoc]
          omega
        have e6 := Nat.mul_le_mul_right (2 ^ (s / 4503599627370496 - 1)) (show 4503599627370496 ≤ 4503599627370496 + s % 4503599627370496 by omega)
        omega
theorem read_def (x : Nat) : double.read x = if rg x < 4503599627370496 then .number (sg x) (rg x) (-1074) else if rg x < inf then .number (sg x) (4503599627370496 + rg x % 4503599627370496) (-1074 + (rg x / 4503599627370496 - 1 : Nat)) else if rg x = inf then .infinity (sg x) else .nan (sg x) (rg x - inf) := rfl
theorem read_num {x : Nat} (h : rg x < inf) : ∃ m p : Nat, double.read x = .number (sg x) m (-1074 + (p : Int)) ∧ mg (rg x) = m * 2 ^ p := by
  rw [read_def]
  by_cases h1 : rg x < 4503599627370496
  · exact ⟨rg x, 0, by rw [if_pos h1]; rfl, by unfold mg; rw [if_pos h1]; omega⟩
  · exact ⟨4503599627370496 + rg x % 4503599627370496, rg x / 4503599627370496 - 1, by rw [if_neg h1, if_pos h], by unfold mg; rw [if_neg h1]⟩
theorem read_inf {x : Nat} (h : rg x = inf) : double.read x = .infinity (sg x) := by
  rw [read_def, if_neg (by rw [h]; decide), if_neg (by omega), if_pos h]
theorem read_nan {x : Nat} (h : inf < rg x) : ∃ f, double.read x = .nan (sg x) f := by
  refine ⟨rg x - inf, ?_⟩
  rw [read_def, if_neg (by unfold inf at h; omega), if_neg (by omega), if_neg (by omega)]
theorem cmp_congr {a b c d : Int} (h1 : a < b ↔ c < d) (h2 : a = b ↔ c = d) : compare a b = compare c d := by
  show compareOfLessAndEq a b = compareOfLessAndEq c d
  unfold compareOfLessAndEq
  simp only [h1, h2]
theorem signed_eq (s : Bool) (m k : Nat) : signed s m k = if s then -((m * 2 ^ k : Nat) : Int) else ((m * 2 ^ k : Nat) : Int) := by
  unfold signed
  rw [Nat.shiftLeft_eq]
theorem signed_cmp (s t : Bool) (A B r q : Nat) (hl : r < q → A < B) (hg : q < r → B < A) (he : r = q → A = B) (h1 : r = 0 → A = 0) (h2 : q = 0 → B = 0) (h3 : 0 < r → 0 < A) (h4 : 0 < q → 0 < B) :
    compare (if s then -(A : Int) else (A : Int)) (if t then -(B : Int) else (B : Int)) = compare (if s then -(r : Int) else (r : Int)) (if t then -(q : Int) else (q : Int)) := by
  rcases Nat.lt_trichotomy r q with h | h | h
  · have := hl h
    apply cmp_congr <;> cases s <;> cases t <;> simp only [if_true, if_false, Bool.false_eq_true] <;> omega
  · have := he h
    apply cmp_congr <;> cases s <;> cases t <;> simp only [if_true, if_false, Bool.false_eq_true] <;> omega
  · have := hg h
    apply cmp_congr <;> cases s <;> cases t <;> simp only [if_true, if_false, Bool.false_eq_true] <;> omega
theorem ord_nan_l {x y : Nat} (h : inf < rg x) : ord x y = none := by
  obtain ⟨f, hf⟩ := read_nan h
  show (double.read x).order (double.read y) = none
  rw [hf]
  rfl
theorem ord_nan_r {x y : Nat} (h : inf < rg y) : ord x y = none := by
  obtain ⟨f, hf⟩ := read_nan h
  show (double.read x).order (double.read y) = none
  rw [hf]
  cases double.read x <;> rfl
theorem pos_pow (a k : Nat) (h : 0 < a) : 0 < a * 2 ^ k := Nat.mul_pos h (Nat.lt_of_lt_of_le Nat.zero_lt_one Nat.one_le_two_pow)
theorem ord_eq {x y : Nat} (hx : rg x ≤ inf) (hy : rg y ≤ inf) : ord x y = some (compare (key x) (key y)) := by
  show (double.read x).order (double.read y) = _
  by_cases h1 : rg x = inf
  · rw [read_inf h1]
    by_cases h2 : rg y = inf
    · rw [read_inf h2]
      simp only [Datum.order, key, h1, h2]
      cases sg x <;> cases sg y <;> decide
    · obtain ⟨m, p, hr, _⟩ := read_num (x := y) (by omega)
      rw [hr]
      simp only [Datum.order, key, h1]
      congr 1
      have hi : 0 < inf := by decide
      cases sg x <;> cases sg y <;> simp only [if_true, if_false, Bool.false_eq_true] <;> symm
      all_goals show compareOfLessAndEq _ _ = _
      all_goals unfold compareOfLessAndEq
      · rw [if_neg (by omega), if_neg (by omega)]
      · rw [if_neg (by omega), if_neg (by omega)]
      · rw [if_pos (by omega)]
      · rw [if_pos (by omega)]
  · obtain ⟨m, p, hr, hm⟩ := read_num (x := x) (by omega)
    rw [hr]
    by_cases h2 : rg y = inf
    · rw [read_inf h2]
      simp only [Datum.order, key, h2]
      congr 1
      have hi : 0 < inf := by decide
      cases sg x <;> cases sg y <;> simp only [if_true, if_false, Bool.false_eq_true] <;> symm
      all_goals show compareOfLessAndEq _ _ = _
      all_goals unfold compareOfLessAndEq
      · rw [if_pos (by omega)]
      · rw [if_neg (by omega), if_neg (by omega)]
      · rw [if_pos (by omega)]
      · rw [if_neg (by omega), if_neg (by omega)]
    · obtain ⟨n, q, hs, hn⟩ := read_num (x := y) (by omega)
      rw [hs]
      simp only [Datum.order, key, signed_eq]
      congr 1
      have e1 : ((-1074 + (p : Int)) - min (-1074 + (p : Int)) (-1074 + (q : Int))).toNat = p - min p q := by omega
      have e2 : ((-1074 + (q : Int)) - min (-1074 + (p : Int)) (-1074 + (q : Int))).toNat = q - min p q := by omega
      rw [e1, e2]
      have fx : mg (rg x) = (m * 2 ^ (p - min p q)) * 2 ^ min p q := by rw [hm, Nat.mul_assoc, ← Nat.pow_add]; congr 2; omega
      have fy : mg (rg y) = (n * 2 ^ (q - min p q)) * 2 ^ min p q := by rw [hn, Nat.mul_assoc, ← Nat.pow_add]; congr 2; omega
      generalize m * 2 ^ (p - min p q) = A at *
      generalize n * 2 ^ (q - min p q) = B at *
      generalize min p q = c at *
      have hpos : 0 < 2 ^ c := Nat.lt_of_lt_of_le Nat.zero_lt_one Nat.one_le_two_pow
      have z0 : mg 0 = 0 := by decide
      have lt_of : ∀ a b : Nat, a * 2 ^ c < b * 2 ^ c → a < b := fun a b h => Nat.lt_of_mul_lt_mul_right h
      refine signed_cmp (sg x) (sg y) A B (rg x) (rg y) (fun h => ?_) (fun h => ?_) (fun h => ?_) (fun h => ?_) (fun h => ?_) (fun h => ?_) (fun h => ?_)
      · exact lt_of _ _ (by rw [← fx, ← fy]; exact mg_lt h)
      · exact lt_of _ _ (by rw [← fx, ← fy]; exact mg_lt h)
      · rw [h, fy] at fx
        exact (Nat.eq_of_mul_eq_mul_right hpos fx).symm
      · rw [h, z0] at fx
        rcases Nat.mul_eq_zero.1 fx.symm with h3 | h3 <;> omega
      · rw [h, z0] at fy
        rcases Nat.mul_eq_zero.1 fy.symm with h3 | h3 <;> omega
      · exact lt_of 0 _ (by rw [← fx, Nat.zero_mul, ← z0]; exact mg_lt h)
      · exact lt_of 0 _ (by rw [← fy, Nat.zero_mul, ← z0]; exact mg_lt h)
end Go.Proofs.Ytjnjkgoofkgiiaa.Edge
