/- Layer 2's plain side: ranks. -/
import Derived.Test.YtjnjkgoofkgiiaaEdgePure
set_option linter.unusedVariables false
set_option linter.unusedSimpArgs false
namespace Go.Proofs.Ytjnjkgoofkgiiaa.Edge
open Go Ieee
def nanB (x : Nat) : Bool := decide (inf < rg x)
def ltB (x y : Nat) : Bool := !nanB x && (!nanB y && decide (key x < key y))
theorem cmp_lt (a b : Int) : (some (compare a b) == some Ordering.lt) = decide (a < b) := by
  show (some (compareOfLessAndEq a b) == some Ordering.lt) = _
  unfold compareOfLessAndEq
  by_cases h : a < b
  · rw [if_pos h, decide_eq_true h]; rfl
  · rw [if_neg h, decide_eq_false h]
    split <;> rfl
theorem cmp_eq (a b : Int) : (some (compare a b) == some Ordering.eq) = decide (a = b) := by
  show (some (compareOfLessAndEq a b) == some Ordering.eq) = _
  unfold compareOfLessAndEq
  by_cases h : a < b
  · rw [if_pos h, decide_eq_false (by omega)]; rfl
  · rw [if_neg h]
    by_cases h2 : a = b
    · rw [if_pos h2, decide_eq_true h2]; rfl
    · rw [if_neg h2, decide_eq_false h2]; rfl
theorem nan_ord (x : Nat) : (ord x x != some Ordering.eq) = nanB x := by
  unfold nanB
  by_cases h : inf < rg x
  · rw [ord_nan_l h, decide_eq_true h]; rfl
  · rw [ord_eq (by omega) (by omega), decide_eq_false h, bne, cmp_eq, decide_eq_true rfl]; rfl
theorem lt_ord (x y : Nat) : (ord x y == some Ordering.lt) = ltB x y := by
  unfold ltB nanB
  by_cases h : inf < rg x
  · rw [ord_nan_l h, decide_eq_true h]; rfl
  · by_cases h2 : inf < rg y
    · rw [ord_nan_r h2, decide_eq_true h2, decide_eq_false h]; rfl
    · rw [ord_eq (by omega) (by omega), cmp_lt, decide_eq_false h, decide_eq_false h2]; rfl
theorem zero_ord (x : Nat) : (ord x 0 == some Ordering.eq) = decide (rg x = 0) := by
  have h0 : rg 0 = 0 := by decide
  have k0 : key 0 = 0 := by decide
  have hi : 0 < inf := by decide
  by_cases h : inf < rg x
  · rw [ord_nan_l h, decide_eq_false (by omega)]; rfl
  · rw [ord_eq (by omega) (by rw [h0]; omega), cmp_eq, k0]
    congr 1
    unfold key
    apply propext
    cases sg x <;> simp
def rank (x : Nat) : Nat := if nanB x then 18446744073709551615 else if 9223372036854775808 ≤ x then 18446744073709551615 - x else x + 9223372036854775808
def refLess (x y : Nat) : Bool := if nanB x then false else if nanB y then true else if rg x = 0 ∧ rg y = 0 then sg x && !sg y else decide (key x < key y)
def lessB (x y : Nat) : Bool := decide (rank x < rank y)
def alikeB (x y : Nat) : Bool := decide (rank x = rank y)
def sameB (x y : Nat) : Bool := (nanB x && nanB y) || decide (x = y)
theorem rank_of {x : Nat} (hx : x < 18446744073709551616) : (nanB x = true ∧ rank x = 18446744073709551615) ∨ (nanB x = false ∧ rg x ≤ inf ∧ ((sg x = true ∧ x = 9223372036854775808 + rg x ∧ rank x = 9223372036854775807 - rg x) ∨ (sg x = false ∧ x = rg x ∧ rank x = 9223372036854775808 + rg x))) := by
  cases hn : nanB x with
  | true => exact .inl ⟨rfl, by unfold rank; rw [hn]; rfl⟩
  | false =>
    refine .inr ⟨rfl, ?_, ?_⟩
    · unfold nanB at hn
      have := of_decide_eq_false hn
      omega
    · unfold rank sg rg
      rw [hn]
      simp only [Bool.false_eq_true, if_false]
      by_cases h : 9223372036854775808 ≤ x
      · left
        rw [if_pos h]
        have e1 : x / 9223372036854775808 = 1 := by omega
        rw [e1]
        exact ⟨rfl, by omega, by omega⟩
      · right
        rw [if_neg h]
        have e1 : x / 9223372036854775808 = 0 := by omega
        rw [e1]
        exact ⟨rfl, by omega, by omega⟩
theorem less_eq {x y : Nat} (hx : x < 18446744073709551616) (hy : y < 18446744073709551616) : refLess x y = lessB x y := by
  unfold refLess lessB key
  have hi : inf = 9218868437227405312 := rfl
  rcases rank_of hx with ⟨n1, r1⟩ | ⟨n1, b1, h1⟩
  · rw [n1, r1, if_pos rfl, decide_eq_false]
    rcases rank_of hy with ⟨n2, r2⟩ | ⟨n2, b2, ⟨_, _, r2⟩ | ⟨_, _, r2⟩⟩ <;> omega
  · rw [n1]
    simp only [Bool.false_eq_true, if_false]
    rcases rank_of hy with ⟨n2, r2⟩ | ⟨n2, b2, h2⟩
    · rw [n2, if_pos rfl, decide_eq_true]
      rcases h1 with ⟨_, _, r1⟩ | ⟨_, _, r1⟩ <;> omega
    · rw [n2]
      simp only [Bool.false_eq_true, if_false]
      rcases h1 with ⟨s1, e1, r1⟩ | ⟨s1, e1, r1⟩ <;> rcases h2 with ⟨s2, e2, r2⟩ | ⟨s2, e2, r2⟩ <;> rw [s1, s2, r1, r2] <;> simp only [Bool.false_eq_true, if_false, if_true, Bool.not_true, Bool.not_false, Bool.and_true, Bool.and_false, Bool.true_and, Bool.false_and] <;> by_cases hz : rg x = 0 ∧ rg y = 0 <;> simp only [hz, and_self, if_true, if_false] <;> (try rw [Bool.eq_iff_iff]) <;> simp <;> omega
theorem alike_eq (x y : Nat) : (!lessB x y && !lessB y x) = alikeB x y := by
  unfold lessB alikeB
  rw [Bool.eq_iff_iff]
  simp
  omega
theorem same_eq {x y : Nat} (hx : x < 18446744073709551616) (hy : y < 18446744073709551616) : sameB x y = alikeB x y := by
  unfold sameB alikeB
  have hi : inf = 9218868437227405312 := rfl
  rw [Bool.eq_iff_iff]
  rcases rank_of hx with ⟨n1, r1⟩ | ⟨n1, b1, h1⟩ <;> rcases rank_of hy with ⟨n2, r2⟩ | ⟨n2, b2, h2⟩ <;> rw [n1, n2]
  · simp [r1, r2]
  · have hne : x ≠ y := fun h => by subst h; rw [n1] at n2; cases n2
    rcases h2 with ⟨_, _, r2⟩ | ⟨_, _, r2⟩ <;> rw [r1, r2] <;> simp [hne] <;> omega
  · have hne : x ≠ y := fun h => by subst h; rw [n1] at n2; cases n2
    rcases h1 with ⟨_, _, r1⟩ | ⟨_, _, r1⟩ <;> rw [r1, r2] <;> simp [hne] <;> omega
  · rcases h1 with ⟨_, e1, r1⟩ | ⟨_, e1, r1⟩ <;> rcases h2 with ⟨_, e2, r2⟩ | ⟨_, e2, r2⟩ <;> rw [r1, r2] <;> simp <;> omega
theorem rank_lt {x : Nat} (hx : x < 18446744073709551616) : rank x < 18446744073709551616 := by
  have hi : inf = 9218868437227405312 := rfl
  rcases rank_of hx with ⟨_, r1⟩ | ⟨_, b1, ⟨_, _, r1⟩ | ⟨_, _, r1⟩⟩ <;> omega
theorem shr63 (x : Nat) : (x : Int).fdiv (2 ^ 63) = ((x / 9223372036854775808 : Nat) : Int) := by
  rw [Int.fdiv_eq_ediv_of_nonneg _ (by decide)]
  rfl
theorem bv_nat (x : Nat) : BitVec.ofInt 64 (x : Int) = BitVec.ofNat 64 x := by
  apply BitVec.eq_of_toNat_eq
  simp [BitVec.toNat_ofInt]
theorem wrap_nat {n : Nat} (h : n < 18446744073709551616) : IntKind.u64.wrap (n : Int) = (n : Int) := by
  simp [IntKind.wrap, IntKind.bits, IntKind.signed]
  omega
theorem or_hi {x : Nat} (h : x < 9223372036854775808) : IntKind.u64.wrap ((BitVec.ofInt 64 (x : Int) ||| BitVec.ofInt 64 9223372036854775808).toNat : Int) = ((x + 9223372036854775808 : Nat) : Int) := by
  rw [bv_nat, show BitVec.ofInt 64 9223372036854775808 = BitVec.ofNat 64 9223372036854775808 from rfl, BitVec.toNat_or, BitVec.toNat_ofNat, BitVec.toNat_ofNat, Nat.mod_eq_of_lt (by omega), Nat.mod_eq_of_lt (by omega)]
  have e : x ||| 9223372036854775808 = x + 9223372036854775808 := by
    have := Nat.two_pow_add_eq_or_of_lt (i := 63) (b := x) (by omega) 1
    rw [show (2 : Nat) ^ 63 * 1 = 9223372036854775808 from rfl] at this
    rw [Nat.or_comm, ← this]
    omega
  rw [e]
  exact wrap_nat (by omega)
theorem not_hi {x : Nat} (h : x < 18446744073709551616) : IntKind.u64.wrap ((BitVec.ofInt 64 18446744073709551615 ^^^ BitVec.ofInt 64 (x : Int)).toNat : Int) = ((18446744073709551615 - x : Nat) : Int) := by
  have e : BitVec.ofInt 64 18446744073709551615 ^^^ BitVec.ofInt 64 (x : Int) = ~~~ (BitVec.ofNat 64 x) := by
    rw [bv_nat, show BitVec.ofInt 64 18446744073709551615 = BitVec.allOnes 64 from rfl, BitVec.allOnes_xor]
  rw [e, BitVec.toNat_not, BitVec.toNat_ofNat, Nat.mod_eq_of_lt h]
  exact wrap_nat (by omega)
end Go.Proofs.Ytjnjkgoofkgiiaa.Edge
