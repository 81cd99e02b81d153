/- Layer 6: what its bit steps come to. -/
import Derived.Test.YtkhibpdkgjapgaaEngB
import Derived.Test.YtkhibpdkgjapgaaWirePure
set_option linter.unusedVariables false
set_option linter.unusedSimpArgs false
namespace Go.Proofs.Ytkhibpdkgjapgaa.Wire
open Go Go.RowKit Go.Proofs.Ytkhibpdkgjapgaa Go.Proofs.Ytkhibpdkgjapgaa.Eng
theorem toNat64 (n : Nat) (h : n < 18446744073709551616) : (BitVec.ofInt 64 (n : Int)).toNat = n := by
  rw [BitVec.ofInt_natCast, BitVec.toNat_ofNat]
  exact Nat.mod_eq_of_lt h
theorem toNat8 (n : Nat) (h : n < 256) : (BitVec.ofInt 8 (n : Int)).toNat = n := by
  rw [BitVec.ofInt_natCast, BitVec.toNat_ofNat]
  exact Nat.mod_eq_of_lt h
theorem or8_fin : ∀ m : Fin 256, (BitVec.ofNat 8 m.val ||| BitVec.ofNat 8 128).toNat = m.val % 128 + 128 := by decide +kernel
theorem andNot8_fin : ∀ m : Fin 256, (BitVec.ofNat 8 m.val &&& ~~~ BitVec.ofNat 8 128).toNat = m.val % 128 := by decide +kernel
theorem or8 (n : Nat) : iOr .u8 ((n % 256 : Nat) : Int) 128 = ((by8 (n % 128 + 128)).toNat : Int) := by
  have h := or8_fin ⟨n % 256, Nat.mod_lt _ (by decide)⟩
  simp only at h
  show IntKind.u8.wrap ((BitVec.ofInt 8 ((n % 256 : Nat) : Int) ||| BitVec.ofInt 8 ((128 : Nat) : Int)).toNat : Int) = _
  rw [BitVec.ofInt_natCast, BitVec.ofInt_natCast, h, by8_toNat (by omega), IntWalk.u8_in _ (by omega)]
  omega
theorem andNot8 (x : UInt8) : iAndNot .u8 (x.toNat : Int) 128 = ((x.toNat % 128 : Nat) : Int) := by
  have h := andNot8_fin ⟨x.toNat, x.toNat_lt⟩
  simp only at h
  show IntKind.u8.wrap ((BitVec.ofInt 8 (x.toNat : Int) &&& ~~~ BitVec.ofInt 8 ((128 : Nat) : Int)).toNat : Int) = _
  rw [BitVec.ofInt_natCast, BitVec.ofInt_natCast, h, IntWalk.u8_in _ (by omega)]
theorem shr7 (n : Nat) : iShr .u64 (n : Int) 7 = ((n / 128 : Nat) : Int) := by
  show Int.fdiv (n : Int) (2 ^ 7) = _
  rw [Int.fdiv_eq_ediv_of_nonneg _ (by decide)]
  rfl
theorem pow7 (k : Nat) : (2 : Nat) ^ (7 * k) = 128 ^ k := by
  rw [Nat.pow_mul]
theorem readOr (acc x k : Nat) (ha : acc < 128 ^ k) (hk : k ≤ 9) (hx : x < 128) (h9 : k = 9 → x ≤ 1) : iOr .u64 (acc : Int) (iShl .u64 (x : Int) ((7 * k : Nat) : Int)) = ((acc + x * 128 ^ k : Nat) : Int) := by
  have hm : min (((7 * k : Nat) : Int)).toNat (IntKind.u64.bits) = 7 * k := by
    show min _ 64 = _
    omega
  have hp : 128 ^ k * x < 18446744073709551616 ∧ acc + x * 128 ^ k < 18446744073709551616 := by
    by_cases h : k = 9
    · subst h
      have := h9 rfl
      have e : 128 ^ 9 = 9223372036854775808 := by decide
      rw [e] at ha ⊢
      clear h9 hm e
      rcases (by omega : x = 0 ∨ x = 1) with rfl | rfl <;> omega
    · have h2 : 128 ^ k ≤ 128 ^ 8 := Nat.pow_le_pow_right (by decide) (by omega)
      have e : 128 ^ 8 = 72057594037927936 := by decide
      have h3 : 128 ^ k * x ≤ 72057594037927936 * 127 := Nat.mul_le_mul (by omega) (by omega)
      rw [Nat.mul_comm x]
      omega
  have hs : iShl .u64 (x : Int) ((7 * k : Nat) : Int) = ((128 ^ k * x : Nat) : Int) := by
    unfold iShl
    rw [hm]
    have : (x : Int) * 2 ^ (7 * k) = ((128 ^ k * x : Nat) : Int) := by
      rw [← pow7, Int.natCast_mul, Int.mul_comm]
      norm_cast
    rw [this]
    exact IntWalk.u64_in _ (by omega)
  rw [hs]
  show IntKind.u64.wrap ((BitVec.ofInt 64 (acc : Int) ||| BitVec.ofInt 64 ((128 ^ k * x : Nat) : Int)).toNat : Int) = _
  rw [BitVec.toNat_or, toNat64 _ (by omega), toNat64 _ hp.1, Nat.or_comm, ← pow7, ← Nat.two_pow_add_eq_or_of_lt (by rw [pow7]; exact ha), pow7]
  rw [IntWalk.u64_in _ (by rw [Nat.mul_comm]; omega)]
  rw [Nat.mul_comm, Nat.add_comm]
theorem xor_ones (v : BitVec 64) : (v ^^^ BitVec.allOnes 64).toNat = 18446744073709551615 - v.toNat := by
  rw [BitVec.xor_allOnes, BitVec.toNat_not]
theorem zigX (w : Int) (h : -9223372036854775808 ≤ w ∧ w ≤ 9223372036854775807) : iXor .u64 (iShl .u64 (IntKind.u64.wrap w) 1) (IntKind.u64.wrap (iShr .i64 w 63)) = ((zig w : Nat) : Int) := by
  have e63 : iShr .i64 w 63 = if w < 0 then -1 else 0 := by
    show Int.fdiv w (2 ^ 63) = _
    rw [Int.fdiv_eq_ediv_of_nonneg _ (by decide)]
    split <;> omega
  have e1 : iShl .u64 (IntKind.u64.wrap w) 1 = (if w < 0 then 2 * w + 18446744073709551616 else 2 * w) := by
    show IntKind.u64.wrap (IntKind.u64.wrap w * 2 ^ 1) = _
    rw [IntKind.wrap_u64, IntKind.wrap_u64]
    split <;> omega
  rw [e63, e1]
  unfold zig
  by_cases hw : w < 0
  · simp only [if_pos hw]
    have e2 : IntKind.u64.wrap (-1) = ((18446744073709551615 : Nat) : Int) := by decide
    rw [e2]
    obtain ⟨m, hm⟩ := Int.eq_ofNat_of_zero_le (show 0 ≤ 2 * w + 18446744073709551616 by omega)
    rw [hm]
    show IntKind.u64.wrap ((BitVec.ofInt 64 (m : Int) ^^^ BitVec.ofInt 64 ((18446744073709551615 : Nat) : Int)).toNat : Int) = _
    have e3 : BitVec.ofInt 64 ((18446744073709551615 : Nat) : Int) = BitVec.allOnes 64 := by decide
    rw [e3, xor_ones, toNat64 m (by omega), IntWalk.u64_in _ (by omega)]
    omega
  · simp only [if_neg hw]
    have e2 : IntKind.u64.wrap 0 = ((0 : Nat) : Int) := by decide
    rw [e2]
    obtain ⟨m, hm⟩ := Int.eq_ofNat_of_zero_le (show 0 ≤ 2 * w by omega)
    rw [hm]
    show IntKind.u64.wrap ((BitVec.ofInt 64 (m : Int) ^^^ BitVec.ofInt 64 ((0 : Nat) : Int)).toNat : Int) = _
    rw [BitVec.toNat_xor, toNat64 m (by omega), toNat64 0 (by omega), Nat.xor_zero, IntWalk.u64_in _ (by omega)]
    omega
theorem unzigX (n : Nat) (h : n < 18446744073709551616) : iXor .i64 (IntKind.i64.wrap (iShr .u64 (n : Int) 1)) (IntKind.i64.wrap (0 - IntKind.i64.wrap (iAnd .u64 (n : Int) 1))) = unzig n := by
  have e1 : iShr .u64 (n : Int) 1 = ((n / 2 : Nat) : Int) := by
    show Int.fdiv (n : Int) (2 ^ 1) = _
    rw [Int.fdiv_eq_ediv_of_nonneg _ (by decide)]
    rfl
  have e2 : iAnd .u64 (n : Int) 1 = ((n % 2 : Nat) : Int) := by
    show IntKind.u64.wrap ((BitVec.ofInt 64 (n : Int) &&& BitVec.ofInt 64 ((1 : Nat) : Int)).toNat : Int) = _
    rw [BitVec.toNat_and, toNat64 n h, toNat64 1 (by omega), Nat.and_one_is_mod, IntWalk.u64_in _ (by omega)]
  rw [e1, e2, IntWalk.i64_in _ (by omega), IntWalk.i64_in ((n % 2 : Nat) : Int) (by omega), IntWalk.i64_in (0 - _) (by omega)]
  unfold unzig
  by_cases h1 : n % 2 = 1
  · rw [if_pos h1, h1]
    show IntKind.i64.wrap ((BitVec.ofInt 64 ((n / 2 : Nat) : Int) ^^^ BitVec.ofInt 64 (0 - ((1 : Nat) : Int))).toNat : Int) = _
    have e3 : BitVec.ofInt 64 (0 - ((1 : Nat) : Int)) = BitVec.allOnes 64 := by decide
    rw [e3, xor_ones, toNat64 _ (by omega), IntKind.wrap_i64]
    omega
  · rw [if_neg h1, show n % 2 = 0 by omega]
    show IntKind.i64.wrap ((BitVec.ofInt 64 ((n / 2 : Nat) : Int) ^^^ BitVec.ofInt 64 ((0 : Nat) : Int)).toNat : Int) = _
    rw [BitVec.toNat_xor, toNat64 _ (by omega), toNat64 0 (by omega), Nat.xor_zero, IntWalk.i64_in _ (by omega)]
end Go.Proofs.Ytkhibpdkgjapgaa.Wire
