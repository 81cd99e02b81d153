/- Layer 6, in plain Lean: numbers' bytes, and how they are read. No program. -/
import Derived.IntWalk
set_option linter.unusedVariables false
set_option linter.unusedSimpArgs false
namespace Go.Proofs.Ytkhibpdkgjapgaa.Wire
open Go

/-- a byte of a number below 256 -/
def by8 (n : Nat) : UInt8 := UInt8.ofNat n
theorem by8_toNat {n : Nat} (h : n < 256) : (by8 n).toNat = n := by
  unfold by8
  rw [UInt8.toNat_ofNat']
  exact Nat.mod_eq_of_lt h
theorem by8_of (x : UInt8) : by8 x.toNat = x := by
  apply UInt8.toNat_inj.1
  exact by8_toNat x.toNat_lt
/-- a number's bytes -/
def enc (n : Nat) : List UInt8 := if h : n < 128 then [by8 n] else by8 (n % 128 + 128) :: enc (n / 128)
termination_by n
decreasing_by omega
theorem enc_lo {n : Nat} (h : n < 128) : enc n = [by8 n] := by rw [enc, dif_pos h]
theorem enc_hi {n : Nat} (h : ¬ n < 128) : enc n = by8 (n % 128 + 128) :: enc (n / 128) := by rw [enc, dif_neg h]
theorem enc_pos (n : Nat) : 0 < (enc n).length := by
  by_cases h : n < 128
  · rw [enc_lo h]; simp
  · rw [enc_hi h]; simp
theorem enc_len : ∀ (k n : Nat), n < 128 ^ (k + 1) → (enc n).length ≤ k + 1
  | 0, n, h => by rw [enc_lo (by omega)]; simp
  | k + 1, n, h => by
    by_cases h1 : n < 128
    · rw [enc_lo h1]; simp
    · rw [enc_hi h1, List.length_cons]
      have := enc_len k (n / 128) (by rw [Nat.pow_succ] at h; exact Nat.div_lt_of_lt_mul (by omega))
      omega
theorem enc_len64 (n : Nat) (h : n < 18446744073709551616) : (enc n).length ≤ 10 := enc_len 9 n (by omega)
/-- what is read of bytes: a number, and how many bytes it has -/
def numA (k acc : Nat) : List UInt8 → Option (Nat × Nat)
  | [] => none
  | x :: r => if 9 < k ∨ (k = 9 ∧ 1 < x.toNat) ∨ (x.toNat = 0 ∧ 0 < k) then none
    else if x.toNat < 128 then some (acc + x.toNat * 128 ^ k, k + 1)
    else numA (k + 1) (acc + (x.toNat - 128) * 128 ^ k) r
def num (l : List UInt8) : Option (Nat × Nat) := numA 0 0 l
theorem numA_enc : ∀ (j k n acc : Nat) (r : List UInt8), n < 128 ^ (j + 1) → k + j = 9 → (k = 9 → n ≤ 1) → (k + 1 + j = 10) → (0 < k → 0 < n) → (n * 128 ^ k < 18446744073709551616) → numA k acc (enc n ++ r) = some (acc + n * 128 ^ k, k + (enc n).length) := by
  intro j
  induction j with
  | zero =>
    intro k n acc r h1 h2 h3 h4 h5 h6
    rw [enc_lo (by omega), List.singleton_append, numA, by8_toNat (by omega), if_neg (by omega), if_pos (by omega)]
    rfl
  | succ j ih =>
    intro k n acc r h1 h2 h3 h4 h5 h6
    by_cases h : n < 128
    · rw [enc_lo h, List.singleton_append, numA, by8_toNat (by omega), if_neg (by omega), if_pos h]
      rfl
    · rw [enc_hi h, List.cons_append, numA, by8_toNat (by omega), if_neg (by omega), if_neg (by omega)]
      have e1 : n / 128 * 128 ^ (k + 1) + n % 128 * 128 ^ k = n * 128 ^ k := by
        rw [Nat.pow_succ, show n / 128 * (128 ^ k * 128) = (128 * (n / 128)) * 128 ^ k by rw [Nat.mul_comm (128 ^ k) 128, ← Nat.mul_assoc, Nat.mul_comm (n / 128) 128], ← Nat.add_mul, Nat.div_add_mod]
      have h7 : n / 128 * 128 ^ (k + 1) < 18446744073709551616 := by omega
      have h8 : 0 < n / 128 := by omega
      rw [ih (k + 1) (n / 128) _ r (by rw [Nat.pow_succ] at h1; exact Nat.div_lt_of_lt_mul (by omega)) (by omega) (by
        intro hk
        rw [hk] at h7
        omega) (by omega) (fun _ => h8) h7, show n % 128 + 128 - 128 = n % 128 by omega, Nat.add_assoc, Nat.add_comm (n % 128 * 128 ^ k), e1, List.length_cons, show k + 1 + (enc (n / 128)).length = k + ((enc (n / 128)).length + 1) by omega]
theorem num_enc (n : Nat) (r : List UInt8) (h : n < 18446744073709551616) : num (enc n ++ r) = some (n, (enc n).length) := by
  have := numA_enc 9 0 n 0 r (by omega) rfl (by omega) rfl (by omega) (by omega)
  simpa [num] using this
theorem top_lt (y m : Nat) (hy : y ≤ 127) (h : m * 128 ^ (8 + 1) < 18446744073709551616) : y * 128 ^ 8 + m * 128 ^ (8 + 1) < 18446744073709551616 := by
  have e9 : 128 ^ (8 + 1) = 9223372036854775808 := by decide
  have e8 : 128 ^ 8 = 72057594037927936 := by decide
  rw [e9] at h ⊢
  rw [e8]
  clear e8 e9
  have hm : m ≤ 1 := by omega
  exact Nat.lt_of_le_of_lt (Nat.add_le_add (Nat.mul_le_mul_right _ hy) (Nat.mul_le_mul_right _ hm)) (by decide)
/-- what is read is what is written of it -/
theorem numA_spec : ∀ (l : List UInt8) (k acc n c : Nat), numA k acc l = some (n, c) → ∃ m r, l = enc m ++ r ∧ n = acc + m * 128 ^ k ∧ c = k + (enc m).length ∧ (0 < k → 0 < m) ∧ m * 128 ^ k < 18446744073709551616
  | [], k, acc, n, c, h => by simp [numA] at h
  | x :: l, k, acc, n, c, h => by
    rw [numA] at h
    have hx := x.toNat_lt
    split at h
    · cases h
    · rename_i hb
      split at h
      · rename_i hlo
        simp only [Option.some.injEq, Prod.mk.injEq] at h
        obtain ⟨rfl, rfl⟩ := h
        have hk : 128 ^ k ≤ 128 ^ 9 := Nat.pow_le_pow_right (by decide) (by omega)
        have hk8 : k ≤ 8 → 128 ^ k ≤ 128 ^ 8 := fun h => Nat.pow_le_pow_right (by decide) h
        refine ⟨x.toNat, l, by rw [enc_lo hlo, by8_of]; rfl, rfl, by rw [enc_lo hlo]; rfl, fun h => by omega, ?_⟩
        by_cases h9 : k = 9
        · subst h9
          have : x.toNat ≤ 1 := by omega
          calc x.toNat * 128 ^ 9 ≤ 1 * 128 ^ 9 := Nat.mul_le_mul_right _ this
            _ < _ := by decide
        · calc x.toNat * 128 ^ k ≤ 127 * 128 ^ 8 := Nat.mul_le_mul (by omega) (hk8 (by omega))
            _ < _ := by decide
      · rename_i hhi
        obtain ⟨m, r, h1, h2, h3, h4, h5⟩ := numA_spec l (k + 1) _ n c h
        have hm := h4 (by omega)
        have e0 : (128 * m + (x.toNat - 128)) * 128 ^ k = (x.toNat - 128) * 128 ^ k + m * 128 ^ (k + 1) := by
          rw [Nat.add_mul, Nat.add_comm, Nat.pow_succ, Nat.mul_comm (128 ^ k) 128, ← Nat.mul_assoc m, Nat.mul_comm m 128]
        have hlo : ¬ 128 * m + (x.toNat - 128) < 128 := by omega
        refine ⟨128 * m + (x.toNat - 128), r, ?_, ?_, ?_, fun _ => by omega, ?_⟩
        · rw [enc_hi hlo, show (128 * m + (x.toNat - 128)) % 128 = x.toNat - 128 by omega, show (128 * m + (x.toNat - 128)) / 128 = m by omega, show x.toNat - 128 + 128 = x.toNat by omega, by8_of, h1]
          rfl
        · rw [h2, e0]; omega
        · rw [h3, enc_hi hlo, show (128 * m + (x.toNat - 128)) / 128 = m by omega, List.length_cons]; omega
        · rw [e0]
          by_cases hk : k ≤ 7
          · have h6 : m * 128 ^ (k + 1) < 18446744073709551616 := h5
            -- both parts: the lower one is below 128^(k+1), the whole a sum below 2^64 by the shape of 128^(k+1)
            have h7 : (x.toNat - 128) * 128 ^ k < 128 ^ (k + 1) := by
              rw [Nat.pow_succ, Nat.mul_comm]
              exact Nat.mul_lt_mul_of_pos_left (by omega) (Nat.pow_pos (by decide))
            obtain ⟨d, hd⟩ : ∃ d, 18446744073709551616 = d * 128 ^ (k + 1) := ⟨2 * 128 ^ (9 - (k + 1)), by
              rw [Nat.mul_assoc, ← Nat.pow_add, show 9 - (k + 1) + (k + 1) = 9 by omega]⟩
            rw [hd] at h6 ⊢
            have h8 : m < d := Nat.lt_of_mul_lt_mul_right h6
            calc (x.toNat - 128) * 128 ^ k + m * 128 ^ (k + 1) < 128 ^ (k + 1) + m * 128 ^ (k + 1) := by omega
              _ = (m + 1) * 128 ^ (k + 1) := by rw [Nat.add_mul, Nat.one_mul, Nat.add_comm]
              _ ≤ d * 128 ^ (k + 1) := Nat.mul_le_mul_right _ h8
          · have h9 : k = 8 := by
              clear h h1 h2 h3 h5 e0
              by_cases h9 : k = 9
              · exact absurd (Or.inr (Or.inl ⟨h9, (by omega : 1 < x.toNat)⟩)) hb
              · omega
            subst h9
            exact top_lt _ m (by omega) h5
theorem num_spec {l : List UInt8} {n c : Nat} (h : num l = some (n, c)) : ∃ r, l = enc n ++ r ∧ c = (enc n).length ∧ n < 18446744073709551616 := by
  obtain ⟨m, r, h1, h2, h3, _, h5⟩ := numA_spec l 0 0 n c h
  simp only [Nat.pow_zero, Nat.mul_one, Nat.zero_add] at h2 h3 h5
  subst h2
  exact ⟨r, h1, h3, h5⟩
theorem num_le {l : List UInt8} {n c : Nat} (h : num l = some (n, c)) : c ≤ l.length ∧ 0 < c := by
  obtain ⟨r, h1, h2, _⟩ := num_spec h
  rw [h1, List.length_append, h2]
  have := enc_pos n
  omega
/-- a whole number as a number, and back -/
def zig (w : Int) : Nat := if w < 0 then (2 * (-1 - w) + 1).toNat else (2 * w).toNat
def unzig (n : Nat) : Int := if n % 2 = 1 then -1 - ((n / 2 : Nat) : Int) else ((n / 2 : Nat) : Int)
theorem zig_lt {w : Int} (h : -9223372036854775808 ≤ w ∧ w ≤ 9223372036854775807) : zig w < 18446744073709551616 := by
  unfold zig
  split <;> omega
theorem unzig_zig (w : Int) : unzig (zig w) = w := by
  unfold unzig zig
  split <;> split <;> omega
theorem zig_unzig (n : Nat) : zig (unzig n) = n := by
  unfold unzig zig
  split <;> split <;> omega
theorem unzig_in {n : Nat} (h : n < 18446744073709551616) : -9223372036854775808 ≤ unzig n ∧ unzig n ≤ 9223372036854775807 := by
  unfold unzig
  split <;> omega
/-- a reader: how far it has read, or where something is amiss -/
structure St where
  p : Nat
  bad : Bool
def rNum (l : List UInt8) (s : St) : Nat × St :=
  if s.bad then (0, s) else match num (l.drop s.p) with
    | some (n, c) => (n, ⟨s.p + c, false⟩)
    | none => (0, ⟨s.p, true⟩)
def rWhole (l : List UInt8) (s : St) : Int × St := (unzig (rNum l s).1, (rNum l s).2)
def rText (l : List UInt8) (most : Int) (s : St) : List UInt8 × St :=
  let r := rNum l s
  if r.2.bad then ([], r.2)
  else if most < 0 ∨ most < (r.1 : Int) ∨ l.length - r.2.p < r.1 then ([], ⟨s.p, true⟩)
  else ((l.drop r.2.p).take r.1, ⟨r.2.p + r.1, false⟩)
/-- the end: where something is amiss -/
def rEnd (l : List UInt8) (s : St) : St := if s.bad = false ∧ s.p < l.length then ⟨s.p, true⟩ else s
def St.ok (l : List UInt8) (s : St) : Prop := s.p ≤ l.length
theorem rNum_ok {l : List UInt8} {s : St} (h : s.ok l) : (rNum l s).2.ok l := by
  unfold rNum St.ok at *
  split
  · exact h
  · cases hn : num (l.drop s.p) with
    | none => exact h
    | some x =>
      have := (num_le hn).1
      rw [List.length_drop] at this
      simp only
      omega
theorem rNum_lt (l : List UInt8) (s : St) : (rNum l s).1 < 18446744073709551616 := by
  unfold rNum
  split
  · exact (by decide : 0 < 18446744073709551616)
  · cases hn : num (l.drop s.p) with
    | none => exact (by decide : 0 < 18446744073709551616)
    | some x =>
      obtain ⟨r, _, _, h⟩ := num_spec hn
      exact h
theorem rText_ok {l : List UInt8} {most : Int} {s : St} (h : s.ok l) : (rText l most s).2.ok l := by
  have h1 := rNum_ok h
  unfold rText
  simp only
  split
  · exact h1
  · split
    · exact h
    · unfold St.ok at *
      simp only
      omega
theorem rEnd_ok {l : List UInt8} {s : St} (h : s.ok l) : (rEnd l s).ok l := by
  unfold rEnd
  split
  · exact h
  · exact h
/-- a text's bytes -/
def encT (s : List UInt8) : List UInt8 := enc s.length ++ s
theorem drop_app (a b : List UInt8) : (a ++ b).drop a.length = b := by simp
/-- what was written is read -/
theorem rNum_enc {a r : List UInt8} {n : Nat} (h : n < 18446744073709551616) : rNum (a ++ (enc n ++ r)) ⟨a.length, false⟩ = (n, ⟨(a ++ enc n).length, false⟩) := by
  unfold rNum
  simp only [Bool.false_eq_true, if_false, drop_app, num_enc n r h, List.length_append]
theorem rWhole_enc {a r : List UInt8} {w : Int} (h : -9223372036854775808 ≤ w ∧ w ≤ 9223372036854775807) : rWhole (a ++ (enc (zig w) ++ r)) ⟨a.length, false⟩ = (w, ⟨(a ++ enc (zig w)).length, false⟩) := by
  unfold rWhole
  rw [rNum_enc (zig_lt h), unzig_zig]
theorem rText_enc {a r s : List UInt8} {most : Int} (h : (s.length : Int) ≤ most) (h2 : s.length < 18446744073709551616) : rText (a ++ (encT s ++ r)) most ⟨a.length, false⟩ = (s, ⟨(a ++ encT s).length, false⟩) := by
  have e : a ++ (encT s ++ r) = a ++ (enc s.length ++ (s ++ r)) := by simp [encT]
  unfold rText
  rw [e, rNum_enc h2]
  simp only [Bool.false_eq_true, if_false]
  rw [if_neg (by simp only [List.length_append]; omega)]
  have : (a ++ (enc s.length ++ (s ++ r))).drop (a ++ enc s.length).length = s ++ r := by
    rw [← List.append_assoc]
    simp
  rw [this]
  simp [encT]
  omega
end Go.Proofs.Ytkhibpdkgjapgaa.Wire
