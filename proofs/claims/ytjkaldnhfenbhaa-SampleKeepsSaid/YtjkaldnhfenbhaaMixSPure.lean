/- The plain side of the mix: what the program's and the document's loops come to; over lists of bytes that are numbers. -/
import Derived.Test.YtjkaldnhfenbhaaPSampleKeepsx4
import Derived.Test.YtjkaldnhfenbhaaPSampleKeepsx2
import Derived.OpenShut
import Derived.Laws.BitsLemmas
set_option linter.unusedVariables false
namespace Go.Proofs.Ytjkaldnhfenbhaa.MixS
open Go.RowKit Go.Proofs.YtjkaldnhfenbhaaW.PrintWords Go.Proofs.YtjkaldnhfenbhaaW.PrintLast

theorem bits_xor32 (a b : Nat) (ha : a < 4294967296) (hb : b < 4294967296) : Go.bits .xor .u32 (a : Int) (b : Int) = ((a ^^^ b : Nat) : Int) := by
  have h : a ^^^ b < 2 ^ 32 := Nat.xor_lt_two_pow ha hb
  have e : (BitVec.ofInt 32 (a : Int) ^^^ BitVec.ofInt 32 (b : Int)).toNat = a ^^^ b := by
    rw [BitVec.ofInt_natCast, BitVec.ofInt_natCast, BitVec.toNat_xor, BitVec.toNat_ofNat, BitVec.toNat_ofNat, Nat.mod_eq_of_lt (by omega), Nat.mod_eq_of_lt (by omega)]
  have key : Go.bits .xor .u32 (a : Int) (b : Int) = IntKind.u32.wrap (((BitVec.ofInt 32 (a : Int) ^^^ BitVec.ofInt 32 (b : Int)).toNat : Nat) : Int) := rfl
  rw [key, e]
  simp [IntKind.bits, IntKind.wrap, IntKind.signed]
  omega
theorem bits_xor64 (a b : Nat) (ha : a < 4294967296) (hb : b < 4294967296) : Go.bits .xor .u64 (a : Int) (b : Int) = ((a ^^^ b : Nat) : Int) := by
  have h : a ^^^ b < 2 ^ 32 := Nat.xor_lt_two_pow ha hb
  have e : (BitVec.ofInt 64 (a : Int) ^^^ BitVec.ofInt 64 (b : Int)).toNat = a ^^^ b := by
    rw [BitVec.ofInt_natCast, BitVec.ofInt_natCast, BitVec.toNat_xor, BitVec.toNat_ofNat, BitVec.toNat_ofNat, Nat.mod_eq_of_lt (by omega), Nat.mod_eq_of_lt (by omega)]
  have key : Go.bits .xor .u64 (a : Int) (b : Int) = IntKind.u64.wrap (((BitVec.ofInt 64 (a : Int) ^^^ BitVec.ofInt 64 (b : Int)).toNat : Nat) : Int) := rfl
  rw [key, e]
  simp [IntKind.bits, IntKind.wrap, IntKind.signed]
  omega
/-- what a byte does to a mix touches its low byte alone -/
theorem xor_low (h x : Nat) (hx : x < 256) : h ^^^ x = h - h % 256 + ((h % 256) ^^^ x) := by
  have e1 : (h ^^^ x) % 256 = (h % 256) ^^^ x := by
    have := Nat.xor_mod_two_pow (a := h) (b := x) (n := 8)
    rw [show (2 : Nat) ^ 8 = 256 from rfl, Nat.mod_eq_of_lt hx] at this
    exact this
  have e2 : (h ^^^ x) / 256 = h / 256 := by
    have := Nat.xor_div_two_pow (a := h) (b := x) (n := 8)
    rw [show (2 : Nat) ^ 8 = 256 from rfl, Nat.div_eq_of_lt hx, Nat.xor_zero] at this
    exact this
  omega

/-- the mix and one byte -/
def mixStep (h x : Int) : Int := ((Go.bits .xor .u32 h (x % 4294967296)) * 16777619) % 4294967296
/-- bytes' mix -/
def mixH (l : List Int) : Int := l.foldl mixStep 2166136261
theorem mixStep_bd (h x : Int) : 0 ≤ mixStep h x ∧ mixStep h x ≤ 4294967295 := by unfold mixStep; omega
theorem foldl_bd (l : List Int) : ∀ h : Int, (0 ≤ h ∧ h ≤ 4294967295) → 0 ≤ l.foldl mixStep h ∧ l.foldl mixStep h ≤ 4294967295 := by
  induction l with
  | nil => intro h hh; exact hh
  | cons x l ih => intro h _; exact ih _ (mixStep_bd h x)
theorem mixH_bd (l : List Int) : 0 ≤ mixH l ∧ mixH l ≤ 4294967295 := foldl_bd l _ ⟨by decide, by decide⟩
theorem mixH_snoc (l : List Int) (x : Int) : mixH (l ++ [x]) = mixStep (mixH l) x := by simp [mixH]

theorem ref_step (h x : Int) (h0 : 0 ≤ h) (h1 : h ≤ 4294967295) (x0 : 0 ≤ x) (x1 : x ≤ 255) :
    Int.tmod (IntKind.u64.wrap ((IntKind.u64.wrap ((IntKind.u64.wrap (h - (Int.tmod h 256))) + (Go.bits .xor .u64 (Int.tmod h 256) (IntKind.u64.wrap x)))) * 16777619)) 4294967296 = mixStep h x := by
  obtain ⟨n, rfl⟩ := Int.eq_ofNat_of_zero_le h0
  obtain ⟨m, rfl⟩ := Int.eq_ofNat_of_zero_le x0
  have e1 : Int.tmod (n : Int) 256 = ((n % 256 : Nat) : Int) := by rw [Int.tmod_eq_emod_of_nonneg (by omega)]; omega
  have e2 : IntKind.u64.wrap (m : Int) = (m : Int) := by simp [IntKind.wrap, IntKind.bits, IntKind.signed]; omega
  have e3 : (m : Int) % 4294967296 = (m : Int) := by omega
  unfold mixStep
  rw [e1, e2, e3, bits_xor64 (n % 256) m (by omega) (by omega), bits_xor32 n m (by omega) (by omega)]
  have hl := xor_low n m (by omega)
  have hx : (n % 256) ^^^ m < 2 ^ 8 := Nat.xor_lt_two_pow (by omega) (by omega)
  generalize (n % 256) ^^^ m = y at *
  rw [hl]
  have e4 : IntKind.u64.wrap ((n : Int) - ((n % 256 : Nat) : Int)) = (n : Int) - ((n % 256 : Nat) : Int) := by simp [IntKind.wrap, IntKind.bits, IntKind.signed]; omega
  rw [e4]
  have e5 : IntKind.u64.wrap ((n : Int) - ((n % 256 : Nat) : Int) + (y : Int)) = (n : Int) - ((n % 256 : Nat) : Int) + (y : Int) := by simp [IntKind.wrap, IntKind.bits, IntKind.signed]; omega
  rw [e5]
  have e6 : ((n - n % 256 + y : Nat) : Int) = (n : Int) - ((n % 256 : Nat) : Int) + (y : Int) := by omega
  rw [e6]
  generalize (n : Int) - ((n % 256 : Nat) : Int) + (y : Int) = z
  have e7 : IntKind.u64.wrap (z * 16777619) = (z * 16777619) % 18446744073709551616 := by simp [IntKind.wrap, IntKind.bits, IntKind.signed]
  rw [e7, Int.tmod_eq_emod_of_nonneg (by omega)]
  omega

theorem wrap_up {i : Int} (h0 : 0 ≤ i) (h1 : i ≤ 9223372036854775806) : wrap64 (i + 1) = i + 1 := by unfold wrap64; omega

theorem drop_rd (l : List Int) (i : Int) (h0 : 0 ≤ i) (h1 : i < (l.length : Int)) : l.drop i.toNat = rd l i :: l.drop (i + 1).toNat := by
  have hi : i.toNat < l.length := by omega
  rw [List.drop_eq_getElem_cons hi]
  congr 1
  · unfold rd
    simp [List.getD, hi]
  · congr 1
    omega

theorem rd_mem (l : List Int) (i : Int) (h0 : 0 ≤ i) (h1 : i < (l.length : Int)) : rd l i ∈ l := by
  have hi : i.toNat < l.length := by omega
  unfold rd
  simp [List.getD, hi]

theorem hash_step (k : Nat) (x3 : Int) (x6 : List Int) (x7 x8 : Int) : PSampleKeeps.mix_Hash.l0 (k + 1) x3 x6 x7 x8 =
    if x8 < x7 then (if 0 ≤ x8 then (if x8 < (x6.length : Int) then (PSampleKeeps.mix_Hash.l0 k (mixStep x3 (rd x6 x8)) x6 x7 (wrap64 (x8 + 1))) else (none)) else (none)) else (some x3) := rfl

theorem hash_from (l : List Int) (hl : (l.length : Int) ≤ 9223372036854775806) (d : Nat) : ∀ (k : Nat) (i h : Int), d < k → 0 ≤ i → i ≤ l.length → (l.length : Int) - i = d →
    PSampleKeeps.mix_Hash.l0 k h l (l.length : Int) i = some ((l.drop i.toNat).foldl mixStep h) := by
  induction d with
  | zero =>
    intro k i h hk h0 h1 hd
    obtain ⟨k, rfl⟩ : ∃ m, k = m + 1 := ⟨k - 1, by omega⟩
    rw [hash_step, if_neg (by omega), List.drop_eq_nil_of_le (by omega)]
    rfl
  | succ d ih =>
    intro k i h hk h0 h1 hd
    obtain ⟨k, rfl⟩ : ∃ m, k = m + 1 := ⟨k - 1, by omega⟩
    rw [hash_step, if_pos (by omega), if_pos h0, if_pos (by omega), wrap_up h0 (by omega), ih k (i + 1) _ (by omega) (by omega) (by omega) (by omega), drop_rd l i h0 (by omega)]
    rfl

theorem hash_eq (l : List Int) (hl : (l.length : Int) ≤ 9223372036854775806) (k : Nat) (hk : l.length < k) : PSampleKeeps.mix_Hash.f k l = some (mixH l) :=
  (hash_from l hl l.length k 0 2166136261 hk (by omega) (by omega) (by omega)).trans rfl

theorem part_eq (l : List Int) (hl : (l.length : Int) ≤ 9223372036854775806) (k : Nat) (hk : l.length < k) : PSampleKeeps.mix_Part.f k l = some (mixH l % 65536) := by
  unfold PSampleKeeps.mix_Part.f
  rw [hash_eq l hl k hk]
  have := mixH_bd l
  have e : wrap64 (Int.tmod (mixH l) 65536) = mixH l % 65536 := by rw [Int.tmod_eq_emod_of_nonneg this.1]; unfold wrap64; omega
  simp [e]

theorem keep_eq (l : List Int) (hl : (l.length : Int) ≤ 9223372036854775806) (t : Int) (k : Nat) (hk : l.length < k) : PSampleKeeps.mix_Keep.f k l t = some (decide (mixH l % 65536 ≥ t)) := by
  unfold PSampleKeeps.mix_Keep.f
  rw [part_eq l hl k hk]
  rfl

theorem ref_hash_step (k : Nat) (x0 : List Int) (x3 x4 : Int) : PSampleKeeps.nogginref01_Hash.l0 (k + 1) x0 x3 x4 =
    if x4 < (x0.length : Int) then (if 0 ≤ x4 then (PSampleKeeps.nogginref01_Hash.l0 k x0 (Int.tmod (IntKind.u64.wrap ((IntKind.u64.wrap ((IntKind.u64.wrap (x3 - (Int.tmod x3 256))) + (Go.bits .xor .u64 (Int.tmod x3 256) (IntKind.u64.wrap (rd x0 x4))))) * 16777619)) 4294967296) (wrap64 (x4 + 1))) else (none)) else (some ((x3) % 4294967296)) := rfl

theorem ref_hash_from (l : List Int) (hw : ∀ x ∈ l, (Lit.int .u8 x).wf = true) (hl : (l.length : Int) ≤ 9223372036854775806) (d : Nat) : ∀ (k : Nat) (i h : Int), d < k → 0 ≤ i → i ≤ l.length → (l.length : Int) - i = d → 0 ≤ h → h ≤ 4294967295 →
    PSampleKeeps.nogginref01_Hash.l0 k l h i = some ((l.drop i.toNat).foldl mixStep h) := by
  induction d with
  | zero =>
    intro k i h hk h0 h1 hd b0 b1
    obtain ⟨k, rfl⟩ : ∃ m, k = m + 1 := ⟨k - 1, by omega⟩
    rw [ref_hash_step, if_neg (by omega), List.drop_eq_nil_of_le (by omega), Int.emod_eq_of_lt b0 (by omega)]
    rfl
  | succ d ih =>
    intro k i h hk h0 h1 hd b0 b1
    obtain ⟨k, rfl⟩ : ∃ m, k = m + 1 := ⟨k - 1, by omega⟩
    have hx := bounds_u8 (hw _ (rd_mem l i h0 (by omega)))
    have hb := mixStep_bd h (rd l i)
    rw [ref_hash_step, if_pos (by omega), if_pos h0, wrap_up h0 (by omega), ref_step h (rd l i) b0 b1 hx.1 hx.2, ih k (i + 1) _ (by omega) (by omega) (by omega) (by omega) hb.1 hb.2, drop_rd l i h0 (by omega)]
    rfl

theorem ref_hash_eq (l : List Int) (hw : ∀ x ∈ l, (Lit.int .u8 x).wf = true) (hl : (l.length : Int) ≤ 9223372036854775806) (k : Nat) (hk : l.length < k) : PSampleKeeps.nogginref01_Hash.f k l = some (mixH l) :=
  (ref_hash_from l hw hl l.length k 0 2166136261 hk (by omega) (by omega) (by omega) (by decide) (by decide)).trans rfl
end Go.Proofs.Ytjkaldnhfenbhaa.MixS
