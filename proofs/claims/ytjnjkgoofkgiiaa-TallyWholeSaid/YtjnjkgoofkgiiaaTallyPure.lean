/- The plain side of layer 18: what a row comes to. -/
import Derived.Test.YtjnjkgoofkgiiaaPTallyFoldsx3
import Derived.Test.YtjnjkgoofkgiiaaPTallyFoldsx2
import Derived.Test.YtjnjkgoofkgiiaaPCountx1
import Derived.Test.YtjnjkgoofkgiiaaPAddx1
import Derived.Lib.BitFns
set_option linter.unusedVariables false
namespace Go.Proofs.Ytjnjkgoofkgiiaa.Tally
open Go.RowKit Go.Proofs.YtjnjkgoofkgiiaaW.PrintWords Go.Proofs.YtjnjkgoofkgiiaaW.PrintLast

def I64 (v : Int) : Prop := -9223372036854775808 ≤ v ∧ v ≤ 9223372036854775807
/-- a value's bucket -/
def bl (v : Int) : Nat := Lib.bitLen (if v < 0 then 0 else v).toNat
theorem bl_le (v : Int) (h : I64 v) : bl v ≤ 63 := by
  unfold bl
  by_cases h0 : v ≤ 0
  · have : (if v < 0 then 0 else v).toNat = 0 := by split <;> omega
    rw [this]
    decide
  · rw [if_neg (by omega)]
    have hb : ∀ n x : Nat, x < 2 ^ n → n ≤ 64 → Lib.bitLen x ≤ n := by
      intro n
      induction n with
      | zero =>
        intro x hx _
        obtain rfl : x = 0 := by omega
        decide
      | succ n ih =>
        intro x hx hn
        by_cases hx0 : x = 0
        · subst hx0
          have : Lib.bitLen 0 = 0 := by decide
          omega
        · rw [Lib.bitLen_half x hx0 (Nat.lt_of_lt_of_le hx (Nat.pow_le_pow_right (by omega) hn))]
          have := ih (x / 2) (by rw [Nat.pow_succ] at hx; omega) (by omega)
          omega
    have h63 : v.toNat < 2 ^ 63 := by have := h.2; omega
    exact hb 63 v.toNat h63 (by decide)
theorem ref_from : ∀ (d k : Nat) (x n : Int), x ≤ 9223372036854775807 → Lib.bitLen (if x < 0 then 0 else x).toNat = d → 0 ≤ n → n + d ≤ 1000 → d < k →
    PTallyFolds.nogginref18_Bucket.l0 k x n = some (n + d) := by
  intro d
  induction d with
  | zero =>
    intro k x n hx hd hn hb hk
    obtain ⟨k, rfl⟩ : ∃ m, k = m + 1 := ⟨k - 1, by omega⟩
    have h0 : ¬ x > 0 := fun h => by
      rw [if_neg (by omega), Lib.bitLen_half _ (by omega) (by omega)] at hd
      omega
    simp only [PTallyFolds.nogginref18_Bucket.l0]
    rw [if_neg h0]
    simp
  | succ d ih =>
    intro k x n hx hd hn hb hk
    obtain ⟨k, rfl⟩ : ∃ m, k = m + 1 := ⟨k - 1, by omega⟩
    have h0 : x > 0 := by
      by_cases h : x > 0
      · exact h
      · have : (if x < 0 then 0 else x).toNat = 0 := by split <;> omega
        rw [this] at hd
        have h2 : Lib.bitLen 0 = 0 := by decide
        omega
    rw [if_neg (by omega), Lib.bitLen_half _ (by omega) (by omega)] at hd
    simp only [PTallyFolds.nogginref18_Bucket.l0]
    have e1 : wrap64 (Int.tdiv x 2) = x / 2 := by rw [Int.tdiv_eq_ediv_of_nonneg (by omega)]; unfold wrap64; omega
    have e2 : wrap64 (n + 1) = n + 1 := by unfold wrap64; omega
    rw [if_pos h0, e1, e2, ih k (x / 2) (n + 1) (by omega) (by rw [if_neg (by omega), show (x / 2).toNat = x.toNat / 2 by omega]; omega) (by omega) (by omega) (by omega)]
    congr 1
    omega
theorem ref_bucket (v : Int) (h : I64 v) : PTallyFolds.nogginref18_Bucket.f 100 v = some (bl v : Int) := by
  unfold PTallyFolds.nogginref18_Bucket.f
  have := bl_le v h
  rw [ref_from (bl v) 100 v 0 h.2 rfl (by omega) (by omega) (by omega)]
  simp

/-- a sum, and whether it was beyond -/
def sadd (a b : Int) : Int × Bool := if 9223372036854775807 < a + b then (9223372036854775807, true) else if a + b < -9223372036854775808 then (-9223372036854775808, true) else (a + b, false)
theorem sadd_in (a b : Int) : I64 (sadd a b).1 := by unfold sadd I64; split <;> (try split) <;> simp <;> omega
theorem add_f (a b : Int) (ha : I64 a) (hb : I64 b) : PAdd.sat_Add.f 3 a b = some (sadd a b) := by
  unfold I64 at ha hb
  unfold PAdd.sat_Add.f sadd
  by_cases c1 : 9223372036854775807 < a + b
  · have e : wrap64 (a + b) = a + b - 18446744073709551616 := by unfold wrap64; omega
    rw [if_pos (by omega), if_pos (by omega), if_pos c1, e]
    simp only [PAdd.sat_Add.j0]
    rw [if_pos (by simp; omega)]
  · rw [if_neg c1]
    by_cases c2 : a + b < -9223372036854775808
    · have e : wrap64 (a + b) = a + b + 18446744073709551616 := by unfold wrap64; omega
      rw [if_neg (by omega), if_pos c2, e]
      simp only [PAdd.sat_Add.j0]
      rw [if_neg (by simp), if_pos (by omega), if_pos (by omega), if_pos (by omega)]
    · have e : wrap64 (a + b) = a + b := by unfold wrap64; omega
      rw [if_neg c2, e]
      by_cases c3 : a > 0
      · rw [if_pos c3]
        by_cases c4 : b > 0
        · rw [if_pos c4]
          simp only [PAdd.sat_Add.j0]
          rw [if_neg (by simp; omega), if_neg (by omega)]
        · rw [if_neg c4]
          simp only [PAdd.sat_Add.j0]
          rw [if_neg (by simp), if_neg (by omega)]
      · rw [if_neg c3]
        simp only [PAdd.sat_Add.j0]
        rw [if_neg (by simp)]
        by_cases c5 : a < 0
        · rw [if_pos c5]
          by_cases c6 : b < 0
          · rw [if_pos c6, if_neg (by omega)]
          · rw [if_neg c6]
        · rw [if_neg c5]
theorem radd_f (a b : Int) (ha : I64 a) (hb : I64 b) : PTallyFolds.nogginref01_Add.f 3 a b = some (sadd a b) := by
  unfold I64 at ha hb
  unfold PTallyFolds.nogginref01_Add.f sadd
  by_cases c0 : b > 0
  · have e : wrap64 (9223372036854775807 - b) = 9223372036854775807 - b := by unfold wrap64; omega
    rw [if_pos c0, e]
    by_cases c1 : 9223372036854775807 < a + b
    · rw [if_pos c1]
      simp only [PTallyFolds.nogginref01_Add.j0]
      rw [if_pos (by simp; omega)]
    · have e2 : wrap64 (a + b) = a + b := by unfold wrap64; omega
      rw [if_neg c1, if_neg (by omega)]
      simp only [PTallyFolds.nogginref01_Add.j0]
      rw [if_neg (by simp; omega), if_neg (by omega), e2]
  · rw [if_neg c0, if_neg (by omega)]
    simp only [PTallyFolds.nogginref01_Add.j0]
    rw [if_neg (by simp)]
    by_cases c2 : b < 0
    · have e : wrap64 ((-9223372036854775808) - b) = -9223372036854775808 - b := by unfold wrap64; omega
      rw [if_pos c2, e]
      by_cases c3 : a + b < -9223372036854775808
      · rw [if_pos c3, if_pos (by omega)]
      · have e2 : wrap64 (a + b) = a + b := by unfold wrap64; omega
        rw [if_neg c3, if_neg (by omega), e2]
    · have e2 : wrap64 (a + b) = a + b := by unfold wrap64; omega
      rw [if_neg c2, if_neg (by omega), e2]
theorem count_f (x : Int) (h : 0 ≤ x ∧ x ≤ 1000000) : PCount.sat_Count.f x 1 = some (x + 1, false) := by
  unfold PCount.sat_Count.f
  rw [IntWalk.u64_in _ (by omega), if_pos (by omega)]
theorem rcount_f (x : Int) (h : 0 ≤ x ∧ x ≤ 1000000) : PTallyFolds.nogginref01_Count.f x 1 = some (x + 1, false) := by
  unfold PTallyFolds.nogginref01_Count.f
  rw [IntWalk.u64_in _ (by omega), IntWalk.u64_in _ (by omega), if_neg (by omega)]

/-- buckets, as many as it wants at least -/
def ext (bs : List Int) (b : Nat) : List Int := bs ++ List.replicate (b + 1 - bs.length) 0
def bump (bs : List Int) (b : Nat) : List Int := (ext bs b).set b ((ext bs b).getD b 0 + 1)
theorem ext_len (bs : List Int) (b : Nat) : (ext bs b).length = max bs.length (b + 1) := by unfold ext; simp; omega
theorem bump_len (bs : List Int) (b : Nat) : (bump bs b).length = max bs.length (b + 1) := by unfold bump; rw [List.length_set, ext_len]
theorem ext_bd {m : Int} {bs : List Int} (h : ∀ x ∈ bs, 0 ≤ x ∧ x ≤ m) (hm : 0 ≤ m) (b : Nat) : ∀ x ∈ ext bs b, 0 ≤ x ∧ x ≤ m := by
  intro x hx
  unfold ext at hx
  rcases List.mem_append.1 hx with h1 | h1
  · exact h x h1
  · have := List.eq_of_mem_replicate h1
    omega
theorem getD_bd {m : Int} {bs : List Int} (h : ∀ x ∈ bs, 0 ≤ x ∧ x ≤ m) (hm : 0 ≤ m) (b : Nat) : 0 ≤ bs.getD b 0 ∧ bs.getD b 0 ≤ m := by
  rw [List.getD_eq_getElem?_getD]
  cases hb : bs[b]? with
  | none => exact ⟨Int.le_refl _, hm⟩
  | some x => exact h x (List.mem_of_getElem? hb)
theorem bump_bd {m : Int} {bs : List Int} (h : ∀ x ∈ bs, 0 ≤ x ∧ x ≤ m) (hm : 0 ≤ m) (b : Nat) : ∀ x ∈ bump bs b, 0 ≤ x ∧ x ≤ m + 1 := by
  intro x hx
  unfold bump at hx
  have h1 := getD_bd (ext_bd h hm b) hm b
  rcases List.mem_or_eq_of_mem_set hx with h2 | h2
  · have := ext_bd h hm b x h2
    omega
  · omega

/-- a row, but for its key -/
structure R where
  kind : Int
  many : Int
  sum : Int
  least : Int
  most : Int
  over : Bool
  b : List Int
def beginR (kind v : Int) : R := ⟨kind, 1, v, v, v, false, if kind = 3 then bump [] (bl v) else []⟩
def addR (r : R) (v : Int) : R :=
  ⟨r.kind, r.many + 1, if r.kind = 2 then v else (sadd r.sum v).1, if v < r.least then v else r.least, if r.most < v then v else r.most,
    if r.kind = 2 then r.over else (r.over || (sadd r.sum v).2), if r.kind = 3 then bump r.b (bl v) else r.b⟩
def foldR (kind : Int) : List Int → R
  | [] => ⟨0, 0, 0, 0, 0, false, []⟩
  | v :: l => l.foldl addR (beginR kind v)
/-- a row that may be, of so many values -/
structure Ok (k : Nat) (r : R) : Prop where
  many : r.many = k
  sum : I64 r.sum
  least : I64 r.least
  most : I64 r.most
  len : r.b.length ≤ 64
  b : ∀ x ∈ r.b, 0 ≤ x ∧ x ≤ k
theorem begin_ok (kind v : Int) (h : I64 v) : Ok 1 (beginR kind v) := by
  refine ⟨rfl, h, h, h, ?_, ?_⟩
  · unfold beginR
    by_cases c : kind = 3
    · simp only [c, if_true]
      have := bl_le v h
      rw [bump_len]
      simp
      omega
    · simp [c]
  · unfold beginR
    by_cases c : kind = 3
    · simp only [c, if_true]
      exact bump_bd (m := 0) (by simp) (Int.le_refl 0) _
    · simp [c]
theorem add_ok {k : Nat} {r : R} (h : Ok k r) (v : Int) (hv : I64 v) : Ok (k + 1) (addR r v) := by
  have h1 := h.least
  have h2 := h.most
  refine ⟨by show r.many + 1 = _; rw [h.many]; omega, ?_, ?_, ?_, ?_, ?_⟩
  · unfold addR
    by_cases c : r.kind = 2
    · simp [c]; exact hv
    · simp [c]; exact sadd_in _ _
  · unfold addR
    by_cases c : v < r.least
    · simp [c]; exact hv
    · simp [c]; exact h1
  · unfold addR
    by_cases c : r.most < v
    · simp [c]; exact hv
    · simp [c]; exact h2
  · unfold addR
    by_cases c : r.kind = 3
    · simp only [c, if_true]
      have := bl_le v hv
      have := h.len
      rw [bump_len]
      omega
    · simp [c]; exact h.len
  · unfold addR
    by_cases c : r.kind = 3
    · simp only [c, if_true]
      exact bump_bd h.b (by omega) _
    · simp only [c, if_false]
      intro x hx
      have := h.b x hx
      omega
theorem fold_take (kind : Int) (l : List Int) (k : Nat) (hk : k < l.length) (h0 : 0 < k) : foldR kind (l.take (k + 1)) = addR (foldR kind (l.take k)) (l.getD k 0) := by
  cases l with
  | nil => simp at hk
  | cons v l =>
    obtain ⟨k, rfl⟩ : ∃ m, k = m + 1 := ⟨k - 1, by omega⟩
    have hk' : k < l.length := by simpa using hk
    have e : l.getD k 0 = l[k] := by rw [List.getD_eq_getElem?_getD, List.getElem?_eq_getElem hk']; rfl
    show (l.take (k + 1)).foldl addR (beginR kind v) = addR ((l.take k).foldl addR (beginR kind v)) ((v :: l).getD (k + 1) 0)
    rw [List.take_succ_eq_append_getElem hk', List.foldl_append, List.getD_cons_succ, e]
    rfl
theorem fold_ok (kind : Int) (l : List Int) (hl : ∀ x ∈ l, I64 x) : ∀ k, 0 < k → k ≤ l.length → Ok k (foldR kind (l.take k)) := by
  intro k
  induction k with
  | zero => intro h; omega
  | succ k ih =>
    intro _ hk
    have hg : ∀ j, j < l.length → I64 (l.getD j 0) := fun j hj => by
      rw [List.getD_eq_getElem?_getD, List.getElem?_eq_getElem hj]
      exact hl _ (List.getElem_mem hj)
    by_cases h0 : k = 0
    · subst h0
      cases l with
      | nil => simp at hk
      | cons v l => exact begin_ok kind v (hl v List.mem_cons_self)
    · rw [fold_take kind l k (by omega) (by omega)]
      exact add_ok (ih (by omega) (by omega)) _ (hg k (by omega))
theorem same_from (k : Nat) (s : ByteArray) (i1 i2 i3 i4 i5 : Int) (b : Bool) (l : List Int) (hl : l.length ≤ 1000) : ∀ (d k : Nat) (i : Int), 0 ≤ i → i ≤ l.length → (l.length : Int) - i = d → d < k →
    PTallyFolds.nogginref06_SameRow.l0 k i s i1 i2 i3 i4 i5 b l s i1 i2 i3 i4 i5 b l = some true := by
  intro d
  induction d with
  | zero =>
    intro k i h0 h1 hd hk
    obtain ⟨k, rfl⟩ : ∃ m, k = m + 1 := ⟨k - 1, by omega⟩
    simp only [PTallyFolds.nogginref06_SameRow.l0]
    rw [if_neg (by omega)]
  | succ d ih =>
    intro k i h0 h1 hd hk
    obtain ⟨k, rfl⟩ : ∃ m, k = m + 1 := ⟨k - 1, by omega⟩
    have e : wrap64 (i + 1) = i + 1 := by unfold wrap64; omega
    simp only [PTallyFolds.nogginref06_SameRow.l0]
    rw [if_pos (by omega), if_pos (by omega), if_pos (by omega), if_pos trivial, e]
    exact ih k (i + 1) (by omega) (by omega) (by omega) (by omega)
theorem same_f (s : ByteArray) (r : R) (hl : r.b.length ≤ 1000) : PTallyFolds.nogginref06_SameRow.f 1003 s r.kind r.many r.sum r.least r.most r.over r.b s r.kind r.many r.sum r.least r.most r.over r.b = some true := by
  unfold PTallyFolds.nogginref06_SameRow.f
  rw [if_pos rfl, if_pos rfl, if_pos rfl, if_pos rfl, if_pos rfl, if_pos rfl]
  rw [if_neg (by simp)]
  have e : ((r.b.length : Int) != (r.b.length : Int)) = false := by simp
  rw [e]
  simp only [PTallyFolds.nogginref06_SameRow.j0]
  rw [if_neg (by simp)]
  exact same_from 0 _ _ _ _ _ _ _ _ hl r.b.length 1002 0 (by omega) (by omega) (by omega) (by omega)
end Go.Proofs.Ytjnjkgoofkgiiaa.Tally
