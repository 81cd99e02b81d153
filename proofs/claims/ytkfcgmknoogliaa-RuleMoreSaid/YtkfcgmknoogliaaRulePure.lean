/- The plain side of layer 14's RuleMore: rules as a list. -/
import Derived.Test.YtkfcgmknoogliaaQRuleMorex2
import Derived.Test.YtkfcgmknoogliaaOpens
import Derived.KernelRfl
set_option linter.unusedVariables false
namespace Go.Proofs.Ytkfcgmknoogliaa.Rule
open Go.RowKit Go.Proofs.YtkfcgmknoogliaaW.PrintWords Go.Proofs.YtkfcgmknoogliaaW.PrintLast Go.Proofs.Ytkfcgmknoogliaa.QRuleMore

abbrev R := QRuleMore.S62
/-- does a key begin so? -/
def pre (key p : ByteArray) : Bool := decide (p.size ≤ key.size) && ((key.extract 0 p.size).toList == p.toList)
def okR (c : Int) (r : R) : Bool := decide (r.f0.size ≤ 300) && decide (0 ≤ r.f1) && decide (r.f1 < c)
def mayB (l : List R) (c : Int) : Bool := l.all (okR c) && (decide (l.length ≤ 10) && decide (1 ≤ c) && decide (c ≤ 4))
def classOf (c : Int) (key : ByteArray) : List R → Int
  | [] => c - 1
  | r :: l => if pre key r.f0 = true then r.f1 else classOf c key l

theorem wrap_up {i : Int} (h0 : 0 ≤ i) (h1 : i ≤ 9223372036854775806) : wrap64 (i + 1) = i + 1 := by unfold wrap64; omega
theorem drop_at (l : List R) (i : Int) (h0 : 0 ≤ i) (h1 : i < (l.length : Int)) : l.drop i.toNat = rd_T62 l i :: l.drop (i + 1).toNat := by
  have hi : i.toNat < l.length := by omega
  rw [List.drop_eq_getElem_cons hi]
  congr 1
  · unfold rd_T62
    simp [List.getD, hi]
  · congr 1
    omega

theorem prefix_eq (a b : ByteArray) : strings_HasPrefix.f a b = some (pre a b) := by
  unfold strings_HasPrefix.f stringslite_HasPrefix.f pre
  by_cases h : b.size ≤ a.size
  · rw [if_pos (by omega), if_pos (by omega), if_pos (by omega), decide_eq_true h]
    simp
  · rw [if_neg (by omega), decide_eq_false h]
    simp

theorem may_step (k : Nat) (x0 : List R) (x1 : Int) (x7 : List R) (x8 x9 : Int) : rule_May.l0 (k + 1) x0 x1 x7 x8 x9 =
    if x9 < x8 then (if 0 ≤ x9 then (if x9 < (x7.length : Int) then (if (((rd_T62 x7 x9).f0).size : Int) > 300 then (some false) else (if ((rd_T62 x7 x9).f1) < 0 then (some false) else (if ((rd_T62 x7 x9).f1) ≥ x1 then (some false) else (rule_May.l0 k x0 x1 x7 x8 (wrap64 (x9 + 1)))))) else (none)) else (none)) else (if (x0.length : Int) ≤ 10 then (if x1 ≥ 1 then (some (decide (x1 ≤ 4))) else (some false)) else (some false)) := rfl
theorem may_from (l : List R) (c : Int) (hl : (l.length : Int) ≤ 9223372036854775807) (d : Nat) : ∀ (k : Nat) (i : Int), d < k → 0 ≤ i → i ≤ l.length → (l.length : Int) - i = d →
    rule_May.l0 k l c l (l.length : Int) i = some ((l.drop i.toNat).all (okR c) && (decide (l.length ≤ 10) && decide (1 ≤ c) && decide (c ≤ 4))) := by
  induction d with
  | zero =>
    intro k i hk h0 h1 hd
    obtain ⟨k, rfl⟩ : ∃ m, k = m + 1 := ⟨k - 1, by omega⟩
    rw [may_step, if_neg (by omega), List.drop_eq_nil_of_le (by omega)]
    by_cases h10 : l.length ≤ 10
    · rw [if_pos (by omega), decide_eq_true h10]
      by_cases h1 : 1 ≤ c
      · rw [if_pos h1, decide_eq_true h1]; simp
      · rw [if_neg h1, decide_eq_false h1]; simp
    · rw [if_neg (by omega), decide_eq_false h10]; simp
  | succ d ih =>
    intro k i hk h0 h1 hd
    obtain ⟨k, rfl⟩ : ∃ m, k = m + 1 := ⟨k - 1, by omega⟩
    rw [may_step, if_pos (by omega), if_pos h0, if_pos (by omega), wrap_up h0 (by omega), drop_at l i h0 (by omega), List.all_cons]
    generalize rd_T62 l i = r
    by_cases c1 : r.f0.size ≤ 300
    · rw [if_neg (by omega)]
      by_cases c2 : 0 ≤ r.f1
      · rw [if_neg (by omega)]
        by_cases c3 : r.f1 < c
        · have e : okR c r = true := by unfold okR; rw [decide_eq_true c1, decide_eq_true c2, decide_eq_true c3]; rfl
          rw [if_neg (by omega), ih k (i + 1) (by omega) (by omega) (by omega) (by omega), e, Bool.true_and]
        · have e : okR c r = false := by unfold okR; rw [decide_eq_false c3, Bool.and_false]
          rw [if_pos (by omega), e, Bool.false_and, Bool.false_and]
      · have e : okR c r = false := by unfold okR; rw [decide_eq_false c2, Bool.and_false, Bool.false_and]
        rw [if_pos (by omega), e, Bool.false_and, Bool.false_and]
    · have e : okR c r = false := by unfold okR; rw [decide_eq_false c1, Bool.false_and, Bool.false_and]
      rw [if_pos (by omega), e, Bool.false_and, Bool.false_and]
theorem may_eq (l : List R) (c : Int) (hl : (l.length : Int) ≤ 9223372036854775807) (k : Nat) (hk : l.length < k) : rule_May.f k l c = some (mayB l c) :=
  may_from l c hl l.length k 0 hk (by omega) (by omega) (by omega)

theorem class_step (k : Nat) (x1 : Int) (x2 : ByteArray) (x15 : List R) (x16 x17 : Int) : rule_Class.l0 (k + 1) x1 x2 x15 x16 x17 =
    if x17 < x16 then (if 0 ≤ x17 then (if x17 < (x15.length : Int) then ((strings_HasPrefix.f x2 ((rd_T62 x15 x17).f0)).bind fun t107 => (if t107 = true then (some ((rd_T62 x15 x17).f1, none)) else (rule_Class.l0 k x1 x2 x15 x16 (wrap64 (x17 + 1))))) else (none)) else (none)) else (some (wrap64 (x1 - 1), none)) := rfl
theorem class_from (l : List R) (c : Int) (key : ByteArray) (hl : (l.length : Int) ≤ 9223372036854775807) (hc : 1 ≤ c ∧ c ≤ 4) (d : Nat) : ∀ (k : Nat) (i : Int), d < k → 0 ≤ i → i ≤ l.length → (l.length : Int) - i = d →
    rule_Class.l0 k c key l (l.length : Int) i = some (classOf c key (l.drop i.toNat), none) := by
  induction d with
  | zero =>
    intro k i hk h0 h1 hd
    obtain ⟨k, rfl⟩ : ∃ m, k = m + 1 := ⟨k - 1, by omega⟩
    rw [class_step, if_neg (by omega), List.drop_eq_nil_of_le (by omega), show wrap64 (c - 1) = c - 1 by unfold wrap64; omega]
    rfl
  | succ d ih =>
    intro k i hk h0 h1 hd
    obtain ⟨k, rfl⟩ : ∃ m, k = m + 1 := ⟨k - 1, by omega⟩
    rw [class_step, if_pos (by omega), if_pos h0, if_pos (by omega), wrap_up h0 (by omega), drop_at l i h0 (by omega), prefix_eq, Option.bind_some]
    by_cases hp : pre key (rd_T62 l i).f0 = true
    · rw [if_pos hp]; unfold classOf; rw [if_pos hp]
    · rw [if_neg hp, ih k (i + 1) (by omega) (by omega) (by omega) (by omega)]
      conv => rhs; unfold classOf
      rw [if_neg hp]
theorem class_eq (l : List R) (c : Int) (key : ByteArray) (hl : (l.length : Int) ≤ 9223372036854775807) (k : Nat) (hk : l.length < k) :
    rule_Class.f k l c key = some (if mayB l c = true then (classOf c key l, none) else (0, some 1)) := by
  unfold rule_Class.f
  rw [may_eq l c hl k hk, Option.bind_some]
  by_cases h : mayB l c = true
  · have hc : 1 ≤ c ∧ c ≤ 4 := by unfold mayB at h; simp at h; omega
    rw [if_pos h, if_pos h, class_from l c key hl hc l.length k 0 hk (by omega) (by omega) (by omega)]
    rfl
  · rw [if_neg h, if_neg h]

theorem extract_take (s : ByteArray) (k : Nat) : (s.extract 0 k).toList = s.data.toList.take k := by
  rw [ByteArray.toList_eq]
  simp [ByteArray.data_extract]
theorem pre_iff (key p : ByteArray) : pre key p = true ↔ p.data.toList <+: key.data.toList := by
  unfold pre
  have hs : p.size = p.data.toList.length := by rw [Array.length_toList]; rfl
  have hk : key.size = key.data.toList.length := by rw [Array.length_toList]; rfl
  rw [Bool.and_eq_true, decide_eq_true_eq, beq_iff_eq, extract_take, ByteArray.toList_eq, List.prefix_iff_eq_take, ← hs]
  constructor
  · rintro ⟨_, h⟩; exact h.symm
  · intro h
    refine ⟨?_, h.symm⟩
    have := congrArg List.length h
    rw [List.length_take] at this
    omega
theorem pre_trans (a b c : ByteArray) (h1 : pre b a = true) (h2 : pre c b = true) : pre c a = true := by
  rw [pre_iff] at *
  exact h1.trans h2

/-- does one of the rules' Prefixes begin p? -/
def metOf (p : ByteArray) (l : List R) : Bool := l.any fun r => pre p r.f0
theorem classOf_bd (c : Int) (key : ByteArray) (l : List R) (hc : 1 ≤ c) (h : l.all (okR c) = true) : 0 ≤ classOf c key l ∧ classOf c key l < c := by
  induction l with
  | nil => unfold classOf; omega
  | cons r l ih =>
    rw [List.all_cons, Bool.and_eq_true] at h
    unfold classOf
    by_cases hp : pre key r.f0 = true
    · rw [if_pos hp]
      have := h.1
      unfold okR at this
      simp at this
      omega
    · rw [if_neg hp]; exact ih h.2
theorem classOf_snoc (c : Int) (key : ByteArray) (l : List R) (r : R) (h : metOf r.f0 l = true ∨ pre key r.f0 = false) : classOf c key (l ++ [r]) = classOf c key l := by
  induction l with
  | nil =>
    rcases h with h | h
    · simp [metOf] at h
    · simp [classOf, h]
  | cons q l ih =>
    rw [List.cons_append]
    unfold classOf
    by_cases hq : pre key q.f0 = true
    · rw [if_pos hq, if_pos hq]
    · rw [if_neg hq, if_neg hq]
      by_cases hk : pre key r.f0 = false
      · exact ih (.inr hk)
      · refine ih (.inl ?_)
        rcases h with h | h
        · unfold metOf at h
          rw [List.any_cons, Bool.or_eq_true] at h
          rcases h with h | h
          · exact absurd (pre_trans _ _ _ h (by simpa using hk)) hq
          · exact h
        · exact absurd h hk

/-- the statement's own loop, and what stands behind it -/
theorem law_step (k : Nat) (x0 : List R) (x1 : Int) (x3 : ByteArray) (x9 : Bool) (x11 x13 : Int) (x15 : Bool) (x16 : Int) (x110000 : ByteArray) (x110001 : Int) : nogginlaw14_RuleMore.l0 (k + 1) x0 x1 x3 x9 x11 x13 x15 x16 x110000 x110001 =
    if x16 < (x0.length : Int) then (if 0 ≤ x16 then (if (((rd_T62 x0 x16).f0).size : Int) ≤ (x110000.size : Int) then (if x15 = true then (nogginlaw14_RuleMore.l0 k x0 x1 x3 x9 x11 x13 true (wrap64 (x16 + 1)) x110000 x110001) else (if 0 ≤ (((rd_T62 x0 x16).f0).size : Int) then (nogginlaw14_RuleMore.l0 k x0 x1 x3 x9 x11 x13 ((x110000.extract 0 ((((rd_T62 x0 x16).f0).size : Int) : Int).toNat).toList == ((rd_T62 x0 x16).f0).toList) (wrap64 (x16 + 1)) x110000 x110001) else (none))) else (nogginlaw14_RuleMore.l0 k x0 x1 x3 x9 x11 x13 x15 (wrap64 (x16 + 1)) x110000 x110001)) else (none)) else (if (x110000.size : Int) ≤ (x3.size : Int) then (if 0 ≤ (x110000.size : Int) then (if x9 = true then (if x11 ≥ 0 then (if x11 < x1 then (if x13 < x1 then (if x15 = true then (some (x11 == x13)) else (if (x3.extract 0 ((x110000.size : Int) : Int).toNat).toList = x110000.toList then (some true) else (some (x11 == x13)))) else (some false)) else (some false)) else (some false)) else (some false)) else (none)) else (if x9 = true then (if x11 ≥ 0 then (if x11 < x1 then (if x13 < x1 then (if x15 = true then (some (x11 == x13)) else (some (x11 == x13))) else (some false)) else (some false)) else (some false)) else (some false))) := by rw [nogginlaw14_RuleMore.l0]

theorem law_end (k : Nat) (l : List R) (c : Int) (key p : ByteArray) (q a b : Int) (met : Bool) (i : Int) (hi : ¬ i < (l.length : Int)) (h1 : 0 ≤ a) (h2 : a < c) (h3 : b < c) (h4 : a = b ∨ met = false ∧ pre key p = true) :
    nogginlaw14_RuleMore.l0 (k + 1) l c key true a b met i p q = some true := by
  rw [law_step, if_neg hi]
  have hab : a = b → (a == b) = true := fun h => by rw [h]; exact beq_self_eq_true b
  by_cases hs : (p.size : Int) ≤ (key.size : Int)
  · rw [if_pos hs, if_pos (by omega), if_pos rfl, if_pos h1, if_pos h2, if_pos h3]
    rcases h4 with h4 | ⟨rfl, h4⟩
    · rw [hab h4]
      split
      · rfl
      · split <;> rfl
    · rw [if_neg (by decide)]
      unfold pre at h4
      rw [Bool.and_eq_true, beq_iff_eq] at h4
      rw [if_pos (by simpa using h4.2)]
  · rw [if_neg hs, if_pos rfl, if_pos h1, if_pos h2, if_pos h3]
    rcases h4 with h4 | ⟨_, h4⟩
    · rw [hab h4]; split <;> rfl
    · unfold pre at h4
      simp at h4
      omega

theorem law_from (l : List R) (c : Int) (key p : ByteArray) (q a b : Int) (hl : (l.length : Int) ≤ 9223372036854775807) (h1 : 0 ≤ a) (h2 : a < c) (h3 : b < c) (h4 : a = b ∨ metOf p l = false ∧ pre key p = true) (d : Nat) :
    ∀ (k : Nat) (i : Int) (met : Bool), d < k → 0 ≤ i → i ≤ l.length → (l.length : Int) - i = d → (met || metOf p (l.drop i.toNat)) = metOf p l →
      nogginlaw14_RuleMore.l0 k l c key true a b met i p q = some true := by
  induction d with
  | zero =>
    intro k i met hk h0 hi hd hm
    obtain ⟨k, rfl⟩ : ∃ m, k = m + 1 := ⟨k - 1, by omega⟩
    rw [List.drop_eq_nil_of_le (by omega)] at hm
    refine law_end k l c key p q a b met i (by omega) h1 h2 h3 ?_
    rcases h4 with h4 | ⟨h4, h5⟩
    · exact .inl h4
    · rw [h4] at hm
      exact .inr ⟨by simpa [metOf] using hm, h5⟩
  | succ d ih =>
    intro k i met hk h0 hi hd hm
    obtain ⟨k, rfl⟩ : ∃ m, k = m + 1 := ⟨k - 1, by omega⟩
    have hlt : i < (l.length : Int) := by omega
    rw [drop_at l i h0 hlt] at hm
    rw [law_step, if_pos hlt, if_pos h0, wrap_up h0 (by omega)]
    generalize hr : rd_T62 l i = r at hm ⊢
    have hm' : (met || (pre p r.f0 || metOf p (l.drop (i + 1).toNat))) = metOf p l := hm
    by_cases hs : (r.f0.size : Int) ≤ (p.size : Int)
    · rw [if_pos hs]
      by_cases ht : met = true
      · subst ht
        rw [if_pos rfl]
        refine ih k (i + 1) true (by omega) (by omega) (by omega) (by omega) ?_
        rw [Bool.true_or] at hm' ⊢
        exact hm'
      · rw [if_neg ht, if_pos (by omega)]
        have ht' : met = false := by simpa using ht
        have e : ((p.extract 0 (((r.f0.size : Int) : Int).toNat)).toList == r.f0.toList) = pre p r.f0 := by
          unfold pre
          rw [decide_eq_true (by omega), Bool.true_and]
          rfl
        rw [e]
        refine ih k (i + 1) (pre p r.f0) (by omega) (by omega) (by omega) (by omega) ?_
        rw [ht', Bool.false_or] at hm'
        exact hm'
    · rw [if_neg hs]
      refine ih k (i + 1) met (by omega) (by omega) (by omega) (by omega) ?_
      have e : pre p r.f0 = false := by unfold pre; rw [decide_eq_false (by omega), Bool.false_and]
      rw [e, Bool.false_or] at hm'
      exact hm'

theorem few_some (l : List R) (hl : (l.length : Int) ≤ 9223372036854775807) (d : Nat) : ∀ (k : Nat) (i : Int), d < k → 0 ≤ i → i ≤ l.length → (l.length : Int) - i = d → ∃ b, nogginref14_FewRules.l0 k l i = some b := by
  induction d with
  | zero =>
    intro k i hk h0 h1 hd
    obtain ⟨k, rfl⟩ : ∃ m, k = m + 1 := ⟨k - 1, by omega⟩
    exact ⟨_, by rw [nogginref14_FewRules.l0, if_neg (by omega)]⟩
  | succ d ih =>
    intro k i hk h0 h1 hd
    obtain ⟨k, rfl⟩ : ∃ m, k = m + 1 := ⟨k - 1, by omega⟩
    obtain ⟨b, hb⟩ := ih k (i + 1) (by omega) (by omega) (by omega) (by omega)
    rw [nogginref14_FewRules.l0, if_pos (by omega), if_pos h0, wrap_up h0 (by omega)]
    split
    · exact ⟨_, rfl⟩
    · exact ⟨b, hb⟩

theorem j0_true (k : Nat) (l : List R) (c : Int) (key : ByteArray) (p : ByteArray) (q : Int) : nogginlaw14_RuleMore.j0 (k + 1) l c key true true p q = some true := by
  rw [nogginlaw14_RuleMore.j0, if_pos rfl]
theorem j1_true (k : Nat) (l : List R) (c : Int) (key : ByteArray) (a b : Int) (p : ByteArray) (q : Int) : nogginlaw14_RuleMore.j1 (k + 1) l c key true a b true p q = some true := by
  rw [nogginlaw14_RuleMore.j1, if_pos rfl]
theorem j0_false (k : Nat) (l : List R) (c : Int) (key : ByteArray) (p : ByteArray) (q : Int) (hl : (l.length : Int) ≤ 40) (hk : l.length + 3 < k) : nogginlaw14_RuleMore.j0 (k + 1) l c key true false p q = some true := by
  rw [nogginlaw14_RuleMore.j0, if_neg (by decide), class_eq l c key (by omega) k (by omega)]
  simp only [Option.bind_some, List.length_nil, List.nil_append, List.length_cons]
  rw [if_pos (by omega), if_pos (by omega), class_eq (l ++ [(⟨p, q⟩ : R)]) c key (by simp; omega) k (by simp; omega)]
  simp only [Option.bind_some]
  obtain ⟨k, rfl⟩ : ∃ m, k = m + 1 := ⟨k - 1, by omega⟩
  by_cases h1 : mayB l c = true
  · rw [if_pos h1]
    simp only [Option.isNone_none, if_true]
    by_cases h2 : mayB (l ++ [(⟨p, q⟩ : R)]) c = true
    · rw [if_pos h2]
      simp only [Option.isNone_none, if_true]
      rw [nogginlaw14_RuleMore.j1, if_neg (by decide)]
      unfold mayB at h1 h2
      rw [Bool.and_eq_true, Bool.and_eq_true, Bool.and_eq_true, decide_eq_true_eq, decide_eq_true_eq, decide_eq_true_eq] at h1 h2
      obtain ⟨a1, ⟨a2, a3⟩, a4⟩ := h1
      obtain ⟨b1, ⟨b2, b3⟩, b4⟩ := h2
      have ha := classOf_bd c key l a3 a1
      have hb := classOf_bd c key _ a3 b1
      refine law_from l c key p q _ _ (by omega) ha.1 ha.2 hb.2 ?_ l.length k 0 false (by omega) (by omega) (by omega) (by omega) (by simp)
      by_cases h : metOf p l = true ∨ pre key p = false
      · exact .inl (classOf_snoc c key l ⟨p, q⟩ h).symm
      · refine .inr ⟨?_, ?_⟩
        · cases hm : metOf p l with
          | false => rfl
          | true => exact absurd (.inl hm) h
        · cases hp : pre key p with
          | true => rfl
          | false => exact absurd (.inr hp) h
    · rw [if_neg h2]
      simp only [Option.isNone_some, Bool.false_eq_true, if_false]
      exact j1_true k l c key _ _ p q
  · rw [if_neg h1]
    simp only [Option.isNone_some, Bool.false_eq_true, if_false]
    exact j1_true k l c key _ _ p q

theorem few_le (l : List R) (hl : (l.length : Int) ≤ 9223372036854775807) (d : Nat) : ∀ (k : Nat) (i : Int), d < k → 0 ≤ i → i ≤ l.length → (l.length : Int) - i = d → nogginref14_FewRules.l0 k l i = some true → (l.length : Int) ≤ 40 := by
  induction d with
  | zero =>
    intro k i hk h0 h1 hd h
    obtain ⟨k, rfl⟩ : ∃ m, k = m + 1 := ⟨k - 1, by omega⟩
    rw [nogginref14_FewRules.l0, if_neg (by omega)] at h
    simpa using h
  | succ d ih =>
    intro k i hk h0 h1 hd h
    obtain ⟨k, rfl⟩ : ∃ m, k = m + 1 := ⟨k - 1, by omega⟩
    rw [nogginref14_FewRules.l0, if_pos (by omega), if_pos h0, wrap_up h0 (by omega)] at h
    split at h
    · simp at h
    · exact ih k (i + 1) (by omega) (by omega) (by omega) (by omega) h

theorem law_eq (l : List R) (c : Int) (p : ByteArray) (q : Int) (key : ByteArray) (hl : (l.length : Int) ≤ 9223372036854775807) : nogginlaw14_RuleMore.f (l.length + 50) l c p q key = some true := by
  unfold nogginlaw14_RuleMore.f nogginlaw14_up.f nogginref14_FewRules.f
  obtain ⟨b, hb⟩ := few_some l hl l.length (l.length + 50) 0 (by omega) (by omega) (by omega) (by omega)
  rw [hb]
  simp only [Option.bind_some]
  cases b with
  | false => rw [if_neg (by decide)]; exact j0_true _ l c key p q
  | true =>
    have h40 := few_le l hl l.length (l.length + 50) 0 (by omega) (by omega) (by omega) (by omega) hb
    rw [if_pos rfl]
    by_cases hp : (p.size : Int) > 300
    · rw [if_pos hp]; exact j0_true _ l c key p q
    · rw [if_neg hp]
      by_cases hk : (key.size : Int) > 3000
      · rw [decide_eq_true hk]; exact j0_true _ l c key p q
      · rw [decide_eq_false hk]; exact j0_false _ l c key p q h40 (by omega)

theorem more_any (A0 : Option Addr) (c0 : Nat) (l : List R) (c : Int) (p : ByteArray) (q : Int) (key : ByteArray) (w : World) (hr : Kd.C k62 w A0 l.length l) (hc : l.length ≤ c0) (hl : l.length ≤ 9223372036854775807) :
    Calls Try.prog 14 #[.slice A0 l.length c0, .int .i64 c, .agg #[.string p, .int .i64 q], .string key] w fun e w' => e = .returned (.bool true) ∧ Below w.heap.size w w' :=
  nogginlaw14_RuleMore.calls (l.length + 50) A0 c0 l c p q key true w hr hc (law_eq l c p q key (by omega))

theorem opensR : Opens.Opens Try.prog QRuleMore.k62 (fun r => (r.f0.size ≤ 9223372036854775807 ∧ (Lit.int .i64 r.f1).wf = true)) 62 :=
  Opens.opens_struct (fun x : QRuleMore.S62 => (x.f0, x.f1)) (fun p => ⟨p.1, p.2⟩) (fun _ => rfl) Try.underlying62 (by kernel_rfl)
    (Opens.opensF_cons rfl (by kernel_rfl) (Opens.opens_string Try.underlying9) (Opens.opensF_one rfl (by kernel_rfl) (Opens.opens_int Try.underlying3)))
end Go.Proofs.Ytkfcgmknoogliaa.Rule
