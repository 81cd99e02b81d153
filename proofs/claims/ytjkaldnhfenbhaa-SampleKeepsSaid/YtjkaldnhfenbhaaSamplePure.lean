/- The plain side of layer 15: what thresholds are; that the program's and the document's text tell the same. -/
import Derived.Test.YtjkaldnhfenbhaaMixSPure
import Derived.Test.YtjkaldnhfenbhaaPSampleKeepsx1
import Derived.Test.YtjkaldnhfenbhaaPSampleKeepsx3
set_option linter.unusedVariables false
namespace Go.Proofs.Ytjkaldnhfenbhaa.Sample
open Go.RowKit Go.Proofs.YtjkaldnhfenbhaaW.PrintWords Go.Proofs.YtjkaldnhfenbhaaW.PrintLast Go.Proofs.Ytjkaldnhfenbhaa.PSampleKeeps

def SortedTo (x : List Int) (n : Nat) : Prop := ∀ i, 0 < i → i < n → x.getD (i - 1) 0 ≤ x.getD i 0
structure RowP (n0 : Nat) (x : List Int) : Prop where
  lo : 1 ≤ x.length
  hi : x.length ≤ 8
  eq : x.length = n0
  zero : x.getD 0 0 = 0
  up : SortedTo x x.length
  last : x.getD (x.length - 1) 0 ≤ 65536
structure MayP (l : List (List Int)) : Prop where
  lo : 1 ≤ l.length
  hi : l.length ≤ 4
  row : ∀ j, j < l.length → RowP (l.getD 0 []).length (l.getD j [])

theorem less_f (a b : Int) : cmp_Less_int.f a b = some (decide (a < b)) := by
  unfold cmp_Less_int.f cmp_isNaN_int.f
  simp
theorem wrap_dn {i : Int} (h0 : 0 ≤ i) (h1 : i ≤ 9223372036854775806) : wrap64 (i - 1) = i - 1 := by unfold wrap64; omega
theorem wrap_up {i : Int} (h0 : 0 ≤ i) (h1 : i ≤ 9223372036854775806) : wrap64 (i + 1) = i + 1 := by unfold wrap64; omega

theorem sorted_from (x : List Int) (hx : x.length ≤ 1000) : ∀ (d k : Nat) (i : Int), (d : Int) = (if i ≤ 0 then 0 else i) → i < x.length → d < k →
    ∃ b, slices_IsSorted_int_int.l0 k x i = some b ∧ (b = true ↔ SortedTo x (i + 1).toNat) := by
  intro d
  induction d with
  | zero =>
    intro k i hd hi hk
    obtain ⟨k, rfl⟩ : ∃ m, k = m + 1 := ⟨k - 1, by omega⟩
    have h0 : i ≤ 0 := by
      by_cases h : i ≤ 0
      · exact h
      · rw [if_neg h] at hd
        omega
    refine ⟨true, ?_, ?_⟩
    · simp only [slices_IsSorted_int_int.l0]
      rw [if_neg (by omega)]
    · simp only [true_iff]
      intro j h1 h2
      omega
  | succ d ih =>
    intro k i hd hi hk
    obtain ⟨k, rfl⟩ : ∃ m, k = m + 1 := ⟨k - 1, by omega⟩
    have h0 : ¬ i ≤ 0 := by
      intro h
      rw [if_pos h] at hd
      omega
    rw [if_neg h0] at hd
    have hw : wrap64 (i - 1) = i - 1 := wrap_dn (by omega) (by omega)
    simp only [slices_IsSorted_int_int.l0]
    rw [if_pos (by omega), if_pos (by omega), if_pos hi, hw, if_pos (by omega), if_pos (by omega), less_f]
    simp only [Option.bind_some]
    by_cases hl : rd x i < rd x (i - 1)
    · refine ⟨false, by simp [hl], ?_⟩
      simp only [Bool.false_eq_true, false_iff]
      intro hs
      have := hs i.toNat (by omega) (by omega)
      unfold rd at hl
      rw [show (i - 1).toNat = i.toNat - 1 by omega] at hl
      omega
    · obtain ⟨b, hb, hiff⟩ := ih k (i - 1) (by split <;> omega) (by omega) (by omega)
      refine ⟨b, by simp [hl, hb], hiff.trans ⟨fun hs j h1 h2 => ?_, fun hs j h1 h2 => hs j h1 (by omega)⟩⟩
      by_cases hj : j < (i - 1 + 1).toNat
      · exact hs j h1 hj
      · obtain rfl : j = i.toNat := by omega
        unfold rd at hl
        rw [show (i - 1).toNat = i.toNat - 1 by omega] at hl
        omega
theorem sorted_f (x : List Int) (hx : x.length ≤ 1000) (k : Nat) (hk : x.length < k) : ∃ b, slices_IsSorted_int_int.f k x = some b ∧ (b = true ↔ SortedTo x x.length) := by
  unfold slices_IsSorted_int_int.f
  have hw : wrap64 ((x.length : Int) - 1) = (x.length : Int) - 1 := by unfold wrap64; omega
  rw [hw]
  obtain ⟨b, hb, hiff⟩ := sorted_from x hx (x.length - 1) k ((x.length : Int) - 1) (by split <;> omega) (by omega) (by omega)
  refine ⟨b, hb, ?_⟩
  rwa [show ((x.length : Int) - 1 + 1).toNat = x.length by omega] at hiff

theorem may_from (l : List (List Int)) (hl : l.length ≤ 4) : ∀ (d k : Nat) (i : Int), 0 ≤ i → i ≤ l.length → (l.length : Int) - i = d → d + 20 < k →
    ∃ b, sample_May.l0 k l l (l.length : Int) i = some b ∧ (b = true ↔ ∀ j : Nat, i ≤ j → j < l.length → RowP (l.getD 0 []).length (l.getD j [])) := by
  intro d
  induction d with
  | zero =>
    intro k i h0 h1 hd hk
    obtain ⟨k, rfl⟩ : ∃ m, k = m + 1 := ⟨k - 1, by omega⟩
    refine ⟨true, ?_, ?_⟩
    · simp only [sample_May.l0]
      rw [if_neg (by omega)]
    · simp only [true_iff]
      intro j h1 h2
      omega
  | succ d ih =>
    intro k i h0 h1 hd hk
    obtain ⟨k, rfl⟩ : ∃ m, k = m + 1 := ⟨k - 1, by omega⟩
    have hw : wrap64 (i + 1) = i + 1 := wrap_up (by omega) (by omega)
    have e0 : rd_L1 l 0 = l.getD 0 [] := rfl
    have ei : rd_L1 l i = l.getD i.toNat [] := rfl
    have no : ∀ {P : Prop}, (RowP (l.getD 0 []).length (l.getD i.toNat []) → False) → (false = true ↔ ∀ j : Nat, i ≤ j → j < l.length → RowP (l.getD 0 []).length (l.getD j [])) := fun h => by
      simp only [Bool.false_eq_true, false_iff]
      intro hs
      exact h (hs i.toNat (by omega) (by omega))
    simp only [sample_May.l0]
    rw [if_pos (by omega), if_pos (by omega), if_pos (by omega), ei, e0]
    obtain ⟨x, hx⟩ : ∃ x, x = l.getD i.toNat [] := ⟨_, rfl⟩
    rw [← hx] at no ⊢
    by_cases c1 : (x.length : Int) < 1
    · exact ⟨false, by rw [if_pos c1], no (P := True) (fun h => by have := h.lo; omega)⟩
    · rw [if_neg c1]
      by_cases c2 : (x.length : Int) > 8
      · exact ⟨false, by rw [if_pos c2], no (P := True) (fun h => by have := h.hi; omega)⟩
      · rw [if_neg c2, if_pos (by omega)]
        by_cases c3 : (x.length : Int) = ((l.getD 0 []).length : Int)
        · rw [if_pos c3, if_pos (by omega)]
          by_cases c4 : rd x 0 = 0
          · rw [if_pos c4]
            obtain ⟨b, hb, hs⟩ := sorted_f x (by omega) k (by omega)
            rw [hb]
            simp only [Option.bind_some]
            have hw1 : wrap64 ((x.length : Int) - 1) = (x.length : Int) - 1 := by unfold wrap64; omega
            cases b with
            | false =>
              refine ⟨false, by simp, no (P := True) (fun h => by have := hs.2 h.up; simp at this)⟩
            | true =>
              have hup := hs.1 rfl
              rw [hw1, if_pos rfl, if_pos (by omega), if_pos (by omega)]
              have el : rd x ((x.length : Int) - 1) = x.getD (x.length - 1) 0 := by unfold rd; rw [show ((x.length : Int) - 1).toNat = x.length - 1 by omega]
              rw [el]
              by_cases c5 : x.getD (x.length - 1) 0 > 65536
              · exact ⟨false, by rw [if_pos c5], no (P := True) (fun h => by have := h.last; omega)⟩
              · rw [if_neg c5, hw]
                obtain ⟨b, hb, hiff⟩ := ih k (i + 1) (by omega) (by omega) (by omega) (by omega)
                refine ⟨b, hb, hiff.trans ⟨fun h j h1 h2 => ?_, fun h j h1 h2 => h j (by omega) h2⟩⟩
                by_cases hj : i + 1 ≤ (j : Int)
                · exact h j hj h2
                · obtain rfl : j = i.toNat := by omega
                  rw [← hx]
                  exact ⟨by omega, by omega, by omega, c4, hup, by omega⟩
          · exact ⟨false, by rw [if_neg c4], no (P := True) (fun h => c4 h.zero)⟩
        · exact ⟨false, by rw [if_neg c3], no (P := True) (fun h => by have := h.eq; omega)⟩
theorem may_f (l : List (List Int)) (k : Nat) (hk : 30 < k) : ∃ b, sample_May.f k l = some b ∧ (b = true ↔ MayP l) := by
  obtain ⟨k, rfl⟩ : ∃ m, k = m + 1 := ⟨k - 1, by omega⟩
  unfold sample_May.f
  by_cases c1 : (l.length : Int) < 1
  · refine ⟨false, by rw [if_pos c1]; simp [sample_May.j0], ?_⟩
    simp only [Bool.false_eq_true, false_iff]
    intro h
    have := h.lo
    omega
  · rw [if_neg c1]
    by_cases c2 : (l.length : Int) > 4
    · refine ⟨false, by simp [sample_May.j0, c2], ?_⟩
      simp only [Bool.false_eq_true, false_iff]
      intro h
      have := h.hi
      omega
    · obtain ⟨b, hb, hiff⟩ := may_from l (by omega) l.length k 0 (by omega) (by omega) (by omega) (by omega)
      have e : sample_May.j0 (k + 1) l (decide ((l.length : Int) > 4)) = sample_May.l0 k l l (l.length : Int) 0 := by
        simp only [sample_May.j0]
        rw [if_neg (by simp; omega)]
      refine ⟨b, by rw [e, hb], hiff.trans ⟨fun h => ⟨by omega, by omega, fun j hj => h j (by omega) hj⟩, fun h j _ hj => h.row j hj⟩⟩

theorem th_inner (l : List (List Int)) (i : Nat) (hi : i < l.length) (hl : l.length ≤ 4) (hx : (l.getD i []).length ≤ 8) : ∀ (d k : Nat) (j : Int), 1 ≤ j → ((l.getD i []).length : Int) - j = d ∨ (d = 0 ∧ ((l.getD i []).length : Int) ≤ j) → d < k →
    ((¬ (∀ q : Nat, j ≤ q → q < (l.getD i []).length → (l.getD i []).getD (q - 1) 0 ≤ (l.getD i []).getD q 0 ∧ (l.getD i []).getD q 0 ≤ 65536)) ∧ nogginref14_Thresholds.l1 k l i j = some false) ∨
    ((∀ q : Nat, j ≤ q → q < (l.getD i []).length → (l.getD i []).getD (q - 1) 0 ≤ (l.getD i []).getD q 0 ∧ (l.getD i []).getD q 0 ≤ 65536) ∧ ∃ k', k ≤ k' + d + 1 ∧ nogginref14_Thresholds.l1 k l i j = nogginref14_Thresholds.l0 k' l ((i : Int) + 1)) := by
  intro d
  have ei : rd_L1 l (i : Int) = l.getD i [] := rfl
  have hw : wrap64 ((i : Int) + 1) = (i : Int) + 1 := wrap_up (by omega) (by omega)
  induction d with
  | zero =>
    intro k j h1 hd hk
    obtain ⟨k, rfl⟩ : ∃ m, k = m + 1 := ⟨k - 1, by omega⟩
    refine .inr ⟨fun q h2 h3 => by omega, k, by omega, ?_⟩
    simp only [nogginref14_Thresholds.l1]
    rw [if_pos (by omega), if_pos (by omega), ei, if_neg (by omega), hw]
  | succ d ih =>
    intro k j h1 hd hk
    obtain ⟨k, rfl⟩ : ∃ m, k = m + 1 := ⟨k - 1, by omega⟩
    have hj : wrap64 (j - 1) = j - 1 := wrap_dn (by omega) (by omega)
    have hj1 : wrap64 (j + 1) = j + 1 := wrap_up (by omega) (by omega)
    simp only [nogginref14_Thresholds.l1]
    rw [if_pos (by omega), if_pos (by omega), ei, if_pos (by omega), if_pos (by omega), hj, if_pos (by omega), if_pos (by omega)]
    have r1 : rd (l.getD i []) j = (l.getD i []).getD j.toNat 0 := rfl
    have r2 : rd (l.getD i []) (j - 1) = (l.getD i []).getD (j.toNat - 1) 0 := by unfold rd; rw [show (j - 1).toNat = j.toNat - 1 by omega]
    rw [r1, r2]
    by_cases c1 : (l.getD i []).getD j.toNat 0 < (l.getD i []).getD (j.toNat - 1) 0
    · exact .inl ⟨fun h => by have := (h j.toNat (by omega) (by omega)).1; omega, by rw [if_pos c1]⟩
    · rw [if_neg c1]
      by_cases c2 : (l.getD i []).getD j.toNat 0 > 65536
      · exact .inl ⟨fun h => by have := (h j.toNat (by omega) (by omega)).2; omega, by rw [if_pos c2]⟩
      · rw [if_neg c2, hj1]
        rcases ih k (j + 1) (by omega) (by omega) (by omega) with ⟨h2, h3⟩ | ⟨h2, k', h3, h4⟩
        · exact .inl ⟨fun h => h2 (fun q h5 h6 => h q (by omega) h6), h3⟩
        · refine .inr ⟨fun q h5 h6 => ?_, k', by omega, h4⟩
          by_cases hq : j + 1 ≤ (q : Int)
          · exact h2 q hq h6
          · obtain rfl : q = j.toNat := by omega
            exact ⟨by omega, by omega⟩
theorem row_iff (n0 : Nat) (x : List Int) (h1 : 1 ≤ x.length) (h2 : x.length ≤ 8) (h3 : x.length = n0) (h4 : x.getD 0 0 = 0) :
    RowP n0 x ↔ ∀ q : Nat, (1 : Int) ≤ q → q < x.length → x.getD (q - 1) 0 ≤ x.getD q 0 ∧ x.getD q 0 ≤ 65536 := by
  constructor
  · intro h q hq hq2
    refine ⟨h.up q (by omega) hq2, ?_⟩
    have up : ∀ m : Nat, q + m < x.length → x.getD q 0 ≤ x.getD (q + m) 0 := by
      intro m
      induction m with
      | zero => intro _; exact Int.le_refl _
      | succ m ih =>
        intro hm
        have a := ih (by omega)
        have b := h.up (q + (m + 1)) (by omega) hm
        rw [show q + (m + 1) - 1 = q + m by omega] at b
        omega
    have a := up (x.length - 1 - q) (by omega)
    rw [show q + (x.length - 1 - q) = x.length - 1 by omega] at a
    have b := h.last
    omega
  · intro h
    refine ⟨h1, h2, h3, h4, fun i hi hi2 => (h i (by omega) hi2).1, ?_⟩
    by_cases hx : x.length = 1
    · rw [hx]
      show x.getD 0 0 ≤ 65536
      omega
    · exact (h (x.length - 1) (by omega) (by omega)).2
theorem th_from (l : List (List Int)) (hl : l.length ≤ 4) : ∀ (d k : Nat) (i : Nat), l.length - i = d → i ≤ l.length → d * 20 + 20 < k →
    ∃ b, nogginref14_Thresholds.l0 k l (i : Int) = some b ∧ (b = true ↔ ∀ j : Nat, i ≤ j → j < l.length → RowP (l.getD 0 []).length (l.getD j [])) := by
  intro d
  induction d with
  | zero =>
    intro k i hd h1 hk
    obtain ⟨k, rfl⟩ : ∃ m, k = m + 1 := ⟨k - 1, by omega⟩
    refine ⟨true, ?_, ?_⟩
    · simp only [nogginref14_Thresholds.l0]
      rw [if_neg (by omega)]
    · simp only [true_iff]
      intro j h1 h2
      omega
  | succ d ih =>
    intro k i hd h1 hk
    obtain ⟨k, rfl⟩ : ∃ m, k = m + 2 := ⟨k - 2, by omega⟩
    have e0 : rd_L1 l 0 = l.getD 0 [] := rfl
    have ei : rd_L1 l (i : Int) = l.getD i [] := rfl
    have no : (RowP (l.getD 0 []).length (l.getD i []) → False) → (false = true ↔ ∀ j : Nat, i ≤ j → j < l.length → RowP (l.getD 0 []).length (l.getD j [])) := fun h => by
      simp only [Bool.false_eq_true, false_iff]
      intro hs
      exact h (hs i (Nat.le_refl _) (by omega))
    have jt : nogginref14_Thresholds.j2 (k + 1) l (i : Int) true = some false := by simp [nogginref14_Thresholds.j2]
    simp only [nogginref14_Thresholds.l0]
    rw [if_pos (by omega), if_pos (by omega), ei, e0]
    by_cases c1 : ((l.getD i []).length : Int) < 1
    · exact ⟨false, by rw [if_pos c1, jt], no (fun h => by have := h.lo; omega)⟩
    · rw [if_neg c1]
      by_cases c2 : ((l.getD i []).length : Int) > 8
      · exact ⟨false, by rw [if_pos c2, jt], no (fun h => by have := h.hi; omega)⟩
      · rw [if_neg c2, if_pos (by omega)]
        by_cases c3 : ((l.getD i []).length : Int) = ((l.getD 0 []).length : Int)
        · have eb : (((l.getD i []).length : Int) != ((l.getD 0 []).length : Int)) = false := by rw [c3]; simp
          rw [eb]
          simp only [nogginref14_Thresholds.j2]
          rw [if_neg (by simp), if_pos (by omega), if_pos (by omega), ei, if_pos (by omega)]
          by_cases c4 : rd (l.getD i []) 0 = 0
          · rw [if_pos c4]
            have hiff := row_iff (l.getD 0 []).length (l.getD i []) (by omega) (by omega) (by omega) c4
            rcases th_inner l i (by omega) hl (by omega) ((l.getD i []).length - 1) k 1 (by omega) (by omega) (by omega) with ⟨h2, h3⟩ | ⟨h2, k', h3, h4⟩
            · exact ⟨false, h3, no (fun h => h2 (hiff.1 h))⟩
            · obtain ⟨b, hb, hi⟩ := ih k' (i + 1) (by omega) (by omega) (by omega)
              refine ⟨b, by rw [h4]; exact hb, hi.trans ⟨fun h j h5 h6 => ?_, fun h j h5 h6 => h j (by omega) h6⟩⟩
              by_cases hj : i + 1 ≤ j
              · exact h j hj h6
              · obtain rfl : j = i := by omega
                exact hiff.2 h2
          · exact ⟨false, by rw [if_neg c4], no (fun h => c4 h.zero)⟩
        · have eb : (((l.getD i []).length : Int) != ((l.getD 0 []).length : Int)) = true := by simpa using c3
          exact ⟨false, by rw [eb, jt], no (fun h => by have := h.eq; omega)⟩
theorem th_f (l : List (List Int)) (k : Nat) (hk : 200 < k) : ∃ b, nogginref14_Thresholds.f k l = some b ∧ (b = true ↔ MayP l) := by
  obtain ⟨k, rfl⟩ : ∃ m, k = m + 1 := ⟨k - 1, by omega⟩
  unfold nogginref14_Thresholds.f
  by_cases c1 : (l.length : Int) < 1
  · refine ⟨false, by rw [if_pos c1]; simp [nogginref14_Thresholds.j0], ?_⟩
    simp only [Bool.false_eq_true, false_iff]
    intro h
    have := h.lo
    omega
  · rw [if_neg c1]
    by_cases c2 : (l.length : Int) > 4
    · refine ⟨false, by simp [nogginref14_Thresholds.j0, c2], ?_⟩
      simp only [Bool.false_eq_true, false_iff]
      intro h
      have := h.hi
      omega
    · obtain ⟨b, hb, hiff⟩ := th_from l (by omega) l.length k 0 (by omega) (by omega) (by omega)
      have e : nogginref14_Thresholds.j0 (k + 1) l (decide ((l.length : Int) > 4)) = nogginref14_Thresholds.l0 k l 0 := by
        simp only [nogginref14_Thresholds.j0]
        rw [if_neg (by simp; omega)]
      refine ⟨b, by rw [e]; exact hb, hiff.trans ⟨fun h => ⟨by omega, by omega, fun j hj => h j (by omega) hj⟩, fun h j _ hj => h.row j hj⟩⟩

/-- a threshold that there is -/
def There (l : List (List Int)) (c v : Int) : Prop := MayP l ∧ 0 ≤ c ∧ c < l.length ∧ 0 ≤ v ∧ v < (l.getD 0 []).length
def thr (l : List (List Int)) (c v : Int) : Int := rd (rd_L1 l c) v
theorem thr_yes {l : List (List Int)} {c v : Int} (h : There l c v) : sample_threshold.f 40 l c v = some (thr l c v, none) := by
  obtain ⟨h1, h2, h3, h4, h5⟩ := h
  obtain ⟨b, hb, hi⟩ := may_f l 40 (by omega)
  obtain rfl : b = true := hi.2 h1
  have e := (h1.row c.toNat (by omega)).eq
  have e2 : (rd_L1 l c).length = (l.getD 0 []).length := e
  have e0 : rd_L1 l 0 = l.getD 0 [] := rfl
  unfold sample_threshold.f
  rw [hb]
  simp only [Option.bind_some]
  rw [if_pos trivial, if_neg (by omega), if_neg (by omega), if_neg (by omega), if_pos (by omega), e0, if_neg (by omega), if_pos (by omega), if_pos (by omega), if_pos (by omega), if_pos (by omega)]
  rfl
theorem thr_no {l : List (List Int)} {c v : Int} (h : ¬ There l c v) : sample_threshold.f 40 l c v = some (0, some 1) := by
  obtain ⟨b, hb, hi⟩ := may_f l 40 (by omega)
  have e0 : rd_L1 l 0 = l.getD 0 [] := rfl
  unfold sample_threshold.f
  rw [hb]
  simp only [Option.bind_some]
  cases b with
  | false => rfl
  | true =>
    have hm := hi.1 rfl
    rw [if_pos rfl]
    by_cases c1 : c < 0
    · rw [if_pos c1]
    · rw [if_neg c1]
      by_cases c2 : c ≥ (l.length : Int)
      · rw [if_pos c2]
      · rw [if_neg c2]
        by_cases c3 : v < 0
        · rw [if_pos c3]
        · rw [if_neg c3, if_pos (by omega), e0]
          by_cases c4 : v ≥ ((l.getD 0 []).length : Int)
          · rw [if_pos c4]
          · exact absurd ⟨hm, by omega, by omega, by omega, by omega⟩ h
theorem thr_zero {l : List (List Int)} {c v : Int} (h : There l c v) : There l c 0 ∧ thr l c 0 = 0 := by
  obtain ⟨h1, h2, h3, h4, h5⟩ := h
  exact ⟨⟨h1, h2, h3, by omega, by omega⟩, (h1.row c.toNat (by omega)).zero⟩
theorem thr_more {l : List (List Int)} {c v : Int} (h : There l c v) (h' : There l c (v + 1)) : thr l c v ≤ thr l c (v + 1) := by
  obtain ⟨h1, h2, h3, h4, h5⟩ := h
  obtain ⟨_, _, _, _, h6⟩ := h'
  have r := h1.row c.toNat (by omega)
  have e := r.eq
  have := r.up (v + 1).toNat (by omega) (by omega)
  rw [show (v + 1).toNat - 1 = v.toNat by omega] at this
  exact this
theorem few_from (l : List (List Int)) (hl : (l.length : Int) ≤ 9223372036854775807) : ∀ (d k : Nat) (i : Int), 0 ≤ i → i ≤ l.length → (l.length : Int) - i = d → d < k →
    ∃ b, nogginlaw15_few.l0 k l i = some b ∧ (b = true → l.length ≤ 20 ∧ ∀ j : Nat, i ≤ j → j < l.length → (l.getD j []).length ≤ 100) := by
  intro d
  induction d with
  | zero =>
    intro k i h0 h1 hd hk
    obtain ⟨k, rfl⟩ : ∃ m, k = m + 1 := ⟨k - 1, by omega⟩
    refine ⟨decide ((l.length : Int) ≤ 20), ?_, fun h => ⟨by have := of_decide_eq_true h; omega, fun j _ _ => by omega⟩⟩
    simp only [nogginlaw15_few.l0]
    rw [if_neg (by omega)]
  | succ d ih =>
    intro k i h0 h1 hd hk
    obtain ⟨k, rfl⟩ : ∃ m, k = m + 1 := ⟨k - 1, by omega⟩
    have hw : wrap64 (i + 1) = i + 1 := wrap_up (by omega) (by omega)
    simp only [nogginlaw15_few.l0]
    rw [if_pos (by omega), if_pos (by omega), hw]
    by_cases c1 : ((rd_L1 l i).length : Int) > 100
    · exact ⟨false, by rw [if_pos c1], fun h => by simp at h⟩
    · obtain ⟨b, hb, hi⟩ := ih k (i + 1) (by omega) (by omega) (by omega) (by omega)
      refine ⟨b, by rw [if_neg c1, hb], fun h => ⟨(hi h).1, fun j h2 h3 => ?_⟩⟩
      by_cases hj : i + 1 ≤ (j : Int)
      · exact (hi h).2 j hj h3
      · obtain rfl : j = i.toNat := by omega
        unfold rd_L1 at c1
        omega
theorem few_f (l : List (List Int)) (hl : (l.length : Int) ≤ 9223372036854775807) : ∃ b, nogginlaw15_few.f (l.length + 1) l = some b ∧ (b = true → l.length ≤ 20) := by
  obtain ⟨b, hb, hi⟩ := few_from l hl l.length (l.length + 1) 0 (by omega) (by omega) (by omega) (by omega)
  exact ⟨b, hb, fun h => (hi h).1⟩
end Go.Proofs.Ytjkaldnhfenbhaa.Sample
