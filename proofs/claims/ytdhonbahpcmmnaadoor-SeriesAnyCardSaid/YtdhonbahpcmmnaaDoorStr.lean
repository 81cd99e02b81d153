/- The order of texts, as the model compares them. -/
import Derived.Test.YtdhonbahpcmmnaaDoorEngB
set_option linter.unusedVariables false
namespace Go.Proofs.YtdhonbahpcmmnaaDoor.Eng
open Go Go.Proofs.YtdhonbahpcmmnaaDoor
def ltS (a b : List UInt8) : Bool := Go.Op.bytesLess a b
theorem toList_str (l : List UInt8) : (str l).toList = l := ByteArray.toList_eq (str l)
theorem lss_str (a b : List UInt8) : Go.Op.bytesLess (str a).toList (str b).toList = ltS a b := by rw [toList_str, toList_str]; rfl
theorem ltS_cons (x y : UInt8) (a b : List UInt8) : ltS (x :: a) (y :: b) = true ↔ x.toNat < y.toNat ∨ (x = y ∧ ltS a b = true) := by
 show (decide (x < y) || (x == y && ltS a b)) = true ↔ _
 simp only [Bool.or_eq_true, Bool.and_eq_true, decide_eq_true_eq, beq_iff_eq]
 exact Iff.rfl
theorem ltS_nil (a : List UInt8) : ltS a [] = false := by cases a <;> rfl
theorem ltS_irrefl : ∀ a : List UInt8, ltS a a = false
 | [] => rfl
 | x :: a => by
  rw [Bool.eq_false_iff]
  intro h
  rcases (ltS_cons x x a a).1 h with h | h
  ·
   omega
  ·
   rw [ltS_irrefl a] at h
   cases h.2
theorem ltS_trans : ∀ a b c : List UInt8, ltS a b = true → ltS b c = true → ltS a c = true
 | _, _, [], _, h => by rw [ltS_nil] at h; cases h
 | _, [], _ :: _, h, _ => by rw [ltS_nil] at h; cases h
 | [], _ :: _, _ :: _, _, _ => rfl
 | x :: a, y :: b, z :: c, h1, h2 => by
  rw [ltS_cons] at h1 h2 ⊢
  rcases h1 with h1 | ⟨rfl, h1⟩
  ·
   rcases h2 with h2 | ⟨rfl, h2⟩
   ·
    exact .inl (by omega)
   ·
    exact .inl h1
  ·
   rcases h2 with h2 | ⟨rfl, h2⟩
   ·
    exact .inl h2
   ·
    exact .inr ⟨rfl, ltS_trans a b c h1 h2⟩
theorem ltS_tri : ∀ a b : List UInt8, ltS a b = false → ltS b a = false → a = b
 | [], [], _, _ => rfl
 | [], _ :: _, h, _ => by cases h
 | _ :: _, [], _, h => by cases h
 | x :: a, y :: b, h1, h2 => by
  rw [Bool.eq_false_iff, ne_eq, ltS_cons] at h1 h2
  have e : x = y := UInt8.toNat_inj.1 (by omega)
  subst e
  rw [ltS_tri a b (by rw [Bool.eq_false_iff]; exact fun h => h1 (.inr ⟨rfl, h⟩)) (by rw [Bool.eq_false_iff]; exact fun h => h2 (.inr ⟨rfl, h⟩))]
theorem ltS_asymm {a b : List UInt8} (h : ltS a b = true) : ltS b a = false := by
 rw [Bool.eq_false_iff]
 intro h2
 have := ltS_trans a b a h h2
 rw [ltS_irrefl] at this
 cases this
theorem gtr_str (a b : List UInt8) : (!(Go.Op.bytesLess (str a).toList (str b).toList || (str a).toList == (str b).toList)) = ltS b a := by
 rw [toList_str, toList_str]
 show (!(ltS a b || a == b)) = ltS b a
 cases h : ltS a b with
 | true => rw [ltS_asymm h]; rfl
 | false =>
  cases h2 : ltS b a with
  | true =>
   have : (a == b) = false := by
    rw [Bool.eq_false_iff]
    intro e
    rw [eq_of_beq e, ltS_irrefl] at h2
    cases h2
   rw [this]; rfl
  | false => rw [ltS_tri a b h h2]; simp
end Go.Proofs.YtdhonbahpcmmnaaDoor.Eng
