/- Layer 4's walks: the document's Head, Number, Print. -/
import Derived.Test.YtdhonbahpcmmnaaDoorLineW
set_option linter.unusedVariables false
set_option linter.unusedSimpArgs false
namespace Go.Proofs.YtdhonbahpcmmnaaDoor.Line
open Go Go.RowKit Go.Proofs.YtdhonbahpcmmnaaDoor Go.Proofs.YtdhonbahpcmmnaaDoor.Eng Go.Proofs.YtdhonbahpcmmnaaDoorW.PrintWords
def dig (n : Nat) : UInt8 := UInt8.ofNat (48 + n)
theorem digs_lo {n : Nat} (h : n < 10) : digs n = [dig (n % 10)] := by
 rw [digs, dif_pos h]
 unfold dig
 rw [Nat.mod_eq_of_lt h]
theorem digs_hi {n : Nat} (h : ¬ n < 10) : digs n = digs (n / 10) ++ [dig (n % 10)] := by
 rw [digs, dif_neg h]
 rfl
theorem digs_len : ∀ (k n : Nat), n < 10 ^ (k + 1) → (digs n).length ≤ k + 1
 | 0, n, h => by
  rw [digs_lo (by simpa using h)]
  simp
 | k + 1, n, h => by
  by_cases hn : n < 10
  ·
   rw [digs_lo hn]
   simp
  ·
   rw [digs_hi hn, List.length_append]
   have := digs_len k (n / 10) (by rw [Nat.pow_succ] at h; omega)
   simp only [List.length_cons, List.length_nil]
   omega
theorem num_len (z : Int) (h : -9223372036854775808 ≤ z ∧ z ≤ 9223372036854775807) : (numT z).length ≤ 21 := by
 unfold numT
 split
 ·
  have := digs_len 19 z.natAbs (by omega)
  simp only [List.length_cons]
  omega
 ·
  have := digs_len 19 z.toNat (by omega)
  omega
def tagT (t : L × L) : L := 44 :: t.1 ++ (61 :: t.2)
def hd (ev : Ev) (i : Nat) : L := ev.name ++ ((ev.tags.take i).map tagT).flatten
theorem hd_0 (ev : Ev) : hd ev 0 = ev.name := by simp [hd]
theorem hd_s (ev : Ev) (i : Nat) (h : i < ev.tags.length) : hd ev (i + 1) = hd ev i ++ (44 :: (gT ev.tags i).1 ++ (61 :: (gT ev.tags i).2)) := by
 unfold hd
 rw [List.take_add_one, gT_some ev.tags i h]
 simp [tagT]
theorem hd_all (ev : Ev) : hd ev ev.tags.length = headT ev := by
 unfold hd headT
 rw [List.take_length]
 rfl
theorem few_n {ev : Ev} (h : fewE ev = true) : ev.tags.length ≤ 20 ∧ ev.name.length ≤ 100 := by
 unfold fewE at h
 simp only [Bool.and_eq_true, decide_eq_true_eq] at h
 omega
theorem few_tag {ev : Ev} (h : fewE ev = true) (i : Nat) (hi : i < ev.tags.length) : (gT ev.tags i).1.length ≤ 100 ∧ (gT ev.tags i).2.length ≤ 100 := by
 unfold fewE at h
 simp only [Bool.and_eq_true] at h
 have := all_gT.1 h.1.1 i hi
 simpa using this
theorem hd_len {ev : Ev} (h : fewE ev = true) : ∀ i, i ≤ ev.tags.length → (hd ev i).length ≤ 100 + i * 202
 | 0, _ => by
  rw [hd_0]
  have := few_n h
  omega
 | i + 1, hi => by
  have h1 := hd_len h i (by omega)
  have h2 := few_tag h i (by omega)
  rw [hd_s ev i (by omega)]
  simp only [List.length_append, List.length_cons]
  omega
theorem letter_eq {k : Int} (h : 1 ≤ k ∧ k ≤ 3) : (([99, 103, 104] : List UInt8).take k.toNat).drop (k - 1).toNat = letter k := by
 have : k = 1 ∨ k = 2 ∨ k = 3 := by omega
 rcases this with rfl | rfl | rfl <;> rfl
end Go.Proofs.YtdhonbahpcmmnaaDoor.Line
