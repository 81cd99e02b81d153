/- The plain side of layer 10: a ring's cells and the queue that they hold. -/
import Derived.Test.YtjkaldnhfenbhaaFr
set_option linter.unusedVariables false
namespace Go.Proofs.Ytjkaldnhfenbhaa.Ring
open Go.RowKit Go.Proofs.YtjkaldnhfenbhaaW.PrintWords Go.Proofs.YtjkaldnhfenbhaaW.PrintLast

theorem mod_to {f i n : Nat} (hf : f < n) (hi : i < n) : (f + i) % n = if f + i < n then f + i else f + i - n := by
  split
  · exact Nat.mod_eq_of_lt ‹_›
  · rw [Nat.mod_eq_sub_mod (by omega), Nat.mod_eq_of_lt (by omega)]
theorem mod_lt {f i n : Nat} (hf : f < n) : (f + i) % n < n := Nat.mod_lt _ (by omega)
/-- the cells hold the queue, from f on -/
def Holds (cs : Array Value) (f n : Nat) (q : List Value) : Prop := cs.size = n ∧ f < n ∧ q.length ≤ n ∧ ∀ i, i < q.length → cs[(f + i) % n]? = q[i]?
theorem Holds.push {cs : Array Value} {f n : Nat} {q : List Value} (h : Holds cs f n q) (hn : q.length < n) (x : Value) : Holds (cs.setIfInBounds ((f + q.length) % n) x) f n (q ++ [x]) := by
  obtain ⟨h1, h2, h3, h4⟩ := h
  refine ⟨by simpa using h1, h2, by simp; omega, fun i hi => ?_⟩
  simp at hi
  by_cases e : i = q.length
  · subst e
    rw [Array.getElem?_setIfInBounds_self_of_lt (by rw [h1]; exact mod_lt h2)]
    simp
  · have hne : (f + q.length) % n ≠ (f + i) % n := by
      rw [mod_to h2 hn, mod_to h2 (by omega)]
      split <;> split <;> omega
    rw [Array.getElem?_setIfInBounds_ne hne, h4 i (by omega), List.getElem?_append_left (by omega)]
theorem Holds.front {cs : Array Value} {f n : Nat} {x : Value} {q : List Value} (h : Holds cs f n (x :: q)) : cs[f]? = some x := by
  have := h.2.2.2 0 (by simp)
  rw [Nat.add_zero, Nat.mod_eq_of_lt h.2.1] at this
  simpa using this
theorem Holds.pop {cs : Array Value} {f n : Nat} {x : Value} {q : List Value} (h : Holds cs f n (x :: q)) (z : Value) : Holds (cs.setIfInBounds f z) ((f + 1) % n) n q := by
  obtain ⟨h1, h2, h3, h4⟩ := h
  simp at h3
  refine ⟨by simpa using h1, mod_lt h2, by omega, fun i hi => ?_⟩
  have e : ((f + 1) % n + i) % n = (f + (i + 1)) % n := by rw [Nat.mod_add_mod]; congr 1; omega
  have hne : f ≠ (f + (i + 1)) % n := by
    rw [mod_to h2 (by omega)]
    split <;> omega
  rw [e, Array.getElem?_setIfInBounds_ne hne, h4 (i + 1) (by simp; omega)]
  simp
theorem Holds.new (n : Nat) (hn : 0 < n) (z : Value) : Holds (Array.replicate n z) 0 n [] := ⟨by simp, hn, by simp, fun i hi => by simp at hi⟩
theorem made_one (z : Value) (n : Nat) : madeCells #[z] n = Array.replicate n z := by
  unfold madeCells
  apply Array.ext
  · simp
  · intro i h1 h2
    simp [Nat.mod_one]

/-- a ring at g, its row at b, with room for n, and what is in it -/
def IsR (w : World) (g b n : Nat) (q : List Value) (tr te : TypeId) : Prop :=
  n ≤ 1000 ∧ g ≠ b ∧ ∃ (cs : Array Value) (f : Nat), Blk w g #[.slice (some ⟨b, 0, none⟩) n n, .int .i64 f, .int .i64 q.length] tr ∧ Blk w b cs te ∧ Holds cs f n q
theorem IsR.keep {w w1 : World} {S : List Nat} {g b n : Nat} {q : List Value} {tr te : TypeId} (h : IsR w g b n q tr te) (k : Fr S w w1) (h1 : g ∉ S) (h2 : b ∉ S) : IsR w1 g b n q tr te := by
  obtain ⟨h3, h4, cs, f, h5, h6, h7⟩ := h
  exact ⟨h3, h4, cs, f, h5.keep k h1, h6.keep k h2, h7⟩
theorem IsR.alloc {w : World} {g b n : Nat} {q : List Value} {tr te : TypeId} (h : IsR w g b n q tr te) (o : Obj) : IsR (w.alloc o) g b n q tr te := by
  obtain ⟨h3, h4, cs, f, h5, h6, h7⟩ := h
  exact ⟨h3, h4, cs, f, h5.alloc o, h6.alloc o, h7⟩
theorem IsR.lt {w : World} {g b n : Nat} {q : List Value} {tr te : TypeId} (h : IsR w g b n q tr te) : g < w.heap.size ∧ b < w.heap.size := by
  obtain ⟨h3, h4, cs, f, h5, h6, h7⟩ := h
  exact ⟨h5.lt, h6.lt⟩
theorem IsR.drew {w : World} {g b n : Nat} {q : List Value} {tr te : TypeId} (h : IsR w g b n q tr te) (k : Nat) : IsR (w.drewN k) g b n q tr te := h
theorem IsR.room {w : World} {g b n : Nat} {q : List Value} {tr te : TypeId} (h : IsR w g b n q tr te) : q.length ≤ n ∧ 0 < n ∧ n ≤ 1000 := by
  obtain ⟨h3, h4, cs, f, h5, h6, h7⟩ := h
  exact ⟨h7.2.2.1, by have := h7.2.1; omega, h3⟩
end Go.Proofs.Ytjkaldnhfenbhaa.Ring
