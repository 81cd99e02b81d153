/- Layer 4 in plain Lean: words, events, and their lines. No program. -/
import Derived.IntWalk
set_option linter.unusedVariables false
set_option linter.unusedSimpArgs false
namespace Go.Proofs.YtdhonbahpcmmnaaDoor.Line
abbrev L := List UInt8
def gb (q : L) (i : Nat) : UInt8 := q.getD i 0
def inW (c : UInt8) : Bool := decide (97 ≤ c.toNat ∧ c.toNat ≤ 122) || decide (48 ≤ c.toNat ∧ c.toNat ≤ 57) || decide (c.toNat = 95) || decide (c.toNat = 46)
def isWord (s : L) : Bool := s.all inW && decide (1 ≤ s.length) && decide (s.length ≤ 16)
structure Ev where
 name : L
 tags : List (L × L)
 kind : Int
 value : Int
 time : Int
def mayE (e : Ev) : Bool := e.tags.all (fun t => isWord t.1 && isWord t.2) && isWord e.name && decide (e.tags.length ≤ 6) && decide (1 ≤ e.kind) && decide (e.kind ≤ 3) && decide (0 ≤ e.time) && decide (e.time ≤ 1099511627776)
def fewE (e : Ev) : Bool := e.tags.all (fun t => decide (t.1.length ≤ 100) && decide (t.2.length ≤ 100)) && decide (e.name.length ≤ 100) && decide (e.tags.length ≤ 20)
def digs (n : Nat) : L := if h : n < 10 then [UInt8.ofNat (48 + n)] else digs (n / 10) ++ [UInt8.ofNat (48 + n % 10)]
termination_by n
decreasing_by omega
def numT (z : Int) : L := if z < 0 then 45 :: digs z.natAbs else digs z.toNat
def headT (e : Ev) : L := e.name ++ (e.tags.map fun t => 44 :: t.1 ++ (61 :: t.2)).flatten
def letter (k : Int) : L := if k = 1 then [99] else if k = 2 then [103] else [104]
def printT (e : Ev) : L := headT e ++ 32 :: (letter e.kind ++ 32 :: (numT e.value ++ 32 :: numT e.time))
theorem inW_t {c : UInt8} (h : (97 ≤ c.toNat ∧ c.toNat ≤ 122) ∨ (48 ≤ c.toNat ∧ c.toNat ≤ 57) ∨ c.toNat = 95 ∨ c.toNat = 46) : inW c = true := by
 unfold inW
 simp only [Bool.or_eq_true, decide_eq_true_eq]
 omega
theorem inW_f {c : UInt8} (h : ¬ ((97 ≤ c.toNat ∧ c.toNat ≤ 122) ∨ (48 ≤ c.toNat ∧ c.toNat ≤ 57) ∨ c.toNat = 95 ∨ c.toNat = 46)) : inW c = false := by
 rw [Bool.eq_false_iff]
 intro h2
 unfold inW at h2
 simp only [Bool.or_eq_true, decide_eq_true_eq] at h2
 omega
theorem inW_46 {c : UInt8} (h : ¬ ((97 ≤ c.toNat ∧ c.toNat ≤ 122) ∨ (48 ≤ c.toNat ∧ c.toNat ≤ 57) ∨ c.toNat = 95)) : decide ((c.toNat : Int) = 46) = inW c := by
 by_cases h1 : c.toNat = 46
 ·
  rw [inW_t (by omega), decide_eq_true (by omega)]
 ·
  rw [inW_f (by omega), decide_eq_false (by omega)]
theorem gb_mem {s : L} {i : Nat} (h : i < s.length) : gb s i ∈ s := by
 unfold gb
 rw [List.getD_eq_getElem?_getD, List.getElem?_eq_getElem h]
 exact List.getElem_mem h
theorem word_bad {s : L} {i : Nat} (h : i < s.length) (hb : inW (gb s i) = false) : isWord s = false := by
 unfold isWord
 have : s.all inW = false := by
  rw [Bool.eq_false_iff]
  intro h2
  rw [List.all_eq_true.1 h2 _ (gb_mem h)] at hb
  cases hb
 simp [this]
theorem word_all {s : L} (h : ∀ j, j < s.length → inW (gb s j) = true) : isWord s = (decide (1 ≤ s.length) && decide (s.length ≤ 16)) := by
 unfold isWord
 have : s.all inW = true := by
  rw [List.all_eq_true]
  intro x hx
  obtain ⟨j, hj, rfl⟩ := List.getElem_of_mem hx
  have := h j hj
  unfold gb at this
  rw [List.getD_eq_getElem?_getD, List.getElem?_eq_getElem hj] at this
  exact this
 simp [this]
def gT (q : List (L × L)) (i : Nat) : L × L := q.getD i ([], [])
theorem gT_some (q : List (L × L)) (i : Nat) (h : i < q.length) : q[i]? = some (gT q i) := by
 unfold gT
 rw [List.getD_eq_getElem?_getD, List.getElem?_eq_getElem h]
 rfl
theorem gT_mem {q : List (L × L)} {i : Nat} (h : i < q.length) : gT q i ∈ q := List.mem_of_getElem? (gT_some q i h)
theorem all_gT {q : List (L × L)} {p : L × L → Bool} : q.all p = true ↔ ∀ j, j < q.length → p (gT q j) = true := by
 rw [List.all_eq_true]
 refine ⟨fun h j hj => h _ (gT_mem hj), fun h x hx => ?_⟩
 obtain ⟨j, hj, rfl⟩ := List.getElem_of_mem hx
 have h1 := h j hj
 have h2 := gT_some q j hj
 rw [List.getElem?_eq_getElem hj] at h2
 simp only [Option.some.injEq] at h2
 rw [h2]
 exact h1
theorem all_no {q : List (L × L)} {p : L × L → Bool} {i : Nat} (h : i < q.length) (hp : p (gT q i) = false) : q.all p = false := by
 rw [Bool.eq_false_iff]
 intro h2
 rw [all_gT.1 h2 i h] at hp
 cases hp
end Go.Proofs.YtdhonbahpcmmnaaDoor.Line
