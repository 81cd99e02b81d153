import Derived.Test.YtjfgmdkdcnfdoaaGreatDoorWMore
import Derived.Laws.StructEq
import Derived.Test.YtjfgmdkdcnfdoaaGreatDoorEng
import Derived.Test.YtjfgmdkdcnfdoaaGreatDoorApp
import Derived.Lib.ConvBytes
import Derived.Lib.AppendStr
import Derived.Laws.BytesArg
section
namespace Go.Proofs.YtjfgmdkdcnfdoaaGreatDoorW.PrintWords
open Go.RowKit
section
variable {P : Program} {d : Nat} {xs ys : Array Value} {f : Field} {fs : List Field} {a b : Value} {r s : Bool} {w : World}
end
end Go.Proofs.YtjfgmdkdcnfdoaaGreatDoorW.PrintWords
end
section
set_option linter.unusedVariables false
set_option linter.unusedSimpArgs false
namespace Go.Proofs.YtjfgmdkdcnfdoaaGreatDoor.Eng
open Go Go.Proofs.YtjfgmdkdcnfdoaaGreatDoor
theorem flat_at {size : Nat} : ∀ (xs : List (List Value)) (k j : Nat), (∀ x ∈ xs, x.length = size) → k < xs.length → j < size → xs.flatten[k * size + j]? = (xs.getD k [])[j]?
 | [], k, j, h, hk, hj => by simp at hk
 | x :: xs, 0, j, h, hk, hj => by
  have hx := h x (by simp)
  simp only [Nat.zero_mul, Nat.zero_add, List.flatten_cons, List.getD_cons_zero]
  rw [List.getElem?_append_left (by omega)]
 | x :: xs, k + 1, j, h, hk, hj => by
  have hx := h x (by simp)
  simp only [List.flatten_cons, List.getD_cons_succ]
  rw [List.getElem?_append_right (by rw [hx, Nat.succ_mul]; omega), hx]
  have ih := flat_at xs k j (fun y hy => h y (by simp [hy])) (by simpa using hk) hj
  rw [← ih]
  congr 1
  rw [Nat.succ_mul]; omega
theorem flat_len {size : Nat} : ∀ (xs : List (List Value)), (∀ x ∈ xs, x.length = size) → xs.flatten.length = xs.length * size
 | [], h => by simp
 | x :: xs, h => by
  have := flat_len xs (fun y hy => h y (by simp [hy]))
  simp only [List.flatten_cons, List.length_append, List.length_cons, h x (by simp), this]
  rw [Nat.succ_mul]; omega
theorem flat_ones (n : Nat) (z : Value) : (List.replicate n [z]).flatten = List.replicate n z := by
 induction n with
 | zero => rfl
 | succ n ih => rw [List.replicate_succ, List.flatten_cons, ih]; rfl
structure RowB (w : World) (b : Nat) (T : TypeId) (size cap : Nat) (xs : List (List Value)) : Prop where
 cur : ∃ cur : Array Value, Blk w b cur T ∧ cur.size = cap * size ∧ cur.toList.take (xs.length * size) = xs.flatten
 len : ∀ x ∈ xs, x.length = size
 one : ∀ x ∈ xs, x.all oneB = true
 le : xs.length ≤ cap
 cap : cap ≤ 9223372036854775807
theorem RowB.keep {w w1 : World} {S : List Nat} {b : Nat} {T : TypeId} {size cap : Nat} {xs : List (List Value)} (h : RowB w b T size cap xs) (k : Fr S w w1) (hn : b ∉ S) : RowB w1 b T size cap xs := by
 obtain ⟨cur, h1, h2, h3⟩ := h.cur
 exact ⟨⟨cur, h1.keep k hn, h2, h3⟩, h.len, h.one, h.le, h.cap⟩
theorem RowB.keepB {B : Nat} {w w1 : World} {b : Nat} {T : TypeId} {size cap : Nat} {xs : List (List Value)} (h : RowB w b T size cap xs) (k : FrB B w w1) (hn : b < B) : RowB w1 b T size cap xs := by
 obtain ⟨cur, h1, h2, h3⟩ := h.cur
 exact ⟨⟨cur, h1.keepB k hn, h2, h3⟩, h.len, h.one, h.le, h.cap⟩
theorem RowB.lt {w : World} {b : Nat} {T : TypeId} {size cap : Nat} {xs : List (List Value)} (h : RowB w b T size cap xs) : b < w.heap.size := by
 obtain ⟨cur, h1, _⟩ := h.cur
 exact h1.lt
theorem RowB.cell {w : World} {b : Nat} {T : TypeId} {size cap : Nat} {xs : List (List Value)} (h : RowB w b T size cap xs) (k j : Nat) (hk : k < xs.length) (hj : j < size) : w.cell? ⟨b, k * size + j, none⟩ = (xs.getD k [])[j]? := by
 obtain ⟨cur, h1, h2, h3⟩ := h.cur
 rw [h1.cell, ← Array.getElem?_toList, ← flat_at xs k j h.len hk hj, ← h3]
 have : k * size + j < xs.length * size := by
  have := Nat.mul_le_mul_right size (show k + 1 ≤ xs.length by omega)
  rw [Nat.succ_mul] at this
  omega
 rw [List.getElem?_take, if_pos this]
theorem splice_at : ∀ (vs : List Value) (cs : Array Value) (o i : Nat), o + vs.length ≤ cs.size → (splice cs o vs)[i]? = if o ≤ i ∧ i < o + vs.length then vs[i - o]? else cs[i]?
 | [], cs, o, i, h => by
  rw [if_neg (by simp)]
  rfl
 | v :: vs, cs, o, i, h => by
  simp only [List.length_cons] at h ⊢
  rw [splice, splice_at vs _ _ _ (by simp; omega)]
  by_cases h1 : i = o
  ·
   subst h1
   rw [if_neg (by omega), if_pos (by omega)]
   simp [show i < cs.size by omega]
  ·
   by_cases h2 : o + 1 ≤ i ∧ i < o + 1 + vs.length
   ·
    rw [if_pos h2, if_pos (by omega)]
    rw [show i - o = (i - (o + 1)) + 1 by omega, List.getElem?_cons_succ]
   ·
    rw [if_neg h2, if_neg (by omega)]
    rw [Array.getElem?_setIfInBounds_ne (Ne.symm h1)]
theorem RowB.put {w w1 : World} {b : Nat} {T : TypeId} {size cap : Nat} {xs : List (List Value)} (h : RowB w b T size cap xs) (k : Nat) (vs : List Value) (hk : k < xs.length) (hv : vs.length = size) (h1 : vs.all oneB = true)
  (hw : ∀ cur, Blk w b cur T → Blk w1 b (splice cur (k * size) vs) T) : RowB w1 b T size cap (xs.set k vs) := by
 obtain ⟨cur, h2, h3, h4⟩ := h.cur
 have hb : k * size + size ≤ xs.length * size := by
  have := Nat.mul_le_mul_right size (show k + 1 ≤ xs.length by omega)
  rwa [Nat.succ_mul] at this
 have hc : xs.length * size ≤ cap * size := Nat.mul_le_mul_right size h.le
 have hl : ∀ x ∈ xs.set k vs, x.length = size := fun x hx => by
  rcases List.mem_or_eq_of_mem_set hx with hx | hx
  ·
   exact h.len x hx
  ·
   rw [hx]; exact hv
 refine ⟨⟨_, hw cur h2, by rw [size_splice]; exact h3, ?_⟩, hl, fun x hx => ?_, by simpa using h.le, h.cap⟩
 ·
  apply List.ext_getElem?
  intro i
  rw [List.length_set]
  by_cases hi : i < xs.length * size
  ·
   have hs : 0 < size := by
    rcases Nat.eq_zero_or_pos size with h0 | h0
    ·
     subst h0; simp at hi
    ·
     exact h0
   rw [List.getElem?_take, if_pos hi, Array.getElem?_toList, splice_at _ _ _ _ (by omega)]
   have hq : i = i / size * size + i % size := by rw [Nat.mul_comm]; exact (Nat.div_add_mod i size).symm
   have hr : i % size < size := Nat.mod_lt _ hs
   have hk' : i / size < xs.length := by
    rw [Nat.div_lt_iff_lt_mul hs]
    exact hi
   have hf := flat_at (xs.set k vs) (i / size) (i % size) hl (by simpa using hk') hr
   rw [← hq] at hf
   rw [hf]
   have hf0 := flat_at xs (i / size) (i % size) h.len hk' hr
   rw [← hq] at hf0
   by_cases hkk : i / size = k
   ·
    rw [if_pos (by rw [hv]; rw [hkk] at hq; omega)]
    have : (xs.set k vs).getD (i / size) [] = vs := by
     rw [hkk]
     simp [List.getD_eq_getElem?_getD, List.getElem?_set, hk]
    rw [this]
    congr 1
    rw [hkk] at hq
    omega
   ·
    have hne : ¬ (k * size ≤ i ∧ i < k * size + vs.length) := by
     rintro ⟨ha, hb2⟩
     apply hkk
     rw [hv] at hb2
     have h5 : k ≤ i / size := (Nat.le_div_iff_mul_le hs).2 ha
     have h6 : i / size < k + 1 := (Nat.div_lt_iff_lt_mul hs).2 (by rw [Nat.succ_mul]; exact hb2)
     omega
    rw [if_neg hne]
    have : (xs.set k vs).getD (i / size) [] = xs.getD (i / size) [] := by
     simp [List.getD_eq_getElem?_getD, List.getElem?_set, Ne.symm hkk]
    rw [this, ← hf0, ← h4, List.getElem?_take, if_pos hi, Array.getElem?_toList]
  ·
   rw [List.getElem?_take, if_neg hi, List.getElem?_eq_none]
   rw [flat_len _ hl, List.length_set]
   omega
 ·
  rcases List.mem_or_eq_of_mem_set hx with hx | hx
  ·
   exact h.one x hx
  ·
   rw [hx]; exact h1
theorem RowB.take {w : World} {b : Nat} {T : TypeId} {size cap : Nat} {xs : List (List Value)} (h : RowB w b T size cap xs) (n : Nat) : RowB w b T size cap (xs.take n) := by
 obtain ⟨cur, h2, h3, h4⟩ := h.cur
 refine ⟨⟨cur, h2, h3, ?_⟩, fun x hx => h.len x (List.mem_of_mem_take hx), fun x hx => h.one x (List.mem_of_mem_take hx), ?_, h.cap⟩
 ·
  have hl : ∀ x ∈ xs.take n, x.length = size := fun x hx => h.len x (List.mem_of_mem_take hx)
  have hle : (xs.take n).length * size ≤ xs.length * size := Nat.mul_le_mul_right size (by simp; omega)
  have h5 : xs.flatten.take ((xs.take n).length * size) = (xs.take n).flatten := by
   have h6 : xs.flatten = (xs.take n).flatten ++ (xs.drop n).flatten := by rw [← List.flatten_append, List.take_append_drop]
   rw [h6, ← flat_len _ hl, List.take_left]
  rw [← h5, ← h4, List.take_take]
  congr 1
  omega
 ·
  have := h.le
  simp; omega
theorem RowB.own {w : World} {b : Nat} {T : TypeId} {size cap : Nat} {xs : List (List Value)} (h : RowB w b T size cap xs) : w.ownsRow 0 T size (.slice (some ⟨b, 0, none⟩) xs.length cap) xs.length xs.flatten := by
 obtain ⟨cur, h2, h3, h4⟩ := h.cur
 exact ⟨flat_len _ h.len, .inr ⟨b, cap, cur, rfl, Nat.zero_le _, h2, h.le, h.cap, h3, h4⟩⟩
theorem RowB.of_own {w : World} {b : Nat} {T : TypeId} {size cap n : Nat} {xs : List (List Value)} (h : w.ownsRow 0 T size (.slice (some ⟨b, 0, none⟩) n cap) n xs.flatten) (hn : n = xs.length) (hl : ∀ x ∈ xs, x.length = size) (h1 : ∀ x ∈ xs, x.all oneB = true) : RowB w b T size cap xs := by
 rcases h.2 with ⟨h2, _⟩ | ⟨b2, cap2, cur, h2, _, h4, h5, h6, h7, h8⟩
 ·
  cases h2
 ·
  simp only [Value.slice.injEq, Option.some.injEq, Addr.mk.injEq, and_true] at h2
  obtain ⟨rfl, h2, rfl⟩ := h2
  exact ⟨⟨cur, h4, h7, by rw [← hn]; exact h8⟩, hl, h1, by omega, h6⟩
theorem one_of (u : Value) (h : oneB u = true) : u.oneCell' = true := by
 cases u <;> first | rfl | simp [oneB] at h
theorem flat_one {xs : List (List Value)} (h : ∀ x ∈ xs, x.all oneB = true) : ∀ u ∈ xs.flatten, u.oneCell' = true := by
 intro u hu
 obtain ⟨x, hx, hux⟩ := List.mem_flatten.1 hu
 exact one_of u (List.all_eq_true.1 (h x hx) u hux)
theorem RowB.src {w : World} {b : Nat} {T : TypeId} {size cap : Nat} {xs : List (List Value)} (h : RowB w b T size cap xs) : Src w (.slice (some ⟨b, 0, none⟩) xs.length cap) xs.length xs.flatten size :=
 Src.of_own h.own (flat_one h.one)
theorem src_nil (w : World) (size : Nat) : Src w (.slice none 0 0) 0 ([] : List (List Value)).flatten size := ⟨none, 0, rfl, by simp, fun h => absurd h (Nat.lt_irrefl 0), by simp⟩
theorem RowB.of_blk {w : World} {b : Nat} {T : TypeId} {size n : Nat} {cs : Array Value} (h : Blk w b cs T) (xs : List (List Value)) (hx : cs.toList = xs.flatten) (hn : xs.length = n) (hl : ∀ x ∈ xs, x.length = size) (h1 : ∀ x ∈ xs, x.all oneB = true) (hb : n ≤ 9223372036854775807) : RowB w b T size n xs := by
 have hs : cs.size = xs.length * size := by rw [← flat_len _ hl, ← hx]; rfl
 refine ⟨⟨cs, h, by rw [hs, hn], ?_⟩, hl, h1, by omega, hb⟩
 rw [← hs, ← hx]
 exact List.take_of_length_le (by simp)
def OwnX (T : TypeId) (size : Nat) (w : World) (F : List Nat) (v : Value) (xs : List (List Value)) : Prop :=
 (F = [] ∧ v = .slice none 0 0 ∧ xs = []) ∨ ∃ b cap, F = [b] ∧ v = .slice (some ⟨b, 0, none⟩) xs.length cap ∧ RowB w b T size cap xs
theorem OwnX.nil (T : TypeId) (size : Nat) (w : World) : OwnX T size w [] (.slice none 0 0) [] := .inl ⟨rfl, rfl, rfl⟩
theorem OwnX.keep {T : TypeId} {size : Nat} {w w1 : World} {F S : List Nat} {v : Value} {xs : List (List Value)} (h : OwnX T size w F v xs) (k : Fr S w w1) (hn : ∀ y ∈ F, y ∉ S) : OwnX T size w1 F v xs := by
 rcases h with h | ⟨b, cap, rfl, h2, h3⟩
 ·
  exact .inl h
 ·
  exact .inr ⟨b, cap, rfl, h2, h3.keep k (hn b (by simp))⟩
theorem OwnX.lt {T : TypeId} {size : Nat} {w : World} {F : List Nat} {v : Value} {xs : List (List Value)} (h : OwnX T size w F v xs) : ∀ y ∈ F, y < w.heap.size := by
 rcases h with ⟨rfl, _⟩ | ⟨b, cap, rfl, h2, h3⟩
 ·
  simp
 ·
  intro y hy
  obtain rfl : y = b := by simpa using hy
  exact h3.lt
theorem OwnX.slice {T : TypeId} {size : Nat} {w : World} {F : List Nat} {v : Value} {xs : List (List Value)} (h : OwnX T size w F v xs) : ∃ A cap, v = .slice A xs.length cap := by
 rcases h with ⟨_, rfl, rfl⟩ | ⟨b, cap, _, rfl, _⟩
 ·
  exact ⟨_, _, rfl⟩
 ·
  exact ⟨_, _, rfl⟩
theorem OwnX.sliceN {T : TypeId} {size n : Nat} {w : World} {F : List Nat} {v : Value} {xs : List (List Value)} (h : OwnX T size w F v xs) (hn : xs.length = n) : ∃ A cap, v = .slice A n cap := by
 subst hn
 exact h.slice
theorem OwnX.pos {T : TypeId} {size : Nat} {w : World} {F : List Nat} {A : Option Addr} {n cap : Nat} {xs : List (List Value)} (h : OwnX T size w F (.slice A n cap) xs) (hp : 0 < xs.length) : ∃ b, F = [b] ∧ A = some ⟨b, 0, none⟩ ∧ RowB w b T size cap xs := by
 rcases h with ⟨_, _, rfl⟩ | ⟨b, cap', rfl, h2, h3⟩
 ·
  simp at hp
 ·
  simp only [Value.slice.injEq] at h2
  obtain ⟨rfl, _, rfl⟩ := h2
  exact ⟨b, rfl, rfl, h3⟩
theorem OwnX.own {T : TypeId} {size : Nat} {w : World} {F : List Nat} {v : Value} {xs : List (List Value)} (h : OwnX T size w F v xs) : w.ownsRow 0 T size v xs.length xs.flatten := by
 rcases h with ⟨_, rfl, rfl⟩ | ⟨b, cap, _, rfl, h3⟩
 ·
  exact ⟨by simp, .inl ⟨rfl, rfl⟩⟩
 ·
  exact h3.own
theorem OwnX.src {T : TypeId} {size : Nat} {w : World} {F : List Nat} {v : Value} {xs : List (List Value)} (h : OwnX T size w F v xs) : Src w v xs.length xs.flatten size := by
 rcases h with ⟨_, rfl, rfl⟩ | ⟨b, cap, _, rfl, h3⟩
 ·
  exact src_nil w size
 ·
  exact h3.src
theorem OwnX.srcN {T : TypeId} {size n : Nat} {w : World} {F : List Nat} {v : Value} {xs : List (List Value)} (h : OwnX T size w F v xs) (hn : xs.length = n) : Src w v n xs.flatten size := by
 subst hn
 exact h.src
theorem OwnX.row {T : TypeId} {size : Nat} {w : World} {b cap n : Nat} {xs : List (List Value)} (h : RowB w b T size cap xs) (hn : xs.length = n) : OwnX T size w [b] (.slice (some ⟨b, 0, none⟩) n cap) xs := .inr ⟨b, cap, rfl, by rw [hn], h⟩
theorem OwnX.of_own {T : TypeId} {size : Nat} {w w' : World} {F : List Nat} {v v' : Value} {n : Nat} {xs zs : List (List Value)} (h : OwnX T size w F v xs) (h2 : w'.ownsRow 0 T size v' n zs.flatten) (hn : zs.length = n) (hl : ∀ x ∈ zs, x.length = size) (h1 : ∀ x ∈ zs, x.all oneB = true) (hg : v'.ownBlock = v.ownBlock ∨ v'.ownBlock = some w.heap.size) : ∃ F', OwnX T size w' F' v' zs ∧ ∀ y ∈ F', y ∈ F ∨ w.heap.size ≤ y := by
 rcases h2.2 with ⟨h3, h4⟩ | ⟨b, cap, cur, h3, _⟩
 ·
  exact ⟨[], .inl ⟨rfl, h3, List.length_eq_zero_iff.1 (by omega)⟩, by simp⟩
 ·
  subst h3
  refine ⟨[b], .inr ⟨b, cap, rfl, by rw [hn], RowB.of_own h2 hn.symm hl h1⟩, fun y hy => ?_⟩
  obtain rfl : y = b := by simpa using hy
  rcases hg with hg | hg
  ·
   rcases h with ⟨_, rfl, _⟩ | ⟨b', cap', rfl, rfl, _⟩
   ·
    cases hg
   ·
    simp only [Value.ownBlock, Option.some.injEq] at hg
    exact .inl (by simp [hg])
  ·
   simp only [Value.ownBlock, Option.some.injEq] at hg
   exact .inr (by omega)
theorem djB {b : Nat} {F : List Nat} (h : b ∉ F) : ∀ y ∈ F, y ∉ [b] := by
 intro y hy hb
 obtain rfl : y = b := by simpa using hb
 exact h hy
theorem inF {S T : List Nat} {w : World} (h : ∀ y ∈ T, w.heap.size ≤ y) : ∀ x ∈ T, x ∈ S ∨ w.heap.size ≤ x := fun x hx => .inr (h x hx)
theorem grow_nin {b : Nat} {F F' : List Nat} {w : World} (hg : ∀ y ∈ F', y ∈ F ∨ w.heap.size ≤ y) (h : b ∉ F) (hb : b < w.heap.size) : b ∉ F' := fun hm => (hg b hm).elim h (fun k => absurd hb (Nat.not_lt.2 k))
theorem grow_dj {G F F' : List Nat} {w : World} (hg : ∀ y ∈ F', y ∈ F ∨ w.heap.size ≤ y) (h : ∀ y ∈ F, y ∉ G) (hG : ∀ y ∈ G, y < w.heap.size) : ∀ y ∈ F', y ∉ G := fun y hy hm => (hg y hy).elim (fun k => h y k hm) (fun k => absurd (hG y hm) (Nat.not_lt.2 k))
theorem dj_symm {F G : List Nat} (h : ∀ y ∈ F, y ∉ G) : ∀ y ∈ G, y ∉ F := fun y hy hm => h y hm hy
theorem grow_ge {B : Nat} {F F' : List Nat} {w : World} (hg : ∀ y ∈ F', y ∈ F ∨ w.heap.size ≤ y) (h : ∀ y ∈ F, B ≤ y) (hB : B ≤ w.heap.size) : ∀ y ∈ F', B ≤ y := fun y hy => (hg y hy).elim (h y) (fun k => Nat.le_trans hB k)
theorem new_nin {b : Nat} {F : List Nat} {w : World} (hF : ∀ y ∈ F, y < w.heap.size) (hb : w.heap.size ≤ b) : b ∉ F := fun h => absurd (hF b h) (Nat.not_lt.2 hb)
section
variable {P : Program} {ι : Type} {ops : Array Oper} {N : Nat} {S : ι → Act → World → Prop} {R : World → World → Prop} {x y : ι} {o : Oper} {e e' : Env} {w : World}
theorem RowB.at {b : Nat} {T : TypeId} {size cap : Nat} {xs : List (List Value)} (h : RowB w b T size cap xs) (k j off : Nat) (v : Value) (hk : k < xs.length) (hj : j < size) (hv : (xs.getD k [])[j]? = some v) (hoff : k * size + j = off) : w.cell? ⟨b, off, none⟩ = some v := by
 subst hoff
 rw [h.cell k j hk hj, hv]
theorem WO.appRow (hT : TkE P ops R S x o y) (d : Nat) {t : TypeId} {xv : Value} {b cap : Nat} {el : TypeId} {size bytes m n : Nat} {xs ys : List (List Value)} (E : ET P t el size bytes) (hrow : RowB w b el size cap xs) (hn : xs.length = n) (hm : ys.length = m) (hsrc : Src w xv m ys.flatten size) (hl : ∀ x ∈ ys, x.length = size) (h1 : ∀ x ∈ ys, x.all oneB = true)
  (h : appAt ops N e o = some (t, .slice (some ⟨b, 0, none⟩) n cap, xv, some d)) (hbytes : (n + m) * bytes ≤ 140737488355328) (hnm : n + m ≤ 140737488355328) (hR : ∀ w', Fr [b] w w' → R w w')
  (kk : ∀ b' cap' w', RowB w' b' el size cap' (xs ++ ys) → Fr [b] w w' → (b' = b ∨ w.heap.size ≤ b') → WO S N y ((d, .slice (some ⟨b', 0, none⟩) (n + m) cap') :: e) w') : WO S N x e w := by
 subst hn
 subst hm
 refine WO.app hT d h E hrow.own hsrc hbytes hnm (Nat.zero_le _) fun v' w' h2 h3 h4 => ?_
 have hF : Fr [b] w w' := Fr.of_grown h3 (fun k hk => by
  simp only [Value.ownBlock, Option.some.injEq] at hk
  exact .inl (by simp [hk]))
 refine ⟨hR _ hF, ?_⟩
 have hb : ∃ b' cap', v' = .slice (some ⟨b', 0, none⟩) (xs.length + ys.length) cap' ∧ (b' = b ∨ w.heap.size ≤ b') := by
  rcases h2.2 with ⟨h5, h6⟩ | ⟨b', cap', cur, h5, _⟩
  ·
   subst h5
   rcases h4 with h4 | h4 <;> cases h4
  ·
   refine ⟨b', cap', h5, ?_⟩
   subst h5
   rcases h4 with h4 | h4
   ·
    simp only [Value.ownBlock, Option.some.injEq] at h4
    exact .inl h4
   ·
    simp only [Value.ownBlock, Option.some.injEq] at h4
    exact .inr (by omega)
 obtain ⟨b', cap', rfl, hb⟩ := hb
 refine kk b' cap' w' ?_ hF hb
 refine RowB.of_own (n := xs.length + ys.length) (by rw [List.flatten_append]; exact h2) (by simp) (fun x hx => ?_) (fun x hx => ?_)
 ·
  rcases List.mem_append.1 hx with hx | hx
  ·
   exact hrow.len x hx
  ·
   exact hl x hx
 ·
  rcases List.mem_append.1 hx with hx | hx
  ·
   exact hrow.one x hx
  ·
   exact h1 x hx
theorem WO.appX (hT : TkE P ops R S x o y) (d : Nat) {t : TypeId} {v xv : Value} {el : TypeId} {size bytes m : Nat} {F : List Nat} {xs ys : List (List Value)} (E : ET P t el size bytes) (hx : OwnX el size w F v xs) (hm : ys.length = m) (hsrc : Src w xv m ys.flatten size) (hl : ∀ x ∈ ys, x.length = size) (h1 : ∀ x ∈ ys, x.all oneB = true)
  (h : appAt ops N e o = some (t, v, xv, some d)) (hbytes : (xs.length + m) * bytes ≤ 140737488355328) (hnm : xs.length + m ≤ 140737488355328) (hR : ∀ w', Fr F w w' → R w w')
  (kk : ∀ v' w' F', OwnX el size w' F' v' (xs ++ ys) → Fr F w w' → (∀ y ∈ F', y ∈ F ∨ w.heap.size ≤ y) → WO S N y ((d, v') :: e) w') : WO S N x e w := by
 subst hm
 have hxl : (∀ x ∈ xs, x.length = size) ∧ ∀ x ∈ xs, x.all oneB = true := by
  rcases hx with ⟨_, _, rfl⟩ | ⟨b, cap, _, _, h3⟩
  ·
   simp
  ·
   exact ⟨h3.len, h3.one⟩
 refine WO.app hT d h E hx.own hsrc hbytes hnm (Nat.zero_le _) fun v' w' h2 h3 h4 => ?_
 have hF : Fr F w w' := Fr.of_grown h3 (fun k hk => by
  rcases hx with ⟨_, rfl, _⟩ | ⟨b, cap, rfl, rfl, _⟩
  ·
   cases hk
  ·
   simp only [Value.ownBlock, Option.some.injEq] at hk
   exact .inl (by simp [hk]))
 refine ⟨hR _ hF, ?_⟩
 obtain ⟨F', h5, h6⟩ := hx.of_own (n := xs.length + ys.length) (zs := xs ++ ys) (by rw [List.flatten_append]; exact h2) (by simp) (fun x hx => by
  rcases List.mem_append.1 hx with hx | hx
  ·
   exact hxl.1 x hx
  ·
   exact hl x hx) (fun x hx => by
  rcases List.mem_append.1 hx with hx | hx
  ·
   exact hxl.2 x hx
  ·
   exact h1 x hx) h4
 exact kk v' w' F' h5 hF h6
def slAt (P : Program) (ops : Array Oper) (N : Nat) (e : Env) (o : Oper) : Option (Option Addr × Nat × Nat × Option Int × Option Int × Nat × Option Tmp) :=
 bif onB ops N e o then
  match o.op with
  | .slice t z lo hi none =>
   match ev e z, P.underlying t with
   | .slice A n cap, some (.slice el) =>
    match P.info? el with
    | none => none
    | some inf =>
     match lo, hi with
     | none, none => some (A, n, cap, none, none, inf.size, o.dst)
     | some l, none => (match ev e l with | .int _ l => some (A, n, cap, some l, none, inf.size, o.dst) | _ => none)
     | none, some h => (match ev e h with | .int _ h => some (A, n, cap, none, some h, inf.size, o.dst) | _ => none)
     | some l, some h => (match ev e l, ev e h with | .int _ l, .int _ h => some (A, n, cap, some l, some h, inf.size, o.dst) | _, _ => none)
   | _, _ => none
  | _ => none
 else none
theorem WO.sl (hT : TkF P ops S x o y) (d l h' : Nat) (A : Option Addr) (n cap size : Nat) (lo hi : Option Int) (h : slAt P ops N e o = some (A, n, cap, lo, hi, size, some d)) (hlo : lo.getD 0 = (l : Int)) (hhi : hi.getD (n : Int) = (h' : Int)) (h1 : l ≤ h') (h2 : h' ≤ cap)
  (k : WO S N y ((d, .slice (if cap = l then A else A.map (·.add (l * size))) (h' - l) (cap - l)) :: e) w) : WO S N x e w := by
 unfold slAt at h
 cases ho : onB ops N e o with
 | false => rw [ho] at h; cases h
 | true =>
  rw [ho] at h
  simp only [cond_true] at h
  split at h
  ·
   rename_i t z lo' hi' hop
   split at h
   ·
    rename_i A' n' cap' el hz hu
    split at h
    ·
     cases h
    ·
     rename_i inf hinf
     have hu' := fun w' => run_underlying (P := P) hu w'
     have hsz : ∀ w', (sizeOf el).run P w' = .ok inf.size w' := fun w' => by simp [sizeOf, typeInfo, program, Sem.run, hinf]
     have fin : ∀ (k' : o.dst = some d) , (∀ w', (execOp (ev e) o).run P w' = .ok (.value (.slice (if cap = l then A else A.map (·.add (l * size))) (h' - l) (cap - l))) w') → WO S N x e w := fun k' hr => WO.valF hT ho hr (by rw [k']; exact k)
     split at h
     ·
      simp only [Option.some.injEq, Prod.mk.injEq] at h
      obtain ⟨rfl, rfl, rfl, rfl, rfl, rfl, hd⟩ := h
      simp only [Option.getD_none] at hlo hhi
      obtain rfl : l = 0 := by omega
      obtain rfl : h' = n' := by omega
      refine fin hd fun w' => ?_
      unfold execOp
      simp [hop, hz, Instr.sliceAt, Instr.slice, hu', hsz, Instr.sliceBounds]
     ·
      split at h
      ·
       rename_i hl
       simp only [Option.some.injEq, Prod.mk.injEq] at h
       obtain ⟨rfl, rfl, rfl, rfl, rfl, rfl, hd⟩ := h
       simp only [Option.getD_none, Option.getD_some] at hlo hhi
       obtain rfl : h' = n' := by omega
       subst hlo
       refine fin hd fun w' => ?_
       unfold execOp
       have hb : (0 : Int) ≤ (l : Int) ∧ (l : Int) ≤ (h' : Int) := by omega
       simp [hop, hz, hl, Instr.sliceAt, Instr.slice, hu', hsz, Instr.sliceBounds, Instr.sliceBound, asIntOf, h1]
      ·
       cases h
     ·
      split at h
      ·
       rename_i hh
       simp only [Option.some.injEq, Prod.mk.injEq] at h
       obtain ⟨rfl, rfl, rfl, rfl, rfl, rfl, hd⟩ := h
       simp only [Option.getD_none, Option.getD_some] at hlo hhi
       obtain rfl : l = 0 := by omega
       subst hhi
       refine fin hd fun w' => ?_
       unfold execOp
       simp [hop, hz, hh, Instr.sliceAt, Instr.slice, hu', hsz, Instr.sliceBounds, Instr.sliceBound, asIntOf, h2]
      ·
       cases h
     ·
      split at h
      ·
       rename_i hl hh
       simp only [Option.some.injEq, Prod.mk.injEq] at h
       obtain ⟨rfl, rfl, rfl, rfl, rfl, rfl, hd⟩ := h
       simp only [Option.getD_some] at hlo hhi
       subst hlo hhi
       refine fin hd fun w' => ?_
       unfold execOp
       simp [hop, hz, hh, hl, Instr.sliceAt, Instr.slice, hu', hsz, Instr.sliceBounds, Instr.sliceBound, asIntOf, h1, h2]
      ·
       cases h
   ·
    cases h
  ·
   cases h
theorem sl0 (A : Option Addr) (cap h size : Nat) : Value.slice (if cap = 0 then A else A.map (·.add (0 * size))) (h - 0) (cap - 0) = .slice A h cap := by
 cases A <;> simp [Addr.add]
def remAt (ops : Array Oper) (N : Nat) (e : Env) (o : Oper) : Option (IntKind × Int × Int × Option Tmp) :=
 bif onB ops N e o then
  match o.op with
  | .binOp .rem _ z u _ => (match ev e z, ev e u with | .int k a, .int k' b => bif decide (k = k') then some (k, a, b, o.dst) else none | _, _ => none)
  | _ => none
 else none
theorem WO.rem (hT : TkF P ops S x o y) (d : Nat) (k : IntKind) (a b : Int) (h : remAt ops N e o = some (k, a, b, some d)) (hb : b ≠ 0) (kk : WO S N y ((d, .int k (a.tmod b)) :: e) w) : WO S N x e w := by
 unfold remAt at h
 cases ho : onB ops N e o with
 | false => rw [ho] at h; cases h
 | true =>
  rw [ho] at h
  simp only [cond_true] at h
  split at h
  ·
   rename_i t z u yt hop
   split at h
   ·
    rename_i k1 a1 k2 b1 hz hu
    cases hk : decide (k1 = k2) with
    | false => rw [hk] at h; cases h
    | true =>
     rw [hk] at h
     have hk' := of_decide_eq_true hk
     subst hk'
     simp only [cond_true, Option.some.injEq, Prod.mk.injEq] at h
     obtain ⟨rfl, rfl, rfl, hd⟩ := h
     refine WO.valF hT ho (v := .int k1 (a1.tmod b1)) (fun w' => ?_) (by rw [hd]; exact kk)
     unfold execOp
     simp [hop, hz, hu, eqGuard, binOp, Op.intDiv, hb]
   ·
    cases h
  ·
   cases h
def mkAt (ops : Array Oper) (N : Nat) (e : Env) (o : Oper) : Option (TypeId × Value × Value × Option Tmp) :=
 bif onB ops N e o then
  match o.op with
  | .makeSlice t l c => some (t, ev e l, ev e c, o.dst)
  | _ => none
 else none
theorem WO.mk (hT : TkE P ops R S x o y) (d n : Nat) {t el : TypeId} (z : Value) (h : mkAt ops N e o = some (t, .int .i64 (n : Int), .int .i64 (n : Int), some d))
  (hr : ∀ w', (Instr.makeSlice t (.int .i64 (n : Int)) (.int .i64 (n : Int))).run P w' = .ok (.slice (some ⟨w'.heap.size, 0, none⟩) n n) (w'.alloc (.cells (Array.replicate n z) el))) (hz : oneB z = true) (hn : n ≤ 1000000) (hR : ∀ w', Fr [] w w' → R w w')
  (k : ∀ g w', RowB w' g el 1 n (List.replicate n [z]) → Fr [] w w' → w.heap.size ≤ g → g < w'.heap.size → WO S N y ((d, .slice (some ⟨g, 0, none⟩) n n) :: e) w') : WO S N x e w := by
 unfold mkAt at h
 cases ho : onB ops N e o with
 | false => rw [ho] at h; cases h
 | true =>
  rw [ho] at h
  simp only [cond_true] at h
  split at h
  ·
   rename_i t' l c hop
   simp only [Option.some.injEq, Prod.mk.injEq] at h
   obtain ⟨rfl, hl, hc, hd⟩ := h
   refine WO.on hT ho fun a ha h3 h4 _ Q => ?_
   have hrun : (execOp (ev e) o).run P w = .ok (.value (.slice (some ⟨w.heap.size, 0, none⟩) n n)) (w.alloc (.cells (Array.replicate n z) el)) := by
    unfold execOp
    simp [hop, hl, hc, hr w]
   simp only [Oper.wp, h3, hrun, Oper.upon]
   have hp := ha.put o.dst (.slice (some ⟨w.heap.size, 0, none⟩) n n) h4
   rw [hd] at hp ⊢
   have hF := (Fr.refl [] w).alloc (.cells (Array.replicate n z) el)
   refine ⟨hR _ hF, k _ _ (RowB.of_blk (Blk.new _ _ _) _ ?_ (by simp) ?_ ?_ (by omega)) hF (Nat.le_refl _) (by rw [size_alloc]; exact Nat.lt_succ_self _) _ hp⟩
   ·
    rw [Array.toList_replicate]
    exact (flat_ones n z).symm
   ·
    intro x hx
    rw [List.eq_of_mem_replicate hx]
    rfl
   ·
    intro x hx
    rw [List.eq_of_mem_replicate hx]
    simp [hz]
  ·
   cases h
end
end Go.Proofs.YtjfgmdkdcnfdoaaGreatDoor.Eng
end
section
set_option linter.unusedVariables false
set_option linter.unusedSimpArgs false
namespace Go.Proofs.YtjfgmdkdcnfdoaaGreatDoor
open Go.RowKit Go.Proofs.YtjfgmdkdcnfdoaaGreatDoorW.PrintWords Go.Proofs.YtjfgmdkdcnfdoaaGreatDoorW.PrintLast
end Go.Proofs.YtjfgmdkdcnfdoaaGreatDoor
end
section
set_option linter.unusedVariables false
set_option linter.unusedSimpArgs false
namespace Go.Proofs.YtjfgmdkdcnfdoaaGreatDoor.Eng
open Go Go.RowKit Go.Proofs.YtjfgmdkdcnfdoaaGreatDoor
def cB (b : UInt8) : List Value := [.int .u8 (b.toNat : Int)]
theorem cB_len (l : List UInt8) : ∀ x ∈ l.map cB, x.length = 1 := by
 intro x hx
 obtain ⟨b, _, rfl⟩ := List.mem_map.1 hx
 rfl
theorem cB_one (l : List UInt8) : ∀ x ∈ l.map cB, x.all oneB = true := by
 intro x hx
 obtain ⟨b, _, rfl⟩ := List.mem_map.1 hx
 rfl
theorem cB_flat : ∀ (l : List UInt8), (l.map cB).flatten = l.map fun b => Value.int .u8 (b.toNat : Int)
 | [] => rfl
 | b :: l => by
  rw [List.map_cons, List.flatten_cons, cB_flat l]
  rfl
def str (l : List UInt8) : ByteArray := ⟨l.toArray⟩
def bs (s : ByteArray) : List UInt8 := s.data.toList
theorem str_bs (s : ByteArray) : str (bs s) = s := by
 cases s with
 | mk d => simp [str, bs]
theorem bs_str (l : List UInt8) : bs (str l) = l := rfl
theorem str_inj {a b : List UInt8} : str a = str b ↔ a = b := ⟨fun h => by have := congrArg bs h; simpa [bs_str] using this, fun h => by rw [h]⟩
theorem bs_inj {a b : ByteArray} : bs a = bs b ↔ a = b := ⟨fun h => by rw [← str_bs a, h, str_bs], fun h => by rw [h]⟩
theorem str_size (l : List UInt8) : (str l).size = l.length := rfl
theorem bs_len (s : ByteArray) : (bs s).length = s.size := rfl
theorem streq (a b : ByteArray) : (a.toList == b.toList) = decide (a = b) := by
 rw [ByteArray.toList_eq, ByteArray.toList_eq, Bool.eq_iff_iff]
 simp only [beq_iff_eq, decide_eq_true_eq]
 exact bs_inj
theorem strCells_eq (s : ByteArray) : Lib.strCells s = ((bs s).map cB).flatten := (cB_flat _).symm
def VX {α : Type} (cE : α → List Value) (size : Nat) (w : World) (F : List Nat) (A : Option Addr) (q : List α) : Prop :=
 (∀ y ∈ F, y < w.heap.size) ∧ (0 < q.length → ∃ ad, A = some ad ∧ ad.block ∈ F ∧ ∀ i x, q[i]? = some x → ∀ j u, (cE x)[j]? = some u → w.cell? (ad.add (i * size + j)) = some u)
section
variable {α : Type} {cE : α → List Value} {size : Nat} {w w1 : World} {F S : List Nat} {A : Option Addr} {q : List α}
theorem VX.keep (h : VX cE size w F A q) (k : Fr S w w1) (hn : ∀ y ∈ F, y ∉ S) : VX cE size w1 F A q := by
 refine ⟨fun y hy => Nat.lt_of_lt_of_le (h.1 y hy) k.size, fun hp => ?_⟩
 obtain ⟨ad, h1, h2, h3⟩ := h.2 hp
 refine ⟨ad, h1, h2, fun i x hx j u hu => ?_⟩
 have := h3 i x hx j u hu
 rw [World.cell?_of_block (w := w) (w' := w1)]
 ·
  exact this
 ·
  have hb : (ad.add (i * size + j)).block = ad.block := by unfold Addr.add; split <;> rfl
  rw [hb]
  exact k.block _ (h.1 _ h2) (hn _ h2)
theorem VX.keepB {B : Nat} (h : VX cE size w F A q) (k : FrB B w w1) (hn : ∀ y ∈ F, y < B) : VX cE size w1 F A q := by
 have hlt : ∀ y ∈ F, y < w1.heap.size := fun y hy => by
  have h1 := k y (hn y hy)
  have h2 := h.1 y hy
  rcases Nat.lt_or_ge y w1.heap.size with h3 | h3
  ·
   exact h3
  ·
   rw [Array.getElem?_eq_none h3, Array.getElem?_eq_getElem h2] at h1
   cases h1
 refine ⟨hlt, fun hp => ?_⟩
 obtain ⟨ad, h1, h2, h3⟩ := h.2 hp
 refine ⟨ad, h1, h2, fun i x hx j u hu => ?_⟩
 have := h3 i x hx j u hu
 rw [World.cell?_of_block (w := w) (w' := w1)]
 ·
  exact this
 ·
  have hb : (ad.add (i * size + j)).block = ad.block := by unfold Addr.add; split <;> rfl
  rw [hb]
  exact k _ (hn _ h2)
theorem VX.lt (h : VX cE size w F A q) : ∀ y ∈ F, y < w.heap.size := h.1
theorem VX.nil (w : World) (A : Option Addr) : VX cE size w [] A [] := ⟨by simp, fun h => absurd h (Nat.lt_irrefl 0)⟩
theorem VX.get (h : VX cE size w F A q) (hp : 0 < q.length) : ∃ ad, A = some ad ∧ ad.block ∈ F ∧ ∀ i x, q[i]? = some x → ∀ j u, (cE x)[j]? = some u → w.cell? (ad.add (i * size + j)) = some u := h.2 hp
theorem VX.src (h : VX cE size w F A q) (hl : ∀ x ∈ q.map cE, x.length = size) (h1 : ∀ x ∈ q.map cE, x.all oneB = true) (c : Nat) : Src w (.slice A q.length c) q.length (q.map cE).flatten size := by
 refine ⟨A, c, rfl, by rw [flat_len _ hl, List.length_map], fun hp => ?_, flat_one h1⟩
 obtain ⟨ad, h2, _, h3⟩ := h.2 hp
 refine ⟨ad, h2, fun j u hu => ?_⟩
 have hj : j < q.length * size := by
  have := (List.getElem?_eq_some_iff.1 hu).1
  rwa [flat_len _ hl, List.length_map] at this
 have hs : 0 < size := by
  rcases Nat.eq_zero_or_pos size with h0 | h0
  ·
   subst h0; simp at hj
  ·
   exact h0
 have hd : j / size < q.length := (Nat.div_lt_iff_lt_mul hs).2 hj
 have hm : j % size < size := Nat.mod_lt _ hs
 have e : j / size * size + j % size = j := by rw [Nat.mul_comm]; exact Nat.div_add_mod j size
 have hf := flat_at (q.map cE) (j / size) (j % size) hl (by rw [List.length_map]; exact hd) hm
 rw [e, hu, List.getD_eq_getElem?_getD, List.getElem?_map, List.getElem?_eq_getElem hd] at hf
 have := h3 (j / size) q[j / size] (List.getElem?_eq_getElem hd) (j % size) u hf.symm
 rwa [e] at this
theorem VX.drop (h : VX cE size w F A q) (k cap : Nat) (hk : k ≤ q.length) (hc : q.length ≤ cap) : VX cE size w F (if cap = k then A else A.map (·.add (k * size))) (q.drop k) := by
 refine ⟨h.1, fun hp => ?_⟩
 rw [List.length_drop] at hp
 obtain ⟨ad, rfl, h2, h3⟩ := h.2 (by omega)
 rw [if_neg (by omega)]
 refine ⟨ad.add (k * size), rfl, ?_, fun i x hx j u hu => ?_⟩
 ·
  have hb : (ad.add (k * size)).block = ad.block := by unfold Addr.add; split <;> rfl
  rw [hb]
  exact h2
 ·
  rw [List.getElem?_drop] at hx
  have := h3 (k + i) x hx j u hu
  rw [add_add_, show k * size + (i * size + j) = (k + i) * size + j by rw [Nat.add_mul]; omega]
  exact this
theorem VX.take (h : VX cE size w F A q) (k : Nat) : VX cE size w F A (q.take k) := by
 refine ⟨h.1, fun hp => ?_⟩
 rw [List.length_take] at hp
 obtain ⟨ad, rfl, h2, h3⟩ := h.2 (by omega)
 refine ⟨ad, rfl, h2, fun i x hx j u hu => h3 i x ?_ j u hu⟩
 rw [List.getElem?_take] at hx
 split at hx
 ·
  exact hx
 ·
  cases hx
theorem VX.of_row {b : Nat} {T : TypeId} {cap : Nat} (h : RowB w b T size cap (q.map cE)) : VX cE size w [b] (some ⟨b, 0, none⟩) q := by
 refine ⟨fun y hy => ?_, fun _ => ⟨_, rfl, by simp, fun i x hx j u hu => ?_⟩⟩
 ·
  obtain rfl : y = b := by simpa using hy
  exact h.lt
 ·
  have hi := (List.getElem?_eq_some_iff.1 hx).1
  have hxl : (cE x).length = size := h.len _ (List.mem_map.2 ⟨x, List.mem_of_getElem? hx, rfl⟩)
  have hj : j < size := by
   have := (List.getElem?_eq_some_iff.1 hu).1
   omega
  rw [add_blk, Nat.zero_add, h.cell i j (by simpa using hi) hj, List.getD_eq_getElem?_getD, List.getElem?_map, hx]
  exact hu
theorem VX.of_own {T : TypeId} {n cap : Nat} (h : OwnX T size w F (.slice A n cap) (q.map cE)) : VX cE size w F A q := by
 rcases h with ⟨rfl, h2, h3⟩ | ⟨b, cap', rfl, h2, h3⟩
 ·
  obtain rfl : q = [] := List.map_eq_nil_iff.1 h3
  exact VX.nil w A
 ·
  simp only [Value.slice.injEq] at h2
  obtain ⟨rfl, _, _⟩ := h2
  exact VX.of_row h3
end
section
variable {α : Type} {cE : α → List Value} {size : Nat} {w : World} {F : List Nat} {A : Option Addr} {q : List α}
theorem VX.srcN {n : Nat} (h : VX cE size w F A q) (hn : q.length = n) (hl : ∀ x ∈ q.map cE, x.length = size) (h1 : ∀ x ∈ q.map cE, x.all oneB = true) (c : Nat) : Src w (.slice A n c) n (q.map cE).flatten size := by
 subst hn
 exact h.src hl h1 c
theorem VX.at {ad : Addr} (h : VX cE size w F A q) (hA : A = some ad) {i : Nat} {x : α} (hx : q[i]? = some x) (j : Nat) {u : Value} (hu : (cE x)[j]? = some u) : w.cell? ((ad.add (i * size)).add j) = some u := by
 obtain ⟨ad', h1, _, h3⟩ := h.2 (by have := (List.getElem?_eq_some_iff.1 hx).1; omega)
 rw [hA] at h1
 simp only [Option.some.injEq] at h1
 subst h1
 rw [add_add_]
 exact h3 i x hx j u hu
theorem add_0 (a : Addr) : a.add 0 = a := by
 unfold Addr.add
 rw [if_pos rfl]
theorem VX.at0 {ad : Addr} (h : VX cE size w F A q) (hA : A = some ad) {i : Nat} {x : α} (hx : q[i]? = some x) {u : Value} (hu : (cE x)[0]? = some u) : w.cell? (ad.add (i * size)) = some u := by
 have := h.at hA hx 0 hu
 rwa [add_0] at this
theorem VX.addr (h : VX cE size w F A q) {i : Nat} (hi : i < q.length) : ∃ ad, A = some ad := by
 obtain ⟨ad, h1, _⟩ := h.2 (by omega)
 exact ⟨ad, h1⟩
end
theorem grow_in {B : Nat} {F F' T : List Nat} {w : World} (hg : ∀ y ∈ F', y ∈ F ∨ w.heap.size ≤ y) (h : ∀ y ∈ F, y ∈ T ∨ B ≤ y) (hB : B ≤ w.heap.size) : ∀ y ∈ F', y ∈ T ∨ B ≤ y := fun y hy => (hg y hy).elim (h y) (fun k => .inr (Nat.le_trans hB k))
def gB (q : List UInt8) (i : Nat) : UInt8 := q.getD i 0
theorem gB_some (q : List UInt8) (i : Nat) (h : i < q.length) : q[i]? = some (gB q i) := by
 unfold gB
 rw [List.getD_eq_getElem?_getD, List.getElem?_eq_getElem h]
 rfl
theorem drop_gB (q : List UInt8) (i : Nat) (h : i < q.length) : q.drop i = gB q i :: q.drop (i + 1) := by
 rw [List.drop_eq_getElem_cons h]
 congr 1
 have := gB_some q i h
 rw [List.getElem?_eq_getElem h] at this
 exact Option.some.inj this
theorem gB_lt (q : List UInt8) (i : Nat) : (gB q i).toNat < 256 := (gB q i).toNat_lt
def iOr (k : IntKind) (x y : Int) : Int := k.wrap ((BitVec.ofInt k.bits x ||| BitVec.ofInt k.bits y).toNat : Int)
def iAndNot (k : IntKind) (x y : Int) : Int := k.wrap ((BitVec.ofInt k.bits x &&& ~~~ BitVec.ofInt k.bits y).toNat : Int)
def iShl (k : IntKind) (x y : Int) : Int := k.wrap (x * 2 ^ (min y.toNat k.bits))
def iShr (k : IntKind) (x y : Int) : Int := x.fdiv (2 ^ (min y.toNat k.bits))
theorem wrap8 (n : Nat) : IntKind.u8.wrap (n : Int) = ((n % 256 : Nat) : Int) := by
 rw [IntKind.wrap_u8]
 omega
section
variable {P : Program} {ι : Type} {ops : Array Oper} {N : Nat} {S : ι → Act → World → Prop} {R : World → World → Prop} {x y : ι} {o : Oper} {e e' : Env} {w : World}
def ixoAt (P : Program) (ops : Array Oper) (N : Nat) (e : Env) (o : Oper) : Option (Option Addr × Nat × Int × Nat × Option Tmp) :=
 bif onB ops N e o then
  match o.op with
  | .indexAddr t z u =>
   match ev e z, ev e u, P.underlying t with
   | .slice A n _, .int _ j, some (.slice el) => (P.info? el).map fun x => (A, n, j, x.size, o.dst)
   | _, _, _ => none
  | _ => none
 else none
theorem WO.ixo (hT : TkF P ops S x o y) (d : Nat) {A : Option Addr} {ad : Addr} (n size i : Nat) (j : Int) (hA : A = some ad) (h : ixoAt P ops N e o = some (A, n, j, size, some d)) (hj : j = (i : Int)) (h1 : i < n) (k : WO S N y ((d, .pointer (some (ad.add (i * size)))) :: e) w) : WO S N x e w := by
 subst hA
 subst hj
 refine WO.ix hT d (ad.add (i * size)) ad n size (i : Int) ?_ (Int.natCast_nonneg i) (by omega) (by simp) k
 unfold ixoAt at h
 unfold ixAt
 cases ho : onB ops N e o with
 | false => rw [ho] at h; cases h
 | true =>
  rw [ho] at h
  simp only [cond_true] at h ⊢
  split at h
  ·
   rename_i t z u hop
   rw [hop]
   split at h
   ·
    rename_i A2 n2 c2 kk j2 el hx hy hu
    simp only [hx, hy, hu]
    cases hi : P.info? el with
    | none => rw [hi] at h; cases h
    | some inf =>
     rw [hi] at h
     simp only [Option.map_some, Option.some.injEq, Prod.mk.injEq] at h ⊢
     obtain ⟨rfl, rfl, rfl, rfl, hd⟩ := h
     show (P.info? el).map (fun x => (ad, n2, (i : Int), x.size, o.dst)) = _
     rw [hi, hd]
     rfl
   ·
    cases h
  ·
   cases h
def cvAt (ops : Array Oper) (N : Nat) (e : Env) (o : Oper) : Option (TypeId × TypeId × Value × Option Tmp) :=
 bif onB ops N e o then
  match o.op with
  | .convert src dst z => some (src, dst, ev e z, o.dst)
  | _ => none
 else none
theorem cvAt_spec {src dst : TypeId} {v : Value} {d : Option Tmp} (h : cvAt ops N e o = some (src, dst, v, d)) : ∃ z, onB ops N e o = true ∧ o.op = .convert src dst z ∧ ev e z = v ∧ o.dst = d := by
 unfold cvAt at h
 cases ho : onB ops N e o with
 | false => rw [ho] at h; cases h
 | true =>
  rw [ho] at h
  simp only [cond_true] at h
  split at h
  ·
   rename_i s t z hop
   simp only [Option.some.injEq, Prod.mk.injEq] at h
   obtain ⟨rfl, rfl, h3, h4⟩ := h
   exact ⟨z, rfl, hop, h3, h4⟩
  ·
   cases h
structure BT (P : Program) (tb te ts : TypeId) : Prop where
 b : P.underlying tb = some (.slice te)
 e : P.underlying te = some (.int .u8)
 s : P.underlying ts = some .string
theorem run_b2s {tb te ts : TypeId} (B : BT P tb te ts) {w : World} {v : Value} {l : List UInt8} (h : Src w v l.length (l.map cB).flatten 1) : (convert tb ts v).run P w = .ok (.string (str l)) w := by
 obtain ⟨A, c, rfl, h2, h3, h4⟩ := h
 rw [run_convert_bytes_string w tb ts te _ _ c B.b B.e B.s]
 cases A with
 | none =>
  have h0 : l = [] := by
   rcases Nat.eq_zero_or_pos l.length with h0 | h0
   ·
    exact List.length_eq_zero_iff.1 h0
   ·
    obtain ⟨ad, h5, _⟩ := h3 h0
    cases h5
  subst h0
  simp [Conv.bytesToString]
  rfl
 | some ad =>
  have hl : (loadCells ad l.length).run P w = .ok ((l.map fun b => (b.toNat : Int)).map (Value.int .u8)).toArray w := by
   have := run_loadCells_list (P := P) w ad (l.map fun b => Value.int .u8 (b.toNat : Int)) (fun j v hj => by
    have hp : 0 < l.length := by
     have := (List.getElem?_eq_some_iff.1 hj).1
     rw [List.length_map] at this
     omega
    obtain ⟨ad', h5, h6⟩ := h3 hp
    simp only [Option.some.injEq] at h5
    subst h5
    exact h6 j v (by rw [cB_flat]; exact hj))
   simpa [List.map_map, Function.comp_def] using this
  rw [run_bytesToString w ad l.length c _ hl, foldl_push_bytes]
  simp [str, ByteArray.empty, ByteArray.emptyWithCapacity, List.map_map, Function.comp_def]
  rfl
theorem WO.b2s (hT : TkS P ops R S x o y) (d : Nat) {tb te ts : TypeId} (B : BT P tb te ts) (l : List UInt8) {v : Value} {n : Nat} (hn : l.length = n) (h : cvAt ops N e o = some (tb, ts, v, some d)) (hs : ∀ w', R w w' → Src w' v n (l.map cB).flatten 1) (k : WO S N y ((d, .string (str l)) :: e) w) : WO S N x e w := by
 subst hn
 obtain ⟨z, ho, hop, hx, hd⟩ := cvAt_spec h
 refine WO.val hT ho (v := .string (str l)) (fun w' hR => ?_) (by rw [hd]; exact k)
 unfold execOp
 simp only [hop, hx, Sem.run_bind, run_b2s B (hs w' hR), Result.andThen_ok, Sem.run_pure]
theorem WO.b2sE (hT : TkE P ops R S x o y) (d : Nat) {tb te ts : TypeId} (B : BT P tb te ts) (l : List UInt8) {v : Value} {n : Nat} (hn : l.length = n) (h : cvAt ops N e o = some (tb, ts, v, some d)) (hs : Src w v n (l.map cB).flatten 1) (hR : ∀ w', Fr [] w w' → R w w') (k : WO S N y ((d, .string (str l)) :: e) w) : WO S N x e w := by
 subst hn
 obtain ⟨z, ho, hop, hx, hd⟩ := cvAt_spec h
 refine WO.on hT ho fun a ha h3 h4 _ Q => ?_
 have hrun : (execOp (ev e) o).run P w = .ok (.value (.string (str l))) w := by
  unfold execOp
  simp only [hop, hx, Sem.run_bind, run_b2s B hs, Result.andThen_ok, Sem.run_pure]
 simp only [Oper.wp, h3, hrun, Oper.upon]
 have hp := ha.put o.dst (.string (str l)) h4
 rw [hd] at hp ⊢
 exact ⟨hR _ (Fr.refl [] w), k _ hp⟩
theorem WO.s2b (hT : TkE P ops R S x o y) (d : Nat) {tb te ts : TypeId} (B : BT P tb te ts) {s : ByteArray} (h : cvAt ops N e o = some (ts, tb, .string s, some d)) (hR : ∀ w', Fr [] w w' → R w w')
  (k : ∀ g cap w', VX cB 1 w' [g] (some ⟨g, 0, none⟩) (bs s) → s.size ≤ cap → Fr [] w w' → w.heap.size ≤ g → g < w'.heap.size → WO S N y ((d, .slice (some ⟨g, 0, none⟩) s.size cap) :: e) w') : WO S N x e w := by
 obtain ⟨z, ho, hop, hx, hd⟩ := cvAt_spec h
 refine WO.on hT ho fun a ha h3 h4 _ Q => ?_
 have hrun : (execOp (ev e) o).run P w = .ok (.value (.slice (some ⟨w.heap.size, 0, none⟩) s.size (grownCap w s.size 0 te))) (Lib.bytesWorld w te s) := by
  have := Lib.run_convert_string_bytes (P := P) (u := .string) w ts tb te s B.s B.b B.e
  unfold execOp
  simp [hop, hx, this, Result.andThen]
 have hF : Fr [] w (Lib.bytesWorld w te s) := by
  refine ⟨?_, ?_, ?_, ?_, fun j hj _ => Lib.bytesWorld_at_old w te s j hj⟩
  ·
   simp [Lib.bytesWorld, World.freeze, World.alloc, World.drew, -World.alloc_eq, -World.drew_eq]
  ·
   simp [Lib.bytesWorld, World.freeze, World.alloc, World.drew, -World.alloc_eq, -World.drew_eq]
  ·
   simp [Lib.bytesWorld, World.freeze, World.alloc, World.drew, -World.alloc_eq, -World.drew_eq]
  ·
   rw [Lib.bytesWorld_size]; omega
 simp only [Oper.wp, h3, hrun, Oper.upon]
 have hp := ha.put o.dst (.slice (some ⟨w.heap.size, 0, none⟩) s.size (grownCap w s.size 0 te)) h4
 rw [hd] at hp ⊢
 refine ⟨hR _ hF, k w.heap.size _ _ ⟨fun y hy => ?_, fun hl => ⟨_, rfl, by simp, fun i x hx j u hu => ?_⟩⟩ (grownCap_ge w s.size 0 te) hF (Nat.le_refl _) (by rw [Lib.bytesWorld_size]; omega) _ hp⟩
 ·
  obtain rfl : y = w.heap.size := by simpa using hy
  rw [Lib.bytesWorld_size]; omega
 ·
  have hi : i < s.size := (List.getElem?_eq_some_iff.1 hx).1
  have hj0 : j = 0 ∧ u = .int .u8 (x.toNat : Int) := by
   unfold cB at hu
   cases j with
   | zero => simpa using hu.symm
   | succ j => simp at hu
  obtain ⟨rfl, rfl⟩ := hj0
  rw [add_blk, show 0 + (i * 1 + 0) = i by omega, Lib.bytesWorld_cell w te s i hi]
  unfold bs at hx
  rw [List.getD_eq_getElem?_getD, hx]
  rfl
def appSAt (ops : Array Oper) (N : Nat) (e : Env) (o : Oper) : Option (TypeId × TypeId × Value × ByteArray × Option Tmp) :=
 bif onB ops N e o then
  match o.op with
  | .call { callee := .builtin .append, args := ⟨[s, z]⟩, argTypes := ⟨[t, u]⟩ } => (match ev e z with | .string b => some (t, u, ev e s, b, o.dst) | _ => none)
  | _ => none
 else none
theorem WO.appS (hT : TkE P ops R S x o y) (d : Nat) {t ts te : TypeId} {v : Value} {s : ByteArray} (B : BT P t te ts) (E : ET P t te 1 1) (hz : ∃ i, P.info? te = some i ∧ i.zero = some (.int .u8 0)) {F : List Nat} {q : List UInt8} (hx : OwnX te 1 w F v (q.map cB))
  (h : appSAt ops N e o = some (t, ts, v, s, some d)) (hnm : q.length + s.size ≤ 140737488351232) (hR : ∀ w', Fr F w w' → R w w')
  (kk : ∀ v' w' F', OwnX te 1 w' F' v' ((q ++ bs s).map cB) → Fr F w w' → (∀ y ∈ F', y ∈ F ∨ w.heap.size ≤ y) → WO S N y ((d, v') :: e) w') : WO S N x e w := by
 unfold appSAt at h
 cases ho : onB ops N e o with
 | false => rw [ho] at h; cases h
 | true =>
  rw [ho] at h
  simp only [cond_true] at h
  split at h
  ·
   rename_i s' z t' u' hop
   split at h
   ·
    rename_i b hb
    simp only [Option.some.injEq, Prod.mk.injEq] at h
    obtain ⟨rfl, rfl, rfl, rfl, hd⟩ := h
    refine WO.on hT ho fun a ha h3 h4 hcv Q => ?_
    obtain ⟨i, hi, hzz⟩ := hz
    obtain ⟨i', z', hi', hz', hs', hb', hzs⟩ := E.hi
    rw [hi] at hi'
    simp only [Option.some.injEq] at hi'
    subst hi'
    have hlm : (q.map cB).length = q.length := List.length_map _
    obtain ⟨v', w', hr, h5, h6, h7⟩ := Lib.run_append_own_string (P := P) w 0 t' u' o.type te i B.b B.s hi hzz hs' hb' (ev e s') q.length (q.map cB).flatten (by have := hx.own; rwa [hlm] at this) b (by unfold maxLen; omega) (by omega) (Nat.zero_le _)
    have hrun : (execOp (ev e) o).run P w = .ok (.value v') w' := by
     unfold execOp
     simp only [hop, resolve, invoke, builtin, Sem.run_bind, Sem.run_pure, Result.andThen_ok, List.map_toArray, List.map_cons, List.map_nil, hb, hr]
    simp only [Oper.wp, h3, hrun, Oper.upon]
    have hF : Fr F w w' := Fr.of_grown h6 (fun k hk => by
     rcases hx with ⟨_, hv, _⟩ | ⟨b', cap, rfl, hv, _⟩
     ·
      rw [hv] at hk; cases hk
     ·
      rw [hv] at hk
      simp only [Value.ownBlock, Option.some.injEq] at hk
      exact .inl (by simp [hk]))
    have hg : v'.ownBlock = (ev e s').ownBlock ∨ ∀ g, v'.ownBlock = some g → w.heap.size ≤ g := by
     rcases hx with ⟨_, hv, hq⟩ | ⟨b', cap, _, hv, hrow⟩
     ·
      obtain ⟨v2, w2, hr2, h8, _, _⟩ := Lib.run_append_own_string (P := P) w w.heap.size t' u' o.type te i B.b B.s hi hzz hs' hb' (ev e s') 0 [] (by rw [hv]; exact ⟨by simp, .inl ⟨rfl, rfl⟩⟩) b (by unfold maxLen; omega) (by omega) (Nat.le_refl _)
      rw [hr] at hr2
      simp only [Result.ok.injEq] at hr2
      obtain ⟨rfl, rfl⟩ := hr2
      exact .inr fun g hg => (h8.lt g hg).1
     ·
      obtain ⟨cur, h8, h9, _⟩ := hrow.cur
      have hle := hrow.le
      have hcp := hrow.cap
      rw [List.length_map] at hle
      by_cases hroom : q.length + b.size ≤ cap
      ·
       have hr2 := Lib.run_append_room_string (P := P) w t' u' o.type te i B.b B.s hi hs' b' q.length cap cur h8 b hroom (by omega)
       rw [hlm] at hv
       rw [hv, hr2] at hr
       simp only [Result.ok.injEq] at hr
       rw [hv, ← hr.1]
       exact .inl rfl
      ·
       have hown := hrow.own
       have hr2 := Lib.run_append_grow_string (P := P) w t' u' o.type te i (.int .u8 0) B.b B.s hi hzz ⟨b', 0, none⟩ q.length cap (q.map cB).flatten (by rw [hs', flat_len _ (cB_len q), hlm]) (hown.cells (g := b') rfl) b (by omega) (by omega) (by rw [hb']; exact growslice_fits (by omega) (by omega))
       rw [hlm] at hv
       rw [hv, hr2] at hr
       simp only [Result.ok.injEq] at hr
       refine .inr fun g hg => ?_
       rw [← hr.1] at hg
       simp only [Value.ownBlock, Option.some.injEq] at hg
       omega
    have h5' : w'.ownsRow 0 te 1 v' (q.length + b.size) ((q ++ bs b).map cB).flatten := by
     rw [List.map_append, List.flatten_append, ← strCells_eq]
     exact h5
    obtain ⟨F', h8, h9⟩ : ∃ F', OwnX te 1 w' F' v' ((q ++ bs b).map cB) ∧ ∀ y ∈ F', y ∈ F ∨ w.heap.size ≤ y := by
     rcases h5'.2 with ⟨h3, h4⟩ | ⟨g, cap, cur, h3, _⟩
     ·
      refine ⟨[], .inl ⟨rfl, h3, ?_⟩, by simp⟩
      have : q ++ bs b = [] := List.length_eq_zero_iff.1 (by rw [List.length_append, bs_len]; exact h4)
      rw [this]
      rfl
     ·
      subst h3
      refine ⟨[g], .inr ⟨g, cap, rfl, by rw [List.length_map, List.length_append, bs_len], RowB.of_own h5' (by rw [List.length_map, List.length_append, bs_len]) (cB_len _) (cB_one _)⟩, fun y hy => ?_⟩
      obtain rfl : y = g := by simpa using hy
      rcases hg with hg | hg
      ·
       rcases hx with ⟨_, hv, _⟩ | ⟨b', cap', rfl, hv, _⟩
       ·
        rw [hv] at hg; cases hg
       ·
        rw [hv] at hg
        simp only [Value.ownBlock, Option.some.injEq] at hg
        exact .inl (by simp [hg])
      ·
       exact .inr (hg y rfl)
    have hp := ha.put o.dst v' h4
    rw [hd] at hp ⊢
    exact ⟨hR _ hF, kk v' w' F' h8 hF h9 _ hp⟩
   ·
    cases h
  ·
   cases h
def shAt (ops : Array Oper) (N : Nat) (e : Env) (o : Oper) : Option (IntKind × Int × Int × Option Tmp) :=
 bif onB ops N e o then
  match o.op with
  | .binOp .shl _ z u _ => (match ev e z, ev e u with | .int k a, .int _ b => some (k, a, b, o.dst) | _, _ => none)
  | _ => none
 else none
theorem WO.shl (hT : TkF P ops S x o y) (d : Nat) (k : IntKind) (a b : Int) (h : shAt ops N e o = some (k, a, b, some d)) (hb : 0 ≤ b) (kk : WO S N y ((d, .int k (iShl k a b)) :: e) w) : WO S N x e w := by
 unfold shAt at h
 cases ho : onB ops N e o with
 | false => rw [ho] at h; cases h
 | true =>
  rw [ho] at h
  simp only [cond_true] at h
  split at h
  ·
   rename_i t z u yt hop
   split at h
   ·
    rename_i k1 a1 k2 b1 hz hu
    simp only [Option.some.injEq, Prod.mk.injEq] at h
    obtain ⟨rfl, rfl, rfl, hd⟩ := h
    refine WO.valF hT ho (v := .int k1 (iShl k1 a1 b1)) (fun w' => ?_) (by rw [hd]; exact kk)
    unfold execOp
    simp [hop, hz, hu, eqGuard, binOp, Op.shift, iShl, Int.not_lt.2 hb]
   ·
    cases h
  ·
   cases h
end
end Go.Proofs.YtjfgmdkdcnfdoaaGreatDoor.Eng
end
section
set_option linter.unusedVariables false
namespace Go.Proofs.YtjfgmdkdcnfdoaaGreatDoor.Eng
open Go Go.Proofs.YtjfgmdkdcnfdoaaGreatDoor
section
variable {P : Program} {Q : Exit → Act → World → Prop} {N : Nat} {e e' : Env} {w : World} {x y : Code}
def inL (P : Program) (x : Code) (Q : Exit → Act → World → Prop) (a : Act) (w : World) : Prop :=
 ∀ (b : Frame) (k : List Item) (cs : List Frame), ∃ ex a' w', Q ex a' w' ∧ Arrives P (lone (b.at a (.code x :: .inLoop x :: k)) cs w) b k cs ex a' w'
def WL (P : Program) (N : Nat) (x : Code) (Q : Exit → Act → World → Prop) (e : Env) (w : World) : Prop := ∀ a, Rep N e a → inL P x Q a w
theorem WE.unroll (k : WL P N x Q e w) : WE P N (.loop x) Q e w := by
 intro a ha b k' cs
 obtain ⟨ex, a', w', hq, harr⟩ := k a ha b k' cs
 exact ⟨ex, a', w', hq, .of_steps (.one step_loop) harr⟩
theorem WL.go (k : WE P N x (Exit.then (inL P x Q) Q) e w) : WL P N x Q e w := by
 intro a ha b k' cs
 obtain ⟨ex, a₁, w₁, hq, harr⟩ := k a ha b (.inLoop x :: k') cs
 cases ex with
 | normal =>
  obtain ⟨e₂, a₂, w₂, hq₂, harr₂⟩ := hq b k' cs
  exact ⟨e₂, a₂, w₂, hq₂, .of_steps (Steps.trans harr (.one step_inLoop)) harr₂⟩
 | exit id => exact ⟨_, a₁, w₁, hq, .pass (x := .inLoop x) rfl (fun _ _ => .inl (by simp)) harr⟩
 | goto l => exact ⟨_, a₁, w₁, hq, .pass (x := .inLoop x) rfl (fun _ _ => .inl (by simp)) harr⟩
 | ret => exact ⟨_, a₁, w₁, hq, .pass (x := .inLoop x) rfl (fun _ _ => .inl (by simp)) harr⟩
 | panic ch => exact ⟨_, a₁, w₁, hq, .pass (x := .inLoop x) rfl (fun _ _ => .inl (by simp)) harr⟩
 | outgrown => exact ⟨_, a₁, w₁, hq, .pass (x := .inLoop x) rfl (fun _ _ => .inl (by simp)) harr⟩
theorem WQ.thenL (k : WL P N x Q e w) : WQ (Exit.then (inL P x Q) Q) N .normal e w := fun a ha => k a ha
end
def Kp (bs : List Nat) (w w' : World) : Prop := ∀ b, b ∈ bs → w'.heap[b]? = w.heap[b]?
theorem kpR (bs : List Nat) (w : World) : Kp bs w w := fun _ _ => rfl
theorem kpT (bs : List Nat) (w w1 w2 : World) (h : Kp bs w w1) (k : Kp bs w1 w2) : Kp bs w w2 := fun b hb => (k b hb).trans (h b hb)
theorem _root_.Go.Proofs.YtjfgmdkdcnfdoaaGreatDoor.Blk.kp {bs : List Nat} {w w1 : World} {g : Nat} {cs : Array Value} {T : TypeId} (h : Blk w g cs T) (k : Kp bs w w1) (hg : g ∈ bs) : Blk w1 g cs T := (k g hg).trans h
end Go.Proofs.YtjfgmdkdcnfdoaaGreatDoor.Eng
end
section
set_option linter.unusedVariables false
set_option linter.unusedSimpArgs false
namespace Go.Proofs.YtjfgmdkdcnfdoaaGreatDoor.Eng
open Go Go.RowKit Go.Proofs.YtjfgmdkdcnfdoaaGreatDoor Go.Proofs.YtjfgmdkdcnfdoaaGreatDoorW.PrintWords Go.Proofs.YtjfgmdkdcnfdoaaGreatDoorW.PrintLast
variable {P : Program} {ι : Type} {ops : Array Oper} {N : Nat} {S : ι → Act → World → Prop} {R : World → World → Prop} {x y : ι} {o : Oper} {e e' : Env} {w : World}
end Go.Proofs.YtjfgmdkdcnfdoaaGreatDoor.Eng
end
