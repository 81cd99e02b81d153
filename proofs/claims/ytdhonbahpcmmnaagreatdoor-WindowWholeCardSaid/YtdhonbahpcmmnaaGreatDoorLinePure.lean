import Derived.Test.YtdhonbahpcmmnaaGreatDoorWMore
import Derived.Laws.StructEq
import Derived.Test.YtdhonbahpcmmnaaGreatDoorEng
import Derived.Test.YtdhonbahpcmmnaaGreatDoorApp
import Derived.Lib.ConvBytes
import Derived.Lib.AppendStr
import Derived.Laws.BytesArg
import Derived.IntWalk
section
namespace Go.Proofs.YtdhonbahpcmmnaaGreatDoorW.PrintWords
open Go.RowKit
section
variable {P : Program} {d : Nat} {xs ys : Array Value} {f : Field} {fs : List Field} {a b : Value} {r s : Bool} {w : World}
end
end Go.Proofs.YtdhonbahpcmmnaaGreatDoorW.PrintWords
end
section
set_option linter.unusedVariables false
set_option linter.unusedSimpArgs false
namespace Go.Proofs.YtdhonbahpcmmnaaGreatDoor.Eng
open Go Go.Proofs.YtdhonbahpcmmnaaGreatDoor
theorem flat_at {size : Nat} : ∀ (xs : List (List Value)) (k j : Nat), (∀ x ∈ xs, x.length = size) → k < xs.length → j < size → xs.flatten[k * size + j]? = (xs.getD k [])[j]?
 | [], k, j, h, hk, hj => by simp at hk
 | x :: xs, 0, j, h, hk, hj => by
  have hx := h x (by simp)
  simp only [Nat.zero_mul, Nat.zero_add, List.flatten_cons, List.getD_cons_zero]
  rw [List.getElem?_append_left (by omega)]
 | x :: xs, k + 1, j, h, hk, hj => by
  have hx := h x (by simp)
  simp only [List.flatten_cons, List.getD_cons_succ]
  rw [List.getElem?_append_right (by rw [hx, Nat.succ_mul]; omega), hx]
  have ih := flat_at xs k j (fun y hy => h y (by simp [hy])) (by simpa using hk) hj
  rw [← ih]
  congr 1
  rw [Nat.succ_mul]; omega
theorem flat_len {size : Nat} : ∀ (xs : List (List Value)), (∀ x ∈ xs, x.length = size) → xs.flatten.length = xs.length * size
 | [], h => by simp
 | x :: xs, h => by
  have := flat_len xs (fun y hy => h y (by simp [hy]))
  simp only [List.flatten_cons, List.length_append, List.length_cons, h x (by simp), this]
  rw [Nat.succ_mul]; omega
theorem flat_ones (n : Nat) (z : Value) : (List.replicate n [z]).flatten = List.replicate n z := by
 induction n with
 | zero => rfl
 | succ n ih => rw [List.replicate_succ, List.flatten_cons, ih]; rfl
structure RowB (w : World) (b : Nat) (T : TypeId) (size cap : Nat) (xs : List (List Value)) : Prop where
 cur : ∃ cur : Array Value, Blk w b cur T ∧ cur.size = cap * size ∧ cur.toList.take (xs.length * size) = xs.flatten
 len : ∀ x ∈ xs, x.length = size
 one : ∀ x ∈ xs, x.all oneB = true
 le : xs.length ≤ cap
 cap : cap ≤ 9223372036854775807
theorem RowB.keep {w w1 : World} {S : List Nat} {b : Nat} {T : TypeId} {size cap : Nat} {xs : List (List Value)} (h : RowB w b T size cap xs) (k : Fr S w w1) (hn : b ∉ S) : RowB w1 b T size cap xs := by
 obtain ⟨cur, h1, h2, h3⟩ := h.cur
 exact ⟨⟨cur, h1.keep k hn, h2, h3⟩, h.len, h.one, h.le, h.cap⟩
theorem RowB.keepB {B : Nat} {w w1 : World} {b : Nat} {T : TypeId} {size cap : Nat} {xs : List (List Value)} (h : RowB w b T size cap xs) (k : FrB B w w1) (hn : b < B) : RowB w1 b T size cap xs := by
 obtain ⟨cur, h1, h2, h3⟩ := h.cur
 exact ⟨⟨cur, h1.keepB k hn, h2, h3⟩, h.len, h.one, h.le, h.cap⟩
theorem RowB.lt {w : World} {b : Nat} {T : TypeId} {size cap : Nat} {xs : List (List Value)} (h : RowB w b T size cap xs) : b < w.heap.size := by
 obtain ⟨cur, h1, _⟩ := h.cur
 exact h1.lt
theorem RowB.cell {w : World} {b : Nat} {T : TypeId} {size cap : Nat} {xs : List (List Value)} (h : RowB w b T size cap xs) (k j : Nat) (hk : k < xs.length) (hj : j < size) : w.cell? ⟨b, k * size + j, none⟩ = (xs.getD k [])[j]? := by
 obtain ⟨cur, h1, h2, h3⟩ := h.cur
 rw [h1.cell, ← Array.getElem?_toList, ← flat_at xs k j h.len hk hj, ← h3]
 have : k * size + j < xs.length * size := by
  have := Nat.mul_le_mul_right size (show k + 1 ≤ xs.length by omega)
  rw [Nat.succ_mul] at this
  omega
 rw [List.getElem?_take, if_pos this]
theorem splice_at : ∀ (vs : List Value) (cs : Array Value) (o i : Nat), o + vs.length ≤ cs.size → (splice cs o vs)[i]? = if o ≤ i ∧ i < o + vs.length then vs[i - o]? else cs[i]?
 | [], cs, o, i, h => by
  rw [if_neg (by simp)]
  rfl
 | v :: vs, cs, o, i, h => by
  simp only [List.length_cons] at h ⊢
  rw [splice, splice_at vs _ _ _ (by simp; omega)]
  by_cases h1 : i = o
  ·
   subst h1
   rw [if_neg (by omega), if_pos (by omega)]
   simp [show i < cs.size by omega]
  ·
   by_cases h2 : o + 1 ≤ i ∧ i < o + 1 + vs.length
   ·
    rw [if_pos h2, if_pos (by omega)]
    rw [show i - o = (i - (o + 1)) + 1 by omega, List.getElem?_cons_succ]
   ·
    rw [if_neg h2, if_neg (by omega)]
    rw [Array.getElem?_setIfInBounds_ne (Ne.symm h1)]
theorem RowB.put {w w1 : World} {b : Nat} {T : TypeId} {size cap : Nat} {xs : List (List Value)} (h : RowB w b T size cap xs) (k : Nat) (vs : List Value) (hk : k < xs.length) (hv : vs.length = size) (h1 : vs.all oneB = true)
  (hw : ∀ cur, Blk w b cur T → Blk w1 b (splice cur (k * size) vs) T) : RowB w1 b T size cap (xs.set k vs) := by
 obtain ⟨cur, h2, h3, h4⟩ := h.cur
 have hb : k * size + size ≤ xs.length * size := by
  have := Nat.mul_le_mul_right size (show k + 1 ≤ xs.length by omega)
  rwa [Nat.succ_mul] at this
 have hc : xs.length * size ≤ cap * size := Nat.mul_le_mul_right size h.le
 have hl : ∀ x ∈ xs.set k vs, x.length = size := fun x hx => by
  rcases List.mem_or_eq_of_mem_set hx with hx | hx
  ·
   exact h.len x hx
  ·
   rw [hx]; exact hv
 refine ⟨⟨_, hw cur h2, by rw [size_splice]; exact h3, ?_⟩, hl, fun x hx => ?_, by simpa using h.le, h.cap⟩
 ·
  apply List.ext_getElem?
  intro i
  rw [List.length_set]
  by_cases hi : i < xs.length * size
  ·
   have hs : 0 < size := by
    rcases Nat.eq_zero_or_pos size with h0 | h0
    ·
     subst h0; simp at hi
    ·
     exact h0
   rw [List.getElem?_take, if_pos hi, Array.getElem?_toList, splice_at _ _ _ _ (by omega)]
   have hq : i = i / size * size + i % size := by rw [Nat.mul_comm]; exact (Nat.div_add_mod i size).symm
   have hr : i % size < size := Nat.mod_lt _ hs
   have hk' : i / size < xs.length := by
    rw [Nat.div_lt_iff_lt_mul hs]
    exact hi
   have hf := flat_at (xs.set k vs) (i / size) (i % size) hl (by simpa using hk') hr
   rw [← hq] at hf
   rw [hf]
   have hf0 := flat_at xs (i / size) (i % size) h.len hk' hr
   rw [← hq] at hf0
   by_cases hkk : i / size = k
   ·
    rw [if_pos (by rw [hv]; rw [hkk] at hq; omega)]
    have : (xs.set k vs).getD (i / size) [] = vs := by
     rw [hkk]
     simp [List.getD_eq_getElem?_getD, List.getElem?_set, hk]
    rw [this]
    congr 1
    rw [hkk] at hq
    omega
   ·
    have hne : ¬ (k * size ≤ i ∧ i < k * size + vs.length) := by
     rintro ⟨ha, hb2⟩
     apply hkk
     rw [hv] at hb2
     have h5 : k ≤ i / size := (Nat.le_div_iff_mul_le hs).2 ha
     have h6 : i / size < k + 1 := (Nat.div_lt_iff_lt_mul hs).2 (by rw [Nat.succ_mul]; exact hb2)
     omega
    rw [if_neg hne]
    have : (xs.set k vs).getD (i / size) [] = xs.getD (i / size) [] := by
     simp [List.getD_eq_getElem?_getD, List.getElem?_set, Ne.symm hkk]
    rw [this, ← hf0, ← h4, List.getElem?_take, if_pos hi, Array.getElem?_toList]
  ·
   rw [List.getElem?_take, if_neg hi, List.getElem?_eq_none]
   rw [flat_len _ hl, List.length_set]
   omega
 ·
  rcases List.mem_or_eq_of_mem_set hx with hx | hx
  ·
   exact h.one x hx
  ·
   rw [hx]; exact h1
theorem RowB.take {w : World} {b : Nat} {T : TypeId} {size cap : Nat} {xs : List (List Value)} (h : RowB w b T size cap xs) (n : Nat) : RowB w b T size cap (xs.take n) := by
 obtain ⟨cur, h2, h3, h4⟩ := h.cur
 refine ⟨⟨cur, h2, h3, ?_⟩, fun x hx => h.len x (List.mem_of_mem_take hx), fun x hx => h.one x (List.mem_of_mem_take hx), ?_, h.cap⟩
 ·
  have hl : ∀ x ∈ xs.take n, x.length = size := fun x hx => h.len x (List.mem_of_mem_take hx)
  have hle : (xs.take n).length * size ≤ xs.length * size := Nat.mul_le_mul_right size (by simp; omega)
  have h5 : xs.flatten.take ((xs.take n).length * size) = (xs.take n).flatten := by
   have h6 : xs.flatten = (xs.take n).flatten ++ (xs.drop n).flatten := by rw [← List.flatten_append, List.take_append_drop]
   rw [h6, ← flat_len _ hl, List.take_left]
  rw [← h5, ← h4, List.take_take]
  congr 1
  omega
 ·
  have := h.le
  simp; omega
theorem RowB.own {w : World} {b : Nat} {T : TypeId} {size cap : Nat} {xs : List (List Value)} (h : RowB w b T size cap xs) : w.ownsRow 0 T size (.slice (some ⟨b, 0, none⟩) xs.length cap) xs.length xs.flatten := by
 obtain ⟨cur, h2, h3, h4⟩ := h.cur
 exact ⟨flat_len _ h.len, .inr ⟨b, cap, cur, rfl, Nat.zero_le _, h2, h.le, h.cap, h3, h4⟩⟩
theorem RowB.of_own {w : World} {b : Nat} {T : TypeId} {size cap n : Nat} {xs : List (List Value)} (h : w.ownsRow 0 T size (.slice (some ⟨b, 0, none⟩) n cap) n xs.flatten) (hn : n = xs.length) (hl : ∀ x ∈ xs, x.length = size) (h1 : ∀ x ∈ xs, x.all oneB = true) : RowB w b T size cap xs := by
 rcases h.2 with ⟨h2, _⟩ | ⟨b2, cap2, cur, h2, _, h4, h5, h6, h7, h8⟩
 ·
  cases h2
 ·
  simp only [Value.slice.injEq, Option.some.injEq, Addr.mk.injEq, and_true] at h2
  obtain ⟨rfl, h2, rfl⟩ := h2
  exact ⟨⟨cur, h4, h7, by rw [← hn]; exact h8⟩, hl, h1, by omega, h6⟩
theorem one_of (u : Value) (h : oneB u = true) : u.oneCell' = true := by
 cases u <;> first | rfl | simp [oneB] at h
theorem flat_one {xs : List (List Value)} (h : ∀ x ∈ xs, x.all oneB = true) : ∀ u ∈ xs.flatten, u.oneCell' = true := by
 intro u hu
 obtain ⟨x, hx, hux⟩ := List.mem_flatten.1 hu
 exact one_of u (List.all_eq_true.1 (h x hx) u hux)
theorem RowB.src {w : World} {b : Nat} {T : TypeId} {size cap : Nat} {xs : List (List Value)} (h : RowB w b T size cap xs) : Src w (.slice (some ⟨b, 0, none⟩) xs.length cap) xs.length xs.flatten size :=
 Src.of_own h.own (flat_one h.one)
theorem src_nil (w : World) (size : Nat) : Src w (.slice none 0 0) 0 ([] : List (List Value)).flatten size := ⟨none, 0, rfl, by simp, fun h => absurd h (Nat.lt_irrefl 0), by simp⟩
theorem RowB.of_blk {w : World} {b : Nat} {T : TypeId} {size n : Nat} {cs : Array Value} (h : Blk w b cs T) (xs : List (List Value)) (hx : cs.toList = xs.flatten) (hn : xs.length = n) (hl : ∀ x ∈ xs, x.length = size) (h1 : ∀ x ∈ xs, x.all oneB = true) (hb : n ≤ 9223372036854775807) : RowB w b T size n xs := by
 have hs : cs.size = xs.length * size := by rw [← flat_len _ hl, ← hx]; rfl
 refine ⟨⟨cs, h, by rw [hs, hn], ?_⟩, hl, h1, by omega, hb⟩
 rw [← hs, ← hx]
 exact List.take_of_length_le (by simp)
def OwnX (T : TypeId) (size : Nat) (w : World) (F : List Nat) (v : Value) (xs : List (List Value)) : Prop :=
 (F = [] ∧ v = .slice none 0 0 ∧ xs = []) ∨ ∃ b cap, F = [b] ∧ v = .slice (some ⟨b, 0, none⟩) xs.length cap ∧ RowB w b T size cap xs
theorem OwnX.nil (T : TypeId) (size : Nat) (w : World) : OwnX T size w [] (.slice none 0 0) [] := .inl ⟨rfl, rfl, rfl⟩
theorem OwnX.keep {T : TypeId} {size : Nat} {w w1 : World} {F S : List Nat} {v : Value} {xs : List (List Value)} (h : OwnX T size w F v xs) (k : Fr S w w1) (hn : ∀ y ∈ F, y ∉ S) : OwnX T size w1 F v xs := by
 rcases h with h | ⟨b, cap, rfl, h2, h3⟩
 ·
  exact .inl h
 ·
  exact .inr ⟨b, cap, rfl, h2, h3.keep k (hn b (by simp))⟩
theorem OwnX.lt {T : TypeId} {size : Nat} {w : World} {F : List Nat} {v : Value} {xs : List (List Value)} (h : OwnX T size w F v xs) : ∀ y ∈ F, y < w.heap.size := by
 rcases h with ⟨rfl, _⟩ | ⟨b, cap, rfl, h2, h3⟩
 ·
  simp
 ·
  intro y hy
  obtain rfl : y = b := by simpa using hy
  exact h3.lt
theorem OwnX.slice {T : TypeId} {size : Nat} {w : World} {F : List Nat} {v : Value} {xs : List (List Value)} (h : OwnX T size w F v xs) : ∃ A cap, v = .slice A xs.length cap := by
 rcases h with ⟨_, rfl, rfl⟩ | ⟨b, cap, _, rfl, _⟩
 ·
  exact ⟨_, _, rfl⟩
 ·
  exact ⟨_, _, rfl⟩
theorem OwnX.sliceN {T : TypeId} {size n : Nat} {w : World} {F : List Nat} {v : Value} {xs : List (List Value)} (h : OwnX T size w F v xs) (hn : xs.length = n) : ∃ A cap, v = .slice A n cap := by
 subst hn
 exact h.slice
theorem OwnX.pos {T : TypeId} {size : Nat} {w : World} {F : List Nat} {A : Option Addr} {n cap : Nat} {xs : List (List Value)} (h : OwnX T size w F (.slice A n cap) xs) (hp : 0 < xs.length) : ∃ b, F = [b] ∧ A = some ⟨b, 0, none⟩ ∧ RowB w b T size cap xs := by
 rcases h with ⟨_, _, rfl⟩ | ⟨b, cap', rfl, h2, h3⟩
 ·
  simp at hp
 ·
  simp only [Value.slice.injEq] at h2
  obtain ⟨rfl, _, rfl⟩ := h2
  exact ⟨b, rfl, rfl, h3⟩
theorem OwnX.own {T : TypeId} {size : Nat} {w : World} {F : List Nat} {v : Value} {xs : List (List Value)} (h : OwnX T size w F v xs) : w.ownsRow 0 T size v xs.length xs.flatten := by
 rcases h with ⟨_, rfl, rfl⟩ | ⟨b, cap, _, rfl, h3⟩
 ·
  exact ⟨by simp, .inl ⟨rfl, rfl⟩⟩
 ·
  exact h3.own
theorem OwnX.src {T : TypeId} {size : Nat} {w : World} {F : List Nat} {v : Value} {xs : List (List Value)} (h : OwnX T size w F v xs) : Src w v xs.length xs.flatten size := by
 rcases h with ⟨_, rfl, rfl⟩ | ⟨b, cap, _, rfl, h3⟩
 ·
  exact src_nil w size
 ·
  exact h3.src
theorem OwnX.srcN {T : TypeId} {size n : Nat} {w : World} {F : List Nat} {v : Value} {xs : List (List Value)} (h : OwnX T size w F v xs) (hn : xs.length = n) : Src w v n xs.flatten size := by
 subst hn
 exact h.src
theorem OwnX.row {T : TypeId} {size : Nat} {w : World} {b cap n : Nat} {xs : List (List Value)} (h : RowB w b T size cap xs) (hn : xs.length = n) : OwnX T size w [b] (.slice (some ⟨b, 0, none⟩) n cap) xs := .inr ⟨b, cap, rfl, by rw [hn], h⟩
theorem OwnX.of_own {T : TypeId} {size : Nat} {w w' : World} {F : List Nat} {v v' : Value} {n : Nat} {xs zs : List (List Value)} (h : OwnX T size w F v xs) (h2 : w'.ownsRow 0 T size v' n zs.flatten) (hn : zs.length = n) (hl : ∀ x ∈ zs, x.length = size) (h1 : ∀ x ∈ zs, x.all oneB = true) (hg : v'.ownBlock = v.ownBlock ∨ v'.ownBlock = some w.heap.size) : ∃ F', OwnX T size w' F' v' zs ∧ ∀ y ∈ F', y ∈ F ∨ w.heap.size ≤ y := by
 rcases h2.2 with ⟨h3, h4⟩ | ⟨b, cap, cur, h3, _⟩
 ·
  exact ⟨[], .inl ⟨rfl, h3, List.length_eq_zero_iff.1 (by omega)⟩, by simp⟩
 ·
  subst h3
  refine ⟨[b], .inr ⟨b, cap, rfl, by rw [hn], RowB.of_own h2 hn.symm hl h1⟩, fun y hy => ?_⟩
  obtain rfl : y = b := by simpa using hy
  rcases hg with hg | hg
  ·
   rcases h with ⟨_, rfl, _⟩ | ⟨b', cap', rfl, rfl, _⟩
   ·
    cases hg
   ·
    simp only [Value.ownBlock, Option.some.injEq] at hg
    exact .inl (by simp [hg])
  ·
   simp only [Value.ownBlock, Option.some.injEq] at hg
   exact .inr (by omega)
theorem djB {b : Nat} {F : List Nat} (h : b ∉ F) : ∀ y ∈ F, y ∉ [b] := by
 intro y hy hb
 obtain rfl : y = b := by simpa using hb
 exact h hy
theorem inF {S T : List Nat} {w : World} (h : ∀ y ∈ T, w.heap.size ≤ y) : ∀ x ∈ T, x ∈ S ∨ w.heap.size ≤ x := fun x hx => .inr (h x hx)
theorem grow_nin {b : Nat} {F F' : List Nat} {w : World} (hg : ∀ y ∈ F', y ∈ F ∨ w.heap.size ≤ y) (h : b ∉ F) (hb : b < w.heap.size) : b ∉ F' := fun hm => (hg b hm).elim h (fun k => absurd hb (Nat.not_lt.2 k))
theorem grow_dj {G F F' : List Nat} {w : World} (hg : ∀ y ∈ F', y ∈ F ∨ w.heap.size ≤ y) (h : ∀ y ∈ F, y ∉ G) (hG : ∀ y ∈ G, y < w.heap.size) : ∀ y ∈ F', y ∉ G := fun y hy hm => (hg y hy).elim (fun k => h y k hm) (fun k => absurd (hG y hm) (Nat.not_lt.2 k))
theorem dj_symm {F G : List Nat} (h : ∀ y ∈ F, y ∉ G) : ∀ y ∈ G, y ∉ F := fun y hy hm => h y hm hy
theorem grow_ge {B : Nat} {F F' : List Nat} {w : World} (hg : ∀ y ∈ F', y ∈ F ∨ w.heap.size ≤ y) (h : ∀ y ∈ F, B ≤ y) (hB : B ≤ w.heap.size) : ∀ y ∈ F', B ≤ y := fun y hy => (hg y hy).elim (h y) (fun k => Nat.le_trans hB k)
theorem new_nin {b : Nat} {F : List Nat} {w : World} (hF : ∀ y ∈ F, y < w.heap.size) (hb : w.heap.size ≤ b) : b ∉ F := fun h => absurd (hF b h) (Nat.not_lt.2 hb)
section
variable {P : Program} {ι : Type} {ops : Array Oper} {N : Nat} {S : ι → Act → World → Prop} {R : World → World → Prop} {x y : ι} {o : Oper} {e e' : Env} {w : World}
theorem WO.ldR (hT : TkS P ops R S x o y) (d : Nat) (vs : List Value) (b k size off : Nat) {T : TypeId} {cap : Nat} {xs : List (List Value)} (hB : ∀ w', R w w' → RowB w' b T size cap xs) (hk : k < xs.length) (hv : xs.getD k [] = vs) (hl : vs.length = size) (hoff : k * size = off) (hp : Nat.blt 0 vs.length = true)
  (h : ldAt P ops N e o = some (some true, ⟨b, off, none⟩, vs.length, some d)) (kk : WO S N y ((d, .agg vs.toArray) :: e) w) : WO S N x e w := by
 subst hoff
 refine WO.ldA hT d vs h hp (fun w' hR j hj => ?_) kk
 rw [add_blk, (hB w' hR).cell k j hk (by omega), hv]
theorem RowB.at {b : Nat} {T : TypeId} {size cap : Nat} {xs : List (List Value)} (h : RowB w b T size cap xs) (k j off : Nat) (v : Value) (hk : k < xs.length) (hj : j < size) (hv : (xs.getD k [])[j]? = some v) (hoff : k * size + j = off) : w.cell? ⟨b, off, none⟩ = some v := by
 subst hoff
 rw [h.cell k j hk hj, hv]
theorem RowB.part {b : Nat} {T : TypeId} {size cap : Nat} {xs : List (List Value)} (h : RowB w b T size cap xs) (k j off : Nat) (vs : List Value) {full : List Value} (hk : k < xs.length) (hv : xs.getD k [] = full) (hj : j + vs.length ≤ size) (hvs : (full.drop j).take vs.length = vs) (hoff : k * size + j = off) : ∀ i, i < vs.length → w.cell? ((⟨b, off, none⟩ : Addr).add i) = vs[i]? := by
 intro i hi
 subst hoff
 rw [add_blk, Nat.add_assoc, h.cell k (j + i) hk (by omega), hv]
 have := congrArg (fun l => l[i]?) hvs
 simp only [List.getElem?_take, hi, if_true, List.getElem?_drop] at this
 exact this
theorem WO.stR (hT : TkE P ops R S x o y) (b k off : Nat) (vs : List Value) {T : TypeId} {size cap : Nat} {xs : List (List Value)} (hB : RowB w b T size cap xs) (hk : k < xs.length) (hl : vs.length = size) (hoff : k * size = off) (h1 : vs.all oneB = true)
  (h : stAt P ops N e o = some (⟨b, off, none⟩, vs, none)) (hR : ∀ w', Fr [b] w w' → R w w')
  (kk : ∀ w', RowB w' b T size cap (xs.set k vs) → Fr [b] w w' → w'.heap.size = w.heap.size → WO S N y e w') : WO S N x e w := by
 subst hoff
 obtain ⟨cur, h2, h3, h4⟩ := hB.cur
 have hb : k * size + size ≤ xs.length * size := by
  have := Nat.mul_le_mul_right size (show k + 1 ≤ xs.length by omega)
  rwa [Nat.succ_mul] at this
 have hc : xs.length * size ≤ cap * size := Nat.mul_le_mul_right size hB.le
 refine WO.st hT b (k * size) vs _ h h2 (by rw [Nat.ble_eq]; omega) rfl hR fun w' h5 h6 h7 => kk w' (hB.put k vs hk hl h1 fun cur' h8 => ?_) h6 h7
 have : cur' = cur := by
  have := h8.symm.trans h2
  simpa using this
 rw [this]
 exact h5
theorem WO.appRow (hT : TkE P ops R S x o y) (d : Nat) {t : TypeId} {xv : Value} {b cap : Nat} {el : TypeId} {size bytes m n : Nat} {xs ys : List (List Value)} (E : ET P t el size bytes) (hrow : RowB w b el size cap xs) (hn : xs.length = n) (hm : ys.length = m) (hsrc : Src w xv m ys.flatten size) (hl : ∀ x ∈ ys, x.length = size) (h1 : ∀ x ∈ ys, x.all oneB = true)
  (h : appAt ops N e o = some (t, .slice (some ⟨b, 0, none⟩) n cap, xv, some d)) (hbytes : (n + m) * bytes ≤ 140737488355328) (hnm : n + m ≤ 140737488355328) (hR : ∀ w', Fr [b] w w' → R w w')
  (kk : ∀ b' cap' w', RowB w' b' el size cap' (xs ++ ys) → Fr [b] w w' → (b' = b ∨ w.heap.size ≤ b') → WO S N y ((d, .slice (some ⟨b', 0, none⟩) (n + m) cap') :: e) w') : WO S N x e w := by
 subst hn
 subst hm
 refine WO.app hT d h E hrow.own hsrc hbytes hnm (Nat.zero_le _) fun v' w' h2 h3 h4 => ?_
 have hF : Fr [b] w w' := Fr.of_grown h3 (fun k hk => by
  simp only [Value.ownBlock, Option.some.injEq] at hk
  exact .inl (by simp [hk]))
 refine ⟨hR _ hF, ?_⟩
 have hb : ∃ b' cap', v' = .slice (some ⟨b', 0, none⟩) (xs.length + ys.length) cap' ∧ (b' = b ∨ w.heap.size ≤ b') := by
  rcases h2.2 with ⟨h5, h6⟩ | ⟨b', cap', cur, h5, _⟩
  ·
   subst h5
   rcases h4 with h4 | h4 <;> cases h4
  ·
   refine ⟨b', cap', h5, ?_⟩
   subst h5
   rcases h4 with h4 | h4
   ·
    simp only [Value.ownBlock, Option.some.injEq] at h4
    exact .inl h4
   ·
    simp only [Value.ownBlock, Option.some.injEq] at h4
    exact .inr (by omega)
 obtain ⟨b', cap', rfl, hb⟩ := hb
 refine kk b' cap' w' ?_ hF hb
 refine RowB.of_own (n := xs.length + ys.length) (by rw [List.flatten_append]; exact h2) (by simp) (fun x hx => ?_) (fun x hx => ?_)
 ·
  rcases List.mem_append.1 hx with hx | hx
  ·
   exact hrow.len x hx
  ·
   exact hl x hx
 ·
  rcases List.mem_append.1 hx with hx | hx
  ·
   exact hrow.one x hx
  ·
   exact h1 x hx
theorem WO.appX (hT : TkE P ops R S x o y) (d : Nat) {t : TypeId} {v xv : Value} {el : TypeId} {size bytes m : Nat} {F : List Nat} {xs ys : List (List Value)} (E : ET P t el size bytes) (hx : OwnX el size w F v xs) (hm : ys.length = m) (hsrc : Src w xv m ys.flatten size) (hl : ∀ x ∈ ys, x.length = size) (h1 : ∀ x ∈ ys, x.all oneB = true)
  (h : appAt ops N e o = some (t, v, xv, some d)) (hbytes : (xs.length + m) * bytes ≤ 140737488355328) (hnm : xs.length + m ≤ 140737488355328) (hR : ∀ w', Fr F w w' → R w w')
  (kk : ∀ v' w' F', OwnX el size w' F' v' (xs ++ ys) → Fr F w w' → (∀ y ∈ F', y ∈ F ∨ w.heap.size ≤ y) → WO S N y ((d, v') :: e) w') : WO S N x e w := by
 subst hm
 have hxl : (∀ x ∈ xs, x.length = size) ∧ ∀ x ∈ xs, x.all oneB = true := by
  rcases hx with ⟨_, _, rfl⟩ | ⟨b, cap, _, _, h3⟩
  ·
   simp
  ·
   exact ⟨h3.len, h3.one⟩
 refine WO.app hT d h E hx.own hsrc hbytes hnm (Nat.zero_le _) fun v' w' h2 h3 h4 => ?_
 have hF : Fr F w w' := Fr.of_grown h3 (fun k hk => by
  rcases hx with ⟨_, rfl, _⟩ | ⟨b, cap, rfl, rfl, _⟩
  ·
   cases hk
  ·
   simp only [Value.ownBlock, Option.some.injEq] at hk
   exact .inl (by simp [hk]))
 refine ⟨hR _ hF, ?_⟩
 obtain ⟨F', h5, h6⟩ := hx.of_own (n := xs.length + ys.length) (zs := xs ++ ys) (by rw [List.flatten_append]; exact h2) (by simp) (fun x hx => by
  rcases List.mem_append.1 hx with hx | hx
  ·
   exact hxl.1 x hx
  ·
   exact hl x hx) (fun x hx => by
  rcases List.mem_append.1 hx with hx | hx
  ·
   exact hxl.2 x hx
  ·
   exact h1 x hx) h4
 exact kk v' w' F' h5 hF h6
def slAt (P : Program) (ops : Array Oper) (N : Nat) (e : Env) (o : Oper) : Option (Option Addr × Nat × Nat × Option Int × Option Int × Nat × Option Tmp) :=
 bif onB ops N e o then
  match o.op with
  | .slice t z lo hi none =>
   match ev e z, P.underlying t with
   | .slice A n cap, some (.slice el) =>
    match P.info? el with
    | none => none
    | some inf =>
     match lo, hi with
     | none, none => some (A, n, cap, none, none, inf.size, o.dst)
     | some l, none => (match ev e l with | .int _ l => some (A, n, cap, some l, none, inf.size, o.dst) | _ => none)
     | none, some h => (match ev e h with | .int _ h => some (A, n, cap, none, some h, inf.size, o.dst) | _ => none)
     | some l, some h => (match ev e l, ev e h with | .int _ l, .int _ h => some (A, n, cap, some l, some h, inf.size, o.dst) | _, _ => none)
   | _, _ => none
  | _ => none
 else none
theorem WO.sl (hT : TkF P ops S x o y) (d l h' : Nat) (A : Option Addr) (n cap size : Nat) (lo hi : Option Int) (h : slAt P ops N e o = some (A, n, cap, lo, hi, size, some d)) (hlo : lo.getD 0 = (l : Int)) (hhi : hi.getD (n : Int) = (h' : Int)) (h1 : l ≤ h') (h2 : h' ≤ cap)
  (k : WO S N y ((d, .slice (if cap = l then A else A.map (·.add (l * size))) (h' - l) (cap - l)) :: e) w) : WO S N x e w := by
 unfold slAt at h
 cases ho : onB ops N e o with
 | false => rw [ho] at h; cases h
 | true =>
  rw [ho] at h
  simp only [cond_true] at h
  split at h
  ·
   rename_i t z lo' hi' hop
   split at h
   ·
    rename_i A' n' cap' el hz hu
    split at h
    ·
     cases h
    ·
     rename_i inf hinf
     have hu' := fun w' => run_underlying (P := P) hu w'
     have hsz : ∀ w', (sizeOf el).run P w' = .ok inf.size w' := fun w' => by simp [sizeOf, typeInfo, program, Sem.run, hinf]
     have fin : ∀ (k' : o.dst = some d) , (∀ w', (execOp (ev e) o).run P w' = .ok (.value (.slice (if cap = l then A else A.map (·.add (l * size))) (h' - l) (cap - l))) w') → WO S N x e w := fun k' hr => WO.valF hT ho hr (by rw [k']; exact k)
     split at h
     ·
      simp only [Option.some.injEq, Prod.mk.injEq] at h
      obtain ⟨rfl, rfl, rfl, rfl, rfl, rfl, hd⟩ := h
      simp only [Option.getD_none] at hlo hhi
      obtain rfl : l = 0 := by omega
      obtain rfl : h' = n' := by omega
      refine fin hd fun w' => ?_
      unfold execOp
      simp [hop, hz, Instr.sliceAt, Instr.slice, hu', hsz, Instr.sliceBounds]
     ·
      split at h
      ·
       rename_i hl
       simp only [Option.some.injEq, Prod.mk.injEq] at h
       obtain ⟨rfl, rfl, rfl, rfl, rfl, rfl, hd⟩ := h
       simp only [Option.getD_none, Option.getD_some] at hlo hhi
       obtain rfl : h' = n' := by omega
       subst hlo
       refine fin hd fun w' => ?_
       unfold execOp
       have hb : (0 : Int) ≤ (l : Int) ∧ (l : Int) ≤ (h' : Int) := by omega
       simp [hop, hz, hl, Instr.sliceAt, Instr.slice, hu', hsz, Instr.sliceBounds, Instr.sliceBound, asIntOf, h1]
      ·
       cases h
     ·
      split at h
      ·
       rename_i hh
       simp only [Option.some.injEq, Prod.mk.injEq] at h
       obtain ⟨rfl, rfl, rfl, rfl, rfl, rfl, hd⟩ := h
       simp only [Option.getD_none, Option.getD_some] at hlo hhi
       obtain rfl : l = 0 := by omega
       subst hhi
       refine fin hd fun w' => ?_
       unfold execOp
       simp [hop, hz, hh, Instr.sliceAt, Instr.slice, hu', hsz, Instr.sliceBounds, Instr.sliceBound, asIntOf, h2]
      ·
       cases h
     ·
      split at h
      ·
       rename_i hl hh
       simp only [Option.some.injEq, Prod.mk.injEq] at h
       obtain ⟨rfl, rfl, rfl, rfl, rfl, rfl, hd⟩ := h
       simp only [Option.getD_some] at hlo hhi
       subst hlo hhi
       refine fin hd fun w' => ?_
       unfold execOp
       simp [hop, hz, hh, hl, Instr.sliceAt, Instr.slice, hu', hsz, Instr.sliceBounds, Instr.sliceBound, asIntOf, h1, h2]
      ·
       cases h
   ·
    cases h
  ·
   cases h
theorem sl0 (A : Option Addr) (cap h size : Nat) : Value.slice (if cap = 0 then A else A.map (·.add (0 * size))) (h - 0) (cap - 0) = .slice A h cap := by
 cases A <;> simp [Addr.add]
def remAt (ops : Array Oper) (N : Nat) (e : Env) (o : Oper) : Option (IntKind × Int × Int × Option Tmp) :=
 bif onB ops N e o then
  match o.op with
  | .binOp .rem _ z u _ => (match ev e z, ev e u with | .int k a, .int k' b => bif decide (k = k') then some (k, a, b, o.dst) else none | _, _ => none)
  | _ => none
 else none
theorem WO.rem (hT : TkF P ops S x o y) (d : Nat) (k : IntKind) (a b : Int) (h : remAt ops N e o = some (k, a, b, some d)) (hb : b ≠ 0) (kk : WO S N y ((d, .int k (a.tmod b)) :: e) w) : WO S N x e w := by
 unfold remAt at h
 cases ho : onB ops N e o with
 | false => rw [ho] at h; cases h
 | true =>
  rw [ho] at h
  simp only [cond_true] at h
  split at h
  ·
   rename_i t z u yt hop
   split at h
   ·
    rename_i k1 a1 k2 b1 hz hu
    cases hk : decide (k1 = k2) with
    | false => rw [hk] at h; cases h
    | true =>
     rw [hk] at h
     have hk' := of_decide_eq_true hk
     subst hk'
     simp only [cond_true, Option.some.injEq, Prod.mk.injEq] at h
     obtain ⟨rfl, rfl, rfl, hd⟩ := h
     refine WO.valF hT ho (v := .int k1 (a1.tmod b1)) (fun w' => ?_) (by rw [hd]; exact kk)
     unfold execOp
     simp [hop, hz, hu, eqGuard, binOp, Op.intDiv, hb]
   ·
    cases h
  ·
   cases h
def mkAt (ops : Array Oper) (N : Nat) (e : Env) (o : Oper) : Option (TypeId × Value × Value × Option Tmp) :=
 bif onB ops N e o then
  match o.op with
  | .makeSlice t l c => some (t, ev e l, ev e c, o.dst)
  | _ => none
 else none
theorem WO.mk (hT : TkE P ops R S x o y) (d n : Nat) {t el : TypeId} (z : Value) (h : mkAt ops N e o = some (t, .int .i64 (n : Int), .int .i64 (n : Int), some d))
  (hr : ∀ w', (Instr.makeSlice t (.int .i64 (n : Int)) (.int .i64 (n : Int))).run P w' = .ok (.slice (some ⟨w'.heap.size, 0, none⟩) n n) (w'.alloc (.cells (Array.replicate n z) el))) (hz : oneB z = true) (hn : n ≤ 1000000) (hR : ∀ w', Fr [] w w' → R w w')
  (k : ∀ g w', RowB w' g el 1 n (List.replicate n [z]) → Fr [] w w' → w.heap.size ≤ g → g < w'.heap.size → WO S N y ((d, .slice (some ⟨g, 0, none⟩) n n) :: e) w') : WO S N x e w := by
 unfold mkAt at h
 cases ho : onB ops N e o with
 | false => rw [ho] at h; cases h
 | true =>
  rw [ho] at h
  simp only [cond_true] at h
  split at h
  ·
   rename_i t' l c hop
   simp only [Option.some.injEq, Prod.mk.injEq] at h
   obtain ⟨rfl, hl, hc, hd⟩ := h
   refine WO.on hT ho fun a ha h3 h4 _ Q => ?_
   have hrun : (execOp (ev e) o).run P w = .ok (.value (.slice (some ⟨w.heap.size, 0, none⟩) n n)) (w.alloc (.cells (Array.replicate n z) el)) := by
    unfold execOp
    simp [hop, hl, hc, hr w]
   simp only [Oper.wp, h3, hrun, Oper.upon]
   have hp := ha.put o.dst (.slice (some ⟨w.heap.size, 0, none⟩) n n) h4
   rw [hd] at hp ⊢
   have hF := (Fr.refl [] w).alloc (.cells (Array.replicate n z) el)
   refine ⟨hR _ hF, k _ _ (RowB.of_blk (Blk.new _ _ _) _ ?_ (by simp) ?_ ?_ (by omega)) hF (Nat.le_refl _) (by rw [size_alloc]; exact Nat.lt_succ_self _) _ hp⟩
   ·
    rw [Array.toList_replicate]
    exact (flat_ones n z).symm
   ·
    intro x hx
    rw [List.eq_of_mem_replicate hx]
    rfl
   ·
    intro x hx
    rw [List.eq_of_mem_replicate hx]
    simp [hz]
  ·
   cases h
end
end Go.Proofs.YtdhonbahpcmmnaaGreatDoor.Eng
end
section
set_option linter.unusedVariables false
set_option linter.unusedSimpArgs false
namespace Go.Proofs.YtdhonbahpcmmnaaGreatDoor
open Go.RowKit Go.Proofs.YtdhonbahpcmmnaaGreatDoorW.PrintWords Go.Proofs.YtdhonbahpcmmnaaGreatDoorW.PrintLast
end Go.Proofs.YtdhonbahpcmmnaaGreatDoor
end
section
set_option linter.unusedVariables false
set_option linter.unusedSimpArgs false
namespace Go.Proofs.YtdhonbahpcmmnaaGreatDoor.Eng
open Go Go.RowKit Go.Proofs.YtdhonbahpcmmnaaGreatDoor
def cB (b : UInt8) : List Value := [.int .u8 (b.toNat : Int)]
theorem cB_len (l : List UInt8) : ∀ x ∈ l.map cB, x.length = 1 := by
 intro x hx
 obtain ⟨b, _, rfl⟩ := List.mem_map.1 hx
 rfl
theorem cB_one (l : List UInt8) : ∀ x ∈ l.map cB, x.all oneB = true := by
 intro x hx
 obtain ⟨b, _, rfl⟩ := List.mem_map.1 hx
 rfl
theorem cB_flat : ∀ (l : List UInt8), (l.map cB).flatten = l.map fun b => Value.int .u8 (b.toNat : Int)
 | [] => rfl
 | b :: l => by
  rw [List.map_cons, List.flatten_cons, cB_flat l]
  rfl
def str (l : List UInt8) : ByteArray := ⟨l.toArray⟩
def bs (s : ByteArray) : List UInt8 := s.data.toList
theorem str_bs (s : ByteArray) : str (bs s) = s := by
 cases s with
 | mk d => simp [str, bs]
theorem bs_str (l : List UInt8) : bs (str l) = l := rfl
theorem str_inj {a b : List UInt8} : str a = str b ↔ a = b := ⟨fun h => by have := congrArg bs h; simpa [bs_str] using this, fun h => by rw [h]⟩
theorem bs_inj {a b : ByteArray} : bs a = bs b ↔ a = b := ⟨fun h => by rw [← str_bs a, h, str_bs], fun h => by rw [h]⟩
theorem str_size (l : List UInt8) : (str l).size = l.length := rfl
theorem bs_len (s : ByteArray) : (bs s).length = s.size := rfl
theorem bs_app (a b : ByteArray) : bs (a ++ b) = bs a ++ bs b := by
 unfold bs
 rw [ByteArray.data_append]
 simp
theorem str_app (a b : List UInt8) : str a ++ str b = str (a ++ b) := by
 rw [← bs_inj, bs_app]
 rfl
theorem streq (a b : ByteArray) : (a.toList == b.toList) = decide (a = b) := by
 rw [ByteArray.toList_eq, ByteArray.toList_eq, Bool.eq_iff_iff]
 simp only [beq_iff_eq, decide_eq_true_eq]
 exact bs_inj
theorem strCells_eq (s : ByteArray) : Lib.strCells s = ((bs s).map cB).flatten := (cB_flat _).symm
def VX {α : Type} (cE : α → List Value) (size : Nat) (w : World) (F : List Nat) (A : Option Addr) (q : List α) : Prop :=
 (∀ y ∈ F, y < w.heap.size) ∧ (0 < q.length → ∃ ad, A = some ad ∧ ad.block ∈ F ∧ ∀ i x, q[i]? = some x → ∀ j u, (cE x)[j]? = some u → w.cell? (ad.add (i * size + j)) = some u)
section
variable {α : Type} {cE : α → List Value} {size : Nat} {w w1 : World} {F S : List Nat} {A : Option Addr} {q : List α}
theorem VX.keep (h : VX cE size w F A q) (k : Fr S w w1) (hn : ∀ y ∈ F, y ∉ S) : VX cE size w1 F A q := by
 refine ⟨fun y hy => Nat.lt_of_lt_of_le (h.1 y hy) k.size, fun hp => ?_⟩
 obtain ⟨ad, h1, h2, h3⟩ := h.2 hp
 refine ⟨ad, h1, h2, fun i x hx j u hu => ?_⟩
 have := h3 i x hx j u hu
 rw [World.cell?_of_block (w := w) (w' := w1)]
 ·
  exact this
 ·
  have hb : (ad.add (i * size + j)).block = ad.block := by unfold Addr.add; split <;> rfl
  rw [hb]
  exact k.block _ (h.1 _ h2) (hn _ h2)
theorem VX.keepB {B : Nat} (h : VX cE size w F A q) (k : FrB B w w1) (hn : ∀ y ∈ F, y < B) : VX cE size w1 F A q := by
 have hlt : ∀ y ∈ F, y < w1.heap.size := fun y hy => by
  have h1 := k y (hn y hy)
  have h2 := h.1 y hy
  rcases Nat.lt_or_ge y w1.heap.size with h3 | h3
  ·
   exact h3
  ·
   rw [Array.getElem?_eq_none h3, Array.getElem?_eq_getElem h2] at h1
   cases h1
 refine ⟨hlt, fun hp => ?_⟩
 obtain ⟨ad, h1, h2, h3⟩ := h.2 hp
 refine ⟨ad, h1, h2, fun i x hx j u hu => ?_⟩
 have := h3 i x hx j u hu
 rw [World.cell?_of_block (w := w) (w' := w1)]
 ·
  exact this
 ·
  have hb : (ad.add (i * size + j)).block = ad.block := by unfold Addr.add; split <;> rfl
  rw [hb]
  exact k _ (hn _ h2)
theorem VX.lt (h : VX cE size w F A q) : ∀ y ∈ F, y < w.heap.size := h.1
theorem VX.nil (w : World) (A : Option Addr) : VX cE size w [] A [] := ⟨by simp, fun h => absurd h (Nat.lt_irrefl 0)⟩
theorem VX.get (h : VX cE size w F A q) (hp : 0 < q.length) : ∃ ad, A = some ad ∧ ad.block ∈ F ∧ ∀ i x, q[i]? = some x → ∀ j u, (cE x)[j]? = some u → w.cell? (ad.add (i * size + j)) = some u := h.2 hp
theorem VX.src (h : VX cE size w F A q) (hl : ∀ x ∈ q.map cE, x.length = size) (h1 : ∀ x ∈ q.map cE, x.all oneB = true) (c : Nat) : Src w (.slice A q.length c) q.length (q.map cE).flatten size := by
 refine ⟨A, c, rfl, by rw [flat_len _ hl, List.length_map], fun hp => ?_, flat_one h1⟩
 obtain ⟨ad, h2, _, h3⟩ := h.2 hp
 refine ⟨ad, h2, fun j u hu => ?_⟩
 have hj : j < q.length * size := by
  have := (List.getElem?_eq_some_iff.1 hu).1
  rwa [flat_len _ hl, List.length_map] at this
 have hs : 0 < size := by
  rcases Nat.eq_zero_or_pos size with h0 | h0
  ·
   subst h0; simp at hj
  ·
   exact h0
 have hd : j / size < q.length := (Nat.div_lt_iff_lt_mul hs).2 hj
 have hm : j % size < size := Nat.mod_lt _ hs
 have e : j / size * size + j % size = j := by rw [Nat.mul_comm]; exact Nat.div_add_mod j size
 have hf := flat_at (q.map cE) (j / size) (j % size) hl (by rw [List.length_map]; exact hd) hm
 rw [e, hu, List.getD_eq_getElem?_getD, List.getElem?_map, List.getElem?_eq_getElem hd] at hf
 have := h3 (j / size) q[j / size] (List.getElem?_eq_getElem hd) (j % size) u hf.symm
 rwa [e] at this
theorem VX.drop (h : VX cE size w F A q) (k cap : Nat) (hk : k ≤ q.length) (hc : q.length ≤ cap) : VX cE size w F (if cap = k then A else A.map (·.add (k * size))) (q.drop k) := by
 refine ⟨h.1, fun hp => ?_⟩
 rw [List.length_drop] at hp
 obtain ⟨ad, rfl, h2, h3⟩ := h.2 (by omega)
 rw [if_neg (by omega)]
 refine ⟨ad.add (k * size), rfl, ?_, fun i x hx j u hu => ?_⟩
 ·
  have hb : (ad.add (k * size)).block = ad.block := by unfold Addr.add; split <;> rfl
  rw [hb]
  exact h2
 ·
  rw [List.getElem?_drop] at hx
  have := h3 (k + i) x hx j u hu
  rw [add_add_, show k * size + (i * size + j) = (k + i) * size + j by rw [Nat.add_mul]; omega]
  exact this
theorem VX.take (h : VX cE size w F A q) (k : Nat) : VX cE size w F A (q.take k) := by
 refine ⟨h.1, fun hp => ?_⟩
 rw [List.length_take] at hp
 obtain ⟨ad, rfl, h2, h3⟩ := h.2 (by omega)
 refine ⟨ad, rfl, h2, fun i x hx j u hu => h3 i x ?_ j u hu⟩
 rw [List.getElem?_take] at hx
 split at hx
 ·
  exact hx
 ·
  cases hx
theorem VX.of_row {b : Nat} {T : TypeId} {cap : Nat} (h : RowB w b T size cap (q.map cE)) : VX cE size w [b] (some ⟨b, 0, none⟩) q := by
 refine ⟨fun y hy => ?_, fun _ => ⟨_, rfl, by simp, fun i x hx j u hu => ?_⟩⟩
 ·
  obtain rfl : y = b := by simpa using hy
  exact h.lt
 ·
  have hi := (List.getElem?_eq_some_iff.1 hx).1
  have hxl : (cE x).length = size := h.len _ (List.mem_map.2 ⟨x, List.mem_of_getElem? hx, rfl⟩)
  have hj : j < size := by
   have := (List.getElem?_eq_some_iff.1 hu).1
   omega
  rw [add_blk, Nat.zero_add, h.cell i j (by simpa using hi) hj, List.getD_eq_getElem?_getD, List.getElem?_map, hx]
  exact hu
theorem VX.of_own {T : TypeId} {n cap : Nat} (h : OwnX T size w F (.slice A n cap) (q.map cE)) : VX cE size w F A q := by
 rcases h with ⟨rfl, h2, h3⟩ | ⟨b, cap', rfl, h2, h3⟩
 ·
  obtain rfl : q = [] := List.map_eq_nil_iff.1 h3
  exact VX.nil w A
 ·
  simp only [Value.slice.injEq] at h2
  obtain ⟨rfl, _, _⟩ := h2
  exact VX.of_row h3
end
section
variable {α : Type} {cE : α → List Value} {size : Nat} {w : World} {F : List Nat} {A : Option Addr} {q : List α}
theorem VX.srcN {n : Nat} (h : VX cE size w F A q) (hn : q.length = n) (hl : ∀ x ∈ q.map cE, x.length = size) (h1 : ∀ x ∈ q.map cE, x.all oneB = true) (c : Nat) : Src w (.slice A n c) n (q.map cE).flatten size := by
 subst hn
 exact h.src hl h1 c
theorem VX.at {ad : Addr} (h : VX cE size w F A q) (hA : A = some ad) {i : Nat} {x : α} (hx : q[i]? = some x) (j : Nat) {u : Value} (hu : (cE x)[j]? = some u) : w.cell? ((ad.add (i * size)).add j) = some u := by
 obtain ⟨ad', h1, _, h3⟩ := h.2 (by have := (List.getElem?_eq_some_iff.1 hx).1; omega)
 rw [hA] at h1
 simp only [Option.some.injEq] at h1
 subst h1
 rw [add_add_]
 exact h3 i x hx j u hu
theorem add_0 (a : Addr) : a.add 0 = a := by
 unfold Addr.add
 rw [if_pos rfl]
theorem VX.at0 {ad : Addr} (h : VX cE size w F A q) (hA : A = some ad) {i : Nat} {x : α} (hx : q[i]? = some x) {u : Value} (hu : (cE x)[0]? = some u) : w.cell? (ad.add (i * size)) = some u := by
 have := h.at hA hx 0 hu
 rwa [add_0] at this
theorem VX.part {ad : Addr} (h : VX cE size w F A q) (hA : A = some ad) {i : Nat} {x : α} (hx : q[i]? = some x) (j : Nat) (vs : List Value) (hvs : ((cE x).drop j).take vs.length = vs) : ∀ k, k < vs.length → w.cell? (((ad.add (i * size)).add j).add k) = vs[k]? := by
 intro k hk
 have h2 := congrArg (fun l => l[k]?) hvs
 simp only [List.getElem?_take, hk, if_true, List.getElem?_drop] at h2
 rw [add_add_]
 rw [h.at hA hx (j + k) (by rw [h2]; exact List.getElem?_eq_getElem hk)]
 exact (List.getElem?_eq_getElem hk).symm
theorem VX.part0 {ad : Addr} (h : VX cE size w F A q) (hA : A = some ad) {i : Nat} {x : α} (hx : q[i]? = some x) (vs : List Value) (hvs : ((cE x).drop 0).take vs.length = vs) : ∀ k, k < vs.length → w.cell? ((ad.add (i * size)).add k) = vs[k]? := by
 have := h.part hA hx 0 vs hvs
 rwa [add_0] at this
theorem VX.addr (h : VX cE size w F A q) {i : Nat} (hi : i < q.length) : ∃ ad, A = some ad := by
 obtain ⟨ad, h1, _⟩ := h.2 (by omega)
 exact ⟨ad, h1⟩
end
def gB (q : List UInt8) (i : Nat) : UInt8 := q.getD i 0
theorem gB_some (q : List UInt8) (i : Nat) (h : i < q.length) : q[i]? = some (gB q i) := by
 unfold gB
 rw [List.getD_eq_getElem?_getD, List.getElem?_eq_getElem h]
 rfl
theorem drop_gB (q : List UInt8) (i : Nat) (h : i < q.length) : q.drop i = gB q i :: q.drop (i + 1) := by
 rw [List.drop_eq_getElem_cons h]
 congr 1
 have := gB_some q i h
 rw [List.getElem?_eq_getElem h] at this
 exact Option.some.inj this
section
variable {P : Program} {ι : Type} {ops : Array Oper} {N : Nat} {S : ι → Act → World → Prop} {R : World → World → Prop} {x y : ι} {o : Oper} {e e' : Env} {w : World}
def ixoAt (P : Program) (ops : Array Oper) (N : Nat) (e : Env) (o : Oper) : Option (Option Addr × Nat × Int × Nat × Option Tmp) :=
 bif onB ops N e o then
  match o.op with
  | .indexAddr t z u =>
   match ev e z, ev e u, P.underlying t with
   | .slice A n _, .int _ j, some (.slice el) => (P.info? el).map fun x => (A, n, j, x.size, o.dst)
   | _, _, _ => none
  | _ => none
 else none
theorem WO.ixo (hT : TkF P ops S x o y) (d : Nat) {A : Option Addr} {ad : Addr} (n size i : Nat) (j : Int) (hA : A = some ad) (h : ixoAt P ops N e o = some (A, n, j, size, some d)) (hj : j = (i : Int)) (h1 : i < n) (k : WO S N y ((d, .pointer (some (ad.add (i * size)))) :: e) w) : WO S N x e w := by
 subst hA
 subst hj
 refine WO.ix hT d (ad.add (i * size)) ad n size (i : Int) ?_ (Int.natCast_nonneg i) (by omega) (by simp) k
 unfold ixoAt at h
 unfold ixAt
 cases ho : onB ops N e o with
 | false => rw [ho] at h; cases h
 | true =>
  rw [ho] at h
  simp only [cond_true] at h ⊢
  split at h
  ·
   rename_i t z u hop
   rw [hop]
   split at h
   ·
    rename_i A2 n2 c2 kk j2 el hx hy hu
    simp only [hx, hy, hu]
    cases hi : P.info? el with
    | none => rw [hi] at h; cases h
    | some inf =>
     rw [hi] at h
     simp only [Option.map_some, Option.some.injEq, Prod.mk.injEq] at h ⊢
     obtain ⟨rfl, rfl, rfl, rfl, hd⟩ := h
     show (P.info? el).map (fun x => (ad, n2, (i : Int), x.size, o.dst)) = _
     rw [hi, hd]
     rfl
   ·
    cases h
  ·
   cases h
structure BT (P : Program) (tb te ts : TypeId) : Prop where
 b : P.underlying tb = some (.slice te)
 e : P.underlying te = some (.int .u8)
 s : P.underlying ts = some .string
def appSAt (ops : Array Oper) (N : Nat) (e : Env) (o : Oper) : Option (TypeId × TypeId × Value × ByteArray × Option Tmp) :=
 bif onB ops N e o then
  match o.op with
  | .call { callee := .builtin .append, args := ⟨[s, z]⟩, argTypes := ⟨[t, u]⟩ } => (match ev e z with | .string b => some (t, u, ev e s, b, o.dst) | _ => none)
  | _ => none
 else none
theorem WO.appS (hT : TkE P ops R S x o y) (d : Nat) {t ts te : TypeId} {v : Value} {s : ByteArray} (B : BT P t te ts) (E : ET P t te 1 1) (hz : ∃ i, P.info? te = some i ∧ i.zero = some (.int .u8 0)) {F : List Nat} {q : List UInt8} (hx : OwnX te 1 w F v (q.map cB))
  (h : appSAt ops N e o = some (t, ts, v, s, some d)) (hnm : q.length + s.size ≤ 140737488351232) (hR : ∀ w', Fr F w w' → R w w')
  (kk : ∀ v' w' F', OwnX te 1 w' F' v' ((q ++ bs s).map cB) → Fr F w w' → (∀ y ∈ F', y ∈ F ∨ w.heap.size ≤ y) → WO S N y ((d, v') :: e) w') : WO S N x e w := by
 unfold appSAt at h
 cases ho : onB ops N e o with
 | false => rw [ho] at h; cases h
 | true =>
  rw [ho] at h
  simp only [cond_true] at h
  split at h
  ·
   rename_i s' z t' u' hop
   split at h
   ·
    rename_i b hb
    simp only [Option.some.injEq, Prod.mk.injEq] at h
    obtain ⟨rfl, rfl, rfl, rfl, hd⟩ := h
    refine WO.on hT ho fun a ha h3 h4 hcv Q => ?_
    obtain ⟨i, hi, hzz⟩ := hz
    obtain ⟨i', z', hi', hz', hs', hb', hzs⟩ := E.hi
    rw [hi] at hi'
    simp only [Option.some.injEq] at hi'
    subst hi'
    have hlm : (q.map cB).length = q.length := List.length_map _
    obtain ⟨v', w', hr, h5, h6, h7⟩ := Lib.run_append_own_string (P := P) w 0 t' u' o.type te i B.b B.s hi hzz hs' hb' (ev e s') q.length (q.map cB).flatten (by have := hx.own; rwa [hlm] at this) b (by unfold maxLen; omega) (by omega) (Nat.zero_le _)
    have hrun : (execOp (ev e) o).run P w = .ok (.value v') w' := by
     unfold execOp
     simp only [hop, resolve, invoke, builtin, Sem.run_bind, Sem.run_pure, Result.andThen_ok, List.map_toArray, List.map_cons, List.map_nil, hb, hr]
    simp only [Oper.wp, h3, hrun, Oper.upon]
    have hF : Fr F w w' := Fr.of_grown h6 (fun k hk => by
     rcases hx with ⟨_, hv, _⟩ | ⟨b', cap, rfl, hv, _⟩
     ·
      rw [hv] at hk; cases hk
     ·
      rw [hv] at hk
      simp only [Value.ownBlock, Option.some.injEq] at hk
      exact .inl (by simp [hk]))
    have hg : v'.ownBlock = (ev e s').ownBlock ∨ ∀ g, v'.ownBlock = some g → w.heap.size ≤ g := by
     rcases hx with ⟨_, hv, hq⟩ | ⟨b', cap, _, hv, hrow⟩
     ·
      obtain ⟨v2, w2, hr2, h8, _, _⟩ := Lib.run_append_own_string (P := P) w w.heap.size t' u' o.type te i B.b B.s hi hzz hs' hb' (ev e s') 0 [] (by rw [hv]; exact ⟨by simp, .inl ⟨rfl, rfl⟩⟩) b (by unfold maxLen; omega) (by omega) (Nat.le_refl _)
      rw [hr] at hr2
      simp only [Result.ok.injEq] at hr2
      obtain ⟨rfl, rfl⟩ := hr2
      exact .inr fun g hg => (h8.lt g hg).1
     ·
      obtain ⟨cur, h8, h9, _⟩ := hrow.cur
      have hle := hrow.le
      have hcp := hrow.cap
      rw [List.length_map] at hle
      by_cases hroom : q.length + b.size ≤ cap
      ·
       have hr2 := Lib.run_append_room_string (P := P) w t' u' o.type te i B.b B.s hi hs' b' q.length cap cur h8 b hroom (by omega)
       rw [hlm] at hv
       rw [hv, hr2] at hr
       simp only [Result.ok.injEq] at hr
       rw [hv, ← hr.1]
       exact .inl rfl
      ·
       have hown := hrow.own
       have hr2 := Lib.run_append_grow_string (P := P) w t' u' o.type te i (.int .u8 0) B.b B.s hi hzz ⟨b', 0, none⟩ q.length cap (q.map cB).flatten (by rw [hs', flat_len _ (cB_len q), hlm]) (hown.cells (g := b') rfl) b (by omega) (by omega) (by rw [hb']; exact growslice_fits (by omega) (by omega))
       rw [hlm] at hv
       rw [hv, hr2] at hr
       simp only [Result.ok.injEq] at hr
       refine .inr fun g hg => ?_
       rw [← hr.1] at hg
       simp only [Value.ownBlock, Option.some.injEq] at hg
       omega
    have h5' : w'.ownsRow 0 te 1 v' (q.length + b.size) ((q ++ bs b).map cB).flatten := by
     rw [List.map_append, List.flatten_append, ← strCells_eq]
     exact h5
    obtain ⟨F', h8, h9⟩ : ∃ F', OwnX te 1 w' F' v' ((q ++ bs b).map cB) ∧ ∀ y ∈ F', y ∈ F ∨ w.heap.size ≤ y := by
     rcases h5'.2 with ⟨h3, h4⟩ | ⟨g, cap, cur, h3, _⟩
     ·
      refine ⟨[], .inl ⟨rfl, h3, ?_⟩, by simp⟩
      have : q ++ bs b = [] := List.length_eq_zero_iff.1 (by rw [List.length_append, bs_len]; exact h4)
      rw [this]
      rfl
     ·
      subst h3
      refine ⟨[g], .inr ⟨g, cap, rfl, by rw [List.length_map, List.length_append, bs_len], RowB.of_own h5' (by rw [List.length_map, List.length_append, bs_len]) (cB_len _) (cB_one _)⟩, fun y hy => ?_⟩
      obtain rfl : y = g := by simpa using hy
      rcases hg with hg | hg
      ·
       rcases hx with ⟨_, hv, _⟩ | ⟨b', cap', rfl, hv, _⟩
       ·
        rw [hv] at hg; cases hg
       ·
        rw [hv] at hg
        simp only [Value.ownBlock, Option.some.injEq] at hg
        exact .inl (by simp [hg])
      ·
       exact .inr (hg y rfl)
    have hp := ha.put o.dst v' h4
    rw [hd] at hp ⊢
    exact ⟨hR _ hF, kk v' w' F' h8 hF h9 _ hp⟩
   ·
    cases h
  ·
   cases h
def catAt (ops : Array Oper) (N : Nat) (e : Env) (o : Oper) : Option (ByteArray × ByteArray × Option Tmp) :=
 bif onB ops N e o then
  match o.op with
  | .binOp .add _ z u _ => (match ev e z, ev e u with | .string a, .string b => some (a, b, o.dst) | _, _ => none)
  | _ => none
 else none
theorem WO.cat (hT : TkF P ops S x o y) (d : Nat) (a b : ByteArray) (h : catAt ops N e o = some (a, b, some d)) (hb : a.size + b.size ≤ 9223372036854775807) (kk : WO S N y ((d, .string (a ++ b)) :: e) w) : WO S N x e w := by
 unfold catAt at h
 cases ho : onB ops N e o with
 | false => rw [ho] at h; cases h
 | true =>
  rw [ho] at h
  simp only [cond_true] at h
  split at h
  ·
   rename_i t z u yt hop
   split at h
   ·
    rename_i a1 b1 hz hu
    simp only [Option.some.injEq, Prod.mk.injEq] at h
    obtain ⟨rfl, rfl, hd⟩ := h
    refine WO.valF hT ho (v := .string (a1 ++ b1)) (fun w' => ?_) (by rw [hd]; exact kk)
    have hm : ¬ ((a1.size + b1.size : Nat) : Int) > IntKind.i64.max := by
     have : IntKind.i64.max = 9223372036854775807 := by decide
     omega
    have hs : Op.stringOp .add a1 b1 = pure (.string (a1 ++ b1)) := by
     unfold Op.stringOp
     simp only [if_neg hm]
    unfold execOp
    simp [hop, hz, hu, eqGuard, binOp, hs]
   ·
    cases h
  ·
   cases h
end
end Go.Proofs.YtdhonbahpcmmnaaGreatDoor.Eng
end
section
set_option linter.unusedVariables false
set_option linter.unusedSimpArgs false
namespace Go.Proofs.YtdhonbahpcmmnaaGreatDoor.Eng
open Go Go.RowKit Go.Proofs.YtdhonbahpcmmnaaGreatDoor Go.Proofs.YtdhonbahpcmmnaaGreatDoorW.PrintWords Go.Proofs.YtdhonbahpcmmnaaGreatDoorW.PrintLast
variable {P : Program} {ι : Type} {ops : Array Oper} {N : Nat} {S : ι → Act → World → Prop} {R : World → World → Prop} {x y : ι} {o : Oper} {e e' : Env} {w : World}
def sshAt (P : Program) (ops : Array Oper) (N : Nat) (e : Env) (o : Oper) : Option (ByteArray × Int × Option Tmp) :=
 bif onB ops N e o then
  match o.op with
  | .slice t z none (some hi) none => (match ev e z, P.underlying t, ev e hi with | .string s, some .string, .int _ h => some (s, h, o.dst) | _, _, _ => none)
  | _ => none
 else none
theorem str_take (q : List UInt8) (h : Nat) : (str q).extract 0 h = str (q.take h) := by
 apply ByteArray.ext
 rw [ByteArray.data_extract]
 apply Array.ext'
 rw [Array.toList_extract]
 simp [str, List.extract]
theorem WO.slS (hT : TkF P ops S x o y) (d h' : Nat) (q : List UInt8) {hi : Int} (h : sshAt P ops N e o = some (str q, hi, some d)) (hhi : hi = (h' : Int)) (hle : h' ≤ q.length) (k : WO S N y ((d, .string (str (q.take h'))) :: e) w) : WO S N x e w := by
 unfold sshAt at h
 cases ho : onB ops N e o with
 | false => rw [ho] at h; cases h
 | true =>
  rw [ho] at h
  simp only [cond_true] at h
  split at h
  ·
   rename_i t z hz hop
   split at h
   ·
    rename_i s kk hi' hs hu hh
    simp only [Option.some.injEq, Prod.mk.injEq] at h
    obtain ⟨rfl, rfl, hd⟩ := h
    subst hhi
    have hu' := fun w' => run_underlying (P := P) hu w'
    refine WO.valF hT ho (v := .string (str (q.take h'))) (fun w' => ?_) (by rw [hd]; exact k)
    unfold execOp
    have hb : (0 : Int) ≤ (h' : Int) ∧ (h' : Int) ≤ ((str q).size : Int) := by rw [str_size]; omega
    simp [hop, hs, hh, Instr.sliceAt, Instr.slice, hu', Instr.sliceBounds, Instr.sliceBound, asIntOf, hb, str_take, str_size, hle]
   ·
    cases h
  ·
   cases h
def ixsAt (P : Program) (ops : Array Oper) (N : Nat) (e : Env) (o : Oper) : Option (ByteArray × Int × Option Tmp) :=
 bif onB ops N e o then
  match o.op with
  | .index t z u => (match ev e z, P.underlying t, ev e u with | .string s, some .string, .int _ i => some (s, i, o.dst) | _, _, _ => none)
  | _ => none
 else none
theorem str_get (q : List UInt8) (k : Nat) (h : k < q.length) : (str q)[k]? = some (gB q k) := by
 have h1 : k < (str q).size := h
 rw [getElem?_pos (str q) k h1]
 unfold gB
 rw [List.getD_eq_getElem?_getD, List.getElem?_eq_getElem h]
 rfl
theorem WO.ixS (hT : TkF P ops S x o y) (d k : Nat) (q : List UInt8) {i : Int} (h : ixsAt P ops N e o = some (str q, i, some d)) (hi : i = (k : Int)) (hk : k < q.length) (kk : WO S N y ((d, .int .u8 ((gB q k).toNat : Int)) :: e) w) : WO S N x e w := by
 unfold ixsAt at h
 cases ho : onB ops N e o with
 | false => rw [ho] at h; cases h
 | true =>
  rw [ho] at h
  simp only [cond_true] at h
  split at h
  ·
   rename_i t z u hop
   split at h
   ·
    rename_i s kk' i' hs hu hh
    simp only [Option.some.injEq, Prod.mk.injEq] at h
    obtain ⟨rfl, rfl, hd⟩ := h
    subst hi
    have hu' := fun w' => run_underlying (P := P) hu w'
    refine WO.valF hT ho (v := .int .u8 ((gB q k).toNat : Int)) (fun w' => ?_) (by rw [hd]; exact kk)
    unfold execOp
    have hb : (0 : Int) ≤ (k : Int) := by omega
    simp [hop, hs, hh, Instr.index, hu', asIntOf, hb, str_get q k hk]
   ·
    cases h
  ·
   cases h
def sshAt2 (P : Program) (ops : Array Oper) (N : Nat) (e : Env) (o : Oper) : Option (ByteArray × Int × Int × Option Tmp) :=
 bif onB ops N e o then
  match o.op with
  | .slice t z (some lo) (some hi) none => (match ev e z, P.underlying t, ev e lo, ev e hi with | .string s, some .string, .int _ l, .int _ h => some (s, l, h, o.dst) | _, _, _, _ => none)
  | _ => none
 else none
theorem str_part (q : List UInt8) (l h : Nat) : (str q).extract l h = str ((q.take h).drop l) := by
 apply ByteArray.ext
 rw [ByteArray.data_extract]
 apply Array.ext'
 rw [Array.toList_extract]
 simp [str, List.extract, List.drop_take]
theorem WO.slS2 (hT : TkF P ops S x o y) (d l' h' : Nat) (q : List UInt8) {lo hi : Int} (h : sshAt2 P ops N e o = some (str q, lo, hi, some d)) (hlo : lo = (l' : Int)) (hhi : hi = (h' : Int)) (hl : l' ≤ h') (hle : h' ≤ q.length) (k : WO S N y ((d, .string (str ((q.take h').drop l'))) :: e) w) : WO S N x e w := by
 unfold sshAt2 at h
 cases ho : onB ops N e o with
 | false => rw [ho] at h; cases h
 | true =>
  rw [ho] at h
  simp only [cond_true] at h
  split at h
  ·
   rename_i t z lz hz hop
   split at h
   ·
    rename_i s k1 lo' k2 hi' hs hu hll hh
    simp only [Option.some.injEq, Prod.mk.injEq] at h
    obtain ⟨rfl, rfl, rfl, hd⟩ := h
    subst hlo hhi
    have hu' := fun w' => run_underlying (P := P) hu w'
    refine WO.valF hT ho (v := .string (str ((q.take h').drop l'))) (fun w' => ?_) (by rw [hd]; exact k)
    unfold execOp
    have hb : (0 : Int) ≤ (h' : Int) ∧ (h' : Int) ≤ ((str q).size : Int) := by rw [str_size]; omega
    have hb2 : (0 : Int) ≤ (l' : Int) ∧ (l' : Int) ≤ (h' : Int) := by omega
    simp [hop, hs, hll, hh, Instr.sliceAt, Instr.slice, hu', Instr.sliceBounds, Instr.sliceBound, asIntOf, hb, hb2, str_part, str_size, hle, hl]
   ·
    cases h
  ·
   cases h
def sshAt3 (P : Program) (ops : Array Oper) (N : Nat) (e : Env) (o : Oper) : Option (ByteArray × Int × Option Tmp) :=
 bif onB ops N e o then
  match o.op with
  | .slice t z (some lo) none none => (match ev e z, P.underlying t, ev e lo with | .string s, some .string, .int _ l => some (s, l, o.dst) | _, _, _ => none)
  | _ => none
 else none
theorem WO.slS3 (hT : TkF P ops S x o y) (d l' : Nat) (q : List UInt8) {lo : Int} (h : sshAt3 P ops N e o = some (str q, lo, some d)) (hlo : lo = (l' : Int)) (hle : l' ≤ q.length) (k : WO S N y ((d, .string (str (q.drop l'))) :: e) w) : WO S N x e w := by
 unfold sshAt3 at h
 cases ho : onB ops N e o with
 | false => rw [ho] at h; cases h
 | true =>
  rw [ho] at h
  simp only [cond_true] at h
  split at h
  ·
   rename_i t z lz hop
   split at h
   ·
    rename_i s k1 lo' hs hu hll
    simp only [Option.some.injEq, Prod.mk.injEq] at h
    obtain ⟨rfl, rfl, hd⟩ := h
    subst hlo
    have hu' := fun w' => run_underlying (P := P) hu w'
    refine WO.valF hT ho (v := .string (str (q.drop l'))) (fun w' => ?_) (by rw [hd]; exact k)
    unfold execOp
    have hb2 : (0 : Int) ≤ (l' : Int) ∧ (l' : Int) ≤ ((str q).size : Int) := by rw [str_size]; omega
    have he : (str q).extract l' (str q).size = str (q.drop l') := by rw [str_part, str_size, List.take_length]
    simp [hop, hs, hll, Instr.sliceAt, Instr.slice, hu', Instr.sliceBounds, Instr.sliceBound, asIntOf, hb2, he, str_size, hle]
    try exact he
   ·
    cases h
  ·
   cases h
end Go.Proofs.YtdhonbahpcmmnaaGreatDoor.Eng
end
section
set_option linter.unusedVariables false
set_option linter.unusedSimpArgs false
namespace Go.Proofs.YtdhonbahpcmmnaaGreatDoor.Line
abbrev L := List UInt8
def gb (q : L) (i : Nat) : UInt8 := q.getD i 0
def inW (c : UInt8) : Bool := decide (97 ≤ c.toNat ∧ c.toNat ≤ 122) || decide (48 ≤ c.toNat ∧ c.toNat ≤ 57) || decide (c.toNat = 95) || decide (c.toNat = 46)
def isWord (s : L) : Bool := s.all inW && decide (1 ≤ s.length) && decide (s.length ≤ 16)
structure Ev where
 name : L
 tags : List (L × L)
 kind : Int
 value : Int
 time : Int
def mayE (e : Ev) : Bool := e.tags.all (fun t => isWord t.1 && isWord t.2) && isWord e.name && decide (e.tags.length ≤ 6) && decide (1 ≤ e.kind) && decide (e.kind ≤ 3) && decide (0 ≤ e.time) && decide (e.time ≤ 1099511627776)
def fewE (e : Ev) : Bool := e.tags.all (fun t => decide (t.1.length ≤ 100) && decide (t.2.length ≤ 100)) && decide (e.name.length ≤ 100) && decide (e.tags.length ≤ 20)
def digs (n : Nat) : L := if h : n < 10 then [UInt8.ofNat (48 + n)] else digs (n / 10) ++ [UInt8.ofNat (48 + n % 10)]
termination_by n
decreasing_by omega
def numT (z : Int) : L := if z < 0 then 45 :: digs z.natAbs else digs z.toNat
def headT (e : Ev) : L := e.name ++ (e.tags.map fun t => 44 :: t.1 ++ (61 :: t.2)).flatten
def letter (k : Int) : L := if k = 1 then [99] else if k = 2 then [103] else [104]
def printT (e : Ev) : L := headT e ++ 32 :: (letter e.kind ++ 32 :: (numT e.value ++ 32 :: numT e.time))
theorem inW_t {c : UInt8} (h : (97 ≤ c.toNat ∧ c.toNat ≤ 122) ∨ (48 ≤ c.toNat ∧ c.toNat ≤ 57) ∨ c.toNat = 95 ∨ c.toNat = 46) : inW c = true := by
 unfold inW
 simp only [Bool.or_eq_true, decide_eq_true_eq]
 omega
theorem inW_f {c : UInt8} (h : ¬ ((97 ≤ c.toNat ∧ c.toNat ≤ 122) ∨ (48 ≤ c.toNat ∧ c.toNat ≤ 57) ∨ c.toNat = 95 ∨ c.toNat = 46)) : inW c = false := by
 rw [Bool.eq_false_iff]
 intro h2
 unfold inW at h2
 simp only [Bool.or_eq_true, decide_eq_true_eq] at h2
 omega
theorem inW_46 {c : UInt8} (h : ¬ ((97 ≤ c.toNat ∧ c.toNat ≤ 122) ∨ (48 ≤ c.toNat ∧ c.toNat ≤ 57) ∨ c.toNat = 95)) : decide ((c.toNat : Int) = 46) = inW c := by
 by_cases h1 : c.toNat = 46
 ·
  rw [inW_t (by omega), decide_eq_true (by omega)]
 ·
  rw [inW_f (by omega), decide_eq_false (by omega)]
theorem gb_mem {s : L} {i : Nat} (h : i < s.length) : gb s i ∈ s := by
 unfold gb
 rw [List.getD_eq_getElem?_getD, List.getElem?_eq_getElem h]
 exact List.getElem_mem h
theorem word_bad {s : L} {i : Nat} (h : i < s.length) (hb : inW (gb s i) = false) : isWord s = false := by
 unfold isWord
 have : s.all inW = false := by
  rw [Bool.eq_false_iff]
  intro h2
  rw [List.all_eq_true.1 h2 _ (gb_mem h)] at hb
  cases hb
 simp [this]
theorem word_all {s : L} (h : ∀ j, j < s.length → inW (gb s j) = true) : isWord s = (decide (1 ≤ s.length) && decide (s.length ≤ 16)) := by
 unfold isWord
 have : s.all inW = true := by
  rw [List.all_eq_true]
  intro x hx
  obtain ⟨j, hj, rfl⟩ := List.getElem_of_mem hx
  have := h j hj
  unfold gb at this
  rw [List.getD_eq_getElem?_getD, List.getElem?_eq_getElem hj] at this
  exact this
 simp [this]
def gT (q : List (L × L)) (i : Nat) : L × L := q.getD i ([], [])
theorem gT_some (q : List (L × L)) (i : Nat) (h : i < q.length) : q[i]? = some (gT q i) := by
 unfold gT
 rw [List.getD_eq_getElem?_getD, List.getElem?_eq_getElem h]
 rfl
theorem gT_mem {q : List (L × L)} {i : Nat} (h : i < q.length) : gT q i ∈ q := List.mem_of_getElem? (gT_some q i h)
theorem all_gT {q : List (L × L)} {p : L × L → Bool} : q.all p = true ↔ ∀ j, j < q.length → p (gT q j) = true := by
 rw [List.all_eq_true]
 refine ⟨fun h j hj => h _ (gT_mem hj), fun h x hx => ?_⟩
 obtain ⟨j, hj, rfl⟩ := List.getElem_of_mem hx
 have h1 := h j hj
 have h2 := gT_some q j hj
 rw [List.getElem?_eq_getElem hj] at h2
 simp only [Option.some.injEq] at h2
 rw [h2]
 exact h1
theorem all_no {q : List (L × L)} {p : L × L → Bool} {i : Nat} (h : i < q.length) (hp : p (gT q i) = false) : q.all p = false := by
 rw [Bool.eq_false_iff]
 intro h2
 rw [all_gT.1 h2 i h] at hp
 cases hp
end Go.Proofs.YtdhonbahpcmmnaaGreatDoor.Line
end
