/- Rows of elements in a block: read, written, grown. Steps of a walk. -/
import Derived.Test.YtdhonbahpcmmnaaDoorEng
import Derived.Test.YtdhonbahpcmmnaaDoorWEqStruct
set_option linter.unusedVariables false
set_option linter.unusedSimpArgs false
namespace Go.Proofs.YtdhonbahpcmmnaaDoor.Eng
open Go Go.Proofs.YtdhonbahpcmmnaaDoor
theorem flat_at {size : Nat} : ∀ (xs : List (List Value)) (k j : Nat), (∀ x ∈ xs, x.length = size) → k < xs.length → j < size → xs.flatten[k * size + j]? = (xs.getD k [])[j]?
 | [], k, j, h, hk, hj => by simp at hk
 | x :: xs, 0, j, h, hk, hj => by
  have hx := h x (by simp)
  simp only [Nat.zero_mul, Nat.zero_add, List.flatten_cons, List.getD_cons_zero]
  rw [List.getElem?_append_left (by omega)]
 | x :: xs, k + 1, j, h, hk, hj => by
  have hx := h x (by simp)
  simp only [List.flatten_cons, List.getD_cons_succ]
  rw [List.getElem?_append_right (by rw [hx, Nat.succ_mul]; omega), hx]
  have ih := flat_at xs k j (fun y hy => h y (by simp [hy])) (by simpa using hk) hj
  rw [← ih]
  congr 1
  rw [Nat.succ_mul]; omega
theorem flat_len {size : Nat} : ∀ (xs : List (List Value)), (∀ x ∈ xs, x.length = size) → xs.flatten.length = xs.length * size
 | [], h => by simp
 | x :: xs, h => by
  have := flat_len xs (fun y hy => h y (by simp [hy]))
  simp only [List.flatten_cons, List.length_append, List.length_cons, h x (by simp), this]
  rw [Nat.succ_mul]; omega
theorem flat_ones (n : Nat) (z : Value) : (List.replicate n [z]).flatten = List.replicate n z := by
 induction n with
 | zero => rfl
 | succ n ih => rw [List.replicate_succ, List.flatten_cons, ih]; rfl
structure RowB (w : World) (b : Nat) (T : TypeId) (size cap : Nat) (xs : List (List Value)) : Prop where
 cur : ∃ cur : Array Value, Blk w b cur T ∧ cur.size = cap * size ∧ cur.toList.take (xs.length * size) = xs.flatten
 len : ∀ x ∈ xs, x.length = size
 one : ∀ x ∈ xs, x.all oneB = true
 le : xs.length ≤ cap
 cap : cap ≤ 9223372036854775807
theorem RowB.keep {w w1 : World} {S : List Nat} {b : Nat} {T : TypeId} {size cap : Nat} {xs : List (List Value)} (h : RowB w b T size cap xs) (k : Fr S w w1) (hn : b ∉ S) : RowB w1 b T size cap xs := by
 obtain ⟨cur, h1, h2, h3⟩ := h.cur
 exact ⟨⟨cur, h1.keep k hn, h2, h3⟩, h.len, h.one, h.le, h.cap⟩
theorem RowB.keepB {B : Nat} {w w1 : World} {b : Nat} {T : TypeId} {size cap : Nat} {xs : List (List Value)} (h : RowB w b T size cap xs) (k : FrB B w w1) (hn : b < B) : RowB w1 b T size cap xs := by
 obtain ⟨cur, h1, h2, h3⟩ := h.cur
 exact ⟨⟨cur, h1.keepB k hn, h2, h3⟩, h.len, h.one, h.le, h.cap⟩
theorem RowB.lt {w : World} {b : Nat} {T : TypeId} {size cap : Nat} {xs : List (List Value)} (h : RowB w b T size cap xs) : b < w.heap.size := by
 obtain ⟨cur, h1, _⟩ := h.cur
 exact h1.lt
theorem RowB.cell {w : World} {b : Nat} {T : TypeId} {size cap : Nat} {xs : List (List Value)} (h : RowB w b T size cap xs) (k j : Nat) (hk : k < xs.length) (hj : j < size) : w.cell? ⟨b, k * size + j, none⟩ = (xs.getD k [])[j]? := by
 obtain ⟨cur, h1, h2, h3⟩ := h.cur
 rw [h1.cell, ← Array.getElem?_toList, ← flat_at xs k j h.len hk hj, ← h3]
 have : k * size + j < xs.length * size := by
  have := Nat.mul_le_mul_right size (show k + 1 ≤ xs.length by omega)
  rw [Nat.succ_mul] at this
  omega
 rw [List.getElem?_take, if_pos this]
theorem splice_at : ∀ (vs : List Value) (cs : Array Value) (o i : Nat), o + vs.length ≤ cs.size → (splice cs o vs)[i]? = if o ≤ i ∧ i < o + vs.length then vs[i - o]? else cs[i]?
 | [], cs, o, i, h => by
  rw [if_neg (by simp)]
  rfl
 | v :: vs, cs, o, i, h => by
  simp only [List.length_cons] at h ⊢
  rw [splice, splice_at vs _ _ _ (by simp; omega)]
  by_cases h1 : i = o
  ·
   subst h1
   rw [if_neg (by omega), if_pos (by omega)]
   simp [show i < cs.size by omega]
  ·
   by_cases h2 : o + 1 ≤ i ∧ i < o + 1 + vs.length
   ·
    rw [if_pos h2, if_pos (by omega)]
    rw [show i - o = (i - (o + 1)) + 1 by omega, List.getElem?_cons_succ]
   ·
    rw [if_neg h2, if_neg (by omega)]
    rw [Array.getElem?_setIfInBounds_ne (Ne.symm h1)]
theorem RowB.put {w w1 : World} {b : Nat} {T : TypeId} {size cap : Nat} {xs : List (List Value)} (h : RowB w b T size cap xs) (k : Nat) (vs : List Value) (hk : k < xs.length) (hv : vs.length = size) (h1 : vs.all oneB = true)
  (hw : ∀ cur, Blk w b cur T → Blk w1 b (splice cur (k * size) vs) T) : RowB w1 b T size cap (xs.set k vs) := by
 obtain ⟨cur, h2, h3, h4⟩ := h.cur
 have hb : k * size + size ≤ xs.length * size := by
  have := Nat.mul_le_mul_right size (show k + 1 ≤ xs.length by omega)
  rwa [Nat.succ_mul] at this
 have hc : xs.length * size ≤ cap * size := Nat.mul_le_mul_right size h.le
 have hl : ∀ x ∈ xs.set k vs, x.length = size := fun x hx => by
  rcases List.mem_or_eq_of_mem_set hx with hx | hx
  ·
   exact h.len x hx
  ·
   rw [hx]; exact hv
 refine ⟨⟨_, hw cur h2, by rw [size_splice]; exact h3, ?_⟩, hl, fun x hx => ?_, by simpa using h.le, h.cap⟩
 ·
  apply List.ext_getElem?
  intro i
  rw [List.length_set]
  by_cases hi : i < xs.length * size
  ·
   have hs : 0 < size := by
    rcases Nat.eq_zero_or_pos size with h0 | h0
    ·
     subst h0; simp at hi
    ·
     exact h0
   rw [List.getElem?_take, if_pos hi, Array.getElem?_toList, splice_at _ _ _ _ (by omega)]
   have hq : i = i / size * size + i % size := by rw [Nat.mul_comm]; exact (Nat.div_add_mod i size).symm
   have hr : i % size < size := Nat.mod_lt _ hs
   have hk' : i / size < xs.length := by
    rw [Nat.div_lt_iff_lt_mul hs]
    exact hi
   have hf := flat_at (xs.set k vs) (i / size) (i % size) hl (by simpa using hk') hr
   rw [← hq] at hf
   rw [hf]
   have hf0 := flat_at xs (i / size) (i % size) h.len hk' hr
   rw [← hq] at hf0
   by_cases hkk : i / size = k
   ·
    rw [if_pos (by rw [hv]; rw [hkk] at hq; omega)]
    have : (xs.set k vs).getD (i / size) [] = vs := by
     rw [hkk]
     simp [List.getD_eq_getElem?_getD, List.getElem?_set, hk]
    rw [this]
    congr 1
    rw [hkk] at hq
    omega
   ·
    have hne : ¬ (k * size ≤ i ∧ i < k * size + vs.length) := by
     rintro ⟨ha, hb2⟩
     apply hkk
     rw [hv] at hb2
     have h5 : k ≤ i / size := (Nat.le_div_iff_mul_le hs).2 ha
     have h6 : i / size < k + 1 := (Nat.div_lt_iff_lt_mul hs).2 (by rw [Nat.succ_mul]; exact hb2)
     omega
    rw [if_neg hne]
    have : (xs.set k vs).getD (i / size) [] = xs.getD (i / size) [] := by
     simp [List.getD_eq_getElem?_getD, List.getElem?_set, Ne.symm hkk]
    rw [this, ← hf0, ← h4, List.getElem?_take, if_pos hi, Array.getElem?_toList]
  ·
   rw [List.getElem?_take, if_neg hi, List.getElem?_eq_none]
   rw [flat_len _ hl, List.length_set]
   omega
 ·
  rcases List.mem_or_eq_of_mem_set hx with hx | hx
  ·
   exact h.one x hx
  ·
   rw [hx]; exact h1
theorem RowB.take {w : World} {b : Nat} {T : TypeId} {size cap : Nat} {xs : List (List Value)} (h : RowB w b T size cap xs) (n : Nat) : RowB w b T size cap (xs.take n) := by
 obtain ⟨cur, h2, h3, h4⟩ := h.cur
 refine ⟨⟨cur, h2, h3, ?_⟩, fun x hx => h.len x (List.mem_of_mem_take hx), fun x hx => h.one x (List.mem_of_mem_take hx), ?_, h.cap⟩
 ·
  have hl : ∀ x ∈ xs.take n, x.length = size := fun x hx => h.len x (List.mem_of_mem_take hx)
  have hle : (xs.take n).length * size ≤ xs.length * size := Nat.mul_le_mul_right size (by simp; omega)
  have h5 : xs.flatten.take ((xs.take n).length * size) = (xs.take n).flatten := by
   have h6 : xs.flatten = (xs.take n).flatten ++ (xs.drop n).flatten := by rw [← List.flatten_append, List.take_append_drop]
   rw [h6, ← flat_len _ hl, List.take_left]
  rw [← h5, ← h4, List.take_take]
  congr 1
  omega
 ·
  have := h.le
  simp; omega
theorem RowB.own {w : World} {b : Nat} {T : TypeId} {size cap : Nat} {xs : List (List Value)} (h : RowB w b T size cap xs) : w.ownsRow 0 T size (.slice (some ⟨b, 0, none⟩) xs.length cap) xs.length xs.flatten := by
 obtain ⟨cur, h2, h3, h4⟩ := h.cur
 exact ⟨flat_len _ h.len, .inr ⟨b, cap, cur, rfl, Nat.zero_le _, h2, h.le, h.cap, h3, h4⟩⟩
theorem RowB.of_own {w : World} {b : Nat} {T : TypeId} {size cap n : Nat} {xs : List (List Value)} (h : w.ownsRow 0 T size (.slice (some ⟨b, 0, none⟩) n cap) n xs.flatten) (hn : n = xs.length) (hl : ∀ x ∈ xs, x.length = size) (h1 : ∀ x ∈ xs, x.all oneB = true) : RowB w b T size cap xs := by
 rcases h.2 with ⟨h2, _⟩ | ⟨b2, cap2, cur, h2, _, h4, h5, h6, h7, h8⟩
 ·
  cases h2
 ·
  simp only [Value.slice.injEq, Option.some.injEq, Addr.mk.injEq, and_true] at h2
  obtain ⟨rfl, h2, rfl⟩ := h2
  exact ⟨⟨cur, h4, h7, by rw [← hn]; exact h8⟩, hl, h1, by omega, h6⟩
theorem one_of (u : Value) (h : oneB u = true) : u.oneCell' = true := by
 cases u <;> first | rfl | simp [oneB] at h
theorem flat_one {xs : List (List Value)} (h : ∀ x ∈ xs, x.all oneB = true) : ∀ u ∈ xs.flatten, u.oneCell' = true := by
 intro u hu
 obtain ⟨x, hx, hux⟩ := List.mem_flatten.1 hu
 exact one_of u (List.all_eq_true.1 (h x hx) u hux)
theorem RowB.src {w : World} {b : Nat} {T : TypeId} {size cap : Nat} {xs : List (List Value)} (h : RowB w b T size cap xs) : Src w (.slice (some ⟨b, 0, none⟩) xs.length cap) xs.length xs.flatten size :=
 Src.of_own h.own (flat_one h.one)
theorem src_nil (w : World) (size : Nat) : Src w (.slice none 0 0) 0 ([] : List (List Value)).flatten size := ⟨none, 0, rfl, by simp, fun h => absurd h (Nat.lt_irrefl 0), by simp⟩
theorem RowB.of_blk {w : World} {b : Nat} {T : TypeId} {size n : Nat} {cs : Array Value} (h : Blk w b cs T) (xs : List (List Value)) (hx : cs.toList = xs.flatten) (hn : xs.length = n) (hl : ∀ x ∈ xs, x.length = size) (h1 : ∀ x ∈ xs, x.all oneB = true) (hb : n ≤ 9223372036854775807) : RowB w b T size n xs := by
 have hs : cs.size = xs.length * size := by rw [← flat_len _ hl, ← hx]; rfl
 refine ⟨⟨cs, h, by rw [hs, hn], ?_⟩, hl, h1, by omega, hb⟩
 rw [← hs, ← hx]
 exact List.take_of_length_le (by simp)
def OwnX (T : TypeId) (size : Nat) (w : World) (F : List Nat) (v : Value) (xs : List (List Value)) : Prop :=
 (F = [] ∧ v = .slice none 0 0 ∧ xs = []) ∨ ∃ b cap, F = [b] ∧ v = .slice (some ⟨b, 0, none⟩) xs.length cap ∧ RowB w b T size cap xs
theorem OwnX.nil (T : TypeId) (size : Nat) (w : World) : OwnX T size w [] (.slice none 0 0) [] := .inl ⟨rfl, rfl, rfl⟩
theorem OwnX.keep {T : TypeId} {size : Nat} {w w1 : World} {F S : List Nat} {v : Value} {xs : List (List Value)} (h : OwnX T size w F v xs) (k : Fr S w w1) (hn : ∀ y ∈ F, y ∉ S) : OwnX T size w1 F v xs := by
 rcases h with h | ⟨b, cap, rfl, h2, h3⟩
 ·
  exact .inl h
 ·
  exact .inr ⟨b, cap, rfl, h2, h3.keep k (hn b (by simp))⟩
theorem OwnX.lt {T : TypeId} {size : Nat} {w : World} {F : List Nat} {v : Value} {xs : List (List Value)} (h : OwnX T size w F v xs) : ∀ y ∈ F, y < w.heap.size := by
 rcases h with ⟨rfl, _⟩ | ⟨b, cap, rfl, h2, h3⟩
 ·
  simp
 ·
  intro y hy
  obtain rfl : y = b := by simpa using hy
  exact h3.lt
theorem OwnX.slice {T : TypeId} {size : Nat} {w : World} {F : List Nat} {v : Value} {xs : List (List Value)} (h : OwnX T size w F v xs) : ∃ A cap, v = .slice A xs.length cap := by
 rcases h with ⟨_, rfl, rfl⟩ | ⟨b, cap, _, rfl, _⟩
 ·
  exact ⟨_, _, rfl⟩
 ·
  exact ⟨_, _, rfl⟩
theorem OwnX.sliceN {T : TypeId} {size n : Nat} {w : World} {F : List Nat} {v : Value} {xs : List (List Value)} (h : OwnX T size w F v xs) (hn : xs.length = n) : ∃ A cap, v = .slice A n cap := by
 subst hn
 exact h.slice
theorem OwnX.pos {T : TypeId} {size : Nat} {w : World} {F : List Nat} {A : Option Addr} {n cap : Nat} {xs : List (List Value)} (h : OwnX T size w F (.slice A n cap) xs) (hp : 0 < xs.length) : ∃ b, F = [b] ∧ A = some ⟨b, 0, none⟩ ∧ RowB w b T size cap xs := by
 rcases h with ⟨_, _, rfl⟩ | ⟨b, cap', rfl, h2, h3⟩
 ·
  simp at hp
 ·
  simp only [Value.slice.injEq] at h2
  obtain ⟨rfl, _, rfl⟩ := h2
  exact ⟨b, rfl, rfl, h3⟩
theorem OwnX.own {T : TypeId} {size : Nat} {w : World} {F : List Nat} {v : Value} {xs : List (List Value)} (h : OwnX T size w F v xs) : w.ownsRow 0 T size v xs.length xs.flatten := by
 rcases h with ⟨_, rfl, rfl⟩ | ⟨b, cap, _, rfl, h3⟩
 ·
  exact ⟨by simp, .inl ⟨rfl, rfl⟩⟩
 ·
  exact h3.own
theorem OwnX.src {T : TypeId} {size : Nat} {w : World} {F : List Nat} {v : Value} {xs : List (List Value)} (h : OwnX T size w F v xs) : Src w v xs.length xs.flatten size := by
 rcases h with ⟨_, rfl, rfl⟩ | ⟨b, cap, _, rfl, h3⟩
 ·
  exact src_nil w size
 ·
  exact h3.src
theorem OwnX.srcN {T : TypeId} {size n : Nat} {w : World} {F : List Nat} {v : Value} {xs : List (List Value)} (h : OwnX T size w F v xs) (hn : xs.length = n) : Src w v n xs.flatten size := by
 subst hn
 exact h.src
theorem OwnX.row {T : TypeId} {size : Nat} {w : World} {b cap n : Nat} {xs : List (List Value)} (h : RowB w b T size cap xs) (hn : xs.length = n) : OwnX T size w [b] (.slice (some ⟨b, 0, none⟩) n cap) xs := .inr ⟨b, cap, rfl, by rw [hn], h⟩
theorem OwnX.of_own {T : TypeId} {size : Nat} {w w' : World} {F : List Nat} {v v' : Value} {n : Nat} {xs zs : List (List Value)} (h : OwnX T size w F v xs) (h2 : w'.ownsRow 0 T size v' n zs.flatten) (hn : zs.length = n) (hl : ∀ x ∈ zs, x.length = size) (h1 : ∀ x ∈ zs, x.all oneB = true) (hg : v'.ownBlock = v.ownBlock ∨ v'.ownBlock = some w.heap.size) : ∃ F', OwnX T size w' F' v' zs ∧ ∀ y ∈ F', y ∈ F ∨ w.heap.size ≤ y := by
 rcases h2.2 with ⟨h3, h4⟩ | ⟨b, cap, cur, h3, _⟩
 ·
  exact ⟨[], .inl ⟨rfl, h3, List.length_eq_zero_iff.1 (by omega)⟩, by simp⟩
 ·
  subst h3
  refine ⟨[b], .inr ⟨b, cap, rfl, by rw [hn], RowB.of_own h2 hn.symm hl h1⟩, fun y hy => ?_⟩
  obtain rfl : y = b := by simpa using hy
  rcases hg with hg | hg
  ·
   rcases h with ⟨_, rfl, _⟩ | ⟨b', cap', rfl, rfl, _⟩
   ·
    cases hg
   ·
    simp only [Value.ownBlock, Option.some.injEq] at hg
    exact .inl (by simp [hg])
  ·
   simp only [Value.ownBlock, Option.some.injEq] at hg
   exact .inr (by omega)
theorem djB {b : Nat} {F : List Nat} (h : b ∉ F) : ∀ y ∈ F, y ∉ [b] := by
 intro y hy hb
 obtain rfl : y = b := by simpa using hb
 exact h hy
theorem inF {S T : List Nat} {w : World} (h : ∀ y ∈ T, w.heap.size ≤ y) : ∀ x ∈ T, x ∈ S ∨ w.heap.size ≤ x := fun x hx => .inr (h x hx)
theorem grow_nin {b : Nat} {F F' : List Nat} {w : World} (hg : ∀ y ∈ F', y ∈ F ∨ w.heap.size ≤ y) (h : b ∉ F) (hb : b < w.heap.size) : b ∉ F' := fun hm => (hg b hm).elim h (fun k => absurd hb (Nat.not_lt.2 k))
theorem grow_dj {G F F' : List Nat} {w : World} (hg : ∀ y ∈ F', y ∈ F ∨ w.heap.size ≤ y) (h : ∀ y ∈ F, y ∉ G) (hG : ∀ y ∈ G, y < w.heap.size) : ∀ y ∈ F', y ∉ G := fun y hy hm => (hg y hy).elim (fun k => h y k hm) (fun k => absurd (hG y hm) (Nat.not_lt.2 k))
theorem dj_symm {F G : List Nat} (h : ∀ y ∈ F, y ∉ G) : ∀ y ∈ G, y ∉ F := fun y hy hm => h y hm hy
theorem grow_ge {B : Nat} {F F' : List Nat} {w : World} (hg : ∀ y ∈ F', y ∈ F ∨ w.heap.size ≤ y) (h : ∀ y ∈ F, B ≤ y) (hB : B ≤ w.heap.size) : ∀ y ∈ F', B ≤ y := fun y hy => (hg y hy).elim (h y) (fun k => Nat.le_trans hB k)
theorem new_nin {b : Nat} {F : List Nat} {w : World} (hF : ∀ y ∈ F, y < w.heap.size) (hb : w.heap.size ≤ b) : b ∉ F := fun h => absurd (hF b h) (Nat.not_lt.2 hb)
section
variable {P : Program} {ι : Type} {ops : Array Oper} {N : Nat} {S : ι → Act → World → Prop} {R : World → World → Prop} {x y : ι} {o : Oper} {e e' : Env} {w : World}
theorem WO.ldR (hT : TkS P ops R S x o y) (d : Nat) (vs : List Value) (b k size off : Nat) {T : TypeId} {cap : Nat} {xs : List (List Value)} (hB : ∀ w', R w w' → RowB w' b T size cap xs) (hk : k < xs.length) (hv : xs.getD k [] = vs) (hl : vs.length = size) (hoff : k * size = off) (hp : Nat.blt 0 vs.length = true)
  (h : ldAt P ops N e o = some (some true, ⟨b, off, none⟩, vs.length, some d)) (kk : WO S N y ((d, .agg vs.toArray) :: e) w) : WO S N x e w := by
 subst hoff
 refine WO.ldA hT d vs h hp (fun w' hR j hj => ?_) kk
 rw [add_blk, (hB w' hR).cell k j hk (by omega), hv]
theorem RowB.at {b : Nat} {T : TypeId} {size cap : Nat} {xs : List (List Value)} (h : RowB w b T size cap xs) (k j off : Nat) (v : Value) (hk : k < xs.length) (hj : j < size) (hv : (xs.getD k [])[j]? = some v) (hoff : k * size + j = off) : w.cell? ⟨b, off, none⟩ = some v := by
 subst hoff
 rw [h.cell k j hk hj, hv]
theorem RowB.part {b : Nat} {T : TypeId} {size cap : Nat} {xs : List (List Value)} (h : RowB w b T size cap xs) (k j off : Nat) (vs : List Value) {full : List Value} (hk : k < xs.length) (hv : xs.getD k [] = full) (hj : j + vs.length ≤ size) (hvs : (full.drop j).take vs.length = vs) (hoff : k * size + j = off) : ∀ i, i < vs.length → w.cell? ((⟨b, off, none⟩ : Addr).add i) = vs[i]? := by
 intro i hi
 subst hoff
 rw [add_blk, Nat.add_assoc, h.cell k (j + i) hk (by omega), hv]
 have := congrArg (fun l => l[i]?) hvs
 simp only [List.getElem?_take, hi, if_true, List.getElem?_drop] at this
 exact this
theorem WO.stR (hT : TkE P ops R S x o y) (b k off : Nat) (vs : List Value) {T : TypeId} {size cap : Nat} {xs : List (List Value)} (hB : RowB w b T size cap xs) (hk : k < xs.length) (hl : vs.length = size) (hoff : k * size = off) (h1 : vs.all oneB = true)
  (h : stAt P ops N e o = some (⟨b, off, none⟩, vs, none)) (hR : ∀ w', Fr [b] w w' → R w w')
  (kk : ∀ w', RowB w' b T size cap (xs.set k vs) → Fr [b] w w' → w'.heap.size = w.heap.size → WO S N y e w') : WO S N x e w := by
 subst hoff
 obtain ⟨cur, h2, h3, h4⟩ := hB.cur
 have hb : k * size + size ≤ xs.length * size := by
  have := Nat.mul_le_mul_right size (show k + 1 ≤ xs.length by omega)
  rwa [Nat.succ_mul] at this
 have hc : xs.length * size ≤ cap * size := Nat.mul_le_mul_right size hB.le
 refine WO.st hT b (k * size) vs _ h h2 (by rw [Nat.ble_eq]; omega) rfl hR fun w' h5 h6 h7 => kk w' (hB.put k vs hk hl h1 fun cur' h8 => ?_) h6 h7
 have : cur' = cur := by
  have := h8.symm.trans h2
  simpa using this
 rw [this]
 exact h5
theorem WO.appRow (hT : TkE P ops R S x o y) (d : Nat) {t : TypeId} {xv : Value} {b cap : Nat} {el : TypeId} {size bytes m n : Nat} {xs ys : List (List Value)} (E : ET P t el size bytes) (hrow : RowB w b el size cap xs) (hn : xs.length = n) (hm : ys.length = m) (hsrc : Src w xv m ys.flatten size) (hl : ∀ x ∈ ys, x.length = size) (h1 : ∀ x ∈ ys, x.all oneB = true)
  (h : appAt ops N e o = some (t, .slice (some ⟨b, 0, none⟩) n cap, xv, some d)) (hbytes : (n + m) * bytes ≤ 140737488355328) (hnm : n + m ≤ 140737488355328) (hR : ∀ w', Fr [b] w w' → R w w')
  (kk : ∀ b' cap' w', RowB w' b' el size cap' (xs ++ ys) → Fr [b] w w' → (b' = b ∨ w.heap.size ≤ b') → WO S N y ((d, .slice (some ⟨b', 0, none⟩) (n + m) cap') :: e) w') : WO S N x e w := by
 subst hn
 subst hm
 refine WO.app hT d h E hrow.own hsrc hbytes hnm (Nat.zero_le _) fun v' w' h2 h3 h4 => ?_
 have hF : Fr [b] w w' := Fr.of_grown h3 (fun k hk => by
  simp only [Value.ownBlock, Option.some.injEq] at hk
  exact .inl (by simp [hk]))
 refine ⟨hR _ hF, ?_⟩
 have hb : ∃ b' cap', v' = .slice (some ⟨b', 0, none⟩) (xs.length + ys.length) cap' ∧ (b' = b ∨ w.heap.size ≤ b') := by
  rcases h2.2 with ⟨h5, h6⟩ | ⟨b', cap', cur, h5, _⟩
  ·
   subst h5
   rcases h4 with h4 | h4 <;> cases h4
  ·
   refine ⟨b', cap', h5, ?_⟩
   subst h5
   rcases h4 with h4 | h4
   ·
    simp only [Value.ownBlock, Option.some.injEq] at h4
    exact .inl h4
   ·
    simp only [Value.ownBlock, Option.some.injEq] at h4
    exact .inr (by omega)
 obtain ⟨b', cap', rfl, hb⟩ := hb
 refine kk b' cap' w' ?_ hF hb
 refine RowB.of_own (n := xs.length + ys.length) (by rw [List.flatten_append]; exact h2) (by simp) (fun x hx => ?_) (fun x hx => ?_)
 ·
  rcases List.mem_append.1 hx with hx | hx
  ·
   exact hrow.len x hx
  ·
   exact hl x hx
 ·
  rcases List.mem_append.1 hx with hx | hx
  ·
   exact hrow.one x hx
  ·
   exact h1 x hx
theorem WO.appX (hT : TkE P ops R S x o y) (d : Nat) {t : TypeId} {v xv : Value} {el : TypeId} {size bytes m : Nat} {F : List Nat} {xs ys : List (List Value)} (E : ET P t el size bytes) (hx : OwnX el size w F v xs) (hm : ys.length = m) (hsrc : Src w xv m ys.flatten size) (hl : ∀ x ∈ ys, x.length = size) (h1 : ∀ x ∈ ys, x.all oneB = true)
  (h : appAt ops N e o = some (t, v, xv, some d)) (hbytes : (xs.length + m) * bytes ≤ 140737488355328) (hnm : xs.length + m ≤ 140737488355328) (hR : ∀ w', Fr F w w' → R w w')
  (kk : ∀ v' w' F', OwnX el size w' F' v' (xs ++ ys) → Fr F w w' → (∀ y ∈ F', y ∈ F ∨ w.heap.size ≤ y) → WO S N y ((d, v') :: e) w') : WO S N x e w := by
 subst hm
 have hxl : (∀ x ∈ xs, x.length = size) ∧ ∀ x ∈ xs, x.all oneB = true := by
  rcases hx with ⟨_, _, rfl⟩ | ⟨b, cap, _, _, h3⟩
  ·
   simp
  ·
   exact ⟨h3.len, h3.one⟩
 refine WO.app hT d h E hx.own hsrc hbytes hnm (Nat.zero_le _) fun v' w' h2 h3 h4 => ?_
 have hF : Fr F w w' := Fr.of_grown h3 (fun k hk => by
  rcases hx with ⟨_, rfl, _⟩ | ⟨b, cap, rfl, rfl, _⟩
  ·
   cases hk
  ·
   simp only [Value.ownBlock, Option.some.injEq] at hk
   exact .inl (by simp [hk]))
 refine ⟨hR _ hF, ?_⟩
 obtain ⟨F', h5, h6⟩ := hx.of_own (n := xs.length + ys.length) (zs := xs ++ ys) (by rw [List.flatten_append]; exact h2) (by simp) (fun x hx => by
  rcases List.mem_append.1 hx with hx | hx
  ·
   exact hxl.1 x hx
  ·
   exact hl x hx) (fun x hx => by
  rcases List.mem_append.1 hx with hx | hx
  ·
   exact hxl.2 x hx
  ·
   exact h1 x hx) h4
 exact kk v' w' F' h5 hF h6
def eqAt (ops : Array Oper) (N : Nat) (e : Env) (o : Oper) : Option (Bool × TypeId × Array Value × Array Value × Option Tmp) :=
 bif onB ops N e o then
  match o.op with
  | .binOp .eql t z u _ => (match ev e z, ev e u with | .agg xs, .agg ys => some (false, t, xs, ys, o.dst) | _, _ => none)
  | .binOp .neq t z u _ => (match ev e z, ev e u with | .agg xs, .agg ys => some (true, t, xs, ys, o.dst) | _, _ => none)
  | _ => none
 else none
theorem WO.eqS (hT : TkF P ops S x o y) (d : Nat) (ng : Bool) (t : TypeId) (xs ys : Array Value) {b : Bool} (h : eqAt ops N e o = some (ng, t, xs, ys, some d)) (hm : P.eqGuardType P.depth t = false)
  (he : ∀ w', (Op.equalIn 10000 t (.agg xs) (.agg ys)).run P w' = .ok b w') (k : WO S N y ((d, .bool (if ng then !b else b)) :: e) w) : WO S N x e w := by
 unfold eqAt at h
 cases ho : onB ops N e o with
 | false => rw [ho] at h; cases h
 | true =>
  rw [ho] at h
  simp only [cond_true] at h
  split at h
  ·
   rename_i t' z u yt hop
   split at h
   ·
    rename_i xs' ys' hz hu
    simp only [Option.some.injEq, Prod.mk.injEq] at h
    obtain ⟨rfl, rfl, rfl, rfl, hd⟩ := h
    refine WO.valF hT ho (v := .bool b) (fun w' => ?_) (by rw [hd]; exact k)
    unfold execOp
    simp [hop, hz, hu, run_eqGuard_agg w' .eql t' z u xs' ys' hm, run_eql_struct, he w', Result.andThen]
   ·
    cases h
  ·
   rename_i t' z u yt hop
   split at h
   ·
    rename_i xs' ys' hz hu
    simp only [Option.some.injEq, Prod.mk.injEq] at h
    obtain ⟨rfl, rfl, rfl, rfl, hd⟩ := h
    refine WO.valF hT ho (v := .bool (!b)) (fun w' => ?_) (by rw [hd]; exact k)
    unfold execOp
    simp [hop, hz, hu, run_eqGuard_agg w' .neq t' z u xs' ys' hm, run_neq_struct, he w', Result.andThen]
   ·
    cases h
  ·
   cases h
def mkAt (ops : Array Oper) (N : Nat) (e : Env) (o : Oper) : Option (TypeId × Value × Value × Option Tmp) :=
 bif onB ops N e o then
  match o.op with
  | .makeSlice t l c => some (t, ev e l, ev e c, o.dst)
  | _ => none
 else none
theorem WO.mk (hT : TkE P ops R S x o y) (d n : Nat) {t el : TypeId} (z : Value) (h : mkAt ops N e o = some (t, .int .i64 (n : Int), .int .i64 (n : Int), some d))
  (hr : ∀ w', (Instr.makeSlice t (.int .i64 (n : Int)) (.int .i64 (n : Int))).run P w' = .ok (.slice (some ⟨w'.heap.size, 0, none⟩) n n) (w'.alloc (.cells (Array.replicate n z) el))) (hz : oneB z = true) (hn : n ≤ 1000000) (hR : ∀ w', Fr [] w w' → R w w')
  (k : ∀ g w', RowB w' g el 1 n (List.replicate n [z]) → Fr [] w w' → w.heap.size ≤ g → g < w'.heap.size → WO S N y ((d, .slice (some ⟨g, 0, none⟩) n n) :: e) w') : WO S N x e w := by
 unfold mkAt at h
 cases ho : onB ops N e o with
 | false => rw [ho] at h; cases h
 | true =>
  rw [ho] at h
  simp only [cond_true] at h
  split at h
  ·
   rename_i t' l c hop
   simp only [Option.some.injEq, Prod.mk.injEq] at h
   obtain ⟨rfl, hl, hc, hd⟩ := h
   refine WO.on hT ho fun a ha h3 h4 _ Q => ?_
   have hrun : (execOp (ev e) o).run P w = .ok (.value (.slice (some ⟨w.heap.size, 0, none⟩) n n)) (w.alloc (.cells (Array.replicate n z) el)) := by
    unfold execOp
    simp [hop, hl, hc, hr w]
   simp only [Oper.wp, h3, hrun, Oper.upon]
   have hp := ha.put o.dst (.slice (some ⟨w.heap.size, 0, none⟩) n n) h4
   rw [hd] at hp ⊢
   have hF := (Fr.refl [] w).alloc (.cells (Array.replicate n z) el)
   refine ⟨hR _ hF, k _ _ (RowB.of_blk (Blk.new _ _ _) _ ?_ (by simp) ?_ ?_ (by omega)) hF (Nat.le_refl _) (by rw [size_alloc]; exact Nat.lt_succ_self _) _ hp⟩
   ·
    rw [Array.toList_replicate]
    exact (flat_ones n z).symm
   ·
    intro x hx
    rw [List.eq_of_mem_replicate hx]
    rfl
   ·
    intro x hx
    rw [List.eq_of_mem_replicate hx]
    simp [hz]
  ·
   cases h
end
end Go.Proofs.YtdhonbahpcmmnaaDoor.Eng
