/- What a call leaves as it was: all blocks but those named. Words for the walks. -/
import Derived.Test.YtjfgmdkdcnfdoaaGreatDoorWMore
import Derived.WalkKit
import Derived.Deep.AppendLies
import Derived.RegionTactic
section
set_option linter.unusedVariables false
namespace Go.Proofs.YtjfgmdkdcnfdoaaGreatDoor
open Go.RowKit Go.Proofs.YtjfgmdkdcnfdoaaGreatDoorW.PrintWords Go.Proofs.YtjfgmdkdcnfdoaaGreatDoorW.PrintLast
structure Fr (S : List Nat) (w w' : World) : Prop where
 os : w'.os = w.os
 tape : w'.tape = w.tape
 output : w'.output = w.output
 size : w.heap.size ≤ w'.heap.size
 block : ∀ k, k < w.heap.size → k ∉ S → w'.heap[k]? = w.heap[k]?
namespace Fr
variable {S T : List Nat} {w w1 w2 : World}
theorem refl (S : List Nat) (w : World) : Fr S w w := ⟨rfl, rfl, rfl, Nat.le_refl _, fun _ _ _ => rfl⟩
theorem step (h : Fr S w w1) (k : Fr T w1 w2) (hT : ∀ x ∈ T, x ∈ S ∨ w.heap.size ≤ x) : Fr S w w2 :=
 ⟨k.os.trans h.os, k.tape.trans h.tape, k.output.trans h.output, Nat.le_trans h.size k.size, fun i hi hn => by
  have h1 : i ∉ T := fun hm => by
   rcases hT i hm with h2 | h2
   ·
    exact hn h2
   ·
    omega
  exact (k.block i (Nat.lt_of_lt_of_le hi h.size) h1).trans (h.block i hi hn)⟩
theorem trans (h : Fr S w w1) (k : Fr S w1 w2) : Fr S w w2 := h.step k (fun _ hx => .inl hx)
theorem only (h : Fr S w w1) (hS : ∀ x ∈ S, x ∈ T ∨ w.heap.size ≤ x) : Fr T w w1 := (refl T w).step h hS
theorem alloc (h : Fr S w w1) (o : Obj) : Fr S w (w1.alloc o) :=
 ⟨h.os, h.tape, h.output, Nat.le_trans h.size (by unfold World.alloc; simp only [Array.size_push]; omega), fun i hi hn => (Below.heap_alloc w1 o i (Nat.lt_of_lt_of_le hi h.size)).trans (h.block i hi hn)⟩
theorem set (h : Fr S w w1) {b : Nat} (hb : b ∈ S ∨ w.heap.size ≤ b) (i : Nat) (v : Value) : Fr S w (w1.setCell ⟨b, i, none⟩ v) :=
 ⟨h.os, h.tape, h.output, by
  have := h.size
  simpa [World.setCell] using this, fun j hj hn => by
  have hne : j ≠ b := fun e => by
   subst e
   rcases hb with h1 | h1
   ·
    exact hn h1
   ·
    omega
  exact (Below.heap_setCell w1 ⟨b, i, none⟩ v j hne).trans (h.block j hj hn)⟩
theorem drew (h : Fr S w w1) : Fr S w w1.drew := ⟨h.os, h.tape, h.output, h.size, h.block⟩
theorem drewN (h : Fr S w w1) (n : Nat) : Fr S w (w1.drewN n) := ⟨h.os, h.tape, h.output, h.size, h.block⟩
theorem of_below (h : Below w.heap.size w w1) : Fr [] w w1 := ⟨h.os, h.tape, h.output, h.size, fun k hk _ => h.block k hk⟩
theorem below (h : Fr S w w1) {B : Nat} (hB : B ≤ w.heap.size) (hS : ∀ x ∈ S, B ≤ x) : Below B w w1 :=
 ⟨h.os, h.tape, h.output, h.size, fun k hk => h.block k (Nat.lt_of_lt_of_le hk hB) (fun hm => by have := hS k hm; omega)⟩
theorem below0 (h : Fr [] w w1) : Below w.heap.size w w1 := h.below (Nat.le_refl _) (by simp)
theorem blk (h : Fr S w w1) {g : Nat} {o : Obj} (hg : w.heap[g]? = some o) (hn : g ∉ S) : w1.heap[g]? = some o := (h.block g (blk_lt hg) hn).trans hg
theorem cell0 (h : Fr [] w w1) {p : Addr} {v : Value} (hc : w.cell? p = some v) : w1.cell? p = some v := (h.below0.cell (World.block_lt_of_cell? w p hc)).trans hc
end Fr
def Blk (w : World) (g : Nat) (cs : Array Value) (t : TypeId) : Prop := w.heap[g]? = some (.cells cs t (0, 0))
theorem Blk.cell {w : World} {g : Nat} {cs : Array Value} {t : TypeId} (h : Blk w g cs t) (i : Nat) : w.cell? ⟨g, i, none⟩ = cs[i]? := blk_cell h i
theorem Blk.frozen {w : World} {g : Nat} {cs : Array Value} {t : TypeId} (h : Blk w g cs t) (i : Nat) : w.frozen? ⟨g, i, none⟩ = false := blk_frozen h i
theorem Blk.lt {w : World} {g : Nat} {cs : Array Value} {t : TypeId} (h : Blk w g cs t) : g < w.heap.size := blk_lt h
theorem Blk.keep {w w1 : World} {S : List Nat} {g : Nat} {cs : Array Value} {t : TypeId} (h : Blk w g cs t) (k : Fr S w w1) (hn : g ∉ S) : Blk w1 g cs t := k.blk h hn
theorem Blk.alloc {w : World} {g : Nat} {cs : Array Value} {t : TypeId} (h : Blk w g cs t) (o : Obj) : Blk (w.alloc o) g cs t := blk_alloc h o
theorem Blk.drew {w : World} {g : Nat} {cs : Array Value} {t : TypeId} (h : Blk w g cs t) : Blk w.drew g cs t := h
theorem Blk.drewN {w : World} {g : Nat} {cs : Array Value} {t : TypeId} (h : Blk w g cs t) (n : Nat) : Blk (w.drewN n) g cs t := h
theorem Blk.new (w : World) (cs : Array Value) (t : TypeId) : Blk (w.alloc (.cells cs t)) w.heap.size cs t := blk_new w _
theorem Blk.put {w : World} {g : Nat} {cs cs' : Array Value} {t : TypeId} (h : Blk w g cs t) (i : Nat) (v : Value) (e : cs.setIfInBounds i v = cs') : Blk (w.setCell ⟨g, i, none⟩ v) g cs' t := by
 subst e
 exact blk_set h i v
theorem size_alloc (w : World) (o : Obj) : (w.alloc o).heap.size = w.heap.size + 1 := by unfold World.alloc; simp only [Array.size_push]
theorem size_set (w : World) (p : Addr) (v : Value) : (w.setCell p v).heap.size = w.heap.size := by simp [World.setCell]
end Go.Proofs.YtjfgmdkdcnfdoaaGreatDoor
end
section
set_option linter.unusedVariables false
set_option linter.unusedSimpArgs false
namespace Go.Proofs.YtjfgmdkdcnfdoaaGreatDoor
open Go.RowKit Go.Proofs.YtjfgmdkdcnfdoaaGreatDoorW.PrintWords Go.Proofs.YtjfgmdkdcnfdoaaGreatDoorW.PrintLast
structure ET (P : Program) (t e : TypeId) (size bytes : Nat) : Prop where
 ht : P.underlying t = some (.slice e)
 hi : ∃ i z, P.info? e = some i ∧ i.zero = some z ∧ i.size = size ∧ i.bytes = bytes ∧ z.cells.size = size
 pos : 0 < size
def Src (w : World) (x : Value) (m : Nat) (news : List Value) (size : Nat) : Prop :=
 ∃ A c, x = .slice A m c ∧ news.length = m * size ∧ (0 < m → ∃ ad, A = some ad ∧ ∀ j u, news[j]? = some u → w.cell? (ad.add j) = some u) ∧ ∀ u ∈ news, u.oneCell' = true
theorem Src.of_own {w : World} {base : Nat} {e : TypeId} {size n : Nat} {v : Value} {xs : List Value} (h : w.ownsRow base e size v n xs) (h1 : ∀ u ∈ xs, u.oneCell' = true) : Src w v n xs size := by
 rcases h.2 with ⟨rfl, rfl⟩ | ⟨g, cap, cur, rfl, _⟩
 ·
  exact ⟨none, 0, rfl, h.1, fun h => absurd h (Nat.lt_irrefl 0), h1⟩
 ·
  exact ⟨some ⟨g, 0, none⟩, cap, rfl, h.1, fun _ => ⟨_, rfl, h.cells rfl⟩, h1⟩
theorem Src.mono {w w1 : World} {x : Value} {m size : Nat} {news : List Value} (h : Src w x m news size) (hf : Fr [] w w1) : Src w1 x m news size := by
 obtain ⟨A, c, h1, h2, h3, h4⟩ := h
 refine ⟨A, c, h1, h2, fun hm => ?_, h4⟩
 obtain ⟨ad, e, hc⟩ := h3 hm
 exact ⟨ad, e, fun j u hu => hf.cell0 (hc j u hu)⟩
theorem grown_refl (w : World) (row : Option Nat) : w.grownBy w row := ⟨rfl, rfl, rfl, Nat.le_refl _, fun _ _ _ => rfl⟩
theorem Fr.of_grown {w w1 : World} {row : Option Nat} (h : w.grownBy w1 row) {S : List Nat} (hS : ∀ k, row = some k → k ∈ S ∨ w.heap.size ≤ k) : Fr S w w1 :=
 ⟨h.os, h.tape, h.output, h.size, fun k hk hn => h.block k hk (fun e => by
  rcases hS k e.symm with h1 | h1
  ·
   exact hn h1
  ·
   omega)⟩
section
variable {P : Program} {w : World}
theorem run_app_none (t ty e : TypeId) {size bytes : Nat} (E : ET P t e size bytes) (base n : Nat) (v : Value) (xs : List Value) (hown : w.ownsRow base e size v n xs) (A : Option Addr) (c : Nat) :
  (Builtin.append_ #[t, t] ty #[v, .slice A 0 c]).run P w = .ok v w := by
 obtain ⟨i, z, hi, hz, hs, hb, hzs⟩ := E.hi
 have ht := E.ht
 rcases hown.2 with ⟨rfl, rfl⟩ | ⟨g, cap, cur, rfl, _, _, hnc, _⟩
 ·
  cases A <;> simp [Builtin.append_, run_underlying ht, sizeOf, typeInfo, hi, Builtin.lenOf, Builtin.firstCells, loadCells, loadCellsFrom, storeCells, hs]
 ·
  cases A <;> simp [Builtin.append_, run_underlying ht, sizeOf, typeInfo, hi, Builtin.lenOf, Builtin.firstCells, loadCells, loadCellsFrom, storeCells, hs, hnc]
theorem wp_app {o : Oper} {a : Act} {K : Act → World → Prop} {Q : Exit → Act → World → Prop} (s x : Operand) (t : TypeId)
  (ho : o.op = .call { callee := .builtin .append, args := #[s, x], argTypes := #[t, t] }) (base : Nat) (e : TypeId) (size bytes : Nat) (E : ET P t e size bytes)
  (v : Value) (n : Nat) (xs : List Value) (hs : a.eval s = v) (hown : w.ownsRow base e size v n xs)
  (xv : Value) (m : Nat) (news : List Value) (hx : a.eval x = xv) (hsrc : Src w xv m news size) (hbytes : (n + m) * bytes ≤ 140737488355328) (hnm : n + m ≤ 140737488355328) (hbase : base ≤ w.heap.size)
  (h : ∀ v' w', w'.ownsRow base e size v' (n + m) (xs ++ news) → w.grownBy w' v.ownBlock → (v'.ownBlock = v.ownBlock ∨ v'.ownBlock = some w.heap.size) → K (a.put o.dst v') w') : Oper.wp P o a w K Q := by
 obtain ⟨A, c, rfl, hl, hc, h1⟩ := hsrc
 by_cases hm : 0 < m
 ·
  obtain ⟨ad, rfl, hcell⟩ := hc hm
  obtain ⟨i, z, hi, hz, hsz, hb, hzs⟩ := E.hi
  refine wp_append_lies w s x t ho base e i z size bytes E.ht hi hz hsz hb hzs E.pos v n xs hs hown ad m c news hx hl hcell h1 hm (by unfold maxLen; omega) hbytes hbase w.heap.size rfl ?_
  intro g cap w' h2 h3 h4 h5
  exact h _ _ h2 h3 (by
   rcases h4 with h4 | h4
   ·
    exact .inl h4.symm
   ·
    exact .inr (by rw [← h4]; rfl))
 ·
  obtain rfl : m = 0 := by omega
  have hn : news = [] := List.length_eq_zero_iff.1 (by rw [hl]; omega)
  subst hn
  have hr := run_app_none (w := w) (P := P) t o.type e E base n v xs hown A c
  unfold Oper.wp execOp
  simp only [ho, resolve, invoke, builtin, Sem.run_bind, Sem.run_pure, Result.andThen_ok, List.map_toArray, List.map_cons, List.map_nil, hs, hx, hr]
  exact h v w (by simpa using hown) (grown_refl w _) (.inl rfl)
end
end Go.Proofs.YtjfgmdkdcnfdoaaGreatDoor
end
