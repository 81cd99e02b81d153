/-
 DERIVED: THE SHELF's CONTRACTS AT THIS DUMP, IN PLAIN WORDS (tools/lay-plain.mjs out of 'TryzShelf.lean', which tools/lay-shelf.mjs wrote): THE SAME DECLARATIONS UNDER THE SAME NAMES: 'import', 'namespace', 'open', 'def', 'theorem' AND NOTHING ELSE: no command of the shelf's: FOR A HAND-IN. Each laying: the table of numbers ('.._ren') and one theorem, a field a fact of the dump's own or the kernel's comparison; each contract: ONE APPLICATION.
-/
import Derived.Shelf.SlGeneric
import Derived.Shelf.SortM.Plain
import Derived.Shelf.SortM.SortNone
import Derived.Shelf.SlSortCmp.WholeK
import Derived.Shelf.SlSortCmp.NoneTotal
import Derived.Ground.SlgmProg
import Derived.Ground.SlsfProg
import Derived.Test.YtdhonbahpcmmnaaGreatDoorProg
import Derived.Test.YtdhonbahpcmmnaaGreatDoorTalR
import Derived.Test.YtdhonbahpcmmnaaGreatDoorBatPure
import Derived.Test.YtdhonbahpcmmnaaGreatDoorEngC
section
namespace Go.Proofs
open Go.Shelf
def Tryz.sortF_ren : Go.Shelf.Ren := ⟨fun | 6 => 55 | 15 => 73 | 14 => 72 | 28 => 99 | 29 => 100 | 20 => 91 | 21 => 92 | 22 => 93 | 23 => 94 | 24 => 95 | 25 => 96 | 26 => 97 | 27 => 98 | 46 => 132 | 47 => 133 | 48 => 134 | 49 => 135 | 50 => 136 | 57 => 152 | n => n, fun | 22 => 22 | 24 => 54 | 25 => 106 | 3 => 3 | 39 => 112 | 0 => 0 | 53 => 158 | 55 => 46 | 4 => 4 | 46 => 151 | 45 => 150 | 50 => 155 | 5 => 5 | 9 => 9 | 66 => 183 | 70 => 186 | 76 => 196 | 77 => 197 | n => n, fun | n => n⟩
theorem Tryz.sortF : Go.Proofs.SlLaysF0.n6 Tryz.prog Tryz.sortF_ren := {
 mixed := by kernel_rfl
 f6 := ⟨Tryz.f55.name, by decide, Tryz.func55.trans (congrArg some (by kernel_rfl))⟩
 f14 := ⟨Tryz.f72.name, by decide, Tryz.func72.trans (congrArg some (by kernel_rfl))⟩
 f15 := Tryz.func73.trans (congrArg some (by kernel_rfl))
 f20 := ⟨Tryz.f91.name, by decide, Tryz.func91.trans (congrArg some (by kernel_rfl))⟩
 f21 := ⟨Tryz.f92.name, by decide, Tryz.func92.trans (congrArg some (by kernel_rfl))⟩
 f22 := ⟨Tryz.f93.name, by decide, Tryz.func93.trans (congrArg some (by kernel_rfl))⟩
 f23 := ⟨Tryz.f94.name, by decide, Tryz.func94.trans (congrArg some (by kernel_rfl))⟩
 f24 := ⟨Tryz.f95.name, by decide, Tryz.func95.trans (congrArg some (by kernel_rfl))⟩
 f25 := ⟨Tryz.f96.name, by decide, Tryz.func96.trans (congrArg some (by kernel_rfl))⟩
 f26 := ⟨Tryz.f97.name, by decide, Tryz.func97.trans (congrArg some (by kernel_rfl))⟩
 f27 := ⟨Tryz.f98.name, by decide, Tryz.func98.trans (congrArg some (by kernel_rfl))⟩
 f28 := Tryz.func99.trans (congrArg some (by kernel_rfl))
 f29 := Tryz.func100.trans (congrArg some (by kernel_rfl))
 f46 := ⟨Tryz.f132.name, by decide, Tryz.func132.trans (congrArg some (by kernel_rfl))⟩
 f47 := Tryz.func133.trans (congrArg some (by kernel_rfl))
 f48 := Tryz.func134.trans (congrArg some (by kernel_rfl))
 f49 := ⟨Tryz.f135.name, by decide, Tryz.func135.trans (congrArg some (by kernel_rfl))⟩
 f50 := ⟨Tryz.f136.name, by decide, Tryz.func136.trans (congrArg some (by kernel_rfl))⟩
 f57 := ⟨Tryz.f152.name, by decide, Tryz.func152.trans (congrArg some (by kernel_rfl))⟩
 t0 := Tryz.underlying0
 a0 := Tryz.isAgg0
 z0 := Tryz.sizeOf0
 v0 := Tryz.zeroValue0
 t3 := Tryz.underlying3
 a3 := Tryz.isAgg3
 z3 := Tryz.sizeOf3
 v3 := Tryz.zeroValue3
 t4 := Tryz.underlying4
 a4 := Tryz.isAgg4
 z4 := Tryz.sizeOf4
 v4 := Tryz.zeroValue4
 t5 := Tryz.underlying5
 a5 := Tryz.isAgg5
 z5 := Tryz.sizeOf5
 v5 := Tryz.zeroValue5
 t9 := Tryz.underlying9
 a9 := Tryz.isAgg9
 z9 := Tryz.sizeOf9
 v9 := Tryz.zeroValue9
 t22 := Tryz.underlying22
 a22 := Tryz.isAgg22
 z22 := Tryz.sizeOf22
 v22 := Tryz.zeroValue22
 t25 := Tryz.underlying106
 a25 := Tryz.isAgg106
 z25 := Tryz.sizeOf106
 v25 := Tryz.zeroValue106
 t39 := Tryz.underlying112
 a39 := Tryz.isAgg112
 z39 := Tryz.sizeOf112
 v39 := Tryz.zeroValue112
 t45 := Tryz.underlying150
 a45 := Tryz.isAgg150
 z45 := Tryz.sizeOf150
 v45 := Tryz.zeroValue150
 t46 := Tryz.underlying151
 a46 := Tryz.isAgg151
 z46 := Tryz.sizeOf151
 v46 := Tryz.zeroValue151
 t50 := Tryz.underlying155
 a50 := Tryz.isAgg155
 z50 := Tryz.sizeOf155
 v50 := Tryz.zeroValue155
 t53 := Tryz.underlying158
 a53 := Tryz.isAgg158
 z53 := Tryz.sizeOf158
 v53 := Tryz.zeroValue158
 t55 := Tryz.underlying46
 a55 := Tryz.isAgg46
 z55 := Tryz.sizeOf46
 v55 := Tryz.zeroValue46
 t66 := Tryz.underlying183
 a66 := Tryz.isAgg183
 z66 := Tryz.sizeOf183
 v66 := Tryz.zeroValue183
 t70 := Tryz.underlying186
 a70 := Tryz.isAgg186
 z70 := Tryz.sizeOf186
 v70 := Tryz.zeroValue186
 t76 := Tryz.underlying196
 a76 := Tryz.isAgg196
 z76 := Tryz.sizeOf196
 v76 := Tryz.zeroValue196
 t77 := Tryz.underlying197
 a77 := Tryz.isAgg197
 z77 := Tryz.sizeOf197
 v77 := Tryz.zeroValue197 }
def Tryz.sortI_ren : Go.Shelf.Ren := ⟨fun | 5 => 71 | 8 => 73 | 7 => 90 | 19 => 99 | 20 => 100 | 10 => 123 | 11 => 124 | 12 => 125 | 13 => 126 | 14 => 127 | 15 => 128 | 16 => 129 | 17 => 130 | 18 => 131 | 30 => 148 | 31 => 133 | 32 => 134 | 33 => 149 | 34 => 150 | 35 => 151 | 40 => 173 | n => n, fun | 23 => 63 | 25 => 2 | 3 => 3 | 32 => 112 | 22 => 63 | 0 => 0 | 44 => 158 | 46 => 46 | 4 => 4 | 36 => 151 | 35 => 150 | 41 => 155 | 5 => 5 | 9 => 9 | 53 => 183 | 57 => 186 | 63 => 196 | 64 => 197 | n => n, fun | n => n⟩
theorem Tryz.sortI : Go.Proofs.SlLaysM.n5 Tryz.prog Tryz.sortI_ren := {
 mixed := by kernel_rfl
 f5 := ⟨Tryz.f71.name, by decide, Tryz.func71.trans (congrArg some (by kernel_rfl))⟩
 f7 := ⟨Tryz.f90.name, by decide, Tryz.func90.trans (congrArg some (by kernel_rfl))⟩
 f8 := Tryz.func73.trans (congrArg some (by kernel_rfl))
 f10 := ⟨Tryz.f123.name, by decide, Tryz.func123.trans (congrArg some (by kernel_rfl))⟩
 f11 := ⟨Tryz.f124.name, by decide, Tryz.func124.trans (congrArg some (by kernel_rfl))⟩
 f12 := ⟨Tryz.f125.name, by decide, Tryz.func125.trans (congrArg some (by kernel_rfl))⟩
 f13 := ⟨Tryz.f126.name, by decide, Tryz.func126.trans (congrArg some (by kernel_rfl))⟩
 f14 := ⟨Tryz.f127.name, by decide, Tryz.func127.trans (congrArg some (by kernel_rfl))⟩
 f15 := ⟨Tryz.f128.name, by decide, Tryz.func128.trans (congrArg some (by kernel_rfl))⟩
 f16 := ⟨Tryz.f129.name, by decide, Tryz.func129.trans (congrArg some (by kernel_rfl))⟩
 f17 := ⟨Tryz.f130.name, by decide, Tryz.func130.trans (congrArg some (by kernel_rfl))⟩
 f18 := ⟨Tryz.f131.name, by decide, Tryz.func131.trans (congrArg some (by kernel_rfl))⟩
 f19 := Tryz.func99.trans (congrArg some (by kernel_rfl))
 f20 := Tryz.func100.trans (congrArg some (by kernel_rfl))
 f30 := ⟨Tryz.f148.name, by decide, Tryz.func148.trans (congrArg some (by kernel_rfl))⟩
 f31 := Tryz.func133.trans (congrArg some (by kernel_rfl))
 f32 := Tryz.func134.trans (congrArg some (by kernel_rfl))
 f33 := ⟨Tryz.f149.name, by decide, Tryz.func149.trans (congrArg some (by kernel_rfl))⟩
 f34 := ⟨Tryz.f150.name, by decide, Tryz.func150.trans (congrArg some (by kernel_rfl))⟩
 f35 := ⟨Tryz.f151.name, by decide, Tryz.func151.trans (congrArg some (by kernel_rfl))⟩
 f40 := ⟨Tryz.f173.name, by decide, Tryz.func173.trans (congrArg some (by kernel_rfl))⟩
 t0 := Tryz.underlying0
 a0 := Tryz.isAgg0
 z0 := Tryz.sizeOf0
 v0 := Tryz.zeroValue0
 t3 := Tryz.underlying3
 a3 := Tryz.isAgg3
 z3 := Tryz.sizeOf3
 v3 := Tryz.zeroValue3
 t4 := Tryz.underlying4
 a4 := Tryz.isAgg4
 z4 := Tryz.sizeOf4
 v4 := Tryz.zeroValue4
 t5 := Tryz.underlying5
 a5 := Tryz.isAgg5
 z5 := Tryz.sizeOf5
 v5 := Tryz.zeroValue5
 t9 := Tryz.underlying9
 a9 := Tryz.isAgg9
 z9 := Tryz.sizeOf9
 v9 := Tryz.zeroValue9
 t22 := Tryz.underlying63
 a22 := Tryz.isAgg63
 z22 := Tryz.sizeOf63
 v22 := Tryz.zeroValue63
 t23 := Tryz.underlying63
 a23 := Tryz.isAgg63
 z23 := Tryz.sizeOf63
 v23 := Tryz.zeroValue63
 t25 := Tryz.underlying2
 a25 := Tryz.isAgg2
 z25 := Tryz.sizeOf2
 v25 := Tryz.zeroValue2
 t32 := Tryz.underlying112
 a32 := Tryz.isAgg112
 z32 := Tryz.sizeOf112
 v32 := Tryz.zeroValue112
 t35 := Tryz.underlying150
 a35 := Tryz.isAgg150
 z35 := Tryz.sizeOf150
 v35 := Tryz.zeroValue150
 t36 := Tryz.underlying151
 a36 := Tryz.isAgg151
 z36 := Tryz.sizeOf151
 v36 := Tryz.zeroValue151
 t41 := Tryz.underlying155
 a41 := Tryz.isAgg155
 z41 := Tryz.sizeOf155
 v41 := Tryz.zeroValue155
 t44 := Tryz.underlying158
 a44 := Tryz.isAgg158
 z44 := Tryz.sizeOf158
 v44 := Tryz.zeroValue158
 t46 := Tryz.underlying46
 a46 := Tryz.isAgg46
 z46 := Tryz.sizeOf46
 v46 := Tryz.zeroValue46
 t53 := Tryz.underlying183
 a53 := Tryz.isAgg183
 z53 := Tryz.sizeOf183
 v53 := Tryz.zeroValue183
 t57 := Tryz.underlying186
 a57 := Tryz.isAgg186
 z57 := Tryz.sizeOf186
 v57 := Tryz.zeroValue186
 t63 := Tryz.underlying196
 a63 := Tryz.isAgg196
 z63 := Tryz.sizeOf196
 v63 := Tryz.zeroValue196
 t64 := Tryz.underlying197
 a64 := Tryz.isAgg197
 z64 := Tryz.sizeOf197
 v64 := Tryz.zeroValue197 }
end Go.Proofs
end
section
set_option linter.unusedVariables false
set_option linter.unusedSimpArgs false
namespace Go.Proofs.YtdhonbahpcmmnaaGreatDoor.Bat
open Go Go.RowKit Go.Proofs.YtdhonbahpcmmnaaGreatDoor Go.Proofs.YtdhonbahpcmmnaaGreatDoor.Eng Go.Proofs.YtdhonbahpcmmnaaGreatDoorW.PrintWords
open Go.Proofs Go.Shelf Go.Sort
open Go.Proofs.YtdhonbahpcmmnaaGreatDoor.Line
def g0 (l : List Int) (i : Nat) : Int := l.getD i 0
def cI (x : Int) : List Value := [.int .i64 x]
theorem cI_len (q : List Int) : ∀ x ∈ q.map cI, x.length = 1 := by
  intro x hx
  obtain ⟨y, _, rfl⟩ := List.mem_map.1 hx
  rfl
theorem cI_one (q : List Int) : ∀ x ∈ q.map cI, x.all oneB = true := by
  intro x hx
  obtain ⟨y, _, rfl⟩ := List.mem_map.1 hx
  rfl
theorem g0_some (q : List Int) (i : Nat) (h : i < q.length) : q[i]? = some (g0 q i) := by
  unfold g0
  rw [List.getD_eq_getElem?_getD, List.getElem?_eq_getElem h]
  rfl
def cmpI (x y : Int) : Int := if x < y then -1 else if x > y then 1 else 0
def cmpS (x y : L) : Int := if ltS x y = true then -1 else if ltS y x = true then 1 else 0
def orI (a b : Int) : Int := if a ≠ 0 then a else b
def cmpR (x y : Rw) : Int := orI (cmpS x.key y.key) (cmpI x.kind y.kind)
def ltR (x y : Rw) : Bool := ltS x.key y.key || (decide (x.key = y.key) && decide (x.kind < y.kind))
theorem cmpR_lt (x y : Rw) : decide (cmpR x y < 0) = ltR x y := by
  unfold cmpR ltR orI cmpS cmpI
  by_cases h1 : ltS x.key y.key = true
  · rw [if_pos h1]; simp [h1]
  · rw [if_neg h1]
    by_cases h2 : ltS y.key x.key = true
    · rw [if_pos h2]
      have : ¬ x.key = y.key := fun h => by rw [h] at h2; rw [ltS_irrefl] at h2; cases h2
      simp [h1, this]
    · rw [if_neg h2]
      have h3 : x.key = y.key := ltS_tri _ _ (by simpa using h1) (by simpa using h2)
      simp only [h3, ltS_irrefl, decide_true, Bool.true_and, Bool.false_or]
      by_cases h4 : x.kind < y.kind
      · simp [h4]
      · by_cases h5 : x.kind > y.kind
        · simp [h4, h5]
        · simp [h4, h5]
theorem ltR_iff {x y : Rw} : ltR x y = true ↔ ltS x.key y.key = true ∨ (x.key = y.key ∧ x.kind < y.kind) := by
  unfold ltR
  simp only [Bool.or_eq_true, Bool.and_eq_true, decide_eq_true_eq]
theorem ltR_irrefl (x : Rw) : ltR x x = false := by
  rw [Bool.eq_false_iff]
  intro h
  rcases ltR_iff.1 h with h | ⟨_, h⟩
  · rw [ltS_irrefl] at h; cases h
  · omega
theorem ltR_trans {x y z : Rw} (h : ltR x y = true) (k : ltR y z = true) : ltR x z = true := by
  rcases ltR_iff.1 h with h1 | ⟨h1, h2⟩ <;> rcases ltR_iff.1 k with k1 | ⟨k1, k2⟩
  · exact ltR_iff.2 (.inl (ltS_trans _ _ _ h1 k1))
  · exact ltR_iff.2 (.inl (k1 ▸ h1))
  · exact ltR_iff.2 (.inl (h1 ▸ k1))
  · exact ltR_iff.2 (.inr ⟨h1.trans k1, by omega⟩)
theorem ltR_tri {x y : Rw} (h : ltR x y = false) (k : ltR y x = false) : x.key = y.key ∧ x.kind = y.kind := by
  have h1 := fun z => (Bool.eq_false_iff.1 h) (ltR_iff.2 z)
  have k1 := fun z => (Bool.eq_false_iff.1 k) (ltR_iff.2 z)
  have e : x.key = y.key := ltS_tri _ _ (by simpa using fun z => h1 (.inl z)) (by simpa using fun z => k1 (.inl z))
  refine ⟨e, ?_⟩
  have a1 : ¬ x.kind < y.kind := fun z => h1 (.inr ⟨e, z⟩)
  have a2 : ¬ y.kind < x.kind := fun z => k1 (.inr ⟨e.symm, z⟩)
  omega
theorem ltR_asymm {x y : Rw} (h : ltR x y = true) : ltR y x = false := by
  rw [Bool.eq_false_iff]
  intro k
  have := ltR_trans h k
  rw [ltR_irrefl] at this
  cases this
theorem swoR : SWO (ltOf fun x y : RX => cmpR x.1 y.1) := by
  have e : ltOf (fun x y : RX => cmpR x.1 y.1) = fun x y => ltR x.1 y.1 := by funext x y; exact cmpR_lt x.1 y.1
  rw [e]
  refine ⟨fun x => ltR_irrefl _, fun x y z => ltR_trans, fun x y z h k => ?_⟩
  rw [Bool.eq_false_iff]
  intro h3
  by_cases h4 : ltR y.1 x.1 = true
  · have := ltR_trans h4 h3
    rw [this] at k
    cases k
  · obtain ⟨e1, e2⟩ := ltR_tri h (by simpa using h4)
    rcases ltR_iff.1 h3 with h5 | ⟨h5, h6⟩
    · have : ltR y.1 z.1 = true := ltR_iff.2 (.inl (e1 ▸ h5))
      rw [this] at k; cases k
    · have : ltR y.1 z.1 = true := ltR_iff.2 (.inr ⟨e1 ▸ h5, by omega⟩)
      rw [this] at k; cases k
theorem sorted_pw {d : Array RX} {n : Nat} [Inhabited RX] (h : SortedIn (ltOf fun x y : RX => cmpR x.1 y.1) 0 n d) (hn : d.size = n) : d.toList.Pairwise (fun a b => ltR b.1 a.1 = false) := by
  rw [List.pairwise_iff_getElem]
  intro i j hi hj hij
  have hi' : i < d.size := by simpa using hi
  have hj' : j < d.size := by simpa using hj
  have := h i j (Nat.zero_le _) hij (by omega)
  unfold ltOf at this
  rw [cmpR_lt, getElem!_pos d i hi', getElem!_pos d j hj'] at this
  simpa using this
def Gr (w w' : World) : Prop := ∃ q os', w' = Go.Sort.grow (w.drewN q) os'
theorem Gr.refl (w : World) : Gr w w := ⟨0, #[], by rw [grow_empty]; rfl⟩
theorem Gr.trans {w w1 w2 : World} (h : Gr w w1) (k : Gr w1 w2) : Gr w w2 := by
  obtain ⟨q, os, rfl⟩ := h
  obtain ⟨r, os', rfl⟩ := k
  exact ⟨q + r, os ++ os', by rw [← grow_grow, ← World.drewN_drewN]; rfl⟩
theorem _root_.Go.Proofs.YtdhonbahpcmmnaaGreatDoor.Eng.WO.bxG {P : Program} {ι : Type} {ops : Array Oper} {N : Nat} {S : ι → Act → World → Prop} {R : World → World → Prop} {x y : ι} {o : Oper} {e : Env} {w : World} (hT : TkE P ops R S x o y) (d : Nat) (cs : Array Value) (T : TypeId) (V : Nat → Value) (h : bxAt P ops N e o w = some (V w.heap.size, some d, w.alloc (.cells cs T))) (hR : ∀ w', Fr [] w w' → R w w')
    (k : ∀ g w', Blk w' g cs T → Fr [] w w' → w.heap.size ≤ g → g < w'.heap.size → Gr w w' → WO S N y ((d, V g) :: e) w') : WO S N x e w :=
  WO.bxAny hT d h (hR _ ((Fr.refl _ _).alloc _)) (k _ _ (Blk.new _ _ _) ((Fr.refl _ _).alloc _) (Nat.le_refl _) (by rw [size_alloc]; exact Nat.lt_succ_self _) ⟨0, _, alloc_eq_grow w _⟩)
theorem _root_.Go.Proofs.YtdhonbahpcmmnaaGreatDoor.Eng.WE.drawG {P : Program} {ops : Array Oper} {N : Nat} {Q : Exit → Act → World → Prop} {e : Env} {w : World} {id : Nat} (ms : List Md) (R : World → World → Prop) (hR : ∀ w, R w w) (hm : P.follows .mixedOrders = true) (n : Nat) (L : Array Bool) (hn : ops.size = n) (hL : Array.replicate ops.size false = L)
    (k : ∀ w1, Fr [] w w1 → w1.heap.size = w.heap.size → Gr w w1 → WO (SA P ops ms R Q) N (n, L) e w1) : WE P N (.region id ops true) Q e w := fun a ha => by
  subst hn
  subst hL
  refine wp_region_any hm (wpAny_of_wpA (ms := ms) (R := R) hR _ _ _ _ ?_)
  refine k { w with drawn := w.drawn + 1 } ((Fr.refl [] w).drew) rfl ⟨1, #[], by rw [grow_empty]; rfl⟩ a ha ⟨by simp, fun j oj _ hl => ?_⟩
  rw [getD_replicate_false] at hl
  cases hl
theorem heap_row {w : World} {g n : Nat} {os : Array Go.Obj} {cur : Array Value} {e : TypeId} {fr : Nat × Nat} (F : Array Value) (hb : w.heap[g]? = some (.cells cur e fr)) :
    (grow (putRow id (Sort.ahead w n) g 0 F) os).heap[g]? = some (.cells (putCells id 0 F cur) e fr) := by
  have hg : g < w.heap.size := (Array.getElem?_eq_some_iff.1 hb).1
  rw [heap_grow_old _ _ (by simpa using hg)]
  simp [putRow, mapBlock, Sort.ahead, Array.getElem?_modify, hb, onCells]
theorem fr_row {w : World} {g n : Nat} {os : Array Go.Obj} (F : Array Value) : Fr [g] w (grow (putRow id (Sort.ahead w n) g 0 F) os) := by
  refine ⟨rfl, rfl, rfl, by simp, fun k hk hne => ?_⟩
  rw [heap_grow_old _ _ (by simpa using hk)]
  have : g ≠ k := fun e => hne (by rw [e]; exact List.mem_singleton.2 rfl)
  simp [putRow, mapBlock, Sort.ahead, Array.getElem?_modify, this]
theorem take_row (cur F : Array Value) (h : F.size ≤ cur.size) : (putCells id 0 F cur).toList.take F.size = F.toList := by
  apply List.ext_getElem?
  intro j
  by_cases hj : j < F.size
  · rw [List.getElem?_take_of_lt hj, Array.getElem?_toList]
    simp [putCells, hj, show j < cur.size by omega]
  · rw [List.getElem?_take_eq_none (by omega), List.getElem?_eq_none (by simp; omega)]
theorem _root_.Go.Proofs.YtdhonbahpcmmnaaGreatDoor.Eng.RowB.turned {w : World} {b n : Nat} {T : TypeId} {size cap : Nat} {xs : List (List Value)} {os : Array Go.Obj} (h : RowB w b T size cap xs) (ys : List (List Value)) (hl : ys.length = xs.length) (h1 : ∀ x ∈ ys, x.length = size) (h2 : ∀ x ∈ ys, x.all oneB = true) (F : Array Value) (hF : F.toList = ys.flatten) :
    RowB (grow (putRow id (Sort.ahead w n) b 0 F) os) b T size cap ys := by
  obtain ⟨cur, h3, h4, h5⟩ := h.cur
  have hs : F.size = ys.length * size := by rw [← flat_len _ h1, ← hF]; rfl
  have hle : ys.length * size ≤ cap * size := Nat.mul_le_mul_right size (by rw [hl]; exact h.le)
  refine ⟨⟨putCells id 0 F cur, heap_row F h3, by rw [← h4]; simp [putCells], ?_⟩, h1, h2, by rw [hl]; exact h.le, h.cap⟩
  rw [← hs, take_row _ _ (by omega), hF]
theorem flatK_list {α : Type} [Inhabited α] (k : Nat) (enc : α → List Value) (hk : ∀ x, (enc x).length = k) (d : Array α) : (flatK enc k d).toList = (d.toList.map enc).flatten := by
  have hl : ∀ x ∈ d.toList.map enc, x.length = k := fun x hx => by obtain ⟨y, _, rfl⟩ := List.mem_map.1 hx; exact hk y
  apply List.ext_getElem?
  intro t
  by_cases ht : t < d.size * k
  · have hk0 : 0 < k := by
      rcases Nat.eq_zero_or_pos k with h | h
      · rw [h] at ht; simp at ht
      · exact h
    have h1 : t / k < d.size := Nat.div_lt_of_lt_mul (by rw [Nat.mul_comm]; exact ht)
    have h2 : t % k < k := Nat.mod_lt _ hk0
    have h3 := flat_at (d.toList.map enc) (t / k) (t % k) hl (by simpa using h1) h2
    rw [show t / k * k + t % k = t by rw [Nat.mul_comm]; exact Nat.div_add_mod t k] at h3
    rw [h3, Array.getElem?_toList, Array.getElem?_eq_getElem (by simpa using ht)]
    have h4 := get_flatK enc k d t ht
    rw [getElem!_pos _ t (by simpa using ht)] at h4
    rw [h4, List.getD_eq_getElem?_getD, List.getElem?_map, Array.getElem?_toList (xs := d), Array.getElem?_eq_getElem h1, getElem!_pos d _ h1]
    simp only [Option.map_some, Option.getD_some]
    rw [getElem!_pos _ _ (by rw [hk]; exact h2), List.getElem?_eq_getElem (by rw [hk]; exact h2)]
  · rw [List.getElem?_eq_none (by simp; omega), List.getElem?_eq_none (by rw [flat_len _ hl]; simp; omega)]
theorem holds_flat {w : World} {b : Nat} {T : TypeId} {size cap : Nat} {xs : List (List Value)} (h : RowB w b T size cap xs) (F : Array Value) (hF : F.toList = xs.flatten) : Holds id w b 0 F := by
  intro j hj
  obtain ⟨cur, h3, h4, h5⟩ := h.cur
  have hs : F.size = xs.length * size := by rw [← flat_len _ h.len, ← hF]; rfl
  rw [Nat.zero_add]
  refine ⟨?_, h3.frozen j⟩
  rw [h3.cell, ← Array.getElem?_toList]
  have h6 : (cur.toList.take (xs.length * size))[j]? = F.toList[j]? := by rw [h5, hF]
  rw [List.getElem?_take_of_lt (by omega)] at h6
  rw [h6, Array.getElem?_toList, Array.getElem?_eq_getElem hj, getElem!_pos F j hj]
  rfl
theorem holdsK_row {w : World} {b : Nat} {T : TypeId} {cap : Nat} {α : Type} [Inhabited α] (k : Nat) (enc : α → List Value) (hk : ∀ x, (enc x).length = k) {d : Array α} (h : RowB w b T k cap (d.toList.map enc)) : HoldsK enc k w b 0 d := holds_flat h _ (flatK_list k enc hk d)
theorem ints_list (q : List Int) : (q.map (Value.int .i64)).toArray.toList = (q.map cI).flatten := by
  rw [List.toList_toArray]
  induction q with
  | nil => rfl
  | cons x q ih => rw [List.map_cons, List.map_cons, List.flatten_cons, ih]; rfl
theorem putRow_ints (w : World) (b : Nat) (q : List Int) : putRow (Value.int .i64) w b 0 q.toArray = putRow id w b 0 (q.map (Value.int .i64)).toArray := by
  unfold putRow
  congr 1
  funext c
  unfold putCells
  simp only [List.size_toArray, List.length_map]
  congr 1
  funext k x
  by_cases hk : 0 ≤ k ∧ k < 0 + q.length
  · rw [if_pos hk, if_pos hk, getElem!_pos _ _ (by simpa using hk.2), getElem!_pos _ _ (by simpa using hk.2)]
    simp
  · rw [if_neg hk, if_neg hk]
theorem holds_ints {w : World} {b : Nat} {T : TypeId} {cap : Nat} {q : List Int} (h : RowB w b T 1 cap (q.map cI)) : Holds (Value.int .i64) w b 0 q.toArray := by
  have k := holds_flat h _ (ints_list q)
  intro j hj
  have hj' : j < q.length := by simpa using hj
  obtain ⟨k1, k2⟩ := k j (by simpa using hj')
  refine ⟨?_, k2⟩
  rw [k1, getElem!_pos _ _ (by simpa using hj'), getElem!_pos _ _ (by simpa using hj')]
  simp
set_option maxRecDepth 100000 in
set_option maxHeartbeats 400000 in
theorem nan_i (x : Int) (w : World) :
    Calls Tryz.prog 75 #[.int .i64 x] w fun e w' => e = .returned (.bool false) ∧ w' = w := by
 refine Ze Tryz.func75 _ <| Zsg <| Zr 1 <| Zdn <| Zsg <| Zr 4 <| Zdn <| WE.ret <| ZR (.bool (!decide ((x : Int) = x))) ?_
 exact ⟨by simp, rfl⟩
set_option maxRecDepth 100000 in
set_option maxHeartbeats 400000 in
theorem nan_s (x : L) (w : World) :
    Calls Tryz.prog 74 #[.string (str x)] w fun e w' => e = .returned (.bool false) ∧ w' = w := by
 refine Ze Tryz.func74 _ <| Zsg <| Zr 1 <| Zdn <| Zsg <| Zr 2 <| Zo 5 (.bool (!((str x).toList == (str x).toList))) <| WO.top (v' := .bool (!decide ((str x) = (str x)))) (congrArg Value.bool (congrArg not (streq (str x) (str x)))) <| Zr 1 <| Zdn <| WE.ret <| ZR (.bool (!decide ((str x) = (str x)))) ?_
 exact ⟨by simp, rfl⟩
set_option maxRecDepth 100000 in
set_option maxHeartbeats 400000 in
theorem cmp_i (x y : Int) (w : World) :
    Calls Tryz.prog 59 #[.int .i64 x, .int .i64 y] w fun e w' => e = .returned (.int .i64 (cmpI x y)) ∧ w' = w := by
 refine Ze Tryz.func59 _ <| Zsg <| Zr 1 <| Zdn <| Zsg <| Zr 1 <| Zc 8 (nan_i x _) ?_
 rintro _ w1 ⟨rfl, he_w1⟩
 subst he_w1
 refine ⟨_, rfl, trivial, Zr 1 <| Zdn <| Zsg <| Zr 1 <| Zc 10 (nan_i y _) ?_⟩
 rintro _ w2 ⟨rfl, he_w2⟩
 subst he_w2
 refine ⟨_, rfl, trivial, Zr 1 <| Zdn <| Zq <| Zsg <| Zr 1 <| Zdn <| ZF <| Zk <| Zq <| Zsg <| Zr 1 <| Zdn <| ZF <| Zk <| Zq <| Zsg <| Zr 2 <| Zo 16 (.bool (decide ((x : Int) < y))) ?_⟩
 refine WO.topP ((x : Int) < y) ?_ ?_
 ·
  intro h3
  refine Zdn <| ZT <| Zsg <| Zr 1 <| Zdn <| WE.ret <| WQ.thenR <| ZR (J (-1)) ?_
  exact ⟨by unfold cmpI; simp only [if_pos h3], rfl⟩
 intro h3
 refine Zdn <| ZF <| Zk <| Zq <| Zsg <| Zr 2 <| ZoP 19 ((x : Int) > y) ?_ ?_
 ·
  intro h4
  refine Zdn <| ZT <| Zsg <| Zr 1 <| Zdn <| WE.ret <| WQ.thenR <| ZR (J 1) ?_
  exact ⟨by unfold cmpI; simp only [if_neg h3, if_pos h4], rfl⟩
 intro h4
 refine Zdn <| ZF <| Zk <| Zsg <| Zr 1 <| Zdn <| WE.ret <| ZR (J 0) ?_
 exact ⟨by unfold cmpI; simp only [if_neg h3, if_neg h4], rfl⟩
set_option maxRecDepth 100000 in
set_option maxHeartbeats 400000 in
theorem cmp_s (x y : L) (w : World) :
    Calls Tryz.prog 58 #[.string (str x), .string (str y)] w fun e w' => e = .returned (.int .i64 (cmpS x y)) ∧ w' = w := by
 refine Ze Tryz.func58 _ <| Zsg <| Zr 1 <| Zdn <| Zsg <| Zr 1 <| Zc 8 (nan_s x _) ?_
 rintro _ w1 ⟨rfl, he_w1⟩
 subst he_w1
 refine ⟨_, rfl, trivial, Zr 1 <| Zdn <| Zsg <| Zr 1 <| Zc 10 (nan_s y _) ?_⟩
 rintro _ w2 ⟨rfl, he_w2⟩
 subst he_w2
 refine ⟨_, rfl, trivial, Zr 1 <| Zdn <| Zq <| Zsg <| Zr 1 <| Zdn <| ZF <| Zk <| Zq <| Zsg <| Zr 1 <| Zdn <| ZF <| Zk <| Zq <| Zsg <| Zr 2 <| Zo 16 (.bool (Go.Op.bytesLess ((str x)).toList ((str y)).toList)) <| WO.top (v' := .bool (ltS x y)) (congrArg Value.bool (lss_str x y)) ?_⟩
 refine WO.topB (ltS x y) ?_ ?_
 ·
  intro h3
  refine Zdn <| ZT <| Zsg <| Zr 1 <| Zdn <| WE.ret <| WQ.thenR <| ZR (J (-1)) ?_
  exact ⟨by unfold cmpS; simp only [h3, if_true, Bool.false_eq_true, if_false], rfl⟩
 intro h3
 refine Zdn <| ZF <| Zk <| Zq <| Zsg <| Zr 2 <| Zo 19 (.bool (!(Go.Op.bytesLess ((str x)).toList ((str y)).toList || ((str x)).toList == ((str y)).toList))) <| WO.top (v' := .bool (ltS y x)) (congrArg Value.bool (gtr_str x y)) <| WO.topB (ltS y x) ?_ ?_
 ·
  intro h4
  refine Zdn <| ZT <| Zsg <| Zr 1 <| Zdn <| WE.ret <| WQ.thenR <| ZR (J 1) ?_
  exact ⟨by unfold cmpS; simp only [h3, h4, if_true, Bool.false_eq_true, if_false], rfl⟩
 intro h4
 refine Zdn <| ZF <| Zk <| Zsg <| Zr 1 <| Zdn <| WE.ret <| ZR (J 0) ?_
 exact ⟨by unfold cmpS; simp only [h3, h4, if_true, Bool.false_eq_true, if_false], rfl⟩
set_option maxRecDepth 100000 in
set_option maxHeartbeats 400000 in
theorem or_i (g : Nat) (a b : Int) (w : World) (HB : Blk w g #[.int .i64 a, .int .i64 b] 3) :
    Calls Tryz.prog 57 #[.slice (some ⟨g, 0, none⟩) 2 2] w fun e w' => e = .returned (.int .i64 (orI a b)) ∧ w' = w := by
 refine Ze Tryz.func57 _ <| Zsg <| Zr 1 <| Zdn <| Zsg <| Zr 1 <| Zdn <| Zq <| Zsg <| Zr 3 <| Zdn <| WE.block <| WE.unroll <| WL.go <| Zsg <| Zr 1 <| Zdn <| Zq <| ZT <| Zk <| Zq <| WE.block <| Zsg <| Zib 10 0 g 0 2 1 0 <| Zl 11 (J a) (HB.s 0) <| Zr 1 <| Zdn <| Zsg <| Zr 2 <| ZoN 14 ((a : Int) = 0) ?_ ?_
 ·
  intro h1
  refine Zdn <| ZF <| WE.skip <| WQ.blkN <| Zn <| WE.region <| Zr 2 <| Zd <| WQ.thenL <| WL.go <| Zsg <| Zr 1 <| Zdn <| Zq <| ZT <| Zk <| Zq <| WE.block <| Zsg <| Zib 10 1 g 0 2 1 1 <| Zl 11 (J b) (HB.s 1) <| Zr 1 <| Zdn <| Zsg <| Zr 2 <| ZoN 14 ((b : Int) = 0) ?_ ?_
  ·
   intro h2
   refine Zdn <| ZF <| WE.skip <| WQ.blkN <| Zn <| WE.region <| Zr 2 <| Zd <| WQ.thenL <| WL.go <| Zsg <| Zr 1 <| Zdn <| Zq <| ZF <| WE.exit <| WQ.thenE <| WQ.thenE <| WQ.blkE <| Zn <| Zsg <| Zr 2 <| Zdn <| WE.ret <| ZR (J 0) ?_
   exact ⟨by unfold orI; first | (rw [if_neg (by omega)]; done) | (rw [if_pos (by omega)]; done) | (rw [if_neg (by omega), show b = 0 by omega]; done), rfl⟩
  intro h2
  refine Zdn <| ZT <| Zsg <| Zr 2 <| Zdn <| WE.ret <| WQ.blkR <| WQ.thenR <| WQ.thenR <| WQ.blkR <| WQ.thenR <| ZR (J b) ?_
  exact ⟨by unfold orI; first | (rw [if_neg (by omega)]; done) | (rw [if_pos (by omega)]; done) | (rw [if_neg (by omega), show b = 0 by omega]; done), rfl⟩
 intro h1
 refine Zdn <| ZT <| Zsg <| Zr 2 <| Zdn <| WE.ret <| WQ.blkR <| WQ.thenR <| WQ.thenR <| WQ.blkR <| WQ.thenR <| ZR (J a) ?_
 exact ⟨by unfold orI; first | (rw [if_neg (by omega)]; done) | (rw [if_pos (by omega)]; done) | (rw [if_neg (by omega), show b = 0 by omega]; done), rfl⟩
set_option maxRecDepth 100000 in
set_option maxHeartbeats 400000 in
theorem close_c (x y : RX) (w : World) :
    Calls Tryz.prog 56 #[.agg #[.string (str x.1.key), .int .i64 x.1.kind, .int .u64 (x.1.many : Int), .int .i64 x.1.sum, .int .i64 x.1.least, .int .i64 x.1.most, .bool x.1.over, .slice x.2.1 x.1.bk.length x.2.2], .agg #[.string (str y.1.key), .int .i64 y.1.kind, .int .u64 (y.1.many : Int), .int .i64 y.1.sum, .int .i64 y.1.least, .int .i64 y.1.most, .bool y.1.over, .slice y.2.1 y.1.bk.length y.2.2]] w fun e w' => e = .returned (.int .i64 (cmpR x.1 y.1)) ∧ Gr w w' := by
 have HX := Gr.refl w
 have HA := Fr.refl [] w
 refine Ze Tryz.func56 _ <| Zsg <| WO.bxG (SQ.E 0 (by kernel_rfl)) 2 #[.string (str x.1.key), J x.1.kind, .int .u64 (x.1.many : Int), J x.1.sum, J x.1.least, J x.1.most, .bool x.1.over, .slice x.2.1 x.1.bk.length x.2.2] 54 (fun g => Pt g 0) (by kernel_rfl) (fun _ _ => trivial) ?_
 intro g1 w2 HB4 F3 le5 _ HX_
 have HX := Gr.trans HX HX_
 refine WO.bxG (SQ.E 1 (by kernel_rfl)) 3 #[.string (str y.1.key), J y.1.kind, .int .u64 (y.1.many : Int), J y.1.sum, J y.1.least, J y.1.most, .bool y.1.over, .slice y.2.1 y.1.bk.length y.2.2] 54 (fun g => Pt g 0) (by kernel_rfl) (fun _ _ => trivial) ?_
 intro g6 w7 HB9 F8 le10 _ HX_
 have HX := Gr.trans HX HX_
 have HB4 := HB4.k F8
 refine Zr 1 <| Zdn <| Zq ?_
 have ltz_g1 := HB4.lt
 have ltz_g6 := HB9.lt
 refine WE.drawG [.free, .still, .free, .still, .effR, .free, .still, .free, .still, .eff, .eff, .eff, .free] (FrB (World.heap w7).size) (frBR _) (by kernel_rfl) 13 (Array.replicate 13 false) (by kernel_rfl) rfl ?_
 intro w12 F13 _ HX_
 have HX := Gr.trans HX HX_
 have HB4 := HB4.k F13
 have HB9 := HB9.k F13
 refine Yq 0 1 <| Yl 1 6 (.string (str x.1.key)) (fun _ k => (HB4.keepB k ltz_g1).at 0 (by kernel_rfl)) <| Yq 2 1 <| Yl 3 8 (.string (str y.1.key)) (fun _ k => (HB9.keepB k ltz_g6).at 0 (by kernel_rfl)) <| Yq 5 1 <| Yl 6 11 (J x.1.kind) (fun _ k => (HB4.keepB k ltz_g1).at 1 (by kernel_rfl)) <| Yq 7 1 <| Yl 8 13 (J y.1.kind) (fun _ k => (HB9.keepB k ltz_g6).at 1 (by kernel_rfl)) <| WO.call (SA.ER _ 4 _ (by kernel_rfl) rfl) 9 (by kernel_rfl) (cmp_s x.1.key y.1.key _) ?_
 rintro _ w14 ⟨rfl, he_w14⟩
 subst he_w14
 refine ⟨_, rfl, frBR _ _, Yc 9 14 (cmp_i x.1.kind y.1.kind _) ?_⟩
 rintro _ w15 ⟨rfl, he_w15⟩
 subst he_w15
 refine ⟨_, rfl, trivial, WO.bxG (SA.E _ 10 _ (by kernel_rfl) rfl) 15 #[J (cmpS x.1.key y.1.key), J (cmpI x.1.kind y.1.kind)] 3 (fun g => .slice (some ⟨g, 0, none⟩) 2 2) (by kernel_rfl) (fun _ _ => trivial) ?_⟩
 intro g16 w17 HB19 F18 le20 _ HX_
 have HX := Gr.trans HX HX_
 refine Yc 11 16 (or_i g16 (cmpS x.1.key y.1.key) (cmpI x.1.kind y.1.kind) _ HB19) ?_
 rintro _ w21 ⟨rfl, he_w21⟩
 subst he_w21
 refine ⟨_, rfl, trivial, Yq 12 1 <| Ydn <| WE.ret <| ZR (J (cmpR x.1 y.1)) ?_⟩
 exact ⟨rfl, HX⟩
instance : Inhabited RX := ⟨(rw0, none, 0)⟩
theorem gr_sort {x y : RX} {w : World} : Calls Tryz.prog 56 #[.agg (cW x).toArray, .agg (cW y).toArray] w fun e w' => e = .returned (.int .i64 (cmpR x.1 y.1)) ∧ ∃ q os', w' = Go.Sort.grow (w.drewN q) os' := close_c x y w
theorem sortF_own {w : World} {F : List Nat} {A : Option Addr} {n cap : Nat} {xs : List RX} (h : OwnX 54 8 w F (.slice A n cap) (xs.map cW)) (hn : xs.length = n) (hl : n ≤ 1000000) :
    Calls Tryz.prog 55 #[.slice A n cap, .func (.func 56) #[] #[]] w fun e w' => e = .returned (.tuple #[]) ∧ ∃ ys : List RX, ys.Perm xs ∧ ys.Pairwise (fun a b => ltR b.1 a.1 = false) ∧ OwnX 54 8 w' F (.slice A n cap) (ys.map cW) ∧ Fr F w w' := by
  by_cases hp : 0 < xs.length
  · obtain ⟨b, rfl, rfl, HR⟩ := h.pos (by rw [List.length_map]; exact hp)
    have hlt := HR.lt
    have hH := holdsK_row 8 cW (fun _ => rfl) (d := xs.toArray) (by rw [List.toList_toArray]; exact HR)
    have hs : xs.toArray.size = n := by rw [List.size_toArray, hn]
    have k := AnyQ.slices_SortFunc Tryz.sortF 8 (fun w => Tryz.isAgg54 w) (fun w => Tryz.sizeOf54 w) cW (fun _ => rfl) (fun x v hv => one_of v (List.all_eq_true.1 ((cW_one [x]) _ (by simp)) v hv)) (fun x y : RX => cmpR x.1 y.1) swoR 56 #[] b 0 cap xs.toArray w
      (enters_of Tryz.func56 (by kernel_rfl) rfl) (fun _ _ _ _ x y => gr_sort) hH hlt (by rw [hs]; omega)
    rw [hs] at k
    refine k.mono fun e w' ⟨he, d', m, os, hperm, hsort, hw⟩ => ⟨he, d'.toList, ?_, ?_, ?_, ?_⟩
    · have := hperm.2.2
      have e1 : d'.size = n := by rw [← hs]; exact hperm.1
      rw [show d'.extract 0 n = d' by rw [← e1]; exact Array.extract_size, show xs.toArray.extract 0 n = xs.toArray by rw [← hs]; exact Array.extract_size] at this
      simpa using this
    · exact sorted_pw hsort (by rw [hperm.1, hs])
    · subst hw
      refine OwnX.row (RowB.turned HR _ (by simp [hperm.1]) (fun x hx => cW_len _ x hx) (fun x hx => cW_one _ x hx) _ (flatK_list 8 cW (fun _ => rfl) d')) (by rw [List.length_map]; simp [hperm.1, hn])
    · subst hw
      exact fr_row _
  · obtain rfl : xs = [] := List.length_eq_zero_iff.1 (by omega)
    obtain rfl : n = 0 := by rw [← hn]; rfl
    exact (AnyF.slices_SortFunc_none Tryz.sortF A cap _ w).mono fun e w' ⟨he, hw⟩ => by
      subst hw
      exact ⟨he, [], .refl _, .nil, h, Fr.refl _ _⟩
theorem sortI_own {w : World} {F : List Nat} {A : Option Addr} {n cap : Nat} {q : List Int} (h : OwnX 2 1 w F (.slice A n cap) (q.map cI)) (hn : q.length = n) (hl : n ≤ 1000000) :
    Calls Tryz.prog 71 #[.slice A n cap] w fun e w' => e = .returned (.tuple #[]) ∧ OwnX 2 1 w' F (.slice A n cap) ((q.mergeSort fun x y => decide (x ≤ y)).map cI) ∧ Fr F w w' := by
  by_cases hp : 0 < q.length
  · obtain ⟨b, rfl, rfl, HR⟩ := h.pos (by rw [List.length_map]; exact hp)
    subst hn
    refine (AnyM.slices_Sort_int Tryz.sortI b 0 cap q w (holds_ints HR) HR.lt (by omega)).mono fun e w' ⟨he, m, os, hw⟩ => ?_
    subst hw
    refine ⟨he, ?_, ?_⟩
    · rw [putRow_ints]
      exact OwnX.row (RowB.turned HR _ (by simp) (fun x hx => cI_len _ x hx) (fun x hx => cI_one _ x hx) _ (ints_list _)) (by simp)
    · rw [putRow_ints]
      exact fr_row _
  · obtain rfl : q = [] := List.length_eq_zero_iff.1 (by omega)
    obtain rfl : n = 0 := by rw [← hn]; rfl
    exact (AnyM.slices_Sort_int_none Tryz.sortI A cap w).mono fun e w' ⟨he, hw⟩ => by
      subst hw
      exact ⟨he, by rw [List.mergeSort_nil]; exact h, Fr.refl _ _⟩
end Go.Proofs.YtdhonbahpcmmnaaGreatDoor.Bat
end
