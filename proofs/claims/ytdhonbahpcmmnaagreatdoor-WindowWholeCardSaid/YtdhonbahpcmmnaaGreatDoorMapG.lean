/- slices.Sort, slices.SortFunc over rows of one's own. -/
import Derived.Test.YtdhonbahpcmmnaaGreatDoorSort
import Derived.Test.YtdhonbahpcmmnaaGreatDoorBatPure
import Derived.Test.YtdhonbahpcmmnaaGreatDoorEngC
import Derived.Test.YtdhonbahpcmmnaaGreatDoorLinePure
import Derived.Maps.OwnSet
import Derived.Maps.Range
import Derived.DeepKeys4
section
set_option linter.unusedVariables false
set_option linter.unusedSimpArgs false
namespace Go.Proofs.YtdhonbahpcmmnaaGreatDoor.Bat
open Go Go.RowKit Go.Proofs.YtdhonbahpcmmnaaGreatDoor Go.Proofs.YtdhonbahpcmmnaaGreatDoor.Eng Go.Proofs.YtdhonbahpcmmnaaGreatDoorW.PrintWords
open Go.Proofs Go.Shelf Go.Sort
open Go.Proofs.YtdhonbahpcmmnaaGreatDoor.Line
def g0 (l : List Int) (i : Nat) : Int := l.getD i 0
def cI (x : Int) : List Value := [.int .i64 x]
theorem cI_len (q : List Int) : ∀ x ∈ q.map cI, x.length = 1 := by
  intro x hx
  obtain ⟨y, _, rfl⟩ := List.mem_map.1 hx
  rfl
theorem cI_one (q : List Int) : ∀ x ∈ q.map cI, x.all oneB = true := by
  intro x hx
  obtain ⟨y, _, rfl⟩ := List.mem_map.1 hx
  rfl
theorem g0_some (q : List Int) (i : Nat) (h : i < q.length) : q[i]? = some (g0 q i) := by
  unfold g0
  rw [List.getD_eq_getElem?_getD, List.getElem?_eq_getElem h]
  rfl
def cmpI (x y : Int) : Int := if x < y then -1 else if x > y then 1 else 0
def cmpS (x y : L) : Int := if ltS x y = true then -1 else if ltS y x = true then 1 else 0
def orI (a b : Int) : Int := if a ≠ 0 then a else b
def cmpR (x y : Rw) : Int := orI (cmpS x.key y.key) (cmpI x.kind y.kind)
def ltR (x y : Rw) : Bool := ltS x.key y.key || (decide (x.key = y.key) && decide (x.kind < y.kind))
theorem cmpR_lt (x y : Rw) : decide (cmpR x y < 0) = ltR x y := by
  unfold cmpR ltR orI cmpS cmpI
  by_cases h1 : ltS x.key y.key = true
  · rw [if_pos h1]; simp [h1]
  · rw [if_neg h1]
    by_cases h2 : ltS y.key x.key = true
    · rw [if_pos h2]
      have : ¬ x.key = y.key := fun h => by rw [h] at h2; rw [ltS_irrefl] at h2; cases h2
      simp [h1, this]
    · rw [if_neg h2]
      have h3 : x.key = y.key := ltS_tri _ _ (by simpa using h1) (by simpa using h2)
      simp only [h3, ltS_irrefl, decide_true, Bool.true_and, Bool.false_or]
      by_cases h4 : x.kind < y.kind
      · simp [h4]
      · by_cases h5 : x.kind > y.kind
        · simp [h4, h5]
        · simp [h4, h5]
theorem ltR_iff {x y : Rw} : ltR x y = true ↔ ltS x.key y.key = true ∨ (x.key = y.key ∧ x.kind < y.kind) := by
  unfold ltR
  simp only [Bool.or_eq_true, Bool.and_eq_true, decide_eq_true_eq]
theorem ltR_irrefl (x : Rw) : ltR x x = false := by
  rw [Bool.eq_false_iff]
  intro h
  rcases ltR_iff.1 h with h | ⟨_, h⟩
  · rw [ltS_irrefl] at h; cases h
  · omega
theorem ltR_trans {x y z : Rw} (h : ltR x y = true) (k : ltR y z = true) : ltR x z = true := by
  rcases ltR_iff.1 h with h1 | ⟨h1, h2⟩ <;> rcases ltR_iff.1 k with k1 | ⟨k1, k2⟩
  · exact ltR_iff.2 (.inl (ltS_trans _ _ _ h1 k1))
  · exact ltR_iff.2 (.inl (k1 ▸ h1))
  · exact ltR_iff.2 (.inl (h1 ▸ k1))
  · exact ltR_iff.2 (.inr ⟨h1.trans k1, by omega⟩)
theorem ltR_tri {x y : Rw} (h : ltR x y = false) (k : ltR y x = false) : x.key = y.key ∧ x.kind = y.kind := by
  have h1 := fun z => (Bool.eq_false_iff.1 h) (ltR_iff.2 z)
  have k1 := fun z => (Bool.eq_false_iff.1 k) (ltR_iff.2 z)
  have e : x.key = y.key := ltS_tri _ _ (by simpa using fun z => h1 (.inl z)) (by simpa using fun z => k1 (.inl z))
  refine ⟨e, ?_⟩
  have a1 : ¬ x.kind < y.kind := fun z => h1 (.inr ⟨e, z⟩)
  have a2 : ¬ y.kind < x.kind := fun z => k1 (.inr ⟨e.symm, z⟩)
  omega
theorem ltR_asymm {x y : Rw} (h : ltR x y = true) : ltR y x = false := by
  rw [Bool.eq_false_iff]
  intro k
  have := ltR_trans h k
  rw [ltR_irrefl] at this
  cases this
theorem swoR : SWO (ltOf fun x y : RX => cmpR x.1 y.1) := by
  have e : ltOf (fun x y : RX => cmpR x.1 y.1) = fun x y => ltR x.1 y.1 := by funext x y; exact cmpR_lt x.1 y.1
  rw [e]
  refine ⟨fun x => ltR_irrefl _, fun x y z => ltR_trans, fun x y z h k => ?_⟩
  rw [Bool.eq_false_iff]
  intro h3
  by_cases h4 : ltR y.1 x.1 = true
  · have := ltR_trans h4 h3
    rw [this] at k
    cases k
  · obtain ⟨e1, e2⟩ := ltR_tri h (by simpa using h4)
    rcases ltR_iff.1 h3 with h5 | ⟨h5, h6⟩
    · have : ltR y.1 z.1 = true := ltR_iff.2 (.inl (e1 ▸ h5))
      rw [this] at k; cases k
    · have : ltR y.1 z.1 = true := ltR_iff.2 (.inr ⟨e1 ▸ h5, by omega⟩)
      rw [this] at k; cases k
theorem sorted_pw {d : Array RX} {n : Nat} [Inhabited RX] (h : SortedIn (ltOf fun x y : RX => cmpR x.1 y.1) 0 n d) (hn : d.size = n) : d.toList.Pairwise (fun a b => ltR b.1 a.1 = false) := by
  rw [List.pairwise_iff_getElem]
  intro i j hi hj hij
  have hi' : i < d.size := by simpa using hi
  have hj' : j < d.size := by simpa using hj
  have := h i j (Nat.zero_le _) hij (by omega)
  unfold ltOf at this
  rw [cmpR_lt, getElem!_pos d i hi', getElem!_pos d j hj'] at this
  simpa using this
def Gr (w w' : World) : Prop := ∃ q os', w' = Go.Sort.grow (w.drewN q) os'
theorem Gr.refl (w : World) : Gr w w := ⟨0, #[], by rw [grow_empty]; rfl⟩
theorem Gr.trans {w w1 w2 : World} (h : Gr w w1) (k : Gr w1 w2) : Gr w w2 := by
  obtain ⟨q, os, rfl⟩ := h
  obtain ⟨r, os', rfl⟩ := k
  exact ⟨q + r, os ++ os', by rw [← grow_grow, ← World.drewN_drewN]; rfl⟩
theorem _root_.Go.Proofs.YtdhonbahpcmmnaaGreatDoor.Eng.WO.bxG {P : Program} {ι : Type} {ops : Array Oper} {N : Nat} {S : ι → Act → World → Prop} {R : World → World → Prop} {x y : ι} {o : Oper} {e : Env} {w : World} (hT : TkE P ops R S x o y) (d : Nat) (cs : Array Value) (T : TypeId) (V : Nat → Value) (h : bxAt P ops N e o w = some (V w.heap.size, some d, w.alloc (.cells cs T))) (hR : ∀ w', Fr [] w w' → R w w')
    (k : ∀ g w', Blk w' g cs T → Fr [] w w' → w.heap.size ≤ g → g < w'.heap.size → Gr w w' → WO S N y ((d, V g) :: e) w') : WO S N x e w :=
  WO.bxAny hT d h (hR _ ((Fr.refl _ _).alloc _)) (k _ _ (Blk.new _ _ _) ((Fr.refl _ _).alloc _) (Nat.le_refl _) (by rw [size_alloc]; exact Nat.lt_succ_self _) ⟨0, _, alloc_eq_grow w _⟩)
theorem _root_.Go.Proofs.YtdhonbahpcmmnaaGreatDoor.Eng.WE.drawG {P : Program} {ops : Array Oper} {N : Nat} {Q : Exit → Act → World → Prop} {e : Env} {w : World} {id : Nat} (ms : List Md) (R : World → World → Prop) (hR : ∀ w, R w w) (hm : P.follows .mixedOrders = true) (n : Nat) (L : Array Bool) (hn : ops.size = n) (hL : Array.replicate ops.size false = L)
    (k : ∀ w1, Fr [] w w1 → w1.heap.size = w.heap.size → Gr w w1 → WO (SA P ops ms R Q) N (n, L) e w1) : WE P N (.region id ops true) Q e w := fun a ha => by
  subst hn
  subst hL
  refine wp_region_any hm (wpAny_of_wpA (ms := ms) (R := R) hR _ _ _ _ ?_)
  refine k { w with drawn := w.drawn + 1 } ((Fr.refl [] w).drew) rfl ⟨1, #[], by rw [grow_empty]; rfl⟩ a ha ⟨by simp, fun j oj _ hl => ?_⟩
  rw [getD_replicate_false] at hl
  cases hl
theorem heap_row {w : World} {g n : Nat} {os : Array Go.Obj} {cur : Array Value} {e : TypeId} {fr : Nat × Nat} (F : Array Value) (hb : w.heap[g]? = some (.cells cur e fr)) :
    (grow (putRow id (Sort.ahead w n) g 0 F) os).heap[g]? = some (.cells (putCells id 0 F cur) e fr) := by
  have hg : g < w.heap.size := (Array.getElem?_eq_some_iff.1 hb).1
  rw [heap_grow_old _ _ (by simpa using hg)]
  simp [putRow, mapBlock, Sort.ahead, Array.getElem?_modify, hb, onCells]
theorem fr_row {w : World} {g n : Nat} {os : Array Go.Obj} (F : Array Value) : Fr [g] w (grow (putRow id (Sort.ahead w n) g 0 F) os) := by
  refine ⟨rfl, rfl, rfl, by simp, fun k hk hne => ?_⟩
  rw [heap_grow_old _ _ (by simpa using hk)]
  have : g ≠ k := fun e => hne (by rw [e]; exact List.mem_singleton.2 rfl)
  simp [putRow, mapBlock, Sort.ahead, Array.getElem?_modify, this]
theorem take_row (cur F : Array Value) (h : F.size ≤ cur.size) : (putCells id 0 F cur).toList.take F.size = F.toList := by
  apply List.ext_getElem?
  intro j
  by_cases hj : j < F.size
  · rw [List.getElem?_take_of_lt hj, Array.getElem?_toList]
    simp [putCells, hj, show j < cur.size by omega]
  · rw [List.getElem?_take_eq_none (by omega), List.getElem?_eq_none (by simp; omega)]
theorem _root_.Go.Proofs.YtdhonbahpcmmnaaGreatDoor.Eng.RowB.turned {w : World} {b n : Nat} {T : TypeId} {size cap : Nat} {xs : List (List Value)} {os : Array Go.Obj} (h : RowB w b T size cap xs) (ys : List (List Value)) (hl : ys.length = xs.length) (h1 : ∀ x ∈ ys, x.length = size) (h2 : ∀ x ∈ ys, x.all oneB = true) (F : Array Value) (hF : F.toList = ys.flatten) :
    RowB (grow (putRow id (Sort.ahead w n) b 0 F) os) b T size cap ys := by
  obtain ⟨cur, h3, h4, h5⟩ := h.cur
  have hs : F.size = ys.length * size := by rw [← flat_len _ h1, ← hF]; rfl
  have hle : ys.length * size ≤ cap * size := Nat.mul_le_mul_right size (by rw [hl]; exact h.le)
  refine ⟨⟨putCells id 0 F cur, heap_row F h3, by rw [← h4]; simp [putCells], ?_⟩, h1, h2, by rw [hl]; exact h.le, h.cap⟩
  rw [← hs, take_row _ _ (by omega), hF]
theorem flatK_list {α : Type} [Inhabited α] (k : Nat) (enc : α → List Value) (hk : ∀ x, (enc x).length = k) (d : Array α) : (flatK enc k d).toList = (d.toList.map enc).flatten := by
  have hl : ∀ x ∈ d.toList.map enc, x.length = k := fun x hx => by obtain ⟨y, _, rfl⟩ := List.mem_map.1 hx; exact hk y
  apply List.ext_getElem?
  intro t
  by_cases ht : t < d.size * k
  · have hk0 : 0 < k := by
      rcases Nat.eq_zero_or_pos k with h | h
      · rw [h] at ht; simp at ht
      · exact h
    have h1 : t / k < d.size := Nat.div_lt_of_lt_mul (by rw [Nat.mul_comm]; exact ht)
    have h2 : t % k < k := Nat.mod_lt _ hk0
    have h3 := flat_at (d.toList.map enc) (t / k) (t % k) hl (by simpa using h1) h2
    rw [show t / k * k + t % k = t by rw [Nat.mul_comm]; exact Nat.div_add_mod t k] at h3
    rw [h3, Array.getElem?_toList, Array.getElem?_eq_getElem (by simpa using ht)]
    have h4 := get_flatK enc k d t ht
    rw [getElem!_pos _ t (by simpa using ht)] at h4
    rw [h4, List.getD_eq_getElem?_getD, List.getElem?_map, Array.getElem?_toList (xs := d), Array.getElem?_eq_getElem h1, getElem!_pos d _ h1]
    simp only [Option.map_some, Option.getD_some]
    rw [getElem!_pos _ _ (by rw [hk]; exact h2), List.getElem?_eq_getElem (by rw [hk]; exact h2)]
  · rw [List.getElem?_eq_none (by simp; omega), List.getElem?_eq_none (by rw [flat_len _ hl]; simp; omega)]
theorem holds_flat {w : World} {b : Nat} {T : TypeId} {size cap : Nat} {xs : List (List Value)} (h : RowB w b T size cap xs) (F : Array Value) (hF : F.toList = xs.flatten) : Holds id w b 0 F := by
  intro j hj
  obtain ⟨cur, h3, h4, h5⟩ := h.cur
  have hs : F.size = xs.length * size := by rw [← flat_len _ h.len, ← hF]; rfl
  rw [Nat.zero_add]
  refine ⟨?_, h3.frozen j⟩
  rw [h3.cell, ← Array.getElem?_toList]
  have h6 : (cur.toList.take (xs.length * size))[j]? = F.toList[j]? := by rw [h5, hF]
  rw [List.getElem?_take_of_lt (by omega)] at h6
  rw [h6, Array.getElem?_toList, Array.getElem?_eq_getElem hj, getElem!_pos F j hj]
  rfl
theorem holdsK_row {w : World} {b : Nat} {T : TypeId} {cap : Nat} {α : Type} [Inhabited α] (k : Nat) (enc : α → List Value) (hk : ∀ x, (enc x).length = k) {d : Array α} (h : RowB w b T k cap (d.toList.map enc)) : HoldsK enc k w b 0 d := holds_flat h _ (flatK_list k enc hk d)
theorem ints_list (q : List Int) : (q.map (Value.int .i64)).toArray.toList = (q.map cI).flatten := by
  rw [List.toList_toArray]
  induction q with
  | nil => rfl
  | cons x q ih => rw [List.map_cons, List.map_cons, List.flatten_cons, ih]; rfl
theorem putRow_ints (w : World) (b : Nat) (q : List Int) : putRow (Value.int .i64) w b 0 q.toArray = putRow id w b 0 (q.map (Value.int .i64)).toArray := by
  unfold putRow
  congr 1
  funext c
  unfold putCells
  simp only [List.size_toArray, List.length_map]
  congr 1
  funext k x
  by_cases hk : 0 ≤ k ∧ k < 0 + q.length
  · rw [if_pos hk, if_pos hk, getElem!_pos _ _ (by simpa using hk.2), getElem!_pos _ _ (by simpa using hk.2)]
    simp
  · rw [if_neg hk, if_neg hk]
theorem holds_ints {w : World} {b : Nat} {T : TypeId} {cap : Nat} {q : List Int} (h : RowB w b T 1 cap (q.map cI)) : Holds (Value.int .i64) w b 0 q.toArray := by
  have k := holds_flat h _ (ints_list q)
  intro j hj
  have hj' : j < q.length := by simpa using hj
  obtain ⟨k1, k2⟩ := k j (by simpa using hj')
  refine ⟨?_, k2⟩
  rw [k1, getElem!_pos _ _ (by simpa using hj'), getElem!_pos _ _ (by simpa using hj')]
  simp
set_option maxRecDepth 100000 in
set_option maxHeartbeats 400000 in
theorem nan_i (x : Int) (w : World) :
    Calls Tryz.prog 75 #[.int .i64 x] w fun e w' => e = .returned (.bool false) ∧ w' = w := by
 refine Ze Tryz.func75 _ <| Zsg <| Zr 1 <| Zdn <| Zsg <| Zr 4 <| Zdn <| WE.ret <| ZR (.bool (!decide ((x : Int) = x))) ?_
 exact ⟨by simp, rfl⟩
set_option maxRecDepth 100000 in
set_option maxHeartbeats 400000 in
theorem nan_s (x : L) (w : World) :
    Calls Tryz.prog 74 #[.string (str x)] w fun e w' => e = .returned (.bool false) ∧ w' = w := by
 refine Ze Tryz.func74 _ <| Zsg <| Zr 1 <| Zdn <| Zsg <| Zr 2 <| Zo 5 (.bool (!((str x).toList == (str x).toList))) <| WO.top (v' := .bool (!decide ((str x) = (str x)))) (congrArg Value.bool (congrArg not (streq (str x) (str x)))) <| Zr 1 <| Zdn <| WE.ret <| ZR (.bool (!decide ((str x) = (str x)))) ?_
 exact ⟨by simp, rfl⟩
set_option maxRecDepth 100000 in
set_option maxHeartbeats 400000 in
theorem cmp_i (x y : Int) (w : World) :
    Calls Tryz.prog 59 #[.int .i64 x, .int .i64 y] w fun e w' => e = .returned (.int .i64 (cmpI x y)) ∧ w' = w := by
 refine Ze Tryz.func59 _ <| Zsg <| Zr 1 <| Zdn <| Zsg <| Zr 1 <| Zc 8 (nan_i x _) ?_
 rintro _ w1 ⟨rfl, he_w1⟩
 subst he_w1
 refine ⟨_, rfl, trivial, Zr 1 <| Zdn <| Zsg <| Zr 1 <| Zc 10 (nan_i y _) ?_⟩
 rintro _ w2 ⟨rfl, he_w2⟩
 subst he_w2
 refine ⟨_, rfl, trivial, Zr 1 <| Zdn <| Zq <| Zsg <| Zr 1 <| Zdn <| ZF <| Zk <| Zq <| Zsg <| Zr 1 <| Zdn <| ZF <| Zk <| Zq <| Zsg <| Zr 2 <| Zo 16 (.bool (decide ((x : Int) < y))) ?_⟩
 refine WO.topP ((x : Int) < y) ?_ ?_
 ·
  intro h3
  refine Zdn <| ZT <| Zsg <| Zr 1 <| Zdn <| WE.ret <| WQ.thenR <| ZR (J (-1)) ?_
  exact ⟨by unfold cmpI; simp only [if_pos h3], rfl⟩
 intro h3
 refine Zdn <| ZF <| Zk <| Zq <| Zsg <| Zr 2 <| ZoP 19 ((x : Int) > y) ?_ ?_
 ·
  intro h4
  refine Zdn <| ZT <| Zsg <| Zr 1 <| Zdn <| WE.ret <| WQ.thenR <| ZR (J 1) ?_
  exact ⟨by unfold cmpI; simp only [if_neg h3, if_pos h4], rfl⟩
 intro h4
 refine Zdn <| ZF <| Zk <| Zsg <| Zr 1 <| Zdn <| WE.ret <| ZR (J 0) ?_
 exact ⟨by unfold cmpI; simp only [if_neg h3, if_neg h4], rfl⟩
set_option maxRecDepth 100000 in
set_option maxHeartbeats 400000 in
theorem cmp_s (x y : L) (w : World) :
    Calls Tryz.prog 58 #[.string (str x), .string (str y)] w fun e w' => e = .returned (.int .i64 (cmpS x y)) ∧ w' = w := by
 refine Ze Tryz.func58 _ <| Zsg <| Zr 1 <| Zdn <| Zsg <| Zr 1 <| Zc 8 (nan_s x _) ?_
 rintro _ w1 ⟨rfl, he_w1⟩
 subst he_w1
 refine ⟨_, rfl, trivial, Zr 1 <| Zdn <| Zsg <| Zr 1 <| Zc 10 (nan_s y _) ?_⟩
 rintro _ w2 ⟨rfl, he_w2⟩
 subst he_w2
 refine ⟨_, rfl, trivial, Zr 1 <| Zdn <| Zq <| Zsg <| Zr 1 <| Zdn <| ZF <| Zk <| Zq <| Zsg <| Zr 1 <| Zdn <| ZF <| Zk <| Zq <| Zsg <| Zr 2 <| Zo 16 (.bool (Go.Op.bytesLess ((str x)).toList ((str y)).toList)) <| WO.top (v' := .bool (ltS x y)) (congrArg Value.bool (lss_str x y)) ?_⟩
 refine WO.topB (ltS x y) ?_ ?_
 ·
  intro h3
  refine Zdn <| ZT <| Zsg <| Zr 1 <| Zdn <| WE.ret <| WQ.thenR <| ZR (J (-1)) ?_
  exact ⟨by unfold cmpS; simp only [h3, if_true, Bool.false_eq_true, if_false], rfl⟩
 intro h3
 refine Zdn <| ZF <| Zk <| Zq <| Zsg <| Zr 2 <| Zo 19 (.bool (!(Go.Op.bytesLess ((str x)).toList ((str y)).toList || ((str x)).toList == ((str y)).toList))) <| WO.top (v' := .bool (ltS y x)) (congrArg Value.bool (gtr_str x y)) <| WO.topB (ltS y x) ?_ ?_
 ·
  intro h4
  refine Zdn <| ZT <| Zsg <| Zr 1 <| Zdn <| WE.ret <| WQ.thenR <| ZR (J 1) ?_
  exact ⟨by unfold cmpS; simp only [h3, h4, if_true, Bool.false_eq_true, if_false], rfl⟩
 intro h4
 refine Zdn <| ZF <| Zk <| Zsg <| Zr 1 <| Zdn <| WE.ret <| ZR (J 0) ?_
 exact ⟨by unfold cmpS; simp only [h3, h4, if_true, Bool.false_eq_true, if_false], rfl⟩
set_option maxRecDepth 100000 in
set_option maxHeartbeats 400000 in
theorem or_i (g : Nat) (a b : Int) (w : World) (HB : Blk w g #[.int .i64 a, .int .i64 b] 3) :
    Calls Tryz.prog 57 #[.slice (some ⟨g, 0, none⟩) 2 2] w fun e w' => e = .returned (.int .i64 (orI a b)) ∧ w' = w := by
 refine Ze Tryz.func57 _ <| Zsg <| Zr 1 <| Zdn <| Zsg <| Zr 1 <| Zdn <| Zq <| Zsg <| Zr 3 <| Zdn <| WE.block <| WE.unroll <| WL.go <| Zsg <| Zr 1 <| Zdn <| Zq <| ZT <| Zk <| Zq <| WE.block <| Zsg <| Zib 10 0 g 0 2 1 0 <| Zl 11 (J a) (HB.s 0) <| Zr 1 <| Zdn <| Zsg <| Zr 2 <| ZoN 14 ((a : Int) = 0) ?_ ?_
 ·
  intro h1
  refine Zdn <| ZF <| WE.skip <| WQ.blkN <| Zn <| WE.region <| Zr 2 <| Zd <| WQ.thenL <| WL.go <| Zsg <| Zr 1 <| Zdn <| Zq <| ZT <| Zk <| Zq <| WE.block <| Zsg <| Zib 10 1 g 0 2 1 1 <| Zl 11 (J b) (HB.s 1) <| Zr 1 <| Zdn <| Zsg <| Zr 2 <| ZoN 14 ((b : Int) = 0) ?_ ?_
  ·
   intro h2
   refine Zdn <| ZF <| WE.skip <| WQ.blkN <| Zn <| WE.region <| Zr 2 <| Zd <| WQ.thenL <| WL.go <| Zsg <| Zr 1 <| Zdn <| Zq <| ZF <| WE.exit <| WQ.thenE <| WQ.thenE <| WQ.blkE <| Zn <| Zsg <| Zr 2 <| Zdn <| WE.ret <| ZR (J 0) ?_
   exact ⟨by unfold orI; first | (rw [if_neg (by omega)]; done) | (rw [if_pos (by omega)]; done) | (rw [if_neg (by omega), show b = 0 by omega]; done), rfl⟩
  intro h2
  refine Zdn <| ZT <| Zsg <| Zr 2 <| Zdn <| WE.ret <| WQ.blkR <| WQ.thenR <| WQ.thenR <| WQ.blkR <| WQ.thenR <| ZR (J b) ?_
  exact ⟨by unfold orI; first | (rw [if_neg (by omega)]; done) | (rw [if_pos (by omega)]; done) | (rw [if_neg (by omega), show b = 0 by omega]; done), rfl⟩
 intro h1
 refine Zdn <| ZT <| Zsg <| Zr 2 <| Zdn <| WE.ret <| WQ.blkR <| WQ.thenR <| WQ.thenR <| WQ.blkR <| WQ.thenR <| ZR (J a) ?_
 exact ⟨by unfold orI; first | (rw [if_neg (by omega)]; done) | (rw [if_pos (by omega)]; done) | (rw [if_neg (by omega), show b = 0 by omega]; done), rfl⟩
set_option maxRecDepth 100000 in
set_option maxHeartbeats 400000 in
theorem close_c (x y : RX) (w : World) :
    Calls Tryz.prog 56 #[.agg #[.string (str x.1.key), .int .i64 x.1.kind, .int .u64 (x.1.many : Int), .int .i64 x.1.sum, .int .i64 x.1.least, .int .i64 x.1.most, .bool x.1.over, .slice x.2.1 x.1.bk.length x.2.2], .agg #[.string (str y.1.key), .int .i64 y.1.kind, .int .u64 (y.1.many : Int), .int .i64 y.1.sum, .int .i64 y.1.least, .int .i64 y.1.most, .bool y.1.over, .slice y.2.1 y.1.bk.length y.2.2]] w fun e w' => e = .returned (.int .i64 (cmpR x.1 y.1)) ∧ Gr w w' := by
 have HX := Gr.refl w
 have HA := Fr.refl [] w
 refine Ze Tryz.func56 _ <| Zsg <| WO.bxG (SQ.E 0 (by kernel_rfl)) 2 #[.string (str x.1.key), J x.1.kind, .int .u64 (x.1.many : Int), J x.1.sum, J x.1.least, J x.1.most, .bool x.1.over, .slice x.2.1 x.1.bk.length x.2.2] 54 (fun g => Pt g 0) (by kernel_rfl) (fun _ _ => trivial) ?_
 intro g1 w2 HB4 F3 le5 _ HX_
 have HX := Gr.trans HX HX_
 refine WO.bxG (SQ.E 1 (by kernel_rfl)) 3 #[.string (str y.1.key), J y.1.kind, .int .u64 (y.1.many : Int), J y.1.sum, J y.1.least, J y.1.most, .bool y.1.over, .slice y.2.1 y.1.bk.length y.2.2] 54 (fun g => Pt g 0) (by kernel_rfl) (fun _ _ => trivial) ?_
 intro g6 w7 HB9 F8 le10 _ HX_
 have HX := Gr.trans HX HX_
 have HB4 := HB4.k F8
 refine Zr 1 <| Zdn <| Zq ?_
 have ltz_g1 := HB4.lt
 have ltz_g6 := HB9.lt
 refine WE.drawG [.free, .still, .free, .still, .effR, .free, .still, .free, .still, .eff, .eff, .eff, .free] (FrB (World.heap w7).size) (frBR _) (by kernel_rfl) 13 (Array.replicate 13 false) (by kernel_rfl) rfl ?_
 intro w12 F13 _ HX_
 have HX := Gr.trans HX HX_
 have HB4 := HB4.k F13
 have HB9 := HB9.k F13
 refine Yq 0 1 <| Yl 1 6 (.string (str x.1.key)) (fun _ k => (HB4.keepB k ltz_g1).at 0 (by kernel_rfl)) <| Yq 2 1 <| Yl 3 8 (.string (str y.1.key)) (fun _ k => (HB9.keepB k ltz_g6).at 0 (by kernel_rfl)) <| Yq 5 1 <| Yl 6 11 (J x.1.kind) (fun _ k => (HB4.keepB k ltz_g1).at 1 (by kernel_rfl)) <| Yq 7 1 <| Yl 8 13 (J y.1.kind) (fun _ k => (HB9.keepB k ltz_g6).at 1 (by kernel_rfl)) <| WO.call (SA.ER _ 4 _ (by kernel_rfl) rfl) 9 (by kernel_rfl) (cmp_s x.1.key y.1.key _) ?_
 rintro _ w14 ⟨rfl, he_w14⟩
 subst he_w14
 refine ⟨_, rfl, frBR _ _, Yc 9 14 (cmp_i x.1.kind y.1.kind _) ?_⟩
 rintro _ w15 ⟨rfl, he_w15⟩
 subst he_w15
 refine ⟨_, rfl, trivial, WO.bxG (SA.E _ 10 _ (by kernel_rfl) rfl) 15 #[J (cmpS x.1.key y.1.key), J (cmpI x.1.kind y.1.kind)] 3 (fun g => .slice (some ⟨g, 0, none⟩) 2 2) (by kernel_rfl) (fun _ _ => trivial) ?_⟩
 intro g16 w17 HB19 F18 le20 _ HX_
 have HX := Gr.trans HX HX_
 refine Yc 11 16 (or_i g16 (cmpS x.1.key y.1.key) (cmpI x.1.kind y.1.kind) _ HB19) ?_
 rintro _ w21 ⟨rfl, he_w21⟩
 subst he_w21
 refine ⟨_, rfl, trivial, Yq 12 1 <| Ydn <| WE.ret <| ZR (J (cmpR x.1 y.1)) ?_⟩
 exact ⟨rfl, HX⟩
instance : Inhabited RX := ⟨(rw0, none, 0)⟩
theorem gr_sort {x y : RX} {w : World} : Calls Tryz.prog 56 #[.agg (cW x).toArray, .agg (cW y).toArray] w fun e w' => e = .returned (.int .i64 (cmpR x.1 y.1)) ∧ ∃ q os', w' = Go.Sort.grow (w.drewN q) os' := close_c x y w
theorem sortF_own {w : World} {F : List Nat} {A : Option Addr} {n cap : Nat} {xs : List RX} (h : OwnX 54 8 w F (.slice A n cap) (xs.map cW)) (hn : xs.length = n) (hl : n ≤ 1000000) :
    Calls Tryz.prog 55 #[.slice A n cap, .func (.func 56) #[] #[]] w fun e w' => e = .returned (.tuple #[]) ∧ ∃ ys : List RX, ys.Perm xs ∧ ys.Pairwise (fun a b => ltR b.1 a.1 = false) ∧ OwnX 54 8 w' F (.slice A n cap) (ys.map cW) ∧ Fr F w w' := by
  by_cases hp : 0 < xs.length
  · obtain ⟨b, rfl, rfl, HR⟩ := h.pos (by rw [List.length_map]; exact hp)
    have hlt := HR.lt
    have hH := holdsK_row 8 cW (fun _ => rfl) (d := xs.toArray) (by rw [List.toList_toArray]; exact HR)
    have hs : xs.toArray.size = n := by rw [List.size_toArray, hn]
    have k := AnyQ.slices_SortFunc Tryz.sortF 8 (fun w => Tryz.isAgg54 w) (fun w => Tryz.sizeOf54 w) cW (fun _ => rfl) (fun x v hv => one_of v (List.all_eq_true.1 ((cW_one [x]) _ (by simp)) v hv)) (fun x y : RX => cmpR x.1 y.1) swoR 56 #[] b 0 cap xs.toArray w
      (enters_of Tryz.func56 (by kernel_rfl) rfl) (fun _ _ _ _ x y => gr_sort) hH hlt (by rw [hs]; omega)
    rw [hs] at k
    refine k.mono fun e w' ⟨he, d', m, os, hperm, hsort, hw⟩ => ⟨he, d'.toList, ?_, ?_, ?_, ?_⟩
    · have := hperm.2.2
      have e1 : d'.size = n := by rw [← hs]; exact hperm.1
      rw [show d'.extract 0 n = d' by rw [← e1]; exact Array.extract_size, show xs.toArray.extract 0 n = xs.toArray by rw [← hs]; exact Array.extract_size] at this
      simpa using this
    · exact sorted_pw hsort (by rw [hperm.1, hs])
    · subst hw
      refine OwnX.row (RowB.turned HR _ (by simp [hperm.1]) (fun x hx => cW_len _ x hx) (fun x hx => cW_one _ x hx) _ (flatK_list 8 cW (fun _ => rfl) d')) (by rw [List.length_map]; simp [hperm.1, hn])
    · subst hw
      exact fr_row _
  · obtain rfl : xs = [] := List.length_eq_zero_iff.1 (by omega)
    obtain rfl : n = 0 := by rw [← hn]; rfl
    exact (AnyF.slices_SortFunc_none Tryz.sortF A cap _ w).mono fun e w' ⟨he, hw⟩ => by
      subst hw
      exact ⟨he, [], .refl _, .nil, h, Fr.refl _ _⟩
theorem sortI_own {w : World} {F : List Nat} {A : Option Addr} {n cap : Nat} {q : List Int} (h : OwnX 2 1 w F (.slice A n cap) (q.map cI)) (hn : q.length = n) (hl : n ≤ 1000000) :
    Calls Tryz.prog 71 #[.slice A n cap] w fun e w' => e = .returned (.tuple #[]) ∧ OwnX 2 1 w' F (.slice A n cap) ((q.mergeSort fun x y => decide (x ≤ y)).map cI) ∧ Fr F w w' := by
  by_cases hp : 0 < q.length
  · obtain ⟨b, rfl, rfl, HR⟩ := h.pos (by rw [List.length_map]; exact hp)
    subst hn
    refine (AnyM.slices_Sort_int Tryz.sortI b 0 cap q w (holds_ints HR) HR.lt (by omega)).mono fun e w' ⟨he, m, os, hw⟩ => ?_
    subst hw
    refine ⟨he, ?_, ?_⟩
    · rw [putRow_ints]
      exact OwnX.row (RowB.turned HR _ (by simp) (fun x hx => cI_len _ x hx) (fun x hx => cI_one _ x hx) _ (ints_list _)) (by simp)
    · rw [putRow_ints]
      exact fr_row _
  · obtain rfl : q = [] := List.length_eq_zero_iff.1 (by omega)
    obtain rfl : n = 0 := by rw [← hn]; rfl
    exact (AnyM.slices_Sort_int_none Tryz.sortI A cap w).mono fun e w' ⟨he, hw⟩ => by
      subst hw
      exact ⟨he, by rw [List.mergeSort_nil]; exact h, Fr.refl _ _⟩
end Go.Proofs.YtdhonbahpcmmnaaGreatDoor.Bat
end
section
set_option linter.unusedVariables false
set_option linter.unusedSimpArgs false
set_option linter.unusedSectionVars false
namespace Go.Proofs.YtdhonbahpcmmnaaGreatDoor.Eng
open Go Go.RowKit Go.Maps Go.Proofs.YtdhonbahpcmmnaaGreatDoor
noncomputable def elR {β : Type} (E : β → Value) (v : Value) : Option (DataW β × List MemPlace) := open Classical in if h : ∃ b, E b = v then some (.held h.choose, []) else none
theorem elR_mk {β : Type} {E : β → Value} (hE : ∀ a b, E a = E b → a = b) (b : β) : elR E (E b) = some (.held b, []) := by
 unfold elR
 have h : ∃ c, E c = E b := ⟨b, rfl⟩
 rw [dif_pos h, hE _ _ h.choose_spec]
theorem elR_held {β : Type} {E : β → Value} {v : Value} {b : β} {ps : List MemPlace} (h : elR E v = some (.held b, ps)) : v = E b := by
 unfold elR at h
 split at h
 ·
  rename_i hx
  simp only [Option.some.injEq, Prod.mk.injEq, DataW.held.injEq] at h
  rw [← h.1, hx.choose_spec]
 ·
  cases h
structure KS (P : Program) (k : TypeId) {α : Type} (V : α → Value) (Lk : α → Lit) (ok : α → Prop) : Prop where
 keyed : Keyed P k
 key : ∀ a, ok a → keyOf P k (V a) = some (Lk a)
 inj : ∀ a b, V a = V b → a = b
theorem insert_perm {H : Type} (x : Lit × DataW H) : ∀ l, (DataW.insert x l).Perm (x :: l)
 | [] => .refl _
 | y :: r => by
  unfold DataW.insert
  split
  ·
   exact .refl _
  ·
   exact ((insert_perm x r).cons y).trans (.swap _ _ _)
section
variable {P : Program} {k t el : TypeId} {α β : Type} [DecidableEq α] {V : α → Value} {Lk : α → Lit} {ok : α → Prop} {E : β → Value} {w w1 : World} {m : Nat} {es : List (α × β)} {S : List Nat}
def enM (Lk : α → Lit) (e : α × β) : Lit × DataW β := (Lk e.1, .held e.2)
def MapG (P : Program) (k : TypeId) (Lk : α → Lit) (ok : α → Prop) (E : β → Value) (w : World) (m : Nat) (es : List (α × β)) : Prop :=
 (∀ e ∈ es, ok e.1) ∧ ∃ l, l.Perm (es.map (enM Lk)) ∧ w.ownsMap P k (elR E) m es.length (.map l)
def hasE (es : List (α × β)) (a : α) : Bool := es.any fun e => decide (e.1 = a)
def gE (es : List (α × β)) (a : α) (z : β) : β := ((es.find? fun e => decide (e.1 = a)).map (·.2)).getD z
def putG (es : List (α × β)) (a : α) (b : β) : List (α × β) := (a, b) :: es.filter fun e => !decide (e.1 = a)
theorem KS.linj (K : KS P k V Lk ok) {a b : α} (ha : ok a) (hb : ok b) (h : Lk a = Lk b) : a = b := K.inj _ _ (K.keyed.inj (K.key a ha) (h ▸ K.key b hb))
theorem own_len {R : Value → Option (DataW β × List MemPlace)} {n : Nat} {l : List (Lit × DataW β)} (h : w.ownsMap P k R m n (.map l)) : w.ownsMap P k R m l.length (.map l) := by
 obtain ⟨cs, clock, hb, F, hs, hD⟩ := h
 refine ⟨cs, clock, hb, F, ?_, hD⟩
 simp only [DataW.map.injEq] at hD
 rw [hD, length_read]
 exact Nat.le_refl _
theorem MapG.lt (h : MapG P k Lk ok E w m es) : m < w.heap.size := by
 obtain ⟨_, l, _, h⟩ := h
 exact World.ownsMap.lt h
theorem MapG.keep (h : MapG P k Lk ok E w m es) (f : Fr S w w1) (hn : m ∉ S) : MapG P k Lk ok E w1 m es := by
 obtain ⟨ho, l, hp, cs, clock, hb, F, hs, hD⟩ := h
 exact ⟨ho, l, hp, cs, clock, (f.block m (Array.getElem?_eq_some_iff.1 hb).1 hn).trans hb, F, hs, hD⟩
theorem MapG.perm {es' : List (α × β)} (h : MapG P k Lk ok E w m es) (hp : es.Perm es') : MapG P k Lk ok E w m es' := by
 obtain ⟨ho, l, hl, h⟩ := h
 exact ⟨fun e he => ho e (hp.mem_iff.2 he), l, hl.trans (hp.map _), by rw [← hp.length_eq]; exact h⟩
theorem MapG.made (w : World) : MapG P k Lk ok E (w.alloc (.map #[] 0)) w.heap.size ([] : List (α × β)) := ⟨by simp, [], .refl _, World.ownsMap_made w P k _⟩
theorem MapG.apart (K : KS P k V Lk ok) (h : MapG P k Lk ok E w m es) : (es.map (·.1)).Nodup := by
 obtain ⟨ho, l, hl, h⟩ := h
 obtain ⟨l', e, hp, _⟩ := World.ownsMap.entries h K.keyed
 simp only [DataW.map.injEq] at e
 subst e
 have := (hl.pairwise_iff (fun {_ _} hne => Ne.symm hne)).1 hp
 rw [List.pairwise_map] at this
 rw [List.Nodup, List.pairwise_map]
 exact this.imp (fun {a b} hne hab => hne (by unfold enM; rw [hab]))
theorem apart_l (K : KS P k V Lk ok) {l : List (Lit × DataW β)} {n : Nat} (h : w.ownsMap P k (elR E) m n (.map l)) : l.Pairwise fun p q => p.1 ≠ q.1 := by
 obtain ⟨l', e, hp, _⟩ := World.ownsMap.entries h K.keyed
 simp only [DataW.map.injEq] at e
 subst e
 exact hp
theorem same_l (K : KS P k V Lk ok) (ho : ∀ e ∈ es, ok e.1) {a : α} (ha : ok a) : ∀ e ∈ es, (Lk e.1).sameKey (Lk a) = decide (e.1 = a) := fun e he => by
 rw [Bool.eq_iff_iff, decide_eq_true_eq, WideAt.sameKey_iff (K.keyed.key (K.key a ha))]
 exact ⟨K.linj (ho e he) ha, fun h => by rw [h]⟩
theorem has_l (K : KS P k V Lk ok) (ho : ∀ e ∈ es, ok e.1) {l : List (Lit × DataW β)} (hl : l.Perm (es.map (enM Lk))) {a : α} (ha : ok a) : Maps.has (.map l) (Lk a) = hasE es a := by
 unfold Maps.has hasE
 rw [Bool.eq_iff_iff, List.any_eq_true, List.any_eq_true]
 constructor
 ·
  rintro ⟨p, hp, hs⟩
  obtain ⟨e, he, rfl⟩ := List.mem_map.1 (hl.mem_iff.1 hp)
  exact ⟨e, he, by rw [← same_l K ho ha e he]; exact hs⟩
 ·
  rintro ⟨e, he, hs⟩
  exact ⟨enM Lk e, hl.mem_iff.2 (List.mem_map.2 ⟨e, he, rfl⟩), by unfold enM; rw [same_l K ho ha e he]; exact hs⟩
theorem at_l (K : KS P k V Lk ok) (ho : ∀ e ∈ es, ok e.1) {l : List (Lit × DataW β)} (hl : l.Perm (es.map (enM Lk))) (hp : l.Pairwise fun p q => p.1 ≠ q.1) {a : α} (ha : ok a) (z : β) : (DataW.map l).atKey (Lk a) (.held z) = .held (gE es a z) := by
 unfold gE
 cases hf : es.find? fun e => decide (e.1 = a) with
 | some e =>
  have he := List.mem_of_find?_eq_some hf
  have ha2 : e.1 = a := by simpa using List.find?_some hf
  exact WideAt.atKey_mem _ (K.keyed.key (K.key a ha)) hp (hl.mem_iff.2 (List.mem_map.2 ⟨e, he, by unfold enM; rw [ha2]; rfl⟩))
 | none =>
  unfold DataW.atKey
  simp only
  rw [List.find?_eq_none.2 (fun p hp => by
   obtain ⟨e, he, rfl⟩ := List.mem_map.1 (hl.mem_iff.1 hp)
   have := List.find?_eq_none.1 hf e he
   unfold enM
   rw [same_l K ho ha e he]
   simpa using this)]
  rfl
structure GT (P : Program) (t k e : TypeId) {α β : Type} (V : α → Value) (Lk : α → Lit) (ok : α → Prop) (E : β → Value) (z : β) : Prop where
 ks : KS P k V Lk ok
 t : P.underlying t = some (.map k e)
 z : ∀ w, (zeroValue e).run P w = .ok (E z) w
 inj : ∀ a b, E a = E b → a = b
variable {z : β}
theorem MapG.look (M : GT P t k el V Lk ok E z) (h : MapG P k Lk ok E w m es) {a : α} (ha : ok a) (c : Bool) : (Instr.lookup t (.map (some m)) (V a) c).run P w = .ok (if c then .tuple #[E (gE es a z), .bool (hasE es a)] else E (gE es a z)) w := by
 obtain ⟨ho, l, hl, h⟩ := h
 have hp := apart_l M.ks h
 cases c
 ·
  obtain ⟨v, ps, h1, h2⟩ := World.ownsMap.lookup h M.ks.keyed M.t (M.z w) (elR_mk M.inj z) (M.ks.key a ha)
  rw [at_l M.ks ho hl hp ha] at h2
  rw [h1, elR_held h2]
  rfl
 ·
  obtain ⟨v, ps, h1, h2⟩ := World.ownsMap.look_ok h M.ks.keyed M.t (M.z w) (elR_mk M.inj z) (M.ks.key a ha)
  rw [at_l M.ks ho hl hp ha] at h2
  rw [h1, elR_held h2, has_l M.ks ho hl ha]
  rfl
theorem filter_l (K : KS P k V Lk ok) (ho : ∀ e ∈ es, ok e.1) {l : List (Lit × DataW β)} (hl : l.Perm (es.map (enM Lk))) {a : α} (ha : ok a) : (l.filter fun p => !p.1.sameKey (Lk a)).Perm ((es.filter fun e => !decide (e.1 = a)).map (enM Lk)) := by
 refine (hl.filter _).trans ?_
 rw [List.filter_map]
 refine .of_eq (congrArg _ (List.filter_congr fun e he => ?_))
 show (!(Lk e.1).sameKey (Lk a)) = _
 rw [same_l K ho ha e he]
theorem MapG.up (M : GT P t k el V Lk ok E z) (h : MapG P k Lk ok E w m es) (hn : es.length ≤ 1000000) {a : α} (ha : ok a) (b : β) : ∃ w', (Instr.mapUpdate t (.map (some m)) (V a) (E b)).run P w = .ok () w' ∧ MapG P k Lk ok E w' m (putG es a b) ∧ w.grownBy w' (some m) := by
 obtain ⟨ho, l, hl, h⟩ := h
 obtain ⟨w', h1, h2, h3⟩ := World.ownsMap.update h M.ks.keyed M.t (by unfold maxLen; omega) (M.ks.key a ha) (elR_mk M.inj b)
 have hp : (DataW.insert (Lk a, DataW.held b) (l.filter fun p => !p.1.sameKey (Lk a))).Perm ((putG es a b).map (enM Lk)) := (insert_perm _ _).trans ((filter_l M.ks ho hl ha).cons _)
 refine ⟨w', h1, ⟨fun e he => ?_, _, hp, ?_⟩, h3⟩
 ·
  rcases List.mem_cons.1 he with rfl | he
  ·
   exact ha
  ·
   exact ho e ((List.mem_filter.1 he).1)
 ·
  have h4 := own_len (l := DataW.insert (Lk a, DataW.held b) (l.filter fun p => !p.1.sameKey (Lk a))) h2
  rw [hp.length_eq, List.length_map] at h4
  exact h4
theorem MapG.del (M : GT P t k el V Lk ok E z) (h : MapG P k Lk ok E w m es) {a : α} (ha : ok a) (ty : TypeId) : ∃ w', (Builtin.delete_ #[t, k] ty #[.map (some m), V a]).run P w = .ok (.tuple #[]) w' ∧ MapG P k Lk ok E w' m (es.filter fun e => !decide (e.1 = a)) ∧ w.grownBy w' (some m) := by
 obtain ⟨ho, l, hl, h⟩ := h
 obtain ⟨w', h1, h2, h3⟩ := World.ownsMap.drop h M.ks.keyed M.t (M.ks.key a ha) ty
 have hp := filter_l M.ks ho hl ha
 refine ⟨w', h1, ⟨fun e he => ho e ((List.mem_filter.1 he).1), _, hp, ?_⟩, h3.grown⟩
 have h4 := own_len (l := l.filter fun p => !p.1.sameKey (Lk a)) h2
 rw [hp.length_eq, List.length_map] at h4
 exact h4
theorem MapG.len (ht : P.underlying t = some (.map k el)) (h : MapG P k Lk ok E w m es) (ty : TypeId) : (Builtin.len_ #[t] ty #[.map (some m)]).run P w = .ok (.int .i64 es.length) w := by
 obtain ⟨ho, l, hl, h⟩ := h
 rw [World.ownsMap.len h ht ty]
 unfold Maps.size
 simp only
 rw [hl.length_eq, List.length_map]
def RngG (P : Program) (k : TypeId) (Lk : α → Lit) (ok : α → Prop) (E : β → Value) (w : World) (m r : Nat) (es td : List (α × β)) : Prop :=
 (∀ e ∈ es, ok e.1) ∧ ∃ l left cnt, l.Perm (es.map (enM Lk)) ∧ w.ranges P k (elR E) m r es.length (.map l) left cnt ∧ td = es.filter fun e => left (Lk e.1)
theorem RngG.keep {r : Nat} {td : List (α × β)} (h : RngG P k Lk ok E w m r es td) (f : Fr S w w1) (h1 : m ∉ S) (h2 : r ∉ S) : RngG P k Lk ok E w1 m r es td := by
 obtain ⟨ho, l, left, cnt, hl, h3, h4⟩ := h
 have l1 := h3.owns.lt
 have l2 := h3.lt
 refine ⟨ho, l, left, cnt, hl, ?_, h4⟩
 obtain ⟨cs, clock, since, seen, c0, hb, Ft, hs, hD, hr, rest⟩ := h3
 exact ⟨cs, clock, since, seen, c0, (f.block m l1 h1).trans hb, Ft, hs, hD, (f.block r l2 h2).trans hr, rest⟩
theorem RngG.lt {r : Nat} {td : List (α × β)} (h : RngG P k Lk ok E w m r es td) : m < w.heap.size := by
 obtain ⟨_, l, left, cnt, _, h3, _⟩ := h
 exact h3.owns.lt
theorem RngG.lt2 {r : Nat} {td : List (α × β)} (h : RngG P k Lk ok E w m r es td) : r < w.heap.size := by
 obtain ⟨_, l, left, cnt, _, h3, _⟩ := h
 exact h3.lt
theorem RngG.owns {r : Nat} {td : List (α × β)} (h : RngG P k Lk ok E w m r es td) : MapG P k Lk ok E w m es := by
 obtain ⟨ho, l, left, cnt, hl, h3, _⟩ := h
 exact ⟨ho, l, hl, h3.owns⟩
theorem RngG.sub {r : Nat} {td : List (α × β)} (h : RngG P k Lk ok E w m r es td) : ∀ e ∈ td, e ∈ es := by
 obtain ⟨_, _, _, _, _, _, rfl⟩ := h
 exact fun e he => (List.mem_filter.1 he).1
end
theorem Fr.of_turnedG {w w1 : World} {m : Nat} (h : w.grownBy w1 (some m)) : Fr [m] w w1 := Fr.of_grown h (fun j hj => .inl (by simp only [Option.some.injEq] at hj; simp [hj]))
section
variable {P : Program} {ι : Type} {ops : Array Oper} {N : Nat} {S : ι → Act → World → Prop} {R : World → World → Prop} {x y : ι} {o : Oper} {e e' : Env} {w : World}
variable {t k el : TypeId} {m : Nat} {α β : Type} [DecidableEq α] {V : α → Value} {Lk : α → Lit} {ok : α → Prop} {E : β → Value} {z : β} {es : List (α × β)}
def lkGAt (ops : Array Oper) (N : Nat) (e : Env) (o : Oper) : Option (TypeId × Value × Value × Bool × Option Tmp) :=
 bif onB ops N e o then
  match o.op with
  | .lookup t z u c => some (t, ev e z, ev e u, c, o.dst)
  | _ => none
 else none
theorem lkGAt_spec {v j : Value} {c : Bool} {d : Option Tmp} (h : lkGAt ops N e o = some (t, v, j, c, d)) : ∃ z u, onB ops N e o = true ∧ o.op = .lookup t z u c ∧ ev e z = v ∧ ev e u = j ∧ o.dst = d := by
 unfold lkGAt at h
 cases ho : onB ops N e o with
 | false => rw [ho] at h; cases h
 | true =>
  rw [ho] at h
  simp only [cond_true] at h
  split at h
  ·
   rename_i t' z u c' hop
   simp only [Option.some.injEq, Prod.mk.injEq] at h
   obtain ⟨rfl, rfl, rfl, rfl, hd⟩ := h
   exact ⟨z, u, rfl, hop, rfl, rfl, hd⟩
  ·
   cases h
theorem WO.lkG (hT : TkS P ops R S x o y) (d : Nat) (M : GT P t k el V Lk ok E z) (a : α) (h : lkGAt ops N e o = some (t, .map (some m), V a, true, some d)) (hm : ∀ w', R w w' → MapG P k Lk ok E w' m es) (ha : ok a)
  (kk : WO S N y ((d, .tuple #[E (gE es a z), .bool (hasE es a)]) :: e) w) : WO S N x e w := by
 obtain ⟨z', u, ho, hop, hz, hu, hd⟩ := lkGAt_spec h
 refine WO.val hT ho (v := .tuple #[E (gE es a z), .bool (hasE es a)]) (fun w' hR => ?_) (by rw [hd]; exact kk)
 unfold execOp
 simp only [hop, hz, hu, Sem.run_bind, (hm w' hR).look M ha true, Result.andThen_ok, Sem.run_pure, if_true]
theorem WO.lkG1 (hT : TkS P ops R S x o y) (d : Nat) (M : GT P t k el V Lk ok E z) (a : α) (h : lkGAt ops N e o = some (t, .map (some m), V a, false, some d)) (hm : ∀ w', R w w' → MapG P k Lk ok E w' m es) (ha : ok a)
  (kk : WO S N y ((d, E (gE es a z)) :: e) w) : WO S N x e w := by
 obtain ⟨z', u, ho, hop, hz, hu, hd⟩ := lkGAt_spec h
 refine WO.val hT ho (v := E (gE es a z)) (fun w' hR => ?_) (by rw [hd]; exact kk)
 unfold execOp
 simp only [hop, hz, hu, Sem.run_bind, (hm w' hR).look M ha false, Result.andThen_ok, Sem.run_pure, Bool.false_eq_true, if_false]
theorem WO.lkGN (hT : TkS P ops R S x o y) (d : Nat) (M : GT P t k el V Lk ok E z) (a : α) (h : lkGAt ops N e o = some (t, .map none, V a, true, some d)) (ha : ok a)
  (kk : WO S N y ((d, .tuple #[E z, .bool false]) :: e) w) : WO S N x e w := by
 obtain ⟨z', u, ho, hop, hz, hu, hd⟩ := lkGAt_spec h
 refine WO.val hT ho (v := .tuple #[E z, .bool false]) (fun w' hR => ?_) (by rw [hd]; exact kk)
 unfold execOp
 simp only [hop, hz, hu, Sem.run_bind, Maps.look_nil true M.ks.keyed M.t (M.z w') (M.ks.key a ha), Result.andThen_ok, Sem.run_pure, if_true]
def upGAt (ops : Array Oper) (N : Nat) (e : Env) (o : Oper) : Option (TypeId × Value × Value × Value × Option Tmp) :=
 bif onB ops N e o then
  match o.op with
  | .mapUpdate t z u v => some (t, ev e z, ev e u, ev e v, o.dst)
  | _ => none
 else none
theorem WO.upG (hT : TkE P ops R S x o y) (M : GT P t k el V Lk ok E z) (a : α) (b : β) (h : upGAt ops N e o = some (t, .map (some m), V a, E b, none)) (hm : MapG P k Lk ok E w m es) (ha : ok a) (hl : es.length ≤ 1000000) (hR : ∀ w', Fr [m] w w' → R w w')
  (kk : ∀ w', MapG P k Lk ok E w' m (putG es a b) → Fr [m] w w' → WO S N y e w') : WO S N x e w := by
 unfold upGAt at h
 cases ho : onB ops N e o with
 | false => rw [ho] at h; cases h
 | true =>
  rw [ho] at h
  simp only [cond_true] at h
  split at h
  ·
   rename_i t' z' u v hop
   simp only [Option.some.injEq, Prod.mk.injEq] at h
   obtain ⟨rfl, hz, hu, hv, hd⟩ := h
   obtain ⟨w', h1, h2, h3⟩ := hm.up M hl ha b
   have hF := Fr.of_turnedG h3
   refine WO.on hT ho fun a' ha' h4 h5 _ Q => ?_
   have hrun : (execOp (ev e) o).run P w = .ok .skip w' := by
    unfold execOp
    simp only [hop, hz, hu, hv, Sem.run_bind, h1, Result.andThen_ok, Sem.run_pure]
   simp only [Oper.wp, h4, hrun, Oper.upon]
   have hp := ha'.put o.dst undef h5
   rw [hd] at hp ⊢
   exact ⟨hR _ hF, kk w' h2 hF _ hp⟩
  ·
   cases h
def dlGAt (ops : Array Oper) (N : Nat) (e : Env) (o : Oper) : Option (TypeId × TypeId × Value × Value × Option Tmp) :=
 bif onB ops N e o then
  match o.op with
  | .call { callee := .builtin .delete, args := ⟨[z, u]⟩, argTypes := ⟨[t, k]⟩ } => some (t, k, ev e z, ev e u, o.dst)
  | _ => none
 else none
theorem WO.dlG (hT : TkE P ops R S x o y) (M : GT P t k el V Lk ok E z) (a : α) {dd : Option Tmp} (h : dlGAt ops N e o = some (t, k, .map (some m), V a, dd)) (hm : MapG P k Lk ok E w m es) (ha : ok a)
  (hR : ∀ w', Fr [m] w w' → R w w') (kk : ∀ w', MapG P k Lk ok E w' m (es.filter fun e => !decide (e.1 = a)) → Fr [m] w w' → WO S N y (putE e dd (.tuple #[])) w') : WO S N x e w := by
 unfold dlGAt at h
 cases ho : onB ops N e o with
 | false => rw [ho] at h; cases h
 | true =>
  rw [ho] at h
  simp only [cond_true] at h
  split at h
  ·
   rename_i z' u t' k' hop
   simp only [Option.some.injEq, Prod.mk.injEq] at h
   obtain ⟨rfl, rfl, hz, hu, hd⟩ := h
   obtain ⟨w', h1, h2, h3⟩ := hm.del M ha o.type
   have hF := Fr.of_turnedG h3
   refine WO.on hT ho fun a' ha' h4 h5 _ Q => ?_
   have hrun : (execOp (ev e) o).run P w = .ok (.value (.tuple #[])) w' := by
    unfold execOp
    simp only [hop, resolve, invoke, builtin, Sem.run_bind, Sem.run_pure, Result.andThen_ok, List.map_toArray, List.map_cons, List.map_nil, hz, hu, h1]
   simp only [Oper.wp, h4, hrun, Oper.upon]
   have hp := ha'.put o.dst (.tuple #[]) h5
   rw [hd] at hp ⊢
   exact ⟨hR _ hF, kk w' h2 hF _ hp⟩
  ·
   cases h
def lnGAt (ops : Array Oper) (N : Nat) (e : Env) (o : Oper) : Option (TypeId × Value × Option Tmp) :=
 bif onB ops N e o then
  match o.op with
  | .call { callee := .builtin .len, args := ⟨[z]⟩, argTypes := ⟨[t]⟩ } => some (t, ev e z, o.dst)
  | _ => none
 else none
theorem lnGAt_run {v : Value} {d : Option Tmp} {n : Int} {w' : World} (h : lnGAt ops N e o = some (t, v, d)) (hr : (Builtin.len_ #[t] o.type #[v]).run P w' = .ok (.int .i64 n) w') : onB ops N e o = true ∧ (execOp (ev e) o).run P w' = .ok (.value (.int .i64 n)) w' ∧ o.dst = d := by
 unfold lnGAt at h
 cases ho : onB ops N e o with
 | false => rw [ho] at h; cases h
 | true =>
  rw [ho] at h
  simp only [cond_true] at h
  split at h
  ·
   rename_i z' t' hop
   simp only [Option.some.injEq, Prod.mk.injEq] at h
   obtain ⟨rfl, hz, hd⟩ := h
   refine ⟨rfl, ?_, hd⟩
   unfold execOp
   simp only [hop, resolve, invoke, builtin, Sem.run_bind, Sem.run_pure, Result.andThen_ok, List.map_toArray, List.map_cons, List.map_nil, hz, hr]
  ·
   cases h
theorem lnGAt_on {v : Value} {d : Option Tmp} (h : lnGAt ops N e o = some (t, v, d)) : onB ops N e o = true ∧ o.dst = d := by
 unfold lnGAt at h
 cases ho : onB ops N e o with
 | false => rw [ho] at h; cases h
 | true =>
  rw [ho] at h
  simp only [cond_true] at h
  split at h
  ·
   simp only [Option.some.injEq, Prod.mk.injEq] at h
   exact ⟨rfl, h.2.2⟩
  ·
   cases h
theorem WO.lnG (hT : TkS P ops R S x o y) (d : Nat) (n : Nat) (hu : P.underlying t = some (.map k el)) (h : lnGAt ops N e o = some (t, .map (some m), some d)) (hm : ∀ w', R w w' → MapG P k Lk ok E w' m es) (hn : es.length = n) (kk : WO S N y ((d, .int .i64 (n : Int)) :: e) w) : WO S N x e w := by
 obtain ⟨ho, hd⟩ := lnGAt_on h
 subst hn
 exact WO.val hT ho (v := .int .i64 (es.length : Int)) (fun w' hR => (lnGAt_run h ((hm w' hR).len hu o.type)).2.1) (by rw [hd]; exact kk)
theorem WO.lnNS (hT : TkS P ops R S x o y) (d : Nat) (hu : P.underlying t = some (.map k el)) (h : lnGAt ops N e o = some (t, .map none, some d)) (kk : WO S N y ((d, .int .i64 0) :: e) w) : WO S N x e w := by
 obtain ⟨ho, hd⟩ := lnGAt_on h
 exact WO.val hT ho (v := .int .i64 0) (fun w' _ => (lnGAt_run h (Maps.len_nil hu o.type)).2.1) (by rw [hd]; exact kk)
def mmGAt (ops : Array Oper) (N : Nat) (e : Env) (o : Oper) : Option (Option Tmp) :=
 bif onB ops N e o then
  match o.op with
  | .makeMap _ none => some o.dst
  | _ => none
 else none
theorem WO.mmG (hT : TkE P ops R S x o y) (d : Nat) (k : TypeId) (Lk : α → Lit) (ok : α → Prop) (E : β → Value) (h : mmGAt ops N e o = some (some d)) (hR : ∀ w', Fr [] w w' → R w w') (kk : ∀ g w', MapG P k Lk ok E w' g [] → Fr [] w w' → w.heap.size ≤ g → g < w'.heap.size → WO S N y ((d, .map (some g)) :: e) w') : WO S N x e w := by
 unfold mmGAt at h
 cases ho : onB ops N e o with
 | false => rw [ho] at h; cases h
 | true =>
  rw [ho] at h
  simp only [cond_true] at h
  split at h
  ·
   rename_i t hop
   simp only [Option.some.injEq] at h
   refine WO.on hT ho fun a ha h4 h5 _ Q => ?_
   have hrun : (execOp (ev e) o).run P w = .ok (.value (.map (some w.heap.size))) (w.alloc (.map #[] 0)) := by
    unfold execOp
    simp [hop, Instr.makeMap, newObj, Sem.run, World.alloc, -World.alloc_eq]
   simp only [Oper.wp, h4, hrun, Oper.upon]
   have hF := (Fr.refl [] w).alloc (.map #[] 0)
   have hp := ha.put o.dst (.map (some w.heap.size)) h5
   rw [h] at hp ⊢
   exact ⟨hR _ hF, kk _ _ (MapG.made w) hF (Nat.le_refl _) (by rw [size_alloc]; omega) _ hp⟩
  ·
   cases h
def rgGAt (ops : Array Oper) (N : Nat) (e : Env) (o : Oper) : Option (TypeId × Value × Option Tmp) :=
 bif onB ops N e o then
  match o.op with
  | .range t z => some (t, ev e z, o.dst)
  | _ => none
 else none
theorem WO.rgG (hT : TkE P ops R S x o y) (d : Nat) (M : GT P t k el V Lk ok E z) (h : rgGAt ops N e o = some (t, .map (some m), some d)) (hm : MapG P k Lk ok E w m es) (hR : ∀ w', Fr [] w w' → R w w')
  (kk : ∀ r w', RngG P k Lk ok E w' m r es es → Fr [] w w' → w.heap.size ≤ r → r < w'.heap.size → WO S N y ((d, .pointer (some ⟨r, 0, none⟩)) :: e) w') : WO S N x e w := by
 unfold rgGAt at h
 cases ho : onB ops N e o with
 | false => rw [ho] at h; cases h
 | true =>
  rw [ho] at h
  simp only [cond_true] at h
  split at h
  ·
   rename_i t' z' hop
   simp only [Option.some.injEq, Prod.mk.injEq] at h
   obtain ⟨rfl, hz, hd⟩ := h
   obtain ⟨hok, l, hl, hm⟩ := hm
   obtain ⟨w', h1, h2, h3, h4⟩ := World.ownsMap.range hm M.ks.keyed M.t
   have hF : Fr [] w w' := Fr.of_grown h3 (fun j hj => by cases hj)
   refine WO.on hT ho fun a ha h5 h6 _ Q => ?_
   have hrun : (execOp (ev e) o).run P w = .ok (.value (.pointer (some ⟨w.heap.size, 0, none⟩))) w' := by
    unfold execOp
    simp only [hop, hz, Sem.run_bind, h1, Result.andThen_ok, Sem.run_pure]
   simp only [Oper.wp, h5, hrun, Oper.upon]
   have hp := ha.put o.dst (.pointer (some ⟨w.heap.size, 0, none⟩)) h6
   rw [hd] at hp ⊢
   refine ⟨hR _ hF, kk _ _ ⟨hok, l, _, _, hl, h2, ?_⟩ hF (Nat.le_refl _) (by omega) _ hp⟩
   symm
   rw [List.filter_eq_self]
   intro e he
   rw [has_l M.ks hok hl (hok e he)]
   exact List.any_eq_true.2 ⟨e, he, by simp⟩
  ·
   cases h
def nxGAt (ops : Array Oper) (N : Nat) (e : Env) (o : Oper) : Option (Value × Option Tmp) :=
 bif onB ops N e o then
  match o.op with
  | .next z false => some (ev e z, o.dst)
  | _ => none
 else none
def EntG (P : Program) (w : World) (r : Nat) (kv vv : Value) : Prop := (Instr.entry (.pointer (some ⟨r, 0, none⟩))).run P w = .ok (.tuple #[kv, vv]) w
theorem WO.nxG (hT : TkE P ops R S x o y) (d : Nat) (M : GT P t k el V Lk ok E z) {r : Nat} {td : List (α × β)} (h : nxGAt ops N e o = some (.pointer (some ⟨r, 0, none⟩), some d)) (hm : RngG P k Lk ok E w m r es td) (hR : ∀ w', Fr [r] w w' → R w w')
  (k0 : td = [] → WO S N y ((d, .tuple #[.bool false]) :: e) w)
  (kk : ∀ q w', q ∈ td → RngG P k Lk ok E w' m r es (td.filter fun e => !decide (e.1 = q.1)) → EntG P w' r (V q.1) (E q.2) → Fr [r] w w' → w'.heap.size = w.heap.size → WO S N y ((d, .tuple #[.bool true, V q.1, E q.2]) :: e) w') : WO S N x e w := by
 unfold nxGAt at h
 cases ho : onB ops N e o with
 | false => rw [ho] at h; cases h
 | true =>
  rw [ho] at h
  simp only [cond_true] at h
  split at h
  ·
   rename_i z' hop
   simp only [Option.some.injEq, Prod.mk.injEq] at h
   obtain ⟨hz, hd⟩ := h
   obtain ⟨hok, l, left, cnt, hl, h1, h2⟩ := hm
   rcases h1.next M.ks.keyed o.type with ⟨_, h3, h4⟩ | ⟨key, v, kl, yy, w', cnt', h3, h4, h5, h6, h7, h8, _, h9, h10, h11⟩
   ·
    refine WO.on hT ho fun a ha h5 h6 _ Q => ?_
    have hrun : (execOp (ev e) o).run P w = .ok (.value (.tuple #[.bool false])) w := by
     unfold execOp
     simp only [hop, hz, Sem.run_bind, h4, Result.andThen_ok, Sem.run_pure]
    simp only [Oper.wp, h5, hrun, Oper.upon]
    have hp := ha.put o.dst (.tuple #[.bool false]) h6
    rw [hd] at hp ⊢
    refine ⟨hR _ (Fr.refl [r] w), k0 ?_ _ hp⟩
    rw [h2]
    exact List.filter_eq_nil_iff.2 (fun e _ => by rw [h3]; simp)
   ·
    obtain ⟨q, hq, hqk, hqb⟩ : ∃ q, q ∈ es ∧ Lk q.1 = kl ∧ yy.1 = .held q.2 := by
     have h12 := h6 (.lit (.bool true))
     have h13 := h6 (.lit (.bool false))
     unfold DataW.atKey at h12 h13
     simp only at h12 h13
     cases hf : l.find? (fun p => p.1.sameKey kl) with
     | none => rw [hf] at h12 h13; simp only at h12 h13; rw [← h12] at h13; simp at h13
     | some p =>
      rw [hf] at h12
      simp only at h12
      obtain ⟨q, hq, rfl⟩ := List.mem_map.1 (hl.mem_iff.1 (List.mem_of_find?_eq_some hf))
      exact ⟨q, hq, WideAt.sameKey_eq (by simpa [enM] using List.find?_some hf), h12.symm⟩
    subst hqk
    have hkey : key = V q.1 := M.ks.keyed.inj h3 (M.ks.key q.1 (hok q hq))
    have hv : v = E q.2 := elR_held (ps := yy.2) (by rw [h5, ← hqb])
    subst hkey hv
    have hF := Fr.of_turnedG h9
    refine WO.on hT ho fun a ha h12 h13 _ Q => ?_
    have hrun : (execOp (ev e) o).run P w = .ok (.value (.tuple #[.bool true, V q.1, E q.2])) w' := by
     unfold execOp
     simp only [hop, hz, Sem.run_bind, h7, Result.andThen_ok, Sem.run_pure]
    simp only [Oper.wp, h12, hrun, Oper.upon]
    have hp := ha.put o.dst (.tuple #[.bool true, V q.1, E q.2]) h13
    rw [hd] at hp ⊢
    refine ⟨hR _ hF, kk q w' ?_ ⟨hok, l, _, _, hl, h8, ?_⟩ h11 hF h10 _ hp⟩
    ·
     rw [h2]
     exact List.mem_filter.2 ⟨hq, h4⟩
    ·
     rw [h2, List.filter_filter]
     refine List.filter_congr fun e he => ?_
     rw [same_l M.ks hok (hok q hq) e he, Bool.and_comm]
  ·
   cases h
def enGAt (ops : Array Oper) (N : Nat) (e : Env) (o : Oper) : Option (Value × Option Tmp) :=
 bif onB ops N e o then
  match o.op with
  | .entry z => some (ev e z, o.dst)
  | _ => none
 else none
theorem WO.enG (hT : TkS P ops R S x o y) (d : Nat) {r : Nat} {kv vv : Value} (h : enGAt ops N e o = some (.pointer (some ⟨r, 0, none⟩), some d)) (hE : ∀ w', R w w' → EntG P w' r kv vv) (kk : WO S N y ((d, .tuple #[kv, vv]) :: e) w) : WO S N x e w := by
 unfold enGAt at h
 cases ho : onB ops N e o with
 | false => rw [ho] at h; cases h
 | true =>
  rw [ho] at h
  simp only [cond_true] at h
  split at h
  ·
   rename_i u hop
   simp only [Option.some.injEq, Prod.mk.injEq] at h
   obtain ⟨hz, hd⟩ := h
   refine WO.val hT ho (v := .tuple #[kv, vv]) (fun w' hR => ?_) (by rw [hd]; exact kk)
   have := hE w' hR
   unfold EntG at this
   unfold execOp
   simp only [hop, hz, Sem.run_bind, this, Result.andThen_ok, Sem.run_pure]
  ·
   cases h
end
def Vi (j : Int) : Value := .int .i64 j
def Li (j : Int) : Lit := .int .i64 j
def oki (j : Int) : Prop := -9223372036854775808 ≤ j ∧ j ≤ 9223372036854775807
theorem ks_int {P : Program} {k : TypeId} (h : P.underlying k = some (.int .i64)) : KS P k Vi Li oki where
 keyed := int_keyed h
 key a ha := keyOf_int_mk h (by
  have : IntKind.i64.min = -9223372036854775808 := by decide
  have : IntKind.i64.max = 9223372036854775807 := by decide
  unfold oki at ha
  simp [Lit.wf]
  omega)
 inj a b h := by unfold Vi at h; cases h; rfl
def Em (b : Option Nat) : Value := .map b
theorem em_inj (a b : Option Nat) (h : Em a = Em b) : a = b := by unfold Em at h; cases h; rfl
end Go.Proofs.YtdhonbahpcmmnaaGreatDoor.Eng
end
