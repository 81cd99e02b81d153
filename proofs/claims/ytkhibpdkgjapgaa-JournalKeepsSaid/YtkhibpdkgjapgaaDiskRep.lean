/- Layer 8: a disk in memory: its own cells, its map, each part's cells, each part's bytes. Words for the walks. -/
import Derived.Test.YtkhibpdkgjapgaaMap
import Derived.Test.YtkhibpdkgjapgaaDiskPure
import Derived.Test.YtkhibpdkgjapgaaProg
set_option linter.unusedVariables false
set_option linter.unusedSimpArgs false
namespace Go.Proofs.Ytkhibpdkgjapgaa.Disk
open Go Go.RowKit Go.Proofs.Ytkhibpdkgjapgaa Go.Proofs.Ytkhibpdkgjapgaa.Eng Go.Proofs.YtkhibpdkgjapgaaW.PrintWords
/-- a part in memory: its cells lie in block k; v: the slice of its bytes, F: their block -/
structure GP where
  n : Int
  b : List UInt8
  s : Nat
  k : Nat
  v : Value
  F : List Nat
def GP.pt (e : GP) : Pt := ⟨e.n, e.b, e.s⟩
def GP.foot (e : GP) : List Nat := e.k :: e.F
def foot (es : List GP) : List Nat := es.flatMap GP.foot
def GPAt (w : World) (e : GP) : Prop := Blk w e.k #[e.v, .int .i64 (e.s : Int)] 69 ∧ OwnX 5 1 w e.F e.v (e.b.map cB)
def ents (es : List GP) : List (Int × Nat) := es.map fun e => (e.n, e.k)
structure GDm (w : World) (g m : Nat) (room : Int) (down : Bool) (es : List GP) : Prop where
  blk : Blk w g #[.int .i64 room, .map (some m), .bool down] 65
  map : MapI Try.prog 3 w m (ents es)
  parts : ∀ e ∈ es, GPAt w e
  nodup : (g :: m :: foot es).Nodup
/-- the disk at g; F: all its blocks -/
def GDisk (w : World) (g : Nat) (F : List Nat) (d : Dk) : Prop := ∃ m es, F = g :: m :: foot es ∧ d.l = es.map GP.pt ∧ GDm w g m d.room d.down es
theorem GPAt.keep {w w1 : World} {S : List Nat} {e : GP} (h : GPAt w e) (k : Fr S w w1) (hn : ∀ y ∈ e.foot, y ∉ S) : GPAt w1 e :=
  ⟨h.1.keep k (hn _ (by simp [GP.foot])), h.2.keep k fun y hy => hn y (by simp [GP.foot, hy])⟩
theorem GPAt.lt {w : World} {e : GP} (h : GPAt w e) : ∀ y ∈ e.foot, y < w.heap.size := by
  intro y hy
  rcases List.mem_cons.1 hy with rfl | hy
  · exact h.1.lt
  · exact h.2.lt y hy
theorem mem_foot {es : List GP} {y : Nat} : y ∈ foot es ↔ ∃ e ∈ es, y ∈ e.foot := by
  unfold foot
  exact List.mem_flatMap
theorem foot_app (a b : List GP) : foot (a ++ b) = foot a ++ foot b := by
  unfold foot
  exact List.flatMap_append
theorem foot_cons (e : GP) (b : List GP) : foot (e :: b) = e.foot ++ foot b := rfl
theorem GDm.keep {w w1 : World} {S : List Nat} {g m : Nat} {room : Int} {down : Bool} {es : List GP} (h : GDm w g m room down es) (k : Fr S w w1) (hn : ∀ y ∈ g :: m :: foot es, y ∉ S) : GDm w1 g m room down es :=
  ⟨h.blk.keep k (hn g (by simp)), h.map.keep k (hn m (by simp)), fun e he => (h.parts e he).keep k fun y hy => hn y (by simp [mem_foot.2 ⟨e, he, hy⟩]), h.nodup⟩
theorem GDm.lt {w : World} {g m : Nat} {room : Int} {down : Bool} {es : List GP} (h : GDm w g m room down es) : ∀ y ∈ g :: m :: foot es, y < w.heap.size := by
  intro y hy
  rcases List.mem_cons.1 hy with rfl | hy
  · exact h.blk.lt
  · rcases List.mem_cons.1 hy with rfl | hy
    · exact h.map.lt
    · obtain ⟨e, he, hy⟩ := mem_foot.1 hy
      exact (h.parts e he).lt y hy
theorem GDisk.keep {w w1 : World} {S : List Nat} {g : Nat} {F : List Nat} {d : Dk} (h : GDisk w g F d) (k : Fr S w w1) (hn : ∀ y ∈ F, y ∉ S) : GDisk w1 g F d := by
  obtain ⟨m, es, rfl, hl, hd⟩ := h
  exact ⟨m, es, rfl, hl, hd.keep k hn⟩
theorem GDisk.lt {w : World} {g : Nat} {F : List Nat} {d : Dk} (h : GDisk w g F d) : ∀ y ∈ F, y < w.heap.size := by
  obtain ⟨m, es, rfl, hl, hd⟩ := h
  exact hd.lt
theorem ents_has (es : List GP) (n : Int) : (ents es).any (fun e => decide (e.1 = n)) = hasL (es.map GP.pt) n := by
  unfold ents hasL
  simp only [List.any_map, Function.comp_def, GP.pt]
  rfl
theorem ents_find {x y : List GP} {e : GP} {n : Int} (hx : hasL (x.map GP.pt) n = false) (he : e.n = n) : (ents (x ++ e :: y)).find? (fun e => decide (e.1 = n)) = some (n, e.k) := by
  unfold ents
  rw [List.map_append, List.find?_append]
  have : (x.map fun e => (e.n, e.k)).find? (fun e => decide (e.1 = n)) = none := List.find?_eq_none.2 (fun q hq => by
    obtain ⟨p, hp, rfl⟩ := List.mem_map.1 hq
    have := hasL_no.1 hx p.pt (List.mem_map.2 ⟨p, hp, rfl⟩)
    have h2 : ¬ p.n = n := this
    simpa using h2)
  rw [this]
  simp [he]
theorem lkV_at {x y : List GP} {e : GP} {n : Int} (hx : hasL (x.map GP.pt) n = false) (he : e.n = n) : lkV (ents (x ++ e :: y)) n = .pointer (some ⟨e.k, 0, none⟩) := by
  unfold lkV
  rw [ents_find hx he]
/-- the part of a number, as it lies in memory -/
theorem gpart_at {es : List GP} {n : Int} (hr : Rise (es.map GP.pt)) (h : hasL (es.map GP.pt) n = true) : ∃ x e y, es = x ++ e :: y ∧ e.n = n ∧ hasL (x.map GP.pt) n = false ∧ hasL (y.map GP.pt) n = false := by
  obtain ⟨p, hp, hn⟩ := hasL_iff.1 h
  obtain ⟨e, he, rfl⟩ := List.mem_map.1 hp
  obtain ⟨x, y, rfl⟩ := List.append_of_mem he
  rw [List.map_append, List.map_cons] at hr
  refine ⟨x, e, y, rfl, hn, hasL_no.2 fun q hq => ?_, hasL_no.2 fun q hq => ?_⟩
  · have := (List.pairwise_append.1 hr).2.2 q hq e.pt (by simp)
    rw [← hn]
    omega
  · have := (rise_cons.1 (List.pairwise_append.1 hr).2.1).1 q hq
    rw [← hn]
    omega
/-- one part has turned -/
theorem GDm.set {w w1 : World} {S : List Nat} {g m : Nat} {room : Int} {down : Bool} {x y : List GP} {e e' : GP} (h : GDm w g m room down (x ++ e :: y)) (k : Fr S w w1) (hS : ∀ z ∈ S, z ∈ e.foot) (hn : e'.n = e.n) (hk : e'.k = e.k) (hF : ∀ z ∈ e'.F, z ∈ e.F ∨ w.heap.size ≤ z) (hFn : e'.F.Nodup) (ha : GPAt w1 e') : GDm w1 g m room down (x ++ e' :: y) := by
  have hnd := h.nodup
  have hlt := h.lt
  rw [foot_app, foot_cons] at hnd hlt
  simp only [List.nodup_cons, List.mem_cons, List.mem_append, not_or] at hnd
  obtain ⟨⟨hgm, hgx, hge, hgy⟩, ⟨hmx, hme, hmy⟩, hnd⟩ := hnd
  obtain ⟨hx, hey, hxy⟩ := List.nodup_append.1 hnd
  obtain ⟨he, hy, hey2⟩ := List.nodup_append.1 hey
  have hxe : ∀ z ∈ foot x, z ∉ e.foot := fun z hz hze => hxy z hz z (List.mem_append_left _ hze) rfl
  have hye : ∀ z ∈ foot y, z ∉ e.foot := fun z hz hze => hey2 z hze z hz rfl
  have he' : ∀ z ∈ e'.foot, z ∈ e.foot ∨ w.heap.size ≤ z := fun z hz => by
    rcases List.mem_cons.1 hz with rfl | hz
    · exact .inl (by rw [hk]; simp [GP.foot])
    · rcases hF z hz with h1 | h1
      · exact .inl (by simp [GP.foot, h1])
      · exact .inr h1
  have old : ∀ z, z < w.heap.size → z ∉ e.foot → z ∉ e'.foot := fun z hz h1 h2 => by
    rcases he' z h2 with h3 | h3
    · exact h1 h3
    · omega
  refine ⟨h.blk.keep k fun hz => hge (hS g hz), ?_, fun q hq => ?_, ?_⟩
  · have : ents (x ++ e' :: y) = ents (x ++ e :: y) := by
      unfold ents
      simp [hn, hk]
    rw [this]
    exact h.map.keep k fun hz => hme (hS m hz)
  · rcases List.mem_append.1 hq with hq | hq
    · exact (h.parts q (List.mem_append_left _ hq)).keep k fun z hz hzS => hxe z (mem_foot.2 ⟨q, hq, hz⟩) (hS z hzS)
    · rcases List.mem_cons.1 hq with rfl | hq
      · exact ha
      · exact (h.parts q (List.mem_append_right _ (List.mem_cons_of_mem _ hq))).keep k fun z hz hzS => hye z (mem_foot.2 ⟨q, hq, hz⟩) (hS z hzS)
  · have hg := hlt g (by simp)
    have hm := hlt m (by simp)
    rw [foot_app, foot_cons]
    simp only [List.nodup_cons, List.mem_cons, List.mem_append, not_or]
    refine ⟨⟨hgm, hgx, old g hg hge, hgy⟩, ⟨hmx, old m hm hme, hmy⟩, ?_⟩
    refine List.nodup_append.2 ⟨hx, List.nodup_append.2 ⟨?_, hy, fun z hz z' hz' e1 => ?_⟩, fun z hz z' hz' e1 => ?_⟩
    · refine List.nodup_cons.2 ⟨fun hz => ?_, hFn⟩
      rcases hF _ hz with h1 | h1
      · rw [hk] at h1
        exact (List.nodup_cons.1 he).1 h1
      · have := hlt e.k (by simp [GP.foot])
        rw [hk] at h1
        omega
    · subst e1
      have hz2 := hlt z (by simp [hz'])
      exact old z hz2 (hye z hz') hz
    · subst e1
      rcases List.mem_append.1 hz' with h1 | h1
      · exact old z (hlt z (by simp [hz])) (hxe z hz) h1
      · exact hxy z hz z (List.mem_append_right _ h1) rfl
theorem own_nodup {T : TypeId} {size : Nat} {w : World} {F : List Nat} {v : Value} {xs : List (List Value)} (h : OwnX T size w F v xs) : F.Nodup := by
  rcases h with ⟨rfl, _⟩ | ⟨b, cap, rfl, _⟩ <;> simp
end Go.Proofs.Ytkhibpdkgjapgaa.Disk
