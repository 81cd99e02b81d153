/- How the arguments of a statement are opened: whatever reads as a type is of that type's kind. Words for the rows. -/
import Derived.Test.YtdhonbahpcmmnaaDoorWMore
import Derived.ChangeSlices
import Derived.SizedLaws
import Derived.WalkKit
import Derived.ProofKit
import Derived.Deep.Slices
set_option linter.unusedVariables false
namespace Go.Proofs.YtdhonbahpcmmnaaDoor.Opens
open Go.ChangeShapes Go.WideShapes Go.RowKit Go.Proofs.YtdhonbahpcmmnaaDoorW.PrintWords Go.Proofs.YtdhonbahpcmmnaaDoorW.PrintLast
def Opens (P : Program) {α : Type} (d : Kd α) (good : α → Prop) (t : TypeId) : Prop :=
 ∀ (H : Type) (enc : TypeId × Value → H) (W : World) (base : Nat) (spare : Nat → Bool) (held : Bool) (fuel : Nat) (cs : List Value) (x : DataW H × List MemPlace),
  DataW.trod enc P W base spare held fuel t cs = some x → ∃ a, d.K W a cs ∧ good a
theorem opens_int {P : Program} {t : TypeId} {k : IntKind} (ht : P.underlying t = some (.int k)) : Opens P (Kd.int k) (fun x => (Lit.int k x).wf = true) t := by
 intro H enc W base spare held fuel cs x h
 obtain ⟨n, rfl, _, hw⟩ := DataW.trod_int ht h
 exact ⟨n, rfl, hw⟩
theorem opens_string {P : Program} {t : TypeId} (ht : P.underlying t = some .string) : Opens P Kd.string (fun s => s.size ≤ 9223372036854775807) t := by
 intro H enc W base spare held fuel cs x h
 obtain ⟨s, rfl, _, hs⟩ := DataW.trod_string ht h
 exact ⟨s, rfl, hs⟩
theorem opens_slice {P : Program} {t e : TypeId} {α : Type} {d : Kd α} {good : α → Prop} (ht : P.underlying t = some (.slice e)) (hc : P.cellsOf e = d.sz) (he : Opens P d good e) :
  Opens P (Kd.slice e d) (fun xs => xs.length ≤ 9223372036854775807 ∧ ∀ x ∈ xs, good x) t := by
 intro H enc W base spare held fuel cs x h
 rcases Go.Deep.open_slice ht h with ⟨rfl, _⟩ | ⟨a, len, cap, m, n, D, Pl, rfl, _, hl, hm, hmm, _, hx⟩
 ·
  exact ⟨[], ⟨none, 0, rfl, Nat.le_refl _, Kd.C_nil _ _⟩, by simp, fun x hx => by simp at hx⟩
 ·
  have hlm : len ≤ m := by rw [hmm]; split <;> omega
  have hone : ∀ i, i < len → ∃ (b : α) (cs' : List Value), W.cells? base (a.add (i * P.cellsOf e)) (P.cellsOf e) = some cs' ∧ d.K W b cs' ∧ good b := by
   intro i hi
   obtain ⟨cs', h1, h2⟩ := hx i (by omega)
   obtain ⟨b, hk, hg⟩ := he H enc W base spare held n cs' _ h2
   exact ⟨b, cs', h1, hk, hg⟩
  have hlist : ∀ j, j ≤ len → ∃ l : List α, l.length = j ∧ ∀ i b, l[i]? = some b → ∃ cs', W.cells? base (a.add (i * P.cellsOf e)) (P.cellsOf e) = some cs' ∧ d.K W b cs' ∧ good b := by
   intro j
   induction j with
   | zero => intro _; exact ⟨[], rfl, fun i b hb => by simp at hb⟩
   | succ j ih =>
    intro hj
    obtain ⟨l, hl1, hl2⟩ := ih (by omega)
    obtain ⟨b, cs', h1, h2, h3⟩ := hone j (by omega)
    refine ⟨l ++ [b], by simp [hl1], fun i b' hb => ?_⟩
    by_cases hi : i < j
    ·
     rw [List.getElem?_append_left (by omega)] at hb
     exact hl2 i b' hb
    ·
     have hij : i = j := by
      have := (List.getElem?_eq_some_iff.1 hb).1
      simp [hl1] at this
      omega
     subst hij
     rw [List.getElem?_append_right (by omega), hl1] at hb
     simp at hb
     subst hb
     exact ⟨cs', h1, h2, h3⟩
  obtain ⟨l, hl1, hl2⟩ := hlist len (Nat.le_refl _)
  unfold maxLen at hm
  refine ⟨l, ⟨some a, cap, by rw [hl1], by omega, rfl, by omega, fun _ => ⟨a, rfl, fun j p hp => ?_⟩⟩, by omega, fun y hy => ?_⟩
  ·
   obtain ⟨cs', h1, h2, _⟩ := hl2 j p hp
   obtain ⟨_, hlen, hcell⟩ := World.cells?_some h1
   refine ⟨cs', by rw [hlen, hc], h2, fun i u hu => ?_⟩
   rw [← hc]
   have hi : i < P.cellsOf e := by
    have := (List.getElem?_eq_some_iff.1 hu).1
    omega
   have := hcell i hi
   rw [← Go.Deep.add_add, this]
   exact hu
  ·
   obtain ⟨j, hj, rfl⟩ := List.getElem_of_mem hy
   obtain ⟨_, _, _, hg⟩ := hl2 j _ (List.getElem?_eq_getElem hj)
   exact hg
def OpensF (P : Program) {α : Type} (d : Kd α) (good : α → Prop) (fs : List Field) (off : Nat) : Prop :=
 ∀ (H : Type) (enc : TypeId × Value → H) (W : World) (base : Nat) (spare : Nat → Bool) (held : Bool) (fuel : Nat) (cs : List Value),
  (∀ f ∈ fs, ∃ y, DataW.trod enc P W base spare held fuel f.type ((cs.drop f.offset).take (P.cellsOf f.type)) = some y) → cs.length = off + d.sz → ∃ a, d.K W a (cs.drop off) ∧ good a
theorem opensF_one {P : Program} {α : Type} {d : Kd α} {good : α → Prop} {f : Field} {off : Nat} (ho : f.offset = off) (hc : P.cellsOf f.type = d.sz) (h : Opens P d good f.type) : OpensF P d good [f] off := by
 intro H enc W base spare held fuel cs hf hlen
 obtain ⟨y, hy⟩ := hf f (List.mem_singleton.2 rfl)
 rw [ho, hc, List.take_of_length_le (by simp; omega)] at hy
 exact h H enc W base spare held fuel _ _ hy
theorem opensF_cons {P : Program} {α β : Type} {d : Kd α} {d' : Kd β} {good : α → Prop} {good' : β → Prop} {f : Field} {fs : List Field} {off : Nat} (ho : f.offset = off) (hc : P.cellsOf f.type = d.sz) (h : Opens P d good f.type)
  (hr : OpensF P d' good' fs (off + d.sz)) : OpensF P (Kd.pair d d') (fun x => good x.1 ∧ good' x.2) (f :: fs) off := by
 intro H enc W base spare held fuel cs hf hlen
 have hlen' : cs.length = off + (d.sz + d'.sz) := hlen
 obtain ⟨y, hy⟩ := hf f List.mem_cons_self
 rw [ho, hc] at hy
 obtain ⟨a, ha, hga⟩ := h H enc W base spare held fuel _ _ hy
 obtain ⟨b, hb, hgb⟩ := hr H enc W base spare held fuel cs (fun f' hf' => hf f' (List.mem_cons_of_mem _ hf')) (by omega)
 refine ⟨(a, b), ⟨_, _, ?_, ha, hb⟩, hga, hgb⟩
 rw [← List.drop_drop, List.take_append_drop]
theorem opens_struct {P : Program} {α β : Type} {d : Kd α} {good : α → Prop} {t : TypeId} {fs : Array Field} (f : β → α) (g : α → β) (hfg : ∀ a, f (g a) = a) (ht : P.underlying t = some (.struct fs)) (hc : P.cellsOf t = d.sz) (h : OpensF P d good fs.toList 0) :
  Opens P (Kd.iso d f) (fun b => good (f b)) t := by
 intro H enc W base spare held fuel cs x hx
 obtain ⟨xs, n, rfl, _, hlen, hxl, hf⟩ := DataW.trod_struct ht hx
 obtain ⟨a, ha, hga⟩ := h H enc W base spare held n cs (fun fd hfd => by
  obtain ⟨i, hi, rfl⟩ := List.getElem_of_mem hfd
  have hi' : i < fs.size := by simpa using hi
  have h1 := hf i fs[i] (by simp [hi'])
  have h2 : i < xs.length := by omega
  rw [List.getElem?_eq_getElem h2] at h1
  exact ⟨_, by simpa using h1⟩) (by omega)
 refine ⟨g a, ?_, ?_⟩
 ·
  show d.K W (f (g a)) cs
  rw [hfg]
  simpa using ha
 ·
  show good (f (g a))
  rw [hfg]
  exact hga
theorem arg_struct {P : Program} {t : TypeId} {α : Type} {d : Kd α} {good : α → Prop} {fs : Array Field} (ht : P.underlying t = some (.struct fs)) (ho : Opens P d good t)
  {H : Type} {enc : TypeId × Value → H} {W : World} {base b0 : Nat} {spare : Nat → Bool} {held : Bool} {r : Reach} {v : Value} {x : DataW H} {ps : List MemPlace} (hv : Value.okWide P W r b0 t v) (h : DataW.Trod enc P W base spare held t v x ps) :
  ∃ (a : α) (cs : List Value), v = .agg cs.toArray ∧ d.K W a cs ∧ good a := by
 obtain ⟨cs, rfl, hsz⟩ := okWide_struct ht hv
 obtain ⟨fuel, hf⟩ := h
 obtain ⟨a, ha, hg⟩ := ho H enc W base spare held fuel _ _ hf
 exact ⟨a, cs.toList, by simp, by simpa [Value.cells] using ha, hg⟩
end Go.Proofs.YtdhonbahpcmmnaaDoor.Opens
