/- How the arguments of a statement are opened: whatever reads as a type is of that type's kind. Words for the rows. -/
import Derived.Test.YtdhonbahpcmmnaaDoorWMore
import Derived.ChangeSlices
import Derived.SizedLaws
import Derived.WalkKit
import Derived.ProofKit
import Derived.Deep.Slices
import Derived.Test.YtdhonbahpcmmnaaDoorLinePure
import Derived.OpenShut
import Derived.Test.YtdhonbahpcmmnaaDoorSerPure
import Derived.Test.YtdhonbahpcmmnaaDoorSerL
import Derived.Test.YtdhonbahpcmmnaaDoorRuleW
section
set_option linter.unusedVariables false
namespace Go.Proofs.YtdhonbahpcmmnaaDoor.Opens
open Go.ChangeShapes Go.WideShapes Go.RowKit Go.Proofs.YtdhonbahpcmmnaaDoorW.PrintWords Go.Proofs.YtdhonbahpcmmnaaDoorW.PrintLast
def Opens (P : Program) {α : Type} (d : Kd α) (good : α → Prop) (t : TypeId) : Prop :=
 ∀ (H : Type) (enc : TypeId × Value → H) (W : World) (base : Nat) (spare : Nat → Bool) (held : Bool) (fuel : Nat) (cs : List Value) (x : DataW H × List MemPlace),
  DataW.trod enc P W base spare held fuel t cs = some x → ∃ a, d.K W a cs ∧ good a
theorem opens_int {P : Program} {t : TypeId} {k : IntKind} (ht : P.underlying t = some (.int k)) : Opens P (Kd.int k) (fun x => (Lit.int k x).wf = true) t := by
 intro H enc W base spare held fuel cs x h
 obtain ⟨n, rfl, _, hw⟩ := DataW.trod_int ht h
 exact ⟨n, rfl, hw⟩
theorem opens_string {P : Program} {t : TypeId} (ht : P.underlying t = some .string) : Opens P Kd.string (fun s => s.size ≤ 9223372036854775807) t := by
 intro H enc W base spare held fuel cs x h
 obtain ⟨s, rfl, _, hs⟩ := DataW.trod_string ht h
 exact ⟨s, rfl, hs⟩
theorem opens_slice {P : Program} {t e : TypeId} {α : Type} {d : Kd α} {good : α → Prop} (ht : P.underlying t = some (.slice e)) (hc : P.cellsOf e = d.sz) (he : Opens P d good e) :
  Opens P (Kd.slice e d) (fun xs => xs.length ≤ 9223372036854775807 ∧ ∀ x ∈ xs, good x) t := by
 intro H enc W base spare held fuel cs x h
 rcases Go.Deep.open_slice ht h with ⟨rfl, _⟩ | ⟨a, len, cap, m, n, D, Pl, rfl, _, hl, hm, hmm, _, hx⟩
 ·
  exact ⟨[], ⟨none, 0, rfl, Nat.le_refl _, Kd.C_nil _ _⟩, by simp, fun x hx => by simp at hx⟩
 ·
  have hlm : len ≤ m := by rw [hmm]; split <;> omega
  have hone : ∀ i, i < len → ∃ (b : α) (cs' : List Value), W.cells? base (a.add (i * P.cellsOf e)) (P.cellsOf e) = some cs' ∧ d.K W b cs' ∧ good b := by
   intro i hi
   obtain ⟨cs', h1, h2⟩ := hx i (by omega)
   obtain ⟨b, hk, hg⟩ := he H enc W base spare held n cs' _ h2
   exact ⟨b, cs', h1, hk, hg⟩
  have hlist : ∀ j, j ≤ len → ∃ l : List α, l.length = j ∧ ∀ i b, l[i]? = some b → ∃ cs', W.cells? base (a.add (i * P.cellsOf e)) (P.cellsOf e) = some cs' ∧ d.K W b cs' ∧ good b := by
   intro j
   induction j with
   | zero => intro _; exact ⟨[], rfl, fun i b hb => by simp at hb⟩
   | succ j ih =>
    intro hj
    obtain ⟨l, hl1, hl2⟩ := ih (by omega)
    obtain ⟨b, cs', h1, h2, h3⟩ := hone j (by omega)
    refine ⟨l ++ [b], by simp [hl1], fun i b' hb => ?_⟩
    by_cases hi : i < j
    ·
     rw [List.getElem?_append_left (by omega)] at hb
     exact hl2 i b' hb
    ·
     have hij : i = j := by
      have := (List.getElem?_eq_some_iff.1 hb).1
      simp [hl1] at this
      omega
     subst hij
     rw [List.getElem?_append_right (by omega), hl1] at hb
     simp at hb
     subst hb
     exact ⟨cs', h1, h2, h3⟩
  obtain ⟨l, hl1, hl2⟩ := hlist len (Nat.le_refl _)
  unfold maxLen at hm
  refine ⟨l, ⟨some a, cap, by rw [hl1], by omega, rfl, by omega, fun _ => ⟨a, rfl, fun j p hp => ?_⟩⟩, by omega, fun y hy => ?_⟩
  ·
   obtain ⟨cs', h1, h2, _⟩ := hl2 j p hp
   obtain ⟨_, hlen, hcell⟩ := World.cells?_some h1
   refine ⟨cs', by rw [hlen, hc], h2, fun i u hu => ?_⟩
   rw [← hc]
   have hi : i < P.cellsOf e := by
    have := (List.getElem?_eq_some_iff.1 hu).1
    omega
   have := hcell i hi
   rw [← Go.Deep.add_add, this]
   exact hu
  ·
   obtain ⟨j, hj, rfl⟩ := List.getElem_of_mem hy
   obtain ⟨_, _, _, hg⟩ := hl2 j _ (List.getElem?_eq_getElem hj)
   exact hg
def OpensF (P : Program) {α : Type} (d : Kd α) (good : α → Prop) (fs : List Field) (off : Nat) : Prop :=
 ∀ (H : Type) (enc : TypeId × Value → H) (W : World) (base : Nat) (spare : Nat → Bool) (held : Bool) (fuel : Nat) (cs : List Value),
  (∀ f ∈ fs, ∃ y, DataW.trod enc P W base spare held fuel f.type ((cs.drop f.offset).take (P.cellsOf f.type)) = some y) → cs.length = off + d.sz → ∃ a, d.K W a (cs.drop off) ∧ good a
theorem opensF_one {P : Program} {α : Type} {d : Kd α} {good : α → Prop} {f : Field} {off : Nat} (ho : f.offset = off) (hc : P.cellsOf f.type = d.sz) (h : Opens P d good f.type) : OpensF P d good [f] off := by
 intro H enc W base spare held fuel cs hf hlen
 obtain ⟨y, hy⟩ := hf f (List.mem_singleton.2 rfl)
 rw [ho, hc, List.take_of_length_le (by simp; omega)] at hy
 exact h H enc W base spare held fuel _ _ hy
theorem opensF_cons {P : Program} {α β : Type} {d : Kd α} {d' : Kd β} {good : α → Prop} {good' : β → Prop} {f : Field} {fs : List Field} {off : Nat} (ho : f.offset = off) (hc : P.cellsOf f.type = d.sz) (h : Opens P d good f.type)
  (hr : OpensF P d' good' fs (off + d.sz)) : OpensF P (Kd.pair d d') (fun x => good x.1 ∧ good' x.2) (f :: fs) off := by
 intro H enc W base spare held fuel cs hf hlen
 have hlen' : cs.length = off + (d.sz + d'.sz) := hlen
 obtain ⟨y, hy⟩ := hf f List.mem_cons_self
 rw [ho, hc] at hy
 obtain ⟨a, ha, hga⟩ := h H enc W base spare held fuel _ _ hy
 obtain ⟨b, hb, hgb⟩ := hr H enc W base spare held fuel cs (fun f' hf' => hf f' (List.mem_cons_of_mem _ hf')) (by omega)
 refine ⟨(a, b), ⟨_, _, ?_, ha, hb⟩, hga, hgb⟩
 rw [← List.drop_drop, List.take_append_drop]
theorem opens_struct {P : Program} {α β : Type} {d : Kd α} {good : α → Prop} {t : TypeId} {fs : Array Field} (f : β → α) (g : α → β) (hfg : ∀ a, f (g a) = a) (ht : P.underlying t = some (.struct fs)) (hc : P.cellsOf t = d.sz) (h : OpensF P d good fs.toList 0) :
  Opens P (Kd.iso d f) (fun b => good (f b)) t := by
 intro H enc W base spare held fuel cs x hx
 obtain ⟨xs, n, rfl, _, hlen, hxl, hf⟩ := DataW.trod_struct ht hx
 obtain ⟨a, ha, hga⟩ := h H enc W base spare held n cs (fun fd hfd => by
  obtain ⟨i, hi, rfl⟩ := List.getElem_of_mem hfd
  have hi' : i < fs.size := by simpa using hi
  have h1 := hf i fs[i] (by simp [hi'])
  have h2 : i < xs.length := by omega
  rw [List.getElem?_eq_getElem h2] at h1
  exact ⟨_, by simpa using h1⟩) (by omega)
 refine ⟨g a, ?_, ?_⟩
 ·
  show d.K W (f (g a)) cs
  rw [hfg]
  simpa using ha
 ·
  show good (f (g a))
  rw [hfg]
  exact hga
theorem arg_slice {P : Program} {t e : TypeId} {α : Type} {d : Kd α} {good : α → Prop} (ht : P.underlying t = some (.slice e)) (hc : P.cellsOf e = d.sz) (he : Opens P d good e)
  {H : Type} {enc : TypeId × Value → H} {W : World} {base : Nat} {spare : Nat → Bool} {held : Bool} {a : Option Addr} {len cap : Nat} {x : DataW H} {ps : List MemPlace} (h : DataW.Trod enc P W base spare held t (.slice a len cap) x ps) :
  ∃ l : List α, l.length = len ∧ Kd.C d W a l.length l ∧ l.length ≤ cap ∧ (l.length ≤ 9223372036854775807 ∧ ∀ x ∈ l, good x) := by
 obtain ⟨fuel, hf⟩ := h
 obtain ⟨l, ⟨A, c, hcs, hl, hC⟩, hg⟩ := opens_slice ht hc he H enc W base spare held fuel _ _ hf
 simp [Value.cells] at hcs
 obtain ⟨rfl, rfl, rfl⟩ := hcs
 exact ⟨l, rfl, hC, hl, hg⟩
theorem arg_struct {P : Program} {t : TypeId} {α : Type} {d : Kd α} {good : α → Prop} {fs : Array Field} (ht : P.underlying t = some (.struct fs)) (ho : Opens P d good t)
  {H : Type} {enc : TypeId × Value → H} {W : World} {base b0 : Nat} {spare : Nat → Bool} {held : Bool} {r : Reach} {v : Value} {x : DataW H} {ps : List MemPlace} (hv : Value.okWide P W r b0 t v) (h : DataW.Trod enc P W base spare held t v x ps) :
  ∃ (a : α) (cs : List Value), v = .agg cs.toArray ∧ d.K W a cs ∧ good a := by
 obtain ⟨cs, rfl, hsz⟩ := okWide_struct ht hv
 obtain ⟨fuel, hf⟩ := h
 obtain ⟨a, ha, hg⟩ := ho H enc W base spare held fuel _ _ hf
 exact ⟨a, cs.toList, by simp, by simpa [Value.cells] using ha, hg⟩
end Go.Proofs.YtdhonbahpcmmnaaDoor.Opens
end
section
set_option linter.unusedVariables false
set_option linter.unusedSimpArgs false
namespace Go.Proofs.YtdhonbahpcmmnaaDoor.Views
open Go Go.RowKit Go.ChangeShapes Go.WideShapes Go.Proofs.YtdhonbahpcmmnaaDoor Go.Proofs.YtdhonbahpcmmnaaDoor.Eng Go.Proofs.YtdhonbahpcmmnaaDoorW.PrintWords Go.Proofs.YtdhonbahpcmmnaaDoorW.PrintLast
theorem of_C {α : Type} {d : Kd α} {cE : α → List Value} {w : World} {A : Option Addr} {l : List α} (hs : 0 < d.sz) (hK : ∀ x cs, d.K w x cs → cs = cE x) (h : Kd.C d w A l.length l) : ∃ F, VX cE d.sz w F A l := by
 obtain ⟨_, _, h3⟩ := h
 by_cases hp : 0 < l.length
 ·
  obtain ⟨ad, rfl, hc⟩ := h3 hp
  have hcell : ∀ i x, l[i]? = some x → ∀ j u, (cE x)[j]? = some u → w.cell? (ad.add (i * d.sz + j)) = some u := by
   intro i x hx j u hu
   obtain ⟨cs, _, hk, hcell⟩ := hc i x hx
   rw [hK x cs hk] at hcell
   exact hcell j u hu
  refine ⟨[ad.block], fun y hy => ?_, fun _ => ⟨ad, rfl, by simp, hcell⟩⟩
  obtain rfl : y = ad.block := by simpa using hy
  obtain ⟨cs, hl, hk, hcell2⟩ := hc 0 l[0] (List.getElem?_eq_getElem hp)
  have := World.block_lt_of_cell? w _ (hcell2 0 _ (List.getElem?_eq_getElem (by omega)))
  have hb : (ad.add (0 * d.sz + 0)).block = ad.block := by unfold Addr.add; split <;> rfl
  rwa [hb] at this
 ·
  obtain rfl : l = [] := List.length_eq_zero_iff.1 (by omega)
  exact ⟨[], VX.nil w A⟩
def byteK : Kd UInt8 := Kd.iso (Kd.int .u8) fun b => (b.toNat : Int)
theorem bytes {w : World} {A : Option Addr} {l : List UInt8} (h : Kd.C byteK w A l.length l) : ∃ F, VX cB 1 w F A l :=
 of_C (cE := cB) (by decide) (fun x cs hk => hk) h
end Go.Proofs.YtdhonbahpcmmnaaDoor.Views
end
section
set_option linter.unusedVariables false
set_option linter.unusedSimpArgs false
namespace Go.Proofs.YtdhonbahpcmmnaaDoor.Line
open Go Go.RowKit Go.ChangeShapes Go.WideShapes Go.Proofs.YtdhonbahpcmmnaaDoor Go.Proofs.YtdhonbahpcmmnaaDoor.Eng Go.Proofs.YtdhonbahpcmmnaaDoorW.PrintWords Go.Proofs.YtdhonbahpcmmnaaDoorW.PrintLast
abbrev TK : Kd (ByteArray × ByteArray) := Kd.iso (Kd.pair Kd.string Kd.string) id
abbrev EK : Kd (ByteArray × List (ByteArray × ByteArray) × Int × Int × Int) := Kd.iso (Kd.pair Kd.string (Kd.pair (Kd.slice 53 TK) (Kd.pair (Kd.int .i64) (Kd.pair (Kd.int .i64) (Kd.int .i64))))) id
abbrev Tg : Type := ByteArray × ByteArray
abbrev EA : Type := ByteArray × List Tg × Int × Int × Int
def goodEv (a : EA) : Prop := a.1.size ≤ 9223372036854775807 ∧ (a.2.1.length ≤ 9223372036854775807 ∧ ∀ x ∈ a.2.1, x.1.size ≤ 9223372036854775807 ∧ x.2.size ≤ 9223372036854775807) ∧ (Lit.int .i64 a.2.2.1).wf = true ∧ (Lit.int .i64 a.2.2.2.1).wf = true ∧ (Lit.int .i64 a.2.2.2.2).wf = true
set_option maxRecDepth 100000 in
theorem opens_tag : Opens.Opens Tryd.prog TK (fun x => x.1.size ≤ 9223372036854775807 ∧ x.2.size ≤ 9223372036854775807) 53 := Opens.opens_struct (P := Tryd.prog) (d := Kd.pair Kd.string Kd.string) (good := fun x => x.1.size ≤ 9223372036854775807 ∧ x.2.size ≤ 9223372036854775807) (t := 53) id id (fun _ => rfl) Tryd.underlying53 (by kernel_rfl) (Opens.opensF_cons rfl (by kernel_rfl) (Opens.opens_string Tryd.underlying9) (Opens.opensF_one rfl (by kernel_rfl) (Opens.opens_string Tryd.underlying9)))
set_option maxRecDepth 100000 in
theorem opens_ev : Opens.Opens Tryd.prog EK goodEv 25 := Opens.opens_struct (P := Tryd.prog) (β := EA) (d := Kd.pair Kd.string (Kd.pair (Kd.slice 53 TK) (Kd.pair (Kd.int .i64) (Kd.pair (Kd.int .i64) (Kd.int .i64))))) (t := 25) id id (fun _ => rfl) Tryd.underlying25 (by kernel_rfl)
 (Opens.opensF_cons rfl (by kernel_rfl) (Opens.opens_string Tryd.underlying9) (Opens.opensF_cons rfl (by kernel_rfl) (Opens.opens_slice Tryd.underlying23 (by kernel_rfl) opens_tag) (Opens.opensF_cons rfl (by kernel_rfl) (Opens.opens_int Tryd.underlying3) (Opens.opensF_cons rfl (by kernel_rfl) (Opens.opens_int Tryd.underlying2) (Opens.opensF_one rfl (by kernel_rfl) (Opens.opens_int Tryd.underlying2))))))
def toEv (a : EA) : Ev := { name := bs a.1, tags := a.2.1.map fun t => (bs t.1, bs t.2), kind := a.2.2.1, value := a.2.2.2.1, time := a.2.2.2.2 }
theorem open_ev {w : World} {a : EA} {cs : List Value} (h : EK.K w a cs) : ∃ A c, cs = [.string a.1, .slice A a.2.1.length c, .int .i64 a.2.2.1, .int .i64 a.2.2.2.1, .int .i64 a.2.2.2.2] ∧ a.2.1.length ≤ c ∧ Kd.C TK w A a.2.1.length a.2.1 := by
 obtain ⟨c1, r1, rfl, h1, c2, r2, rfl, ⟨A, c, rfl, hl, hC⟩, c3, r3, rfl, h3, c4, c5, rfl, h4, h5⟩ := h
 obtain rfl : c1 = [.string a.1] := h1
 obtain rfl : c3 = [.int .i64 a.2.2.1] := h3
 obtain rfl : c4 = [.int .i64 a.2.2.2.1] := h4
 obtain rfl : c5 = [.int .i64 a.2.2.2.2] := h5
 exact ⟨A, c, rfl, hl, hC⟩
theorem vx_map {α β : Type} {cE : α → List Value} {cF : β → List Value} {size : Nat} {w : World} {F : List Nat} {A : Option Addr} {q : List α} (f : α → β) (hf : ∀ x, cF (f x) = cE x) (h : VX cE size w F A q) : VX cF size w F A (q.map f) := by
 refine ⟨h.1, fun hp => ?_⟩
 obtain ⟨ad, h1, h2, h3⟩ := h.2 (by simpa using hp)
 refine ⟨ad, h1, h2, fun i x hx => ?_⟩
 rw [List.getElem?_map] at hx
 obtain ⟨y, hy, rfl⟩ := Option.map_eq_some_iff.1 hx
 rw [hf]
 exact h3 i y hy
theorem vx_off {w : World} {F : List Nat} {A : Option Addr} {q : List (L × L)} (h : VX cT 2 w F A q) (ht : Lib.TabIs Tryd.prog w "internal/strconv.uint64pow10" .u64 Lib.pow10Tab) : ∃ F', VX cT 2 w F' A q ∧ 2 ∉ F' := by
 by_cases hp : 0 < q.length
 ·
  obtain ⟨ad, h1, h2, h3⟩ := h.get hp
  refine ⟨[ad.block], ⟨fun y hy => h.1 y (by rw [List.mem_singleton.1 hy]; exact h2), fun _ => ⟨ad, h1, by simp, h3⟩⟩, fun hm => ?_⟩
  have hb := List.mem_singleton.1 hm
  have hc := h3 0 q[0] (List.getElem?_eq_getElem hp) 0 (.string (str q[0].1)) rfl
  rw [show 0 * 2 + 0 = 0 from rfl, add_0] at hc
  have hs := World.cell?_spot hc
  obtain ⟨b, o, s⟩ := ad
  simp only at hb hs
  subst hb hs
  have := World.var?_cell (P := Tryd.prog) (g := 2) (by kernel_rfl) ht o
  rw [hc] at this
  rw [List.getElem?_toArray, List.getElem?_map] at this
  cases hz : Lib.pow10Tab[o]? with
  | none => rw [hz] at this; cases this
  | some z => rw [hz] at this; cases this
 ·
  obtain rfl : q = [] := List.length_eq_zero_iff.1 (by omega)
  exact ⟨[], VX.nil w A, by simp⟩
theorem ev_view {w : World} {A : Option Addr} {a : EA} (hC : Kd.C TK w A a.2.1.length a.2.1) (ht : Lib.TabIs Tryd.prog w "internal/strconv.uint64pow10" .u64 Lib.pow10Tab) : ∃ F, VX cT 2 w F A (toEv a).tags ∧ 2 ∉ F := by
 obtain ⟨F, HV⟩ := Views.of_C (cE := fun t : Tg => [.string t.1, .string t.2]) (by decide) (fun x cs hk => by
  obtain ⟨c1, c2, rfl, h1, h2⟩ := hk
  obtain rfl : c1 = [.string x.1] := h1
  obtain rfl : c2 = [.string x.2] := h2
  rfl) hC
 exact vx_off (vx_map (cF := cT) (fun t : Tg => (bs t.1, bs t.2)) (fun x => by show [Value.string (str (bs x.1)), Value.string (str (bs x.2))] = _; rw [str_bs, str_bs]) HV) ht
theorem ev_lens {a : EA} (h : goodEv a) : ∀ t ∈ (toEv a).tags, t.1.length ≤ 9223372036854775807 ∧ t.2.length ≤ 9223372036854775807 := by
 intro t ht
 obtain ⟨x, hx, rfl⟩ := List.mem_map.1 ht
 exact h.2.1.2 x hx
end Go.Proofs.YtdhonbahpcmmnaaDoor.Line
end
section
set_option linter.unusedVariables false
namespace Go.Proofs.YtdhonbahpcmmnaaDoor.Line
open Go Go.RowKit Go.ChangeShapes Go.WideShapes Go.Proofs.YtdhonbahpcmmnaaDoor Go.Proofs.YtdhonbahpcmmnaaDoor.Eng Go.Proofs.YtdhonbahpcmmnaaDoorW.PrintWords Go.Proofs.YtdhonbahpcmmnaaDoorW.PrintLast
def MaxO (w : World) : Prop := ∃ m, w.cell? ⟨1, 0, none⟩ = some (.int .i64 m) ∧ ∃ cs t fz, w.heap[1]? = some (.cells cs t fz) ∧ cs.size = 1
end Go.Proofs.YtdhonbahpcmmnaaDoor.Line
end
section
set_option linter.unusedVariables false
namespace Go.Proofs.YtdhonbahpcmmnaaDoor.Line
open Go Go.RowKit Go.ChangeShapes Go.WideShapes Go.Proofs.YtdhonbahpcmmnaaDoor Go.Proofs.YtdhonbahpcmmnaaDoor.Eng Go.Proofs.YtdhonbahpcmmnaaDoorW.PrintWords Go.Proofs.YtdhonbahpcmmnaaDoorW.PrintLast
abbrev RuK : Kd (ByteArray × Int) := Kd.iso (Kd.pair Kd.string (Kd.int .i64)) id
def goodRu (x : ByteArray × Int) : Prop := x.1.size ≤ 9223372036854775807 ∧ (Lit.int .i64 x.2).wf = true
set_option maxRecDepth 100000 in
theorem opens_rule : Opens.Opens Tryd.prog RuK goodRu 55 := Opens.opens_struct (P := Tryd.prog) (d := Kd.pair Kd.string (Kd.int .i64)) (good := fun x => x.1.size ≤ 9223372036854775807 ∧ (Lit.int .i64 x.2).wf = true) (t := 55) id id (fun _ => rfl) Tryd.underlying55 (by kernel_rfl) (Opens.opensF_cons rfl (by kernel_rfl) (Opens.opens_string Tryd.underlying9) (Opens.opensF_one rfl (by kernel_rfl) (Opens.opens_int Tryd.underlying3)))
theorem rules_view {w : World} {A : Option Addr} {l : List (ByteArray × Int)} (hC : Kd.C RuK w A l.length l) : ∃ F, VX cRu 2 w F A (l.map fun r => (bs r.1, r.2)) := by
 obtain ⟨F, HV⟩ := Views.of_C (cE := fun t : ByteArray × Int => [.string t.1, .int .i64 t.2]) (by decide) (fun x cs hk => by
  obtain ⟨c1, c2, rfl, h1, h2⟩ := hk
  obtain rfl : c1 = [.string x.1] := h1
  obtain rfl : c2 = [.int .i64 x.2] := h2
  rfl) hC
 exact ⟨F, vx_map (cF := cRu) (fun t : ByteArray × Int => (bs t.1, t.2)) (fun x => by show [Value.string (str (bs x.1)), Value.int .i64 x.2] = _; rw [str_bs]) HV⟩
theorem tells_row (B : Option Addr) (d : Nat) (l : List (ByteArray × Int)) (cl : Int) (k : ByteArray) (a : EA) (A : Option Addr) (c : Nat) (w : World) (hR : Kd.C RuK w B l.length l) (hl : l.length ≤ 9223372036854775807 ∧ ∀ x ∈ l, goodRu x) (hk : k.size ≤ 9223372036854775807) (hg : goodEv a) (hc : a.2.1.length ≤ c) (hC : Kd.C TK w A a.2.1.length a.2.1) (h : Lib.TabIs Tryd.prog w "internal/strconv.uint64pow10" .u64 Lib.pow10Tab ∧ MaxO w) :
  Calls Tryd.prog 3 #[.slice B l.length d, .int .i64 cl, .string k, .agg #[.string a.1, .slice A a.2.1.length c, .int .i64 a.2.2.1, .int .i64 a.2.2.2.1, .int .i64 a.2.2.2.2]] w fun e w' => e = .returned (.bool true) ∧ Below w.heap.size w w' := by
 obtain ⟨HT, m, hm, cs, t, fz, hh, hsz⟩ := h
 obtain ⟨FR, HV0⟩ := rules_view hR
 obtain ⟨F, HV, hF⟩ := ev_view hC HT
 have q := tells_any (l.map fun r => (bs r.1, r.2)) B l.length d FR cl (bs k) (toEv a) A a.2.1.length c F w hk HV0 (by simp) hl.1 (by
  intro r hr
  obtain ⟨x, hx, rfl⟩ := List.mem_map.1 hr
  exact (hl.2 x hx).1) HV (by simp [toEv]) hg.2.1.1 hg.1 (ev_lens hg) (bounds_i64 hg.2.2.2.1) hF HT ⟨m, hm⟩
 unfold toEv at q
 simp only [str_bs] at q
 exact q.mono fun e w' ⟨h1, h2⟩ => ⟨h1, h2.below0⟩
end Go.Proofs.YtdhonbahpcmmnaaDoor.Line
end
section
namespace Go.Proofs.YtdhonbahpcmmnaaDoorW.PrintWords
open Go.ChangeShapes Go.WideShapes
end Go.Proofs.YtdhonbahpcmmnaaDoorW.PrintWords
end
section
set_option linter.unusedVariables false
namespace Go.Proofs.YtdhonbahpcmmnaaDoor.Row
open Go.ChangeShapes Go.WideShapes Go.RowKit Go.Proofs.YtdhonbahpcmmnaaDoorW.PrintWords Go.Proofs.YtdhonbahpcmmnaaDoorW.PrintLast
end Go.Proofs.YtdhonbahpcmmnaaDoor.Row
end
