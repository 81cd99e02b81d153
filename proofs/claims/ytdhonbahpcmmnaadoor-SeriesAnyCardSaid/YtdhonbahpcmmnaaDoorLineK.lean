/- Layer 4's laws, from the statements' arguments. -/
import Derived.Test.YtdhonbahpcmmnaaDoorLineJ
import Derived.Test.YtdhonbahpcmmnaaDoorViews
set_option linter.unusedVariables false
set_option linter.unusedSimpArgs false
namespace Go.Proofs.YtdhonbahpcmmnaaDoor.Line
open Go Go.RowKit Go.ChangeShapes Go.WideShapes Go.Proofs.YtdhonbahpcmmnaaDoor Go.Proofs.YtdhonbahpcmmnaaDoor.Eng Go.Proofs.YtdhonbahpcmmnaaDoorW.PrintWords Go.Proofs.YtdhonbahpcmmnaaDoorW.PrintLast
abbrev TK : Kd (ByteArray × ByteArray) := Kd.iso (Kd.pair Kd.string Kd.string) id
abbrev EK : Kd (ByteArray × List (ByteArray × ByteArray) × Int × Int × Int) := Kd.iso (Kd.pair Kd.string (Kd.pair (Kd.slice 53 TK) (Kd.pair (Kd.int .i64) (Kd.pair (Kd.int .i64) (Kd.int .i64))))) id
abbrev Tg : Type := ByteArray × ByteArray
abbrev EA : Type := ByteArray × List Tg × Int × Int × Int
def goodEv (a : EA) : Prop := a.1.size ≤ 9223372036854775807 ∧ (a.2.1.length ≤ 9223372036854775807 ∧ ∀ x ∈ a.2.1, x.1.size ≤ 9223372036854775807 ∧ x.2.size ≤ 9223372036854775807) ∧ (Lit.int .i64 a.2.2.1).wf = true ∧ (Lit.int .i64 a.2.2.2.1).wf = true ∧ (Lit.int .i64 a.2.2.2.2).wf = true
set_option maxRecDepth 100000 in
theorem opens_tag : Opens.Opens Tryd.prog TK (fun x => x.1.size ≤ 9223372036854775807 ∧ x.2.size ≤ 9223372036854775807) 53 := Opens.opens_struct (P := Tryd.prog) (d := Kd.pair Kd.string Kd.string) (good := fun x => x.1.size ≤ 9223372036854775807 ∧ x.2.size ≤ 9223372036854775807) (t := 53) id id (fun _ => rfl) Tryd.underlying53 (by kernel_rfl) (Opens.opensF_cons rfl (by kernel_rfl) (Opens.opens_string Tryd.underlying9) (Opens.opensF_one rfl (by kernel_rfl) (Opens.opens_string Tryd.underlying9)))
set_option maxRecDepth 100000 in
theorem opens_ev : Opens.Opens Tryd.prog EK goodEv 25 := Opens.opens_struct (P := Tryd.prog) (β := EA) (d := Kd.pair Kd.string (Kd.pair (Kd.slice 53 TK) (Kd.pair (Kd.int .i64) (Kd.pair (Kd.int .i64) (Kd.int .i64))))) (t := 25) id id (fun _ => rfl) Tryd.underlying25 (by kernel_rfl)
 (Opens.opensF_cons rfl (by kernel_rfl) (Opens.opens_string Tryd.underlying9) (Opens.opensF_cons rfl (by kernel_rfl) (Opens.opens_slice Tryd.underlying23 (by kernel_rfl) opens_tag) (Opens.opensF_cons rfl (by kernel_rfl) (Opens.opens_int Tryd.underlying3) (Opens.opensF_cons rfl (by kernel_rfl) (Opens.opens_int Tryd.underlying2) (Opens.opensF_one rfl (by kernel_rfl) (Opens.opens_int Tryd.underlying2))))))
def toEv (a : EA) : Ev := { name := bs a.1, tags := a.2.1.map fun t => (bs t.1, bs t.2), kind := a.2.2.1, value := a.2.2.2.1, time := a.2.2.2.2 }
theorem open_ev {w : World} {a : EA} {cs : List Value} (h : EK.K w a cs) : ∃ A c, cs = [.string a.1, .slice A a.2.1.length c, .int .i64 a.2.2.1, .int .i64 a.2.2.2.1, .int .i64 a.2.2.2.2] ∧ a.2.1.length ≤ c ∧ Kd.C TK w A a.2.1.length a.2.1 := by
 obtain ⟨c1, r1, rfl, h1, c2, r2, rfl, ⟨A, c, rfl, hl, hC⟩, c3, r3, rfl, h3, c4, c5, rfl, h4, h5⟩ := h
 obtain rfl : c1 = [.string a.1] := h1
 obtain rfl : c3 = [.int .i64 a.2.2.1] := h3
 obtain rfl : c4 = [.int .i64 a.2.2.2.1] := h4
 obtain rfl : c5 = [.int .i64 a.2.2.2.2] := h5
 exact ⟨A, c, rfl, hl, hC⟩
theorem vx_map {α β : Type} {cE : α → List Value} {cF : β → List Value} {size : Nat} {w : World} {F : List Nat} {A : Option Addr} {q : List α} (f : α → β) (hf : ∀ x, cF (f x) = cE x) (h : VX cE size w F A q) : VX cF size w F A (q.map f) := by
 refine ⟨h.1, fun hp => ?_⟩
 obtain ⟨ad, h1, h2, h3⟩ := h.2 (by simpa using hp)
 refine ⟨ad, h1, h2, fun i x hx => ?_⟩
 rw [List.getElem?_map] at hx
 obtain ⟨y, hy, rfl⟩ := Option.map_eq_some_iff.1 hx
 rw [hf]
 exact h3 i y hy
theorem vx_off {w : World} {F : List Nat} {A : Option Addr} {q : List (L × L)} (h : VX cT 2 w F A q) (ht : Lib.TabIs Tryd.prog w "internal/strconv.uint64pow10" .u64 Lib.pow10Tab) : ∃ F', VX cT 2 w F' A q ∧ 2 ∉ F' := by
 by_cases hp : 0 < q.length
 ·
  obtain ⟨ad, h1, h2, h3⟩ := h.get hp
  refine ⟨[ad.block], ⟨fun y hy => h.1 y (by rw [List.mem_singleton.1 hy]; exact h2), fun _ => ⟨ad, h1, by simp, h3⟩⟩, fun hm => ?_⟩
  have hb := List.mem_singleton.1 hm
  have hc := h3 0 q[0] (List.getElem?_eq_getElem hp) 0 (.string (str q[0].1)) rfl
  rw [show 0 * 2 + 0 = 0 from rfl, add_0] at hc
  have hs := World.cell?_spot hc
  obtain ⟨b, o, s⟩ := ad
  simp only at hb hs
  subst hb hs
  have := World.var?_cell (P := Tryd.prog) (g := 2) (by kernel_rfl) ht o
  rw [hc] at this
  rw [List.getElem?_toArray, List.getElem?_map] at this
  cases hz : Lib.pow10Tab[o]? with
  | none => rw [hz] at this; cases this
  | some z => rw [hz] at this; cases this
 ·
  obtain rfl : q = [] := List.length_eq_zero_iff.1 (by omega)
  exact ⟨[], VX.nil w A, by simp⟩
theorem ev_view {w : World} {A : Option Addr} {a : EA} (hC : Kd.C TK w A a.2.1.length a.2.1) (ht : Lib.TabIs Tryd.prog w "internal/strconv.uint64pow10" .u64 Lib.pow10Tab) : ∃ F, VX cT 2 w F A (toEv a).tags ∧ 2 ∉ F := by
 obtain ⟨F, HV⟩ := Views.of_C (cE := fun t : Tg => [.string t.1, .string t.2]) (by decide) (fun x cs hk => by
  obtain ⟨c1, c2, rfl, h1, h2⟩ := hk
  obtain rfl : c1 = [.string x.1] := h1
  obtain rfl : c2 = [.string x.2] := h2
  rfl) hC
 exact vx_off (vx_map (cF := cT) (fun t : Tg => (bs t.1, bs t.2)) (fun x => by show [Value.string (str (bs x.1)), Value.string (str (bs x.2))] = _; rw [str_bs, str_bs]) HV) ht
theorem ev_lens {a : EA} (h : goodEv a) : ∀ t ∈ (toEv a).tags, t.1.length ≤ 9223372036854775807 ∧ t.2.length ≤ 9223372036854775807 := by
 intro t ht
 obtain ⟨x, hx, rfl⟩ := List.mem_map.1 ht
 exact h.2.1.2 x hx
end Go.Proofs.YtdhonbahpcmmnaaDoor.Line
