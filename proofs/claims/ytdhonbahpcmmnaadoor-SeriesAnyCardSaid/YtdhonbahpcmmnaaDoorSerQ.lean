/- Layer 5's law, from the statement's arguments. -/
import Derived.Test.YtdhonbahpcmmnaaDoorSerL
import Derived.Test.YtdhonbahpcmmnaaDoorLineK
set_option linter.unusedVariables false
namespace Go.Proofs.YtdhonbahpcmmnaaDoor.Line
open Go Go.RowKit Go.ChangeShapes Go.WideShapes Go.Proofs.YtdhonbahpcmmnaaDoor Go.Proofs.YtdhonbahpcmmnaaDoor.Eng Go.Proofs.YtdhonbahpcmmnaaDoorW.PrintWords Go.Proofs.YtdhonbahpcmmnaaDoorW.PrintLast
theorem vx_apart {w : World} {F : List Nat} {A : Option Addr} {q : List (L × L)} (h : VX cT 2 w F A q) : ∃ F', VX cT 2 w F' A q ∧ ∀ g, (∀ o b, w.cell? ⟨g, o, none⟩ ≠ some (.string b)) → g ∉ F' := by
 by_cases hp : 0 < q.length
 ·
  obtain ⟨ad, h1, h2, h3⟩ := h.get hp
  refine ⟨[ad.block], ⟨fun y hy => h.1 y (by rw [List.mem_singleton.1 hy]; exact h2), fun _ => ⟨ad, h1, by simp, h3⟩⟩, fun g hg hm => ?_⟩
  have hb := List.mem_singleton.1 hm
  have hc := h3 0 q[0] (List.getElem?_eq_getElem hp) 0 (.string (str q[0].1)) rfl
  rw [show 0 * 2 + 0 = 0 from rfl, add_0] at hc
  have hs := World.cell?_spot hc
  obtain ⟨b, o, s⟩ := ad
  simp only at hb hs
  subst hb hs
  exact hg _ _ hc
 ·
  obtain rfl : q = [] := List.length_eq_zero_iff.1 (by omega)
  exact ⟨[], VX.nil w A, by simp⟩
theorem var_nostr {w : World} {name : String} {g : Nat} {x : Value} (hg : Tryd.prog.globalNamed name = some g) (h : w.var? Tryd.prog name = some #[x]) (hx : ∀ b, x ≠ .string b) : ∀ o b, w.cell? ⟨g, o, none⟩ ≠ some (.string b) := by
 intro o b hc
 have := World.var?_cell hg h o
 rw [hc] at this
 cases o with
 | zero => exact hx b (Option.some.inj this).symm
 | succ o => simp at this
theorem tab_nostr {w : World} (ht : Lib.TabIs Tryd.prog w "internal/strconv.uint64pow10" .u64 Lib.pow10Tab) : ∀ o b, w.cell? ⟨2, o, none⟩ ≠ some (.string b) := by
 intro o b hc
 have := World.var?_cell (P := Tryd.prog) (g := 2) (by kernel_rfl) ht o
 rw [hc, List.getElem?_toArray, List.getElem?_map] at this
 cases hz : Lib.pow10Tab[o]? with
 | none => rw [hz] at this; cases this
 | some z => rw [hz] at this; cases this
theorem int_nostr {w : World} {g : Nat} {cs : Array Value} {t : TypeId} {fz : Nat × Nat} (hh : w.heap[g]? = some (.cells cs t fz)) (hs : cs.size = 1) {m : Int} (h : w.cell? ⟨g, 0, none⟩ = some (.int .i64 m)) : ∀ o b, w.cell? ⟨g, o, none⟩ ≠ some (.string b) := by
 intro o b hc
 cases o with
 | zero => rw [h] at hc; cases hc
 | succ o =>
  have : w.cell? ⟨g, o + 1, none⟩ = cs[o + 1]? := by simp [World.cell?, hh]
  rw [this, Array.getElem?_eq_none (by omega)] at hc
  cases hc
def MaxO (w : World) : Prop := ∃ m, w.cell? ⟨1, 0, none⟩ = some (.int .i64 m) ∧ ∃ cs t fz, w.heap[1]? = some (.cells cs t fz) ∧ cs.size = 1
abbrev SFacts (w : World) : Prop := VarI w "strconv.ErrSyntax" ∧ VarI w "strconv.ErrRange" ∧ Lib.TabIs Tryd.prog w "internal/strconv.uint64pow10" .u64 Lib.pow10Tab ∧ MaxO w
theorem series_row (a : EA) (A : Option Addr) (c : Nat) (w : World) (hg : goodEv a) (hc : a.2.1.length ≤ c) (hC : Kd.C TK w A a.2.1.length a.2.1) (h : SFacts w) :
  Calls Tryd.prog 7 #[.agg #[.string a.1, .slice A a.2.1.length c, .int .i64 a.2.2.1, .int .i64 a.2.2.2.1, .int .i64 a.2.2.2.2]] w fun e w' => e = .returned (.bool true) ∧ Below w.heap.size w w' := by
 obtain ⟨HS, HR, HT, m, hm, cs, t, fz, hh, hsz⟩ := h
 obtain ⟨F0, HV0, _⟩ := ev_view hC HT
 obtain ⟨F, HV, hF⟩ := vx_apart HV0
 have n1 := hF _ (tab_nostr HT)
 have n2 := hF 3 (by obtain ⟨tp, p, hv⟩ := HS; exact var_nostr (by kernel_rfl) hv (by intro b e; cases e))
 have n3 := hF 4 (by obtain ⟨tp, p, hv⟩ := HR; exact var_nostr (by kernel_rfl) hv (by intro b e; cases e))
 have n4 := hF _ (int_nostr hh hsz hm)
 have k := series_any (toEv a) A a.2.1.length c F w HV (by simp [toEv]) hg.2.1.1 hg.1 (ev_lens hg) (bounds_i64 hg.2.2.2.1) n1 n2 n3 n4 HS HR HT ⟨m, hm⟩
 unfold toEv at k
 simp only [str_bs] at k
 exact k.mono fun e w' ⟨h1, h2⟩ => ⟨h1, h2.below0⟩
end Go.Proofs.YtdhonbahpcmmnaaDoor.Line
