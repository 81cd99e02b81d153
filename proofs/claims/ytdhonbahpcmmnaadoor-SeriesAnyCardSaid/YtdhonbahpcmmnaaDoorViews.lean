/- From a statement's arguments to views: bytes, and elements of few cells. Words for the rows. -/
import Derived.Test.YtdhonbahpcmmnaaDoorEngB
import Derived.Test.YtdhonbahpcmmnaaDoorOpens
import Derived.OpenShut
set_option linter.unusedVariables false
set_option linter.unusedSimpArgs false
namespace Go.Proofs.YtdhonbahpcmmnaaDoor.Views
open Go Go.RowKit Go.ChangeShapes Go.WideShapes Go.Proofs.YtdhonbahpcmmnaaDoor Go.Proofs.YtdhonbahpcmmnaaDoor.Eng Go.Proofs.YtdhonbahpcmmnaaDoorW.PrintWords Go.Proofs.YtdhonbahpcmmnaaDoorW.PrintLast
theorem of_C {α : Type} {d : Kd α} {cE : α → List Value} {w : World} {A : Option Addr} {l : List α} (hs : 0 < d.sz) (hK : ∀ x cs, d.K w x cs → cs = cE x) (h : Kd.C d w A l.length l) : ∃ F, VX cE d.sz w F A l := by
 obtain ⟨_, _, h3⟩ := h
 by_cases hp : 0 < l.length
 ·
  obtain ⟨ad, rfl, hc⟩ := h3 hp
  have hcell : ∀ i x, l[i]? = some x → ∀ j u, (cE x)[j]? = some u → w.cell? (ad.add (i * d.sz + j)) = some u := by
   intro i x hx j u hu
   obtain ⟨cs, _, hk, hcell⟩ := hc i x hx
   rw [hK x cs hk] at hcell
   exact hcell j u hu
  refine ⟨[ad.block], fun y hy => ?_, fun _ => ⟨ad, rfl, by simp, hcell⟩⟩
  obtain rfl : y = ad.block := by simpa using hy
  obtain ⟨cs, hl, hk, hcell2⟩ := hc 0 l[0] (List.getElem?_eq_getElem hp)
  have := World.block_lt_of_cell? w _ (hcell2 0 _ (List.getElem?_eq_getElem (by omega)))
  have hb : (ad.add (0 * d.sz + 0)).block = ad.block := by unfold Addr.add; split <;> rfl
  rwa [hb] at this
 ·
  obtain rfl : l = [] := List.length_eq_zero_iff.1 (by omega)
  exact ⟨[], VX.nil w A⟩
def byteK : Kd UInt8 := Kd.iso (Kd.int .u8) fun b => (b.toNat : Int)
theorem bytes {w : World} {A : Option Addr} {l : List UInt8} (h : Kd.C byteK w A l.length l) : ∃ F, VX cB 1 w F A l :=
 of_C (cE := cB) (by decide) (fun x cs hk => hk) h
end Go.Proofs.YtdhonbahpcmmnaaDoor.Views
