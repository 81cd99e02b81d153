/- How the arguments of a statement are opened: a slice of whole numbers as a list. Words for the rows. -/
import Derived.Test.YtkhibpdkgjapgaaWMore
import Derived.Test.YtkhibpdkgjapgaaWSized
import Derived.ChangeSlices
import Derived.SizedLaws
import Derived.WalkKit
import Derived.ProofKit
set_option linter.unusedVariables false
namespace Go.Proofs.Ytkhibpdkgjapgaa.Row
open Go.ChangeShapes Go.WideShapes Go.RowKit Go.Proofs.YtkhibpdkgjapgaaW.PrintWords Go.Proofs.YtkhibpdkgjapgaaW.PrintLast

theorem row_ints {H : Type} {enc : TypeId × Value → H} {P : Program} {W : World} {base : Nat} {spare : Nat → Bool} {held : Bool} {t e : TypeId} {k : IntKind} {a : Option Addr} {len cap : Nat} {d : DataW H} {ps : List MemPlace}
    (hu : P.underlying t = some (.slice e)) (he : P.underlying e = some (.int k)) (hc : P.cellsOf e = 1) (h : DataW.Trod enc P W base spare held t (.slice a len cap) d ps) :
    ∃ l : List Int, l.length = len ∧ Kd.C (Kd.int k) W a l.length l ∧ l.length ≤ cap ∧ ∀ x ∈ l, (Lit.int k x).wf = true := by
  obtain ⟨fuel, hf⟩ := h
  have hr : ∃ zs : List Int, (a = none ∧ len = 0 ∧ cap = 0 ∧ zs = []) ∨ ∃ x, a = some x ∧ len ≤ cap ∧ cap ≤ maxLen ∧ len ≤ zs.length ∧ (∀ i, i < zs.length → W.cell? (x.add i) = some (.int k (zs.getD i 0))) ∧ ∀ n ∈ zs, (Lit.int k n).wf = true := by
    rcases open_ints hu he hc hf with ⟨hcs, _⟩ | ⟨x, l, c, zs, hcs, _, hl, hm, hz, _, hcell, hwz⟩
    · simp [Value.cells] at hcs
      obtain ⟨rfl, rfl, rfl⟩ := hcs
      exact ⟨[], .inl ⟨rfl, rfl, rfl, rfl⟩⟩
    · simp [Value.cells] at hcs
      obtain ⟨rfl, rfl, rfl⟩ := hcs
      exact ⟨zs, .inr ⟨_, rfl, hl, hm, by rw [hz]; split <;> omega, hcell, hwz⟩⟩
  obtain ⟨zs, ⟨rfl, rfl, rfl, rfl⟩ | ⟨x, rfl, hl, hm, hz, hcell, hwz⟩⟩ := hr
  · exact ⟨[], rfl, Kd.C_nil _ _, Nat.le_refl _, fun x hx => by simp at hx⟩
  · have hlen : (zs.take len).length = len := by simp; omega
    unfold maxLen at hm
    refine ⟨zs.take len, hlen, Kd.C_of_reads (d := (0 : Int)) (h1 := fun _ => rfl) ⟨rfl, by omega, fun _ => ⟨x, rfl, fun j hj => ?_⟩⟩, by omega, fun y hy => hwz y (List.mem_of_mem_take hy)⟩
    rw [hcell j (by omega)]
    rw [List.getD_eq_getElem?_getD, List.getD_eq_getElem?_getD, List.getElem?_take_of_lt (by omega)]
end Go.Proofs.Ytkhibpdkgjapgaa.Row
