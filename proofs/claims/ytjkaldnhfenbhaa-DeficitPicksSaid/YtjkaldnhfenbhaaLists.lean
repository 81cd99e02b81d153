/- A slice of whole numbers that is read: its cells, place by place. Words for the walks. -/
import Derived.Test.YtjkaldnhfenbhaaWMore
import Derived.WalkKit
set_option linter.unusedVariables false
namespace Go.Proofs.Ytjkaldnhfenbhaa.Lists
open Go.RowKit Go.Proofs.YtjkaldnhfenbhaaW.PrintWords Go.Proofs.YtjkaldnhfenbhaaW.PrintLast

theorem C_ints {k : IntKind} {w : World} {A : Option Addr} {l : List Int} (h : Kd.C (Kd.int k) w A l.length l) : l = [] ∨ ∃ ad, A = some ad ∧ ∀ j, j < l.length → w.cell? (ad.add j) = some (.int k (l.getD j 0)) := by
  by_cases hn : 0 < l.length
  · right
    obtain ⟨_, _, h3⟩ := h
    obtain ⟨ad, e, hc⟩ := h3 hn
    refine ⟨ad, e, fun j hj => ?_⟩
    obtain ⟨cs, _, hk, hcell⟩ := hc j (l.getD j 0) (by simp [List.getD, hj])
    obtain rfl : cs = [.int k (l.getD j 0)] := hk
    have := hcell 0 _ rfl
    rwa [show j * (Kd.int k).sz + 0 = j from Nat.mul_one j] at this
  · left
    exact List.length_eq_zero_iff.1 (by omega)
theorem len_max {k : IntKind} {w : World} {A : Option Addr} {l : List Int} (h : Kd.C (Kd.int k) w A l.length l) : l.length ≤ 9223372036854775807 := h.2.1

/-- the number in a cell, whatever world it is: what a load gives that a region draws behind calls -/
def cellInt (w : World) (a : Addr) : Int := match w.cell? a with | some (.int _ v) => v | _ => 0
theorem cellInt_eq {w : World} {a : Addr} {k : IntKind} {v : Int} (h : w.cell? a = some (.int k v)) : cellInt w a = v := by unfold cellInt; rw [h]
theorem cellInt_is {w : World} {a : Addr} {k : IntKind} {v : Int} (h : w.cell? a = some (.int k v)) : w.cell? a = some (.int k (cellInt w a)) := by rw [cellInt_eq h]; exact h
end Go.Proofs.Ytjkaldnhfenbhaa.Lists
