/- The document's value of the part that a number takes, as the reader's number answers. -/
import Derived.Test.YtdhonbahpcmmnaaDoorLineA
set_option maxHeartbeats 400000
namespace Go.Proofs.YtdhonbahpcmmnaaDoor.Line
open Go Go.RowKit Go.Proofs.YtdhonbahpcmmnaaDoor Go.Proofs.YtdhonbahpcmmnaaDoor.Eng Go.Proofs.YtdhonbahpcmmnaaDoorW.PrintWords
def numB (s : L) (p : Nat) : Nat := if p < s.length ∧ (gB s p).toNat = 45 then p + 1 else p
def numE (s : L) (p : Nat) : Nat := runE isD s (numB s p)
def numP (s : L) (p : Nat) (least most : Int) : Option Int := numR s p (numB s p) least most
theorem value_part (s : L) (p : Nat) (w : World) (least most : Int) (hs : s.length ≤ 1000000) (hp : p ≤ s.length) :
  Calls Tryd.prog 42 #[.string (str ((s.take (numE s p)).drop p)), .int .i64 least, .int .i64 most] w fun e w' =>
   ∃ v b, e = .returned (.tuple #[.int .i64 v, .bool b]) ∧ (if b = true then some v else none) = numP s p least most ∧ Fr [] w w' := by
 have hl : ((s.take (numE s p)).drop p).length ≤ 1000000 := by rw [List.length_drop, List.length_take]; omega
 by_cases h : p < s.length ∧ (gB s p).toNat = 45
 ·
  have e1 : numB s p = p + 1 := if_pos h
  unfold numP numE
  unfold numE at hl
  rw [e1] at hl ⊢
  rw [run_minus h.1] at hl ⊢
  refine Calls.mono (value_m _ _ w least most hl rfl (by rw [List.length_cons]; omega) h.2 (by exact run_digits s (p + 1))) ?_
  rintro e w' ⟨rfl, hF⟩
  exact ⟨_, _, rfl, (numR_m _ (gB s p) h.2 rfl (run_minus h.1) (run_digits s (p + 1))).symm, hF⟩
 ·
  have e1 : numB s p = p := if_neg h
  unfold numP numE
  unfold numE at hl
  rw [e1] at hl ⊢
  have hd := run_digits s p
  refine Calls.mono (value_d _ w least most hl (fun h_ => by have := hd 0 h_.1; omega) hd) ?_
  rintro e w' ⟨rfl, hF⟩
  exact ⟨_, _, rfl, (numR_d _ rfl hd).symm, hF⟩
end Go.Proofs.YtdhonbahpcmmnaaDoor.Line
