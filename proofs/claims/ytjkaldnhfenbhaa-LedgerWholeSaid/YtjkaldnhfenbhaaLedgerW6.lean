/- The walks of layer 17's ledger: one that ended. -/
import Derived.Test.YtjkaldnhfenbhaaLedgerW4
set_option linter.unusedVariables false
set_option linter.unusedSimpArgs false
namespace Go.Proofs.Ytjkaldnhfenbhaa.Ledger
open Go.RowKit Go.Proofs.YtjkaldnhfenbhaaW.PrintWords Go.Proofs.YtjkaldnhfenbhaaW.PrintLast Go.Proofs.Ytjkaldnhfenbhaa.PLedgerPlays

set_option maxRecDepth 100000 in
set_option maxHeartbeats 2000000 in
theorem end_yes (g b n : Nat) (l : List Int) (tp : TypeId) (c r : Nat) (w : World) (hI : IsL w g b n l tp) (hn : n ≤ 5) (hc : c < n) (hr : 1 ≤ r ∧ r ≤ 7) (hx : 0 ≤ l.getD (9 * c + 1 + r) 0 ∧ l.getD (9 * c + 1 + r) 0 ≤ 1000000) :
    Calls Try.prog 60 #[.pointer (some ⟨g, 0, none⟩), .int .i64 c, .int .i64 r] w fun e w' => e = .returned .nilIface ∧ IsL w' g b n (more l (9 * c + 1 + r)) tp ∧ Fr [b] w w' := by
  have HI := Lib.hid hI
  obtain ⟨x, hxe⟩ : ∃ x, x = l.getD (9 * c + 1 + r) 0 := ⟨_, rfl⟩
  rw [← hxe] at hx
  have HF := Lib.hid (count_f x hx)
  have HM := Lib.hid (show more l (9 * c + 1 + r) = l.set (c * 9 + 1 + r) (x + 1) by unfold more; rw [← hxe, Nat.mul_comm])
  clear hI
  obtain ⟨h1, h2⟩ := hr
  have c2 : w.cell? ⟨b, c * 9 + 1 + r, none⟩ = some (.int .u64 x) := by rw [hxe, Nat.mul_comm]; exact HI.out.cell _ (by omega)
  have f2 : w.frozen? ⟨b, c * 9 + 1 + r, none⟩ = false := blk_frozen HI.out.2.1 _
  have d2 : w.cell? ⟨g, 0, none⟩ = some (.slice (some ⟨b, 0, none⟩) n n) := (blk_cell HI.out.1 0).trans rfl
  clear hxe
  go_enter Try.func60, Try.ntmps60
  go_wp2_with fail
  refine (there_yes g b n l tp c r w HI.out hn (by omega) (by omega)).mono ?_
  rintro e w1 ⟨rfl, hd⟩
  obtain ⟨N, rfl⟩ := hd.out
  clear hd
  have c0 : (w.drewN N).cell? ⟨g, 0, none⟩ = some (.slice (some ⟨b, 0, none⟩) n n) := d2
  have c1 : (w.drewN N).cell? ⟨b, c * 9 + 1 + r, none⟩ = some (.int .u64 x) := c2
  go_wp2_with fail
  refine (sat_Count.calls x 1 (x + 1) false _ HF.out).mono ?_
  rintro e w3 ⟨rfl, hd⟩
  obtain ⟨N2, rfl⟩ := hd.out
  clear hd
  go_wp2_with fail
  go_ret
  exact ⟨rfl, by rw [HM.out]; exact HI.out.put _ _, by repeat (first | exact Fr.refl _ _ | apply Fr.drewN | apply Fr.drew | exact Fr.set (Fr.refl _ _) (.inl (by simp)) _ _ | refine Fr.set ?_ (.inl (by simp)) _ _)⟩
end Go.Proofs.Ytjkaldnhfenbhaa.Ledger
