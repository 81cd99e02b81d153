/- The walks of layer 17's ledger: Open. -/
import Derived.Test.YtjkaldnhfenbhaaLedgerW3
set_option linter.unusedVariables false
set_option linter.unusedSimpArgs false
namespace Go.Proofs.Ytjkaldnhfenbhaa.Ledger
open Go.RowKit Go.Proofs.YtjkaldnhfenbhaaW.PrintWords Go.Proofs.YtjkaldnhfenbhaaW.PrintLast Go.Proofs.Ytjkaldnhfenbhaa.PLedgerPlays

/-- what holds in the loop over the eight: R is what Open tells -/
def Left8 (R : Option Int) (x1 x2 x3 x4 x5 x6 x7 x8 : Int) (i left : Value) : Prop :=
  ∃ m : Int, 0 ≤ m ∧ m ≤ 1000000 ∧ left = .int .u64 m ∧
    ((i = .int .i64 0 ∧ R = opens m [x1, x2, x3, x4, x5, x6, x7, x8]) ∨ (i = .int .i64 1 ∧ R = opens m [x2, x3, x4, x5, x6, x7, x8]) ∨ (i = .int .i64 2 ∧ R = opens m [x3, x4, x5, x6, x7, x8]) ∨
    (i = .int .i64 3 ∧ R = opens m [x4, x5, x6, x7, x8]) ∨ (i = .int .i64 4 ∧ R = opens m [x5, x6, x7, x8]) ∨ (i = .int .i64 5 ∧ R = opens m [x6, x7, x8]) ∨
    (i = .int .i64 6 ∧ R = opens m [x7, x8]) ∨ (i = .int .i64 7 ∧ R = opens m [x8]) ∨ (i = .int .i64 8 ∧ R = opens m []))

set_option maxRecDepth 100000 in
set_option maxHeartbeats 2000000 in
theorem open_yes (g b n : Nat) (l : List Int) (tp : TypeId) (c : Nat) (w : World) (hI : IsL w g b n l tp) (hn : n ≤ 5) (hc : c < n) (hx : ∀ i, 0 ≤ l.getD i 0 ∧ l.getD i 0 ≤ 1000000) :
    Calls Try.prog 62 #[.pointer (some ⟨g, 0, none⟩), .int .i64 c] w fun e w' => e = .returned (.tuple #[.int .u64 (openR l c).1, .bool (openR l c).2]) ∧ Drawn0 w w' := by
  have HI := Lib.hid hI
  have HX := Lib.hid hx
  have HE := Lib.hid (ended_eq l c)
  have HS := Lib.hid (show opens (l.getD (9 * c) 0) (ended l c) = none → openR l c = (0, false) from openR_none)
  have HT := Lib.hid (show ∀ k, opens (l.getD (9 * c) 0) (ended l c) = some k → openR l c = (k, true) from fun _ => openR_some)
  obtain ⟨R, hR⟩ : ∃ R, R = opens (l.getD (9 * c) 0) (ended l c) := ⟨_, rfl⟩
  obtain ⟨q, hq⟩ : ∃ q, q = openR l c := ⟨_, rfl⟩
  rw [← hR] at HS HT
  rw [← hq] at HS HT
  rw [← hq]
  obtain ⟨x0, h0⟩ : ∃ x, x = l.getD (9 * c) 0 := ⟨_, rfl⟩
  obtain ⟨x1, h1⟩ : ∃ x, x = l.getD (9 * c + 1) 0 := ⟨_, rfl⟩
  obtain ⟨x2, h2⟩ : ∃ x, x = l.getD (9 * c + 2) 0 := ⟨_, rfl⟩
  obtain ⟨x3, h3⟩ : ∃ x, x = l.getD (9 * c + 3) 0 := ⟨_, rfl⟩
  obtain ⟨x4, h4⟩ : ∃ x, x = l.getD (9 * c + 4) 0 := ⟨_, rfl⟩
  obtain ⟨x5, h5⟩ : ∃ x, x = l.getD (9 * c + 5) 0 := ⟨_, rfl⟩
  obtain ⟨x6, h6⟩ : ∃ x, x = l.getD (9 * c + 6) 0 := ⟨_, rfl⟩
  obtain ⟨x7, h7⟩ : ∃ x, x = l.getD (9 * c + 7) 0 := ⟨_, rfl⟩
  obtain ⟨x8, h8⟩ : ∃ x, x = l.getD (9 * c + 8) 0 := ⟨_, rfl⟩
  have b0 := hx (9 * c)
  have b1 := hx (9 * c + 1)
  have b2 := hx (9 * c + 2)
  have b3 := hx (9 * c + 3)
  have b4 := hx (9 * c + 4)
  have b5 := hx (9 * c + 5)
  have b6 := hx (9 * c + 6)
  have b7 := hx (9 * c + 7)
  have b8 := hx (9 * c + 8)
  rw [HE.out, ← h0, ← h1, ← h2, ← h3, ← h4, ← h5, ← h6, ← h7, ← h8] at hR
  rw [← h0] at b0
  rw [← h1] at b1
  obtain ⟨lo1, hi1⟩ := b1
  rw [← h2] at b2
  obtain ⟨lo2, hi2⟩ := b2
  rw [← h3] at b3
  obtain ⟨lo3, hi3⟩ := b3
  rw [← h4] at b4
  obtain ⟨lo4, hi4⟩ := b4
  rw [← h5] at b5
  obtain ⟨lo5, hi5⟩ := b5
  rw [← h6] at b6
  obtain ⟨lo6, hi6⟩ := b6
  rw [← h7] at b7
  obtain ⟨lo7, hi7⟩ := b7
  rw [← h8] at b8
  obtain ⟨lo8, hi8⟩ := b8
  have HR := Lib.hid hR
  clear hI hx hR hq
  have c0 : w.cell? ⟨g, 0, none⟩ = some (.slice (some ⟨b, 0, none⟩) n n) := (blk_cell HI.out.1 0).trans rfl
  have d0 : w.cell? ⟨b, c * 9, none⟩ = some (.int .u64 x0) := by rw [h0]; exact HI.out.cellAt c hc
  have d1 : w.cell? ⟨b, c * 9 + 1, none⟩ = some (.int .u64 x1) := by rw [h1, Nat.mul_comm]; exact HI.out.cell _ (by omega)
  have d2 : w.cell? ⟨b, c * 9 + 2, none⟩ = some (.int .u64 x2) := by rw [h2, Nat.mul_comm]; exact HI.out.cell _ (by omega)
  have d3 : w.cell? ⟨b, c * 9 + 3, none⟩ = some (.int .u64 x3) := by rw [h3, Nat.mul_comm]; exact HI.out.cell _ (by omega)
  have d4 : w.cell? ⟨b, c * 9 + 4, none⟩ = some (.int .u64 x4) := by rw [h4, Nat.mul_comm]; exact HI.out.cell _ (by omega)
  have d5 : w.cell? ⟨b, c * 9 + 5, none⟩ = some (.int .u64 x5) := by rw [h5, Nat.mul_comm]; exact HI.out.cell _ (by omega)
  have d6 : w.cell? ⟨b, c * 9 + 6, none⟩ = some (.int .u64 x6) := by rw [h6, Nat.mul_comm]; exact HI.out.cell _ (by omega)
  have d7 : w.cell? ⟨b, c * 9 + 7, none⟩ = some (.int .u64 x7) := by rw [h7, Nat.mul_comm]; exact HI.out.cell _ (by omega)
  have d8 : w.cell? ⟨b, c * 9 + 8, none⟩ = some (.int .u64 x8) := by rw [h8, Nat.mul_comm]; exact HI.out.cell _ (by omega)
  clear h0 h1 h2 h3 h4 h5 h6 h7 h8
  go_enter Try.func62, Try.ntmps62
  go_wp2_with fail
  refine (there_yes g b n l tp c 7 w HI.out hn (by omega) (by omega)).mono ?_
  rintro e w1 ⟨rfl, hd⟩
  obtain ⟨N, rfl⟩ := hd.out
  clear hd
  go_wp2_with fail
  go_loop [29, 6] (Left8 R x1 x2 x3 x4 x5 x6 x7 x8) (fun i _ => (8 - intOf i).toNat)
  case atStart => exact ⟨x0, b0.1, b0.2, rfl, Or.inl ⟨rfl, HR.out⟩⟩
  case round =>
    obtain ⟨m, m0, m1, rfl, hrel⟩ := hrel
    rcases hrel with ⟨rfl, hr⟩ | ⟨rfl, hr⟩ | ⟨rfl, hr⟩ | ⟨rfl, hr⟩ | ⟨rfl, hr⟩ | ⟨rfl, hr⟩ | ⟨rfl, hr⟩ | ⟨rfl, hr⟩ | ⟨rfl, hr⟩
    · have ik : ∀ w, (Instr.index 138 (.agg #[.int .u64 x1, .int .u64 x2, .int .u64 x3, .int .u64 x4, .int .u64 x5, .int .u64 x6, .int .u64 x7, .int .u64 x8]) (.int .i64 0)).run Try.prog w = .ok (.int .u64 x1) w := fun _ => by kernel_rfl
      by_cases hl : m < x1
      · have hh := HS.out (hr.trans (opens_less hl))
        have hh := Lib.hid (show Ending.returned (.tuple #[.int .u64 0, .bool false]) = Ending.returned (.tuple #[.int .u64 q.1, .bool q.2]) by rw [hh])
        clear hr
        go_wp2_with fail
        go_ret2
        exact ⟨rfl, ⟨⟨N, rfl⟩⟩⟩
      · have hm := hr.trans (opens_more (show x1 ≤ m by omega))
        clear hr
        have hm := Lib.hid hm
        go_wp2_with fail
        go_round
        case rel => have hm := hm.out; exact ⟨m - x1, by omega, by omega, rfl, (Or.inr (Or.inl ⟨rfl, hm⟩))⟩
        case measure => simp [intOf]
    · have ik : ∀ w, (Instr.index 138 (.agg #[.int .u64 x1, .int .u64 x2, .int .u64 x3, .int .u64 x4, .int .u64 x5, .int .u64 x6, .int .u64 x7, .int .u64 x8]) (.int .i64 1)).run Try.prog w = .ok (.int .u64 x2) w := fun _ => by kernel_rfl
      by_cases hl : m < x2
      · have hh := HS.out (hr.trans (opens_less hl))
        have hh := Lib.hid (show Ending.returned (.tuple #[.int .u64 0, .bool false]) = Ending.returned (.tuple #[.int .u64 q.1, .bool q.2]) by rw [hh])
        clear hr
        go_wp2_with fail
        go_ret2
        exact ⟨rfl, ⟨⟨N, rfl⟩⟩⟩
      · have hm := hr.trans (opens_more (show x2 ≤ m by omega))
        clear hr
        have hm := Lib.hid hm
        go_wp2_with fail
        go_round
        case rel => have hm := hm.out; exact ⟨m - x2, by omega, by omega, rfl, (Or.inr (Or.inr (Or.inl ⟨rfl, hm⟩)))⟩
        case measure => simp [intOf]
    · have ik : ∀ w, (Instr.index 138 (.agg #[.int .u64 x1, .int .u64 x2, .int .u64 x3, .int .u64 x4, .int .u64 x5, .int .u64 x6, .int .u64 x7, .int .u64 x8]) (.int .i64 2)).run Try.prog w = .ok (.int .u64 x3) w := fun _ => by kernel_rfl
      by_cases hl : m < x3
      · have hh := HS.out (hr.trans (opens_less hl))
        have hh := Lib.hid (show Ending.returned (.tuple #[.int .u64 0, .bool false]) = Ending.returned (.tuple #[.int .u64 q.1, .bool q.2]) by rw [hh])
        clear hr
        go_wp2_with fail
        go_ret2
        exact ⟨rfl, ⟨⟨N, rfl⟩⟩⟩
      · have hm := hr.trans (opens_more (show x3 ≤ m by omega))
        clear hr
        have hm := Lib.hid hm
        go_wp2_with fail
        go_round
        case rel => have hm := hm.out; exact ⟨m - x3, by omega, by omega, rfl, (Or.inr (Or.inr (Or.inr (Or.inl ⟨rfl, hm⟩))))⟩
        case measure => simp [intOf]
    · have ik : ∀ w, (Instr.index 138 (.agg #[.int .u64 x1, .int .u64 x2, .int .u64 x3, .int .u64 x4, .int .u64 x5, .int .u64 x6, .int .u64 x7, .int .u64 x8]) (.int .i64 3)).run Try.prog w = .ok (.int .u64 x4) w := fun _ => by kernel_rfl
      by_cases hl : m < x4
      · have hh := HS.out (hr.trans (opens_less hl))
        have hh := Lib.hid (show Ending.returned (.tuple #[.int .u64 0, .bool false]) = Ending.returned (.tuple #[.int .u64 q.1, .bool q.2]) by rw [hh])
        clear hr
        go_wp2_with fail
        go_ret2
        exact ⟨rfl, ⟨⟨N, rfl⟩⟩⟩
      · have hm := hr.trans (opens_more (show x4 ≤ m by omega))
        clear hr
        have hm := Lib.hid hm
        go_wp2_with fail
        go_round
        case rel => have hm := hm.out; exact ⟨m - x4, by omega, by omega, rfl, (Or.inr (Or.inr (Or.inr (Or.inr (Or.inl ⟨rfl, hm⟩)))))⟩
        case measure => simp [intOf]
    · have ik : ∀ w, (Instr.index 138 (.agg #[.int .u64 x1, .int .u64 x2, .int .u64 x3, .int .u64 x4, .int .u64 x5, .int .u64 x6, .int .u64 x7, .int .u64 x8]) (.int .i64 4)).run Try.prog w = .ok (.int .u64 x5) w := fun _ => by kernel_rfl
      by_cases hl : m < x5
      · have hh := HS.out (hr.trans (opens_less hl))
        have hh := Lib.hid (show Ending.returned (.tuple #[.int .u64 0, .bool false]) = Ending.returned (.tuple #[.int .u64 q.1, .bool q.2]) by rw [hh])
        clear hr
        go_wp2_with fail
        go_ret2
        exact ⟨rfl, ⟨⟨N, rfl⟩⟩⟩
      · have hm := hr.trans (opens_more (show x5 ≤ m by omega))
        clear hr
        have hm := Lib.hid hm
        go_wp2_with fail
        go_round
        case rel => have hm := hm.out; exact ⟨m - x5, by omega, by omega, rfl, (Or.inr (Or.inr (Or.inr (Or.inr (Or.inr (Or.inl ⟨rfl, hm⟩))))))⟩
        case measure => simp [intOf]
    · have ik : ∀ w, (Instr.index 138 (.agg #[.int .u64 x1, .int .u64 x2, .int .u64 x3, .int .u64 x4, .int .u64 x5, .int .u64 x6, .int .u64 x7, .int .u64 x8]) (.int .i64 5)).run Try.prog w = .ok (.int .u64 x6) w := fun _ => by kernel_rfl
      by_cases hl : m < x6
      · have hh := HS.out (hr.trans (opens_less hl))
        have hh := Lib.hid (show Ending.returned (.tuple #[.int .u64 0, .bool false]) = Ending.returned (.tuple #[.int .u64 q.1, .bool q.2]) by rw [hh])
        clear hr
        go_wp2_with fail
        go_ret2
        exact ⟨rfl, ⟨⟨N, rfl⟩⟩⟩
      · have hm := hr.trans (opens_more (show x6 ≤ m by omega))
        clear hr
        have hm := Lib.hid hm
        go_wp2_with fail
        go_round
        case rel => have hm := hm.out; exact ⟨m - x6, by omega, by omega, rfl, (Or.inr (Or.inr (Or.inr (Or.inr (Or.inr (Or.inr (Or.inl ⟨rfl, hm⟩)))))))⟩
        case measure => simp [intOf]
    · have ik : ∀ w, (Instr.index 138 (.agg #[.int .u64 x1, .int .u64 x2, .int .u64 x3, .int .u64 x4, .int .u64 x5, .int .u64 x6, .int .u64 x7, .int .u64 x8]) (.int .i64 6)).run Try.prog w = .ok (.int .u64 x7) w := fun _ => by kernel_rfl
      by_cases hl : m < x7
      · have hh := HS.out (hr.trans (opens_less hl))
        have hh := Lib.hid (show Ending.returned (.tuple #[.int .u64 0, .bool false]) = Ending.returned (.tuple #[.int .u64 q.1, .bool q.2]) by rw [hh])
        clear hr
        go_wp2_with fail
        go_ret2
        exact ⟨rfl, ⟨⟨N, rfl⟩⟩⟩
      · have hm := hr.trans (opens_more (show x7 ≤ m by omega))
        clear hr
        have hm := Lib.hid hm
        go_wp2_with fail
        go_round
        case rel => have hm := hm.out; exact ⟨m - x7, by omega, by omega, rfl, (Or.inr (Or.inr (Or.inr (Or.inr (Or.inr (Or.inr (Or.inr (Or.inl ⟨rfl, hm⟩))))))))⟩
        case measure => simp [intOf]
    · have ik : ∀ w, (Instr.index 138 (.agg #[.int .u64 x1, .int .u64 x2, .int .u64 x3, .int .u64 x4, .int .u64 x5, .int .u64 x6, .int .u64 x7, .int .u64 x8]) (.int .i64 7)).run Try.prog w = .ok (.int .u64 x8) w := fun _ => by kernel_rfl
      by_cases hl : m < x8
      · have hh := HS.out (hr.trans (opens_less hl))
        have hh := Lib.hid (show Ending.returned (.tuple #[.int .u64 0, .bool false]) = Ending.returned (.tuple #[.int .u64 q.1, .bool q.2]) by rw [hh])
        clear hr
        go_wp2_with fail
        go_ret2
        exact ⟨rfl, ⟨⟨N, rfl⟩⟩⟩
      · have hm := hr.trans (opens_more (show x8 ≤ m by omega))
        clear hr
        have hm := Lib.hid hm
        go_wp2_with fail
        go_round
        case rel => have hm := hm.out; exact ⟨m - x8, by omega, by omega, rfl, (Or.inr (Or.inr (Or.inr (Or.inr (Or.inr (Or.inr (Or.inr (Or.inr ⟨rfl, hm⟩))))))))⟩
        case measure => simp [intOf]
    · have hh := HT.out _ hr
      have hh := Lib.hid (show Ending.returned (.tuple #[.int .u64 m, .bool true]) = Ending.returned (.tuple #[.int .u64 q.1, .bool q.2]) by rw [hh])
      clear hr
      go_wp2_with fail
      go_ret2
      exact ⟨rfl, ⟨⟨N, rfl⟩⟩⟩
end Go.Proofs.Ytjkaldnhfenbhaa.Ledger
