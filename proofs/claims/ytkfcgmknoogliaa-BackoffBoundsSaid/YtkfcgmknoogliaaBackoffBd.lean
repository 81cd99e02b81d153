/- The walk of BackoffBounds. -/
import Derived.Test.YtkfcgmknoogliaaBackoffLaw
set_option linter.unusedVariables false
namespace Go.Proofs.Ytkfcgmknoogliaa.Backoff
open Go.RowKit Go.Proofs.YtkfcgmknoogliaaW.PrintWords Go.Proofs.YtkfcgmknoogliaaW.PrintLast Go.Proofs.Ytkfcgmknoogliaa.PBackoffWaits

theorem longOf_up (b l : Int) (h1 : 1 ≤ b) (h2 : b ≤ l) (n : Nat) : longOf b l n ≤ longOf b l (n + 1) := by
  have := longOf_bd b l h1 h2 n
  rw [show longOf b l (n + 1) = if 2 * longOf b l n > l then l else 2 * longOf b l n from rfl]
  split <;> omega

/-- the last wait without jitter; 0: none yet -/
def lastOf (b l : Int) : Nat → Int
  | 0 => 0
  | n + 1 => longOf b l n
theorem lastOf_le (b l : Int) (h1 : 1 ≤ b) (h2 : b ≤ l) (n : Nat) : 0 ≤ lastOf b l n ∧ lastOf b l n ≤ longOf b l n := by
  cases n with
  | zero => have := longOf_bd b l h1 h2 0; exact ⟨Int.le_refl _, by simp only [lastOf]; omega⟩
  | succ n => have := longOf_bd b l h1 h2 n; exact ⟨by simp only [lastOf]; omega, longOf_up b l h1 h2 n⟩

/-- what both waits are, round by round -/
def Two (w wr : World) (g m : Nat) (b lim : Int) (n : Nat) : Prop := IsS68 w wr g b lim n ∧ IsS68 w wr m b lim n ∧ Below w.heap.size w wr

set_option maxRecDepth 100000 in
set_option maxHeartbeats 2000000 in
theorem bounds_bad (A0 : Option Addr) (c0 : Nat) (b lim : Int) (l : List Int) (w : World) (h : b < 1 ∨ lim < b ∨ 1000000 < lim) :
    Calls Try.prog 11 #[.int .i64 b, .int .i64 lim, .slice A0 l.length c0] w fun e w' => e = .returned (.bool true) ∧ Below w.heap.size w w' := by
  have he := Err.eql_err
  have hu := Try.underlying46
  have H := Lib.hid h
  clear h
  go_enter Try.func11, Try.ntmps11
  go_wp2_with fail
  refine (up_any _).mono ?_
  rintro e w1 ⟨rfl, hb⟩
  go_wp2_with fail
  refine (new_bad b lim _ H.out).mono ?_
  rintro e w2 ⟨rfl, rfl⟩
  go_wp2_with fail
  refine (new_bad b lim _ H.out).mono ?_
  rintro e w2 ⟨rfl, rfl⟩
  go_wp2_with fail
  go_ret
  exact ⟨rfl, hb⟩

set_option maxRecDepth 100000 in
set_option maxHeartbeats 2000000 in
theorem bounds_long (A0 : Option Addr) (c0 : Nat) (b lim : Int) (l : List Int) (w : World) (h : 1 ≤ b ∧ b ≤ lim ∧ lim ≤ 1000000) (hl : 300 < l.length) (hm : l.length ≤ 9223372036854775807) :
    Calls Try.prog 11 #[.int .i64 b, .int .i64 lim, .slice A0 l.length c0] w fun e w' => e = .returned (.bool true) ∧ Below w.heap.size w w' := by
  have he := Err.eql_err
  have hu := Try.underlying46
  have H := Lib.hid h
  clear h
  go_enter Try.func11, Try.ntmps11
  go_wp2_with fail
  refine (up_any _).mono ?_
  rintro e w1 ⟨rfl, hb⟩
  go_wp2_with fail
  refine (new_wait b lim w _ hb H.out).mono ?_
  rintro e w2 ⟨g, rfl, -, hb2, -, -⟩
  go_wp2_with fail
  refine (new_wait b lim w _ hb2 H.out).mono ?_
  rintro e w2 ⟨m, rfl, -, hb3, -, -⟩
  go_wp2_with fail
  go_ret
  exact ⟨rfl, hb3⟩

set_option maxRecDepth 100000 in
set_option maxHeartbeats 8000000 in
theorem bounds_some (ad : Addr) (c0 : Nat) (b lim : Int) (l : List Int) (w : World) (h : 1 ≤ b ∧ b ≤ lim ∧ lim ≤ 1000000) (hc : ∀ j, j < l.length → w.cell? (ad.add j) = some (.int .i64 (l.getD j 0))) (hl : l.length ≤ 300) :
    Calls Try.prog 11 #[.int .i64 b, .int .i64 lim, .slice (some ad) l.length c0] w fun e w' => e = .returned (.bool true) ∧ Below w.heap.size w w' := by
  have he := Err.eql_err
  have hu := Try.underlying46
  obtain ⟨b1, b2, b3⟩ := h
  have H := Lib.hid (show 1 ≤ b ∧ b ≤ lim ∧ lim ≤ 1000000 from ⟨b1, b2, b3⟩)
  have HR := Lib.hid hc
  clear hc
  go_enter Try.func11, Try.ntmps11
  go_wp2_with fail
  refine (up_any _).mono ?_
  rintro e w1 ⟨rfl, hb⟩
  go_wp2_with fail
  refine (new_wait b lim w _ hb H.out).mono ?_
  rintro e w2 ⟨g, rfl, hs, hb2, hb3, hg⟩
  have HS := Lib.hid hs
  clear hs hb3 hg
  go_wp2_with fail
  refine (new_wait b lim w _ hb2 H.out).mono ?_
  rintro e w3 ⟨m, rfl, hs, hb4, hb5, hg⟩
  have HN := Lib.hid (show g ≠ m by have := blk_lt HS.out.1; omega)
  have HX := Lib.hid (show Two w w3 g m b lim 0 from ⟨HS.out.below hb5, hs, hb4⟩)
  clear hs hb4 hb5 hg hb hb2 HS
  go_wp2_with fail
  go_loopw [13, 12] (fun i last wr => ∃ k : Nat, k ≤ l.length ∧ i = .int .i64 k ∧ last = .int .i64 (lastOf b lim k) ∧ Two w wr g m b lim k) (fun i _ _ => l.length - (intOf i).toNat)
  case atStart => exact ⟨0, Nat.zero_le _, rfl, rfl, HX.out⟩
  case round =>
    obtain ⟨k, hk, rfl, rfl, hX⟩ := hrel
    have HX := Lib.hid hX
    clear hX
    by_cases hlt : k < l.length
    · obtain ⟨x, HCW⟩ : ∃ x, Hid (∀ w', Below w.heap.size w w' → w'.cell? (ad.add k) = some (.int .i64 x)) := ⟨l.getD k 0, fun w' hB => (hB.cell (World.block_lt_of_cell? w _ (HR.out k hlt))).trans (HR.out k hlt)⟩
      have hcell := HCW.out wr HX.out.2.2
      go_wp2_with fail
      refine (fail_any g b lim x k w wr H.out.1 H.out.2.1 H.out.2.2 (by omega) HX.out.1 HX.out.2.2).mono ?_
      rintro e w4 ⟨rfl, hI4, hB4, hk4⟩
      have HI4 := Lib.hid hI4
      have HB4 := Lib.hid hB4
      have HM4 := Lib.hid (keep_wait HX.out.2.1 hk4 HN.out.symm)
      clear hI4 hB4 hk4 hcell
      go_wp2_with fail
      refine (fail_any m b lim 0 k w w4 H.out.1 H.out.2.1 H.out.2.2 (by omega) HM4.out HB4.out).mono ?_
      rintro e w5 ⟨rfl, hI5, hB5, hk5⟩
      rw [wait_none]
      have HX5 := Lib.hid (show Two w w5 g m b lim (k + 1) from ⟨keep_wait HI4.out hk5 HN.out, hI5, hB5⟩)
      clear hI5 hB5 hk5
      obtain ⟨L, eL⟩ : ∃ L, L = longOf b lim k := ⟨_, rfl⟩
      obtain ⟨q, eq⟩ : ∃ q, q = waitOf L x := ⟨_, rfl⟩
      obtain ⟨last, el⟩ : ∃ last, last = lastOf b lim k := ⟨_, rfl⟩
      have hL := longOf_bd b lim b1 b2 k
      have hl2 := lastOf_le b lim b1 b2 k
      rw [← eL] at hL hl2 ⊢
      have hq := wait_bd L x hL.1
      rw [← eq] at hq ⊢
      rw [← el] at hl2 ⊢
      obtain ⟨q1, q2, q3⟩ := hq
      obtain ⟨L1, L2, L3⟩ := hL
      obtain ⟨l1, l2⟩ := hl2
      have EL := Lib.hid eL
      clear eL eq el
      go_wp2_with fail
      go_roundw
      case rel => exact ⟨k + 1, by omega, by go_num, by rw [EL.out]; rfl, HX5.out⟩
      case measure => simp [intOf]; omega
    · go_wp2_with fail
      refine (backoff_Wait_Good.calls g b lim k _ _ _ w wr HX.out.1 HX.out.2.2 rfl).mono ?_
      rintro e w4 ⟨rfl, hI4, hB4, hk4⟩
      go_wp2_with fail
      refine (fail_any g b lim 0 0 w w4 H.out.1 H.out.2.1 H.out.2.2 (by omega) hI4 hB4).mono ?_
      rintro e w5 ⟨rfl, hI5, hB5, hk5⟩
      rw [wait_none, show longOf b lim 0 = b from rfl]
      go_wp2_with fail
      go_ret
      exact ⟨by simp, hB5⟩

set_option maxRecDepth 100000 in
set_option maxHeartbeats 8000000 in
theorem bounds_none (A0 : Option Addr) (c0 : Nat) (b lim : Int) (w : World) (h : 1 ≤ b ∧ b ≤ lim ∧ lim ≤ 1000000) :
    Calls Try.prog 11 #[.int .i64 b, .int .i64 lim, .slice A0 0 c0] w fun e w' => e = .returned (.bool true) ∧ Below w.heap.size w w' := by
  have he := Err.eql_err
  have hu := Try.underlying46
  obtain ⟨b1, b2, b3⟩ := h
  have H := Lib.hid (show 1 ≤ b ∧ b ≤ lim ∧ lim ≤ 1000000 from ⟨b1, b2, b3⟩)
  go_enter Try.func11, Try.ntmps11
  go_wp2_with fail
  refine (up_any _).mono ?_
  rintro e w1 ⟨rfl, hb⟩
  go_wp2_with fail
  refine (new_wait b lim w _ hb H.out).mono ?_
  rintro e w2 ⟨g, rfl, hs, hb2, hb3, hg⟩
  have HS := Lib.hid hs
  clear hs hb3 hg
  go_wp2_with fail
  refine (new_wait b lim w _ hb2 H.out).mono ?_
  rintro e w3 ⟨m, rfl, hs, hb4, hb5, hg⟩
  have HN := Lib.hid (show g ≠ m by have := blk_lt HS.out.1; omega)
  have HX := Lib.hid (show Two w w3 g m b lim 0 from ⟨HS.out.below hb5, hs, hb4⟩)
  clear hs hb4 hb5 hg hb hb2 HS
  go_wp2_with fail
  go_loopw [13, 12] (fun i last wr => i = .int .i64 ((0 : Nat) : Int) ∧ last = .int .i64 0 ∧ Two w wr g m b lim 0) (fun i _ _ => 0)
  case atStart => exact ⟨rfl, rfl, HX.out⟩
  case round =>
    obtain ⟨rfl, rfl, hX⟩ := hrel
    have HX := Lib.hid hX
    clear hX
    go_wp2_with fail
    refine (backoff_Wait_Good.calls g b lim 0 _ _ _ w wr HX.out.1 HX.out.2.2 rfl).mono ?_
    rintro e w4 ⟨rfl, hI4, hB4, hk4⟩
    go_wp2_with fail
    refine (fail_any g b lim 0 0 w w4 H.out.1 H.out.2.1 H.out.2.2 (by omega) hI4 hB4).mono ?_
    rintro e w5 ⟨rfl, hI5, hB5, hk5⟩
    rw [wait_none, show longOf b lim 0 = b from rfl]
    go_wp2_with fail
    go_ret
    exact ⟨by simp, hB5⟩

theorem bounds_any (A0 : Option Addr) (c0 : Nat) (b lim : Int) (l : List Int) (w : World) (hr : Kd.C (Kd.int .i64) w A0 l.length l) :
    Calls Try.prog 11 #[.int .i64 b, .int .i64 lim, .slice A0 l.length c0] w fun e w' => e = .returned (.bool true) ∧ Below w.heap.size w w' := by
  by_cases h : 1 ≤ b ∧ b ≤ lim ∧ lim ≤ 1000000
  · by_cases hl : l.length ≤ 300
    · rcases Lists.C_ints hr with rfl | ⟨ad, rfl, hc⟩
      · exact bounds_none A0 c0 b lim w h
      · exact bounds_some ad c0 b lim l w h hc hl
    · exact bounds_long A0 c0 b lim l w h (by omega) (Lists.len_max hr)
  · exact bounds_bad A0 c0 b lim l w (by omega)
end Go.Proofs.Ytkfcgmknoogliaa.Backoff
