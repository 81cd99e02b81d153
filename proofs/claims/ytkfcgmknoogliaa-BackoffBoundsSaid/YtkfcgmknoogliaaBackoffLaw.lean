/- The walks of layer 22's statements. -/
import Derived.Test.YtkfcgmknoogliaaBackoffW
import Derived.Test.YtkfcgmknoogliaaLists
set_option linter.unusedVariables false
namespace Go.Proofs.Ytkfcgmknoogliaa.Backoff
open Go.RowKit Go.Proofs.YtkfcgmknoogliaaW.PrintWords Go.Proofs.YtkfcgmknoogliaaW.PrintLast Go.Proofs.Ytkfcgmknoogliaa.PBackoffWaits

theorem good_any (g : Nat) (b l n : Int) (w0 w : World) (hI : IsS43 w0 w g b l n) (hB : Below w0.heap.size w0 w) (h : 1 ≤ b ∧ b ≤ l ∧ l ≤ 1000000) :
    Calls Try.prog 29 #[.pointer (some ⟨g, 0, none⟩)] w fun e w' => e = .returned (.bool true) ∧ IsS43 w0 w' g b l n ∧ Below w0.heap.size w0 w' ∧ KeepBut w w' g none :=
  nogginref22_Wait_Good.calls g b l n _ _ _ _ w0 w hI hB (by unfold nogginref22_Wait_Good.f; rw [if_pos h.1, if_pos h.2.1, decide_eq_true h.2.2])
theorem bad_any (g : Nat) (b l n : Int) (w0 w : World) (hI : IsS43 w0 w g b l n) (hB : Below w0.heap.size w0 w) (h : b < 1 ∨ l < b ∨ 1000000 < l) :
    Calls Try.prog 29 #[.pointer (some ⟨g, 0, none⟩)] w fun e w' => e = .returned (.bool false) ∧ IsS43 w0 w' g b l n ∧ Below w0.heap.size w0 w' ∧ KeepBut w w' g none :=
  nogginref22_Wait_Good.calls g b l n _ _ _ _ w0 w hI hB (by
    unfold nogginref22_Wait_Good.f
    by_cases h1 : b ≥ 1
    · by_cases h2 : b ≤ l
      · rw [if_pos h1, if_pos h2, decide_eq_false (by omega)]
      · rw [if_pos h1, if_neg h2]
    · rw [if_neg h1])

theorem isR_new (w0 w : World) (hB : Below w0.heap.size w0 w) (b l : Int) : IsS43 w0 (w.alloc (.cells #[.int .i64 b, .int .i64 l, .int .i64 0] 43)) w.heap.size b l 0 := IsS43.new w0 w b l 0 hB

set_option maxRecDepth 100000 in
set_option maxHeartbeats 2000000 in
theorem waits_bad (A0 : Option Addr) (c0 : Nat) (b lim : Int) (l : List Int) (w : World) (h : b < 1 ∨ lim < b ∨ 1000000 < lim) :
    Calls Try.prog 10 #[.int .i64 b, .int .i64 lim, .slice A0 l.length c0] w fun e w' => e = .returned (.bool true) ∧ Below w.heap.size w w' := by
  have he := Err.eql_err
  have hu := Try.underlying46
  have H := Lib.hid h
  clear h
  go_enter Try.func10, Try.ntmps10
  go_wp2_with fail
  refine (up_any _).mono ?_
  rintro e w1 ⟨rfl, hb⟩
  have HI := Lib.hid (isR_new w w1 hb b lim)
  have HB := Lib.hid (hb.alloc hb.size (.cells #[.int .i64 b, .int .i64 lim, .int .i64 0] 43))
  go_wp2_with fail
  refine (new_bad b lim _ H.out).mono ?_
  rintro e w2 ⟨rfl, rfl⟩
  go_wp2_with fail
  refine (bad_any _ b lim 0 w _ HI.out HB.out H.out).mono ?_
  rintro e w3 ⟨rfl, hI, hB, -⟩
  go_wp2_with fail
  go_ret
  exact ⟨rfl, hB⟩

set_option maxRecDepth 100000 in
set_option maxHeartbeats 2000000 in
theorem waits_long (A0 : Option Addr) (c0 : Nat) (b lim : Int) (l : List Int) (w : World) (h : 1 ≤ b ∧ b ≤ lim ∧ lim ≤ 1000000) (hl : 300 < l.length) (hm : l.length ≤ 9223372036854775807) :
    Calls Try.prog 10 #[.int .i64 b, .int .i64 lim, .slice A0 l.length c0] w fun e w' => e = .returned (.bool true) ∧ Below w.heap.size w w' := by
  have he := Err.eql_err
  have hu := Try.underlying46
  have H := Lib.hid h
  clear h
  go_enter Try.func10, Try.ntmps10
  go_wp2_with fail
  refine (up_any _).mono ?_
  rintro e w1 ⟨rfl, hb⟩
  have HI := Lib.hid (isR_new w w1 hb b lim)
  have HB := Lib.hid (hb.alloc hb.size (.cells #[.int .i64 b, .int .i64 lim, .int .i64 0] 43))
  go_wp2_with fail
  refine (new_good b lim _ H.out.1 H.out.2.1 H.out.2.2).mono ?_
  rintro e w2 ⟨rfl, rfl⟩
  have HI2 := Lib.hid (IsS43.alloc HI.out (.cells #[.int .i64 b, .int .i64 lim, .int .i64 0] 68))
  have HB2 := Lib.hid (HB.out.alloc HB.out.size (.cells #[.int .i64 b, .int .i64 lim, .int .i64 0] 68))
  go_wp2_with fail
  refine (good_any _ b lim 0 w _ HI2.out HB2.out H.out).mono ?_
  rintro e w3 ⟨rfl, hI, hB, -⟩
  go_wp2_with fail
  go_ret
  exact ⟨rfl, hB⟩

/-- a new wait, by what is known of it -/
theorem new_wait (b lim : Int) (w0 w : World) (hB : Below w0.heap.size w0 w) (h : 1 ≤ b ∧ b ≤ lim ∧ lim ≤ 1000000) :
    Calls Try.prog 28 #[.int .i64 b, .int .i64 lim] w fun e w' => ∃ g, e = .returned (.tuple #[.pointer (some ⟨g, 0, none⟩), .nilIface]) ∧ IsS68 w0 w' g b lim 0 ∧ Below w0.heap.size w0 w' ∧ Below w.heap.size w w' ∧ w.heap.size ≤ g :=
  (new_good b lim w h.1 h.2.1 h.2.2).mono fun e w' ⟨he, hw⟩ => by
    subst hw
    exact ⟨w.heap.size, he, isS_new w0 w hB b lim, hB.alloc hB.size _, (Below.refl _ _).alloc (Nat.le_refl _) _, Nat.le_refl _⟩

theorem below_ref (g : Nat) (b l n : Int) (w0 w w1 : World) (hI : IsS43 w0 w g b l n) (h : Below w.heap.size w w1) : IsS43 w0 w1 g b l n := hI.below h
theorem keep_wait {g g' : Nat} {b l n : Int} {w0 w w1 : World} (hI : IsS68 w0 w g b l n) (hk : KeepBut w w1 g' none) (hne : g ≠ g') : IsS68 w0 w1 g b l n := ⟨hk.blk hI.1 hne (by simp), hI.2⟩
theorem keep_ref {g g' : Nat} {b l n : Int} {w0 w w1 : World} (hI : IsS43 w0 w g b l n) (hk : KeepBut w w1 g' none) (hne : g ≠ g') : IsS43 w0 w1 g b l n := ⟨hk.blk hI.1 hne (by simp), hI.2⟩

/-- one failure more, the document's -/
theorem ref_any (g : Nat) (b l j : Int) (n : Nat) (w0 w : World) (h1 : 1 ≤ b) (h2 : b ≤ l) (h3 : l ≤ 1000000) (hn : n ≤ 1000) (hI : IsS43 w0 w g b l n) (hB : Below w0.heap.size w0 w) :
    Calls Try.prog 32 #[.pointer (some ⟨g, 0, none⟩), .int .i64 j] w fun e w' => e = .returned (.int .i64 (waitOf (longOf b l n) j)) ∧ IsS43 w0 w' g b l ((n : Int) + 1) ∧ Below w0.heap.size w0 w' ∧ KeepBut w w' g none :=
  nogginref22_Wait_Fail.calls (2 * n + 2) g b l n j _ _ _ _ w0 w hI hB (ref_eq b l j n h1 h2 h3 hn)

/-- how many failures there were -/
theorem fails_any (g : Nat) (b l n : Int) (w0 w : World) (hI : IsS68 w0 w g b l n) :
    Calls Try.prog 33 #[.pointer (some ⟨g, 0, none⟩)] w fun e w' => e = .returned (.int .i64 n) ∧ w = w' := by
  have hc := (blk_cell hI.1 2).trans rfl
  clear hI
  go_enter Try.func33, Try.ntmps33
  go_wp2
  go_ret
  exact ⟨rfl, rfl⟩

/-- what both waits are, round by round -/
def Both (w wr : World) (g m : Nat) (b lim : Int) (n : Nat) : Prop := IsS68 w wr g b lim n ∧ IsS43 w wr m b lim n ∧ Below w.heap.size w wr
theorem Both.drew {w wr : World} {g m : Nat} {b lim : Int} {n : Nat} (h : Both w wr g m b lim n) : Both w wr.drew g m b lim n := ⟨h.1, h.2.1, below_drew h.2.2⟩

set_option maxRecDepth 100000 in
set_option maxHeartbeats 4000000 in
theorem waits_some (ad : Addr) (c0 : Nat) (b lim : Int) (l : List Int) (w : World) (h : 1 ≤ b ∧ b ≤ lim ∧ lim ≤ 1000000) (hc : ∀ j, j < l.length → w.cell? (ad.add j) = some (.int .i64 (l.getD j 0))) (hl : l.length ≤ 300) :
    Calls Try.prog 10 #[.int .i64 b, .int .i64 lim, .slice (some ad) l.length c0] w fun e w' => e = .returned (.bool true) ∧ Below w.heap.size w w' := by
  have he := Err.eql_err
  have hu := Try.underlying46
  have H := Lib.hid h
  have HR := Lib.hid hc
  clear h hc
  go_enter Try.func10, Try.ntmps10
  go_wp2_with fail
  refine (up_any _).mono ?_
  rintro e w1 ⟨rfl, hb⟩
  have HI := Lib.hid (isR_new w w1 hb b lim)
  have HB := Lib.hid (hb.alloc hb.size (.cells #[.int .i64 b, .int .i64 lim, .int .i64 0] 43))
  go_wp2_with fail
  refine (new_wait b lim w _ HB.out H.out).mono ?_
  rintro e w2 ⟨g, rfl, hs, hb2, hb3, hg⟩
  have HI2 := Lib.hid (below_ref _ b lim 0 w _ _ HI.out hb3)
  have HB2 := Lib.hid hb2
  have HS2 := Lib.hid hs
  have HN := Lib.hid (show g ≠ w1.heap.size by rw [World.size_alloc] at hg; omega)
  clear hs hb2 hb3 hg
  go_wp2_with fail
  refine (good_any _ b lim 0 w _ HI2.out HB2.out H.out).mono ?_
  rintro e w3 ⟨rfl, hI, hB, hk⟩
  have HX := Lib.hid (show Both w w3 g w1.heap.size b lim 0 from ⟨keep_wait HS2.out hk HN.out, hI, hB⟩)
  clear hI hB hk HI2 HB2 HS2 HI HB hb
  go_wp2_with fail
  go_loopw [11] (fun i wr => ∃ k n : Nat, k ≤ l.length ∧ n ≤ k ∧ i = .int .i64 k ∧ Both w wr g w1.heap.size b lim n) (fun i _ => l.length - (intOf i).toNat)
  case atStart => exact ⟨0, 0, Nat.zero_le _, Nat.le_refl _, rfl, HX.out⟩
  case round =>
    obtain ⟨k, n, hk, hn, rfl, hX⟩ := hrel
    have HX := Lib.hid hX
    clear hX
    by_cases hlt : k < l.length
    · obtain ⟨x, HCW⟩ : ∃ x, Hid (∀ w', Below w.heap.size w w' → w'.cell? (ad.add k) = some (.int .i64 x)) := ⟨l.getD k 0, fun w' hB => (hB.cell (World.block_lt_of_cell? w _ (HR.out k hlt))).trans (HR.out k hlt)⟩
      have hcell := HCW.out wr HX.out.2.2
      by_cases h1 : x = -1
      · have h1b : (x == -1) = true := beq_iff_eq.2 h1
        go_wp2_with fail
        refine (backoff_Wait_Good.calls g b lim n _ _ _ w wr HX.out.1 HX.out.2.2 rfl).mono ?_
        rintro e w4 ⟨rfl, hI4, hB4, hk4⟩
        have HM4 := Lib.hid (keep_ref HX.out.2.1 hk4 HN.out.symm)
        have hcm := (blk_cell HM4.out.1 2).trans rfl
        have hfm := blk_frozen HM4.out.1 2
        have HX4 := Lib.hid (show Both w (w4.setCell ⟨w1.heap.size, 2, none⟩ (.int .i64 0)) g w1.heap.size b lim 0 from ⟨IsS68.far hI4 HN.out _, IsS43.set_2 HM4.out 0, hB4.setCell HM4.out.2 _⟩)
        clear hI4 hB4 hk4 hcell h1b h1
        go_wp2_with fail
        have hcell5 := (blk_cell HX4.out.2.1.1 2).trans rfl
        go_region_held3 (fun w' => w'.cell? ⟨w1.heap.size, 2, none⟩ = some (.int .i64 ((0 : Nat) : Int))) (exact hcell5)
          (first
            | (go_at_call 33; refine (fails_any g b lim _ w _ (by exact HX4.out.1)).mono ?_; rintro e w6 ⟨rfl, rfl⟩))
        go_wp2_with fail
        go_roundw
        case rel => exact ⟨k + 1, 0, by omega, by omega, by go_num, HX4.out.drew⟩
        case measure => simp [intOf]; omega
      · have h1b : (x == -1) = false := beq_eq_false_iff_ne.2 h1
        go_wp2_with fail
        go_region_held3 (fun w' => w'.cell? (ad.add k) = some (.int .i64 x)) (first | exact hcell | exact HCW.out _ hB5 | exact HCW.out _ hB4)
          (first
            | (go_at_call 31; refine (fail_any g b lim _ n w _ H.out.1 H.out.2.1 H.out.2.2 (by omega) (by exact HX.out.1) (by first | exact HX.out.2.2 | exact below_drew HX.out.2.2 | exact pw_below_drewN HX.out.2.2 _)).mono ?_; rintro e w4 ⟨rfl, hI4, hB4, hk4⟩)
            | (go_at_call 32; refine (ref_any w1.heap.size b lim _ n w _ H.out.1 H.out.2.1 H.out.2.2 (by omega) (by exact keep_ref HX.out.2.1 hk4 HN.out.symm) (by first | exact hB4 | exact below_drew hB4 | exact pw_below_drewN hB4 _)).mono ?_; rintro e w5 ⟨rfl, hI5, hB5, hk5⟩))
        have HX5 := Lib.hid (show Both w w5 g w1.heap.size b lim (n + 1) from ⟨keep_wait hI4 hk5 HN.out, hI5, hB5⟩)
        clear hI4 hB4 hk4 hI5 hB5 hk5 hcell h1b h1
        have hcell5 := (blk_cell HX5.out.2.1.1 2).trans rfl
        go_wp2_with fail
        go_region_held3 (fun w' => w'.cell? ⟨w1.heap.size, 2, none⟩ = some (.int .i64 ((n + 1 : Nat) : Int))) (exact hcell5)
          (first
            | (go_at_call 33; refine (fails_any g b lim _ w _ (by exact HX5.out.1)).mono ?_; rintro e w6 ⟨rfl, rfl⟩))
        go_wp2_with fail
        go_roundw
        case rel => exact ⟨k + 1, n + 1, by omega, by omega, by go_num, HX5.out.drew⟩
        case measure => simp [intOf]; omega
    · go_wp2_with fail
      go_ret
      exact ⟨rfl, HX.out.2.2⟩
set_option maxRecDepth 100000 in
set_option maxHeartbeats 4000000 in
theorem waits_none (A0 : Option Addr) (c0 : Nat) (b lim : Int) (w : World) (h : 1 ≤ b ∧ b ≤ lim ∧ lim ≤ 1000000) :
    Calls Try.prog 10 #[.int .i64 b, .int .i64 lim, .slice A0 0 c0] w fun e w' => e = .returned (.bool true) ∧ Below w.heap.size w w' := by
  have he := Err.eql_err
  have hu := Try.underlying46
  have H := Lib.hid h
  clear h
  go_enter Try.func10, Try.ntmps10
  go_wp2_with fail
  refine (up_any _).mono ?_
  rintro e w1 ⟨rfl, hb⟩
  have HI := Lib.hid (isR_new w w1 hb b lim)
  have HB := Lib.hid (hb.alloc hb.size (.cells #[.int .i64 b, .int .i64 lim, .int .i64 0] 43))
  go_wp2_with fail
  refine (new_wait b lim w _ HB.out H.out).mono ?_
  rintro e w2 ⟨g, rfl, hs, hb2, hb3, hg⟩
  have HI2 := Lib.hid (below_ref _ b lim 0 w _ _ HI.out hb3)
  have HB2 := Lib.hid hb2
  have HS2 := Lib.hid hs
  have HN := Lib.hid (show g ≠ w1.heap.size by rw [World.size_alloc] at hg; omega)
  clear hs hb2 hb3 hg
  go_wp2_with fail
  refine (good_any _ b lim 0 w _ HI2.out HB2.out H.out).mono ?_
  rintro e w3 ⟨rfl, hI, hB, hk⟩
  have HX := Lib.hid (show Both w w3 g w1.heap.size b lim 0 from ⟨keep_wait HS2.out hk HN.out, hI, hB⟩)
  clear hI hB hk HI2 HB2 HS2 HI HB hb
  go_wp2_with fail
  go_loopw [11] (fun i wr => i = .int .i64 ((0 : Nat) : Int) ∧ Below w.heap.size w wr) (fun i _ => 0)
  case atStart => exact ⟨rfl, HX.out.2.2⟩
  case round =>
    obtain ⟨rfl, hX⟩ := hrel
    go_wp2_with fail
    go_ret
    exact ⟨rfl, hX⟩

theorem waits_any (A0 : Option Addr) (c0 : Nat) (b lim : Int) (l : List Int) (w : World) (hr : Kd.C (Kd.int .i64) w A0 l.length l) :
    Calls Try.prog 10 #[.int .i64 b, .int .i64 lim, .slice A0 l.length c0] w fun e w' => e = .returned (.bool true) ∧ Below w.heap.size w w' := by
  by_cases h : 1 ≤ b ∧ b ≤ lim ∧ lim ≤ 1000000
  · by_cases hl : l.length ≤ 300
    · rcases Lists.C_ints hr with rfl | ⟨ad, rfl, hc⟩
      · exact waits_none A0 c0 b lim w h
      · exact waits_some ad c0 b lim l w h hc hl
    · exact waits_long A0 c0 b lim l w h (by omega) (Lists.len_max hr)
  · exact waits_bad A0 c0 b lim l w (by omega)
end Go.Proofs.Ytkfcgmknoogliaa.Backoff
