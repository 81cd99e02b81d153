/- The walks of layer 16's statements. -/
import Derived.Test.YtkfcgmknoogliaaLevelW
import Derived.Deep.RegionWith
set_option linter.unusedVariables false
namespace Go.Proofs.Ytkfcgmknoogliaa.Level
open Go.RowKit Go.Proofs.YtkfcgmknoogliaaW.PrintWords Go.Proofs.YtkfcgmknoogliaaW.PrintLast Go.Proofs.Ytkfcgmknoogliaa.PLevelTells

theorem plain_good : goodG 2 1 3 1 := ⟨by decide, by decide, by decide, by decide, by decide, by decide, by decide⟩
theorem odd_bad : ¬ goodG 0 1 3 1 := fun h => absurd h.1 (by decide)

set_option maxRecDepth 100000 in
set_option maxHeartbeats 2000000 in
theorem up_any (w : World) : Calls Try.prog 34 #[] w fun e w' => e = .returned (.bool true) ∧ Below w.heap.size w w' := by
  have he := Err.eql_err
  have hu := Try.underlying46
  have f0 := Lib.hid (show tellG 2 1 3 1 0 0 4 = (1, 0) by decide)
  have f1 := Lib.hid (show tellG 2 1 3 1 1 0 0 = (0, 0) by decide)
  go_enter Try.func34, Try.ntmps34
  go_wp2_with fail
  refine (new_good 2 1 3 1 w w (Below.refl _ _) plain_good).mono ?_
  rintro e w1 ⟨g, rfl, hI, hB, -, -⟩
  have HI := Lib.hid hI
  have HB := Lib.hid hB
  clear hI hB
  go_wp2_with fail
  refine (new_bad 0 1 3 1 _ odd_bad).mono ?_
  rintro e w2 ⟨rfl, rfl⟩
  go_wp2_with fail
  refine (tell_any g 2 1 3 1 0 0 4 w _ HI.out HB.out plain_good (by decide) (by decide) (by decide) (by decide)).mono ?_
  rw [f0.out]
  rintro e w1 ⟨rfl, hI, hB, -⟩
  have HI := Lib.hid hI
  have HB := Lib.hid hB
  clear hI hB
  go_wp2_with fail
  refine (tell_any g 2 1 3 1 1 0 0 w _ HI.out HB.out plain_good (by decide) (by decide) (by decide) (by decide)).mono ?_
  rw [f1.out]
  rintro e w1 ⟨rfl, hI, hB, -⟩
  have HI := Lib.hid hI
  have HB := Lib.hid hB
  clear hI hB
  go_wp2_with fail
  refine (level_any g 2 1 3 1 0 0 w _ HI.out).mono ?_
  rintro e w1 ⟨rfl, rfl⟩
  go_wp2_with fail
  go_ret
  exact ⟨rfl, HB.out⟩

theorem good_yes (g : Nat) (lv lo hi ho n h : Int) (w0 w : World) (hI : IsS58 w0 w g lv lo hi ho n h) (hB : Below w0.heap.size w0 w) (gd : goodG lv lo hi ho) :
    Calls Try.prog 36 #[.pointer (some ⟨g, 0, none⟩)] w fun e w' => e = .returned (.bool true) ∧ IsS58 w0 w' g lv lo hi ho n h ∧ Below w0.heap.size w0 w' ∧ KeepBut w w' g none :=
  nogginref14_Gauge_Good.calls g lv lo hi ho n h _ _ _ _ _ _ _ w0 w hI hB (by
    obtain ⟨g1, g2, g3, g4, g5, g6, g7⟩ := gd
    unfold nogginref14_Gauge_Good.f
    rw [if_pos g1, if_pos g2, if_pos g3, if_pos g4, if_pos g5, if_pos g6, decide_eq_true g7])
theorem good_no (g : Nat) (lv lo hi ho n h : Int) (w0 w : World) (hI : IsS58 w0 w g lv lo hi ho n h) (hB : Below w0.heap.size w0 w) (gd : ¬ goodG lv lo hi ho) :
    Calls Try.prog 36 #[.pointer (some ⟨g, 0, none⟩)] w fun e w' => e = .returned (.bool false) ∧ IsS58 w0 w' g lv lo hi ho n h ∧ Below w0.heap.size w0 w' ∧ KeepBut w w' g none :=
  nogginref14_Gauge_Good.calls g lv lo hi ho n h _ _ _ _ _ _ _ w0 w hI hB (by
    unfold nogginref14_Gauge_Good.f
    repeat' split
    all_goals first | rfl | skip
    rw [decide_eq_false (fun h7 => gd ⟨by assumption, by assumption, by assumption, by assumption, by assumption, by assumption, h7⟩)])

theorem tell_as (g : Nat) (lv lo hi ho n h d n' h' : Int) (w0 w : World) (E : tellG lv lo hi ho n h d = (n', h')) (hI : IsS70 w0 w g lv lo hi ho n h) (hB : Below w0.heap.size w0 w) (gd : goodG lv lo hi ho) (m : 0 ≤ n ∧ n < lv ∧ 0 ≤ h ∧ h < ho) :
    Calls Try.prog 37 #[.pointer (some ⟨g, 0, none⟩), .int .i64 d] w (TellEnds w0 w g lv lo hi ho n' h') := by
  have := tell_any g lv lo hi ho n h d w0 w hI hB gd m.1 m.2.1 m.2.2.1 m.2.2.2
  rwa [E] at this
theorem refTell_as (g : Nat) (lv lo hi ho n h d n' h' : Int) (w0 w : World) (E : tellG lv lo hi ho n h d = (n', h')) (hI : IsS58 w0 w g lv lo hi ho n h) (hB : Below w0.heap.size w0 w) (gd : goodG lv lo hi ho) (m : 0 ≤ n ∧ n < lv ∧ 0 ≤ h ∧ h < ho) :
    Calls Try.prog 38 #[.pointer (some ⟨g, 0, none⟩), .int .i64 d] w fun e w' => e = .returned (.int .i64 n') ∧ IsS58 w0 w' g lv lo hi ho n' h' ∧ Below w0.heap.size w0 w' ∧ KeepBut w w' g none := by
  have := refTell_any g lv lo hi ho n h d w0 w hI hB gd m.1 m.2.1 m.2.2.1 m.2.2.2
  rwa [E] at this

theorem keep_ref {g g' : Nat} {lv lo hi ho n h : Int} {w0 w w1 : World} (hI : IsS58 w0 w g lv lo hi ho n h) (hk : KeepBut w w1 g' none) (hne : g ≠ g') : IsS58 w0 w1 g lv lo hi ho n h := ⟨hk.blk hI.1 hne (by simp), hI.2⟩
theorem keep_gauge {g g' : Nat} {lv lo hi ho n h : Int} {w0 w w1 : World} (hI : IsS70 w0 w g lv lo hi ho n h) (hk : KeepBut w w1 g' none) (hne : g ≠ g') : IsS70 w0 w1 g lv lo hi ho n h := ⟨hk.blk hI.1 hne (by simp), hI.2⟩

/-- what both gauges are, tick by tick -/
def Both (w wr : World) (g m : Nat) (lv lo hi ho n h : Int) : Prop := IsS70 w wr g lv lo hi ho n h ∧ IsS58 w wr m lv lo hi ho n h ∧ Below w.heap.size w wr ∧ (0 ≤ n ∧ n < lv ∧ 0 ≤ h ∧ h < ho)
theorem Both.drew {w wr : World} {g m : Nat} {lv lo hi ho n h : Int} (H : Both w wr g m lv lo hi ho n h) : Both w wr.drew g m lv lo hi ho n h := ⟨H.1, H.2.1, below_drew H.2.2.1, H.2.2.2⟩

set_option maxRecDepth 100000 in
set_option maxHeartbeats 2000000 in
theorem tells_bad (A0 : Option Addr) (c0 : Nat) (lv lo hi ho : Int) (l : List Int) (w : World) (gd : ¬ goodG lv lo hi ho) :
    Calls Try.prog 12 #[.int .i64 lv, .int .i64 lo, .int .i64 hi, .int .i64 ho, .slice A0 l.length c0] w fun e w' => e = .returned (.bool true) ∧ Below w.heap.size w w' := by
  have he := Err.eql_err
  have hu := Try.underlying46
  have H := Lib.hid gd
  clear gd
  go_enter Try.func12, Try.ntmps12
  go_wp2_with fail
  refine (up_any _).mono ?_
  rintro e w1 ⟨rfl, hb⟩
  have hb' := Lib.hid hb
  clear hb
  go_wp2_with fail
  refine (new_bad lv lo hi ho _ H.out).mono ?_
  rintro e w2 ⟨rfl, hw2⟩
  subst hw2
  have hb := hb'.out
  have HI := Lib.hid (IsS58.new w _ lv lo hi ho 0 0 hb)
  have HB := Lib.hid (hb.alloc hb.size (.cells #[.int .i64 lv, .int .i64 lo, .int .i64 hi, .int .i64 ho, .int .i64 0, .int .i64 0] 58))
  go_wp2_with fail
  refine (good_no _ lv lo hi ho 0 0 w _ HI.out HB.out H.out).mono ?_
  rintro e w3 ⟨rfl, hI, hB, -⟩
  go_wp2_with fail
  go_ret
  exact ⟨rfl, hB⟩

set_option maxRecDepth 100000 in
set_option maxHeartbeats 2000000 in
theorem tells_long (A0 : Option Addr) (c0 : Nat) (lv lo hi ho : Int) (l : List Int) (w : World) (gd : goodG lv lo hi ho) (hl : 2000 < l.length) (hm : l.length ≤ 9223372036854775807) :
    Calls Try.prog 12 #[.int .i64 lv, .int .i64 lo, .int .i64 hi, .int .i64 ho, .slice A0 l.length c0] w fun e w' => e = .returned (.bool true) ∧ Below w.heap.size w w' := by
  have he := Err.eql_err
  have hu := Try.underlying46
  have H := Lib.hid gd
  clear gd
  go_enter Try.func12, Try.ntmps12
  go_wp2_with fail
  refine (up_any _).mono ?_
  rintro e w1 ⟨rfl, hb⟩
  go_wp2_with fail
  refine (new_good lv lo hi ho w _ hb H.out).mono ?_
  rintro e w2 ⟨g, rfl, hs, hb2, -, -⟩
  have HI := Lib.hid (IsS58.new w w2 lv lo hi ho 0 0 hb2)
  have HB := Lib.hid (hb2.alloc hb2.size (.cells #[.int .i64 lv, .int .i64 lo, .int .i64 hi, .int .i64 ho, .int .i64 0, .int .i64 0] 58))
  clear hs hb2
  go_wp2_with fail
  refine (good_yes _ lv lo hi ho 0 0 w _ HI.out HB.out H.out).mono ?_
  rintro e w3 ⟨rfl, hI, hB, -⟩
  go_wp2_with fail
  go_ret
  exact ⟨rfl, hB⟩

set_option maxRecDepth 100000 in
set_option maxHeartbeats 4000000 in
theorem tells_some (ad : Addr) (c0 : Nat) (lv lo hi ho : Int) (l : List Int) (w : World) (gd : goodG lv lo hi ho) (hc : ∀ j, j < l.length → w.cell? (ad.add j) = some (.int .i64 (l.getD j 0))) (hl : l.length ≤ 2000) :
    Calls Try.prog 12 #[.int .i64 lv, .int .i64 lo, .int .i64 hi, .int .i64 ho, .slice (some ad) l.length c0] w fun e w' => e = .returned (.bool true) ∧ Below w.heap.size w w' := by
  have he := Err.eql_err
  have hu := Try.underlying46
  have H := Lib.hid gd
  have HR := Lib.hid hc
  clear gd hc
  go_enter Try.func12, Try.ntmps12
  go_wp2_with fail
  refine (up_any _).mono ?_
  rintro e w1 ⟨rfl, hb⟩
  go_wp2_with fail
  refine (new_good lv lo hi ho w _ hb H.out).mono ?_
  rintro e w2 ⟨g, rfl, hs, hb2, -, -⟩
  have HI := Lib.hid (IsS58.new w w2 lv lo hi ho 0 0 hb2)
  have HB := Lib.hid (hb2.alloc hb2.size (.cells #[.int .i64 lv, .int .i64 lo, .int .i64 hi, .int .i64 ho, .int .i64 0, .int .i64 0] 58))
  have HS := Lib.hid (hs.alloc (.cells #[.int .i64 lv, .int .i64 lo, .int .i64 hi, .int .i64 ho, .int .i64 0, .int .i64 0] 58))
  have HN := Lib.hid (show g ≠ w2.heap.size from Nat.ne_of_lt (blk_lt hs.1))
  clear hs hb2 hb
  go_wp2_with fail
  refine (good_yes _ lv lo hi ho 0 0 w _ HI.out HB.out H.out).mono ?_
  rintro e w3 ⟨rfl, hI, hB, hk⟩
  have HX := Lib.hid (show Both w w3 g w2.heap.size lv lo hi ho 0 0 from ⟨keep_gauge HS.out hk HN.out, hI, hB, by have := H.out; unfold goodG at this; omega⟩)
  clear hI hB hk HI HB HS
  go_wp2_with fail
  go_loopw [15] (fun i wr => ∃ (k : Nat) (n h : Int), k ≤ l.length ∧ i = .int .i64 k ∧ Both w wr g w2.heap.size lv lo hi ho n h) (fun i _ => l.length - (intOf i).toNat)
  case atStart => exact ⟨0, 0, 0, Nat.zero_le _, rfl, HX.out⟩
  case round =>
    obtain ⟨k, n, h, hk, rfl, hX⟩ := hrel
    have HX := Lib.hid hX
    clear hX
    by_cases hlt : k < l.length
    · obtain ⟨x, HCW⟩ : ∃ x, Hid (∀ w', Below w.heap.size w w' → w'.cell? (ad.add k) = some (.int .i64 x)) := ⟨l.getD k 0, fun w' hB => (hB.cell (World.block_lt_of_cell? w _ (HR.out k hlt))).trans (HR.out k hlt)⟩
      have hcell := HCW.out wr HX.out.2.2.1
      obtain ⟨n', h', ET⟩ : ∃ n' h', Hid (tellG lv lo hi ho n h x = (n', h')) := ⟨_, _, rfl⟩
      have HT := Lib.hid (tellG_bd lv lo hi ho n h x H.out HX.out.2.2.2.1 HX.out.2.2.2.2.1 HX.out.2.2.2.2.2.1 HX.out.2.2.2.2.2.2)
      rw [ET.out] at HT
      go_wp2_with fail
      go_region_with (first
          | (go_at_call 37; refine (tell_as g lv lo hi ho n h _ n' h' w _ ET.out (by exact HX.out.1) (by first | exact HX.out.2.2.1 | exact below_drew HX.out.2.2.1) H.out HX.out.2.2.2).mono ?_; rintro e w4 ⟨rfl, hI4, hB4, hk4⟩; have hx4 := HCW.out _ hB4)
          | (go_at_call 38; refine (refTell_as w2.heap.size lv lo hi ho n h _ n' h' w _ ET.out (by exact keep_ref HX.out.2.1 hk4 HN.out.symm) (by exact hB4) H.out HX.out.2.2.2).mono ?_; rintro e w5 ⟨rfl, hI5, hB5, hk5⟩; have hc5 := (blk_cell hI5.1 4).trans rfl)
          | (go_at_call 39; refine (level_any g lv lo hi ho _ _ w _ (by exact keep_gauge hI4 hk5 HN.out)).mono ?_; rintro e w6 ⟨rfl, rfl⟩))
      all_goals
        have HX5 := Lib.hid (show Both w w5 g w2.heap.size lv lo hi ho n' h' from ⟨keep_gauge hI4 hk5 HN.out, hI5, hB5, HT.out⟩)
        clear hI4 hB4 hk4 hI5 hB5 hk5 hcell hc5
        go_wp2_with fail
        go_roundw
        case rel => exact ⟨k + 1, _, _, by omega, by go_num, HX5.out⟩
        case measure => simp [intOf]; omega
    · go_wp2_with fail
      go_ret
      exact ⟨rfl, HX.out.2.2.1⟩
set_option maxRecDepth 100000 in
set_option maxHeartbeats 4000000 in
theorem tells_none (A0 : Option Addr) (c0 : Nat) (lv lo hi ho : Int) (w : World) (gd : goodG lv lo hi ho) :
    Calls Try.prog 12 #[.int .i64 lv, .int .i64 lo, .int .i64 hi, .int .i64 ho, .slice A0 0 c0] w fun e w' => e = .returned (.bool true) ∧ Below w.heap.size w w' := by
  have he := Err.eql_err
  have hu := Try.underlying46
  have H := Lib.hid gd
  clear gd
  go_enter Try.func12, Try.ntmps12
  go_wp2_with fail
  refine (up_any _).mono ?_
  rintro e w1 ⟨rfl, hb⟩
  go_wp2_with fail
  refine (new_good lv lo hi ho w _ hb H.out).mono ?_
  rintro e w2 ⟨g, rfl, hs, hb2, -, -⟩
  have HI := Lib.hid (IsS58.new w w2 lv lo hi ho 0 0 hb2)
  have HB := Lib.hid (hb2.alloc hb2.size (.cells #[.int .i64 lv, .int .i64 lo, .int .i64 hi, .int .i64 ho, .int .i64 0, .int .i64 0] 58))
  have HS := Lib.hid (hs.alloc (.cells #[.int .i64 lv, .int .i64 lo, .int .i64 hi, .int .i64 ho, .int .i64 0, .int .i64 0] 58))
  have HN := Lib.hid (show g ≠ w2.heap.size from Nat.ne_of_lt (blk_lt hs.1))
  clear hs hb2 hb
  go_wp2_with fail
  refine (good_yes _ lv lo hi ho 0 0 w _ HI.out HB.out H.out).mono ?_
  rintro e w3 ⟨rfl, hI, hB, hk⟩
  have HX := Lib.hid (show Both w w3 g w2.heap.size lv lo hi ho 0 0 from ⟨keep_gauge HS.out hk HN.out, hI, hB, by have := H.out; unfold goodG at this; omega⟩)
  clear hI hB hk HI HB HS
  go_wp2_with fail
  go_loopw [15] (fun i wr => i = .int .i64 ((0 : Nat) : Int) ∧ Below w.heap.size w wr) (fun i _ => 0)
  case atStart => exact ⟨rfl, HX.out.2.2.1⟩
  case round =>
    obtain ⟨rfl, hX⟩ := hrel
    go_wp2_with fail
    go_ret
    exact ⟨rfl, hX⟩

theorem tells_any (A0 : Option Addr) (c0 : Nat) (lv lo hi ho : Int) (l : List Int) (w : World) (hr : Kd.C (Kd.int .i64) w A0 l.length l) :
    Calls Try.prog 12 #[.int .i64 lv, .int .i64 lo, .int .i64 hi, .int .i64 ho, .slice A0 l.length c0] w fun e w' => e = .returned (.bool true) ∧ Below w.heap.size w w' := by
  by_cases h : goodG lv lo hi ho
  · by_cases hl : l.length ≤ 2000
    · rcases Lists.C_ints hr with rfl | ⟨ad, rfl, hc⟩
      · exact tells_none A0 c0 lv lo hi ho w h
      · exact tells_some ad c0 lv lo hi ho l w h hc hl
    · exact tells_long A0 c0 lv lo hi ho l w h (by omega) (Lists.len_max hr)
  · exact tells_bad A0 c0 lv lo hi ho l w h
end Go.Proofs.Ytkfcgmknoogliaa.Level
