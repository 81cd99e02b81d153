/- The walk of LevelSteps. -/
import Derived.Test.YtkfcgmknoogliaaLevelLaw
set_option linter.unusedVariables false
namespace Go.Proofs.Ytkfcgmknoogliaa.Level
open Go.RowKit Go.Proofs.YtkfcgmknoogliaaW.PrintWords Go.Proofs.YtkfcgmknoogliaaW.PrintLast Go.Proofs.Ytkfcgmknoogliaa.PLevelTells

set_option maxRecDepth 100000 in
set_option maxHeartbeats 2000000 in
theorem steps_bad (A0 : Option Addr) (c0 : Nat) (lv lo hi ho : Int) (l : List Int) (w : World) (gd : ¬ goodG lv lo hi ho) :
    Calls Try.prog 13 #[.int .i64 lv, .int .i64 lo, .int .i64 hi, .int .i64 ho, .slice A0 l.length c0] w fun e w' => e = .returned (.bool true) ∧ Below w.heap.size w w' := by
  have he := Err.eql_err
  have hu := Try.underlying46
  have H := Lib.hid gd
  clear gd
  go_enter Try.func13, Try.ntmps13
  go_wp2_with fail
  refine (up_any _).mono ?_
  rintro e w1 ⟨rfl, hb⟩
  go_wp2_with fail
  refine (new_bad lv lo hi ho _ H.out).mono ?_
  rintro e w2 ⟨rfl, rfl⟩
  go_wp2_with fail
  go_ret
  exact ⟨rfl, hb⟩

set_option maxRecDepth 100000 in
set_option maxHeartbeats 2000000 in
theorem steps_long (A0 : Option Addr) (c0 : Nat) (lv lo hi ho : Int) (l : List Int) (w : World) (gd : goodG lv lo hi ho) (hl : 2000 < l.length) (hm : l.length ≤ 9223372036854775807) :
    Calls Try.prog 13 #[.int .i64 lv, .int .i64 lo, .int .i64 hi, .int .i64 ho, .slice A0 l.length c0] w fun e w' => e = .returned (.bool true) ∧ Below w.heap.size w w' := by
  have he := Err.eql_err
  have hu := Try.underlying46
  have H := Lib.hid gd
  clear gd
  go_enter Try.func13, Try.ntmps13
  go_wp2_with fail
  refine (up_any _).mono ?_
  rintro e w1 ⟨rfl, hb⟩
  go_wp2_with fail
  refine (new_good lv lo hi ho w _ hb H.out).mono ?_
  rintro e w2 ⟨g, rfl, hs, hb2, -, -⟩
  go_wp2_with fail
  go_ret
  exact ⟨rfl, hb2⟩

/-- what is known at each tick: n the level (and 'last'), h the ticks held, bl the ticks below the low mark at a stretch -/
def Stands (w wr : World) (g : Nat) (lv lo hi ho n h bl : Int) (k : Nat) : Prop := IsS70 w wr g lv lo hi ho n h ∧ Below w.heap.size w wr ∧ (0 ≤ n ∧ n < lv ∧ 0 ≤ h ∧ h < ho) ∧ h ≤ bl ∧ bl ≤ (k : Int)

/-- a tick, by what the statement asks of it -/
theorem step_law (lv lo hi ho n h bl x n' h' : Int) (k : Nat) (gd : goodG lv lo hi ho) (m : 0 ≤ n ∧ n < lv ∧ 0 ≤ h ∧ h < ho) (hb : h ≤ bl) (hk : bl ≤ (k : Int)) (E : tellG lv lo hi ho n h x = (n', h')) :
    (0 ≤ n' ∧ n' < lv ∧ 0 ≤ h' ∧ h' < ho) ∧ n' ≤ n + 1 ∧ n - 1 ≤ n' ∧ (n < n' → hi < x) ∧ (n' < n → ho ≤ (if x < lo then bl + 1 else 0)) ∧ h' ≤ (if x < lo then bl + 1 else 0) := by
  have hbd := tellG_bd lv lo hi ho n h x gd m.1 m.2.1 m.2.2.1 m.2.2.2
  rw [E] at hbd
  obtain ⟨g1, g2, g3, g4, g5, g6, g7⟩ := gd
  have e1 : n' = (tellG lv lo hi ho n h x).1 := by rw [E]
  have e2 : h' = (tellG lv lo hi ho n h x).2 := by rw [E]
  refine ⟨hbd, ?_⟩
  clear hbd E
  unfold tellG at e1 e2
  by_cases c1 : hi < x
  · rw [if_pos c1] at e1 e2
    rw [if_neg (show ¬ x < lo by omega)]
    simp only at e1 e2
    subst e2
    by_cases c2 : n + 1 < lv
    · rw [if_pos c2] at e1; omega
    · rw [if_neg c2] at e1; omega
  · rw [if_neg c1] at e1 e2
    by_cases c2 : lo ≤ x
    · rw [if_pos c2] at e1 e2
      rw [if_neg (show ¬ x < lo by omega)]
      simp only at e1 e2
      omega
    · rw [if_neg c2] at e1 e2
      rw [if_pos (show x < lo by omega)]
      by_cases c3 : h + 1 < ho
      · rw [if_pos c3] at e1 e2; simp only at e1 e2; omega
      · rw [if_neg c3] at e1 e2
        simp only at e1 e2
        by_cases c4 : 0 < n
        · rw [if_pos c4] at e1; omega
        · rw [if_neg c4] at e1; omega

set_option maxRecDepth 100000 in
set_option maxHeartbeats 8000000 in
theorem steps_some (ad : Addr) (c0 : Nat) (lv lo hi ho : Int) (l : List Int) (w : World) (gd : goodG lv lo hi ho) (hc : ∀ j, j < l.length → w.cell? (ad.add j) = some (.int .i64 (l.getD j 0))) (hl : l.length ≤ 2000) :
    Calls Try.prog 13 #[.int .i64 lv, .int .i64 lo, .int .i64 hi, .int .i64 ho, .slice (some ad) l.length c0] w fun e w' => e = .returned (.bool true) ∧ Below w.heap.size w w' := by
  have he := Err.eql_err
  have hu := Try.underlying46
  have H := Lib.hid gd
  have HR := Lib.hid hc
  obtain ⟨g1, g2, g3, g4, g5, g6, g7⟩ := gd
  clear hc
  go_enter Try.func13, Try.ntmps13
  go_wp2_with fail
  refine (up_any _).mono ?_
  rintro e w1 ⟨rfl, hb⟩
  go_wp2_with fail
  refine (new_good lv lo hi ho w _ hb H.out).mono ?_
  rintro e w2 ⟨g, rfl, hs, hb2, -, -⟩
  have HX := Lib.hid (show Stands w w2 g lv lo hi ho 0 0 0 0 from ⟨hs, hb2, by omega, by omega, by omega⟩)
  clear hs hb2 hb
  go_wp2_with fail
  go_loopw [16, 14, 15] (fun i last below wr => ∃ (k : Nat) (n h bl : Int), k ≤ l.length ∧ i = .int .i64 k ∧ last = .int .i64 n ∧ below = .int .i64 bl ∧ Stands w wr g lv lo hi ho n h bl k) (fun i _ _ _ => l.length - (intOf i).toNat)
  case atStart => exact ⟨0, 0, 0, 0, Nat.zero_le _, rfl, rfl, rfl, HX.out⟩
  case round =>
    obtain ⟨k, n, h, bl, hk, rfl, rfl, rfl, hX⟩ := hrel
    have HX := Lib.hid hX
    clear hX
    by_cases hlt : k < l.length
    · obtain ⟨x, HCW⟩ : ∃ x, Hid (∀ w', Below w.heap.size w w' → w'.cell? (ad.add k) = some (.int .i64 x)) := ⟨l.getD k 0, fun w' hB => (hB.cell (World.block_lt_of_cell? w _ (HR.out k hlt))).trans (HR.out k hlt)⟩
      obtain ⟨n', h', ET⟩ : ∃ n' h', Hid (tellG lv lo hi ho n h x = (n', h')) := ⟨_, _, rfl⟩
      have hcell := HCW.out wr HX.out.2.1
      have b1 := HX.out.2.2.1
      have b2 := HX.out.2.2.2.1
      have b3 := HX.out.2.2.2.2
      obtain ⟨b1, b4, b5, b6⟩ := b1
      go_wp2_with fail
      refine (tell_as g lv lo hi ho n h x n' h' w wr ET.out HX.out.1 HX.out.2.1 H.out HX.out.2.2.1).mono ?_
      rintro e w4 ⟨rfl, hI4, hB4, hk4⟩
      have hcell4 := HCW.out w4 hB4
      have HI4 := Lib.hid hI4
      have HB4 := Lib.hid hB4
      have HS := Lib.hid (step_law lv lo hi ho n h bl x n' h' k H.out HX.out.2.2.1 HX.out.2.2.2.1 HX.out.2.2.2.2 ET.out)
      clear hI4 hB4 hk4 hcell
      by_cases hlow : x < lo
      · obtain ⟨⟨s1, s2, s3, s4⟩, s5, s6, s7, s8, s9⟩ := HS.out
        rw [if_pos hlow] at s8 s9
        clear HS
        by_cases q1 : n < n'
        · exact absurd (s7 q1) (by omega)
        · by_cases q2 : n' < n
          · have q3 := s8 q2
            clear s7 s8
            go_wp2_with fail
            go_roundw
            case rel => exact ⟨k + 1, n', h', bl + 1, by omega, by go_num, rfl, rfl, HI4.out, HB4.out, by omega, by omega, by omega⟩
            case measure => simp [intOf]; omega
          · clear s7 s8
            go_wp2_with fail
            go_roundw
            case rel => exact ⟨k + 1, n', h', bl + 1, by omega, by go_num, rfl, rfl, HI4.out, HB4.out, by omega, by omega, by omega⟩
            case measure => simp [intOf]; omega
      · obtain ⟨⟨s1, s2, s3, s4⟩, s5, s6, s7, s8, s9⟩ := HS.out
        rw [if_neg hlow] at s8 s9
        clear HS
        have q0 : ¬ n' < n := fun q => by have := s8 q; omega
        clear s8
        by_cases q1 : n < n'
        · have q2 := s7 q1
          clear s7
          go_wp2_with fail
          go_roundw
          case rel => exact ⟨k + 1, n', h', 0, by omega, by go_num, rfl, rfl, HI4.out, HB4.out, by omega, by omega, by omega⟩
          case measure => simp [intOf]; omega
        · clear s7
          go_wp2_with fail
          go_roundw
          case rel => exact ⟨k + 1, n', h', 0, by omega, by go_num, rfl, rfl, HI4.out, HB4.out, by omega, by omega, by omega⟩
          case measure => simp [intOf]; omega
    · go_wp2_with fail
      go_ret
      exact ⟨rfl, HX.out.2.1⟩
set_option maxRecDepth 100000 in
set_option maxHeartbeats 8000000 in
theorem steps_none (A0 : Option Addr) (c0 : Nat) (lv lo hi ho : Int) (w : World) (gd : goodG lv lo hi ho) :
    Calls Try.prog 13 #[.int .i64 lv, .int .i64 lo, .int .i64 hi, .int .i64 ho, .slice A0 0 c0] w fun e w' => e = .returned (.bool true) ∧ Below w.heap.size w w' := by
  have he := Err.eql_err
  have hu := Try.underlying46
  have H := Lib.hid gd
  obtain ⟨g1, g2, g3, g4, g5, g6, g7⟩ := gd
  go_enter Try.func13, Try.ntmps13
  go_wp2_with fail
  refine (up_any _).mono ?_
  rintro e w1 ⟨rfl, hb⟩
  go_wp2_with fail
  refine (new_good lv lo hi ho w _ hb H.out).mono ?_
  rintro e w2 ⟨g, rfl, hs, hb2, -, -⟩
  have HX := Lib.hid (show Stands w w2 g lv lo hi ho 0 0 0 0 from ⟨hs, hb2, by omega, by omega, by omega⟩)
  clear hs hb2 hb
  go_wp2_with fail
  go_loopw [16, 14, 15] (fun i last below wr => i = .int .i64 ((0 : Nat) : Int) ∧ Below w.heap.size w wr) (fun i _ _ _ => 0)
  case atStart => exact ⟨rfl, HX.out.2.1⟩
  case round =>
    obtain ⟨rfl, hX⟩ := hrel
    go_wp2_with fail
    go_ret
    exact ⟨rfl, hX⟩

theorem steps_any (A0 : Option Addr) (c0 : Nat) (lv lo hi ho : Int) (l : List Int) (w : World) (hr : Kd.C (Kd.int .i64) w A0 l.length l) :
    Calls Try.prog 13 #[.int .i64 lv, .int .i64 lo, .int .i64 hi, .int .i64 ho, .slice A0 l.length c0] w fun e w' => e = .returned (.bool true) ∧ Below w.heap.size w w' := by
  by_cases h : goodG lv lo hi ho
  · by_cases hl : l.length ≤ 2000
    · rcases Lists.C_ints hr with rfl | ⟨ad, rfl, hc⟩
      · exact steps_none A0 c0 lv lo hi ho w h
      · exact steps_some ad c0 lv lo hi ho l w h hc hl
    · exact steps_long A0 c0 lv lo hi ho l w h (by omega) (Lists.len_max hr)
  · exact steps_bad A0 c0 lv lo hi ho l w h
end Go.Proofs.Ytkfcgmknoogliaa.Level
