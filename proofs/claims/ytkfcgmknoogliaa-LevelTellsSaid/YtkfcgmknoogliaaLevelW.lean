/- Walks of layer 16's program: New, Tell. -/
import Derived.Test.YtkfcgmknoogliaaPLevelTellsx1
import Derived.Test.YtkfcgmknoogliaaErr
import Derived.Test.YtkfcgmknoogliaaLists
import Derived.Lib.Hide
import Derived.BigRegion
import Derived.ChangeAlike
set_option linter.unusedVariables false
namespace Go.Proofs.Ytkfcgmknoogliaa.Level
open Go.RowKit Go.Proofs.YtkfcgmknoogliaaW.PrintWords Go.Proofs.YtkfcgmknoogliaaW.PrintLast Go.Proofs.Ytkfcgmknoogliaa.PLevelTells

def goodG (lv lo hi ho : Int) : Prop := 1 ≤ lv ∧ lv ≤ 8 ∧ 0 ≤ lo ∧ lo ≤ hi ∧ hi ≤ 1000 ∧ 1 ≤ ho ∧ ho ≤ 1000
/-- what a gauge's level and its ticks come to -/
def tellG (lv lo hi ho n h d : Int) : Int × Int :=
  if hi < d then (if n + 1 < lv then n + 1 else n, 0) else if lo ≤ d then (n, 0) else if h + 1 < ho then (n, h + 1) else (if 0 < n then n - 1 else n, 0)

/-- how a tick ends -/
def TellEnds (w0 w : World) (g : Nat) (lv lo hi ho n' h' : Int) (e : Ending) (w' : World) : Prop :=
  e = .returned (.int .i64 n') ∧ IsS70 w0 w' g lv lo hi ho n' h' ∧ Below w0.heap.size w0 w' ∧ KeepBut w w' g none

set_option maxHeartbeats 2000000 in
theorem tell_up (g : Nat) (lv lo hi ho n h d : Int) (w0 w : World) (hI : IsS70 w0 w g lv lo hi ho n h) (hB : Below w0.heap.size w0 w) (gd : goodG lv lo hi ho) (m1 : 0 ≤ n) (m2 : n < lv) (m3 : 0 ≤ h) (m4 : h < ho) (h1 : hi < d) (h2 : n + 1 < lv) :
    Calls Try.prog 37 #[.pointer (some ⟨g, 0, none⟩), .int .i64 d] w (TellEnds w0 w g lv lo hi ho (n + 1) 0) := by
  obtain ⟨g1, g2, g3, g4, g5, g6, g7⟩ := gd
  have c0 := (blk_cell hI.1 0).trans rfl
  have c1 := (blk_cell hI.1 1).trans rfl
  have c2 := (blk_cell hI.1 2).trans rfl
  have c3 := (blk_cell hI.1 3).trans rfl
  have c4 := (blk_cell hI.1 4).trans rfl
  have c5 := (blk_cell hI.1 5).trans rfl
  have f4 := blk_frozen hI.1 4
  have f5 := blk_frozen hI.1 5
  have HI := Lib.hid hI
  have HB := Lib.hid hB
  clear hI hB
  go_enter Try.func37, Try.ntmps37
  go_wp2_with fail
  go_region
  go_wp2
  go_ret
  exact ⟨rfl, ((HI.out.set_4 _).set_5 _).drew, below_drew ((HB.out.setCell HI.out.2 _).setCell HI.out.2 _), keep_drew (((KeepBut.refl w g none).set_ 4 _).set_ 5 _)⟩

set_option maxHeartbeats 2000000 in
theorem tell_top (g : Nat) (lv lo hi ho n h d : Int) (w0 w : World) (hI : IsS70 w0 w g lv lo hi ho n h) (hB : Below w0.heap.size w0 w) (gd : goodG lv lo hi ho) (m1 : 0 ≤ n) (m2 : n < lv) (m3 : 0 ≤ h) (m4 : h < ho) (h1 : hi < d) (h2 : n + 1 = lv) :
    Calls Try.prog 37 #[.pointer (some ⟨g, 0, none⟩), .int .i64 d] w (TellEnds w0 w g lv lo hi ho n 0) := by
  obtain ⟨g1, g2, g3, g4, g5, g6, g7⟩ := gd
  have c0 := (blk_cell hI.1 0).trans rfl
  have c1 := (blk_cell hI.1 1).trans rfl
  have c2 := (blk_cell hI.1 2).trans rfl
  have c3 := (blk_cell hI.1 3).trans rfl
  have c4 := (blk_cell hI.1 4).trans rfl
  have c5 := (blk_cell hI.1 5).trans rfl
  have f4 := blk_frozen hI.1 4
  have f5 := blk_frozen hI.1 5
  have HI := Lib.hid hI
  have HB := Lib.hid hB
  clear hI hB
  go_enter Try.func37, Try.ntmps37
  have e1 : lv - 1 = n := by omega
  have E1 := Lib.hid e1
  have h3 : lv - 1 < n + 1 := by omega
  clear e1 h2
  go_wp2_with fail
  go_region
  go_wp2
  rw [E1.out]
  go_ret
  exact ⟨rfl, ((HI.out.set_4 _).set_5 _).drew, below_drew ((HB.out.setCell HI.out.2 _).setCell HI.out.2 _), keep_drew (((KeepBut.refl w g none).set_ 4 _).set_ 5 _)⟩

set_option maxHeartbeats 2000000 in
theorem tell_mid (g : Nat) (lv lo hi ho n h d : Int) (w0 w : World) (hI : IsS70 w0 w g lv lo hi ho n h) (hB : Below w0.heap.size w0 w) (gd : goodG lv lo hi ho) (m1 : 0 ≤ n) (m2 : n < lv) (m3 : 0 ≤ h) (m4 : h < ho) (h1 : d ≤ hi) (h2 : lo ≤ d) :
    Calls Try.prog 37 #[.pointer (some ⟨g, 0, none⟩), .int .i64 d] w (TellEnds w0 w g lv lo hi ho n 0) := by
  obtain ⟨g1, g2, g3, g4, g5, g6, g7⟩ := gd
  have c0 := (blk_cell hI.1 0).trans rfl
  have c1 := (blk_cell hI.1 1).trans rfl
  have c2 := (blk_cell hI.1 2).trans rfl
  have c3 := (blk_cell hI.1 3).trans rfl
  have c4 := (blk_cell hI.1 4).trans rfl
  have c5 := (blk_cell hI.1 5).trans rfl
  have f4 := blk_frozen hI.1 4
  have f5 := blk_frozen hI.1 5
  have HI := Lib.hid hI
  have HB := Lib.hid hB
  clear hI hB
  go_enter Try.func37, Try.ntmps37
  go_wp2_with fail
  go_ret
  exact ⟨rfl, HI.out.set_5 _, HB.out.setCell HI.out.2 _, (KeepBut.refl w g none).set_ 5 _⟩

set_option maxHeartbeats 2000000 in
theorem tell_wait (g : Nat) (lv lo hi ho n h d : Int) (w0 w : World) (hI : IsS70 w0 w g lv lo hi ho n h) (hB : Below w0.heap.size w0 w) (gd : goodG lv lo hi ho) (m1 : 0 ≤ n) (m2 : n < lv) (m3 : 0 ≤ h) (m4 : h < ho) (h1 : d < lo) (h2 : h + 1 < ho) :
    Calls Try.prog 37 #[.pointer (some ⟨g, 0, none⟩), .int .i64 d] w (TellEnds w0 w g lv lo hi ho n (h + 1)) := by
  obtain ⟨g1, g2, g3, g4, g5, g6, g7⟩ := gd
  have c0 := (blk_cell hI.1 0).trans rfl
  have c1 := (blk_cell hI.1 1).trans rfl
  have c2 := (blk_cell hI.1 2).trans rfl
  have c3 := (blk_cell hI.1 3).trans rfl
  have c4 := (blk_cell hI.1 4).trans rfl
  have c5 := (blk_cell hI.1 5).trans rfl
  have f4 := blk_frozen hI.1 4
  have f5 := blk_frozen hI.1 5
  have HI := Lib.hid hI
  have HB := Lib.hid hB
  clear hI hB
  go_enter Try.func37, Try.ntmps37
  have hb1 : (h + 1 == ho) = false := beq_eq_false_iff_ne.2 (by omega)
  go_wp2_with fail
  go_region
  go_wp2
  go_ret
  exact ⟨rfl, (HI.out.set_5 _).drew, below_drew (HB.out.setCell HI.out.2 _), keep_drew ((KeepBut.refl w g none).set_ 5 _)⟩

set_option maxHeartbeats 2000000 in
theorem tell_down (g : Nat) (lv lo hi ho n h d : Int) (w0 w : World) (hI : IsS70 w0 w g lv lo hi ho n h) (hB : Below w0.heap.size w0 w) (gd : goodG lv lo hi ho) (m1 : 0 ≤ n) (m2 : n < lv) (m3 : 0 ≤ h) (m4 : h < ho) (h1 : d < lo) (h2 : h + 1 = ho) (h3 : 0 < n) :
    Calls Try.prog 37 #[.pointer (some ⟨g, 0, none⟩), .int .i64 d] w (TellEnds w0 w g lv lo hi ho (n - 1) 0) := by
  obtain ⟨g1, g2, g3, g4, g5, g6, g7⟩ := gd
  have c0 := (blk_cell hI.1 0).trans rfl
  have c1 := (blk_cell hI.1 1).trans rfl
  have c2 := (blk_cell hI.1 2).trans rfl
  have c3 := (blk_cell hI.1 3).trans rfl
  have c4 := (blk_cell hI.1 4).trans rfl
  have c5 := (blk_cell hI.1 5).trans rfl
  have f4 := blk_frozen hI.1 4
  have f5 := blk_frozen hI.1 5
  have HI := Lib.hid hI
  have HB := Lib.hid hB
  clear hI hB
  go_enter Try.func37, Try.ntmps37
  have hb1 : (h + 1 == ho) = true := beq_iff_eq.2 h2
  clear h2
  go_wp2_with fail
  go_region
  go_wp2
  go_ret
  exact ⟨rfl, (((HI.out.set_5 _).set_4 _).set_5 _).drew, below_drew (((HB.out.setCell HI.out.2 _).setCell HI.out.2 _).setCell HI.out.2 _), keep_drew ((((KeepBut.refl w g none).set_ 5 _).set_ 4 _).set_ 5 _)⟩

set_option maxHeartbeats 2000000 in
theorem tell_low (g : Nat) (lv lo hi ho n h d : Int) (w0 w : World) (hI : IsS70 w0 w g lv lo hi ho n h) (hB : Below w0.heap.size w0 w) (gd : goodG lv lo hi ho) (m1 : 0 ≤ n) (m2 : n < lv) (m3 : 0 ≤ h) (m4 : h < ho) (h1 : d < lo) (h2 : h + 1 = ho) (h3 : n = 0) :
    Calls Try.prog 37 #[.pointer (some ⟨g, 0, none⟩), .int .i64 d] w (TellEnds w0 w g lv lo hi ho n 0) := by
  obtain ⟨g1, g2, g3, g4, g5, g6, g7⟩ := gd
  have c0 := (blk_cell hI.1 0).trans rfl
  have c1 := (blk_cell hI.1 1).trans rfl
  have c2 := (blk_cell hI.1 2).trans rfl
  have c3 := (blk_cell hI.1 3).trans rfl
  have c4 := (blk_cell hI.1 4).trans rfl
  have c5 := (blk_cell hI.1 5).trans rfl
  have f4 := blk_frozen hI.1 4
  have f5 := blk_frozen hI.1 5
  have HI := Lib.hid hI
  have HB := Lib.hid hB
  clear hI hB
  go_enter Try.func37, Try.ntmps37
  have hb1 : (h + 1 == ho) = true := beq_iff_eq.2 h2
  clear h2
  subst h3
  go_wp2_with fail
  go_region
  go_wp2
  go_ret
  exact ⟨rfl, (((HI.out.set_5 _).set_4 _).set_5 _).drew, below_drew (((HB.out.setCell HI.out.2 _).setCell HI.out.2 _).setCell HI.out.2 _), keep_drew ((((KeepBut.refl w g none).set_ 5 _).set_ 4 _).set_ 5 _)⟩

theorem tell_any (g : Nat) (lv lo hi ho n h d : Int) (w0 w : World) (hI : IsS70 w0 w g lv lo hi ho n h) (hB : Below w0.heap.size w0 w) (gd : goodG lv lo hi ho) (m1 : 0 ≤ n) (m2 : n < lv) (m3 : 0 ≤ h) (m4 : h < ho) :
    Calls Try.prog 37 #[.pointer (some ⟨g, 0, none⟩), .int .i64 d] w (TellEnds w0 w g lv lo hi ho (tellG lv lo hi ho n h d).1 (tellG lv lo hi ho n h d).2) := by
  unfold tellG
  by_cases h1 : hi < d
  · rw [if_pos h1]
    by_cases h2 : n + 1 < lv
    · rw [if_pos h2]; exact tell_up g lv lo hi ho n h d w0 w hI hB gd m1 m2 m3 m4 h1 h2
    · rw [if_neg h2]; exact tell_top g lv lo hi ho n h d w0 w hI hB gd m1 m2 m3 m4 h1 (by omega)
  · rw [if_neg h1]
    by_cases h2 : lo ≤ d
    · rw [if_pos h2]; exact tell_mid g lv lo hi ho n h d w0 w hI hB gd m1 m2 m3 m4 (by omega) h2
    · rw [if_neg h2]
      by_cases h3 : h + 1 < ho
      · rw [if_pos h3]; exact tell_wait g lv lo hi ho n h d w0 w hI hB gd m1 m2 m3 m4 (by omega) h3
      · rw [if_neg h3]
        by_cases h4 : 0 < n
        · rw [if_pos h4]; exact tell_down g lv lo hi ho n h d w0 w hI hB gd m1 m2 m3 m4 (by omega) (by omega) h4
        · rw [if_neg h4]; exact tell_low g lv lo hi ho n h d w0 w hI hB gd m1 m2 m3 m4 (by omega) (by omega) (by omega)

theorem tellG_bd (lv lo hi ho n h d : Int) (gd : goodG lv lo hi ho) (m1 : 0 ≤ n) (m2 : n < lv) (m3 : 0 ≤ h) (m4 : h < ho) :
    0 ≤ (tellG lv lo hi ho n h d).1 ∧ (tellG lv lo hi ho n h d).1 < lv ∧ 0 ≤ (tellG lv lo hi ho n h d).2 ∧ (tellG lv lo hi ho n h d).2 < ho := by
  obtain ⟨g1, g2, g3, g4, g5, g6, g7⟩ := gd
  unfold tellG
  repeat' split
  all_goals (simp only; omega)

/-- the document's tick comes to the same -/
theorem ref_eq (lv lo hi ho n h d : Int) (gd : goodG lv lo hi ho) (m1 : 0 ≤ n) (m2 : n < lv) (m3 : 0 ≤ h) (m4 : h < ho) :
    nogginref14_Gauge_Tell.f lv lo hi ho n h d = some ((tellG lv lo hi ho n h d).1, lv, lo, hi, ho, (tellG lv lo hi ho n h d).1, (tellG lv lo hi ho n h d).2) := by
  obtain ⟨g1, g2, g3, g4, g5, g6, g7⟩ := gd
  unfold nogginref14_Gauge_Tell.f tellG
  have e1 : wrap64 (n + 1) = n + 1 := by unfold wrap64; omega
  have e2 : wrap64 (h + 1) = h + 1 := by unfold wrap64; omega
  have e3 : wrap64 (n - 1) = n - 1 := by unfold wrap64; omega
  rw [e1, e2, e3]
  repeat' split
  all_goals first | rfl | (exfalso; omega)

theorem refTell_any (g : Nat) (lv lo hi ho n h d : Int) (w0 w : World) (hI : IsS58 w0 w g lv lo hi ho n h) (hB : Below w0.heap.size w0 w) (gd : goodG lv lo hi ho) (m1 : 0 ≤ n) (m2 : n < lv) (m3 : 0 ≤ h) (m4 : h < ho) :
    Calls Try.prog 38 #[.pointer (some ⟨g, 0, none⟩), .int .i64 d] w fun e w' => e = .returned (.int .i64 (tellG lv lo hi ho n h d).1) ∧ IsS58 w0 w' g lv lo hi ho (tellG lv lo hi ho n h d).1 (tellG lv lo hi ho n h d).2 ∧ Below w0.heap.size w0 w' ∧ KeepBut w w' g none :=
  nogginref14_Gauge_Tell.calls g lv lo hi ho n h d _ _ _ _ _ _ _ w0 w hI hB (ref_eq lv lo hi ho n h d gd m1 m2 m3 m4)

theorem level_any (g : Nat) (lv lo hi ho n h : Int) (w0 w : World) (hI : IsS70 w0 w g lv lo hi ho n h) :
    Calls Try.prog 39 #[.pointer (some ⟨g, 0, none⟩)] w fun e w' => e = .returned (.int .i64 n) ∧ w = w' := by
  have hc := (blk_cell hI.1 4).trans rfl
  clear hI
  go_enter Try.func39, Try.ntmps39
  go_wp2
  go_ret
  exact ⟨rfl, rfl⟩

set_option maxRecDepth 100000 in
set_option maxHeartbeats 1000000 in
theorem new_good (lv lo hi ho : Int) (w0 w : World) (hB : Below w0.heap.size w0 w) (gd : goodG lv lo hi ho) :
    Calls Try.prog 35 #[.int .i64 lv, .int .i64 lo, .int .i64 hi, .int .i64 ho] w fun e w' => ∃ g, e = .returned (.tuple #[.pointer (some ⟨g, 0, none⟩), .nilIface]) ∧ IsS70 w0 w' g lv lo hi ho 0 0 ∧ Below w0.heap.size w0 w' ∧ Below w.heap.size w w' ∧ w.heap.size ≤ g := by
  refine Calls.mono (R := fun e w' => e = .returned (.tuple #[.pointer (some ⟨w.heap.size, 0, none⟩), .nilIface]) ∧ w' = w.alloc (.cells #[.int .i64 lv, .int .i64 lo, .int .i64 hi, .int .i64 ho, .int .i64 0, .int .i64 0] 70)) ?_ (fun e w' ⟨he, hw⟩ => by
    subst hw
    exact ⟨w.heap.size, he, IsS70.new w0 w lv lo hi ho 0 0 hB, hB.alloc hB.size _, (Below.refl _ _).alloc (Nat.le_refl _) _, Nat.le_refl _⟩)
  obtain ⟨g1, g2, g3, g4, g5, g6, g7⟩ := gd
  clear hB
  go_enter Try.func35, Try.ntmps35
  go_wp2_with fail
  go_ret2
  exact ⟨rfl, rfl⟩

set_option maxRecDepth 100000 in
set_option maxHeartbeats 2000000 in
theorem new_bad (lv lo hi ho : Int) (w : World) (gd : ¬ goodG lv lo hi ho) :
    Calls Try.prog 35 #[.int .i64 lv, .int .i64 lo, .int .i64 hi, .int .i64 ho] w fun e w' => e = .returned (.tuple #[.pointer none, .iface 49 (.int .i64 1)]) ∧ w' = w := by
  by_cases b0 : lv < 1
  · clear gd
    go_enter Try.func35, Try.ntmps35
    go_wp2_with fail
    go_ret2
    exact ⟨rfl, rfl⟩
  · by_cases b1 : 8 < lv
    · clear gd
      go_enter Try.func35, Try.ntmps35
      go_wp2_with fail
      go_ret2
      exact ⟨rfl, rfl⟩
    · by_cases b2 : lo < 0
      · clear gd
        go_enter Try.func35, Try.ntmps35
        go_wp2_with fail
        go_ret2
        exact ⟨rfl, rfl⟩
      · by_cases b3 : hi < lo
        · clear gd
          go_enter Try.func35, Try.ntmps35
          go_wp2_with fail
          go_ret2
          exact ⟨rfl, rfl⟩
        · by_cases b4 : 1000 < hi
          · clear gd
            go_enter Try.func35, Try.ntmps35
            go_wp2_with fail
            go_ret2
            exact ⟨rfl, rfl⟩
          · by_cases b5 : ho < 1
            · clear gd
              go_enter Try.func35, Try.ntmps35
              go_wp2_with fail
              go_ret2
              exact ⟨rfl, rfl⟩
            · by_cases b6 : 1000 < ho
              · clear gd
                go_enter Try.func35, Try.ntmps35
                go_wp2_with fail
                go_ret2
                exact ⟨rfl, rfl⟩
              · exact absurd ⟨by omega, by omega, by omega, by omega, by omega, by omega, by omega⟩ gd
end Go.Proofs.Ytkfcgmknoogliaa.Level
