/- Walks of layer 19's program and of the document's mark: New, fair, Tick, See, At; by one plain state. -/
import Derived.Test.YtjkaldnhfenbhaaMarkPure
import Derived.Test.YtjkaldnhfenbhaaErr
import Derived.Test.YtjkaldnhfenbhaaLists
import Derived.Lib.Hide
import Derived.BigRegion
import Derived.ChangeAlike
set_option linter.unusedVariables false
namespace Go.Proofs.Ytjkaldnhfenbhaa.Mark
open Go.RowKit Go.Proofs.YtjkaldnhfenbhaaW.PrintWords Go.Proofs.YtjkaldnhfenbhaaW.PrintLast Go.Proofs.Ytjkaldnhfenbhaa.PMarkTells

/-- the state at a block -/
def Is (w0 w : World) (g : Nat) (s : M) : Prop := IsS119 w0 w g s.la s.id s.saw s.most s.at_ s.last
def Ends (w0 w : World) (g : Nat) (r : Bool × M) (e : Ending) (w' : World) : Prop := e = .returned (.bool r.1) ∧ Is w0 w' g r.2 ∧ Below w0.heap.size w0 w' ∧ KeepBut w w' g none
theorem Is.keep {g g' : Nat} {s : M} {w0 w w1 : World} (hI : Is w0 w g s) (hk : KeepBut w w1 g' none) (hne : g ≠ g') : Is w0 w1 g s := ⟨hk.blk hI.1 hne (by simp), hI.2⟩
theorem Is.later {g : Nat} {s : M} {w0 w w1 : World} (hI : Is w0 w g s) (h : Below w.heap.size w w1) : Is w0 w1 g s := ⟨blk_below hI.1 h, hI.2⟩

theorem fair_any (g : Nat) (s : M) (now : Int) (w0 w : World) (hI : Is w0 w g s) (hB : Below w0.heap.size w0 w) (ok : Ok s) :
    Calls Try.prog 72 #[.pointer (some ⟨g, 0, none⟩), .int .i64 now] w (Ends w0 w g (fair s now, s)) :=
  (mark_Mark_fair.calls g s.la s.id s.saw s.most s.at_ s.last now (fair s now) s.la s.id s.saw s.most s.at_ s.last w0 w hI hB (fair_f s now)).mono fun e w' h => h
theorem at_any (g : Nat) (s : M) (w0 w : World) (hI : Is w0 w g s) (hB : Below w0.heap.size w0 w) (ok : Ok s) :
    Calls Try.prog 21 #[.pointer (some ⟨g, 0, none⟩)] w fun e w' => e = .returned (.int .i64 (atM s)) ∧ Is w0 w' g s ∧ Below w0.heap.size w0 w' ∧ KeepBut w w' g none :=
  mark_Mark_At.calls g s.la s.id s.saw s.most s.at_ s.last _ s.la s.id s.saw s.most s.at_ s.last w0 w hI hB (at_f s ok)
theorem see_any (g : Nat) (s : M) (now time : Int) (w0 w : World) (hI : Is w0 w g s) (hB : Below w0.heap.size w0 w) (ok : Ok s) :
    Calls Try.prog 19 #[.pointer (some ⟨g, 0, none⟩), .int .i64 now, .int .i64 time] w (Ends w0 w g (seeM s now time)) :=
  (mark_Mark_See.calls g s.la s.id s.saw s.most s.at_ s.last now time (seeM s now time).1 (seeM s now time).2.la (seeM s now time).2.id (seeM s now time).2.saw (seeM s now time).2.most (seeM s now time).2.at_ (seeM s now time).2.last w0 w hI hB (see_f s now time)).mono fun e w' h => h

set_option maxHeartbeats 2000000 in
theorem tick_any (g : Nat) (s : M) (now : Int) (w0 w : World) (hI : Is w0 w g s) (hB : Below w0.heap.size w0 w) (ok : Ok s) :
    Calls Try.prog 17 #[.pointer (some ⟨g, 0, none⟩), .int .i64 now] w (Ends w0 w g (tickM s now)) := by
  have HC := Lib.hid (fair_any g s now w0 w hI hB ok)
  clear hI hB
  by_cases h : fair s now = true
  · have hd := h
    rw [hd] at HC
    have h := fair_iff h
    obtain ⟨la, id, saw, most, at_, last⟩ := s
    unfold Ok at ok
    simp only at ok h
    obtain ⟨o1, o2, o3, o4, o5, o6, o7, o8, o9⟩ := ok
    obtain ⟨h1, h2⟩ := h
    by_cases hs : saw = true
    · by_cases hi : id ≤ now - at_
      · have e : tickM ⟨la, id, saw, most, at_, last⟩ now = (true, ⟨la, id, saw, if 1099511627776 < most + now - last then 1099511627776 else most + now - last, at_, now⟩) := by unfold tickM; rw [hd]; simp [hs, hi]
        rw [e]
        clear e hd
        by_cases hm : 1099511627776 < most + now - last
        · rw [if_pos hm]
          subst hs
          go_enter Try.func17, Try.ntmps17
          go_wp2_with fail
          refine HC.out.mono ?_
          rintro e w1 ⟨rfl, hI, hB, hk⟩
          have HI := Lib.hid hI
          have HB := Lib.hid hB
          have HK := Lib.hid hk
          have c0 := (blk_cell hI.1 0).trans rfl
          have c1 := (blk_cell hI.1 1).trans rfl
          have c2 := (blk_cell hI.1 2).trans rfl
          have c3 := (blk_cell hI.1 3).trans rfl
          have c4 := (blk_cell hI.1 4).trans rfl
          have c5 := (blk_cell hI.1 5).trans rfl
          simp only at c0 c1 c2 c3 c4 c5
          have f3 := blk_frozen hI.1 3
          have f5 := blk_frozen hI.1 5
          clear hI hB hk
          go_wp2_with fail
          go_region
          go_wp2_with fail
          go_region
          go_wp2
          go_ret
          exact ⟨rfl, IsS119.set_5 (IsS119.set_3 HI.out _) _, (by first | exact (HB.out.setCell HI.out.2 _).setCell HI.out.2 _ | exact below_drew ((HB.out.setCell HI.out.2 _).setCell HI.out.2 _) | exact below_drew (below_drew ((HB.out.setCell HI.out.2 _).setCell HI.out.2 _))), (HK.out.set_ 3 _).set_ 5 _⟩
        · rw [if_neg hm]
          subst hs
          go_enter Try.func17, Try.ntmps17
          go_wp2_with fail
          refine HC.out.mono ?_
          rintro e w1 ⟨rfl, hI, hB, hk⟩
          have HI := Lib.hid hI
          have HB := Lib.hid hB
          have HK := Lib.hid hk
          have c0 := (blk_cell hI.1 0).trans rfl
          have c1 := (blk_cell hI.1 1).trans rfl
          have c2 := (blk_cell hI.1 2).trans rfl
          have c3 := (blk_cell hI.1 3).trans rfl
          have c4 := (blk_cell hI.1 4).trans rfl
          have c5 := (blk_cell hI.1 5).trans rfl
          simp only at c0 c1 c2 c3 c4 c5
          have f3 := blk_frozen hI.1 3
          have f5 := blk_frozen hI.1 5
          clear hI hB hk
          go_wp2_with fail
          go_region
          go_wp2_with fail
          go_region
          go_wp2
          go_ret
          exact ⟨rfl, IsS119.set_5 (IsS119.set_3 HI.out _) _, (by first | exact (HB.out.setCell HI.out.2 _).setCell HI.out.2 _ | exact below_drew ((HB.out.setCell HI.out.2 _).setCell HI.out.2 _) | exact below_drew (below_drew ((HB.out.setCell HI.out.2 _).setCell HI.out.2 _))), (HK.out.set_ 3 _).set_ 5 _⟩
      · have e : tickM ⟨la, id, saw, most, at_, last⟩ now = (true, ⟨la, id, saw, most, at_, now⟩) := by unfold tickM; rw [hd]; simp [hi]
        rw [e]
        clear e hd
        subst hs
        go_enter Try.func17, Try.ntmps17
        go_wp2_with fail
        refine HC.out.mono ?_
        rintro e w1 ⟨rfl, hI, hB, hk⟩
        have HI := Lib.hid hI
        have HB := Lib.hid hB
        have HK := Lib.hid hk
        have c0 := (blk_cell hI.1 0).trans rfl
        have c1 := (blk_cell hI.1 1).trans rfl
        have c2 := (blk_cell hI.1 2).trans rfl
        have c3 := (blk_cell hI.1 3).trans rfl
        have c4 := (blk_cell hI.1 4).trans rfl
        have c5 := (blk_cell hI.1 5).trans rfl
        simp only at c0 c1 c2 c3 c4 c5
        have f3 := blk_frozen hI.1 3
        have f5 := blk_frozen hI.1 5
        clear hI hB hk
        go_wp2_with fail
        go_region
        go_wp2
        go_ret
        exact ⟨rfl, HI.out.set_5 _, (by first | exact HB.out.setCell HI.out.2 _ | exact below_drew (HB.out.setCell HI.out.2 _) | exact below_drew (below_drew (HB.out.setCell HI.out.2 _))), HK.out.set_ 5 _⟩
    · have e : tickM ⟨la, id, saw, most, at_, last⟩ now = (true, ⟨la, id, saw, most, at_, now⟩) := by unfold tickM; rw [hd]; simp [hs]
      rw [e]
      clear e hd
      have hs : saw = false := by simpa using hs
      subst hs
      go_enter Try.func17, Try.ntmps17
      go_wp2_with fail
      refine HC.out.mono ?_
      rintro e w1 ⟨rfl, hI, hB, hk⟩
      have HI := Lib.hid hI
      have HB := Lib.hid hB
      have HK := Lib.hid hk
      have c0 := (blk_cell hI.1 0).trans rfl
      have c1 := (blk_cell hI.1 1).trans rfl
      have c2 := (blk_cell hI.1 2).trans rfl
      have c3 := (blk_cell hI.1 3).trans rfl
      have c4 := (blk_cell hI.1 4).trans rfl
      have c5 := (blk_cell hI.1 5).trans rfl
      simp only at c0 c1 c2 c3 c4 c5
      have f3 := blk_frozen hI.1 3
      have f5 := blk_frozen hI.1 5
      clear hI hB hk
      go_wp2_with fail
      go_region
      go_wp2
      go_ret
      exact ⟨rfl, HI.out.set_5 _, (by first | exact HB.out.setCell HI.out.2 _ | exact below_drew (HB.out.setCell HI.out.2 _) | exact below_drew (below_drew (HB.out.setCell HI.out.2 _))), HK.out.set_ 5 _⟩
  · have hd : fair s now = false := by simpa using h
    have e : tickM s now = (false, s) := by unfold tickM; rw [if_neg h]
    rw [hd] at HC
    rw [e]
    clear e hd h
    go_enter Try.func17, Try.ntmps17
    go_wp2_with fail
    refine HC.out.mono ?_
    rintro e w1 ⟨rfl, hI, hB, hk⟩
    go_wp2_with fail
    go_ret
    exact ⟨rfl, hI, hB, hk⟩

/-- the state at a block -/
def IsR (w0 w : World) (g : Nat) (s : M) : Prop := IsS32 w0 w g s.la s.id s.saw s.most s.at_ s.last
def EndsR (w0 w : World) (g : Nat) (r : Bool × M) (e : Ending) (w' : World) : Prop := e = .returned (.bool r.1) ∧ IsR w0 w' g r.2 ∧ Below w0.heap.size w0 w' ∧ KeepBut w w' g none
theorem IsR.keep {g g' : Nat} {s : M} {w0 w w1 : World} (hI : IsR w0 w g s) (hk : KeepBut w w1 g' none) (hne : g ≠ g') : IsR w0 w1 g s := ⟨hk.blk hI.1 hne (by simp), hI.2⟩
theorem IsR.later {g : Nat} {s : M} {w0 w w1 : World} (hI : IsR w0 w g s) (h : Below w.heap.size w w1) : IsR w0 w1 g s := ⟨blk_below hI.1 h, hI.2⟩

theorem fairR_any (g : Nat) (s : M) (now : Int) (w0 w : World) (hI : IsR w0 w g s) (hB : Below w0.heap.size w0 w) (ok : Ok s) :
    Calls Try.prog 73 #[.pointer (some ⟨g, 0, none⟩), .int .i64 now] w (EndsR w0 w g (fair s now, s)) :=
  (nogginref18_Mark_fair.calls g s.la s.id s.saw s.most s.at_ s.last now (fair s now) s.la s.id s.saw s.most s.at_ s.last w0 w hI hB (fairR_f s now ok)).mono fun e w' h => h
theorem atR_any (g : Nat) (s : M) (w0 w : World) (hI : IsR w0 w g s) (hB : Below w0.heap.size w0 w) (ok : Ok s) :
    Calls Try.prog 22 #[.pointer (some ⟨g, 0, none⟩)] w fun e w' => e = .returned (.int .i64 (atM s)) ∧ IsR w0 w' g s ∧ Below w0.heap.size w0 w' ∧ KeepBut w w' g none :=
  nogginref18_Mark_Stands.calls g s.la s.id s.saw s.most s.at_ s.last _ s.la s.id s.saw s.most s.at_ s.last w0 w hI hB (atR_f s ok)
theorem seeR_any (g : Nat) (s : M) (now time : Int) (w0 w : World) (hI : IsR w0 w g s) (hB : Below w0.heap.size w0 w) (ok : Ok s) :
    Calls Try.prog 20 #[.pointer (some ⟨g, 0, none⟩), .int .i64 now, .int .i64 time] w (EndsR w0 w g (seeM s now time)) :=
  (nogginref18_Mark_See.calls 2 g s.la s.id s.saw s.most s.at_ s.last now time (seeM s now time).1 (seeM s now time).2.la (seeM s now time).2.id (seeM s now time).2.saw (seeM s now time).2.most (seeM s now time).2.at_ (seeM s now time).2.last w0 w hI hB (seeR_f s now time ok)).mono fun e w' h => h

set_option maxHeartbeats 2000000 in
theorem tickR_any (g : Nat) (s : M) (now : Int) (w0 w : World) (hI : IsR w0 w g s) (hB : Below w0.heap.size w0 w) (ok : Ok s) :
    Calls Try.prog 18 #[.pointer (some ⟨g, 0, none⟩), .int .i64 now] w (EndsR w0 w g (tickM s now)) := by
  have HC := Lib.hid (fairR_any g s now w0 w hI hB ok)
  clear hI hB
  by_cases h : fair s now = true
  · have hd := h
    rw [hd] at HC
    have h := fair_iff h
    obtain ⟨la, id, saw, most, at_, last⟩ := s
    unfold Ok at ok
    simp only at ok h
    obtain ⟨o1, o2, o3, o4, o5, o6, o7, o8, o9⟩ := ok
    obtain ⟨h1, h2⟩ := h
    by_cases hs : saw = true
    · by_cases hi : id ≤ now - at_
      · have e : tickM ⟨la, id, saw, most, at_, last⟩ now = (true, ⟨la, id, saw, if 1099511627776 < most + now - last then 1099511627776 else most + now - last, at_, now⟩) := by unfold tickM; rw [hd]; simp [hs, hi]
        rw [e]
        clear e hd
        by_cases hm : 1099511627776 < most + now - last
        · rw [if_pos hm]
          subst hs
          go_enter Try.func18, Try.ntmps18
          go_wp2_with fail
          refine HC.out.mono ?_
          rintro e w1 ⟨rfl, hI, hB, hk⟩
          have HI := Lib.hid hI
          have HB := Lib.hid hB
          have HK := Lib.hid hk
          have c0 := (blk_cell hI.1 0).trans rfl
          have c1 := (blk_cell hI.1 1).trans rfl
          have c2 := (blk_cell hI.1 2).trans rfl
          have c3 := (blk_cell hI.1 3).trans rfl
          have c4 := (blk_cell hI.1 4).trans rfl
          have c5 := (blk_cell hI.1 5).trans rfl
          simp only at c0 c1 c2 c3 c4 c5
          have f3 := blk_frozen hI.1 3
          have f5 := blk_frozen hI.1 5
          clear hI hB hk
          go_wp2_with fail
          go_region
          go_wp2_with fail
          go_region
          go_wp2
          go_ret
          exact ⟨rfl, IsS32.set_5 (IsS32.set_3 (IsS32.set_3 HI.out _) _) _, below_drew (below_drew (((HB.out.setCell HI.out.2 _).setCell HI.out.2 _).setCell HI.out.2 _)), ((HK.out.set_ 3 _).set_ 3 _).set_ 5 _⟩
        · rw [if_neg hm]
          subst hs
          go_enter Try.func18, Try.ntmps18
          go_wp2_with fail
          refine HC.out.mono ?_
          rintro e w1 ⟨rfl, hI, hB, hk⟩
          have HI := Lib.hid hI
          have HB := Lib.hid hB
          have HK := Lib.hid hk
          have c0 := (blk_cell hI.1 0).trans rfl
          have c1 := (blk_cell hI.1 1).trans rfl
          have c2 := (blk_cell hI.1 2).trans rfl
          have c3 := (blk_cell hI.1 3).trans rfl
          have c4 := (blk_cell hI.1 4).trans rfl
          have c5 := (blk_cell hI.1 5).trans rfl
          simp only at c0 c1 c2 c3 c4 c5
          have f3 := blk_frozen hI.1 3
          have f5 := blk_frozen hI.1 5
          clear hI hB hk
          go_wp2_with fail
          go_region
          go_wp2_with fail
          go_region
          go_wp2
          go_ret
          exact ⟨rfl, IsS32.set_5 (IsS32.set_3 HI.out _) _, (by first | exact (HB.out.setCell HI.out.2 _).setCell HI.out.2 _ | exact below_drew ((HB.out.setCell HI.out.2 _).setCell HI.out.2 _) | exact below_drew (below_drew ((HB.out.setCell HI.out.2 _).setCell HI.out.2 _))), (HK.out.set_ 3 _).set_ 5 _⟩
      · have e : tickM ⟨la, id, saw, most, at_, last⟩ now = (true, ⟨la, id, saw, most, at_, now⟩) := by unfold tickM; rw [hd]; simp [hi]
        rw [e]
        clear e hd
        subst hs
        go_enter Try.func18, Try.ntmps18
        go_wp2_with fail
        refine HC.out.mono ?_
        rintro e w1 ⟨rfl, hI, hB, hk⟩
        have HI := Lib.hid hI
        have HB := Lib.hid hB
        have HK := Lib.hid hk
        have c0 := (blk_cell hI.1 0).trans rfl
        have c1 := (blk_cell hI.1 1).trans rfl
        have c2 := (blk_cell hI.1 2).trans rfl
        have c3 := (blk_cell hI.1 3).trans rfl
        have c4 := (blk_cell hI.1 4).trans rfl
        have c5 := (blk_cell hI.1 5).trans rfl
        simp only at c0 c1 c2 c3 c4 c5
        have f3 := blk_frozen hI.1 3
        have f5 := blk_frozen hI.1 5
        clear hI hB hk
        go_wp2_with fail
        go_region
        go_wp2
        go_ret
        exact ⟨rfl, HI.out.set_5 _, (by first | exact HB.out.setCell HI.out.2 _ | exact below_drew (HB.out.setCell HI.out.2 _) | exact below_drew (below_drew (HB.out.setCell HI.out.2 _))), HK.out.set_ 5 _⟩
    · have e : tickM ⟨la, id, saw, most, at_, last⟩ now = (true, ⟨la, id, saw, most, at_, now⟩) := by unfold tickM; rw [hd]; simp [hs]
      rw [e]
      clear e hd
      have hs : saw = false := by simpa using hs
      subst hs
      go_enter Try.func18, Try.ntmps18
      go_wp2_with fail
      refine HC.out.mono ?_
      rintro e w1 ⟨rfl, hI, hB, hk⟩
      have HI := Lib.hid hI
      have HB := Lib.hid hB
      have HK := Lib.hid hk
      have c0 := (blk_cell hI.1 0).trans rfl
      have c1 := (blk_cell hI.1 1).trans rfl
      have c2 := (blk_cell hI.1 2).trans rfl
      have c3 := (blk_cell hI.1 3).trans rfl
      have c4 := (blk_cell hI.1 4).trans rfl
      have c5 := (blk_cell hI.1 5).trans rfl
      simp only at c0 c1 c2 c3 c4 c5
      have f3 := blk_frozen hI.1 3
      have f5 := blk_frozen hI.1 5
      clear hI hB hk
      go_wp2_with fail
      go_region
      go_wp2
      go_ret
      exact ⟨rfl, HI.out.set_5 _, (by first | exact HB.out.setCell HI.out.2 _ | exact below_drew (HB.out.setCell HI.out.2 _) | exact below_drew (below_drew (HB.out.setCell HI.out.2 _))), HK.out.set_ 5 _⟩
  · have hd : fair s now = false := by simpa using h
    have e : tickM s now = (false, s) := by unfold tickM; rw [if_neg h]
    rw [hd] at HC
    rw [e]
    clear e hd h
    go_enter Try.func18, Try.ntmps18
    go_wp2_with fail
    refine HC.out.mono ?_
    rintro e w1 ⟨rfl, hI, hB, hk⟩
    go_wp2_with fail
    go_ret
    exact ⟨rfl, hI, hB, hk⟩
end Go.Proofs.Ytjkaldnhfenbhaa.Mark
