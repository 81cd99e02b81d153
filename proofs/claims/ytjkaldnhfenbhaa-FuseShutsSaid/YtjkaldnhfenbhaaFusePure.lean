/- The plain side of layer 23: a fuse, as the program and the document have it; and the contracts of both by it. -/
import Derived.Test.YtjkaldnhfenbhaaPFusePlaysx2
import Derived.Test.YtjkaldnhfenbhaaErr
import Derived.Test.YtjkaldnhfenbhaaLists
import Derived.Lib.Hide
import Derived.BigRegion
import Derived.ChangeAlike
set_option linter.unusedVariables false
namespace Go.Proofs.Ytjkaldnhfenbhaa.Fuse
open Go.RowKit Go.Proofs.YtjkaldnhfenbhaaW.PrintWords Go.Proofs.YtjkaldnhfenbhaaW.PrintLast Go.Proofs.Ytjkaldnhfenbhaa.PFusePlays

/-- a fuse -/
structure F where
  b : Int
  p : Int
  st : Int
  fl : Int
  at_ : Int
def good (b p : Int) : Prop := 1 ≤ b ∧ b ≤ 1000 ∧ 1 ≤ p ∧ p ≤ 1000000
/-- a fuse that may be -/
def Ok (s : F) : Prop := good s.b s.p ∧ (s.st = 0 ∧ s.fl < s.b ∨ s.st = 1 ∨ s.st = 2) ∧ 0 ≤ s.fl ∧ s.fl ≤ s.b ∧ 0 ≤ s.at_ ∧ s.at_ ≤ 1099511627776
def askF (s : F) (now : Int) : Bool × F :=
  if now < 0 ∨ 1099511627776 < now ∨ s.st = 2 then (false, s) else if s.st = 0 then (true, s) else if now < s.at_ + s.p then (false, s) else (true, { s with st := 2 })
def badF (s : F) (now : Int) : F :=
  if now < 0 ∨ 1099511627776 < now ∨ s.st = 1 then s else if s.st = 0 then (if s.fl + 1 < s.b then { s with fl := s.fl + 1 } else { s with st := 1, fl := s.fl + 1, at_ := now }) else { s with st := 1, at_ := now }
def goodF (s : F) : F := { s with st := 0, fl := 0 }
def errA (b : Bool) : Option Int := if b = true then none else some 9

theorem ask_ok (s : F) (now : Int) (h : Ok s) : Ok (askF s now).2 := by
  unfold askF
  by_cases c1 : now < 0 ∨ 1099511627776 < now ∨ s.st = 2
  · rw [if_pos c1]; exact h
  · rw [if_neg c1]
    by_cases c2 : s.st = 0
    · rw [if_pos c2]; exact h
    · rw [if_neg c2]
      by_cases c3 : now < s.at_ + s.p
      · rw [if_pos c3]; exact h
      · rw [if_neg c3]
        unfold Ok at h ⊢
        exact ⟨h.1, .inr (.inr rfl), h.2.2⟩
theorem bad_ok (s : F) (now : Int) (h : Ok s) : Ok (badF s now) := by
  unfold badF
  by_cases c1 : now < 0 ∨ 1099511627776 < now ∨ s.st = 1
  · rw [if_pos c1]; exact h
  · rw [if_neg c1]
    unfold Ok at h ⊢
    by_cases c2 : s.st = 0
    · rw [if_pos c2]
      by_cases c3 : s.fl + 1 < s.b
      · rw [if_pos c3]
        refine ⟨h.1, ?_⟩
        simp only
        omega
      · rw [if_neg c3]
        refine ⟨h.1, .inr (.inl rfl), ?_, ?_, ?_, ?_⟩
        all_goals (try dsimp only); omega
    · rw [if_neg c2]
      refine ⟨h.1, .inr (.inl rfl), ?_, ?_, ?_, ?_⟩
      all_goals (try dsimp only); omega
theorem good_ok (s : F) (h : Ok s) : Ok (goodF s) := by
  unfold Ok goodF at *
  have := h.1
  unfold good at this
  refine ⟨h.1, .inl ⟨rfl, ?_⟩, ?_, ?_, ?_, ?_⟩
  all_goals (try dsimp only); omega
theorem new_ok {b p : Int} (h : good b p) : Ok ⟨b, p, 0, 0, 0⟩ := by
  have := h
  unfold good at this
  refine ⟨h, .inl ⟨rfl, ?_⟩, ?_, ?_, ?_, ?_⟩
  all_goals (try dsimp only); omega

theorem ask_f (s : F) (now : Int) (ok : Ok s) : fuse_Fuse_Ask.f 1 s.b s.p s.st s.fl s.at_ now = some (errA (askF s now).1, (askF s now).2.b, (askF s now).2.p, (askF s now).2.st, (askF s now).2.fl, (askF s now).2.at_) := by
  obtain ⟨b, p, st, fl, at_⟩ := s
  unfold Ok good at ok
  simp only at ok
  unfold fuse_Fuse_Ask.f fuse_fair.f askF errA
  simp only [fuse_Fuse_Ask.j0]
  have e : wrap64 (at_ + p) = at_ + p := by unfold wrap64; omega
  rw [e]
  by_cases c1 : now < 0
  · simp [c1, show ¬ now ≥ 0 by omega]
  · by_cases c2 : 1099511627776 < now
    · simp [c1, c2, show now ≥ 0 by omega, show ¬ now ≤ 1099511627776 by omega]
    · by_cases c3 : st = 2
      · simp [c1, c2, c3, show now ≥ 0 by omega, show now ≤ 1099511627776 by omega]
      · by_cases c4 : st = 0
        · simp [c1, c2, c4, show now ≥ 0 by omega, show now ≤ 1099511627776 by omega]
        · by_cases c5 : now < at_ + p
          · simp [c1, c2, c3, c4, c5, show now ≥ 0 by omega, show now ≤ 1099511627776 by omega]
          · simp [c1, c2, c3, c4, c5, show now ≥ 0 by omega, show now ≤ 1099511627776 by omega]
theorem askR_f (s : F) (now : Int) (ok : Ok s) : nogginref22_Fuse_Ask.f 1 s.b s.p s.st s.fl s.at_ now = some ((askF s now).1, (askF s now).2.b, (askF s now).2.p, (askF s now).2.st, (askF s now).2.fl, (askF s now).2.at_) := by
  obtain ⟨b, p, st, fl, at_⟩ := s
  unfold Ok good at ok
  simp only at ok
  unfold nogginref22_Fuse_Ask.f askF
  simp only [nogginref22_Fuse_Ask.j0]
  by_cases c1 : now < 0
  · simp [c1]
  · by_cases c2 : 1099511627776 < now
    · simp [c1, c2]
    · have e : wrap64 (now - at_) = now - at_ := by unfold wrap64; omega
      rw [e]
      by_cases c3 : st = 2
      · simp [c1, c2, c3]
      · by_cases c4 : st = 0
        · simp [c1, c2, c4]
        · have c6 : st = 1 := by omega
          by_cases c5 : now < at_ + p
          · simp [c1, c2, c6, c5, show now - at_ < p by omega]
          · simp [c1, c2, c6, c5, show ¬ now - at_ < p by omega]
theorem bad_f (s : F) (now : Int) (ok : Ok s) : fuse_Fuse_Bad.f s.b s.p s.st s.fl s.at_ now = some ((badF s now).b, (badF s now).p, (badF s now).st, (badF s now).fl, (badF s now).at_) := by
  obtain ⟨b, p, st, fl, at_⟩ := s
  unfold Ok good at ok
  simp only at ok
  unfold fuse_Fuse_Bad.f fuse_fair.f badF
  have e : wrap64 (fl + 1) = fl + 1 := by unfold wrap64; omega
  rw [e]
  by_cases c1 : now < 0
  · simp [c1, show ¬ now ≥ 0 by omega]
  · by_cases c2 : 1099511627776 < now
    · simp [c1, c2, show now ≥ 0 by omega, show ¬ now ≤ 1099511627776 by omega]
    · by_cases c3 : st = 1
      · simp [c1, c2, c3, show now ≥ 0 by omega, show now ≤ 1099511627776 by omega]
      · by_cases c4 : st = 0
        · by_cases c5 : fl + 1 < b
          · simp [c1, c2, c4, c5, show now ≥ 0 by omega, show now ≤ 1099511627776 by omega]
          · simp [c1, c2, c4, c5, show now ≥ 0 by omega, show now ≤ 1099511627776 by omega]
        · have c6 : st = 2 := by omega
          simp [c1, c2, c6, show now ≥ 0 by omega, show now ≤ 1099511627776 by omega]
theorem badR_f (s : F) (now : Int) (ok : Ok s) : nogginref22_Fuse_Bad.f 1 s.b s.p s.st s.fl s.at_ now = some ((badF s now).b, (badF s now).p, (badF s now).st, (badF s now).fl, (badF s now).at_) := by
  obtain ⟨b, p, st, fl, at_⟩ := s
  unfold Ok good at ok
  simp only at ok
  unfold nogginref22_Fuse_Bad.f badF
  simp only [nogginref22_Fuse_Bad.j0]
  have e : wrap64 (fl + 1) = fl + 1 := by unfold wrap64; omega
  rw [e]
  by_cases c1 : now < 0
  · simp [c1]
  · by_cases c2 : 1099511627776 < now
    · simp [c1, c2]
    · by_cases c3 : st = 1
      · simp [c1, c2, c3]
      · by_cases c4 : st = 0
        · by_cases c5 : fl + 1 < b
          · simp [c1, c2, c4, c5]
          · simp [c1, c2, c4, c5]
        · simp [c1, c2, c3, c4]

/-- the state at a block -/
def Is (w0 w : World) (g : Nat) (s : F) : Prop := IsS125 w0 w g s.b s.p s.st s.fl s.at_
def IsR (w0 w : World) (g : Nat) (s : F) : Prop := IsS63 w0 w g s.b s.p s.st s.fl s.at_
def Ends (v : Value) (w0 w : World) (g : Nat) (s : F) (e : Ending) (w' : World) : Prop := e = .returned v ∧ Is w0 w' g s ∧ Below w0.heap.size w0 w' ∧ KeepBut w w' g none
def EndsR (v : Value) (w0 w : World) (g : Nat) (s : F) (e : Ending) (w' : World) : Prop := e = .returned v ∧ IsR w0 w' g s ∧ Below w0.heap.size w0 w' ∧ KeepBut w w' g none
theorem Is.keep {g g' : Nat} {s : F} {w0 w w1 : World} (hI : Is w0 w g s) (hk : KeepBut w w1 g' none) (hne : g ≠ g') : Is w0 w1 g s := ⟨hk.blk hI.1 hne (by simp), hI.2⟩
theorem IsR.keep {g g' : Nat} {s : F} {w0 w w1 : World} (hI : IsR w0 w g s) (hk : KeepBut w w1 g' none) (hne : g ≠ g') : IsR w0 w1 g s := ⟨hk.blk hI.1 hne (by simp), hI.2⟩
theorem Is.later {g : Nat} {s : F} {w0 w w1 : World} (hI : Is w0 w g s) (h : Below w.heap.size w w1) : Is w0 w1 g s := ⟨blk_below hI.1 h, hI.2⟩
theorem IsR.later {g : Nat} {s : F} {w0 w w1 : World} (hI : IsR w0 w g s) (h : Below w.heap.size w w1) : IsR w0 w1 g s := ⟨blk_below hI.1 h, hI.2⟩

theorem ask_as (g : Nat) (s : F) (now : Int) (r : Bool) (s' : F) (w0 w : World) (E : askF s now = (r, s')) (hI : Is w0 w g s) (hB : Below w0.heap.size w0 w) (ok : Ok s) :
    Calls Try.prog 38 #[.pointer (some ⟨g, 0, none⟩), .int .i64 now] w (Ends (errW (errA r)) w0 w g s') := by
  have := fuse_Fuse_Ask.calls 1 g s.b s.p s.st s.fl s.at_ now _ _ _ _ _ _ w0 w hI hB (ask_f s now ok)
  rwa [E] at this
theorem askR_as (g : Nat) (s : F) (now : Int) (r : Bool) (s' : F) (w0 w : World) (E : askF s now = (r, s')) (hI : IsR w0 w g s) (hB : Below w0.heap.size w0 w) (ok : Ok s) :
    Calls Try.prog 39 #[.pointer (some ⟨g, 0, none⟩), .int .i64 now] w (EndsR (.bool r) w0 w g s') := by
  have := nogginref22_Fuse_Ask.calls 1 g s.b s.p s.st s.fl s.at_ now _ _ _ _ _ _ w0 w hI hB (askR_f s now ok)
  rwa [E] at this
theorem bad_as (g : Nat) (s : F) (now : Int) (s' : F) (w0 w : World) (E : badF s now = s') (hI : Is w0 w g s) (hB : Below w0.heap.size w0 w) (ok : Ok s) :
    Calls Try.prog 42 #[.pointer (some ⟨g, 0, none⟩), .int .i64 now] w (Ends (.tuple #[]) w0 w g s') := by
  have := fuse_Fuse_Bad.calls g s.b s.p s.st s.fl s.at_ now _ _ _ _ _ w0 w hI hB (bad_f s now ok)
  rwa [E] at this
theorem badR_as (g : Nat) (s : F) (now : Int) (s' : F) (w0 w : World) (E : badF s now = s') (hI : IsR w0 w g s) (hB : Below w0.heap.size w0 w) (ok : Ok s) :
    Calls Try.prog 43 #[.pointer (some ⟨g, 0, none⟩), .int .i64 now] w (EndsR (.tuple #[]) w0 w g s') := by
  have := nogginref22_Fuse_Bad.calls 1 g s.b s.p s.st s.fl s.at_ now _ _ _ _ _ w0 w hI hB (badR_f s now ok)
  rwa [E] at this
theorem good_as (g : Nat) (s : F) (w0 w : World) (hI : Is w0 w g s) (hB : Below w0.heap.size w0 w) :
    Calls Try.prog 40 #[.pointer (some ⟨g, 0, none⟩)] w (Ends (.tuple #[]) w0 w g (goodF s)) :=
  fuse_Fuse_Good.calls g s.b s.p s.st s.fl s.at_ _ _ _ _ _ w0 w hI hB rfl
theorem well_as (g : Nat) (s : F) (w0 w : World) (hI : IsR w0 w g s) (hB : Below w0.heap.size w0 w) :
    Calls Try.prog 41 #[.pointer (some ⟨g, 0, none⟩)] w (EndsR (.tuple #[]) w0 w g (goodF s)) :=
  nogginref22_Fuse_Well.calls g s.b s.p s.st s.fl s.at_ _ _ _ _ _ w0 w hI hB rfl
theorem state_as (g : Nat) (s : F) (w0 w : World) (hI : Is w0 w g s) (hB : Below w0.heap.size w0 w) :
    Calls Try.prog 44 #[.pointer (some ⟨g, 0, none⟩)] w (Ends (.int .i64 s.st) w0 w g s) :=
  fuse_Fuse_State.calls g s.b s.p s.st s.fl s.at_ _ _ _ _ _ _ w0 w hI hB rfl
theorem goodR_yes (g : Nat) (b p st fl at_ : Int) (w0 w : World) (hI : IsS63 w0 w g b p st fl at_) (hB : Below w0.heap.size w0 w) (gd : good b p) :
    Calls Try.prog 36 #[.pointer (some ⟨g, 0, none⟩)] w (EndsR (.bool true) w0 w g ⟨b, p, st, fl, at_⟩) :=
  nogginref22_Fuse_Good.calls g b p st fl at_ _ _ _ _ _ _ w0 w hI hB (by
    obtain ⟨g1, g2, g3, g4⟩ := gd
    unfold nogginref22_Fuse_Good.f
    rw [if_pos g1, if_pos g2, if_pos g3, decide_eq_true g4])
theorem goodR_no (g : Nat) (b p st fl at_ : Int) (w0 w : World) (hI : IsS63 w0 w g b p st fl at_) (hB : Below w0.heap.size w0 w) (gd : ¬ good b p) :
    Calls Try.prog 36 #[.pointer (some ⟨g, 0, none⟩)] w (EndsR (.bool false) w0 w g ⟨b, p, st, fl, at_⟩) :=
  nogginref22_Fuse_Good.calls g b p st fl at_ _ _ _ _ _ _ w0 w hI hB (by
    unfold nogginref22_Fuse_Good.f
    repeat' split
    all_goals first | rfl | skip
    rw [decide_eq_false (fun h7 => gd ⟨by assumption, by assumption, by assumption, h7⟩)])

/-- one of three -/
def pickI (c : Int) : Int := if c < 0 then Int.tmod (wrap64 (-(wrap64 (c + 1)))) 3 else Int.tmod c 3
theorem pick_f (c : Int) : nogginlaw23_pick.f c 3 = some (pickI c) := by
  unfold nogginlaw23_pick.f pickI
  split <;> rw [if_neg (by decide)]
end Go.Proofs.Ytjkaldnhfenbhaa.Fuse
