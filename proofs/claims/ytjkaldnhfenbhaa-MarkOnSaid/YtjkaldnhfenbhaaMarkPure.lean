/- The plain side of layer 19: a mark, as the program and the document have it. -/
import Derived.Test.YtjkaldnhfenbhaaPMarkTellsx1
set_option linter.unusedVariables false
namespace Go.Proofs.Ytjkaldnhfenbhaa.Mark
open Go.RowKit Go.Proofs.YtjkaldnhfenbhaaW.PrintWords Go.Proofs.YtjkaldnhfenbhaaW.PrintLast Go.Proofs.Ytjkaldnhfenbhaa.PMarkTells

/-- a mark -/
structure M where
  la : Int
  id : Int
  saw : Bool
  most : Int
  at_ : Int
  last : Int
/-- a mark that may be -/
def Ok (s : M) : Prop := 0 ≤ s.la ∧ s.la ≤ 1099511627776 ∧ 1 ≤ s.id ∧ s.id ≤ 1099511627776 ∧ 0 ≤ s.most ∧ s.most ≤ 1099511627776 ∧ 0 ≤ s.at_ ∧ s.at_ ≤ s.last ∧ s.last ≤ 1099511627776
def fair (s : M) (now : Int) : Bool := decide (s.last ≤ now) && decide (now ≤ 1099511627776)
theorem fair_iff {s : M} {now : Int} (h : fair s now = true) : s.last ≤ now ∧ now ≤ 1099511627776 := by simpa [fair] using h
def seeM (s : M) (now time : Int) : Bool × M :=
  if fair s now = true ∧ 0 ≤ time ∧ time ≤ 1099511627776 then (true, { s with saw := true, most := if s.most < time then time else s.most, at_ := now, last := now }) else (false, s)
def tickM (s : M) (now : Int) : Bool × M :=
  if fair s now = true then (true, { s with most := if s.saw = true ∧ s.id ≤ now - s.at_ then (if 1099511627776 < s.most + now - s.last then 1099511627776 else s.most + now - s.last) else s.most, last := now }) else (false, s)
def atM (s : M) : Int := if s.saw = true then (if s.most - s.la < 0 then 0 else s.most - s.la) else 0
theorem see_ok (s : M) (now time : Int) (h : Ok s) : Ok (seeM s now time).2 := by
  unfold seeM
  by_cases c : fair s now = true ∧ 0 ≤ time ∧ time ≤ 1099511627776
  · rw [if_pos c]
    have hf := fair_iff c.1
    unfold Ok at h ⊢
    simp only
    by_cases c2 : s.most < time
    · rw [if_pos c2]; omega
    · rw [if_neg c2]; omega
  · rw [if_neg c]; exact h
theorem tick_ok (s : M) (now : Int) (h : Ok s) : Ok (tickM s now).2 := by
  unfold tickM
  by_cases hf : fair s now = true
  · rw [if_pos hf]
    have hf := fair_iff hf
    unfold Ok at h ⊢
    simp only
    by_cases c1 : s.saw = true ∧ s.id ≤ now - s.at_
    · rw [if_pos c1]
      by_cases c2 : 1099511627776 < s.most + now - s.last
      · rw [if_pos c2]; omega
      · rw [if_neg c2]; omega
    · rw [if_neg c1]; omega
  · rw [if_neg hf]; exact h

theorem fair_f (s : M) (now : Int) : mark_Mark_fair.f s.la s.id s.saw s.most s.at_ s.last now = some (fair s now, s.la, s.id, s.saw, s.most, s.at_, s.last) := by
  unfold mark_Mark_fair.f fair
  by_cases h1 : s.last ≤ now
  · rw [if_pos h1, decide_eq_true h1, Bool.true_and]
  · rw [if_neg h1, decide_eq_false h1, Bool.false_and]
theorem fairR_f (s : M) (now : Int) (ok : Ok s) : nogginref18_Mark_fair.f s.la s.id s.saw s.most s.at_ s.last now = some (fair s now, s.la, s.id, s.saw, s.most, s.at_, s.last) := by
  unfold Ok at ok
  unfold nogginref18_Mark_fair.f fair
  by_cases h1 : s.last ≤ now
  · rw [if_pos (by omega), decide_eq_true h1, Bool.true_and]
    by_cases h2 : now ≤ 1099511627776
    · rw [if_pos h2, decide_eq_true h2]
    · rw [if_neg h2, decide_eq_false h2]
  · rw [decide_eq_false h1, Bool.false_and]
    by_cases h3 : 0 ≤ now
    · rw [if_pos h3, if_pos (by omega)]
    · rw [if_neg h3]
theorem at_f (s : M) (ok : Ok s) : mark_Mark_At.f s.la s.id s.saw s.most s.at_ s.last = some (atM s, s.la, s.id, s.saw, s.most, s.at_, s.last) := by
  unfold Ok at ok
  have e : wrap64 (s.most - s.la) = s.most - s.la := by unfold wrap64; omega
  unfold mark_Mark_At.f atM
  rw [e]
  by_cases h1 : s.saw = true
  · rw [if_pos h1, if_pos h1]; rfl
  · rw [if_neg h1, if_neg h1]
theorem atR_f (s : M) (ok : Ok s) : nogginref18_Mark_Stands.f s.la s.id s.saw s.most s.at_ s.last = some (atM s, s.la, s.id, s.saw, s.most, s.at_, s.last) := by
  unfold Ok at ok
  have e : wrap64 (s.most - s.la) = s.most - s.la := by unfold wrap64; omega
  unfold nogginref18_Mark_Stands.f atM
  rw [e]
  by_cases h1 : s.saw = true
  · rw [if_pos h1, if_pos h1]
    by_cases h2 : s.most < s.la
    · rw [if_pos h2, if_pos (by omega)]
    · rw [if_neg h2, if_neg (by omega)]
  · rw [if_neg h1, if_neg h1]
theorem see_f (s : M) (now time : Int) : mark_Mark_See.f s.la s.id s.saw s.most s.at_ s.last now time = some ((seeM s now time).1, (seeM s now time).2.la, (seeM s now time).2.id, (seeM s now time).2.saw, (seeM s now time).2.most, (seeM s now time).2.at_, (seeM s now time).2.last) := by
  unfold mark_Mark_See.f seeM
  rw [fair_f, Option.bind_some]
  by_cases h1 : fair s now = true
  · simp only [h1, if_true]
    by_cases h2 : time < 0
    · rw [if_pos h2, if_neg (fun h => by omega)]
    · rw [if_neg h2]
      by_cases h3 : time > 1099511627776
      · rw [if_pos h3, if_neg (fun h => by omega)]
      · rw [if_neg h3, if_pos ⟨trivial, by omega, by omega⟩]; rfl
  · rw [if_neg h1, if_neg (fun h => h1 h.1)]
theorem seeR_f (s : M) (now time : Int) (ok : Ok s) : nogginref18_Mark_See.f 2 s.la s.id s.saw s.most s.at_ s.last now time = some ((seeM s now time).1, (seeM s now time).2.la, (seeM s now time).2.id, (seeM s now time).2.saw, (seeM s now time).2.most, (seeM s now time).2.at_, (seeM s now time).2.last) := by
  unfold nogginref18_Mark_See.f seeM
  rw [fairR_f s now ok, Option.bind_some]
  by_cases h1 : fair s now = true
  · simp only [h1, if_true]
    by_cases h2 : time < 0
    · rw [if_pos h2, if_neg (fun h => by omega)]; rfl
    · rw [if_neg h2]
      by_cases h3 : time > 1099511627776
      · rw [decide_eq_true h3, if_neg (fun h => by omega)]; rfl
      · rw [decide_eq_false h3, if_pos ⟨trivial, by omega, by omega⟩, nogginref18_Mark_See.j0, if_neg (by decide)]
        by_cases h4 : time > s.most
        · rw [if_pos h4, if_pos (by omega)]
        · rw [if_neg h4, if_neg (by omega)]
  · rw [if_neg h1, if_neg (fun h => h1 h.1)]; rfl
end Go.Proofs.Ytjkaldnhfenbhaa.Mark
