/-
  No cell of these rows narrows 'for every input' (looked for: loops, veiled, ifaces, maps, wideKeys, modest, calm, conditions, laid).
  DERIVED. THE GIVEN ROWS OF THIS SEAT. 12 by the template 'for every input the law returns true; each argument reads behind the call as it read before'; 0 by the template 'total and deterministic' (their statements: YtkfcgmknoogliaaTotals.lean).
  GIVEN WITH THE SEED: the statements are not yours to turn. If you find one false, say at which input.
  Laid BY PROGRAM, IN A SANDBOX (cutbox-rows.mjs): the forced cells as the released guide's own fill.sh prints them over the translation 3d69c69491b19de9… (all of the seat's roots in one cut). By AI agents, Wed Nov 11 2026. No macro, syntax, notation, axiom, sorry.
-/
import Derived.Test.YtkfcgmknoogliaaChecked
import GoSem.Claim
import GoSem.ClaimJoined
import GoSem.ClaimMapViews
import Derived.JoinedTies
import Derived.KernelRfl
namespace Go.Proofs.Ytkfcgmknoogliaa
/- THE CELL 'sum', in the pinned program and in every row, IS THE sha256 OF THE DUMP (.gsa) THAT YtkfcgmknoogliaaProg.lean LOADS. Nothing in Lean hashes anything: it is a label: what it is worth is what the hold of that sum in a sandbox is worth. -/
noncomputable def Try.pinned : Pinned := { name := "ytkfcgmknoogliaa", sum := "3d69c69491b19de97a84430018bebef1a9a2f83f8d0d94eb21d813447ea01769", checked := Try.checked }
namespace Rows
def none {H : Type} : Left H := { results := [], args := [] }

/-- 'nogginlaw03.MixOn': WHATEVER THE INPUT: true; the input reads as it did. -/
def mixOnSpec : ChangeSpec := { name := "mixOn", fn := fun _ => fun
  | [d1, d2] => { results := [.lit (.bool true)], args := [d1, d2] }
  | _ => none }
def mixOnRow : OpenClaim := { program := "ytkfcgmknoogliaa", sum := "3d69c69491b19de97a84430018bebef1a9a2f83f8d0d94eb21d813447ea01769", func := "noggin/nogginlaw03.MixOn", spec := "mixOn", apart := false }
def MixOnSaid : Prop := mixOnRow.holds Try.pinned (OpenSpec.ofChange mixOnSpec)

/-- ITS FALSE NEIGHBOUR: 'it returns false'. Refute it at one input. -/
def mixOnWrong : ChangeSpec := { name := "mixOn", fn := fun _ => fun
  | [d1, d2] => { results := [.lit (.bool false)], args := [d1, d2] }
  | _ => none }
def MixOnWrongFalsely : Prop := mixOnRow.holds Try.pinned (OpenSpec.ofChange mixOnWrong)

/-- 'nogginlaw01.SatAdds': WHATEVER THE INPUT: true; the input reads as it did. -/
def satAddsSpec : ChangeSpec := { name := "satAdds", fn := fun _ => fun
  | [d1, d2] => { results := [.lit (.bool true)], args := [d1, d2] }
  | _ => none }
def satAddsRow : OpenClaim := { program := "ytkfcgmknoogliaa", sum := "3d69c69491b19de97a84430018bebef1a9a2f83f8d0d94eb21d813447ea01769", func := "noggin/nogginlaw01.SatAdds", spec := "satAdds", apart := false }
def SatAddsSaid : Prop := satAddsRow.holds Try.pinned (OpenSpec.ofChange satAddsSpec)

/-- ITS FALSE NEIGHBOUR: 'it returns false'. Refute it at one input. -/
def satAddsWrong : ChangeSpec := { name := "satAdds", fn := fun _ => fun
  | [d1, d2] => { results := [.lit (.bool false)], args := [d1, d2] }
  | _ => none }
def SatAddsWrongFalsely : Prop := satAddsRow.holds Try.pinned (OpenSpec.ofChange satAddsWrong)

/-- 'nogginlaw01.SatBack': WHATEVER THE INPUT: true; the input reads as it did. -/
def satBackSpec : ChangeSpec := { name := "satBack", fn := fun _ => fun
  | [d1, d2] => { results := [.lit (.bool true)], args := [d1, d2] }
  | _ => none }
def satBackRow : OpenClaim := { program := "ytkfcgmknoogliaa", sum := "3d69c69491b19de97a84430018bebef1a9a2f83f8d0d94eb21d813447ea01769", func := "noggin/nogginlaw01.SatBack", spec := "satBack", apart := false }
def SatBackSaid : Prop := satBackRow.holds Try.pinned (OpenSpec.ofChange satBackSpec)

/-- ITS FALSE NEIGHBOUR: 'it returns false'. Refute it at one input. -/
def satBackWrong : ChangeSpec := { name := "satBack", fn := fun _ => fun
  | [d1, d2] => { results := [.lit (.bool false)], args := [d1, d2] }
  | _ => none }
def SatBackWrongFalsely : Prop := satBackRow.holds Try.pinned (OpenSpec.ofChange satBackWrong)

/-- 'nogginlaw03.MixTells': WHATEVER THE INPUT: true; the input reads as it did. -/
def mixTellsSpec : ChangeSpec := { name := "mixTells", fn := fun _ => fun
  | [d1, d2] => { results := [.lit (.bool true)], args := [d1, d2] }
  | _ => none }
def mixTellsRow : OpenClaim := { program := "ytkfcgmknoogliaa", sum := "3d69c69491b19de97a84430018bebef1a9a2f83f8d0d94eb21d813447ea01769", func := "noggin/nogginlaw03.MixTells", spec := "mixTells", apart := false }
def MixTellsSaid : Prop := mixTellsRow.holds Try.pinned (OpenSpec.ofChange mixTellsSpec)

/-- ITS FALSE NEIGHBOUR: 'it returns false'. Refute it at one input. -/
def mixTellsWrong : ChangeSpec := { name := "mixTells", fn := fun _ => fun
  | [d1, d2] => { results := [.lit (.bool false)], args := [d1, d2] }
  | _ => none }
def MixTellsWrongFalsely : Prop := mixTellsRow.holds Try.pinned (OpenSpec.ofChange mixTellsWrong)

/-- 'nogginlaw03.MixLess': WHATEVER THE INPUT: true; the input reads as it did. -/
def mixLessSpec : ChangeSpec := { name := "mixLess", fn := fun _ => fun
  | [d1, d2, d3] => { results := [.lit (.bool true)], args := [d1, d2, d3] }
  | _ => none }
def mixLessRow : OpenClaim := { program := "ytkfcgmknoogliaa", sum := "3d69c69491b19de97a84430018bebef1a9a2f83f8d0d94eb21d813447ea01769", func := "noggin/nogginlaw03.MixLess", spec := "mixLess", apart := false }
def MixLessSaid : Prop := mixLessRow.holds Try.pinned (OpenSpec.ofChange mixLessSpec)

/-- ITS FALSE NEIGHBOUR: 'it returns false'. Refute it at one input. -/
def mixLessWrong : ChangeSpec := { name := "mixLess", fn := fun _ => fun
  | [d1, d2, d3] => { results := [.lit (.bool false)], args := [d1, d2, d3] }
  | _ => none }
def MixLessWrongFalsely : Prop := mixLessRow.holds Try.pinned (OpenSpec.ofChange mixLessWrong)

/-- 'nogginlaw01.SatCounts': WHATEVER THE INPUT: true; the input reads as it did. -/
def satCountsSpec : ChangeSpec := { name := "satCounts", fn := fun _ => fun
  | [d1, d2] => { results := [.lit (.bool true)], args := [d1, d2] }
  | _ => none }
def satCountsRow : OpenClaim := { program := "ytkfcgmknoogliaa", sum := "3d69c69491b19de97a84430018bebef1a9a2f83f8d0d94eb21d813447ea01769", func := "noggin/nogginlaw01.SatCounts", spec := "satCounts", apart := false }
def SatCountsSaid : Prop := satCountsRow.holds Try.pinned (OpenSpec.ofChange satCountsSpec)

/-- ITS FALSE NEIGHBOUR: 'it returns false'. Refute it at one input. -/
def satCountsWrong : ChangeSpec := { name := "satCounts", fn := fun _ => fun
  | [d1, d2] => { results := [.lit (.bool false)], args := [d1, d2] }
  | _ => none }
def SatCountsWrongFalsely : Prop := satCountsRow.holds Try.pinned (OpenSpec.ofChange satCountsWrong)

/-- 'nogginlaw01.SatSums': WHATEVER THE INPUT: true; the input reads as it did. -/
def satSumsSpec : ChangeSpec := { name := "satSums", fn := fun _ => fun
  | [d] => { results := [.lit (.bool true)], args := [d] }
  | _ => none }
def satSumsRow : OpenClaim := { program := "ytkfcgmknoogliaa", sum := "3d69c69491b19de97a84430018bebef1a9a2f83f8d0d94eb21d813447ea01769", func := "noggin/nogginlaw01.SatSums", spec := "satSums", apart := false }
def SatSumsSaid : Prop := satSumsRow.holds Try.pinned (OpenSpec.ofChange satSumsSpec)

/-- ITS FALSE NEIGHBOUR: 'it returns false'. Refute it at one input. -/
def satSumsWrong : ChangeSpec := { name := "satSums", fn := fun _ => fun
  | [d] => { results := [.lit (.bool false)], args := [d] }
  | _ => none }
def SatSumsWrongFalsely : Prop := satSumsRow.holds Try.pinned (OpenSpec.ofChange satSumsWrong)

/-- 'nogginlaw22.BackoffWaits': WHATEVER THE INPUT: true; the input reads as it did. -/
def backoffWaitsSpec : ChangeSpec := { name := "backoffWaits", fn := fun _ => fun
  | [d1, d2, d3] => { results := [.lit (.bool true)], args := [d1, d2, d3] }
  | _ => none }
def backoffWaitsRow : OpenClaim := { program := "ytkfcgmknoogliaa", sum := "3d69c69491b19de97a84430018bebef1a9a2f83f8d0d94eb21d813447ea01769", func := "noggin/nogginlaw22.BackoffWaits", spec := "backoffWaits", apart := false }
def BackoffWaitsSaid : Prop := backoffWaitsRow.holds Try.pinned (OpenSpec.ofChange backoffWaitsSpec)

/-- ITS FALSE NEIGHBOUR: 'it returns false'. Refute it at one input. -/
def backoffWaitsWrong : ChangeSpec := { name := "backoffWaits", fn := fun _ => fun
  | [d1, d2, d3] => { results := [.lit (.bool false)], args := [d1, d2, d3] }
  | _ => none }
def BackoffWaitsWrongFalsely : Prop := backoffWaitsRow.holds Try.pinned (OpenSpec.ofChange backoffWaitsWrong)

/-- 'nogginlaw22.BackoffBounds': WHATEVER THE INPUT: true; the input reads as it did. -/
def backoffBoundsSpec : ChangeSpec := { name := "backoffBounds", fn := fun _ => fun
  | [d1, d2, d3] => { results := [.lit (.bool true)], args := [d1, d2, d3] }
  | _ => none }
def backoffBoundsRow : OpenClaim := { program := "ytkfcgmknoogliaa", sum := "3d69c69491b19de97a84430018bebef1a9a2f83f8d0d94eb21d813447ea01769", func := "noggin/nogginlaw22.BackoffBounds", spec := "backoffBounds", apart := false }
def BackoffBoundsSaid : Prop := backoffBoundsRow.holds Try.pinned (OpenSpec.ofChange backoffBoundsSpec)

/-- ITS FALSE NEIGHBOUR: 'it returns false'. Refute it at one input. -/
def backoffBoundsWrong : ChangeSpec := { name := "backoffBounds", fn := fun _ => fun
  | [d1, d2, d3] => { results := [.lit (.bool false)], args := [d1, d2, d3] }
  | _ => none }
def BackoffBoundsWrongFalsely : Prop := backoffBoundsRow.holds Try.pinned (OpenSpec.ofChange backoffBoundsWrong)

/-- 'nogginlaw16.LevelTells': WHATEVER THE INPUT: true; the input reads as it did. -/
def levelTellsSpec : ChangeSpec := { name := "levelTells", fn := fun _ => fun
  | [d1, d2, d3, d4, d5] => { results := [.lit (.bool true)], args := [d1, d2, d3, d4, d5] }
  | _ => none }
def levelTellsRow : OpenClaim := { program := "ytkfcgmknoogliaa", sum := "3d69c69491b19de97a84430018bebef1a9a2f83f8d0d94eb21d813447ea01769", func := "noggin/nogginlaw16.LevelTells", spec := "levelTells", apart := false }
def LevelTellsSaid : Prop := levelTellsRow.holds Try.pinned (OpenSpec.ofChange levelTellsSpec)

/-- ITS FALSE NEIGHBOUR: 'it returns false'. Refute it at one input. -/
def levelTellsWrong : ChangeSpec := { name := "levelTells", fn := fun _ => fun
  | [d1, d2, d3, d4, d5] => { results := [.lit (.bool false)], args := [d1, d2, d3, d4, d5] }
  | _ => none }
def LevelTellsWrongFalsely : Prop := levelTellsRow.holds Try.pinned (OpenSpec.ofChange levelTellsWrong)

/-- 'nogginlaw16.LevelSteps': WHATEVER THE INPUT: true; the input reads as it did. -/
def levelStepsSpec : ChangeSpec := { name := "levelSteps", fn := fun _ => fun
  | [d1, d2, d3, d4, d5] => { results := [.lit (.bool true)], args := [d1, d2, d3, d4, d5] }
  | _ => none }
def levelStepsRow : OpenClaim := { program := "ytkfcgmknoogliaa", sum := "3d69c69491b19de97a84430018bebef1a9a2f83f8d0d94eb21d813447ea01769", func := "noggin/nogginlaw16.LevelSteps", spec := "levelSteps", apart := false }
def LevelStepsSaid : Prop := levelStepsRow.holds Try.pinned (OpenSpec.ofChange levelStepsSpec)

/-- ITS FALSE NEIGHBOUR: 'it returns false'. Refute it at one input. -/
def levelStepsWrong : ChangeSpec := { name := "levelSteps", fn := fun _ => fun
  | [d1, d2, d3, d4, d5] => { results := [.lit (.bool false)], args := [d1, d2, d3, d4, d5] }
  | _ => none }
def LevelStepsWrongFalsely : Prop := levelStepsRow.holds Try.pinned (OpenSpec.ofChange levelStepsWrong)

/-- 'nogginlaw14.RuleMore': WHATEVER THE INPUT: true; the input reads as it did. -/
def ruleMoreSpec : ChangeSpec := { name := "ruleMore", fn := fun _ => fun
  | [d1, d2, d3, d4] => { results := [.lit (.bool true)], args := [d1, d2, d3, d4] }
  | _ => none }
def ruleMoreRow : OpenClaim := { program := "ytkfcgmknoogliaa", sum := "3d69c69491b19de97a84430018bebef1a9a2f83f8d0d94eb21d813447ea01769", func := "noggin/nogginlaw14.RuleMore", spec := "ruleMore", apart := false }
def RuleMoreSaid : Prop := ruleMoreRow.holds Try.pinned (OpenSpec.ofChange ruleMoreSpec)

/-- ITS FALSE NEIGHBOUR: 'it returns false'. Refute it at one input. -/
def ruleMoreWrong : ChangeSpec := { name := "ruleMore", fn := fun _ => fun
  | [d1, d2, d3, d4] => { results := [.lit (.bool false)], args := [d1, d2, d3, d4] }
  | _ => none }
def RuleMoreWrongFalsely : Prop := ruleMoreRow.holds Try.pinned (OpenSpec.ofChange ruleMoreWrong)

/- THE SECOND FORM. 'bulk': how many values and letters a reading holds, each counted each time it is reached (what is shared counts as often as it is met; a slice's spare places count too). A statement '..UptoSaid' is the law's where the arguments, and the package variables that the reading takes, are together of bulk at most 1048576: NARROWER than '..Said'. Prove '..Said' where nothing that the law and all that it calls make is longer than what came in: it says more and counts as full. Else prove '..UptoSaid'. A law counts once. -/
mutual
def uptoBulk {H : Type} : DataW H → Nat
  | .lit (.string bytes) => bytes.length + 1
  | .lit _ => 1
  | .nil => 1
  | .ptr d => uptoBulk d + 1
  | .slice elems spare => uptoBulkAll elems + uptoBulkAll spare + 1
  | .agg parts => uptoBulkAll parts + 1
  | .iface _ d => uptoBulk d + 1
  | .map entries => uptoBulkEntries entries + 1
  | .held _ => 1
def uptoBulkAll {H : Type} : List (DataW H) → Nat
  | [] => 0
  | d :: r => uptoBulk d + uptoBulkAll r
def uptoBulkEntries {H : Type} : List (Lit × DataW H) → Nat
  | [] => 0
  | x :: r => uptoBulkEntry x + uptoBulkEntries r
def uptoBulkEntry {H : Type} : Lit × DataW H → Nat
  | (.string bytes, d) => bytes.length + uptoBulk d + 1
  | (_, d) => uptoBulk d + 1
 end
def uptoSmall : (H : Type) → List (DataW H) → Bool := fun _ ds => decide (uptoBulkAll ds ≤ 1048576)
def OpenSpec.upto (s : _root_.Go.ChangeSpec) : _root_.Go.OpenSpec := { _root_.Go.OpenSpec.ofChange s with cond := some uptoSmall }

/-- 'nogginlaw03.MixOn', WHERE WHAT IT READS IS OF BULK AT MOST 1048576: true; the input reads as it did. -/
def mixOnUptoRow : OpenClaim := { program := "ytkfcgmknoogliaa", sum := "3d69c69491b19de97a84430018bebef1a9a2f83f8d0d94eb21d813447ea01769", func := "noggin/nogginlaw03.MixOn", spec := "mixOn", apart := false, narrowed := true }
def MixOnUptoSaid : Prop := mixOnUptoRow.holds Try.pinned (OpenSpec.upto mixOnSpec)

/-- 'nogginlaw01.SatAdds', WHERE WHAT IT READS IS OF BULK AT MOST 1048576: true; the input reads as it did. -/
def satAddsUptoRow : OpenClaim := { program := "ytkfcgmknoogliaa", sum := "3d69c69491b19de97a84430018bebef1a9a2f83f8d0d94eb21d813447ea01769", func := "noggin/nogginlaw01.SatAdds", spec := "satAdds", apart := false, narrowed := true }
def SatAddsUptoSaid : Prop := satAddsUptoRow.holds Try.pinned (OpenSpec.upto satAddsSpec)

/-- 'nogginlaw01.SatBack', WHERE WHAT IT READS IS OF BULK AT MOST 1048576: true; the input reads as it did. -/
def satBackUptoRow : OpenClaim := { program := "ytkfcgmknoogliaa", sum := "3d69c69491b19de97a84430018bebef1a9a2f83f8d0d94eb21d813447ea01769", func := "noggin/nogginlaw01.SatBack", spec := "satBack", apart := false, narrowed := true }
def SatBackUptoSaid : Prop := satBackUptoRow.holds Try.pinned (OpenSpec.upto satBackSpec)

/-- 'nogginlaw03.MixTells', WHERE WHAT IT READS IS OF BULK AT MOST 1048576: true; the input reads as it did. -/
def mixTellsUptoRow : OpenClaim := { program := "ytkfcgmknoogliaa", sum := "3d69c69491b19de97a84430018bebef1a9a2f83f8d0d94eb21d813447ea01769", func := "noggin/nogginlaw03.MixTells", spec := "mixTells", apart := false, narrowed := true }
def MixTellsUptoSaid : Prop := mixTellsUptoRow.holds Try.pinned (OpenSpec.upto mixTellsSpec)

/-- 'nogginlaw03.MixLess', WHERE WHAT IT READS IS OF BULK AT MOST 1048576: true; the input reads as it did. -/
def mixLessUptoRow : OpenClaim := { program := "ytkfcgmknoogliaa", sum := "3d69c69491b19de97a84430018bebef1a9a2f83f8d0d94eb21d813447ea01769", func := "noggin/nogginlaw03.MixLess", spec := "mixLess", apart := false, narrowed := true }
def MixLessUptoSaid : Prop := mixLessUptoRow.holds Try.pinned (OpenSpec.upto mixLessSpec)

/-- 'nogginlaw01.SatCounts', WHERE WHAT IT READS IS OF BULK AT MOST 1048576: true; the input reads as it did. -/
def satCountsUptoRow : OpenClaim := { program := "ytkfcgmknoogliaa", sum := "3d69c69491b19de97a84430018bebef1a9a2f83f8d0d94eb21d813447ea01769", func := "noggin/nogginlaw01.SatCounts", spec := "satCounts", apart := false, narrowed := true }
def SatCountsUptoSaid : Prop := satCountsUptoRow.holds Try.pinned (OpenSpec.upto satCountsSpec)

/-- 'nogginlaw01.SatSums', WHERE WHAT IT READS IS OF BULK AT MOST 1048576: true; the input reads as it did. -/
def satSumsUptoRow : OpenClaim := { program := "ytkfcgmknoogliaa", sum := "3d69c69491b19de97a84430018bebef1a9a2f83f8d0d94eb21d813447ea01769", func := "noggin/nogginlaw01.SatSums", spec := "satSums", apart := false, narrowed := true }
def SatSumsUptoSaid : Prop := satSumsUptoRow.holds Try.pinned (OpenSpec.upto satSumsSpec)

/-- 'nogginlaw22.BackoffWaits', WHERE WHAT IT READS IS OF BULK AT MOST 1048576: true; the input reads as it did. -/
def backoffWaitsUptoRow : OpenClaim := { program := "ytkfcgmknoogliaa", sum := "3d69c69491b19de97a84430018bebef1a9a2f83f8d0d94eb21d813447ea01769", func := "noggin/nogginlaw22.BackoffWaits", spec := "backoffWaits", apart := false, narrowed := true }
def BackoffWaitsUptoSaid : Prop := backoffWaitsUptoRow.holds Try.pinned (OpenSpec.upto backoffWaitsSpec)

/-- 'nogginlaw22.BackoffBounds', WHERE WHAT IT READS IS OF BULK AT MOST 1048576: true; the input reads as it did. -/
def backoffBoundsUptoRow : OpenClaim := { program := "ytkfcgmknoogliaa", sum := "3d69c69491b19de97a84430018bebef1a9a2f83f8d0d94eb21d813447ea01769", func := "noggin/nogginlaw22.BackoffBounds", spec := "backoffBounds", apart := false, narrowed := true }
def BackoffBoundsUptoSaid : Prop := backoffBoundsUptoRow.holds Try.pinned (OpenSpec.upto backoffBoundsSpec)

/-- 'nogginlaw16.LevelTells', WHERE WHAT IT READS IS OF BULK AT MOST 1048576: true; the input reads as it did. -/
def levelTellsUptoRow : OpenClaim := { program := "ytkfcgmknoogliaa", sum := "3d69c69491b19de97a84430018bebef1a9a2f83f8d0d94eb21d813447ea01769", func := "noggin/nogginlaw16.LevelTells", spec := "levelTells", apart := false, narrowed := true }
def LevelTellsUptoSaid : Prop := levelTellsUptoRow.holds Try.pinned (OpenSpec.upto levelTellsSpec)

/-- 'nogginlaw16.LevelSteps', WHERE WHAT IT READS IS OF BULK AT MOST 1048576: true; the input reads as it did. -/
def levelStepsUptoRow : OpenClaim := { program := "ytkfcgmknoogliaa", sum := "3d69c69491b19de97a84430018bebef1a9a2f83f8d0d94eb21d813447ea01769", func := "noggin/nogginlaw16.LevelSteps", spec := "levelSteps", apart := false, narrowed := true }
def LevelStepsUptoSaid : Prop := levelStepsUptoRow.holds Try.pinned (OpenSpec.upto levelStepsSpec)

/-- 'nogginlaw14.RuleMore', WHERE WHAT IT READS IS OF BULK AT MOST 1048576: true; the input reads as it did. -/
def ruleMoreUptoRow : OpenClaim := { program := "ytkfcgmknoogliaa", sum := "3d69c69491b19de97a84430018bebef1a9a2f83f8d0d94eb21d813447ea01769", func := "noggin/nogginlaw14.RuleMore", spec := "ruleMore", apart := false, narrowed := true }
def RuleMoreUptoSaid : Prop := ruleMoreUptoRow.holds Try.pinned (OpenSpec.upto ruleMoreSpec)

end Rows
end Go.Proofs.Ytkfcgmknoogliaa
