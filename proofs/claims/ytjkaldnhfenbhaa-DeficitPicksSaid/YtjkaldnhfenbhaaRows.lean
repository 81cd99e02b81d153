/-
  No cell of these rows narrows 'for every input' (looked for: loops, veiled, ifaces, maps, wideKeys, modest, calm, conditions, laid).
  DERIVED. THE GIVEN ROWS OF THIS SEAT. 12 by the template 'for every input the law returns true; each argument reads behind the call as it read before'; 0 by the template 'total and deterministic' (their statements: YtjkaldnhfenbhaaTotals.lean).
  GIVEN WITH THE SEED: the statements are not yours to turn. If you find one false, say at which input.
  Laid BY PROGRAM, IN A SANDBOX (cutbox-rows.mjs): the forced cells as the released guide's own fill.sh prints them over the translation 1d01be20b31e7612… (all of the seat's roots in one cut). By AI agents, Wed Nov 11 2026. No macro, syntax, notation, axiom, sorry.
-/
import Derived.Test.YtjkaldnhfenbhaaChecked
import GoSem.Claim
import GoSem.ClaimJoined
import GoSem.ClaimMapViews
import Derived.JoinedTies
import Derived.KernelRfl
namespace Go.Proofs.Ytjkaldnhfenbhaa
/- THE CELL 'sum', in the pinned program and in every row, IS THE sha256 OF THE DUMP (.gsa) THAT YtjkaldnhfenbhaaProg.lean LOADS. Nothing in Lean hashes anything: it is a label: what it is worth is what the hold of that sum in a sandbox is worth. -/
noncomputable def Try.pinned : Pinned := { name := "ytjkaldnhfenbhaa", sum := "1d01be20b31e7612e910bde1ce47d741938679239dedd664221d7a0108df628f", checked := Try.checked }
namespace Rows
def none {H : Type} : Left H := { results := [], args := [] }

/-- 'nogginlaw19.MarkTells': WHATEVER THE INPUT: true; the input reads as it did. -/
def markTellsSpec : ChangeSpec := { name := "markTells", fn := fun _ => fun
  | [d1, d2, d3] => { results := [.lit (.bool true)], args := [d1, d2, d3] }
  | _ => none }
def markTellsRow : OpenClaim := { program := "ytjkaldnhfenbhaa", sum := "1d01be20b31e7612e910bde1ce47d741938679239dedd664221d7a0108df628f", func := "noggin/nogginlaw19.MarkTells", spec := "markTells", apart := false }
def MarkTellsSaid : Prop := markTellsRow.holds Try.pinned (OpenSpec.ofChange markTellsSpec)

/-- ITS FALSE NEIGHBOUR: 'it returns false'. Refute it at one input. -/
def markTellsWrong : ChangeSpec := { name := "markTells", fn := fun _ => fun
  | [d1, d2, d3] => { results := [.lit (.bool false)], args := [d1, d2, d3] }
  | _ => none }
def MarkTellsWrongFalsely : Prop := markTellsRow.holds Try.pinned (OpenSpec.ofChange markTellsWrong)

/-- 'nogginlaw19.MarkOn': WHATEVER THE INPUT: true; the input reads as it did. -/
def markOnSpec : ChangeSpec := { name := "markOn", fn := fun _ => fun
  | [d1, d2, d3] => { results := [.lit (.bool true)], args := [d1, d2, d3] }
  | _ => none }
def markOnRow : OpenClaim := { program := "ytjkaldnhfenbhaa", sum := "1d01be20b31e7612e910bde1ce47d741938679239dedd664221d7a0108df628f", func := "noggin/nogginlaw19.MarkOn", spec := "markOn", apart := false }
def MarkOnSaid : Prop := markOnRow.holds Try.pinned (OpenSpec.ofChange markOnSpec)

/-- ITS FALSE NEIGHBOUR: 'it returns false'. Refute it at one input. -/
def markOnWrong : ChangeSpec := { name := "markOn", fn := fun _ => fun
  | [d1, d2, d3] => { results := [.lit (.bool false)], args := [d1, d2, d3] }
  | _ => none }
def MarkOnWrongFalsely : Prop := markOnRow.holds Try.pinned (OpenSpec.ofChange markOnWrong)

/-- 'nogginlaw10.RingPlays': WHATEVER THE INPUT: true; the input reads as it did. -/
def ringPlaysSpec : ChangeSpec := { name := "ringPlays", fn := fun _ => fun
  | [d1, d2] => { results := [.lit (.bool true)], args := [d1, d2] }
  | _ => none }
def ringPlaysRow : OpenClaim := { program := "ytjkaldnhfenbhaa", sum := "1d01be20b31e7612e910bde1ce47d741938679239dedd664221d7a0108df628f", func := "noggin/nogginlaw10.RingPlays", spec := "ringPlays", apart := false }
def RingPlaysSaid : Prop := ringPlaysRow.holds Try.pinned (OpenSpec.ofChange ringPlaysSpec)

/-- ITS FALSE NEIGHBOUR: 'it returns false'. Refute it at one input. -/
def ringPlaysWrong : ChangeSpec := { name := "ringPlays", fn := fun _ => fun
  | [d1, d2] => { results := [.lit (.bool false)], args := [d1, d2] }
  | _ => none }
def RingPlaysWrongFalsely : Prop := ringPlaysRow.holds Try.pinned (OpenSpec.ofChange ringPlaysWrong)

/-- 'nogginlaw10.RingOrder': WHATEVER THE INPUT: true; the input reads as it did. -/
def ringOrderSpec : ChangeSpec := { name := "ringOrder", fn := fun _ => fun
  | [d1, d2] => { results := [.lit (.bool true)], args := [d1, d2] }
  | _ => none }
def ringOrderRow : OpenClaim := { program := "ytjkaldnhfenbhaa", sum := "1d01be20b31e7612e910bde1ce47d741938679239dedd664221d7a0108df628f", func := "noggin/nogginlaw10.RingOrder", spec := "ringOrder", apart := false }
def RingOrderSaid : Prop := ringOrderRow.holds Try.pinned (OpenSpec.ofChange ringOrderSpec)

/-- ITS FALSE NEIGHBOUR: 'it returns false'. Refute it at one input. -/
def ringOrderWrong : ChangeSpec := { name := "ringOrder", fn := fun _ => fun
  | [d1, d2] => { results := [.lit (.bool false)], args := [d1, d2] }
  | _ => none }
def RingOrderWrongFalsely : Prop := ringOrderRow.holds Try.pinned (OpenSpec.ofChange ringOrderWrong)

/-- 'nogginlaw23.FusePlays': WHATEVER THE INPUT: true; the input reads as it did. -/
def fusePlaysSpec : ChangeSpec := { name := "fusePlays", fn := fun _ => fun
  | [d1, d2, d3] => { results := [.lit (.bool true)], args := [d1, d2, d3] }
  | _ => none }
def fusePlaysRow : OpenClaim := { program := "ytjkaldnhfenbhaa", sum := "1d01be20b31e7612e910bde1ce47d741938679239dedd664221d7a0108df628f", func := "noggin/nogginlaw23.FusePlays", spec := "fusePlays", apart := false }
def FusePlaysSaid : Prop := fusePlaysRow.holds Try.pinned (OpenSpec.ofChange fusePlaysSpec)

/-- ITS FALSE NEIGHBOUR: 'it returns false'. Refute it at one input. -/
def fusePlaysWrong : ChangeSpec := { name := "fusePlays", fn := fun _ => fun
  | [d1, d2, d3] => { results := [.lit (.bool false)], args := [d1, d2, d3] }
  | _ => none }
def FusePlaysWrongFalsely : Prop := fusePlaysRow.holds Try.pinned (OpenSpec.ofChange fusePlaysWrong)

/-- 'nogginlaw23.FuseShuts': WHATEVER THE INPUT: true; the input reads as it did. -/
def fuseShutsSpec : ChangeSpec := { name := "fuseShuts", fn := fun _ => fun
  | [d1, d2, d3, d4, d5] => { results := [.lit (.bool true)], args := [d1, d2, d3, d4, d5] }
  | _ => none }
def fuseShutsRow : OpenClaim := { program := "ytjkaldnhfenbhaa", sum := "1d01be20b31e7612e910bde1ce47d741938679239dedd664221d7a0108df628f", func := "noggin/nogginlaw23.FuseShuts", spec := "fuseShuts", apart := false }
def FuseShutsSaid : Prop := fuseShutsRow.holds Try.pinned (OpenSpec.ofChange fuseShutsSpec)

/-- ITS FALSE NEIGHBOUR: 'it returns false'. Refute it at one input. -/
def fuseShutsWrong : ChangeSpec := { name := "fuseShuts", fn := fun _ => fun
  | [d1, d2, d3, d4, d5] => { results := [.lit (.bool false)], args := [d1, d2, d3, d4, d5] }
  | _ => none }
def FuseShutsWrongFalsely : Prop := fuseShutsRow.holds Try.pinned (OpenSpec.ofChange fuseShutsWrong)

/-- 'nogginlaw15.SampleMore': WHATEVER THE INPUT: true; the input reads as it did. -/
def sampleMoreSpec : ChangeSpec := { name := "sampleMore", fn := fun _ => fun
  | [d1, d2, d3, d4] => { results := [.lit (.bool true)], args := [d1, d2, d3, d4] }
  | _ => none }
def sampleMoreRow : OpenClaim := { program := "ytjkaldnhfenbhaa", sum := "1d01be20b31e7612e910bde1ce47d741938679239dedd664221d7a0108df628f", func := "noggin/nogginlaw15.SampleMore", spec := "sampleMore", apart := false }
def SampleMoreSaid : Prop := sampleMoreRow.holds Try.pinned (OpenSpec.ofChange sampleMoreSpec)

/-- ITS FALSE NEIGHBOUR: 'it returns false'. Refute it at one input. -/
def sampleMoreWrong : ChangeSpec := { name := "sampleMore", fn := fun _ => fun
  | [d1, d2, d3, d4] => { results := [.lit (.bool false)], args := [d1, d2, d3, d4] }
  | _ => none }
def SampleMoreWrongFalsely : Prop := sampleMoreRow.holds Try.pinned (OpenSpec.ofChange sampleMoreWrong)

/-- 'nogginlaw15.SampleKeeps': WHATEVER THE INPUT: true; the input reads as it did. -/
def sampleKeepsSpec : ChangeSpec := { name := "sampleKeeps", fn := fun _ => fun
  | [d1, d2, d3, d4] => { results := [.lit (.bool true)], args := [d1, d2, d3, d4] }
  | _ => none }
def sampleKeepsRow : OpenClaim := { program := "ytjkaldnhfenbhaa", sum := "1d01be20b31e7612e910bde1ce47d741938679239dedd664221d7a0108df628f", func := "noggin/nogginlaw15.SampleKeeps", spec := "sampleKeeps", apart := false }
def SampleKeepsSaid : Prop := sampleKeepsRow.holds Try.pinned (OpenSpec.ofChange sampleKeepsSpec)

/-- ITS FALSE NEIGHBOUR: 'it returns false'. Refute it at one input. -/
def sampleKeepsWrong : ChangeSpec := { name := "sampleKeeps", fn := fun _ => fun
  | [d1, d2, d3, d4] => { results := [.lit (.bool false)], args := [d1, d2, d3, d4] }
  | _ => none }
def SampleKeepsWrongFalsely : Prop := sampleKeepsRow.holds Try.pinned (OpenSpec.ofChange sampleKeepsWrong)

/-- 'nogginlaw11.DelayLaw': WHATEVER THE INPUT: true; the input reads as it did. -/
def delayLawSpec : ChangeSpec := { name := "delayLaw", fn := fun _ => fun
  | [d1, d2, d3, d4, d5] => { results := [.lit (.bool true)], args := [d1, d2, d3, d4, d5] }
  | _ => none }
def delayLawRow : OpenClaim := { program := "ytjkaldnhfenbhaa", sum := "1d01be20b31e7612e910bde1ce47d741938679239dedd664221d7a0108df628f", func := "noggin/nogginlaw11.DelayLaw", spec := "delayLaw", apart := false }
def DelayLawSaid : Prop := delayLawRow.holds Try.pinned (OpenSpec.ofChange delayLawSpec)

/-- ITS FALSE NEIGHBOUR: 'it returns false'. Refute it at one input. -/
def delayLawWrong : ChangeSpec := { name := "delayLaw", fn := fun _ => fun
  | [d1, d2, d3, d4, d5] => { results := [.lit (.bool false)], args := [d1, d2, d3, d4, d5] }
  | _ => none }
def DelayLawWrongFalsely : Prop := delayLawRow.holds Try.pinned (OpenSpec.ofChange delayLawWrong)

/-- 'nogginlaw17.LedgerPlays': WHATEVER THE INPUT: true; the input reads as it did. -/
def ledgerPlaysSpec : ChangeSpec := { name := "ledgerPlays", fn := fun _ => fun
  | [d1, d2, d3, d4] => { results := [.lit (.bool true)], args := [d1, d2, d3, d4] }
  | _ => none }
def ledgerPlaysRow : OpenClaim := { program := "ytjkaldnhfenbhaa", sum := "1d01be20b31e7612e910bde1ce47d741938679239dedd664221d7a0108df628f", func := "noggin/nogginlaw17.LedgerPlays", spec := "ledgerPlays", apart := false }
def LedgerPlaysSaid : Prop := ledgerPlaysRow.holds Try.pinned (OpenSpec.ofChange ledgerPlaysSpec)

/-- ITS FALSE NEIGHBOUR: 'it returns false'. Refute it at one input. -/
def ledgerPlaysWrong : ChangeSpec := { name := "ledgerPlays", fn := fun _ => fun
  | [d1, d2, d3, d4] => { results := [.lit (.bool false)], args := [d1, d2, d3, d4] }
  | _ => none }
def LedgerPlaysWrongFalsely : Prop := ledgerPlaysRow.holds Try.pinned (OpenSpec.ofChange ledgerPlaysWrong)

/-- 'nogginlaw17.LedgerWhole': WHATEVER THE INPUT: true; the input reads as it did. -/
def ledgerWholeSpec : ChangeSpec := { name := "ledgerWhole", fn := fun _ => fun
  | [d1, d2, d3] => { results := [.lit (.bool true)], args := [d1, d2, d3] }
  | _ => none }
def ledgerWholeRow : OpenClaim := { program := "ytjkaldnhfenbhaa", sum := "1d01be20b31e7612e910bde1ce47d741938679239dedd664221d7a0108df628f", func := "noggin/nogginlaw17.LedgerWhole", spec := "ledgerWhole", apart := false }
def LedgerWholeSaid : Prop := ledgerWholeRow.holds Try.pinned (OpenSpec.ofChange ledgerWholeSpec)

/-- ITS FALSE NEIGHBOUR: 'it returns false'. Refute it at one input. -/
def ledgerWholeWrong : ChangeSpec := { name := "ledgerWhole", fn := fun _ => fun
  | [d1, d2, d3] => { results := [.lit (.bool false)], args := [d1, d2, d3] }
  | _ => none }
def LedgerWholeWrongFalsely : Prop := ledgerWholeRow.holds Try.pinned (OpenSpec.ofChange ledgerWholeWrong)

/-- 'nogginlaw12.DeficitPicks': WHATEVER THE INPUT: true; the input reads as it did. -/
def deficitPicksSpec : ChangeSpec := { name := "deficitPicks", fn := fun _ => fun
  | [d1, d2] => { results := [.lit (.bool true)], args := [d1, d2] }
  | _ => none }
def deficitPicksRow : OpenClaim := { program := "ytjkaldnhfenbhaa", sum := "1d01be20b31e7612e910bde1ce47d741938679239dedd664221d7a0108df628f", func := "noggin/nogginlaw12.DeficitPicks", spec := "deficitPicks", unfollowed := true, recurses := true, apart := false }
def DeficitPicksSaid : Prop := deficitPicksRow.holds Try.pinned (OpenSpec.ofChange deficitPicksSpec)

/-- ITS FALSE NEIGHBOUR: 'it returns false'. Refute it at one input. -/
def deficitPicksWrong : ChangeSpec := { name := "deficitPicks", fn := fun _ => fun
  | [d1, d2] => { results := [.lit (.bool false)], args := [d1, d2] }
  | _ => none }
def DeficitPicksWrongFalsely : Prop := deficitPicksRow.holds Try.pinned (OpenSpec.ofChange deficitPicksWrong)

/- THE SECOND FORM. 'bulk': how many values and letters a reading holds, each counted each time it is reached (what is shared counts as often as it is met; a slice's spare places count too). A statement '..UptoSaid' is the law's where the arguments, and the package variables that the reading takes, are together of bulk at most 1048576: NARROWER than '..Said'. Prove '..Said' where nothing that the law and all that it calls make is longer than what came in: it says more and counts as full. Else prove '..UptoSaid'. A law counts once. -/
mutual
def uptoBulk {H : Type} : DataW H → Nat
  | .lit (.string bytes) => bytes.length + 1
  | .lit _ => 1
  | .nil => 1
  | .ptr d => uptoBulk d + 1
  | .slice elems spare => uptoBulkAll elems + uptoBulkAll spare + 1
  | .agg parts => uptoBulkAll parts + 1
  | .iface _ d => uptoBulk d + 1
  | .map entries => uptoBulkEntries entries + 1
  | .held _ => 1
def uptoBulkAll {H : Type} : List (DataW H) → Nat
  | [] => 0
  | d :: r => uptoBulk d + uptoBulkAll r
def uptoBulkEntries {H : Type} : List (Lit × DataW H) → Nat
  | [] => 0
  | x :: r => uptoBulkEntry x + uptoBulkEntries r
def uptoBulkEntry {H : Type} : Lit × DataW H → Nat
  | (.string bytes, d) => bytes.length + uptoBulk d + 1
  | (_, d) => uptoBulk d + 1
 end
def uptoSmall : (H : Type) → List (DataW H) → Bool := fun _ ds => decide (uptoBulkAll ds ≤ 1048576)
def OpenSpec.upto (s : _root_.Go.ChangeSpec) : _root_.Go.OpenSpec := { _root_.Go.OpenSpec.ofChange s with cond := some uptoSmall }

/-- 'nogginlaw19.MarkTells', WHERE WHAT IT READS IS OF BULK AT MOST 1048576: true; the input reads as it did. -/
def markTellsUptoRow : OpenClaim := { program := "ytjkaldnhfenbhaa", sum := "1d01be20b31e7612e910bde1ce47d741938679239dedd664221d7a0108df628f", func := "noggin/nogginlaw19.MarkTells", spec := "markTells", apart := false, narrowed := true }
def MarkTellsUptoSaid : Prop := markTellsUptoRow.holds Try.pinned (OpenSpec.upto markTellsSpec)

/-- 'nogginlaw19.MarkOn', WHERE WHAT IT READS IS OF BULK AT MOST 1048576: true; the input reads as it did. -/
def markOnUptoRow : OpenClaim := { program := "ytjkaldnhfenbhaa", sum := "1d01be20b31e7612e910bde1ce47d741938679239dedd664221d7a0108df628f", func := "noggin/nogginlaw19.MarkOn", spec := "markOn", apart := false, narrowed := true }
def MarkOnUptoSaid : Prop := markOnUptoRow.holds Try.pinned (OpenSpec.upto markOnSpec)

/-- 'nogginlaw10.RingPlays', WHERE WHAT IT READS IS OF BULK AT MOST 1048576: true; the input reads as it did. -/
def ringPlaysUptoRow : OpenClaim := { program := "ytjkaldnhfenbhaa", sum := "1d01be20b31e7612e910bde1ce47d741938679239dedd664221d7a0108df628f", func := "noggin/nogginlaw10.RingPlays", spec := "ringPlays", apart := false, narrowed := true }
def RingPlaysUptoSaid : Prop := ringPlaysUptoRow.holds Try.pinned (OpenSpec.upto ringPlaysSpec)

/-- 'nogginlaw10.RingOrder', WHERE WHAT IT READS IS OF BULK AT MOST 1048576: true; the input reads as it did. -/
def ringOrderUptoRow : OpenClaim := { program := "ytjkaldnhfenbhaa", sum := "1d01be20b31e7612e910bde1ce47d741938679239dedd664221d7a0108df628f", func := "noggin/nogginlaw10.RingOrder", spec := "ringOrder", apart := false, narrowed := true }
def RingOrderUptoSaid : Prop := ringOrderUptoRow.holds Try.pinned (OpenSpec.upto ringOrderSpec)

/-- 'nogginlaw23.FusePlays', WHERE WHAT IT READS IS OF BULK AT MOST 1048576: true; the input reads as it did. -/
def fusePlaysUptoRow : OpenClaim := { program := "ytjkaldnhfenbhaa", sum := "1d01be20b31e7612e910bde1ce47d741938679239dedd664221d7a0108df628f", func := "noggin/nogginlaw23.FusePlays", spec := "fusePlays", apart := false, narrowed := true }
def FusePlaysUptoSaid : Prop := fusePlaysUptoRow.holds Try.pinned (OpenSpec.upto fusePlaysSpec)

/-- 'nogginlaw23.FuseShuts', WHERE WHAT IT READS IS OF BULK AT MOST 1048576: true; the input reads as it did. -/
def fuseShutsUptoRow : OpenClaim := { program := "ytjkaldnhfenbhaa", sum := "1d01be20b31e7612e910bde1ce47d741938679239dedd664221d7a0108df628f", func := "noggin/nogginlaw23.FuseShuts", spec := "fuseShuts", apart := false, narrowed := true }
def FuseShutsUptoSaid : Prop := fuseShutsUptoRow.holds Try.pinned (OpenSpec.upto fuseShutsSpec)

/-- 'nogginlaw15.SampleMore', WHERE WHAT IT READS IS OF BULK AT MOST 1048576: true; the input reads as it did. -/
def sampleMoreUptoRow : OpenClaim := { program := "ytjkaldnhfenbhaa", sum := "1d01be20b31e7612e910bde1ce47d741938679239dedd664221d7a0108df628f", func := "noggin/nogginlaw15.SampleMore", spec := "sampleMore", apart := false, narrowed := true }
def SampleMoreUptoSaid : Prop := sampleMoreUptoRow.holds Try.pinned (OpenSpec.upto sampleMoreSpec)

/-- 'nogginlaw15.SampleKeeps', WHERE WHAT IT READS IS OF BULK AT MOST 1048576: true; the input reads as it did. -/
def sampleKeepsUptoRow : OpenClaim := { program := "ytjkaldnhfenbhaa", sum := "1d01be20b31e7612e910bde1ce47d741938679239dedd664221d7a0108df628f", func := "noggin/nogginlaw15.SampleKeeps", spec := "sampleKeeps", apart := false, narrowed := true }
def SampleKeepsUptoSaid : Prop := sampleKeepsUptoRow.holds Try.pinned (OpenSpec.upto sampleKeepsSpec)

/-- 'nogginlaw11.DelayLaw', WHERE WHAT IT READS IS OF BULK AT MOST 1048576: true; the input reads as it did. -/
def delayLawUptoRow : OpenClaim := { program := "ytjkaldnhfenbhaa", sum := "1d01be20b31e7612e910bde1ce47d741938679239dedd664221d7a0108df628f", func := "noggin/nogginlaw11.DelayLaw", spec := "delayLaw", apart := false, narrowed := true }
def DelayLawUptoSaid : Prop := delayLawUptoRow.holds Try.pinned (OpenSpec.upto delayLawSpec)

/-- 'nogginlaw17.LedgerPlays', WHERE WHAT IT READS IS OF BULK AT MOST 1048576: true; the input reads as it did. -/
def ledgerPlaysUptoRow : OpenClaim := { program := "ytjkaldnhfenbhaa", sum := "1d01be20b31e7612e910bde1ce47d741938679239dedd664221d7a0108df628f", func := "noggin/nogginlaw17.LedgerPlays", spec := "ledgerPlays", apart := false, narrowed := true }
def LedgerPlaysUptoSaid : Prop := ledgerPlaysUptoRow.holds Try.pinned (OpenSpec.upto ledgerPlaysSpec)

/-- 'nogginlaw17.LedgerWhole', WHERE WHAT IT READS IS OF BULK AT MOST 1048576: true; the input reads as it did. -/
def ledgerWholeUptoRow : OpenClaim := { program := "ytjkaldnhfenbhaa", sum := "1d01be20b31e7612e910bde1ce47d741938679239dedd664221d7a0108df628f", func := "noggin/nogginlaw17.LedgerWhole", spec := "ledgerWhole", apart := false, narrowed := true }
def LedgerWholeUptoSaid : Prop := ledgerWholeUptoRow.holds Try.pinned (OpenSpec.upto ledgerWholeSpec)

/-- 'nogginlaw12.DeficitPicks', WHERE WHAT IT READS IS OF BULK AT MOST 1048576: true; the input reads as it did. -/
def deficitPicksUptoRow : OpenClaim := { program := "ytjkaldnhfenbhaa", sum := "1d01be20b31e7612e910bde1ce47d741938679239dedd664221d7a0108df628f", func := "noggin/nogginlaw12.DeficitPicks", spec := "deficitPicks", unfollowed := true, recurses := true, apart := false, narrowed := true }
def DeficitPicksUptoSaid : Prop := deficitPicksUptoRow.holds Try.pinned (OpenSpec.upto deficitPicksSpec)

end Rows
end Go.Proofs.Ytjkaldnhfenbhaa
