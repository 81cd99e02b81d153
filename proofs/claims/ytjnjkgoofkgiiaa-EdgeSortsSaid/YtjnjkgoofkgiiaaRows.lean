/-
  No cell of these rows narrows 'for every input' (looked for: loops, veiled, ifaces, maps, wideKeys, modest, calm, conditions, laid).
  DERIVED. THE GIVEN ROWS OF THIS SEAT. 8 by the template 'for every input the law returns true; each argument reads behind the call as it read before'; 0 by the template 'total and deterministic' (their statements: YtjnjkgoofkgiiaaTotals.lean).
  GIVEN WITH THE SEED: the statements are not yours to turn. If you find one false, say at which input.
  Laid BY PROGRAM, IN A SANDBOX (cutbox-rows.mjs): the forced cells as the released guide's own fill.sh prints them over the translation b2e92d1474798ff5… (all of the seat's roots in one cut). By AI agents, Wed Nov 11 2026. No macro, syntax, notation, axiom, sorry.
-/
import Derived.Test.YtjnjkgoofkgiiaaChecked
import GoSem.Claim
import GoSem.ClaimJoined
import GoSem.ClaimMapViews
import Derived.JoinedTies
import Derived.KernelRfl
namespace Go.Proofs.Ytjnjkgoofkgiiaa
/- THE CELL 'sum', in the pinned program and in every row, IS THE sha256 OF THE DUMP (.gsa) THAT YtjnjkgoofkgiiaaProg.lean LOADS. Nothing in Lean hashes anything: it is a label: what it is worth is what the hold of that sum in a sandbox is worth. -/
noncomputable def Try.pinned : Pinned := { name := "ytjnjkgoofkgiiaa", sum := "b2e92d1474798ff56fa93632328514973d74dc7e36380e4e54c6b7dc295e67d5", checked := Try.checked }
namespace Rows
def none {H : Type} : Left H := { results := [], args := [] }

/-- 'nogginlaw13.TimerOnce': WHATEVER THE INPUT: true; the input reads as it did. -/
def timerOnceSpec : ChangeSpec := { name := "timerOnce", fn := fun _ => fun
  | [d1, d2] => { results := [.lit (.bool true)], args := [d1, d2] }
  | _ => none }
def timerOnceRow : OpenClaim := { program := "ytjnjkgoofkgiiaa", sum := "b2e92d1474798ff56fa93632328514973d74dc7e36380e4e54c6b7dc295e67d5", func := "noggin/nogginlaw13.TimerOnce", spec := "timerOnce", apart := false }
def TimerOnceSaid : Prop := timerOnceRow.holds Try.pinned (OpenSpec.ofChange timerOnceSpec)

/-- ITS FALSE NEIGHBOUR: 'it returns false'. Refute it at one input. -/
def timerOnceWrong : ChangeSpec := { name := "timerOnce", fn := fun _ => fun
  | [d1, d2] => { results := [.lit (.bool false)], args := [d1, d2] }
  | _ => none }
def TimerOnceWrongFalsely : Prop := timerOnceRow.holds Try.pinned (OpenSpec.ofChange timerOnceWrong)

/-- 'nogginlaw13.TimerPlays': WHATEVER THE INPUT: true; the input reads as it did. -/
def timerPlaysSpec : ChangeSpec := { name := "timerPlays", fn := fun _ => fun
  | [d] => { results := [.lit (.bool true)], args := [d] }
  | _ => none }
def timerPlaysRow : OpenClaim := { program := "ytjnjkgoofkgiiaa", sum := "b2e92d1474798ff56fa93632328514973d74dc7e36380e4e54c6b7dc295e67d5", func := "noggin/nogginlaw13.TimerPlays", spec := "timerPlays", apart := false }
def TimerPlaysSaid : Prop := timerPlaysRow.holds Try.pinned (OpenSpec.ofChange timerPlaysSpec)

/-- ITS FALSE NEIGHBOUR: 'it returns false'. Refute it at one input. -/
def timerPlaysWrong : ChangeSpec := { name := "timerPlays", fn := fun _ => fun
  | [d] => { results := [.lit (.bool false)], args := [d] }
  | _ => none }
def TimerPlaysWrongFalsely : Prop := timerPlaysRow.holds Try.pinned (OpenSpec.ofChange timerPlaysWrong)

/-- 'nogginlaw18.TallyFolds': WHATEVER THE INPUT: true; the input reads as it did. -/
def tallyFoldsSpec : ChangeSpec := { name := "tallyFolds", fn := fun _ => fun
  | [d1, d2, d3] => { results := [.lit (.bool true)], args := [d1, d2, d3] }
  | _ => none }
def tallyFoldsRow : OpenClaim := { program := "ytjnjkgoofkgiiaa", sum := "b2e92d1474798ff56fa93632328514973d74dc7e36380e4e54c6b7dc295e67d5", func := "noggin/nogginlaw18.TallyFolds", spec := "tallyFolds", apart := false }
def TallyFoldsSaid : Prop := tallyFoldsRow.holds Try.pinned (OpenSpec.ofChange tallyFoldsSpec)

/-- ITS FALSE NEIGHBOUR: 'it returns false'. Refute it at one input. -/
def tallyFoldsWrong : ChangeSpec := { name := "tallyFolds", fn := fun _ => fun
  | [d1, d2, d3] => { results := [.lit (.bool false)], args := [d1, d2, d3] }
  | _ => none }
def TallyFoldsWrongFalsely : Prop := tallyFoldsRow.holds Try.pinned (OpenSpec.ofChange tallyFoldsWrong)

/-- 'nogginlaw18.TallyWhole': WHATEVER THE INPUT: true; the input reads as it did. -/
def tallyWholeSpec : ChangeSpec := { name := "tallyWhole", fn := fun _ => fun
  | [d1, d2] => { results := [.lit (.bool true)], args := [d1, d2] }
  | _ => none }
def tallyWholeRow : OpenClaim := { program := "ytjnjkgoofkgiiaa", sum := "b2e92d1474798ff56fa93632328514973d74dc7e36380e4e54c6b7dc295e67d5", func := "noggin/nogginlaw18.TallyWhole", spec := "tallyWhole", apart := false }
def TallyWholeSaid : Prop := tallyWholeRow.holds Try.pinned (OpenSpec.ofChange tallyWholeSpec)

/-- ITS FALSE NEIGHBOUR: 'it returns false'. Refute it at one input. -/
def tallyWholeWrong : ChangeSpec := { name := "tallyWhole", fn := fun _ => fun
  | [d1, d2] => { results := [.lit (.bool false)], args := [d1, d2] }
  | _ => none }
def TallyWholeWrongFalsely : Prop := tallyWholeRow.holds Try.pinned (OpenSpec.ofChange tallyWholeWrong)

/-- 'nogginlaw02.EdgeOrders': WHATEVER THE INPUT: true; the input reads as it did. -/
def edgeOrdersSpec : ChangeSpec := { name := "edgeOrders", fn := fun _ => fun
  | [d1, d2] => { results := [.lit (.bool true)], args := [d1, d2] }
  | _ => none }
def edgeOrdersRow : OpenClaim := { program := "ytjnjkgoofkgiiaa", sum := "b2e92d1474798ff56fa93632328514973d74dc7e36380e4e54c6b7dc295e67d5", func := "noggin/nogginlaw02.EdgeOrders", spec := "edgeOrders", inPlace := ["math.Float64frombits", "math.Float64bits"], unfollowed := true, recurses := true, apart := false }
def EdgeOrdersSaid : Prop := edgeOrdersRow.holds Try.pinned (OpenSpec.ofChange edgeOrdersSpec)

/-- ITS FALSE NEIGHBOUR: 'it returns false'. Refute it at one input. -/
def edgeOrdersWrong : ChangeSpec := { name := "edgeOrders", fn := fun _ => fun
  | [d1, d2] => { results := [.lit (.bool false)], args := [d1, d2] }
  | _ => none }
def EdgeOrdersWrongFalsely : Prop := edgeOrdersRow.holds Try.pinned (OpenSpec.ofChange edgeOrdersWrong)

/-- 'nogginlaw02.EdgeSorts': WHATEVER THE INPUT: true; the input reads as it did. -/
def edgeSortsSpec : ChangeSpec := { name := "edgeSorts", fn := fun _ => fun
  | [d] => { results := [.lit (.bool true)], args := [d] }
  | _ => none }
def edgeSortsRow : OpenClaim := { program := "ytjnjkgoofkgiiaa", sum := "b2e92d1474798ff56fa93632328514973d74dc7e36380e4e54c6b7dc295e67d5", func := "noggin/nogginlaw02.EdgeSorts", spec := "edgeSorts", inPlace := ["math.Float64frombits", "math.Float64bits"], unfollowed := true, recurses := true, apart := false }
def EdgeSortsSaid : Prop := edgeSortsRow.holds Try.pinned (OpenSpec.ofChange edgeSortsSpec)

/-- ITS FALSE NEIGHBOUR: 'it returns false'. Refute it at one input. -/
def edgeSortsWrong : ChangeSpec := { name := "edgeSorts", fn := fun _ => fun
  | [d] => { results := [.lit (.bool false)], args := [d] }
  | _ => none }
def EdgeSortsWrongFalsely : Prop := edgeSortsRow.holds Try.pinned (OpenSpec.ofChange edgeSortsWrong)

/-- 'nogginlaw02.EdgeOrder': WHATEVER THE INPUT: true; the input reads as it did. -/
def edgeOrderSpec : ChangeSpec := { name := "edgeOrder", fn := fun _ => fun
  | [d1, d2, d3] => { results := [.lit (.bool true)], args := [d1, d2, d3] }
  | _ => none }
def edgeOrderRow : OpenClaim := { program := "ytjnjkgoofkgiiaa", sum := "b2e92d1474798ff56fa93632328514973d74dc7e36380e4e54c6b7dc295e67d5", func := "noggin/nogginlaw02.EdgeOrder", spec := "edgeOrder", inPlace := ["math.Float64frombits", "math.Float64bits"], unfollowed := true, recurses := true, apart := false }
def EdgeOrderSaid : Prop := edgeOrderRow.holds Try.pinned (OpenSpec.ofChange edgeOrderSpec)

/-- ITS FALSE NEIGHBOUR: 'it returns false'. Refute it at one input. -/
def edgeOrderWrong : ChangeSpec := { name := "edgeOrder", fn := fun _ => fun
  | [d1, d2, d3] => { results := [.lit (.bool false)], args := [d1, d2, d3] }
  | _ => none }
def EdgeOrderWrongFalsely : Prop := edgeOrderRow.holds Try.pinned (OpenSpec.ofChange edgeOrderWrong)

/-- 'nogginlaw02.EdgeBest': WHATEVER THE INPUT: true; the input reads as it did. -/
def edgeBestSpec : ChangeSpec := { name := "edgeBest", fn := fun _ => fun
  | [d] => { results := [.lit (.bool true)], args := [d] }
  | _ => none }
def edgeBestRow : OpenClaim := { program := "ytjnjkgoofkgiiaa", sum := "b2e92d1474798ff56fa93632328514973d74dc7e36380e4e54c6b7dc295e67d5", func := "noggin/nogginlaw02.EdgeBest", spec := "edgeBest", inPlace := ["math.Float64frombits", "math.Float64bits"], unfollowed := true, recurses := true, apart := false }
def EdgeBestSaid : Prop := edgeBestRow.holds Try.pinned (OpenSpec.ofChange edgeBestSpec)

/-- ITS FALSE NEIGHBOUR: 'it returns false'. Refute it at one input. -/
def edgeBestWrong : ChangeSpec := { name := "edgeBest", fn := fun _ => fun
  | [d] => { results := [.lit (.bool false)], args := [d] }
  | _ => none }
def EdgeBestWrongFalsely : Prop := edgeBestRow.holds Try.pinned (OpenSpec.ofChange edgeBestWrong)

/- THE SECOND FORM. 'bulk': how many values and letters a reading holds, each counted each time it is reached (what is shared counts as often as it is met; a slice's spare places count too). A statement '..UptoSaid' is the law's where the arguments, and the package variables that the reading takes, are together of bulk at most 1048576: NARROWER than '..Said'. Prove '..Said' where nothing that the law and all that it calls make is longer than what came in: it says more and counts as full. Else prove '..UptoSaid'. A law counts once. -/
mutual
def uptoBulk {H : Type} : DataW H → Nat
  | .lit (.string bytes) => bytes.length + 1
  | .lit _ => 1
  | .nil => 1
  | .ptr d => uptoBulk d + 1
  | .slice elems spare => uptoBulkAll elems + uptoBulkAll spare + 1
  | .agg parts => uptoBulkAll parts + 1
  | .iface _ d => uptoBulk d + 1
  | .map entries => uptoBulkEntries entries + 1
  | .held _ => 1
def uptoBulkAll {H : Type} : List (DataW H) → Nat
  | [] => 0
  | d :: r => uptoBulk d + uptoBulkAll r
def uptoBulkEntries {H : Type} : List (Lit × DataW H) → Nat
  | [] => 0
  | x :: r => uptoBulkEntry x + uptoBulkEntries r
def uptoBulkEntry {H : Type} : Lit × DataW H → Nat
  | (.string bytes, d) => bytes.length + uptoBulk d + 1
  | (_, d) => uptoBulk d + 1
 end
def uptoSmall : (H : Type) → List (DataW H) → Bool := fun _ ds => decide (uptoBulkAll ds ≤ 1048576)
def OpenSpec.upto (s : _root_.Go.ChangeSpec) : _root_.Go.OpenSpec := { _root_.Go.OpenSpec.ofChange s with cond := some uptoSmall }

/-- 'nogginlaw13.TimerOnce', WHERE WHAT IT READS IS OF BULK AT MOST 1048576: true; the input reads as it did. -/
def timerOnceUptoRow : OpenClaim := { program := "ytjnjkgoofkgiiaa", sum := "b2e92d1474798ff56fa93632328514973d74dc7e36380e4e54c6b7dc295e67d5", func := "noggin/nogginlaw13.TimerOnce", spec := "timerOnce", apart := false, narrowed := true }
def TimerOnceUptoSaid : Prop := timerOnceUptoRow.holds Try.pinned (OpenSpec.upto timerOnceSpec)

/-- 'nogginlaw13.TimerPlays', WHERE WHAT IT READS IS OF BULK AT MOST 1048576: true; the input reads as it did. -/
def timerPlaysUptoRow : OpenClaim := { program := "ytjnjkgoofkgiiaa", sum := "b2e92d1474798ff56fa93632328514973d74dc7e36380e4e54c6b7dc295e67d5", func := "noggin/nogginlaw13.TimerPlays", spec := "timerPlays", apart := false, narrowed := true }
def TimerPlaysUptoSaid : Prop := timerPlaysUptoRow.holds Try.pinned (OpenSpec.upto timerPlaysSpec)

/-- 'nogginlaw18.TallyFolds', WHERE WHAT IT READS IS OF BULK AT MOST 1048576: true; the input reads as it did. -/
def tallyFoldsUptoRow : OpenClaim := { program := "ytjnjkgoofkgiiaa", sum := "b2e92d1474798ff56fa93632328514973d74dc7e36380e4e54c6b7dc295e67d5", func := "noggin/nogginlaw18.TallyFolds", spec := "tallyFolds", apart := false, narrowed := true }
def TallyFoldsUptoSaid : Prop := tallyFoldsUptoRow.holds Try.pinned (OpenSpec.upto tallyFoldsSpec)

/-- 'nogginlaw18.TallyWhole', WHERE WHAT IT READS IS OF BULK AT MOST 1048576: true; the input reads as it did. -/
def tallyWholeUptoRow : OpenClaim := { program := "ytjnjkgoofkgiiaa", sum := "b2e92d1474798ff56fa93632328514973d74dc7e36380e4e54c6b7dc295e67d5", func := "noggin/nogginlaw18.TallyWhole", spec := "tallyWhole", apart := false, narrowed := true }
def TallyWholeUptoSaid : Prop := tallyWholeUptoRow.holds Try.pinned (OpenSpec.upto tallyWholeSpec)

/-- 'nogginlaw02.EdgeOrders', WHERE WHAT IT READS IS OF BULK AT MOST 1048576: true; the input reads as it did. -/
def edgeOrdersUptoRow : OpenClaim := { program := "ytjnjkgoofkgiiaa", sum := "b2e92d1474798ff56fa93632328514973d74dc7e36380e4e54c6b7dc295e67d5", func := "noggin/nogginlaw02.EdgeOrders", spec := "edgeOrders", inPlace := ["math.Float64frombits", "math.Float64bits"], unfollowed := true, recurses := true, apart := false, narrowed := true }
def EdgeOrdersUptoSaid : Prop := edgeOrdersUptoRow.holds Try.pinned (OpenSpec.upto edgeOrdersSpec)

/-- 'nogginlaw02.EdgeSorts', WHERE WHAT IT READS IS OF BULK AT MOST 1048576: true; the input reads as it did. -/
def edgeSortsUptoRow : OpenClaim := { program := "ytjnjkgoofkgiiaa", sum := "b2e92d1474798ff56fa93632328514973d74dc7e36380e4e54c6b7dc295e67d5", func := "noggin/nogginlaw02.EdgeSorts", spec := "edgeSorts", inPlace := ["math.Float64frombits", "math.Float64bits"], unfollowed := true, recurses := true, apart := false, narrowed := true }
def EdgeSortsUptoSaid : Prop := edgeSortsUptoRow.holds Try.pinned (OpenSpec.upto edgeSortsSpec)

/-- 'nogginlaw02.EdgeOrder', WHERE WHAT IT READS IS OF BULK AT MOST 1048576: true; the input reads as it did. -/
def edgeOrderUptoRow : OpenClaim := { program := "ytjnjkgoofkgiiaa", sum := "b2e92d1474798ff56fa93632328514973d74dc7e36380e4e54c6b7dc295e67d5", func := "noggin/nogginlaw02.EdgeOrder", spec := "edgeOrder", inPlace := ["math.Float64frombits", "math.Float64bits"], unfollowed := true, recurses := true, apart := false, narrowed := true }
def EdgeOrderUptoSaid : Prop := edgeOrderUptoRow.holds Try.pinned (OpenSpec.upto edgeOrderSpec)

/-- 'nogginlaw02.EdgeBest', WHERE WHAT IT READS IS OF BULK AT MOST 1048576: true; the input reads as it did. -/
def edgeBestUptoRow : OpenClaim := { program := "ytjnjkgoofkgiiaa", sum := "b2e92d1474798ff56fa93632328514973d74dc7e36380e4e54c6b7dc295e67d5", func := "noggin/nogginlaw02.EdgeBest", spec := "edgeBest", inPlace := ["math.Float64frombits", "math.Float64bits"], unfollowed := true, recurses := true, apart := false, narrowed := true }
def EdgeBestUptoSaid : Prop := edgeBestUptoRow.holds Try.pinned (OpenSpec.upto edgeBestSpec)

end Rows
end Go.Proofs.Ytjnjkgoofkgiiaa
