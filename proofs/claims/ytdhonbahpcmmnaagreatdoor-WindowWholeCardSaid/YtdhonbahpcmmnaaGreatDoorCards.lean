/-
  DERIVED. GIVEN WITH THE SEED: THE CARDS: each row of YtdhonbahpcmmnaaGreatDoorRows.lean that lists a variable, with what it lists TIED to the program's text (the seventh form; the later family's looks); each row that meets fmt, with fmt's text TOLD by the authors' own Lean function (tested against real Go, not proved from fmt's source: count such statements apart). THE CARD IS WHAT COUNTS. Prove the row's statement (the work); the ties are given (YtdhonbahpcmmnaaGreatDoorTie.lean); close each card by the builder's one call (the guide's Derived/Test/ToyasCard.lean, 'card_holds'). Laid BY PROGRAM, IN A SANDBOX (cutbox-door.mjs). By AI agents, Wed Nov 11 2026. No macro, syntax, notation, axiom, sorry.
-/
import Derived.Test.YtdhonbahpcmmnaaGreatDoorRows
import GoSem.ClaimSeven
namespace Go.Proofs.YtdhonbahpcmmnaaGreatDoor
namespace Rows

/-- THE TIED CARD OF 'nogginlaw07.BatchPuts'. -/
def batchPutsCard : Claim7 := { stood := { row := batchPutsRow, standIns := [], harness := (true, "c23d604d4c8308d4597fe18d3cbcca4ee268eb9374cb45f999ac72ff399a1241"), looks := true }, kinds := [], alts := [], laidByText := true, laidKinds := [.data, .data, .data, .sentinel, .sentinel], laidTests := true, laidLooks := .later }
def BatchPutsCardSaid : Prop := Claim7.holds Tryz.pinned (.plain (OpenSpec.ofChange batchPutsSpec)) batchPutsCard

/-- THE TIED CARD OF 'nogginlaw07.BatchGets'. -/
def batchGetsCard : Claim7 := { stood := { row := batchGetsRow, standIns := [], harness := (true, "c23d604d4c8308d4597fe18d3cbcca4ee268eb9374cb45f999ac72ff399a1241"), looks := true }, kinds := [], alts := [], laidByText := true, laidKinds := [.data, .data, .data, .sentinel, .sentinel], laidTests := true, laidLooks := .later }
def BatchGetsCardSaid : Prop := Claim7.holds Tryz.pinned (.plain (OpenSpec.ofChange batchGetsSpec)) batchGetsCard

/-- THE TIED CARD OF 'nogginlaw07.BatchBack'. -/
def batchBackCard : Claim7 := { stood := { row := batchBackRow, standIns := [], harness := (true, "c23d604d4c8308d4597fe18d3cbcca4ee268eb9374cb45f999ac72ff399a1241"), looks := true }, kinds := [], alts := [], laidByText := true, laidKinds := [.data, .data, .data, .sentinel, .sentinel], laidTests := true, laidLooks := .later }
def BatchBackCardSaid : Prop := Claim7.holds Tryz.pinned (.plain (OpenSpec.ofChange batchBackSpec)) batchBackCard

/-- THE TIED CARD OF 'nogginlaw20.WindowWhole'. -/
def windowWholeCard : Claim7 := { stood := { row := windowWholeRow, standIns := [], harness := (true, "c23d604d4c8308d4597fe18d3cbcca4ee268eb9374cb45f999ac72ff399a1241"), looks := true }, kinds := [], alts := [], laidByText := true, laidKinds := [.data, .data, .data, .sentinel, .sentinel], laidTests := true, laidLooks := .later }
def WindowWholeCardSaid : Prop := Claim7.holds Tryz.pinned (.plain (OpenSpec.ofChange windowWholeSpec)) windowWholeCard

/-- THE TIED CARD OF 'nogginlaw20.WindowPlays'. -/
def windowPlaysCard : Claim7 := { stood := { row := windowPlaysRow, standIns := [], harness := (true, "c23d604d4c8308d4597fe18d3cbcca4ee268eb9374cb45f999ac72ff399a1241"), looks := true }, kinds := [], alts := [], laidByText := true, laidKinds := [.data, .data, .data, .sentinel, .sentinel], laidTests := true, laidLooks := .later }
def WindowPlaysCardSaid : Prop := Claim7.holds Tryz.pinned (.plain (OpenSpec.ofChange windowPlaysSpec)) windowPlaysCard

/-- THE SECOND FORM's CARD OF 'nogginlaw07.BatchPuts'. -/
def batchPutsUptoCard : Claim7 := { stood := { row := batchPutsUptoRow, standIns := [], harness := (true, "c23d604d4c8308d4597fe18d3cbcca4ee268eb9374cb45f999ac72ff399a1241"), looks := true }, kinds := [], alts := [], laidByText := true, laidKinds := [.data, .data, .data, .sentinel, .sentinel], laidTests := true, laidLooks := .later }
def BatchPutsUptoCardSaid : Prop := Claim7.holds Tryz.pinned (.plain (OpenSpec.upto batchPutsSpec)) batchPutsUptoCard

/-- THE SECOND FORM's CARD OF 'nogginlaw07.BatchGets'. -/
def batchGetsUptoCard : Claim7 := { stood := { row := batchGetsUptoRow, standIns := [], harness := (true, "c23d604d4c8308d4597fe18d3cbcca4ee268eb9374cb45f999ac72ff399a1241"), looks := true }, kinds := [], alts := [], laidByText := true, laidKinds := [.data, .data, .data, .sentinel, .sentinel], laidTests := true, laidLooks := .later }
def BatchGetsUptoCardSaid : Prop := Claim7.holds Tryz.pinned (.plain (OpenSpec.upto batchGetsSpec)) batchGetsUptoCard

/-- THE SECOND FORM's CARD OF 'nogginlaw07.BatchBack'. -/
def batchBackUptoCard : Claim7 := { stood := { row := batchBackUptoRow, standIns := [], harness := (true, "c23d604d4c8308d4597fe18d3cbcca4ee268eb9374cb45f999ac72ff399a1241"), looks := true }, kinds := [], alts := [], laidByText := true, laidKinds := [.data, .data, .data, .sentinel, .sentinel], laidTests := true, laidLooks := .later }
def BatchBackUptoCardSaid : Prop := Claim7.holds Tryz.pinned (.plain (OpenSpec.upto batchBackSpec)) batchBackUptoCard

/-- THE SECOND FORM's CARD OF 'nogginlaw20.WindowWhole'. -/
def windowWholeUptoCard : Claim7 := { stood := { row := windowWholeUptoRow, standIns := [], harness := (true, "c23d604d4c8308d4597fe18d3cbcca4ee268eb9374cb45f999ac72ff399a1241"), looks := true }, kinds := [], alts := [], laidByText := true, laidKinds := [.data, .data, .data, .sentinel, .sentinel], laidTests := true, laidLooks := .later }
def WindowWholeUptoCardSaid : Prop := Claim7.holds Tryz.pinned (.plain (OpenSpec.upto windowWholeSpec)) windowWholeUptoCard

/-- THE SECOND FORM's CARD OF 'nogginlaw20.WindowPlays'. -/
def windowPlaysUptoCard : Claim7 := { stood := { row := windowPlaysUptoRow, standIns := [], harness := (true, "c23d604d4c8308d4597fe18d3cbcca4ee268eb9374cb45f999ac72ff399a1241"), looks := true }, kinds := [], alts := [], laidByText := true, laidKinds := [.data, .data, .data, .sentinel, .sentinel], laidTests := true, laidLooks := .later }
def WindowPlaysUptoCardSaid : Prop := Claim7.holds Tryz.pinned (.plain (OpenSpec.upto windowPlaysSpec)) windowPlaysUptoCard
end Rows
end Go.Proofs.YtdhonbahpcmmnaaGreatDoor
