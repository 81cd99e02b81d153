/-
  DERIVED. GIVEN WITH THE SEED: THE CARDS: each row of YtjfgmdkdcnfdoaaGreatDoorRows.lean that lists a variable, with what it lists TIED to the program's text (the seventh form; the later family's looks); each row that meets fmt, with fmt's text TOLD by the authors' own Lean function (tested against real Go, not proved from fmt's source: count such statements apart). THE CARD IS WHAT COUNTS. Prove the row's statement (the work); the ties are given (YtjfgmdkdcnfdoaaGreatDoorTie.lean); close each card by the builder's one call (the guide's Derived/Test/ToyasCard.lean, 'card_holds'). Laid BY PROGRAM, IN A SANDBOX (cutbox-door.mjs). By AI agents, Wed Nov 11 2026. No macro, syntax, notation, axiom, sorry.
-/
import Derived.Test.YtjfgmdkdcnfdoaaGreatDoorRows
import GoSem.ClaimSeven
namespace Go.Proofs.YtjfgmdkdcnfdoaaGreatDoor
namespace Rows

/-- THE TIED CARD OF 'noggintop.TopOnce'. -/
def topOnceCard : Claim7 := { stood := { row := topOnceRow, standIns := [], harness := (true, "0012419a95d06c1b927640efc5f6e922a4614214827348e8c73b0a475880f2fe"), looks := true }, kinds := [], alts := [], laidByText := true, laidKinds := [.data, .data, .data, .handle, .sentinel, .sentinel], laidTests := true, laidLooks := .later }
def TopOnceCardSaid : Prop := Claim7.holds Tryz.pinned (.plain (OpenSpec.ofChange topOnceSpec)) topOnceCard

/-- THE TIED CARD OF 'noggintop.TopSheds'. -/
def topShedsCard : Claim7 := { stood := { row := topShedsRow, standIns := [], harness := (true, "0012419a95d06c1b927640efc5f6e922a4614214827348e8c73b0a475880f2fe"), looks := true }, kinds := [], alts := [], laidByText := true, laidKinds := [.data, .data, .data, .handle, .sentinel, .sentinel], laidTests := true, laidLooks := .later }
def TopShedsCardSaid : Prop := Claim7.holds Tryz.pinned (.plain (OpenSpec.ofChange topShedsSpec)) topShedsCard

/-- THE TIED CARD OF 'nogginlaw21.SpillPlays'. -/
def spillPlaysCard : Claim7 := { stood := { row := spillPlaysRow, standIns := [], harness := (true, "0012419a95d06c1b927640efc5f6e922a4614214827348e8c73b0a475880f2fe"), looks := true }, kinds := [], alts := [], laidByText := true, laidKinds := [.data, .data, .data, .sentinel, .sentinel], laidTests := true, laidLooks := .later }
def SpillPlaysCardSaid : Prop := Claim7.holds Tryz.pinned (.plain (OpenSpec.ofChange spillPlaysSpec)) spillPlaysCard

/-- THE TIED CARD OF 'nogginlaw21.SpillLasts'. -/
def spillLastsCard : Claim7 := { stood := { row := spillLastsRow, standIns := [], harness := (true, "0012419a95d06c1b927640efc5f6e922a4614214827348e8c73b0a475880f2fe"), looks := true }, kinds := [], alts := [], laidByText := true, laidKinds := [.data, .data, .data, .sentinel, .sentinel], laidTests := true, laidLooks := .later }
def SpillLastsCardSaid : Prop := Claim7.holds Tryz.pinned (.plain (OpenSpec.ofChange spillLastsSpec)) spillLastsCard

/-- THE TIED CARD OF 'nogginlaw24.SenderTries'. -/
def senderTriesCard : Claim7 := { stood := { row := senderTriesRow, standIns := [], harness := (true, "0012419a95d06c1b927640efc5f6e922a4614214827348e8c73b0a475880f2fe"), looks := true }, kinds := [], alts := [], laidByText := true, laidKinds := [.data, .data, .data, .sentinel, .sentinel], laidTests := true, laidLooks := .later }
def SenderTriesCardSaid : Prop := Claim7.holds Tryz.pinned (.plain (OpenSpec.ofChange senderTriesSpec)) senderTriesCard

/-- THE TIED CARD OF 'nogginlaw24.SenderOrders'. -/
def senderOrdersCard : Claim7 := { stood := { row := senderOrdersRow, standIns := [], harness := (true, "0012419a95d06c1b927640efc5f6e922a4614214827348e8c73b0a475880f2fe"), looks := true }, kinds := [], alts := [], laidByText := true, laidKinds := [.data, .data, .data, .sentinel, .sentinel], laidTests := true, laidLooks := .later }
def SenderOrdersCardSaid : Prop := Claim7.holds Tryz.pinned (.plain (OpenSpec.ofChange senderOrdersSpec)) senderOrdersCard

/-- THE TIED CARD OF 'nogginlaw25.PipeConserves'. -/
def pipeConservesCard : Claim7 := { stood := { row := pipeConservesRow, standIns := [], harness := (true, "0012419a95d06c1b927640efc5f6e922a4614214827348e8c73b0a475880f2fe"), looks := true }, kinds := [], alts := [], laidByText := true, laidKinds := [.data, .data, .data, .sentinel, .sentinel], laidTests := true, laidLooks := .later }
def PipeConservesCardSaid : Prop := Claim7.holds Tryz.pinned (.plain (OpenSpec.ofChange pipeConservesSpec)) pipeConservesCard

/-- THE TIED CARD OF 'nogginlaw26.ScriptLong'. -/
def scriptLongCard : Claim7 := { stood := { row := scriptLongRow, standIns := [], harness := (true, "0012419a95d06c1b927640efc5f6e922a4614214827348e8c73b0a475880f2fe"), looks := true }, kinds := [], alts := [], laidByText := true, laidKinds := [.data, .data, .data, .handle, .sentinel, .sentinel], laidTests := true, laidLooks := .later }
def ScriptLongCardSaid : Prop := Claim7.holds Tryz.pinned (.plain (OpenSpec.ofChange scriptLongSpec)) scriptLongCard

/-- THE TIED CARD OF 'nogginlaw26.ScriptOnce'. -/
def scriptOnceCard : Claim7 := { stood := { row := scriptOnceRow, standIns := [], harness := (true, "0012419a95d06c1b927640efc5f6e922a4614214827348e8c73b0a475880f2fe"), looks := true }, kinds := [], alts := [], laidByText := true, laidKinds := [.data, .data, .data, .handle, .sentinel, .sentinel], laidTests := true, laidLooks := .later }
def ScriptOnceCardSaid : Prop := Claim7.holds Tryz.pinned (.plain (OpenSpec.ofChange scriptOnceSpec)) scriptOnceCard

/-- THE TIED CARD OF 'nogginlaw26.ScriptEnds'. -/
def scriptEndsCard : Claim7 := { stood := { row := scriptEndsRow, standIns := [], harness := (true, "0012419a95d06c1b927640efc5f6e922a4614214827348e8c73b0a475880f2fe"), looks := true }, kinds := [], alts := [], laidByText := true, laidKinds := [.data, .data, .data, .handle, .sentinel, .sentinel], laidTests := true, laidLooks := .later }
def ScriptEndsCardSaid : Prop := Claim7.holds Tryz.pinned (.plain (OpenSpec.ofChange scriptEndsSpec)) scriptEndsCard

/-- THE TIED CARD OF 'noggintop.TopConserves'. -/
def topConservesCard : Claim7 := { stood := { row := topConservesRow, standIns := [], harness := (true, "0012419a95d06c1b927640efc5f6e922a4614214827348e8c73b0a475880f2fe"), looks := true }, kinds := [], alts := [], laidByText := true, laidKinds := [.data, .data, .data, .handle, .sentinel, .sentinel], laidTests := true, laidLooks := .later }
def TopConservesCardSaid : Prop := Claim7.holds Tryz.pinned (.plain (OpenSpec.ofChange topConservesSpec)) topConservesCard

/-- THE SECOND FORM's CARD OF 'noggintop.TopOnce'. -/
def topOnceUptoCard : Claim7 := { stood := { row := topOnceUptoRow, standIns := [], harness := (true, "0012419a95d06c1b927640efc5f6e922a4614214827348e8c73b0a475880f2fe"), looks := true }, kinds := [], alts := [], laidByText := true, laidKinds := [.data, .data, .data, .handle, .sentinel, .sentinel], laidTests := true, laidLooks := .later }
def TopOnceUptoCardSaid : Prop := Claim7.holds Tryz.pinned (.plain (OpenSpec.upto topOnceSpec)) topOnceUptoCard

/-- THE SECOND FORM's CARD OF 'noggintop.TopSheds'. -/
def topShedsUptoCard : Claim7 := { stood := { row := topShedsUptoRow, standIns := [], harness := (true, "0012419a95d06c1b927640efc5f6e922a4614214827348e8c73b0a475880f2fe"), looks := true }, kinds := [], alts := [], laidByText := true, laidKinds := [.data, .data, .data, .handle, .sentinel, .sentinel], laidTests := true, laidLooks := .later }
def TopShedsUptoCardSaid : Prop := Claim7.holds Tryz.pinned (.plain (OpenSpec.upto topShedsSpec)) topShedsUptoCard

/-- THE SECOND FORM's CARD OF 'nogginlaw21.SpillPlays'. -/
def spillPlaysUptoCard : Claim7 := { stood := { row := spillPlaysUptoRow, standIns := [], harness := (true, "0012419a95d06c1b927640efc5f6e922a4614214827348e8c73b0a475880f2fe"), looks := true }, kinds := [], alts := [], laidByText := true, laidKinds := [.data, .data, .data, .sentinel, .sentinel], laidTests := true, laidLooks := .later }
def SpillPlaysUptoCardSaid : Prop := Claim7.holds Tryz.pinned (.plain (OpenSpec.upto spillPlaysSpec)) spillPlaysUptoCard

/-- THE SECOND FORM's CARD OF 'nogginlaw21.SpillLasts'. -/
def spillLastsUptoCard : Claim7 := { stood := { row := spillLastsUptoRow, standIns := [], harness := (true, "0012419a95d06c1b927640efc5f6e922a4614214827348e8c73b0a475880f2fe"), looks := true }, kinds := [], alts := [], laidByText := true, laidKinds := [.data, .data, .data, .sentinel, .sentinel], laidTests := true, laidLooks := .later }
def SpillLastsUptoCardSaid : Prop := Claim7.holds Tryz.pinned (.plain (OpenSpec.upto spillLastsSpec)) spillLastsUptoCard

/-- THE SECOND FORM's CARD OF 'nogginlaw24.SenderTries'. -/
def senderTriesUptoCard : Claim7 := { stood := { row := senderTriesUptoRow, standIns := [], harness := (true, "0012419a95d06c1b927640efc5f6e922a4614214827348e8c73b0a475880f2fe"), looks := true }, kinds := [], alts := [], laidByText := true, laidKinds := [.data, .data, .data, .sentinel, .sentinel], laidTests := true, laidLooks := .later }
def SenderTriesUptoCardSaid : Prop := Claim7.holds Tryz.pinned (.plain (OpenSpec.upto senderTriesSpec)) senderTriesUptoCard

/-- THE SECOND FORM's CARD OF 'nogginlaw24.SenderOrders'. -/
def senderOrdersUptoCard : Claim7 := { stood := { row := senderOrdersUptoRow, standIns := [], harness := (true, "0012419a95d06c1b927640efc5f6e922a4614214827348e8c73b0a475880f2fe"), looks := true }, kinds := [], alts := [], laidByText := true, laidKinds := [.data, .data, .data, .sentinel, .sentinel], laidTests := true, laidLooks := .later }
def SenderOrdersUptoCardSaid : Prop := Claim7.holds Tryz.pinned (.plain (OpenSpec.upto senderOrdersSpec)) senderOrdersUptoCard

/-- THE SECOND FORM's CARD OF 'nogginlaw25.PipeConserves'. -/
def pipeConservesUptoCard : Claim7 := { stood := { row := pipeConservesUptoRow, standIns := [], harness := (true, "0012419a95d06c1b927640efc5f6e922a4614214827348e8c73b0a475880f2fe"), looks := true }, kinds := [], alts := [], laidByText := true, laidKinds := [.data, .data, .data, .sentinel, .sentinel], laidTests := true, laidLooks := .later }
def PipeConservesUptoCardSaid : Prop := Claim7.holds Tryz.pinned (.plain (OpenSpec.upto pipeConservesSpec)) pipeConservesUptoCard

/-- THE SECOND FORM's CARD OF 'nogginlaw26.ScriptLong'. -/
def scriptLongUptoCard : Claim7 := { stood := { row := scriptLongUptoRow, standIns := [], harness := (true, "0012419a95d06c1b927640efc5f6e922a4614214827348e8c73b0a475880f2fe"), looks := true }, kinds := [], alts := [], laidByText := true, laidKinds := [.data, .data, .data, .handle, .sentinel, .sentinel], laidTests := true, laidLooks := .later }
def ScriptLongUptoCardSaid : Prop := Claim7.holds Tryz.pinned (.plain (OpenSpec.upto scriptLongSpec)) scriptLongUptoCard

/-- THE SECOND FORM's CARD OF 'nogginlaw26.ScriptOnce'. -/
def scriptOnceUptoCard : Claim7 := { stood := { row := scriptOnceUptoRow, standIns := [], harness := (true, "0012419a95d06c1b927640efc5f6e922a4614214827348e8c73b0a475880f2fe"), looks := true }, kinds := [], alts := [], laidByText := true, laidKinds := [.data, .data, .data, .handle, .sentinel, .sentinel], laidTests := true, laidLooks := .later }
def ScriptOnceUptoCardSaid : Prop := Claim7.holds Tryz.pinned (.plain (OpenSpec.upto scriptOnceSpec)) scriptOnceUptoCard

/-- THE SECOND FORM's CARD OF 'nogginlaw26.ScriptEnds'. -/
def scriptEndsUptoCard : Claim7 := { stood := { row := scriptEndsUptoRow, standIns := [], harness := (true, "0012419a95d06c1b927640efc5f6e922a4614214827348e8c73b0a475880f2fe"), looks := true }, kinds := [], alts := [], laidByText := true, laidKinds := [.data, .data, .data, .handle, .sentinel, .sentinel], laidTests := true, laidLooks := .later }
def ScriptEndsUptoCardSaid : Prop := Claim7.holds Tryz.pinned (.plain (OpenSpec.upto scriptEndsSpec)) scriptEndsUptoCard

/-- THE SECOND FORM's CARD OF 'noggintop.TopConserves'. -/
def topConservesUptoCard : Claim7 := { stood := { row := topConservesUptoRow, standIns := [], harness := (true, "0012419a95d06c1b927640efc5f6e922a4614214827348e8c73b0a475880f2fe"), looks := true }, kinds := [], alts := [], laidByText := true, laidKinds := [.data, .data, .data, .handle, .sentinel, .sentinel], laidTests := true, laidLooks := .later }
def TopConservesUptoCardSaid : Prop := Claim7.holds Tryz.pinned (.plain (OpenSpec.upto topConservesSpec)) topConservesUptoCard
end Rows
end Go.Proofs.YtjfgmdkdcnfdoaaGreatDoor
