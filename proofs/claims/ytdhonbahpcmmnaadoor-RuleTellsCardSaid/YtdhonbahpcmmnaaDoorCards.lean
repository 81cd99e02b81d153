/-
  DERIVED. GIVEN WITH THE SEED: THE CARDS: each row of YtdhonbahpcmmnaaDoorRows.lean that lists a variable, with what it lists TIED to the program's text (the seventh form; the later family's looks); each row that meets fmt, with fmt's text TOLD by the authors' own Lean function (tested against real Go, not proved from fmt's source: count such statements apart). THE CARD IS WHAT COUNTS. Prove the row's statement (the work); the ties are given (YtdhonbahpcmmnaaDoorTie.lean); close each card by the builder's one call (the guide's Derived/Test/ToyasCard.lean, 'card_holds'). Laid BY PROGRAM, IN A SANDBOX (cutbox-door.mjs). By AI agents, Wed Nov 11 2026. No macro, syntax, notation, axiom, sorry.
-/
import Derived.Test.YtdhonbahpcmmnaaDoorRows
import GoSem.ClaimSeven
namespace Go.Proofs.YtdhonbahpcmmnaaDoor
namespace Rows

/-- THE TIED CARD OF 'nogginlaw14.RuleTells'. -/
def ruleTellsCard : Claim7 := { stood := { row := ruleTellsRow, standIns := [], harness := (true, "f91313a3443ae298024d7091f936a2606a41d7ae05a82be1cd05bc20bb06cc87"), looks := true }, kinds := [], alts := [], laidByText := true, laidKinds := [.data, .data, .data], laidTests := true, laidLooks := .later }
def RuleTellsCardSaid : Prop := Claim7.holds Tryd.pinned (.plain (OpenSpec.ofChange ruleTellsSpec)) ruleTellsCard

/-- THE TIED CARD OF 'nogginlaw04.LineParses'. -/
def lineParsesCard : Claim7 := { stood := { row := lineParsesRow, standIns := [], harness := (true, "f91313a3443ae298024d7091f936a2606a41d7ae05a82be1cd05bc20bb06cc87"), looks := true }, kinds := [], alts := [], laidByText := true, laidKinds := [.data, .data, .data, .handle, .sentinel, .sentinel], laidTests := true, laidLooks := .later }
def LineParsesCardSaid : Prop := Claim7.holds Tryd.pinned (.plain (OpenSpec.ofChange lineParsesSpec)) lineParsesCard

/-- THE TIED CARD OF 'nogginlaw04.LinePrints'. -/
def linePrintsCard : Claim7 := { stood := { row := linePrintsRow, standIns := [], harness := (true, "f91313a3443ae298024d7091f936a2606a41d7ae05a82be1cd05bc20bb06cc87"), looks := true }, kinds := [], alts := [], laidByText := true, laidKinds := [.data, .data, .data, .handle, .sentinel, .sentinel], laidTests := true, laidLooks := .later }
def LinePrintsCardSaid : Prop := Claim7.holds Tryd.pinned (.plain (OpenSpec.ofChange linePrintsSpec)) linePrintsCard

/-- THE TIED CARD OF 'nogginlaw04.LineBack'. -/
def lineBackCard : Claim7 := { stood := { row := lineBackRow, standIns := [], harness := (true, "f91313a3443ae298024d7091f936a2606a41d7ae05a82be1cd05bc20bb06cc87"), looks := true }, kinds := [], alts := [], laidByText := true, laidKinds := [.data, .data, .data, .handle, .sentinel, .sentinel], laidTests := true, laidLooks := .later }
def LineBackCardSaid : Prop := Claim7.holds Tryd.pinned (.plain (OpenSpec.ofChange lineBackSpec)) lineBackCard

/-- THE TIED CARD OF 'nogginlaw05.SeriesAny'. -/
def seriesAnyCard : Claim7 := { stood := { row := seriesAnyRow, standIns := [], harness := (true, "f91313a3443ae298024d7091f936a2606a41d7ae05a82be1cd05bc20bb06cc87"), looks := true }, kinds := [], alts := [], laidByText := true, laidKinds := [.data, .data, .data, .sentinel, .sentinel], laidTests := true, laidLooks := .later }
def SeriesAnyCardSaid : Prop := Claim7.holds Tryd.pinned (.plain (OpenSpec.ofChange seriesAnySpec)) seriesAnyCard

/-- THE SECOND FORM's CARD OF 'nogginlaw14.RuleTells'. -/
def ruleTellsUptoCard : Claim7 := { stood := { row := ruleTellsUptoRow, standIns := [], harness := (true, "f91313a3443ae298024d7091f936a2606a41d7ae05a82be1cd05bc20bb06cc87"), looks := true }, kinds := [], alts := [], laidByText := true, laidKinds := [.data, .data, .data], laidTests := true, laidLooks := .later }
def RuleTellsUptoCardSaid : Prop := Claim7.holds Tryd.pinned (.plain (OpenSpec.upto ruleTellsSpec)) ruleTellsUptoCard

/-- THE SECOND FORM's CARD OF 'nogginlaw04.LineParses'. -/
def lineParsesUptoCard : Claim7 := { stood := { row := lineParsesUptoRow, standIns := [], harness := (true, "f91313a3443ae298024d7091f936a2606a41d7ae05a82be1cd05bc20bb06cc87"), looks := true }, kinds := [], alts := [], laidByText := true, laidKinds := [.data, .data, .data, .handle, .sentinel, .sentinel], laidTests := true, laidLooks := .later }
def LineParsesUptoCardSaid : Prop := Claim7.holds Tryd.pinned (.plain (OpenSpec.upto lineParsesSpec)) lineParsesUptoCard

/-- THE SECOND FORM's CARD OF 'nogginlaw04.LinePrints'. -/
def linePrintsUptoCard : Claim7 := { stood := { row := linePrintsUptoRow, standIns := [], harness := (true, "f91313a3443ae298024d7091f936a2606a41d7ae05a82be1cd05bc20bb06cc87"), looks := true }, kinds := [], alts := [], laidByText := true, laidKinds := [.data, .data, .data, .handle, .sentinel, .sentinel], laidTests := true, laidLooks := .later }
def LinePrintsUptoCardSaid : Prop := Claim7.holds Tryd.pinned (.plain (OpenSpec.upto linePrintsSpec)) linePrintsUptoCard

/-- THE SECOND FORM's CARD OF 'nogginlaw04.LineBack'. -/
def lineBackUptoCard : Claim7 := { stood := { row := lineBackUptoRow, standIns := [], harness := (true, "f91313a3443ae298024d7091f936a2606a41d7ae05a82be1cd05bc20bb06cc87"), looks := true }, kinds := [], alts := [], laidByText := true, laidKinds := [.data, .data, .data, .handle, .sentinel, .sentinel], laidTests := true, laidLooks := .later }
def LineBackUptoCardSaid : Prop := Claim7.holds Tryd.pinned (.plain (OpenSpec.upto lineBackSpec)) lineBackUptoCard

/-- THE SECOND FORM's CARD OF 'nogginlaw05.SeriesAny'. -/
def seriesAnyUptoCard : Claim7 := { stood := { row := seriesAnyUptoRow, standIns := [], harness := (true, "f91313a3443ae298024d7091f936a2606a41d7ae05a82be1cd05bc20bb06cc87"), looks := true }, kinds := [], alts := [], laidByText := true, laidKinds := [.data, .data, .data, .sentinel, .sentinel], laidTests := true, laidLooks := .later }
def SeriesAnyUptoCardSaid : Prop := Claim7.holds Tryd.pinned (.plain (OpenSpec.upto seriesAnySpec)) seriesAnyUptoCard
end Rows
end Go.Proofs.YtdhonbahpcmmnaaDoor
