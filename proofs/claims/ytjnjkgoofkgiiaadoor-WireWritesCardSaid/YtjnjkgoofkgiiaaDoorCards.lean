/-
  DERIVED. GIVEN WITH THE SEED: THE CARDS: each row of YtjnjkgoofkgiiaaDoorRows.lean that lists a variable, with what it lists TIED to the program's text (the seventh form; the later family's looks); each row that meets fmt, with fmt's text TOLD by the authors' own Lean function (tested against real Go, not proved from fmt's source: count such statements apart). THE CARD IS WHAT COUNTS. Prove the row's statement (the work); the ties are given (YtjnjkgoofkgiiaaDoorTie.lean); close each card by the builder's one call (the guide's Derived/Test/ToyasCard.lean, 'card_holds'). Laid BY PROGRAM, IN A SANDBOX (cutbox-door.mjs). By AI agents, Wed Nov 11 2026. No macro, syntax, notation, axiom, sorry.
-/
import Derived.Test.YtjnjkgoofkgiiaaDoorRows
import GoSem.ClaimSeven
namespace Go.Proofs.YtjnjkgoofkgiiaaDoor
namespace Rows

/-- THE TIED CARD OF 'nogginlaw06.WireWrites'. -/
def wireWritesCard : Claim7 := { stood := { row := wireWritesRow, standIns := [], harness := (true, "a8c4f10b14c07d88c88f82d16434f1745a44b3a705ee15f2001860ab43392950"), looks := true }, kinds := [], alts := [], laidByText := true, laidKinds := [.handle], laidTests := true, laidLooks := .later }
def WireWritesCardSaid : Prop := Claim7.holds Tryd.pinned (.plain (OpenSpec.ofChange wireWritesSpec)) wireWritesCard

/-- THE TIED CARD OF 'nogginlaw06.WireReads'. -/
def wireReadsCard : Claim7 := { stood := { row := wireReadsRow, standIns := [], harness := (true, "a8c4f10b14c07d88c88f82d16434f1745a44b3a705ee15f2001860ab43392950"), looks := true }, kinds := [], alts := [], laidByText := true, laidKinds := [.handle], laidTests := true, laidLooks := .later }
def WireReadsCardSaid : Prop := Claim7.holds Tryd.pinned (.plain (OpenSpec.ofChange wireReadsSpec)) wireReadsCard

/-- THE TIED CARD OF 'nogginlaw06.WireBack'. -/
def wireBackCard : Claim7 := { stood := { row := wireBackRow, standIns := [], harness := (true, "a8c4f10b14c07d88c88f82d16434f1745a44b3a705ee15f2001860ab43392950"), looks := true }, kinds := [], alts := [], laidByText := true, laidKinds := [.handle], laidTests := true, laidLooks := .later }
def WireBackCardSaid : Prop := Claim7.holds Tryd.pinned (.plain (OpenSpec.ofChange wireBackSpec)) wireBackCard

/-- THE SECOND FORM's CARD OF 'nogginlaw06.WireWrites'. -/
def wireWritesUptoCard : Claim7 := { stood := { row := wireWritesUptoRow, standIns := [], harness := (true, "a8c4f10b14c07d88c88f82d16434f1745a44b3a705ee15f2001860ab43392950"), looks := true }, kinds := [], alts := [], laidByText := true, laidKinds := [.handle], laidTests := true, laidLooks := .later }
def WireWritesUptoCardSaid : Prop := Claim7.holds Tryd.pinned (.plain (OpenSpec.upto wireWritesSpec)) wireWritesUptoCard

/-- THE SECOND FORM's CARD OF 'nogginlaw06.WireReads'. -/
def wireReadsUptoCard : Claim7 := { stood := { row := wireReadsUptoRow, standIns := [], harness := (true, "a8c4f10b14c07d88c88f82d16434f1745a44b3a705ee15f2001860ab43392950"), looks := true }, kinds := [], alts := [], laidByText := true, laidKinds := [.handle], laidTests := true, laidLooks := .later }
def WireReadsUptoCardSaid : Prop := Claim7.holds Tryd.pinned (.plain (OpenSpec.upto wireReadsSpec)) wireReadsUptoCard

/-- THE SECOND FORM's CARD OF 'nogginlaw06.WireBack'. -/
def wireBackUptoCard : Claim7 := { stood := { row := wireBackUptoRow, standIns := [], harness := (true, "a8c4f10b14c07d88c88f82d16434f1745a44b3a705ee15f2001860ab43392950"), looks := true }, kinds := [], alts := [], laidByText := true, laidKinds := [.handle], laidTests := true, laidLooks := .later }
def WireBackUptoCardSaid : Prop := Claim7.holds Tryd.pinned (.plain (OpenSpec.upto wireBackSpec)) wireBackUptoCard
end Rows
end Go.Proofs.YtjnjkgoofkgiiaaDoor
