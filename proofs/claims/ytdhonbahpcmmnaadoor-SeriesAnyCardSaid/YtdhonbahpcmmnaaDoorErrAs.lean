/- errors.As at a pointer to a pointer to a Spot, errors.Is at a Code, and nogginlaw00.Is, by their contracts (after the guide's worked examples Toyas and Sentry). -/
import Derived.Test.YtdhonbahpcmmnaaDoorEngB
import Derived.Test.YtdhonbahpcmmnaaDoorChecked
import Derived.WalkKit
import Derived.LaidEql
import Derived.Stop.Asserts
import Derived.RowKitTokens
set_option linter.unusedVariables false
set_option linter.unusedSimpArgs false
namespace Go.Proofs.YtdhonbahpcmmnaaDoor.Errs
open Go.RowKit Go.Extern.Stop Go.Stop Go.Extern Go.Proofs.YtdhonbahpcmmnaaDoor Go.Proofs.YtdhonbahpcmmnaaDoor.Eng
def ErrT (w : World) : Prop := w.cell? ⟨0, 0, none⟩ = some (.iface 114 (.agg #[.pointer (some ⟨7, 30, none⟩)]))
theorem ErrT.lt {w : World} (h : ErrT w) : 0 < w.heap.size := World.block_lt_of_cell? w _ h
theorem ErrT.keep {w w1 : World} {S : List Nat} (h : ErrT w) (k : Fr S w w1) (hn : 0 ∉ S) : ErrT w1 := by
 unfold ErrT
 rw [World.cell?_of_block (w := w) (w' := w1) (k.block _ h.lt hn)]
 exact h
end Go.Proofs.YtdhonbahpcmmnaaDoor.Errs
