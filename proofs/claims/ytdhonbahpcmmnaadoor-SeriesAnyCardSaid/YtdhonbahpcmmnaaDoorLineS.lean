/- Layer 4's walks: the document's run. -/
import Derived.Test.YtdhonbahpcmmnaaDoorLineR
set_option linter.unusedVariables false
set_option linter.unusedSimpArgs false
namespace Go.Proofs.YtdhonbahpcmmnaaDoor.Line
open Go Go.RowKit Go.Proofs.YtdhonbahpcmmnaaDoor Go.Proofs.YtdhonbahpcmmnaaDoor.Eng Go.Proofs.YtdhonbahpcmmnaaDoorW.PrintWords
theorem isD_t {c : UInt8} (h : 48 ≤ c.toNat ∧ c.toNat ≤ 57) : isD c = true := by
 unfold isD
 simp only [Bool.and_eq_true, decide_eq_true_eq]
 exact h
end Go.Proofs.YtdhonbahpcmmnaaDoor.Line
