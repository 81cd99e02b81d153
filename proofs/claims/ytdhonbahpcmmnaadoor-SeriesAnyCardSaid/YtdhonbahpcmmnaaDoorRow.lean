/- How the arguments of a statement are opened: a slice of whole numbers as a list. Words for the rows. -/
import Derived.Test.YtdhonbahpcmmnaaDoorWMore
import Derived.Test.YtdhonbahpcmmnaaDoorWSized
import Derived.ChangeSlices
import Derived.SizedLaws
import Derived.WalkKit
import Derived.ProofKit
set_option linter.unusedVariables false
namespace Go.Proofs.YtdhonbahpcmmnaaDoor.Row
open Go.ChangeShapes Go.WideShapes Go.RowKit Go.Proofs.YtdhonbahpcmmnaaDoorW.PrintWords Go.Proofs.YtdhonbahpcmmnaaDoorW.PrintLast
end Go.Proofs.YtdhonbahpcmmnaaDoor.Row
