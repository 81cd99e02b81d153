/- '[]byte(s)' at an operation, for the regions that draw. Words for the walks. -/
import Derived.Test.YtdhonbahpcmmnaaDoorFr
import Derived.Lib.ConvBytes
set_option linter.unusedVariables false
set_option linter.unusedSimpArgs false
namespace Go.Proofs.YtdhonbahpcmmnaaDoor
open Go.RowKit Go.Proofs.YtdhonbahpcmmnaaDoorW.PrintWords Go.Proofs.YtdhonbahpcmmnaaDoorW.PrintLast
end Go.Proofs.YtdhonbahpcmmnaaDoor
