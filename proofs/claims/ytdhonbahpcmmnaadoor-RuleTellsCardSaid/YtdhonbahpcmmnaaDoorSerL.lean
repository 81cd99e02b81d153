/- Layer 5's law SeriesAny. -/
import Derived.Test.YtdhonbahpcmmnaaDoorSerC
set_option linter.unusedVariables false
set_option linter.unusedSimpArgs false
namespace Go.Proofs.YtdhonbahpcmmnaaDoor.Line
open Go Go.RowKit Go.Proofs.YtdhonbahpcmmnaaDoor Go.Proofs.YtdhonbahpcmmnaaDoor.Eng Go.Proofs.YtdhonbahpcmmnaaDoorW.PrintWords
open Go.Proofs
end Go.Proofs.YtdhonbahpcmmnaaDoor.Line
