import Derived.SizedLaws
import Derived.ChangeSlices
namespace Go.Proofs.YtdhonbahpcmmnaaDoorW.PrintWords
open Go.ChangeShapes Go.WideShapes
end Go.Proofs.YtdhonbahpcmmnaaDoorW.PrintWords
