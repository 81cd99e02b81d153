/- errors.Is at a Code, and nogginlaw00.Is, by their contracts (after the guide's worked example Sentry). -/
import Derived.Test.YtdhonbahpcmmnaaDoorErrAs
set_option linter.unusedVariables false
set_option linter.unusedSimpArgs false
namespace Go.Proofs.YtdhonbahpcmmnaaDoor.Errs
open Go.RowKit Go.Extern.Stop Go.Stop Go.Extern Go.Proofs.YtdhonbahpcmmnaaDoor Go.Proofs.YtdhonbahpcmmnaaDoor.Eng
section
variable {ι : Type} {ops : Array Oper} {N : Nat} {S : ι → Act → World → Prop} {R : World → World → Prop} {x y : ι} {o : Oper} {e e' : Env} {w : World}
end
end Go.Proofs.YtdhonbahpcmmnaaDoor.Errs
