/- Layers 21, 24: statements' rows. -/
import Derived.Test.YtjfgmdkdcnfdoaaGreatDoorFL
import Derived.SizedLaws
import Derived.ChangeSlices
import Derived.Test.YtjfgmdkdcnfdoaaGreatDoorWMore
import Derived.WalkKit
import Derived.ProofKit
import Derived.Deep.Slices
section
set_option linter.unusedVariables false
namespace Go.Proofs.YtjfgmdkdcnfdoaaGreatDoor.Jrn
open Go Go.RowKit Go.Proofs.YtjfgmdkdcnfdoaaGreatDoor Go.Proofs.YtjfgmdkdcnfdoaaGreatDoor.Eng Go.Proofs.YtjfgmdkdcnfdoaaGreatDoor.Eng.Sep Go.Proofs.YtjfgmdkdcnfdoaaGreatDoor.Disk Go.Proofs.YtjfgmdkdcnfdoaaGreatDoorW.PrintWords
def VarI (w : World) (name : String) : Prop := ∃ tp p, w.var? Tryz.prog name = some #[.iface tp p]
theorem ct_row {f : FuncId} {args : Array Value} (C : Ct Tryz.prog f args [] [] (fun (_ : Unit) => True) (fun _ => (.bool true, []))) (w : World) : Calls Tryz.prog f args w fun e w' => e = .returned (.bool true) ∧ Below w.heap.size w w' :=
 (C w [] [] rfl rfl (Up.nil w)).mono fun e w' ⟨_, xo, _, he, _, _, hF, _⟩ => ⟨he, (show Fr [] w w' from hF).below0⟩
theorem lasts_row (many n acks keep : Int) (w : World) (hk : -9223372036854775808 ≤ keep ∧ keep ≤ 9223372036854775807) : Calls Tryz.prog 6 #[.int .i64 many, .int .i64 n, .int .i64 acks, .int .i64 keep] w fun e w' => e = .returned (.bool true) ∧ Below w.heap.size w w' := ct_row (lasts_ct many n acks keep hk) w
end Go.Proofs.YtjfgmdkdcnfdoaaGreatDoor.Jrn
end
section
namespace Go.Proofs.YtjfgmdkdcnfdoaaGreatDoorW.PrintWords
open Go.ChangeShapes Go.WideShapes
end Go.Proofs.YtjfgmdkdcnfdoaaGreatDoorW.PrintWords
end
section
set_option linter.unusedVariables false
namespace Go.Proofs.YtjfgmdkdcnfdoaaGreatDoor.Row
open Go.ChangeShapes Go.WideShapes Go.RowKit Go.Proofs.YtjfgmdkdcnfdoaaGreatDoorW.PrintWords Go.Proofs.YtjfgmdkdcnfdoaaGreatDoorW.PrintLast
end Go.Proofs.YtjfgmdkdcnfdoaaGreatDoor.Row
end
section
set_option linter.unusedVariables false
namespace Go.Proofs.YtjfgmdkdcnfdoaaGreatDoor.Opens
open Go.ChangeShapes Go.WideShapes Go.RowKit Go.Proofs.YtjfgmdkdcnfdoaaGreatDoorW.PrintWords Go.Proofs.YtjfgmdkdcnfdoaaGreatDoorW.PrintLast
end Go.Proofs.YtjfgmdkdcnfdoaaGreatDoor.Opens
end
