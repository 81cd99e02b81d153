/- The document's value of the part that a number takes, as the reader's number answers. -/
import Derived.Test.YtdhonbahpcmmnaaDoorLineA
set_option maxHeartbeats 400000
namespace Go.Proofs.YtdhonbahpcmmnaaDoor.Line
open Go Go.RowKit Go.Proofs.YtdhonbahpcmmnaaDoor Go.Proofs.YtdhonbahpcmmnaaDoor.Eng Go.Proofs.YtdhonbahpcmmnaaDoorW.PrintWords
def numB (s : L) (p : Nat) : Nat := if p < s.length ∧ (gB s p).toNat = 45 then p + 1 else p
def numE (s : L) (p : Nat) : Nat := runE isD s (numB s p)
def numP (s : L) (p : Nat) (least most : Int) : Option Int := numR s p (numB s p) least most
end Go.Proofs.YtdhonbahpcmmnaaDoor.Line
