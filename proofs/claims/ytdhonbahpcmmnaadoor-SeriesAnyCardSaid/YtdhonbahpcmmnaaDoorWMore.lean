import Derived.Test.YtdhonbahpcmmnaaDoorWWords
import Derived.Test.YtdhonbahpcmmnaaDoorWLast
import Derived.Test.YtdhonbahpcmmnaaDoorWQPut
import Derived.Test.YtdhonbahpcmmnaaDoorWApart
import Derived.Test.YtdhonbahpcmmnaaDoorWZeros
import Derived.Test.YtdhonbahpcmmnaaDoorWFoot
import Derived.Test.YtdhonbahpcmmnaaDoorWKept
import Derived.Test.YtdhonbahpcmmnaaDoorWNEv
namespace Go.Proofs.YtdhonbahpcmmnaaDoorW.PrintMore
open Go.RowKit Go.Proofs.YtdhonbahpcmmnaaDoorW.PrintWords
namespace Kd
open Go.Proofs.YtdhonbahpcmmnaaDoorW.PrintWords.Kd
end Kd
namespace Kd
open Go.Proofs.YtdhonbahpcmmnaaDoorW.PrintWords.Kd
section
variable {α : Type} {d : Kd α} {e base g N : Nat} {ok : Nat → Prop} {W w1 : World} {u v : Value} {xs : List α}
end
end Kd
end Go.Proofs.YtdhonbahpcmmnaaDoorW.PrintMore
namespace Go.Proofs.YtdhonbahpcmmnaaDoorW.PrintWords
open Go.RowKit
section
variable {P : Program} {ops : Array Oper} {rest : List Oper} {o : Oper} {a : Act} {Q : Exit → Act → World → Prop} {W : World}
end
namespace Kd
section
variable {α : Type} {d : Kd α} {e base : Nat} {ok : Nat → Prop} {W w1 : World} {v : Value} {xs : List α}
end
section
variable {α : Type} {d : Kd α} {e base g n cap : Nat} {ok oki okp : Nat → Prop} {W : World} {xs : List α} {i : Int} {c : List Value}
end
section
variable {α : Type} {d : Kd α} {e base b b' g N : Nat} {ok ok1 : Nat → Prop} {W W2 w1 : World} {u v : Value} {xs ys : List α} {S : Nat → Prop}
end
end Kd
end Go.Proofs.YtdhonbahpcmmnaaDoorW.PrintWords
namespace Go.Proofs.YtdhonbahpcmmnaaDoorW.PrintWords
open Go.RowKit
namespace Kd
def V {α : Type} (d : Kd α) (_e : Nat) (W : World) (_base : Nat) (ok : Nat → Prop) (v : Value) (xs : List α) : Prop := ∃ A c, v = .slice A xs.length c ∧ xs.length ≤ c ∧ F d W ok A xs.length xs
section
variable {α β : Type} {d : Kd α} {e base base' n m c g N' lo hi : Nat} {ok ok' S : Nat → Prop} {w W w1 : World} {A : Option Addr} {ad : Addr} {u v v1 : Value} {xs : List α}
end
end Kd
end Go.Proofs.YtdhonbahpcmmnaaDoorW.PrintWords
