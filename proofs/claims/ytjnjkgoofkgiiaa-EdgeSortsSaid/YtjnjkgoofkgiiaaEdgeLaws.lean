/- Layer 2's laws of the order: for the rows. -/
import Derived.Test.YtjnjkgoofkgiiaaEdgeU
set_option linter.unusedVariables false
namespace Go.Proofs.Ytjnjkgoofkgiiaa.Edge
open Go Go.RowKit Go.Proofs.Ytjnjkgoofkgiiaa Go.Proofs.Ytjnjkgoofkgiiaa.Eng
theorem bits_f64 {b : Nat} (h : (Lit.float .f64 b).wf = true) : b < 18446744073709551616 := by
  simpa [Lit.wf, FloatKind.has] using h
theorem orders_any (x y : Nat) (w : World) (hx : x < 18446744073709551616) (hy : y < 18446744073709551616) :
    Calls Try.prog 7 #[.float .f64 x, .float .f64 y] w fun e w' => e = .returned (.bool true) ∧ Below w.heap.size w w' :=
  (orders_f x y w hx hy).mono fun e w' ⟨h1, h2⟩ => ⟨h1, h2.below0⟩
theorem order_any (x y z : Nat) (w : World) (hx : x < 18446744073709551616) (hy : y < 18446744073709551616) (hz : z < 18446744073709551616) :
    Calls Try.prog 9 #[.float .f64 x, .float .f64 y, .float .f64 z] w fun e w' => e = .returned (.bool true) ∧ Below w.heap.size w w' :=
  (order_f x y z w hx hy hz).mono fun e w' ⟨h1, h2⟩ => ⟨h1, h2.below0⟩
end Go.Proofs.Ytjnjkgoofkgiiaa.Edge
