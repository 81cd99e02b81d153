/- '[]byte(s)' at an operation, for the regions that draw. Words for the walks. -/
import Derived.Test.YtkhibpdkgjapgaaFr
import Derived.Lib.ConvBytes
set_option linter.unusedVariables false
set_option linter.unusedSimpArgs false
namespace Go.Proofs.Ytkhibpdkgjapgaa
open Go.RowKit Go.Proofs.YtkhibpdkgjapgaaW.PrintWords Go.Proofs.YtkhibpdkgjapgaaW.PrintLast
theorem conv_exec {P : Program} (w : World) {oi : Oper} {a : Act} {src dst e : TypeId} {x : Operand} {s : ByteArray} (ho : oi.op = .convert src dst x) (hx : a.eval x = .string s)
    (hs : P.underlying src = some .string) (hd : P.underlying dst = some (.slice e)) (he : P.underlying e = some (.int .u8)) :
    (execOp a.eval oi).run P w = .ok (.value (.slice (some ⟨w.heap.size, 0, none⟩) s.size (grownCap w s.size 0 e))) (Lib.bytesWorld w e s) := by
  have := Lib.run_convert_string_bytes (P := P) (u := .string) w src dst e s hs hd he
  unfold execOp
  simp [ho, hx, this, Result.andThen]
end Go.Proofs.Ytkhibpdkgjapgaa
