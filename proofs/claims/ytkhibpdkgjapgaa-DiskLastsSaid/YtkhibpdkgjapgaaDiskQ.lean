/- Layer 8's law DiskLasts, from the statement's arguments. -/
import Derived.Test.YtkhibpdkgjapgaaDiskL
import Derived.Test.YtkhibpdkgjapgaaViews
set_option linter.unusedVariables false
set_option linter.unusedSimpArgs false
namespace Go.Proofs.Ytkhibpdkgjapgaa.Disk
open Go Go.RowKit Go.Proofs.Ytkhibpdkgjapgaa Go.Proofs.Ytkhibpdkgjapgaa.Eng Go.Proofs.YtkhibpdkgjapgaaW.PrintWords
theorem lasts_row (Aa Ab Ac : Option Addr) (ca cb cc : Nat) (a b l : List UInt8) (keep : Int) (w : World) (Ra : Kd.C Views.byteK w Aa a.length a) (Rb : Kd.C Views.byteK w Ab b.length b) (Rc : Kd.C Views.byteK w Ac l.length l) (hk : -9223372036854775808 ≤ keep ∧ keep ≤ 9223372036854775807) (ha : a.length * 1 ≤ 140737488351232 ∧ a.length ≤ ca) (hb : b.length * 1 ≤ 140737488351232 ∧ b.length ≤ cb) (hc : l.length * 1 ≤ 140737488351232 ∧ l.length ≤ cc) :
    Calls Try.prog 3 #[.slice Aa a.length ca, .slice Ab b.length cb, .slice Ac l.length cc, .int .i64 keep] w fun e w' => e = .returned (.bool true) ∧ Below w.heap.size w w' := by
  obtain ⟨Fa, H1⟩ := Views.bytes Ra
  obtain ⟨Fb, H2⟩ := Views.bytes Rb
  obtain ⟨Fc, H3⟩ := Views.bytes Rc
  exact (lasts_any Aa Ab Ac a.length b.length l.length ca cb cc a b l Fa Fb Fc keep w H1 rfl H2 rfl H3 rfl hk ha hb hc).mono fun e w' ⟨h1, h2⟩ => ⟨h1, h2.below0⟩
end Go.Proofs.Ytkhibpdkgjapgaa.Disk
