/- Layer 6's laws, from the statements' arguments. -/
import Derived.Test.YtjnjkgoofkgiiaaDoorWireL
import Derived.Test.YtjnjkgoofkgiiaaDoorViews
import Derived.Test.YtjnjkgoofkgiiaaDoorDeeds
set_option linter.unusedVariables false
set_option linter.unusedSimpArgs false
namespace Go.Proofs.YtjnjkgoofkgiiaaDoor.Wire
open Go Go.RowKit Go.Proofs.YtjnjkgoofkgiiaaDoor Go.Proofs.YtjnjkgoofkgiiaaDoor.Eng Go.Proofs.YtjnjkgoofkgiiaaDoorW.PrintWords
theorem writes_row (A : Option Addr) (c : Nat) (l : List UInt8) (m z : Int) (s : ByteArray) (w : World) (R : Kd.C Views.byteK w A l.length l) (hm : 0 ≤ m ∧ m ≤ 18446744073709551615) (hz : -9223372036854775808 ≤ z ∧ z ≤ 9223372036854775807) (hs : s.size ≤ 9223372036854775807) (HE : Errs.ErrT w) :
    Calls Tryd.prog 3 #[.slice A l.length c, .int .u64 m, .int .i64 z, .string s] w fun e w' => e = .returned (.bool true) ∧ Below w.heap.size w w' := by
  obtain ⟨F, HV⟩ := Views.bytes R
  obtain ⟨k, rfl⟩ := Int.eq_ofNat_of_zero_le hm.1
  exact (writes_any k z s A l.length c l F w HV rfl (by omega) hz hs HE).mono fun e w' ⟨h1, h2⟩ => ⟨h1, h2.below0⟩
theorem reads_row (A : Option Addr) (c : Nat) (l : List UInt8) (B : Option Addr) (d : Nat) (q : List (Int × Int)) (w : World) (R : Kd.C Views.byteK w A l.length l) (hc : l.length ≤ c) (Q : Kd.C Deeds.II w B q.length q) (hq : ∀ x ∈ q, (-9223372036854775808 ≤ x.1 ∧ x.1 ≤ 9223372036854775807) ∧ (-9223372036854775808 ≤ x.2 ∧ x.2 ≤ 9223372036854775807)) (HE : Errs.ErrT w) :
    Calls Tryd.prog 4 #[.slice A l.length c, .slice B q.length d] w fun e w' => e = .returned (.bool true) ∧ Below w.heap.size w w' := by
  obtain ⟨F, HV⟩ := Views.bytes R
  obtain ⟨G, HK⟩ := Views.of_C (cE := cK) (by decide) (fun x cs hk => by
    obtain ⟨c1, c2, rfl, hk1, hk2⟩ := hk
    obtain rfl : c1 = [.int .i64 x.1] := hk1
    obtain rfl : c2 = [.int .i64 x.2] := hk2
    rfl) Q
  exact (reads_any A l.length c l F B q.length d q G w HV rfl hc HK rfl hq HE).mono fun e w' ⟨h1, h2⟩ => ⟨h1, h2.below0⟩
theorem back_row (m z : Int) (s : ByteArray) (k : Int) (w : World) (hm : 0 ≤ m ∧ m ≤ 18446744073709551615) (hz : -9223372036854775808 ≤ z ∧ z ≤ 9223372036854775807) (hs : s.size ≤ 9223372036854775807) (hk : 0 ≤ k ∧ k ≤ 18446744073709551615) (HE : Errs.ErrT w) :
    Calls Tryd.prog 5 #[.int .u64 m, .int .i64 z, .string s, .int .u64 k] w fun e w' => e = .returned (.bool true) ∧ Below w.heap.size w w' := by
  obtain ⟨m, rfl⟩ := Int.eq_ofNat_of_zero_le hm.1
  obtain ⟨k, rfl⟩ := Int.eq_ofNat_of_zero_le hk.1
  exact (back_any m z s k w (by omega) hz hs (by omega) HE).mono fun e w' ⟨h1, h2⟩ => ⟨h1, h2.below0⟩
end Go.Proofs.YtjnjkgoofkgiiaaDoor.Wire
