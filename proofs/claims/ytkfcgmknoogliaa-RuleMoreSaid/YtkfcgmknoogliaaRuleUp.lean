/- The example at the head of layer 14's statements. -/
import Derived.Test.YtkfcgmknoogliaaPRuleMorex1
import Derived.Test.YtkfcgmknoogliaaErr
import Derived.Lib.Hide
set_option linter.unusedVariables false
set_option linter.unusedSimpArgs false
namespace Go.Proofs.Ytkfcgmknoogliaa.Rule
open Go.RowKit Go.Proofs.YtkfcgmknoogliaaW.PrintWords Go.Proofs.YtkfcgmknoogliaaW.PrintLast Go.Proofs.Ytkfcgmknoogliaa.PRuleMore

def cpu : ByteArray := ⟨#[99, 112, 117]⟩
def rules : List S62 := [⟨cpu, 0⟩]
theorem class_a : rule_Class.f 9 rules 2 ⟨#[99, 112, 117, 46, 120]⟩ = some (0, none) := by decide +kernel
theorem class_b : rule_Class.f 9 rules 2 ⟨#[109, 101, 109]⟩ = some (1, none) := by decide +kernel
theorem class_c : rule_Class.f 9 rules 0 ⟨#[109, 101, 109]⟩ = some (0, some 1) := by decide +kernel

theorem reads_rules (w : World) (g : Nat) (hb : w.heap[g]? = some (.cells #[.string cpu, .int .i64 0] 62 (0, 0))) : Kd.C k62 w (some ⟨g, 0, none⟩) rules.length rules := by
  refine ⟨rfl, by decide, fun _ => ⟨_, rfl, fun j p hj => ?_⟩⟩
  have h0 : j = 0 := by have := (List.getElem?_eq_some_iff.1 hj).1; simp [rules] at this; omega
  subst h0
  simp [rules] at hj
  subst hj
  refine ⟨[.string cpu, .int .i64 0], rfl, k62_mk w _, fun i u hu => ?_⟩
  rw [show 0 * k62.sz + i = i by omega, add_plain, blk_cell hb i]
  simpa using hu

set_option maxRecDepth 100000 in
set_option maxHeartbeats 2000000 in
theorem up_any (w : World) : Calls Try.prog 40 #[] w fun e w' => e = .returned (.bool true) ∧ Below w.heap.size w w' := by
  have he := Err.eql_err
  have hu := Try.underlying46
  go_enter Try.func40, Try.ntmps40
  go_wp2_with fail
  refine (rule_Class.calls 9 _ 1 rules 2 _ _ _ _ (by exact reads_rules _ w.heap.size (blk_new w _)) (by decide) class_a).mono ?_
  rintro e w1 ⟨rfl, hb⟩
  simp only [errW_none, errW_some]
  have HB := Lib.hid hb
  have HR := Lib.hid (Kd.C_below (reads_rules _ w.heap.size (blk_new w _)) hb)
  clear hb
  go_wp2_with fail
  refine (rule_Class.calls 9 _ 1 rules 2 _ _ _ _ (by exact HR.out) (by decide) class_b).mono ?_
  rintro e w2 ⟨rfl, hb⟩
  simp only [errW_none, errW_some]
  have HB2 := Lib.hid hb
  have HR2 := Lib.hid (Kd.C_below HR.out hb)
  clear hb
  go_wp2_with fail
  refine (rule_Class.calls 9 _ 1 rules 0 _ _ _ _ (by exact HR2.out) (by decide) class_c).mono ?_
  rintro e w3 ⟨rfl, hb⟩
  simp only [errW_none, errW_some]
  have HB3 := Lib.hid hb
  clear hb
  go_wp2_with fail
  go_ret
  refine ⟨rfl, ?_⟩
  have h1 : Below w.heap.size w (w.alloc (.cells #[.string cpu, .int .i64 0] 62)) := (Below.refl _ _).alloc (Nat.le_refl _) _
  exact below_step (below_step (below_step h1 HB.out) HB2.out) HB3.out
end Go.Proofs.Ytkfcgmknoogliaa.Rule
