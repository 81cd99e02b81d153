/- Layer 4's laws. -/
import Derived.Test.YtdhonbahpcmmnaaDoorLineI
import Derived.Test.YtdhonbahpcmmnaaDoorLineQ
import Derived.Test.YtdhonbahpcmmnaaDoorErrs
set_option linter.unusedVariables false
set_option linter.unusedSimpArgs false
namespace Go.Proofs.YtdhonbahpcmmnaaDoor.Line
open Go Go.RowKit Go.Proofs.YtdhonbahpcmmnaaDoor Go.Proofs.YtdhonbahpcmmnaaDoor.Eng Go.Proofs.YtdhonbahpcmmnaaDoorW.PrintWords
theorem eqA53 (d : Nat) (w : World) (x0 y0 : ByteArray) (x1 y1 : ByteArray) :
  (Op.equalIn (d + 2) 53 (.agg #[.string x0, .string x1]) (.agg #[.string y0, .string y1])).run Tryd.prog w = .ok (x0.toList == y0.toList && (x1.toList == y1.toList)) w := by
 refine eqA_of Tryd.underlying53 (by kernel_rfl) ?_
 refine eqf_cons (by rfl) (by go_simp; rfl) (by go_simp; rfl) (by go_simp) ?_
 exact eqf_last (by rfl) (by go_simp; rfl) (by go_simp; rfl) (by go_simp)
theorem few_of {e : Ev} (h : mayE e = true) : fewE e = true := by
 obtain ⟨h1, h2, h3, _⟩ := may_parts h
 unfold fewE
 simp only [Bool.and_eq_true, decide_eq_true_eq]
 refine ⟨⟨List.all_eq_true.2 fun t ht => ?_, ?_⟩, ?_⟩
 ·
  have a := word_len (h1 t ht).1
  have b := word_len (h1 t ht).2
  simp only [Bool.and_eq_true, decide_eq_true_eq]
  omega
 ·
  have := word_len h2
  omega
 ·
  omega
end Go.Proofs.YtdhonbahpcmmnaaDoor.Line
