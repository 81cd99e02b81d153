/- Layer 4's walks: the document's Parse. -/
import Derived.Test.YtdhonbahpcmmnaaDoorLineG
import Derived.Test.YtdhonbahpcmmnaaDoorEngJ
set_option linter.unusedVariables false
set_option linter.unusedSimpArgs false
namespace Go.Proofs.YtdhonbahpcmmnaaDoor.Line
open Go Go.RowKit Go.Proofs.YtdhonbahpcmmnaaDoor Go.Proofs.YtdhonbahpcmmnaaDoor.Eng Go.Proofs.YtdhonbahpcmmnaaDoorW.PrintWords
theorem et_t : ET Tryd.prog 23 53 2 32 := by
 obtain ⟨i, h1, h2, h3, h4⟩ := info_parts (P := Tryd.prog) (e := 53) (z := .agg #[.string ⟨#[]⟩, .string ⟨#[]⟩]) (size := 2) (bytes := 32) (by kernel_rfl)
 exact ⟨by kernel_rfl, ⟨i, _, h1, h2, h3, h4, rfl⟩, by decide⟩
theorem own_cap {w : World} {T : TypeId} {size : Nat} {F : List Nat} {A : Option Addr} {n cap : Nat} {xs : List (List Value)} (h : OwnX T size w F (.slice A n cap) xs) (hn : xs.length = n) : n ≤ cap := by
 rcases h with ⟨_, hv, _⟩ | ⟨b, c, _, hv, hr⟩
 ·
  injection hv with _ h1 h2
  omega
 ·
  injection hv with _ h1 h2
  have := hr.le
  omega
def ResR (w w' : World) (e : Ending) : Sum Ev Nat → Prop
 | .inr p => e = .returned (.tuple #[.agg #[.string (⟨#[]⟩), .slice none 0 0, .int .i64 0, .int .i64 0, .int .i64 0], .int .i64 (p : Int)]) ∧ Fr [] w w'
 | .inl ev => ∃ A n cp F, e = .returned (.tuple #[.agg #[.string (str ev.name), .slice A n cp, .int .i64 ev.kind, .int .i64 ev.value, .int .i64 ev.time], .int .i64 (-1)]) ∧ VX cT 2 w' F A ev.tags ∧ ev.tags.length = n ∧ n ≤ cp ∧ (∀ y ∈ F, w.heap.size ≤ y) ∧ Fr [] w w'
theorem ResR.fail {w w' : World} {p : Nat} (h : Fr [] w w') : ResR w w' (.returned (.tuple #[.agg #[.string (⟨#[]⟩), .slice none 0 0, .int .i64 0, .int .i64 0, .int .i64 0], .int .i64 (p : Int)])) (.inr p) := ⟨rfl, h⟩
theorem ResR.ok {w w' : World} {ev : Ev} {A : Option Addr} {n cp : Nat} {F : List Nat} (hn : ev.tags.length = n) (hc : n ≤ cp) (hT : VX cT 2 w' F A ev.tags) (hg : ∀ y ∈ F, w.heap.size ≤ y) (h : Fr [] w w') : ResR w w' (.returned (.tuple #[.agg #[.string (str ev.name), .slice A n cp, .int .i64 ev.kind, .int .i64 ev.value, .int .i64 ev.time], .int .i64 (-1)])) (.inl ev) := ⟨A, n, cp, F, rfl, hT, hn, hc, hg, h⟩
end Go.Proofs.YtdhonbahpcmmnaaDoor.Line
