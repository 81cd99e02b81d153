/- '==' and '!=' between two errors that are numbers of one named type (after the guide's note 10), and against nil. Words for the walks. -/
import Derived.LaidEql
import Derived.WideLaws
import Derived.Test.YtjkaldnhfenbhaaProg
import Derived.WalkSpells
import Derived.WalkLawsBesides
set_option linter.unusedVariables false
namespace Go.Proofs.Ytjkaldnhfenbhaa.Err
section
variable {P : Program} (w : World)

theorem run_equalIn_iface_int (d : Nat) {ti tn : TypeId} {ms : Array (String × TypeId)} {i : TypeInfo} {k : IntKind} (a b : Int)
    (hi : P.underlying ti = some (.interface ms)) (hn : P.underlying tn = some (.int k)) (hinfo : P.info? tn = some i) (hcomp : i.comparable = true) :
    (Op.equalIn (d + 2) ti (.iface tn (.int k a)) (.iface tn (.int k b))).run P w = .ok (a == b) w := by
  simp [Op.equalIn, run_underlying hi, run_underlying hn, typeInfo, hinfo, hcomp]

theorem run_eql_iface_int {ti tn : TypeId} {ms : Array (String × TypeId)} {i : TypeInfo} {k : IntKind} (a b : Int)
    (hi : P.underlying ti = some (.interface ms)) (hn : P.underlying tn = some (.int k)) (hinfo : P.info? tn = some i) (hcomp : i.comparable = true) :
    (binOp .eql ti (.iface tn (.int k a)) (.iface tn (.int k b))).run P w = .ok (.bool (a == b)) w := by
  simp only [binOp]
  simp [Op.equal, Op.maxDepth, run_equalIn_iface_int w 9998 a b hi hn hinfo hcomp]

theorem run_neq_iface_int {ti tn : TypeId} {ms : Array (String × TypeId)} {i : TypeInfo} {k : IntKind} (a b : Int)
    (hi : P.underlying ti = some (.interface ms)) (hn : P.underlying tn = some (.int k)) (hinfo : P.info? tn = some i) (hcomp : i.comparable = true) :
    (binOp .neq ti (.iface tn (.int k a)) (.iface tn (.int k b))).run P w = .ok (.bool (!(a == b))) w := by
  simp only [binOp]
  simp [Op.equal, Op.maxDepth, run_equalIn_iface_int w 9998 a b hi hn hinfo hcomp]
end

-- the program's own: error is type 26, api.Code is type 29
theorem isErr : Try.prog.underlying 26 = some (.interface (Try.prog.methodsAt 26)) := by kernel_rfl
theorem isCode : Try.prog.underlying 29 = some (.int .i64) := by kernel_rfl
theorem hasCode : ∃ i, Try.prog.info? 29 = some i ∧ i.comparable = true := by
  have h : (Try.prog.info? 29).map (fun i => i.comparable) = some true := by kernel_rfl
  obtain ⟨i, h1, h2⟩ := Option.map_eq_some_iff.1 h
  exact ⟨i, h1, h2⟩
theorem eql_err (w : World) (a b : Int) : (binOp .eql 26 (.iface 29 (.int .i64 a)) (.iface 29 (.int .i64 b))).run Try.prog w = .ok (.bool (a == b)) w := by
  obtain ⟨i, h2, h3⟩ := hasCode
  exact run_eql_iface_int w a b isErr isCode h2 h3
theorem neq_err (w : World) (a b : Int) : (binOp .neq 26 (.iface 29 (.int .i64 a)) (.iface 29 (.int .i64 b))).run Try.prog w = .ok (.bool (!(a == b))) w := by
  obtain ⟨i, h2, h3⟩ := hasCode
  exact run_neq_iface_int w a b isErr isCode h2 h3
end Go.Proofs.Ytjkaldnhfenbhaa.Err
