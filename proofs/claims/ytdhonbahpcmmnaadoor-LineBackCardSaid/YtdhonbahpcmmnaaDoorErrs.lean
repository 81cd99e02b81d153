/- errors.Is at a Code, and nogginlaw00.Is, by their contracts (after the guide's worked example Sentry). -/
import Derived.Test.YtdhonbahpcmmnaaDoorErrAs
set_option linter.unusedVariables false
set_option linter.unusedSimpArgs false
namespace Go.Proofs.YtdhonbahpcmmnaaDoor.Errs
open Go.RowKit Go.Extern.Stop Go.Stop Go.Extern Go.Proofs.YtdhonbahpcmmnaaDoor Go.Proofs.YtdhonbahpcmmnaaDoor.Eng
theorem callComparable (w : World) : (callFunc 150 #[.agg #[.pointer (some ⟨7, 35, none⟩)]]).run Tryd.prog w = .ok (.value (.bool true)) w := by
 have h := @run_callFunc_extern Tryd.prog 150 _ (Extern.ReflectliteType.method fun t => do Rtype.noPackHeld "Comparable" t; pure (.bool (← typeInfo t).comparable)) Tryd.func150 (by kernel_rfl) (by kernel_rfl) (by kernel_rfl) (by kernel_rfl)
 have h2 : (Extern.ReflectliteType.method (fun t => do Rtype.noPackHeld "Comparable" t; pure (.bool (← typeInfo t).comparable)) #[.agg #[.pointer (some ⟨7, 35, none⟩)]]).run Tryd.prog w = .ok (.bool true) w := by kernel_rfl
 rw [h, h2]
 rfl
theorem isMethodComparable (v : Value) (w : World) : (Go.method 306 114 v "Comparable").run Tryd.prog w = .ok (150, v) w := by kernel_rfl
theorem noIsT (v : Value) (xT : TypeId) (w : World) : (Instr.typeAssert (.iface 67 v) xT 126 true).run Tryd.prog w = .ok (.tuple #[.nilIface, .bool false]) w := run_typeAssert_lacksB Tryd.underlying126 (by kernel_rfl) (by kernel_rfl) v xT w
theorem hasUnwrapT (v : Value) (xT : TypeId) (w : World) : (Instr.typeAssert (.iface 67 v) xT 121 true).run Tryd.prog w = .ok (.tuple #[.iface 67 v, .bool true]) w := run_typeAssert_hasB Tryd.underlying121 (by kernel_rfl) v xT w
theorem methodUnwrap (v : Value) (w : World) : (Go.method 306 67 v "Unwrap").run Tryd.prog w = .ok (143, v) w := by kernel_rfl
theorem run_equalIn_iface_int {P : Program} (w : World) (d : Nat) {ti tn : TypeId} {ms : Array (String × TypeId)} {i : TypeInfo} {k : IntKind} (a b : Int)
  (hi : P.underlying ti = some (.interface ms)) (hn : P.underlying tn = some (.int k)) (hinfo : P.info? tn = some i) (hcomp : i.comparable = true) :
  (Op.equalIn (d + 2) ti (.iface tn (.int k a)) (.iface tn (.int k b))).run P w = .ok (a == b) w := by
 simp [Op.equalIn, run_underlying hi, run_underlying hn, typeInfo, hinfo, hcomp]
theorem hasCode : ∃ i, Tryd.prog.info? 35 = some i ∧ i.comparable = true := by
 have h : (Tryd.prog.info? 35).map (fun i => i.comparable) = some true := by kernel_rfl
 obtain ⟨i, h1, h2⟩ := Option.map_eq_some_iff.1 h
 exact ⟨i, h1, h2⟩
theorem eql_err (w : World) (a b : Int) : (binOp .eql 30 (.iface 35 (.int .i64 a)) (.iface 35 (.int .i64 b))).run Tryd.prog w = .ok (.bool (a == b)) w := by
 obtain ⟨i, h2, h3⟩ := hasCode
 simp only [binOp]
 simp [Op.equal, Op.maxDepth, run_equalIn_iface_int w 9998 a b Tryd.underlying30 Tryd.underlying35 h2 h3]
set_option maxRecDepth 100000 in
set_option maxHeartbeats 4000000 in
theorem is_spot (g : Nat) (p c : Int) (w : World) (hB : Blk w g #[.int .i64 p, .int .i64 c] 69) :
  Calls Tryd.prog 44 #[.iface 67 (.pointer (some ⟨g, 0, none⟩)), .iface 35 (.int .i64 c)] w fun e w' => e = .returned (.bool true) ∧ w' = w := by
 have h8 := @run_callFunc_extern Tryd.prog 63 _ Extern.ReflectliteType.typeOf Tryd.func63 (by kernel_rfl) (by kernel_rfl) (by kernel_rfl) (by kernel_rfl)
 have h32 := callComparable
 have tT := typeOfC
 have mR := isMethodComparable
 have nE := noIsT
 have uW := hasUnwrapT
 have mU := methodUnwrap
 have hc : w.cell? ⟨g, 1, none⟩ = some (.int .i64 c) := by rw [hB.cell]; rfl
 have hty := run_eql_iface_types (P := Tryd.prog) 67 35 (.pointer (some ⟨g, 0, none⟩)) (.int .i64 c) Tryd.underlying30 (by decide) w
 have heq := eql_err w c c
 rw [beq_self_eq_true] at heq
 go_enter Tryd.func44, Tryd.ntmps44
 go_wp2
 refine wp_loop_rounds 2 ?_
 rw [rounds_succ]
 go_wp2
 rw [rounds_succ]
 go_wp2
 go_ret
 exact ⟨rfl, rfl⟩
section
variable {ι : Type} {ops : Array Oper} {N : Nat} {S : ι → Act → World → Prop} {R : World → World → Prop} {x y : ι} {o : Oper} {e e' : Env} {w : World}
def eqpAt (ops : Array Oper) (N : Nat) (e : Env) (o : Oper) : Option (Bool × TypeId × Value × Value × Option Tmp) :=
 bif onB ops N e o then
  match o.op with
  | .binOp .neq t z u _ => (match ev e z, ev e u with | .iface a b, .iface c d => some (true, t, .iface a b, .iface c d, o.dst) | _, _ => none)
  | .binOp .eql t z u _ => (match ev e z, ev e u with | .iface a b, .iface c d => some (false, t, .iface a b, .iface c d, o.dst) | _, _ => none)
  | _ => none
 else none
theorem WO.eqp (hT : TkF Tryd.prog ops S x o y) (d : Nat) (ng : Bool) {t : TypeId} {a b : Value} {r : Bool} (h : eqpAt ops N e o = some (ng, t, a, b, some d)) (hr : ∀ w, (binOp .eql t a b).run Tryd.prog w = .ok (.bool r) w) (kk : WO S N y ((d, .bool (if ng then !r else r)) :: e) w) : WO S N x e w := by
 unfold eqpAt at h
 cases ho : onB ops N e o with
 | false => rw [ho] at h; cases h
 | true =>
  rw [ho] at h
  simp only [cond_true] at h
  have key : ∀ (a b c d : _), (∀ w, (binOp .eql t (.iface a b) (.iface c d)).run Tryd.prog w = .ok (.bool r) w) → ∀ w, (Op.equal t (.iface a b) (.iface c d)).run Tryd.prog w = .ok r w := fun a b c d h w => by
   have := h w
   simp only [binOp, Sem.run_bind] at this
   cases he : (Op.equal t (.iface a b) (.iface c d)).run Tryd.prog w with
   | ok v w' =>
    rw [he] at this
    simp only [Result.andThen_ok, Sem.run_pure, Result.ok.injEq, Value.bool.injEq] at this
    rw [this.1, this.2]
   | halt z w' =>
    rw [he] at this
    cases this
  split at h
  ·
   rename_i t' z u yt hop
   split at h
   ·
    rename_i p q p' q' hz hu
    simp only [Option.some.injEq, Prod.mk.injEq] at h
    obtain ⟨rfl, rfl, rfl, rfl, hd⟩ := h
    refine WO.valF hT ho (v := .bool !r) (fun w' => ?_) (by rw [hd]; exact kk)
    unfold execOp
    simp [hop, hz, hu, eqGuard, binOp, key _ _ _ _ hr w']
   ·
    cases h
  ·
   rename_i t' z u yt hop
   split at h
   ·
    rename_i p q p' q' hz hu
    simp only [Option.some.injEq, Prod.mk.injEq] at h
    obtain ⟨rfl, rfl, rfl, rfl, hd⟩ := h
    refine WO.valF hT ho (v := .bool r) (fun w' => ?_) (by rw [hd]; exact kk)
    unfold execOp
    simp [hop, hz, hu, eqGuard, binOp, key _ _ _ _ hr w']
   ·
    cases h
  ·
   cases h
theorem spotT : ∃ i, Tryd.prog.info? 67 = some i ∧ i.comparable = true := by
 have h : (Tryd.prog.info? 67).map (fun i => i.comparable) = some true := by kernel_rfl
 obtain ⟨i, h1, h2⟩ := Option.map_eq_some_iff.1 h
 exact ⟨i, h1, h2⟩
theorem spotS : ∃ i, Tryd.prog.info? 69 = some i := by
 have h : (Tryd.prog.info? 69).map (fun i => i.size) = some 2 := by kernel_rfl
 obtain ⟨i, h1, h2⟩ := Option.map_eq_some_iff.1 h
 exact ⟨i, h1⟩
theorem eql_spot (a : Addr) (w : World) : (binOp .eql 30 (.iface 67 (.pointer (some a))) (.iface 67 (.pointer (some a)))).run Tryd.prog w = .ok (.bool true) w := by
 obtain ⟨i, hi, hcmp⟩ := spotT
 obtain ⟨j, hj⟩ := spotS
 exact run_eql_iface_ptr_same (P := Tryd.prog) w a Tryd.underlying30 Tryd.underlying67 hi hcmp hj
theorem WO.neqS (hT : TkF Tryd.prog ops S x o y) (d : Nat) {p : Addr} (h : eqpAt ops N e o = some (true, 30, .iface 67 (.pointer (some p)), .iface 67 (.pointer (some p)), some d)) (kk : WO S N y ((d, .bool false) :: e) w) : WO S N x e w :=
 WO.eqp hT d true h (eql_spot p) kk
end
set_option maxRecDepth 100000 in
set_option maxHeartbeats 400000 in
theorem law_is (g : Nat) (p a c : Int) (w : World) (HB : Blk w g #[.int .i64 p, .int .i64 c] 69) (HE : ErrT w) :
  Calls Tryd.prog 22 #[.iface 67 (.pointer (some ⟨g, 0, none⟩)), .int .i64 a, .int .i64 c] w fun e w' => e = .returned (.bool (decide (p = a))) ∧ Blk w' g #[.int .i64 p, .int .i64 c] 69 ∧ Fr [] w w' := by
 have HA := Fr.refl [] w
 refine enter (N := 46) Tryd.func22 (c := _) rfl (by kernel_rfl) (by kernel_rfl) (e := [(0, .iface 67 (.pointer (some ⟨g, 0, none⟩))), (1, .int .i64 a), (2, .int .i64 c)]) (by kernel_rfl) ?_
 refine WE.seq ?_
 refine WE.region ?_
 refine WO.run 1 0 [(6, .bool false)] (by kernel_rfl) (by kernel_rfl) ?_
 refine WO.done (by kernel_rfl) ?_
 refine WQ.keep [0, 1, 2, 6] (e' := [(0, .iface 67 (.pointer (some ⟨g, 0, none⟩))), (1, .int .i64 a), (2, .int .i64 c), (6, .bool false)]) (by kernel_rfl) ?_
 refine WQ.thenN ?_
 refine WE.seq ?_
 refine WE.region ?_
 refine WO.bx (SQ.E 0 (by kernel_rfl)) 7 #[.pointer none] 67 (fun g => .pointer (some ⟨g, 0, none⟩)) (by kernel_rfl) (fun _ _ => trivial) ?_
 intro g1 w2 HB4 F3 le5 _
 have ne_g_g1 : g ≠ g1 := Nat.ne_of_lt (Nat.lt_of_lt_of_le HB.lt le5)
 have ne_0_g1 : 0 ≠ g1 := Nat.ne_of_lt (Nat.lt_of_lt_of_le HE.lt le5)
 have ge_HA_g1 := Nat.le_trans HA.size le5
 have HB := Blk.keep HB F3 (nin0 _)
 have HE := HE.keep F3 (nin0 _)
 have HA := Fr.step0 HA F3
 refine WO.done (by kernel_rfl) ?_
 refine WQ.keep [0, 1, 2, 6, 7] (e' := [(0, .iface 67 (.pointer (some ⟨g, 0, none⟩))), (1, .int .i64 a), (2, .int .i64 c), (6, .bool false), (7, .pointer (some ⟨g1, 0, none⟩))]) (by kernel_rfl) ?_
 refine WQ.thenN ?_
 refine WE.seq ?_
 refine WE.region ?_
 refine WO.run 2 0 [(11, .iface 74 (.pointer (some ⟨g1, 0, none⟩))), (10, .iface 67 (.pointer (some ⟨g, 0, none⟩)))] (by kernel_rfl) (by kernel_rfl) ?_
 refine WO.call (SQ.E 2 (by kernel_rfl)) 12 (by kernel_rfl) (as_spot ⟨g, 0, none⟩ g1 (.pointer none) _ HE HB4) ?_
 rintro _ w6 ⟨rfl, HB8, F7⟩
 refine ⟨_, rfl, trivial, ?_⟩
 have HB := Blk.keep HB F7 (ninC ne_g_g1 (nin0 _))
 have HE := HE.keep F7 (ninC ne_0_g1 (nin0 _))
 have HA := Fr.step HA F7 (inSR ge_HA_g1 inS0)
 refine WO.run 1 3 [(8, .bool true)] (by kernel_rfl) (by kernel_rfl) ?_
 refine WO.done (by kernel_rfl) ?_
 refine WQ.keep [0, 1, 2, 6, 7, 8] (e' := [(0, .iface 67 (.pointer (some ⟨g, 0, none⟩))), (1, .int .i64 a), (2, .int .i64 c), (6, .bool false), (7, .pointer (some ⟨g1, 0, none⟩)), (8, .bool true)]) (by kernel_rfl) ?_
 refine WQ.thenN ?_
 refine WE.seq ?_
 refine WE.seq ?_
 refine WE.region ?_
 refine WO.run 3 0 [(15, .bool false), (14, .bool false), (13, .bool true)] (by kernel_rfl) (by kernel_rfl) ?_
 refine WO.ld (SQ.S 3 (by kernel_rfl)) 16 (.pointer (some ⟨g, 0, none⟩)) (by kernel_rfl) (same (HB8.at 0 (by kernel_rfl))) ?_
 refine WO.run 4 4 [(20, .iface 67 (.pointer (some ⟨g, 0, none⟩))), (19, .bool false), (18, .bool false), (17, .bool false)] (by kernel_rfl) (by kernel_rfl) ?_
 refine WO.ld (SQ.S 8 (by kernel_rfl)) 21 (.pointer (some ⟨g, 0, none⟩)) (by kernel_rfl) (same (HB8.at 0 (by kernel_rfl))) ?_
 refine WO.run 1 9 [(22, .iface 67 (.pointer (some ⟨g, 0, none⟩)))] (by kernel_rfl) (by kernel_rfl) ?_
 refine WO.neqS (SQ.F 10 (by kernel_rfl)) 23 (p := ⟨g, 0, none⟩) (by kernel_rfl) ?_
 refine WO.run 1 11 [(24, .bool false)] (by kernel_rfl) (by kernel_rfl) ?_
 refine WO.done (by kernel_rfl) ?_
 refine WQ.keep [0, 1, 2, 6, 7, 8, 24] (e' := [(0, .iface 67 (.pointer (some ⟨g, 0, none⟩))), (1, .int .i64 a), (2, .int .i64 c), (6, .bool false), (7, .pointer (some ⟨g1, 0, none⟩)), (8, .bool true), (24, .bool false)]) (by kernel_rfl) ?_
 refine WQ.thenN ?_
 refine WE.condF (by kernel_rfl) ?_
 refine WE.skip ?_
 refine WQ.thenN ?_
 refine WE.seq ?_
 refine WE.region ?_
 refine WO.run 3 0 [(27, .iface 35 (.int .i64 c)), (26, .int .i64 c), (25, .iface 67 (.pointer (some ⟨g, 0, none⟩)))] (by kernel_rfl) (by kernel_rfl) ?_
 refine WO.call (SQ.E 3 (by kernel_rfl)) 28 (by kernel_rfl) (is_spot g p c _ HB) ?_
 rintro _ _ ⟨rfl, rfl⟩
 refine ⟨_, rfl, trivial, ?_⟩
 refine WO.run 1 4 [(9, .bool true)] (by kernel_rfl) (by kernel_rfl) ?_
 refine WO.done (by kernel_rfl) ?_
 refine WQ.keep [0, 1, 2, 6, 7, 8, 9, 24] (e' := [(0, .iface 67 (.pointer (some ⟨g, 0, none⟩))), (1, .int .i64 a), (2, .int .i64 c), (6, .bool false), (7, .pointer (some ⟨g1, 0, none⟩)), (8, .bool true), (9, .bool true), (24, .bool false)]) (by kernel_rfl) ?_
 refine WQ.thenN ?_
 refine WE.seq ?_
 refine WE.region ?_
 refine WO.run 2 0 [(30, .bool true), (29, .bool true)] (by kernel_rfl) (by kernel_rfl) ?_
 refine WO.ld (SQ.S 2 (by kernel_rfl)) 31 (.pointer (some ⟨g, 0, none⟩)) (by kernel_rfl) (same (HB8.at 0 (by kernel_rfl))) ?_
 refine WO.run 2 3 [(33, .pointer (some ⟨g, 0, none⟩)), (32, .pointer (some ⟨g, 0, none⟩))] (by kernel_rfl) (by kernel_rfl) ?_
 refine WO.ld (SQ.S 5 (by kernel_rfl)) 34 (.int .i64 p) (by kernel_rfl) (same (HB.at 0 (by kernel_rfl))) ?_
 refine WO.run 1 6 [(35, .int .i64 a)] (by kernel_rfl) (by kernel_rfl) ?_
 refine WO.one (SQ.F 7 (by kernel_rfl)) 36 (.bool (decide ((p : Int) = a))) (by kernel_rfl) ?_
 refine WO.topP ((p : Int) = a) ?_ ?_
 ·
  intro h10
  refine WO.run 2 8 [(38, .bool true), (37, .bool true)] (by kernel_rfl) (by kernel_rfl) ?_
  refine WO.ld (SQ.S 10 (by kernel_rfl)) 39 (.pointer (some ⟨g, 0, none⟩)) (by kernel_rfl) (same (HB8.at 0 (by kernel_rfl))) ?_
  refine WO.run 2 11 [(41, .pointer (some ⟨g, 1, none⟩)), (40, .pointer (some ⟨g, 0, none⟩))] (by kernel_rfl) (by kernel_rfl) ?_
  refine WO.ld (SQ.S 13 (by kernel_rfl)) 42 (.int .i64 c) (by kernel_rfl) (same (HB.at 1 (by kernel_rfl))) ?_
  refine WO.run 4 14 [(6, .bool (decide ((c : Int) = c))), (45, .bool (decide ((c : Int) = c))), (44, .bool (decide ((c : Int) = c))), (43, .int .i64 c)] (by kernel_rfl) (by kernel_rfl) ?_
  refine WO.done (by kernel_rfl) ?_
  refine WQ.keep [0, 1, 2, 6, 7, 8, 9, 24] (e' := [(0, .iface 67 (.pointer (some ⟨g, 0, none⟩))), (1, .int .i64 a), (2, .int .i64 c), (6, .bool (decide ((c : Int) = c))), (7, .pointer (some ⟨g1, 0, none⟩)), (8, .bool true), (9, .bool true), (24, .bool false)]) (by kernel_rfl) ?_
  refine WQ.thenN ?_
  refine WE.ret ?_
  refine WQ.ret (v := .bool (decide ((c : Int) = c))) (by kernel_rfl) ?_
  exact ⟨by simp; omega, HB, HA⟩
 intro h10
 refine WO.run 10 8 [(6, .bool false), (45, .bool false), (44, undef), (43, undef), (42, undef), (41, undef), (40, undef), (39, undef), (38, .bool false), (37, .bool false)] (by kernel_rfl) (by kernel_rfl) ?_
 refine WO.done (by kernel_rfl) ?_
 refine WQ.keep [0, 1, 2, 6, 7, 8, 9, 24] (e' := [(0, .iface 67 (.pointer (some ⟨g, 0, none⟩))), (1, .int .i64 a), (2, .int .i64 c), (6, .bool false), (7, .pointer (some ⟨g1, 0, none⟩)), (8, .bool true), (9, .bool true), (24, .bool false)]) (by kernel_rfl) ?_
 refine WQ.thenN ?_
 refine WE.ret ?_
 refine WQ.ret (v := .bool false) (by kernel_rfl) ?_
 exact ⟨by simp; omega, HB, HA⟩
end Go.Proofs.YtdhonbahpcmmnaaDoor.Errs
