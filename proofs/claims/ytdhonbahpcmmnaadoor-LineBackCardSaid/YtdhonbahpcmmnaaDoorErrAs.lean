/- errors.As at a pointer to a pointer to a Spot, errors.Is at a Code, and nogginlaw00.Is, by their contracts (after the guide's worked examples Toyas and Sentry). -/
import Derived.Test.YtdhonbahpcmmnaaDoorEngB
import Derived.Test.YtdhonbahpcmmnaaDoorChecked
import Derived.WalkKit
import Derived.LaidEql
import Derived.Stop.Asserts
import Derived.RowKitTokens
set_option linter.unusedVariables false
set_option linter.unusedSimpArgs false
namespace Go.Proofs.YtdhonbahpcmmnaaDoor.Errs
open Go.RowKit Go.Extern.Stop Go.Stop Go.Extern Go.Proofs.YtdhonbahpcmmnaaDoor Go.Proofs.YtdhonbahpcmmnaaDoor.Eng
def ErrT (w : World) : Prop := w.cell? ⟨0, 0, none⟩ = some (.iface 114 (.agg #[.pointer (some ⟨7, 30, none⟩)]))
theorem ErrT.lt {w : World} (h : ErrT w) : 0 < w.heap.size := World.block_lt_of_cell? w _ h
theorem ErrT.keep {w w1 : World} {S : List Nat} (h : ErrT w) (k : Fr S w w1) (hn : 0 ∉ S) : ErrT w1 := by
 unfold ErrT
 rw [World.cell?_of_block (w := w) (w' := w1) (k.block _ h.lt hn)]
 exact h
theorem valueOfTT (t : Addr) (w : World) : (ReflectliteValue.unpack (.iface 74 (.pointer (some t)))).run Tryd.prog w
  = .ok (.agg #[.pointer (some ⟨7, 74, none⟩), .pointer (some ⟨w.heap.size, 0, none⟩), .int .u64 150]) (w.alloc (.cells #[.pointer (some t)] 74)) := by kernel_rfl
theorem typeTT (a : Addr) (w : World) : (ReflectliteValue.methodAny (ReflectliteValue.valueError "reflectlite.Value.Type" 0) (fun t _ _ _ => ReflectliteType.toType t) #[.agg #[.pointer (some ⟨7, 74, none⟩), .pointer (some a), .int .u64 150]]).run Tryd.prog w
  = .ok (.iface 114 (.agg #[.pointer (some ⟨7, 74, none⟩)])) w := by kernel_rfl
theorem methodKind (h : Value) (w : World) : (Go.method 306 114 (.agg #[h]) "Kind").run Tryd.prog w = .ok (138, h) w := by kernel_rfl
theorem kindTT (w : World) : ((ReflectliteType.abiMethod fun t => (fun a : Nat => Value.int IntKind.u8 (a : Int)) <$> Rtype.kind t) #[.pointer (some ⟨7, 74, none⟩)]).run Tryd.prog w = .ok (.int .u8 22) w := by kernel_rfl
theorem kindT (w : World) : ((ReflectliteType.abiMethod fun t => (fun a : Nat => Value.int IntKind.u8 (a : Int)) <$> Rtype.kind t) #[.pointer (some ⟨7, 67, none⟩)]).run Tryd.prog w = .ok (.int .u8 22) w := by kernel_rfl
theorem rlm (z : Sem Value) (f : TypeId → Addr → Nat → Nat → Sem Value) (v : Value) :
  ReflectliteValue.method z f #[v] = (do match ← ReflectliteValue.parts v with | none => z | some (t, a, fl) => f t a fl (fl % 32)) := rfl
theorem partsTT (a : Addr) (w : World) : (ReflectliteValue.parts (.agg #[.pointer (some ⟨7, 74, none⟩), .pointer (some a), .int .u64 150])).run Tryd.prog w = .ok (some (74, a, 150)) w := by kernel_rfl
theorem isNilTT (a p : Addr) (W : World) (ha : W.cell? a = some (.pointer (some p))) :
  (ReflectliteValue.method (ReflectliteValue.valueError "reflectlite.Value.IsNil" 0) ReflectliteValue.isNil #[.agg #[.pointer (some ⟨7, 74, none⟩), .pointer (some a), .int .u64 150]]).run Tryd.prog W = .ok (.bool false) W := by
 rw [rlm]
 simp only [Sem.run_bind, partsTT, Result.andThen]
 simp [ReflectliteValue.isNil, loadVar, isAgg, underlying, Tryd.underlying74, ha, Result.andThen]
theorem methodElem (h : Value) (w : World) : (Go.method 306 114 (.agg #[h]) "Elem").run Tryd.prog w = .ok (151, .agg #[h]) w := by kernel_rfl
theorem methodImplements (h : Value) (w : World) : (Go.method 306 114 (.agg #[h]) "Implements").run Tryd.prog w = .ok (152, .agg #[h]) w := by kernel_rfl
theorem methodAssignableTo (h : Value) (w : World) : (Go.method 306 114 (.agg #[h]) "AssignableTo").run Tryd.prog w = .ok (149, .agg #[h]) w := by kernel_rfl
theorem elemTT (w : World) : (ReflectliteType.method ReflectliteType.elem #[.agg #[.pointer (some ⟨7, 74, none⟩)]]).run Tryd.prog w = .ok (.iface 114 (.agg #[.pointer (some ⟨7, 67, none⟩)])) w := by kernel_rfl
theorem implementsT (w : World) : (ReflectliteType.relation "Implements" ReflectliteType.implements_ #[.agg #[.pointer (some ⟨7, 67, none⟩)], .iface 114 (.agg #[.pointer (some ⟨7, 30, none⟩)])]).run Tryd.prog w = .ok (.bool true) w := by kernel_rfl
theorem typeOfT (v : Value) (w : World) : (ReflectliteType.typeOf #[.iface 67 v]).run Tryd.prog w = .ok (.iface 114 (.agg #[.pointer (some ⟨7, 67, none⟩)])) w := by kernel_rfl
theorem typeOfC (v : Value) (w : World) : (ReflectliteType.typeOf #[.iface 35 v]).run Tryd.prog w = .ok (.iface 114 (.agg #[.pointer (some ⟨7, 35, none⟩)])) w := by kernel_rfl
theorem assignableT (w : World) : (ReflectliteType.relation "AssignableTo" ReflectliteType.assignableTo #[.agg #[.pointer (some ⟨7, 67, none⟩)], .iface 114 (.agg #[.pointer (some ⟨7, 67, none⟩)])]).run Tryd.prog w = .ok (.bool true) w := by kernel_rfl
theorem valueOfT (e : Addr) (w : World) : (ReflectliteValue.unpack (.iface 67 (.pointer (some e)))).run Tryd.prog w
  = .ok (.agg #[.pointer (some ⟨7, 67, none⟩), .pointer (some ⟨w.heap.size, 0, none⟩), .int .u64 150]) (w.alloc (.cells #[.pointer (some e)] 67)) := by kernel_rfl
theorem elemOfTT (w : World) : (Rtype.elem? 74).run Tryd.prog w = .ok (some 67) w := by kernel_rfl
theorem mkT (p : Addr) (w : World) : (ReflectliteValue.mk 67 p ReflectliteValue.flagAddr).run Tryd.prog w = .ok (.agg #[.pointer (some ⟨7, 67, none⟩), .pointer (some p), .int .u64 406]) w := by kernel_rfl
theorem elemVTT (a p : Addr) (W : World) (ha : W.cell? a = some (.pointer (some p))) :
  (ReflectliteValue.method (ReflectliteValue.valueError "reflectlite.Value.Elem" 0) ReflectliteValue.elem #[.agg #[.pointer (some ⟨7, 74, none⟩), .pointer (some a), .int .u64 150]]).run Tryd.prog W
   = .ok (.agg #[.pointer (some ⟨7, 67, none⟩), .pointer (some p), .int .u64 406]) W := by
 rw [rlm]
 simp only [Sem.run_bind, partsTT, Result.andThen]
 simp [ReflectliteValue.elem, loadVar, isAgg, underlying, Tryd.underlying74, ha, Result.andThen, elemOfTT, mkT]
theorem rls (v x : Value) : ReflectliteValue.set #[v, x] = (do
  let (some (dst, a, fl), some (src, b, _)) := (← ReflectliteValue.parts v, ← ReflectliteValue.parts x)
   | unsupported (.noEntry "extern/(internal/reflectlite.Value).Set.zeroValue")
  if fl / ReflectliteValue.flagAddr % 2 == 0 then unsupported (.noEntry "extern/(internal/reflectlite.Value).Set.unaddressable")
  let val ← loadVar src b
  if ← Rtype.directlyAssignable dst src then storeVar dst a val
  else if ← Rtype.implements dst src then
   if (← Rtype.kind src) == 20 then
    match val with
    | .nilIface => unsupported (.noEntry "extern/reflectlite: a nil value of one interface type handed on as a value of another")
    | _ => storeVar dst a val
   else storeVar dst a (.iface src val)
  else panicString ("reflectlite.Set: value of type " ++ (← Rtype.spelt src) ++ " is not assignable to type " ++ (← Rtype.spelt dst))
  pure (.tuple #[])) := rfl
theorem partsTa (a : Addr) (w : World) : (ReflectliteValue.parts (.agg #[.pointer (some ⟨7, 67, none⟩), .pointer (some a), .int .u64 406])).run Tryd.prog w = .ok (some (67, a, 406)) w := by kernel_rfl
theorem partsT (a : Addr) (w : World) : (ReflectliteValue.parts (.agg #[.pointer (some ⟨7, 67, none⟩), .pointer (some a), .int .u64 150])).run Tryd.prog w = .ok (some (67, a, 150)) w := by kernel_rfl
theorem directT (w : World) : (Rtype.directlyAssignable 67 67).run Tryd.prog w = .ok true w := by kernel_rfl
theorem setT (ta b e : Addr) (old : Value) (W : World) (hb : W.cell? b = some (.pointer (some e))) (ht : W.cell? ta = some old) (hf : W.frozen? ta = false) :
  (ReflectliteValue.set #[.agg #[.pointer (some ⟨7, 67, none⟩), .pointer (some ta), .int .u64 406], .agg #[.pointer (some ⟨7, 67, none⟩), .pointer (some b), .int .u64 150]]).run Tryd.prog W
   = .ok (.tuple #[]) (W.setCell ta (.pointer (some e))) := by
 rw [rls]
 simp only [Sem.run_bind, partsTa, partsT, Result.andThen]
 simp [ReflectliteValue.flagAddr, loadVar, isAgg, underlying, Tryd.underlying67, hb, Result.andThen, directT, storeVar, Value.cells, storeCells, Addr.add]
 rw [run_store Tryd.prog W ta _ _ (by rfl)]
 simp [ht, hf]
set_option maxRecDepth 100000 in
set_option maxHeartbeats 4000000 in
theorem as_hit (e t : Addr) (old : Value) (w : World) (hg : w.cell? ⟨0, 0, none⟩ = some (.iface 114 (.agg #[.pointer (some ⟨7, 30, none⟩)]))) (ht0 : w.cell? t = some old) (hf0 : w.frozen? t = false) :
  Calls Tryd.prog 43 #[.iface 67 (.pointer (some e)), .iface 74 (.pointer (some t))] w fun ev w' => ev = .returned (.bool true) ∧ w' = ((((w.alloc (.cells #[.pointer (some t)] 74)).alloc (.cells #[.pointer (some ⟨7, 74, none⟩), .pointer (some ⟨w.heap.size, 0, none⟩), .int .u64 150] 93)).alloc (.cells #[.pointer (some ⟨7, 74, none⟩), .pointer (some ⟨w.heap.size, 0, none⟩), .int .u64 150] 93)).alloc (.cells #[.pointer (some e)] 67)).setCell t (.pointer (some e)) := by
 have h6 := @run_callFunc_extern Tryd.prog 59 _ (fun args => ReflectliteValue.unpack (args.getD 0 (.tuple #[]))) Tryd.func59 (by kernel_rfl) (by kernel_rfl) (by kernel_rfl) (by kernel_rfl)
 have h7 := @run_callFunc_extern Tryd.prog 60 _ (ReflectliteValue.methodAny (ReflectliteValue.valueError "reflectlite.Value.Type" 0) (fun t _ _ _ => ReflectliteType.toType t)) Tryd.func60 (by kernel_rfl) (by kernel_rfl) (by kernel_rfl) (by kernel_rfl)
 have h8 := @run_callFunc_extern Tryd.prog 61 _ (ReflectliteValue.method (ReflectliteValue.valueError "reflectlite.Value.IsNil" 0) ReflectliteValue.isNil) Tryd.func61 (by kernel_rfl) (by kernel_rfl) (by kernel_rfl) (by kernel_rfl)
 have h27 := @run_callFunc_extern Tryd.prog 138 _ (ReflectliteType.abiMethod fun t => do pure (.int .u8 (← Rtype.kind t))) Tryd.func138 (by kernel_rfl) (by kernel_rfl) (by kernel_rfl) (by kernel_rfl)
 have h37 := @run_callFunc_extern Tryd.prog 151 _ (ReflectliteType.method ReflectliteType.elem) Tryd.func151 (by kernel_rfl) (by kernel_rfl) (by kernel_rfl) (by kernel_rfl)
 have h38 := @run_callFunc_extern Tryd.prog 152 _ (ReflectliteType.relation "Implements" ReflectliteType.implements_) Tryd.func152 (by kernel_rfl) (by kernel_rfl) (by kernel_rfl) (by kernel_rfl)
 have h10 := @run_callFunc_extern Tryd.prog 63 _ ReflectliteType.typeOf Tryd.func63 (by kernel_rfl) (by kernel_rfl) (by kernel_rfl) (by kernel_rfl)
 have h35 := @run_callFunc_extern Tryd.prog 149 _ (ReflectliteType.relation "AssignableTo" ReflectliteType.assignableTo) Tryd.func149 (by kernel_rfl) (by kernel_rfl) (by kernel_rfl) (by kernel_rfl)
 have h11 := @run_callFunc_extern Tryd.prog 79 _ (ReflectliteValue.method (ReflectliteValue.valueError "reflectlite.Value.Elem" 0) ReflectliteValue.elem) Tryd.func79 (by kernel_rfl) (by kernel_rfl) (by kernel_rfl) (by kernel_rfl)
 have h12 := @run_callFunc_extern Tryd.prog 80 _ ReflectliteValue.set Tryd.func80 (by kernel_rfl) (by kernel_rfl) (by kernel_rfl) (by kernel_rfl)
 have tO := typeOfT
 have mA := methodAssignableTo
 have a25 := assignableT
 have v25 := valueOfT
 have f6 := valueOfTT
 have f7 := typeTT
 have mK := methodKind
 have mE := methodElem
 have mI := methodImplements
 have k27 := kindTT
 have k25 := kindT
 have e27 := elemTT
 have i25 := implementsT
 have n8 := isNilTT ⟨w.heap.size, 0, none⟩ t ((w.alloc (.cells #[.pointer (some t)] 74)).alloc (.cells #[.pointer (some ⟨7, 74, none⟩), .pointer (some ⟨w.heap.size, 0, none⟩), .int .u64 150] 93)) (by simp)
 have hlt : 0 < w.heap.size := World.block_lt_of_cell? w _ hg
 have hg2 : ((w.alloc (.cells #[.pointer (some t)] 74)).alloc (.cells #[.pointer (some ⟨7, 74, none⟩), .pointer (some ⟨w.heap.size, 0, none⟩), .int .u64 150] 93)).cell? ⟨0, 0, none⟩ = some (.iface 114 (.agg #[.pointer (some ⟨7, 30, none⟩)])) := by
  rw [World.cell?_alloc_lt _ _ ⟨0, 0, none⟩ (by first | (simp; done) | (simp; omega)), World.cell?_alloc_lt _ _ ⟨0, 0, none⟩ hlt]; exact hg
 have htl : t.block < w.heap.size := World.block_lt_of_cell? w _ ht0
 have el := elemVTT ⟨w.heap.size, 0, none⟩ t (((w.alloc (.cells #[.pointer (some t)] 74)).alloc (.cells #[.pointer (some ⟨7, 74, none⟩), .pointer (some ⟨w.heap.size, 0, none⟩), .int .u64 150] 93)).alloc (.cells #[.pointer (some ⟨7, 74, none⟩), .pointer (some ⟨w.heap.size, 0, none⟩), .int .u64 150] 93)) (by rw [World.cell?_alloc_lt _ _ ⟨w.heap.size, 0, none⟩ (by simp; omega)]; simp)
 have st := setT t ⟨w.heap.size + 1 + 1 + 1, 0, none⟩ e old ((((w.alloc (.cells #[.pointer (some t)] 74)).alloc (.cells #[.pointer (some ⟨7, 74, none⟩), .pointer (some ⟨w.heap.size, 0, none⟩), .int .u64 150] 93)).alloc (.cells #[.pointer (some ⟨7, 74, none⟩), .pointer (some ⟨w.heap.size, 0, none⟩), .int .u64 150] 93)).alloc (.cells #[.pointer (some e)] 67))
  (by rw [World.cell?_alloc_at _ _ _ _ (by simp)]; rfl)
  (by rw [World.cell?_alloc_lt _ _ t (by simp; omega), World.cell?_alloc_lt _ _ t (by simp; omega), World.cell?_alloc_lt _ _ t (by simp; omega), World.cell?_alloc_lt _ _ t htl]; exact ht0)
  (by rw [World.frozen?_alloc_old _ _ t (by simp; omega), World.frozen?_alloc_old _ _ t (by simp; omega), World.frozen?_alloc_old _ _ t (by simp; omega), World.frozen?_alloc_old _ _ t (Nat.ne_of_lt htl)]; exact hf0)
 go_enter Tryd.func43, Tryd.ntmps43
 go_wp2
 refine wp_loop_rounds 1 ?_
 rw [rounds_succ]
 go_wp2
 go_ret
 exact ⟨rfl, rfl⟩
theorem as_spot (e : Addr) (g : Nat) (old : Value) (w : World) (hg : ErrT w) (hB : Blk w g #[old] 67) :
  Calls Tryd.prog 43 #[.iface 67 (.pointer (some e)), .iface 74 (.pointer (some ⟨g, 0, none⟩))] w fun ev w' => ev = .returned (.bool true) ∧ Blk w' g #[.pointer (some e)] 67 ∧ Fr [g] w w' := by
 refine (as_hit e ⟨g, 0, none⟩ old w hg (by rw [hB.cell]; rfl) (hB.frozen 0)).mono fun ev w' h => ?_
 obtain ⟨rfl, rfl⟩ := h
 have hB4 := (((hB.alloc (.cells #[.pointer (some ⟨g, 0, none⟩)] 74)).alloc (.cells #[.pointer (some ⟨7, 74, none⟩), .pointer (some ⟨w.heap.size, 0, none⟩), .int .u64 150] 93)).alloc (.cells #[.pointer (some ⟨7, 74, none⟩), .pointer (some ⟨w.heap.size, 0, none⟩), .int .u64 150] 93)).alloc (.cells #[.pointer (some e)] 67)
 exact ⟨rfl, hB4.put 0 (.pointer (some e)) rfl, (((((Fr.refl [g] w).alloc _).alloc _).alloc _).alloc _).set (.inl (by simp)) 0 _⟩
end Go.Proofs.YtdhonbahpcmmnaaDoor.Errs
