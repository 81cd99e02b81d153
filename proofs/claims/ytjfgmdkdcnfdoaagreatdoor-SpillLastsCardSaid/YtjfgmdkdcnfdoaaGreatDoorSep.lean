/- Maps with whole numbers as keys and pointers as elements, as lists of (key, block) by rising keys. Words for the walks. -/
import Derived.Test.YtjfgmdkdcnfdoaaGreatDoorConst
import Derived.Maps.OwnSet
import Derived.Maps.Range
import Derived.Test.YtjfgmdkdcnfdoaaGreatDoorEng
section
set_option linter.unusedVariables false
set_option linter.unusedSimpArgs false
namespace Go.Proofs.YtjfgmdkdcnfdoaaGreatDoor.Eng
open Go Go.RowKit Go.Maps Go.Proofs.YtjfgmdkdcnfdoaaGreatDoor
def ptrR (v : Value) : Option (DataW Nat × List MemPlace) :=
 match v with
 | .pointer none => some (.nil, [])
 | .pointer (some ⟨b, 0, none⟩) => some (.held b, [])
 | _ => none
theorem ptrR_mk (b : Nat) : ptrR (.pointer (some ⟨b, 0, none⟩)) = some (.held b, []) := rfl
theorem ptrR_held {v : Value} {b : Nat} {ps : List MemPlace} (h : ptrR v = some (.held b, ps)) : v = .pointer (some ⟨b, 0, none⟩) := by
 unfold ptrR at h
 split at h
 ·
  simp at h
 ·
  rename_i b'
  simp only [Option.some.injEq, Prod.mk.injEq, DataW.held.injEq] at h
  rw [h.1]
 ·
  cases h
theorem ptrR_nil {v : Value} {ps : List MemPlace} (h : ptrR v = some (.nil, ps)) : v = .pointer none := by
 unfold ptrR at h
 split at h
 ·
  rfl
 ·
  simp at h
 ·
  cases h
def Dm (es : List (Int × Nat)) : DataW Nat := .map (es.map fun e => (.int .i64 e.1, .held e.2))
def MapI (P : Program) (k : TypeId) (w : World) (m : Nat) (es : List (Int × Nat)) : Prop := w.ownsMap P k ptrR m es.length (Dm es)
theorem own_tight {P : Program} {k : TypeId} {w : World} {m n : Nat} {es : List (Int × Nat)} (h : w.ownsMap P k ptrR m n (Dm es)) : MapI P k w m es := by
 obtain ⟨cs, clock, hb, F, hs, hD⟩ := h
 refine ⟨cs, clock, hb, F, ?_, hD⟩
 unfold Dm at hD
 simp only [DataW.map.injEq] at hD
 have := congrArg List.length hD
 rw [List.length_map, length_read] at this
 omega
def insE (x : Int × Nat) : List (Int × Nat) → List (Int × Nat)
 | [] => [x]
 | y :: r => if x.1 < y.1 then x :: y :: r else y :: insE x r
theorem insert_Dm (x : Int × Nat) : ∀ es : List (Int × Nat), DataW.insert ((.int .i64 x.1 : Lit), (.held x.2 : DataW Nat)) (es.map fun e => (.int .i64 e.1, .held e.2)) = (insE x es).map fun e => (.int .i64 e.1, .held e.2)
 | [] => rfl
 | y :: r => by
  simp only [List.map_cons, DataW.insert, insE, Lit.before, decide_eq_true_eq]
  split
  ·
   rfl
  ·
   rw [List.map_cons, insert_Dm x r]
theorem has_Dm (es : List (Int × Nat)) (k : Int) : Maps.has (Dm es) (.int .i64 k) = es.any (fun e => decide (e.1 = k)) := by
 unfold Dm Maps.has
 simp [List.any_map, Function.comp_def, Lit.sameKey]
theorem filter_Dm (es : List (Int × Nat)) (k : Int) : ((es.map fun e => ((.int .i64 e.1 : Lit), (.held e.2 : DataW Nat))).filter fun p => !p.1.sameKey (.int .i64 k)) = (es.filter fun e => !decide (e.1 = k)).map fun e => (.int .i64 e.1, .held e.2) := by
 rw [List.filter_map]
 congr 1
 simp [Function.comp_def, Lit.sameKey]
theorem del_Dm (es : List (Int × Nat)) (k : Int) : (Dm es).del (.int .i64 k) = Dm (es.filter fun e => !decide (e.1 = k)) := by
 unfold Dm DataW.del
 simp only
 rw [filter_Dm]
theorem put_Dm (es : List (Int × Nat)) (x : Int × Nat) (h : es.any (fun e => decide (e.1 = x.1)) = false) : (Dm es).put (.int .i64 x.1) (.held x.2) = Dm (insE x es) := by
 unfold Dm DataW.put
 simp only
 rw [filter_Dm, List.filter_eq_self.2 (fun e he => ?_), insert_Dm]
 have := List.any_eq_false.1 h e he
 simpa using this
theorem at_Dm (es : List (Int × Nat)) (k : Int) (z : DataW Nat) : (Dm es).atKey (.int .i64 k) z = match es.find? (fun e => decide (e.1 = k)) with | some e => .held e.2 | none => z := by
 unfold Dm DataW.atKey
 simp only [List.find?_map, Function.comp_def, Lit.sameKey, true_and]
 cases es.find? fun e => decide (e.1 = k) <;> rfl
section
variable {P : Program} {k : TypeId} {w w1 : World} {m : Nat} {es : List (Int × Nat)} {S : List Nat}
theorem MapI.lt (h : MapI P k w m es) : m < w.heap.size := World.ownsMap.lt h
theorem MapI.keep (h : MapI P k w m es) (f : Fr S w w1) (hn : m ∉ S) : MapI P k w1 m es := by
 obtain ⟨cs, clock, hb, F, hs, hD⟩ := h
 exact ⟨cs, clock, (f.block m (Array.getElem?_eq_some_iff.1 hb).1 hn).trans hb, F, hs, hD⟩
theorem MapI.made (w : World) : MapI P k (w.alloc (.map #[] 0)) w.heap.size [] := World.ownsMap_made w P k ptrR
structure MT (P : Program) (t k e : TypeId) : Prop where
 t : P.underlying t = some (.map k e)
 k : P.underlying k = some (.int .i64)
 z : ∀ w, (zeroValue e).run P w = .ok (.pointer none) w
end
theorem Fr.of_turned {w w1 : World} {m : Nat} (h : w.grownBy w1 (some m)) : Fr [m] w w1 := Fr.of_grown h (fun j hj => .inl (by simp only [Option.some.injEq] at hj; simp [hj]))
section
variable {P : Program} {ι : Type} {ops : Array Oper} {N : Nat} {S : ι → Act → World → Prop} {R : World → World → Prop} {x y : ι} {o : Oper} {e e' : Env} {w : World}
variable {t k el : TypeId} {m : Nat} {es : List (Int × Nat)}
def lkAt (ops : Array Oper) (N : Nat) (e : Env) (o : Oper) : Option (TypeId × Value × Int × Bool × Option Tmp) :=
 bif onB ops N e o then
  match o.op with
  | .lookup t z u c => (match ev e u with | .int .i64 j => some (t, ev e z, j, c, o.dst) | _ => none)
  | _ => none
 else none
theorem lkAt_spec {v : Value} {j : Int} {c : Bool} {d : Option Tmp} (h : lkAt ops N e o = some (t, v, j, c, d)) : ∃ z u, onB ops N e o = true ∧ o.op = .lookup t z u c ∧ ev e z = v ∧ ev e u = .int .i64 j ∧ o.dst = d := by
 unfold lkAt at h
 cases ho : onB ops N e o with
 | false => rw [ho] at h; cases h
 | true =>
  rw [ho] at h
  simp only [cond_true] at h
  split at h
  ·
   rename_i t' z u c' hop
   split at h
   ·
    rename_i j' hu
    simp only [Option.some.injEq, Prod.mk.injEq] at h
    obtain ⟨rfl, rfl, rfl, rfl, hd⟩ := h
    exact ⟨z, u, rfl, hop, rfl, hu, hd⟩
   ·
    cases h
  ·
   cases h
def lkV (es : List (Int × Nat)) (j : Int) : Value := match es.find? (fun e => decide (e.1 = j)) with | some e => .pointer (some ⟨e.2, 0, none⟩) | none => .pointer none
theorem run_lk (M : MT P t k el) {w : World} (h : MapI P k w m es) {j : Int} (hj : -9223372036854775808 ≤ j ∧ j ≤ 9223372036854775807) (c : Bool) :
  (Instr.lookup t (.map (some m)) (.int .i64 j) c).run P w = .ok (if c then .tuple #[lkV es j, .bool (es.any fun e => decide (e.1 = j))] else lkV es j) w := by
 have hw : (Lit.int .i64 j).wf = true := by
  have : IntKind.i64.min = -9223372036854775808 := by decide
  have : IntKind.i64.max = 9223372036854775807 := by decide
  simp [Lit.wf]
  omega
 have hv : ∀ v ps, ptrR v = some ((Dm es).atKey (.int .i64 j) .nil, ps) → v = lkV es j := by
  intro v ps hv
  rw [at_Dm] at hv
  unfold lkV
  cases hf : es.find? (fun e => decide (e.1 = j)) with
  | some x => rw [hf] at hv; exact ptrR_held hv
  | none => rw [hf] at hv; exact ptrR_nil hv
 cases c
 ·
  obtain ⟨v, ps, h1, h2⟩ := World.ownsMap.lookup h (int_keyed M.k) M.t (M.z w) (zd := .nil) (zp := []) rfl (keyOf_int_mk M.k hw)
  rw [h1, hv v ps h2]
  rfl
 ·
  obtain ⟨v, ps, h1, h2⟩ := World.ownsMap.look_ok h (int_keyed M.k) M.t (M.z w) (zd := .nil) (zp := []) rfl (keyOf_int_mk M.k hw)
  rw [h1, hv v ps h2, has_Dm]
  rfl
theorem WO.lkOk (hT : TkS P ops R S x o y) (d : Nat) (M : MT P t k el) {j : Int} (h : lkAt ops N e o = some (t, .map (some m), j, true, some d)) (hm : ∀ w', R w w' → MapI P k w' m es) (hj : -9223372036854775808 ≤ j ∧ j ≤ 9223372036854775807)
  (kk : WO S N y ((d, .tuple #[lkV es j, .bool (es.any fun e => decide (e.1 = j))]) :: e) w) : WO S N x e w := by
 obtain ⟨z, u, ho, hop, hz, hu, hd⟩ := lkAt_spec h
 refine WO.val hT ho (v := .tuple #[lkV es j, .bool (es.any fun e => decide (e.1 = j))]) (fun w' hR => ?_) (by rw [hd]; exact kk)
 unfold execOp
 simp only [hop, hz, hu, Sem.run_bind, run_lk M (hm w' hR) hj true, Result.andThen_ok, Sem.run_pure, if_true]
theorem WO.lk1 (hT : TkS P ops R S x o y) (d : Nat) (M : MT P t k el) {j : Int} (h : lkAt ops N e o = some (t, .map (some m), j, false, some d)) (hm : ∀ w', R w w' → MapI P k w' m es) (hj : -9223372036854775808 ≤ j ∧ j ≤ 9223372036854775807)
  (kk : WO S N y ((d, lkV es j) :: e) w) : WO S N x e w := by
 obtain ⟨z, u, ho, hop, hz, hu, hd⟩ := lkAt_spec h
 refine WO.val hT ho (v := lkV es j) (fun w' hR => ?_) (by rw [hd]; exact kk)
 unfold execOp
 simp only [hop, hz, hu, Sem.run_bind, run_lk M (hm w' hR) hj false, Result.andThen_ok, Sem.run_pure, Bool.false_eq_true, if_false]
def upAt (ops : Array Oper) (N : Nat) (e : Env) (o : Oper) : Option (TypeId × Value × Int × Value × Option Tmp) :=
 bif onB ops N e o then
  match o.op with
  | .mapUpdate t z u v => (match ev e u with | .int .i64 j => some (t, ev e z, j, ev e v, o.dst) | _ => none)
  | _ => none
 else none
theorem WO.up (hT : TkE P ops R S x o y) (M : MT P t k el) {j : Int} {b : Nat} (h : upAt ops N e o = some (t, .map (some m), j, .pointer (some ⟨b, 0, none⟩), none)) (hm : MapI P k w m es) (hj : -9223372036854775808 ≤ j ∧ j ≤ 9223372036854775807)
  (hno : es.any (fun e => decide (e.1 = j)) = false) (hl : es.length ≤ 1000000) (hR : ∀ w', Fr [m] w w' → R w w') (kk : ∀ w', MapI P k w' m (insE (j, b) es) → Fr [m] w w' → WO S N y e w') : WO S N x e w := by
 unfold upAt at h
 cases ho : onB ops N e o with
 | false => rw [ho] at h; cases h
 | true =>
  rw [ho] at h
  simp only [cond_true] at h
  split at h
  ·
   rename_i t' z u v hop
   split at h
   ·
    rename_i j' hu
    simp only [Option.some.injEq, Prod.mk.injEq] at h
    obtain ⟨rfl, hz, rfl, hv, hd⟩ := h
    have hw : (Lit.int .i64 j').wf = true := by
     have : IntKind.i64.min = -9223372036854775808 := by decide
     have : IntKind.i64.max = 9223372036854775807 := by decide
     simp [Lit.wf]
     omega
    obtain ⟨w', h1, h2, h3⟩ := World.ownsMap.update hm (int_keyed M.k) M.t (by unfold maxLen; omega) (keyOf_int_mk M.k hw) (ptrR_mk b)
    rw [put_Dm es (j', b) hno] at h2
    have hF := Fr.of_turned h3
    refine WO.on hT ho fun a ha h4 h5 _ Q => ?_
    have hrun : (execOp (ev e) o).run P w = .ok .skip w' := by
     unfold execOp
     simp only [hop, hz, hu, hv, Sem.run_bind, h1, Result.andThen_ok, Sem.run_pure]
    simp only [Oper.wp, h4, hrun, Oper.upon]
    have hp := ha.put o.dst undef h5
    rw [hd] at hp ⊢
    exact ⟨hR _ hF, kk w' (own_tight h2) hF _ hp⟩
   ·
    cases h
  ·
   cases h
def dlAt (ops : Array Oper) (N : Nat) (e : Env) (o : Oper) : Option (TypeId × TypeId × Value × Int × Option Tmp) :=
 bif onB ops N e o then
  match o.op with
  | .call { callee := .builtin .delete, args := ⟨[z, u]⟩, argTypes := ⟨[t, k]⟩ } => (match ev e u with | .int .i64 j => some (t, k, ev e z, j, o.dst) | _ => none)
  | _ => none
 else none
theorem WO.dl (hT : TkE P ops R S x o y) (M : MT P t k el) {j : Int} {dd : Option Tmp} (h : dlAt ops N e o = some (t, k, .map (some m), j, dd)) (hm : MapI P k w m es) (hj : -9223372036854775808 ≤ j ∧ j ≤ 9223372036854775807)
  (hR : ∀ w', Fr [m] w w' → R w w') (kk : ∀ w', MapI P k w' m (es.filter fun e => !decide (e.1 = j)) → Fr [m] w w' → WO S N y (putE e dd (.tuple #[])) w') : WO S N x e w := by
 unfold dlAt at h
 cases ho : onB ops N e o with
 | false => rw [ho] at h; cases h
 | true =>
  rw [ho] at h
  simp only [cond_true] at h
  split at h
  ·
   rename_i z u t' k' hop
   split at h
   ·
    rename_i j' hu
    simp only [Option.some.injEq, Prod.mk.injEq] at h
    obtain ⟨rfl, rfl, hz, rfl, hd⟩ := h
    have hw : (Lit.int .i64 j').wf = true := by
     have : IntKind.i64.min = -9223372036854775808 := by decide
     have : IntKind.i64.max = 9223372036854775807 := by decide
     simp [Lit.wf]
     omega
    obtain ⟨w', h1, h2, h3⟩ := World.ownsMap.drop hm (int_keyed M.k) M.t (keyOf_int_mk M.k hw) o.type
    rw [del_Dm] at h2
    have hF := Fr.of_turned h3.grown
    refine WO.on hT ho fun a ha h4 h5 _ Q => ?_
    have hrun : (execOp (ev e) o).run P w = .ok (.value (.tuple #[])) w' := by
     unfold execOp
     simp only [hop, resolve, invoke, builtin, Sem.run_bind, Sem.run_pure, Result.andThen_ok, List.map_toArray, List.map_cons, List.map_nil, hz, hu, h1]
    simp only [Oper.wp, h4, hrun, Oper.upon]
    have hp := ha.put o.dst (.tuple #[]) h5
    rw [hd] at hp ⊢
    exact ⟨hR _ hF, kk w' (own_tight h2) hF _ hp⟩
   ·
    cases h
  ·
   cases h
def mmAt (ops : Array Oper) (N : Nat) (e : Env) (o : Oper) : Option (Option Tmp) :=
 bif onB ops N e o then
  match o.op with
  | .makeMap _ none => some o.dst
  | _ => none
 else none
theorem WO.mm (hT : TkE P ops R S x o y) (d : Nat) (k : TypeId) (h : mmAt ops N e o = some (some d)) (hR : ∀ w', Fr [] w w' → R w w') (kk : ∀ g w', MapI P k w' g [] → Fr [] w w' → w.heap.size ≤ g → g < w'.heap.size → WO S N y ((d, .map (some g)) :: e) w') : WO S N x e w := by
 unfold mmAt at h
 cases ho : onB ops N e o with
 | false => rw [ho] at h; cases h
 | true =>
  rw [ho] at h
  simp only [cond_true] at h
  split at h
  ·
   rename_i t hop
   simp only [Option.some.injEq] at h
   refine WO.on hT ho fun a ha h4 h5 _ Q => ?_
   have hrun : (execOp (ev e) o).run P w = .ok (.value (.map (some w.heap.size))) (w.alloc (.map #[] 0)) := by
    unfold execOp
    simp [hop, Instr.makeMap, newObj, Sem.run, World.alloc, -World.alloc_eq]
   simp only [Oper.wp, h4, hrun, Oper.upon]
   have hF := (Fr.refl [] w).alloc (.map #[] 0)
   have hp := ha.put o.dst (.map (some w.heap.size)) h5
   rw [h] at hp ⊢
   exact ⟨hR _ hF, kk _ _ (MapI.made w) hF (Nat.le_refl _) (by rw [size_alloc]; omega) _ hp⟩
  ·
   cases h
def Rng (P : Program) (k : TypeId) (w : World) (m r : Nat) (es td : List (Int × Nat)) : Prop :=
 ∃ left cnt, w.ranges P k ptrR m r es.length (Dm es) left cnt ∧ td = es.filter fun e => left (.int .i64 e.1)
theorem Rng.keep {w1 : World} {r : Nat} {td : List (Int × Nat)} {F : List Nat} (h : Rng P k w m r es td) (f : Fr F w w1) (h1 : m ∉ F) (h2 : r ∉ F) : Rng P k w1 m r es td := by
 obtain ⟨left, cnt, h3, h4⟩ := h
 have l1 := h3.owns.lt
 have l2 := h3.lt
 refine ⟨left, cnt, ?_, h4⟩
 obtain ⟨cs, clock, since, seen, c0, hb, Ft, hs, hD, hr, rest⟩ := h3
 exact ⟨cs, clock, since, seen, c0, (f.block m l1 h1).trans hb, Ft, hs, hD, (f.block r l2 h2).trans hr, rest⟩
theorem Rng.owns {r : Nat} {td : List (Int × Nat)} (h : Rng P k w m r es td) : MapI P k w m es := by
 obtain ⟨left, cnt, h3, _⟩ := h
 exact h3.owns
def rgAt (ops : Array Oper) (N : Nat) (e : Env) (o : Oper) : Option (TypeId × Value × Option Tmp) :=
 bif onB ops N e o then
  match o.op with
  | .range t z => some (t, ev e z, o.dst)
  | _ => none
 else none
theorem WO.rg (hT : TkE P ops R S x o y) (d : Nat) (M : MT P t k el) (h : rgAt ops N e o = some (t, .map (some m), some d)) (hm : MapI P k w m es) (hR : ∀ w', Fr [] w w' → R w w')
  (kk : ∀ r w', Rng P k w' m r es es → Fr [] w w' → w.heap.size ≤ r → r < w'.heap.size → WO S N y ((d, .pointer (some ⟨r, 0, none⟩)) :: e) w') : WO S N x e w := by
 unfold rgAt at h
 cases ho : onB ops N e o with
 | false => rw [ho] at h; cases h
 | true =>
  rw [ho] at h
  simp only [cond_true] at h
  split at h
  ·
   rename_i t' z hop
   simp only [Option.some.injEq, Prod.mk.injEq] at h
   obtain ⟨rfl, hz, hd⟩ := h
   obtain ⟨w', h1, h2, h3, h4⟩ := World.ownsMap.range hm (int_keyed M.k) M.t
   have hF : Fr [] w w' := Fr.of_grown h3 (fun j hj => by cases hj)
   refine WO.on hT ho fun a ha h5 h6 _ Q => ?_
   have hrun : (execOp (ev e) o).run P w = .ok (.value (.pointer (some ⟨w.heap.size, 0, none⟩))) w' := by
    unfold execOp
    simp only [hop, hz, Sem.run_bind, h1, Result.andThen_ok, Sem.run_pure]
   simp only [Oper.wp, h5, hrun, Oper.upon]
   have hp := ha.put o.dst (.pointer (some ⟨w.heap.size, 0, none⟩)) h6
   rw [hd] at hp ⊢
   refine ⟨hR _ hF, kk _ _ ⟨_, _, h2, ?_⟩ hF (Nat.le_refl _) (by omega) _ hp⟩
   symm
   rw [List.filter_eq_self]
   intro e he
   rw [has_Dm]
   exact List.any_eq_true.2 ⟨e, he, by simp⟩
  ·
   cases h
def nxAt (ops : Array Oper) (N : Nat) (e : Env) (o : Oper) : Option (Value × Option Tmp) :=
 bif onB ops N e o then
  match o.op with
  | .next z false => some (ev e z, o.dst)
  | _ => none
 else none
def Ent (P : Program) (w : World) (r : Nat) (x : Int × Nat) : Prop := (Instr.entry (.pointer (some ⟨r, 0, none⟩))).run P w = .ok (.tuple #[.int .i64 x.1, .pointer (some ⟨x.2, 0, none⟩)]) w
theorem WO.nx (hT : TkE P ops R S x o y) (d : Nat) (M : MT P t k el) {r : Nat} {td : List (Int × Nat)} (hd2 : (es.map (·.1)).Nodup) (h : nxAt ops N e o = some (.pointer (some ⟨r, 0, none⟩), some d)) (hm : Rng P k w m r es td) (hR : ∀ w', Fr [r] w w' → R w w')
  (k0 : td = [] → WO S N y ((d, .tuple #[.bool false]) :: e) w)
  (kk : ∀ z w', z ∈ td → Rng P k w' m r es (td.filter fun e => !decide (e.1 = z.1)) → Ent P w' r z → Fr [r] w w' → w'.heap.size = w.heap.size → WO S N y ((d, .tuple #[.bool true, .int .i64 z.1, .pointer (some ⟨z.2, 0, none⟩)]) :: e) w') : WO S N x e w := by
 unfold nxAt at h
 cases ho : onB ops N e o with
 | false => rw [ho] at h; cases h
 | true =>
  rw [ho] at h
  simp only [cond_true] at h
  split at h
  ·
   rename_i z hop
   simp only [Option.some.injEq, Prod.mk.injEq] at h
   obtain ⟨hz, hd⟩ := h
   obtain ⟨left, cnt, h1, h2⟩ := hm
   rcases h1.next (int_keyed M.k) o.type with ⟨_, h3, h4⟩ | ⟨key, v, kl, yy, w', cnt', h3, h4, h5, h6, h7, h8, _, h9, h10, h11⟩
   ·
    refine WO.on hT ho fun a ha h5 h6 _ Q => ?_
    have hrun : (execOp (ev e) o).run P w = .ok (.value (.tuple #[.bool false])) w := by
     unfold execOp
     simp only [hop, hz, Sem.run_bind, h4, Result.andThen_ok, Sem.run_pure]
    simp only [Oper.wp, h5, hrun, Oper.upon]
    have hp := ha.put o.dst (.tuple #[.bool false]) h6
    rw [hd] at hp ⊢
    refine ⟨hR _ (Fr.refl [r] w), k0 ?_ _ hp⟩
    rw [h2]
    exact List.filter_eq_nil_iff.2 (fun e _ => by rw [h3]; simp)
   ·
    have hkl : ∃ j, key = .int .i64 j ∧ kl = .int .i64 j := by
     cases key <;> simp [keyOf, M.k, mapKey] at h3
     obtain ⟨⟨rfl, hw⟩, rfl⟩ := h3
     exact ⟨_, rfl, rfl⟩
    obtain ⟨j, rfl, rfl⟩ := hkl
    obtain ⟨q, hq, hqb⟩ : ∃ q, q ∈ es ∧ q.1 = j ∧ yy.1 = .held q.2 := by
     have h12 := h6 (.lit (.bool true))
     rw [at_Dm] at h12
     cases hf : es.find? (fun e => decide (e.1 = j)) with
     | none => rw [hf] at h12; have h13 := h6 (.lit (.bool false)); rw [at_Dm, hf] at h13; rw [← h12] at h13; simp at h13
     | some q => rw [hf] at h12; exact ⟨q, List.mem_of_find?_eq_some hf, by simpa using List.find?_some hf, h12.symm⟩
    have hv : v = .pointer (some ⟨q.2, 0, none⟩) := ptrR_held (ps := yy.2) (by rw [h5, ← hqb.2])
    subst hv
    obtain ⟨rfl, hqb⟩ := hqb
    have hF := Fr.of_turned h9
    refine WO.on hT ho fun a ha h12 h13 _ Q => ?_
    have hrun : (execOp (ev e) o).run P w = .ok (.value (.tuple #[.bool true, .int .i64 q.1, .pointer (some ⟨q.2, 0, none⟩)])) w' := by
     unfold execOp
     simp only [hop, hz, Sem.run_bind, h7, Result.andThen_ok, Sem.run_pure]
    simp only [Oper.wp, h12, hrun, Oper.upon]
    have hp := ha.put o.dst (.tuple #[.bool true, .int .i64 q.1, .pointer (some ⟨q.2, 0, none⟩)]) h13
    rw [hd] at hp ⊢
    refine ⟨hR _ hF, kk q w' ?_ ⟨_, _, h8, ?_⟩ h11 hF h10 _ hp⟩
    ·
     rw [h2]
     exact List.mem_filter.2 ⟨hq, h4⟩
    ·
     rw [h2, List.filter_filter]
     congr 1
     funext e
     simp [Lit.sameKey, Bool.and_comm]
  ·
   cases h
def enAt (ops : Array Oper) (N : Nat) (e : Env) (o : Oper) : Option (Value × Option Tmp) :=
 bif onB ops N e o then
  match o.op with
  | .entry z => some (ev e z, o.dst)
  | _ => none
 else none
theorem WO.en (hT : TkS P ops R S x o y) (d : Nat) {r : Nat} {z : Int × Nat} (h : enAt ops N e o = some (.pointer (some ⟨r, 0, none⟩), some d)) (hE : ∀ w', R w w' → Ent P w' r z) (kk : WO S N y ((d, .tuple #[.int .i64 z.1, .pointer (some ⟨z.2, 0, none⟩)]) :: e) w) : WO S N x e w := by
 unfold enAt at h
 cases ho : onB ops N e o with
 | false => rw [ho] at h; cases h
 | true =>
  rw [ho] at h
  simp only [cond_true] at h
  split at h
  ·
   rename_i u hop
   simp only [Option.some.injEq, Prod.mk.injEq] at h
   obtain ⟨hz, hd⟩ := h
   refine WO.val hT ho (v := .tuple #[.int .i64 z.1, .pointer (some ⟨z.2, 0, none⟩)]) (fun w' hR => ?_) (by rw [hd]; exact kk)
   have := hE w' hR
   unfold Ent at this
   unfold execOp
   simp only [hop, hz, Sem.run_bind, this, Result.andThen_ok, Sem.run_pure]
  ·
   cases h
end
end Go.Proofs.YtjfgmdkdcnfdoaaGreatDoor.Eng
end
section
set_option linter.unusedVariables false
namespace Go.Proofs.YtjfgmdkdcnfdoaaGreatDoor.Eng
open Go Go.Proofs.YtjfgmdkdcnfdoaaGreatDoor
section
variable {P : Program} {ops : Array Oper} {ms : List Md} {Q : Exit → Act → World → Prop} {N : Nat}
structure RT (R : World → World → Prop) : Prop where
 r : ∀ w, R w w
 t : ∀ w w1 w2, R w w1 → R w1 w2 → R w w2
def md (s r e : List Nat) (n : Nat) : List Md := (List.range n).map fun i => bif s.contains i then .still else bif r.contains i then .effR else bif e.contains i then .eff else .free
end
section
variable {P : Program} {ops : Array Oper} {Q : Exit → Act → World → Prop} {N : Nat} {e e' : Env} {w : World} {x y : Code}
end
theorem _root_.Go.Proofs.YtjfgmdkdcnfdoaaGreatDoor.Blk.s {w : World} {g : Nat} {cs : Array Value} {T : TypeId} (h : Blk w g cs T) (i : Nat) {v : Value} (hv : cs[i]? = some v := by kernel_rfl) : ∀ w', Same w w' → w'.cell? ⟨g, i, none⟩ = some v := same (h.at i hv)
theorem _root_.Go.Proofs.YtjfgmdkdcnfdoaaGreatDoor.Blk.k {w w1 : World} {g : Nat} {cs : Array Value} {t : TypeId} (h : Blk w g cs t) (k : Fr [] w w1) : Blk w1 g cs t := h.keep k (nin0 _)
theorem _root_.Go.Proofs.YtjfgmdkdcnfdoaaGreatDoor.Blk.j {w w1 : World} {g b : Nat} {cs : Array Value} {t : TypeId} (h : Blk w g cs t) (k : Fr [b] w w1) (n : g ≠ b) : Blk w1 g cs t := h.keep k (ninC n (nin0 _))
theorem _root_.Go.Proofs.YtjfgmdkdcnfdoaaGreatDoor.Eng.RowB.k {w w1 : World} {b : Nat} {T : TypeId} {size cap : Nat} {xs : List (List Value)} (h : RowB w b T size cap xs) (k : Fr [] w w1) : RowB w1 b T size cap xs := h.keep k (nin0 _)
abbrev Pt (g o : Nat) : Value := .pointer (some ⟨g, o, none⟩)
def stV (P : Program) (ops : Array Oper) (N : Nat) (e : Env) (o : Oper) : List Value :=
 match stAt P ops N e o with
 | some x => x.2.1
 | none => []
end Go.Proofs.YtjfgmdkdcnfdoaaGreatDoor.Eng
end
section
set_option linter.unusedVariables false
namespace Go.Proofs.YtjfgmdkdcnfdoaaGreatDoor.Eng.Sep
open Go Go.Proofs.YtjfgmdkdcnfdoaaGreatDoor Go.Proofs.YtjfgmdkdcnfdoaaGreatDoor.Eng
structure Res where
 P : List Nat → World → Prop
 lt : ∀ {F : List Nat} {w : World}, P F w → ∀ y ∈ F, y < w.heap.size
 keep : ∀ {F S : List Nat} {w w1 : World}, P F w → Fr S w w1 → (∀ y ∈ F, y ∉ S) → P F w1
 b : Option (Nat × Array Value × TypeId)
 hb : ∀ {x : Nat × Array Value × TypeId}, b = some x → ∀ {F : List Nat} {w : World}, P F w → Blk w x.1 x.2.1 x.2.2 ∧ F = [x.1]
abbrev RF := Res × List Nat
def Dj (a b : RF) : Prop := ∀ y ∈ a.2, y ∉ b.2
theorem Dj.symm {a b : RF} (h : Dj a b) : Dj b a := fun y hy hb => h y hb hy
def foot (xs : List RF) : List Nat := xs.flatMap (·.2)
theorem mem_foot {xs : List RF} {y : Nat} : y ∈ foot xs ↔ ∃ x ∈ xs, y ∈ x.2 := List.mem_flatMap
theorem foot_app {a b : List RF} {y : Nat} : y ∈ foot (a ++ b) ↔ y ∈ foot a ∨ y ∈ foot b := by
 unfold foot
 rw [List.flatMap_append, List.mem_append]
theorem foot_perm {a b : List RF} (h : a.Perm b) {y : Nat} : y ∈ foot a ↔ y ∈ foot b := by
 rw [mem_foot, mem_foot]
 exact ⟨fun ⟨x, hx, hy⟩ => ⟨x, h.mem_iff.1 hx, hy⟩, fun ⟨x, hx, hy⟩ => ⟨x, h.mem_iff.2 hx, hy⟩⟩
structure Up (w : World) (xs : List RF) : Prop where
 p : ∀ x ∈ xs, x.1.P x.2 w
 dj : xs.Pairwise Dj
theorem Up.nil (w : World) : Up w [] := ⟨fun _ h => (List.not_mem_nil h).elim, .nil⟩
theorem Up.perm {w : World} {xs ys : List RF} (h : Up w xs) (p : ys.Perm xs) : Up w ys := ⟨fun x hx => h.p x (p.mem_iff.1 hx), (p.pairwise_iff fun h => Dj.symm h).2 h.dj⟩
theorem Up.left {w : World} {a b : List RF} (h : Up w (a ++ b)) : Up w a := ⟨fun x hx => h.p x (List.mem_append_left _ hx), (List.pairwise_append.1 h.dj).1⟩
theorem Up.right {w : World} {a b : List RF} (h : Up w (a ++ b)) : Up w b := ⟨fun x hx => h.p x (List.mem_append_right _ hx), (List.pairwise_append.1 h.dj).2.1⟩
theorem Up.cross {w : World} {a b : List RF} (h : Up w (a ++ b)) : ∀ x ∈ a, ∀ y ∈ b, Dj x y := (List.pairwise_append.1 h.dj).2.2
theorem Up.lt {w : World} {a : List RF} (h : Up w a) : ∀ y ∈ foot a, y < w.heap.size := fun y hy => by
 obtain ⟨x, hx, hxy⟩ := mem_foot.1 hy
 exact x.1.lt (h.p x hx) y hxy
theorem Up.keep {w w1 : World} {S : List Nat} {a : List RF} (h : Up w a) (k : Fr S w w1) (hn : ∀ y ∈ foot a, y ∉ S) : Up w1 a :=
 ⟨fun x hx => x.1.keep (h.p x hx) k fun y hy => hn y (mem_foot.2 ⟨x, hx, hy⟩), h.dj⟩
theorem Up.frame {w w1 : World} {a b o : List RF} (h : Up w (a ++ b)) (ho : Up w1 o) (k : Fr (foot a) w w1) (hn : ∀ y ∈ foot o, y ∈ foot a ∨ w.heap.size ≤ y) : Up w1 (o ++ b) := by
 have hr := h.right.keep k fun y hy hf => by
  obtain ⟨x, hx, hxy⟩ := mem_foot.1 hy
  obtain ⟨z, hz, hyz⟩ := mem_foot.1 hf
  exact h.cross z hz x hx y hyz hxy
 refine ⟨fun x hx => (List.mem_append.1 hx).elim (ho.p x) (hr.p x), List.pairwise_append.2 ⟨ho.dj, hr.dj, fun x hx z hz y hy hyz => ?_⟩⟩
 rcases hn y (mem_foot.2 ⟨x, hx, hy⟩) with hf | hf
 ·
  obtain ⟨u, hu, hyu⟩ := mem_foot.1 hf
  exact h.cross u hu z hz y hyu hyz
 ·
  have := z.1.lt (h.right.p z hz) y hyz
  omega
def takeAt {α : Type} : List α → Nat → Option (α × List α)
 | [], _ => none
 | a :: l, 0 => some (a, l)
 | a :: l, i + 1 =>
  match takeAt l i with
  | some x => some (x.1, a :: x.2)
  | none => none
def pick {α : Type} : List α → List Nat → Option (List α × List α)
 | rs, [] => some ([], rs)
 | rs, i :: is =>
  match takeAt rs i with
  | some x =>
   match pick x.2 is with
   | some y => some (x.1 :: y.1, y.2)
   | none => none
  | none => none
def restD {α : Type} (rs : List α) (is : List Nat) : List α :=
 match pick rs is with
 | some x => x.2
 | none => []
theorem takeAt_map {α β : Type} (f : α → β) : ∀ (l : List α) (i : Nat) {r : β} {rs : List β}, takeAt (l.map f) i = some (r, rs) → ∃ (x : α) (xs : List α), f x = r ∧ xs.map f = rs ∧ (x :: xs).Perm l
 | [], i, r, rs, h => by cases h
 | a :: l, 0, r, rs, h => by
  simp only [List.map_cons, takeAt, Option.some.injEq, Prod.mk.injEq] at h
  exact ⟨a, l, h.1, h.2, .refl _⟩
 | a :: l, i + 1, r, rs, h => by
  simp only [List.map_cons, takeAt] at h
  split at h
  ·
   rename_i x hx
   obtain ⟨y, ys, h1, h2, h3⟩ := takeAt_map f l i (r := x.1) (rs := x.2) hx
   simp only [Option.some.injEq, Prod.mk.injEq] at h
   exact ⟨y, a :: ys, h1.trans h.1, by rw [List.map_cons, h2]; exact h.2, (List.Perm.swap _ _ _).trans (h3.cons a)⟩
  ·
   cases h
theorem pick_map {α β : Type} (f : α → β) : ∀ (is : List Nat) (l : List α) {a b : List β}, pick (l.map f) is = some (a, b) → ∃ xa xb : List α, xa.map f = a ∧ xb.map f = b ∧ (xa ++ xb).Perm l
 | [], l, a, b, h => by
  simp only [pick, Option.some.injEq, Prod.mk.injEq] at h
  exact ⟨[], l, h.1, h.2, .refl _⟩
 | i :: is, l, a, b, h => by
  simp only [pick] at h
  split at h
  ·
   rename_i x hx
   obtain ⟨y, ys, h1, h2, h3⟩ := takeAt_map f l i (r := x.1) (rs := x.2) hx
   split at h
   ·
    rename_i z hz
    rw [← h2] at hz
    obtain ⟨xa, xb, h4, h5, h6⟩ := pick_map f is ys (a := z.1) (b := z.2) hz
    simp only [Option.some.injEq, Prod.mk.injEq] at h
    exact ⟨y :: xa, xb, by rw [List.map_cons, h1, h4]; exact h.1, h5.trans h.2, ((h6.cons y).trans h3)⟩
   ·
    cases h
  ·
   cases h
def Ct (P : Program) (f : FuncId) (args : Array Value) (rd us : List Res) {α : Type} (q : α → Prop) (post : α → Value × List Res) : Prop :=
 ∀ (w : World) (xu xr : List RF), xu.map (·.1) = us → xr.map (·.1) = rd → Up w (xu ++ xr) →
  Calls P f args w fun e w' => ∃ (a : α) (xo : List RF), q a ∧ e = .returned (post a).1 ∧ xo.map (·.1) = (post a).2 ∧ Up w' xo ∧ Fr (foot xu) w w' ∧ ∀ y ∈ foot xo, y ∈ foot xu ∨ w.heap.size ≤ y
structure St (T : List Nat) (w0 : World) (ms fs : List Res) (w : World) : Prop where
 ex : ∃ xm xf : List RF, xm.map (·.1) = ms ∧ xf.map (·.1) = fs ∧ Up w (xm ++ xf) ∧ ∀ y ∈ foot xm, y ∈ T ∨ w0.heap.size ≤ y
 fr : Fr T w0 w
def Lf (T : List Nat) (w0 : World) {α : Type} (q : α → Prop) (post : α → Value × List Res) (e : Ending) (w' : World) : Prop :=
 ∃ (a : α) (rest fs : List Res), q a ∧ e = .returned (post a).1 ∧ St T w0 ((post a).2 ++ rest) fs w'
section
variable {P : Program} {f : FuncId} {args : Array Value} {rd us ms fs : List Res} {α : Type} {q : α → Prop} {post : α → Value × List Res} {T : List Nat} {w0 w : World}
theorem Ct.mk (h : ∀ (w : World) (T : List Nat), St T w us rd w → Calls P f args w (Lf T w q post)) : Ct P f args rd us q post := fun w xu xr hu hr hU =>
 (h w (foot xu) ⟨⟨xu, xr, hu, hr, hU, fun y hy => .inl hy⟩, Fr.refl _ _⟩).mono fun e w' ⟨a, rest, fs, hq, he, H⟩ => by
  obtain ⟨⟨xm, xf, h1, h2, h3, h4⟩, hf⟩ := H
  obtain ⟨xo, xr', rfl, h5, h6⟩ := List.map_eq_append_iff.1 h1
  exact ⟨a, xo, hq, he, h5, h3.left.left, hf, fun y hy => h4 y (foot_app.2 (.inl hy))⟩
theorem St.pick (H : St T w0 ms fs w) (is : List Nat) {us rest : List Res} (hp : Sep.pick ms is = some (us, rest)) : St T w0 (us ++ rest) fs w := by
 obtain ⟨⟨xm, xf, rfl, h2, h3, h4⟩, hf⟩ := H
 obtain ⟨xa, xb, h5, h6, h7⟩ := pick_map _ is xm hp
 exact ⟨⟨xa ++ xb, xf, by rw [List.map_append, h5, h6], h2, h3.perm (h7.append_right _), fun y hy => h4 y ((foot_perm h7).1 hy)⟩, hf⟩
theorem St.sub (H : St T w0 ms fs w) (is : List Nat) {us : List Res} (hp : Sep.pick ms is = some (us, restD ms is) := by kernel_rfl) : St T w0 us fs w := by
 obtain ⟨⟨xm, xf, rfl, h2, h3, h4⟩, hf⟩ := H
 obtain ⟨xa, xb, h5, h6, h7⟩ := pick_map _ is xm hp
 have hU : Up w (xa ++ (xb ++ xf)) := h3.perm (by rw [← List.append_assoc]; exact h7.append_right _)
 exact ⟨⟨xa, xf, h5, h2, (hU.perm (ys := xa ++ xf ++ xb) (by rw [List.append_assoc]; exact List.Perm.append_left _ List.perm_append_comm)).left, fun y hy => h4 y ((foot_perm h7).1 (foot_app.2 (.inl hy)))⟩, hf⟩
theorem St.call (H : St T w0 ms fs w) (C : Ct P f args rd us q post) (is js : List Nat) {rest rest2 : List Res} (hp : Sep.pick ms is = some (us, rest)) (hr : Sep.pick (rest ++ fs) js = some (rd, rest2)) :
  Calls P f args w fun e w' => ∃ a, q a ∧ e = .returned (post a).1 ∧ St T w0 ((post a).2 ++ rest) fs w' := by
 obtain ⟨⟨xm, xf, rfl, rfl, h3, h4⟩, hf⟩ := H
 obtain ⟨xa, xb, h5, rfl, h7⟩ := pick_map _ is xm hp
 rw [← List.map_append] at hr
 obtain ⟨ya, yb, h8, h9, h10⟩ := pick_map _ js (xb ++ xf) hr
 have hU : Up w (xa ++ (xb ++ xf)) := h3.perm (by rw [← List.append_assoc]; exact h7.append_right _)
 have hV : Up w (xa ++ ya ++ yb) := hU.perm (by rw [List.append_assoc]; exact h10.append_left _)
 refine (C w xa ya h5 h8 hV.left).mono fun e w' ⟨a, xo, hq, he, ho, hUo, hF, hn⟩ => ⟨a, hq, he, ⟨⟨xo ++ xb, xf, by rw [List.map_append, ho], rfl, ?_, ?_⟩, ?_⟩⟩
 ·
  rw [List.append_assoc]
  exact hU.frame hUo hF hn
 ·
  intro y hy
  rcases foot_app.1 hy with hy | hy
  ·
   rcases hn y hy with h | h
   ·
    exact h4 y ((foot_perm h7).1 (foot_app.2 (.inl h)))
   ·
    exact .inr (Nat.le_trans hf.size h)
  ·
   exact h4 y ((foot_perm h7).1 (foot_app.2 (.inr hy)))
 ·
  exact hf.step hF fun y hy => h4 y ((foot_perm h7).1 (foot_app.2 (.inl hy)))
theorem St.leaf (H : St T w0 ms fs w) {e : Ending} (a : α) (is : List Nat) (hq : q a) (hp : Sep.pick ms is = some ((post a).2, restD ms is) := by kernel_rfl) (he : e = .returned (post a).1 := by rfl) : Lf T w0 q post e w :=
 ⟨a, _, _, hq, he, H.pick is hp⟩
def Ent (us out : List Res) : Prop := ∀ (w : World) (xu : List RF), xu.map (·.1) = us → Up w xu → ∃ xo : List RF, xo.map (·.1) = out ∧ Up w xo ∧ ∀ y ∈ foot xo, y ∈ foot xu
theorem St.conv (H : St T w0 ms fs w) (is : List Nat) {us out : List Res} (E : Ent us out) (hp : Sep.pick ms is = some (us, restD ms is) := by kernel_rfl) : St T w0 (out ++ restD ms is) fs w := by
 obtain ⟨⟨xm, xf, rfl, rfl, h3, h4⟩, hf⟩ := H
 obtain ⟨xa, xb, h5, h6, h7⟩ := pick_map _ is xm hp
 have hU : Up w (xa ++ (xb ++ xf)) := h3.perm (by rw [← List.append_assoc]; exact h7.append_right _)
 obtain ⟨xo, ho, hUo, hs⟩ := E w xa h5 hU.left
 refine ⟨⟨xo ++ xb, xf, by rw [List.map_append, ho, h6], rfl, ?_, fun y hy => ?_⟩, hf⟩
 ·
  rw [List.append_assoc]
  exact hU.frame hUo (Fr.refl _ _) fun y hy => .inl (hs y hy)
 ·
  rcases foot_app.1 hy with hy | hy
  ·
   exact h4 y ((foot_perm h7).1 (foot_app.2 (.inl (hs y hy))))
  ·
   exact h4 y ((foot_perm h7).1 (foot_app.2 (.inr hy)))
theorem St.add (H : St T w0 ms fs w) (r : Res) (hr : r.P [] w) : St T w0 (r :: ms) fs w := by
 obtain ⟨⟨xm, xf, rfl, rfl, h3, h4⟩, hf⟩ := H
 refine ⟨⟨(r, []) :: xm, xf, rfl, rfl, ⟨fun x hx => ?_, List.pairwise_cons.2 ⟨fun x hx y hy => (List.not_mem_nil hy).elim, h3.dj⟩⟩, fun y hy => ?_⟩, hf⟩
 ·
  rcases List.mem_cons.1 hx with rfl | hx
  ·
   exact hr
  ·
   exact h3.p x hx
 ·
  obtain ⟨x, hx, hxy⟩ := mem_foot.1 hy
  rcases List.mem_cons.1 hx with rfl | hx
  ·
   exact (List.not_mem_nil hxy).elim
  ·
   exact h4 y (mem_foot.2 ⟨x, hx, hxy⟩)
theorem St.at (H : St T w0 ms fs w) (i : Nat) (r : Res) (h : (ms ++ fs)[i]? = some r := by kernel_rfl) : ∃ F, r.P F w := by
 obtain ⟨⟨xm, xf, rfl, rfl, h3, h4⟩, hf⟩ := H
 rw [← List.map_append, List.getElem?_map] at h
 obtain ⟨x, hx, rfl⟩ := Option.map_eq_some_iff.1 h
 exact ⟨x.2, h3.p x (List.mem_of_getElem? hx)⟩
end
def rB (g : Nat) (cs : Array Value) (T : TypeId) : Res where
 P F w := Blk w g cs T ∧ F = [g]
 lt h y hy := by
  rw [h.2] at hy
  rw [List.mem_singleton.1 hy]
  exact h.1.lt
 keep h k hn := ⟨h.1.keep k (hn g (by rw [h.2]; exact List.mem_singleton.2 rfl)), h.2⟩
 b := some (g, cs, T)
 hb e _ _ h := by
  obtain rfl := Option.some.inj e
  exact h
def rV {α : Type} (cE : α → List Value) (size : Nat) (A : Option Addr) (q : List α) : Res where
 P F w := VX cE size w F A q
 lt h := h.lt
 keep h k hn := VX.keep h k hn
 b := none
 hb e := by cases e
def rAll {β : Type} (p : β → Prop) (Q : β → List Res) : Res where
 P F w := ∃ b xs, p b ∧ xs.map (·.1) = Q b ∧ Up w xs ∧ ∀ y, y ∈ F ↔ y ∈ foot xs
 lt h y hy := by
  obtain ⟨b, xs, _, _, h1, h2⟩ := h
  exact h1.lt y ((h2 y).1 hy)
 keep h k hn := by
  obtain ⟨b, xs, h0, h3, h1, h2⟩ := h
  exact ⟨b, xs, h0, h3, h1.keep k (fun y hy => hn y ((h2 y).2 hy)), h2⟩
 b := none
 hb e := by cases e
section
variable {T : List Nat} {w0 w : World} {ms fs : List Res} {β : Type} {p : β → Prop} {Q : β → List Res}
theorem Ent.open_ {p : β → Prop} {Q : β → List Res} (w : World) (xu : List RF) (h : xu.map (·.1) = [rAll p Q]) (hU : Up w xu) : ∃ b, p b ∧ ∃ xo : List RF, xo.map (·.1) = Q b ∧ Up w xo ∧ ∀ y, y ∈ foot xo ↔ y ∈ foot xu := by
 obtain ⟨x, rfl, hx⟩ : ∃ x, xu = [x] ∧ x.1 = rAll p Q := by
  cases xu with
  | nil => cases h
  | cons x l =>
   simp only [List.map_cons, List.cons.injEq, List.map_eq_nil_iff] at h
   exact ⟨x, by rw [h.2], h.1⟩
 obtain ⟨r, F⟩ := x
 simp only at hx
 subst hx
 obtain ⟨b, xs, h0, h1, h2, h3⟩ := hU.p (rAll p Q, F) (List.mem_singleton.2 rfl)
 exact ⟨b, h0, xs, h1, h2, fun y => by rw [← h3 y, mem_foot]; simp⟩
theorem St.open (H : St T w0 ms fs w) (i : Nat) (p : β → Prop) (Q : β → List Res) (hp : Sep.pick ms [i] = some ([rAll p Q], restD ms [i]) := by kernel_rfl) : ∃ b, p b ∧ St T w0 (Q b ++ restD ms [i]) fs w := by
 obtain ⟨⟨xm, xf, rfl, rfl, h3, h4⟩, hf⟩ := H
 obtain ⟨xa, xb, h5, h6, h7⟩ := pick_map _ [i] xm hp
 have hU : Up w (xa ++ (xb ++ xf)) := h3.perm (by rw [← List.append_assoc]; exact h7.append_right _)
 obtain ⟨b, hb, xo, ho, hUo, hs⟩ := Ent.open_ w xa h5 hU.left
 refine ⟨b, hb, ⟨⟨xo ++ xb, xf, by rw [List.map_append, ho, h6], rfl, ?_, fun y hy => ?_⟩, hf⟩⟩
 ·
  rw [List.append_assoc]
  exact hU.frame hUo (Fr.refl _ _) fun y hy => .inl ((hs y).1 hy)
 ·
  rcases foot_app.1 hy with hy | hy
  ·
   exact h4 y ((foot_perm h7).1 (foot_app.2 (.inl ((hs y).1 hy))))
  ·
   exact h4 y ((foot_perm h7).1 (foot_app.2 (.inr hy)))
theorem Ent.close (p : β → Prop) (Q : β → List Res) (b : β) (hb : p b) : Ent (Q b) [rAll p Q] := fun w xu h hU =>
 ⟨[(rAll p Q, foot xu)], rfl, ⟨fun x hx => by rw [List.mem_singleton.1 hx]; exact ⟨b, xu, hb, h, hU, fun y => Iff.rfl⟩, List.pairwise_singleton _ _⟩, fun y hy => by
  obtain ⟨x, hx, hxy⟩ := mem_foot.1 hy
  rwa [List.mem_singleton.1 hx] at hxy⟩
theorem St.close (H : St T w0 ms fs w) (is : List Nat) (p : β → Prop) (Q : β → List Res) (b : β) (hb : p b) (hp : Sep.pick ms is = some (Q b, restD ms is) := by kernel_rfl) : St T w0 (rAll p Q :: restD ms is) fs w := H.conv is (Ent.close p Q b hb) hp
def bAt (rs : List Res) (i : Nat) : Nat × Array Value × TypeId := ((rs[i]?).bind (·.b)).getD (0, #[], 0)
theorem St.blk (H : St T w0 ms fs w) (i : Nat) (h : (((ms ++ fs)[i]?).bind (·.b)).isSome = true := by kernel_rfl) : Blk w (bAt (ms ++ fs) i).1 (bAt (ms ++ fs) i).2.1 (bAt (ms ++ fs) i).2.2 := by
 obtain ⟨x, hx⟩ := Option.isSome_iff_exists.1 h
 obtain ⟨r, hr, hb⟩ := Option.bind_eq_some_iff.1 hx
 obtain ⟨F, hP⟩ := H.at i r hr
 unfold bAt
 rw [hx]
 exact (r.hb hb hP).1
theorem St.setB (H : St T w0 ms fs w) (i : Nat) {w' : World} (cs' : Array Value) (T' : TypeId) (h : ((ms[i]?).bind (·.b)).isSome = true) (hB : Blk w' (bAt ms i).1 cs' T') (k : Fr [(bAt ms i).1] w w') : St T w0 (rB (bAt ms i).1 cs' T' :: restD ms [i]) fs w' := by
 obtain ⟨x, hx⟩ := Option.isSome_iff_exists.1 h
 obtain ⟨r, hr, hb⟩ := Option.bind_eq_some_iff.1 hx
 have hg : bAt ms i = x := by unfold bAt; rw [hx]; rfl
 rw [hg] at hB k ⊢
 have hp : ∀ (l : List Res) (i : Nat) (r : Res), l[i]? = some r → ∃ l', takeAt l i = some (r, l') := by
  intro l
  induction l with
  | nil => intro i r h; simp at h
  | cons a l ih =>
   intro i r h
   cases i with
   | zero => simp at h; exact ⟨l, by rw [h]; rfl⟩
   | succ i =>
    simp only [List.getElem?_cons_succ] at h
    obtain ⟨l', h'⟩ := ih i r h
    exact ⟨a :: l', by simp only [takeAt, h']⟩
 obtain ⟨l', hl'⟩ := hp ms i r hr
 have hpk : Sep.pick ms [i] = some ([r], restD ms [i]) := by
  unfold restD
  simp only [Sep.pick, hl']
 obtain ⟨⟨xm, xf, rfl, rfl, h3, h4⟩, hf⟩ := H
 obtain ⟨xa, xb, h5, h6, h7⟩ := pick_map _ [i] xm hpk
 have hU : Up w (xa ++ (xb ++ xf)) := h3.perm (by rw [← List.append_assoc]; exact h7.append_right _)
 obtain ⟨z, rfl, hz⟩ : ∃ z, xa = [z] ∧ z.1 = r := by
  cases xa with
  | nil => cases h5
  | cons z l =>
   simp only [List.map_cons, List.cons.injEq, List.map_eq_nil_iff] at h5
   exact ⟨z, by rw [h5.2], h5.1⟩
 obtain ⟨r', F⟩ := z
 simp only at hz
 subst hz
 have hF : F = [x.1] := (r'.hb hb (hU.left.p (r', F) (List.mem_singleton.2 rfl))).2
 have hft : ∀ y, y ∈ foot [(r', F)] ↔ y = x.1 := fun y => by
  rw [mem_foot]
  simp [hF]
 have hk : Fr (foot [(r', F)]) w w' := k.only fun y hy => .inl ((hft y).2 (List.mem_singleton.1 hy))
 have hfo : ∀ y ∈ foot [(rB x.1 cs' T', [x.1])], y = x.1 := fun y hy => by
  rw [mem_foot] at hy
  simpa using hy
 refine ⟨⟨(rB x.1 cs' T', [x.1]) :: xb, xf, by rw [List.map_cons, h6], rfl, ?_, fun y hy => ?_⟩, hf.step hk fun y hy => h4 y ((foot_perm h7).1 (foot_app.2 (.inl hy)))⟩
 ·
  have := hU.frame (o := [(rB x.1 cs' T', [x.1])]) ⟨fun u hu => by rw [List.mem_singleton.1 hu]; exact ⟨hB, rfl⟩, List.pairwise_singleton _ _⟩ hk (fun y hy => .inl ((hft y).2 (hfo y hy)))
  simpa using this
 ·
  rcases foot_app.1 (show y ∈ foot ([(rB x.1 cs' T', [x.1])] ++ xb) from hy) with hy | hy
  ·
   exact h4 y ((foot_perm h7).1 (foot_app.2 (.inl ((hft y).2 (hfo y hy)))))
  ·
   exact h4 y ((foot_perm h7).1 (foot_app.2 (.inr hy)))
theorem St.newB (H : St T w0 ms fs w) {w' : World} {g : Nat} {cs : Array Value} {T' : TypeId} (hB : Blk w' g cs T') (k : Fr [] w w') (hg : w.heap.size ≤ g) : St T w0 (rB g cs T' :: ms) fs w' := by
 obtain ⟨⟨xm, xf, rfl, rfl, h3, h4⟩, hf⟩ := H
 have := Up.frame (a := []) (b := xm ++ xf) (o := [(rB g cs T', [g])]) (w1 := w') h3 ⟨fun u hu => by rw [List.mem_singleton.1 hu]; exact ⟨hB, rfl⟩, List.pairwise_singleton _ _⟩ k (fun y hy => .inr (by rw [mem_foot] at hy; simp at hy; rw [hy]; exact hg))
 refine ⟨⟨(rB g cs T', [g]) :: xm, xf, rfl, rfl, by simpa using this, fun y hy => ?_⟩, hf.step k (by simp)⟩
 rcases foot_app.1 (show y ∈ foot ([(rB g cs T', [g])] ++ xm) from hy) with hy | hy
 ·
  rw [mem_foot] at hy
  simp at hy
  rw [hy]
  exact .inr (Nat.le_trans hf.size hg)
 ·
  exact h4 y hy
theorem St.step0 (H : St T w0 ms fs w) {w' : World} (k : Fr [] w w') : St T w0 ms fs w' := by
 obtain ⟨⟨xm, xf, rfl, rfl, h3, h4⟩, hf⟩ := H
 exact ⟨⟨xm, xf, rfl, rfl, h3.keep k (fun y _ => nin0 y), h4⟩, hf.step k (by simp)⟩
end
section
variable {T : List Nat} {w0 w : World} {ms fs : List Res}
theorem St.cell (H : St T w0 ms fs w) (i k : Nat) {v : Value} (hv : (bAt (ms ++ fs) i).2.1[k]? = some v := by kernel_rfl) (hs : (((ms ++ fs)[i]?).bind (·.b)).isSome = true := by kernel_rfl) : ∀ w', Same w w' → w'.cell? ⟨(bAt (ms ++ fs) i).1, k, none⟩ = some v := same ((H.blk i hs).at k hv)
theorem St.view {α : Type} (H : St T w0 ms fs w) (i : Nat) (cE : α → List Value) (size : Nat) (A : Option Addr) (q : List α) (h : (ms ++ fs)[i]? = some (rV cE size A q) := by kernel_rfl) : ∃ F, VX cE size w F A q := H.at i _ h
end
section
variable {P : Program} {ops : Array Oper} {N : Nat} {e : Env} {w w0 : World} {Q : Exit → Act → World → Prop} {ix : Nat} {T : List Nat} {ms fs : List Res}
theorem SlA (H : St T w0 ms fs w) (i k d : Nat) (vs : List Value) (kk : WO (SQ P ops Q) N (ix + 1) ((d, .agg vs.toArray) :: e) w) (h : ldAt P ops N e (opAt ops ix) = some (some true, ⟨(bAt (ms ++ fs) i).1, k, none⟩, vs.length, some d) := by kernel_rfl) (hp : Nat.blt 0 vs.length = true := by kernel_rfl) (hc : ((bAt (ms ++ fs) i).2.1.toList.drop k).take vs.length = vs := by kernel_rfl)
  (hs : (((ms ++ fs)[i]?).bind (·.b)).isSome = true := by kernel_rfl) (hq : Nat.blt ix ops.size = true := by kernel_rfl) : WO (SQ P ops Q) N ix e w := WO.ldB (SQ.S ix hq) d vs _ k h hp (same (H.blk i hs)) hc kk
theorem Ss (H : St T w0 ms fs w) (i k : Nat) (cs' : Array Value) (kk : ∀ w', St T w0 (rB (bAt ms i).1 cs' (bAt ms i).2.2 :: restD ms [i]) fs w' → WO (SQ P ops Q) N (ix + 1) e w') (h : stAt P ops N e (opAt ops ix) = some (⟨(bAt ms i).1, k, none⟩, stV P ops N e (opAt ops ix), none) := by kernel_rfl)
  (hl : Nat.ble (k + (stV P ops N e (opAt ops ix)).length) (bAt ms i).2.1.size = true := by kernel_rfl) (hs : splice (bAt ms i).2.1 k (stV P ops N e (opAt ops ix)) = cs' := by kernel_rfl) (hi : ((ms[i]?).bind (·.b)).isSome = true := by kernel_rfl) (hq : Nat.blt ix ops.size = true := by kernel_rfl) : WO (SQ P ops Q) N ix e w := by
 have hlt : i < ms.length := by
  obtain ⟨x, hx⟩ := Option.isSome_iff_exists.1 hi
  obtain ⟨r, hr, _⟩ := Option.bind_eq_some_iff.1 hx
  exact (List.getElem?_eq_some_iff.1 hr).1
 have e1 : bAt (ms ++ fs) i = bAt ms i := by unfold bAt; rw [List.getElem?_append_left hlt]
 have hB := H.blk i (by rw [List.getElem?_append_left hlt]; exact hi)
 rw [e1] at hB
 exact WO.st (SQ.E ix hq) _ k _ cs' h hB hl hs (fun _ _ => trivial) fun w' hB' hF _ => kk w' (H.setB i cs' _ hi hB' hF)
theorem Sb (H : St T w0 ms fs w) (d : Nat) (cs : Array Value) (T' : TypeId) (V : Nat → Value) (kk : ∀ g w', St T w0 (rB g cs T' :: ms) fs w' → WO (SQ P ops Q) N (ix + 1) ((d, V g) :: e) w') (h : bxAt P ops N e (opAt ops ix) w = some (V w.heap.size, some d, w.alloc (.cells cs T')) := by kernel_rfl) (hq : Nat.blt ix ops.size = true := by kernel_rfl) : WO (SQ P ops Q) N ix e w :=
 WO.bx (SQ.E ix hq) d cs T' V h (fun _ _ => trivial) fun g w' hB hF hg _ => kk g w' (H.newB hB hF hg)
theorem Sc {f : FuncId} {args : Array Value} {rd us : List Res} {α : Type} {q : α → Prop} {post : α → Value × List Res} (H : St T w0 ms fs w) (d : Nat) (C : Ct P f args rd us q post) (is js : List Nat) (kk : ∀ a w', q a → St T w0 ((post a).2 ++ restD ms is) fs w' → WO (SQ P ops Q) N (ix + 1) ((d, (post a).1) :: e) w')
  (hp : pick ms is = some (us, restD ms is) := by kernel_rfl) (hr : pick (restD ms is ++ fs) js = some (rd, restD (restD ms is ++ fs) js) := by kernel_rfl) (h : callAt P ops N e (opAt ops ix) w = some (f, args, some d, w) := by kernel_rfl) (hq : Nat.blt ix ops.size = true := by kernel_rfl) : WO (SQ P ops Q) N ix e w :=
 WO.call (SQ.E ix hq) d h (H.call C is js hp hr) fun en w' ⟨a, hqa, he, hS⟩ => ⟨_, he, trivial, kk a w' hqa hS⟩
theorem Gb {ι : Type} {S : ι → Act → World → Prop} {R : World → World → Prop} {x y : ι} {o : Oper} (hT : TkE P ops R S x o y) (H : St T w0 ms fs w) (d : Nat) (cs : Array Value) (T' : TypeId) (V : Nat → Value) (hR : ∀ w', Fr [] w w' → R w w') (kk : ∀ g w', St T w0 (rB g cs T' :: ms) fs w' → WO S N y ((d, V g) :: e) w') (h : bxAt P ops N e o w = some (V w.heap.size, some d, w.alloc (.cells cs T')) := by kernel_rfl) : WO S N x e w :=
 WO.bx hT d cs T' V h hR fun g w' hB hF hg _ => kk g w' (H.newB hB hF hg)
theorem Gs {ι : Type} {S : ι → Act → World → Prop} {R : World → World → Prop} {x y : ι} {o : Oper} (hT : TkE P ops R S x o y) (H : St T w0 ms fs w) (i k : Nat) (cs' : Array Value) (hR : ∀ w', Fr [(bAt ms i).1] w w' → R w w') (kk : ∀ w', St T w0 (rB (bAt ms i).1 cs' (bAt ms i).2.2 :: restD ms [i]) fs w' → WO S N y e w') (h : stAt P ops N e o = some (⟨(bAt ms i).1, k, none⟩, stV P ops N e o, none) := by kernel_rfl)
  (hl : Nat.ble (k + (stV P ops N e o).length) (bAt ms i).2.1.size = true := by kernel_rfl) (hs : splice (bAt ms i).2.1 k (stV P ops N e o) = cs' := by kernel_rfl) (hi : ((ms[i]?).bind (·.b)).isSome = true := by kernel_rfl) : WO S N x e w := by
 have hlt : i < ms.length := by
  obtain ⟨x, hx⟩ := Option.isSome_iff_exists.1 hi
  obtain ⟨r, hr, _⟩ := Option.bind_eq_some_iff.1 hx
  exact (List.getElem?_eq_some_iff.1 hr).1
 have e1 : bAt (ms ++ fs) i = bAt ms i := by unfold bAt; rw [List.getElem?_append_left hlt]
 have hB := H.blk i (by rw [List.getElem?_append_left hlt]; exact hi)
 rw [e1] at hB
 exact WO.st hT _ k _ cs' h hB hl hs hR fun w' hB' hF _ => kk w' (H.setB i cs' _ hi hB' hF)
def gsAt (rs : List Res) (l : List Nat) : List Nat := l.map fun i => (bAt rs i).1
theorem St.callK {f : FuncId} {args : Array Value} {rd us : List Res} {α : Type} {q : α → Prop} {post : α → Value × List Res} (H : St T w0 ms fs w) (C : Ct P f args rd us q post) (is js bs : List Nat) {rest rest2 : List Res} (hp : Sep.pick ms is = some (us, rest)) (hr : Sep.pick (rest ++ fs) js = some (rd, rest2)) (hb : ∀ i ∈ bs, (((rest ++ fs)[i]?).bind (·.b)).isSome = true) :
  Calls P f args w fun e w' => ∃ a, q a ∧ e = .returned (post a).1 ∧ Kp (gsAt (rest ++ fs) bs) w w' ∧ St T w0 ((post a).2 ++ rest) fs w' := by
 have H2 := H.pick is hp
 refine (H.call C is js hp hr).mono fun e w' ⟨a, hq, he, hS⟩ => ⟨a, hq, he, ?_, hS⟩
 intro b hbm
 obtain ⟨i, hi, rfl⟩ := List.mem_map.1 hbm
 have hs := hb i hi
 have h1 : ∀ (l : List Res) (ws : World), St T w0 (l ++ rest) fs ws → Blk ws (bAt (rest ++ fs) i).1 (bAt (rest ++ fs) i).2.1 (bAt (rest ++ fs) i).2.2 := fun l ws h => by
  have e1 : (l ++ rest ++ fs)[l.length + i]? = (rest ++ fs)[i]? := by
   rw [List.append_assoc, List.getElem?_append_right (by omega)]
   congr 1
   omega
  have e2 : bAt (l ++ rest ++ fs) (l.length + i) = bAt (rest ++ fs) i := by unfold bAt; rw [e1]
  have h2 := h.blk (l.length + i) (by rw [e1]; exact hs)
  rwa [e2] at h2
 exact (h1 _ _ hS).trans (h1 _ _ H2).symm
theorem Gc {ι : Type} {S : ι → Act → World → Prop} {R : World → World → Prop} {x y : ι} {o : Oper} (hT : TkE P ops R S x o y) {f : FuncId} {args : Array Value} {rd us : List Res} {α : Type} {q : α → Prop} {post : α → Value × List Res} (H : St T w0 ms fs w) (d : Nat) (C : Ct P f args rd us q post) (is js : List Nat) (hR : ∀ w', R w w') (kk : ∀ a w', q a → St T w0 ((post a).2 ++ restD ms is) fs w' → WO S N y ((d, (post a).1) :: e) w')
  (hp : pick ms is = some (us, restD ms is) := by kernel_rfl) (hr : pick (restD ms is ++ fs) js = some (rd, restD (restD ms is ++ fs) js) := by kernel_rfl) (h : callAt P ops N e o w = some (f, args, some d, w) := by kernel_rfl) : WO S N x e w :=
 WO.call hT d h (H.call C is js hp hr) fun en w' ⟨a, hqa, he, hS⟩ => ⟨_, he, hR w', kk a w' hqa hS⟩
theorem GcK {ι : Type} {S : ι → Act → World → Prop} {gl : List Nat} {x y : ι} {o : Oper} (hT : TkE P ops (Kp gl) S x o y) {f : FuncId} {args : Array Value} {rd us : List Res} {α : Type} {q : α → Prop} {post : α → Value × List Res} (H : St T w0 ms fs w) (d : Nat) (C : Ct P f args rd us q post) (is js bs : List Nat) (kk : ∀ a w', q a → St T w0 ((post a).2 ++ restD ms is) fs w' → WO S N y ((d, (post a).1) :: e) w')
  (hg : gl = gsAt (restD ms is ++ fs) bs := by kernel_rfl) (hb : (bs.all fun i => (((restD ms is ++ fs)[i]?).bind (·.b)).isSome) = true := by kernel_rfl) (hp : pick ms is = some (us, restD ms is) := by kernel_rfl) (hr : pick (restD ms is ++ fs) js = some (rd, restD (restD ms is ++ fs) js) := by kernel_rfl) (h : callAt P ops N e o w = some (f, args, some d, w) := by kernel_rfl) : WO S N x e w :=
 WO.call hT d h (H.callK C is js bs hp hr (fun i hi => List.all_eq_true.1 hb i hi)) fun en w' ⟨a, hqa, he, hk, hS⟩ => ⟨_, he, by rw [hg]; exact hk, kk a w' hqa hS⟩
theorem Sloop {x : Code} {α : Type} (E : α → Env) (R : α → List Res) (q : α → Prop) (m : α → Nat) (x0 : α) (ts is : List Nat) (H : St T w0 ms fs w) (hq : q x0)
  (round : ∀ z w, q z → St T w0 (R z) fs w → WE P N x (Exit.then (fun a' w' => ∃ z', m z' < m z ∧ Rep N (E z') a' ∧ q z' ∧ St T w0 (R z') fs w') Q) (E z) w)
  (hp : pick ms is = some (R x0, restD ms is) := by kernel_rfl) (h0 : keepE e ts = some (E x0) := by kernel_rfl) : WE P N (.loop x) Q e w :=
 WE.loop E (fun z w' => q z ∧ St T w0 (R z) fs w') m x0 ts h0 ⟨hq, by
  obtain ⟨⟨xm, xf, rfl, h2, h3, h4⟩, hf⟩ := H
  obtain ⟨xa, xb, h5, h6, h7⟩ := pick_map _ is xm hp
  have hU : Up w (xa ++ (xb ++ xf)) := h3.perm (by rw [← List.append_assoc]; exact h7.append_right _)
  exact ⟨⟨xa, xf, h5, h2, (hU.perm (ys := xa ++ xf ++ xb) (by rw [List.append_assoc]; exact List.Perm.append_left _ List.perm_append_comm)).left, fun y hy => h4 y ((foot_perm h7).1 (foot_app.2 (.inl hy)))⟩, hf⟩⟩ (fun z w hI => round z w hI.1 hI.2)
end
end Go.Proofs.YtjfgmdkdcnfdoaaGreatDoor.Eng.Sep
end
