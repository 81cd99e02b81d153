/- Maps with whole numbers as keys and pointers as elements, as lists of (key, block) by rising keys. Words for the walks. -/
import Derived.Test.YtkhibpdkgjapgaaEngB
import Derived.Maps.OwnSet
import Derived.Maps.Range
set_option linter.unusedVariables false
set_option linter.unusedSimpArgs false
namespace Go.Proofs.Ytkhibpdkgjapgaa.Eng
open Go Go.RowKit Go.Maps Go.Proofs.Ytkhibpdkgjapgaa

/-- how an element reads -/
def ptrR (v : Value) : Option (DataW Nat × List MemPlace) :=
  match v with
  | .pointer none => some (.nil, [])
  | .pointer (some ⟨b, 0, none⟩) => some (.held b, [])
  | _ => none
theorem ptrR_mk (b : Nat) : ptrR (.pointer (some ⟨b, 0, none⟩)) = some (.held b, []) := rfl
theorem ptrR_held {v : Value} {b : Nat} {ps : List MemPlace} (h : ptrR v = some (.held b, ps)) : v = .pointer (some ⟨b, 0, none⟩) := by
  unfold ptrR at h
  split at h
  · simp at h
  · rename_i b'
    simp only [Option.some.injEq, Prod.mk.injEq, DataW.held.injEq] at h
    rw [h.1]
  · cases h
theorem ptrR_nil {v : Value} {ps : List MemPlace} (h : ptrR v = some (.nil, ps)) : v = .pointer none := by
  unfold ptrR at h
  split at h
  · rfl
  · simp at h
  · cases h
def Dm (es : List (Int × Nat)) : DataW Nat := .map (es.map fun e => (.int .i64 e.1, .held e.2))
def MapI (P : Program) (k : TypeId) (w : World) (m : Nat) (es : List (Int × Nat)) : Prop := w.ownsMap P k ptrR m es.length (Dm es)
theorem own_tight {P : Program} {k : TypeId} {w : World} {m n : Nat} {es : List (Int × Nat)} (h : w.ownsMap P k ptrR m n (Dm es)) : MapI P k w m es := by
  obtain ⟨cs, clock, hb, F, hs, hD⟩ := h
  refine ⟨cs, clock, hb, F, ?_, hD⟩
  unfold Dm at hD
  simp only [DataW.map.injEq] at hD
  have := congrArg List.length hD
  rw [List.length_map, length_read] at this
  omega
/-- an entry goes in where its key belongs -/
def insE (x : Int × Nat) : List (Int × Nat) → List (Int × Nat)
  | [] => [x]
  | y :: r => if x.1 < y.1 then x :: y :: r else y :: insE x r
theorem length_insE (x : Int × Nat) : ∀ es, (insE x es).length = es.length + 1
  | [] => rfl
  | y :: r => by
    unfold insE
    split
    · rfl
    · rw [List.length_cons, length_insE x r, List.length_cons]
theorem insert_Dm (x : Int × Nat) : ∀ es : List (Int × Nat), DataW.insert ((.int .i64 x.1 : Lit), (.held x.2 : DataW Nat)) (es.map fun e => (.int .i64 e.1, .held e.2)) = (insE x es).map fun e => (.int .i64 e.1, .held e.2)
  | [] => rfl
  | y :: r => by
    simp only [List.map_cons, DataW.insert, insE, Lit.before, decide_eq_true_eq]
    split
    · rfl
    · rw [List.map_cons, insert_Dm x r]
theorem has_Dm (es : List (Int × Nat)) (k : Int) : Maps.has (Dm es) (.int .i64 k) = es.any (fun e => decide (e.1 = k)) := by
  unfold Dm Maps.has
  simp [List.any_map, Function.comp_def, Lit.sameKey]
theorem filter_Dm (es : List (Int × Nat)) (k : Int) : ((es.map fun e => ((.int .i64 e.1 : Lit), (.held e.2 : DataW Nat))).filter fun p => !p.1.sameKey (.int .i64 k)) = (es.filter fun e => !decide (e.1 = k)).map fun e => (.int .i64 e.1, .held e.2) := by
  rw [List.filter_map]
  congr 1
  simp [Function.comp_def, Lit.sameKey]
theorem del_Dm (es : List (Int × Nat)) (k : Int) : (Dm es).del (.int .i64 k) = Dm (es.filter fun e => !decide (e.1 = k)) := by
  unfold Dm DataW.del
  simp only
  rw [filter_Dm]
theorem put_Dm (es : List (Int × Nat)) (x : Int × Nat) (h : es.any (fun e => decide (e.1 = x.1)) = false) : (Dm es).put (.int .i64 x.1) (.held x.2) = Dm (insE x es) := by
  unfold Dm DataW.put
  simp only
  rw [filter_Dm, List.filter_eq_self.2 (fun e he => ?_), insert_Dm]
  have := List.any_eq_false.1 h e he
  simpa using this
theorem at_Dm (es : List (Int × Nat)) (k : Int) (z : DataW Nat) : (Dm es).atKey (.int .i64 k) z = match es.find? (fun e => decide (e.1 = k)) with | some e => .held e.2 | none => z := by
  unfold Dm DataW.atKey
  simp only [List.find?_map, Function.comp_def, Lit.sameKey, true_and]
  cases es.find? fun e => decide (e.1 = k) <;> rfl
section
variable {P : Program} {k : TypeId} {w w1 : World} {m : Nat} {es : List (Int × Nat)} {S : List Nat}
theorem MapI.lt (h : MapI P k w m es) : m < w.heap.size := World.ownsMap.lt h
theorem MapI.keep (h : MapI P k w m es) (f : Fr S w w1) (hn : m ∉ S) : MapI P k w1 m es := by
  obtain ⟨cs, clock, hb, F, hs, hD⟩ := h
  exact ⟨cs, clock, (f.block m (Array.getElem?_eq_some_iff.1 hb).1 hn).trans hb, F, hs, hD⟩
theorem MapI.made (w : World) : MapI P k (w.alloc (.map #[] 0)) w.heap.size [] := World.ownsMap_made w P k ptrR
/-- a map's types: its own, its elements' -/
structure MT (P : Program) (t k e : TypeId) : Prop where
  t : P.underlying t = some (.map k e)
  k : P.underlying k = some (.int .i64)
  z : ∀ w, (zeroValue e).run P w = .ok (.pointer none) w
end
theorem Fr.of_turned {w w1 : World} {m : Nat} (h : w.grownBy w1 (some m)) : Fr [m] w w1 := Fr.of_grown h (fun j hj => .inl (by simp only [Option.some.injEq] at hj; simp [hj]))
section
variable {P : Program} {ι : Type} {ops : Array Oper} {N : Nat} {S : ι → Act → World → Prop} {R : World → World → Prop} {x y : ι} {o : Oper} {e e' : Env} {w : World}
variable {t k el : TypeId} {m : Nat} {es : List (Int × Nat)}
def lkAt (ops : Array Oper) (N : Nat) (e : Env) (o : Oper) : Option (TypeId × Value × Int × Bool × Option Tmp) :=
  bif onB ops N e o then
    match o.op with
    | .lookup t z u c => (match ev e u with | .int .i64 j => some (t, ev e z, j, c, o.dst) | _ => none)
    | _ => none
  else none
theorem lkAt_spec {v : Value} {j : Int} {c : Bool} {d : Option Tmp} (h : lkAt ops N e o = some (t, v, j, c, d)) : ∃ z u, onB ops N e o = true ∧ o.op = .lookup t z u c ∧ ev e z = v ∧ ev e u = .int .i64 j ∧ o.dst = d := by
  unfold lkAt at h
  cases ho : onB ops N e o with
  | false => rw [ho] at h; cases h
  | true =>
    rw [ho] at h
    simp only [cond_true] at h
    split at h
    · rename_i t' z u c' hop
      split at h
      · rename_i j' hu
        simp only [Option.some.injEq, Prod.mk.injEq] at h
        obtain ⟨rfl, rfl, rfl, rfl, hd⟩ := h
        exact ⟨z, u, rfl, hop, rfl, hu, hd⟩
      · cases h
    · cases h
/-- what 'v, ok := m[k]' comes to -/
def lkV (es : List (Int × Nat)) (j : Int) : Value := match es.find? (fun e => decide (e.1 = j)) with | some e => .pointer (some ⟨e.2, 0, none⟩) | none => .pointer none
theorem run_lk (M : MT P t k el) {w : World} (h : MapI P k w m es) {j : Int} (hj : -9223372036854775808 ≤ j ∧ j ≤ 9223372036854775807) (c : Bool) :
    (Instr.lookup t (.map (some m)) (.int .i64 j) c).run P w = .ok (if c then .tuple #[lkV es j, .bool (es.any fun e => decide (e.1 = j))] else lkV es j) w := by
  have hw : (Lit.int .i64 j).wf = true := by
    have : IntKind.i64.min = -9223372036854775808 := by decide
    have : IntKind.i64.max = 9223372036854775807 := by decide
    simp [Lit.wf]
    omega
  have hv : ∀ v ps, ptrR v = some ((Dm es).atKey (.int .i64 j) .nil, ps) → v = lkV es j := by
    intro v ps hv
    rw [at_Dm] at hv
    unfold lkV
    cases hf : es.find? (fun e => decide (e.1 = j)) with
    | some x => rw [hf] at hv; exact ptrR_held hv
    | none => rw [hf] at hv; exact ptrR_nil hv
  cases c
  · obtain ⟨v, ps, h1, h2⟩ := World.ownsMap.lookup h (int_keyed M.k) M.t (M.z w) (zd := .nil) (zp := []) rfl (keyOf_int_mk M.k hw)
    rw [h1, hv v ps h2]
    rfl
  · obtain ⟨v, ps, h1, h2⟩ := World.ownsMap.look_ok h (int_keyed M.k) M.t (M.z w) (zd := .nil) (zp := []) rfl (keyOf_int_mk M.k hw)
    rw [h1, hv v ps h2, has_Dm]
    rfl
theorem WO.lkOk (hT : TkS P ops R S x o y) (d : Nat) (M : MT P t k el) {j : Int} (h : lkAt ops N e o = some (t, .map (some m), j, true, some d)) (hm : ∀ w', R w w' → MapI P k w' m es) (hj : -9223372036854775808 ≤ j ∧ j ≤ 9223372036854775807)
    (kk : WO S N y ((d, .tuple #[lkV es j, .bool (es.any fun e => decide (e.1 = j))]) :: e) w) : WO S N x e w := by
  obtain ⟨z, u, ho, hop, hz, hu, hd⟩ := lkAt_spec h
  refine WO.val hT ho (v := .tuple #[lkV es j, .bool (es.any fun e => decide (e.1 = j))]) (fun w' hR => ?_) (by rw [hd]; exact kk)
  unfold execOp
  simp only [hop, hz, hu, Sem.run_bind, run_lk M (hm w' hR) hj true, Result.andThen_ok, Sem.run_pure, if_true]
theorem WO.lk1 (hT : TkS P ops R S x o y) (d : Nat) (M : MT P t k el) {j : Int} (h : lkAt ops N e o = some (t, .map (some m), j, false, some d)) (hm : ∀ w', R w w' → MapI P k w' m es) (hj : -9223372036854775808 ≤ j ∧ j ≤ 9223372036854775807)
    (kk : WO S N y ((d, lkV es j) :: e) w) : WO S N x e w := by
  obtain ⟨z, u, ho, hop, hz, hu, hd⟩ := lkAt_spec h
  refine WO.val hT ho (v := lkV es j) (fun w' hR => ?_) (by rw [hd]; exact kk)
  unfold execOp
  simp only [hop, hz, hu, Sem.run_bind, run_lk M (hm w' hR) hj false, Result.andThen_ok, Sem.run_pure, Bool.false_eq_true, if_false]
def upAt (ops : Array Oper) (N : Nat) (e : Env) (o : Oper) : Option (TypeId × Value × Int × Value × Option Tmp) :=
  bif onB ops N e o then
    match o.op with
    | .mapUpdate t z u v => (match ev e u with | .int .i64 j => some (t, ev e z, j, ev e v, o.dst) | _ => none)
    | _ => none
  else none
theorem WO.up (hT : TkE P ops R S x o y) (M : MT P t k el) {j : Int} {b : Nat} (h : upAt ops N e o = some (t, .map (some m), j, .pointer (some ⟨b, 0, none⟩), none)) (hm : MapI P k w m es) (hj : -9223372036854775808 ≤ j ∧ j ≤ 9223372036854775807)
    (hno : es.any (fun e => decide (e.1 = j)) = false) (hl : es.length ≤ 1000000) (hR : ∀ w', Fr [m] w w' → R w w') (kk : ∀ w', MapI P k w' m (insE (j, b) es) → Fr [m] w w' → WO S N y e w') : WO S N x e w := by
  unfold upAt at h
  cases ho : onB ops N e o with
  | false => rw [ho] at h; cases h
  | true =>
    rw [ho] at h
    simp only [cond_true] at h
    split at h
    · rename_i t' z u v hop
      split at h
      · rename_i j' hu
        simp only [Option.some.injEq, Prod.mk.injEq] at h
        obtain ⟨rfl, hz, rfl, hv, hd⟩ := h
        have hw : (Lit.int .i64 j').wf = true := by
          have : IntKind.i64.min = -9223372036854775808 := by decide
          have : IntKind.i64.max = 9223372036854775807 := by decide
          simp [Lit.wf]
          omega
        obtain ⟨w', h1, h2, h3⟩ := World.ownsMap.update hm (int_keyed M.k) M.t (by unfold maxLen; omega) (keyOf_int_mk M.k hw) (ptrR_mk b)
        rw [put_Dm es (j', b) hno] at h2
        have hF := Fr.of_turned h3
        refine WO.on hT ho fun a ha h4 h5 _ Q => ?_
        have hrun : (execOp (ev e) o).run P w = .ok .skip w' := by
          unfold execOp
          simp only [hop, hz, hu, hv, Sem.run_bind, h1, Result.andThen_ok, Sem.run_pure]
        simp only [Oper.wp, h4, hrun, Oper.upon]
        have hp := ha.put o.dst undef h5
        rw [hd] at hp ⊢
        exact ⟨hR _ hF, kk w' (own_tight h2) hF _ hp⟩
      · cases h
    · cases h
def dlAt (ops : Array Oper) (N : Nat) (e : Env) (o : Oper) : Option (TypeId × TypeId × Value × Int × Option Tmp) :=
  bif onB ops N e o then
    match o.op with
    | .call { callee := .builtin .delete, args := ⟨[z, u]⟩, argTypes := ⟨[t, k]⟩ } => (match ev e u with | .int .i64 j => some (t, k, ev e z, j, o.dst) | _ => none)
    | _ => none
  else none
theorem WO.dl (hT : TkE P ops R S x o y) (M : MT P t k el) {j : Int} {dd : Option Tmp} (h : dlAt ops N e o = some (t, k, .map (some m), j, dd)) (hm : MapI P k w m es) (hj : -9223372036854775808 ≤ j ∧ j ≤ 9223372036854775807)
    (hR : ∀ w', Fr [m] w w' → R w w') (kk : ∀ w', MapI P k w' m (es.filter fun e => !decide (e.1 = j)) → Fr [m] w w' → WO S N y (putE e dd (.tuple #[])) w') : WO S N x e w := by
  unfold dlAt at h
  cases ho : onB ops N e o with
  | false => rw [ho] at h; cases h
  | true =>
    rw [ho] at h
    simp only [cond_true] at h
    split at h
    · rename_i z u t' k' hop
      split at h
      · rename_i j' hu
        simp only [Option.some.injEq, Prod.mk.injEq] at h
        obtain ⟨rfl, rfl, hz, rfl, hd⟩ := h
        have hw : (Lit.int .i64 j').wf = true := by
          have : IntKind.i64.min = -9223372036854775808 := by decide
          have : IntKind.i64.max = 9223372036854775807 := by decide
          simp [Lit.wf]
          omega
        obtain ⟨w', h1, h2, h3⟩ := World.ownsMap.drop hm (int_keyed M.k) M.t (keyOf_int_mk M.k hw) o.type
        rw [del_Dm] at h2
        have hF := Fr.of_turned h3.grown
        refine WO.on hT ho fun a ha h4 h5 _ Q => ?_
        have hrun : (execOp (ev e) o).run P w = .ok (.value (.tuple #[])) w' := by
          unfold execOp
          simp only [hop, resolve, invoke, builtin, Sem.run_bind, Sem.run_pure, Result.andThen_ok, List.map_toArray, List.map_cons, List.map_nil, hz, hu, h1]
        simp only [Oper.wp, h4, hrun, Oper.upon]
        have hp := ha.put o.dst (.tuple #[]) h5
        rw [hd] at hp ⊢
        exact ⟨hR _ hF, kk w' (own_tight h2) hF _ hp⟩
      · cases h
    · cases h
/-- a map is made -/
def mmAt (ops : Array Oper) (N : Nat) (e : Env) (o : Oper) : Option (Option Tmp) :=
  bif onB ops N e o then
    match o.op with
    | .makeMap _ none => some o.dst
    | _ => none
  else none
theorem WO.mm (hT : TkE P ops R S x o y) (d : Nat) (k : TypeId) (h : mmAt ops N e o = some (some d)) (hR : ∀ w', Fr [] w w' → R w w') (kk : ∀ g w', MapI P k w' g [] → Fr [] w w' → w.heap.size ≤ g → g < w'.heap.size → WO S N y ((d, .map (some g)) :: e) w') : WO S N x e w := by
  unfold mmAt at h
  cases ho : onB ops N e o with
  | false => rw [ho] at h; cases h
  | true =>
    rw [ho] at h
    simp only [cond_true] at h
    split at h
    · rename_i t hop
      simp only [Option.some.injEq] at h
      refine WO.on hT ho fun a ha h4 h5 _ Q => ?_
      have hrun : (execOp (ev e) o).run P w = .ok (.value (.map (some w.heap.size))) (w.alloc (.map #[] 0)) := by
        unfold execOp
        simp [hop, Instr.makeMap, newObj, Sem.run, World.alloc, -World.alloc_eq]
      simp only [Oper.wp, h4, hrun, Oper.upon]
      have hF := (Fr.refl [] w).alloc (.map #[] 0)
      have hp := ha.put o.dst (.map (some w.heap.size)) h5
      rw [h] at hp ⊢
      exact ⟨hR _ hF, kk _ _ (MapI.made w) hF (Nat.le_refl _) (by rw [size_alloc]; omega) _ hp⟩
    · cases h
/-! ### ranging: td are the entries that are still to come -/
def Rng (P : Program) (k : TypeId) (w : World) (m r : Nat) (es td : List (Int × Nat)) : Prop :=
  ∃ left cnt, w.ranges P k ptrR m r es.length (Dm es) left cnt ∧ td = es.filter fun e => left (.int .i64 e.1)
theorem Rng.keep {w1 : World} {r : Nat} {td : List (Int × Nat)} {F : List Nat} (h : Rng P k w m r es td) (f : Fr F w w1) (h1 : m ∉ F) (h2 : r ∉ F) : Rng P k w1 m r es td := by
  obtain ⟨left, cnt, h3, h4⟩ := h
  have l1 := h3.owns.lt
  have l2 := h3.lt
  refine ⟨left, cnt, ?_, h4⟩
  obtain ⟨cs, clock, since, seen, c0, hb, Ft, hs, hD, hr, rest⟩ := h3
  exact ⟨cs, clock, since, seen, c0, (f.block m l1 h1).trans hb, Ft, hs, hD, (f.block r l2 h2).trans hr, rest⟩
theorem Rng.owns {r : Nat} {td : List (Int × Nat)} (h : Rng P k w m r es td) : MapI P k w m es := by
  obtain ⟨left, cnt, h3, _⟩ := h
  exact h3.owns
def rgAt (ops : Array Oper) (N : Nat) (e : Env) (o : Oper) : Option (TypeId × Value × Option Tmp) :=
  bif onB ops N e o then
    match o.op with
    | .range t z => some (t, ev e z, o.dst)
    | _ => none
  else none
theorem WO.rg (hT : TkE P ops R S x o y) (d : Nat) (M : MT P t k el) (h : rgAt ops N e o = some (t, .map (some m), some d)) (hm : MapI P k w m es) (hR : ∀ w', Fr [] w w' → R w w')
    (kk : ∀ r w', Rng P k w' m r es es → Fr [] w w' → w.heap.size ≤ r → r < w'.heap.size → WO S N y ((d, .pointer (some ⟨r, 0, none⟩)) :: e) w') : WO S N x e w := by
  unfold rgAt at h
  cases ho : onB ops N e o with
  | false => rw [ho] at h; cases h
  | true =>
    rw [ho] at h
    simp only [cond_true] at h
    split at h
    · rename_i t' z hop
      simp only [Option.some.injEq, Prod.mk.injEq] at h
      obtain ⟨rfl, hz, hd⟩ := h
      obtain ⟨w', h1, h2, h3, h4⟩ := World.ownsMap.range hm (int_keyed M.k) M.t
      have hF : Fr [] w w' := Fr.of_grown h3 (fun j hj => by cases hj)
      refine WO.on hT ho fun a ha h5 h6 _ Q => ?_
      have hrun : (execOp (ev e) o).run P w = .ok (.value (.pointer (some ⟨w.heap.size, 0, none⟩))) w' := by
        unfold execOp
        simp only [hop, hz, Sem.run_bind, h1, Result.andThen_ok, Sem.run_pure]
      simp only [Oper.wp, h5, hrun, Oper.upon]
      have hp := ha.put o.dst (.pointer (some ⟨w.heap.size, 0, none⟩)) h6
      rw [hd] at hp ⊢
      refine ⟨hR _ hF, kk _ _ ⟨_, _, h2, ?_⟩ hF (Nat.le_refl _) (by omega) _ hp⟩
      symm
      rw [List.filter_eq_self]
      intro e he
      rw [has_Dm]
      exact List.any_eq_true.2 ⟨e, he, by simp⟩
    · cases h
def nxAt (ops : Array Oper) (N : Nat) (e : Env) (o : Oper) : Option (Value × Option Tmp) :=
  bif onB ops N e o then
    match o.op with
    | .next z false => some (ev e z, o.dst)
    | _ => none
  else none
/-- one entry comes, whichever; ent: the world answers 'entry' by it -/
def Ent (P : Program) (w : World) (r : Nat) (x : Int × Nat) : Prop := (Instr.entry (.pointer (some ⟨r, 0, none⟩))).run P w = .ok (.tuple #[.int .i64 x.1, .pointer (some ⟨x.2, 0, none⟩)]) w
theorem WO.nx (hT : TkE P ops R S x o y) (d : Nat) (M : MT P t k el) {r : Nat} {td : List (Int × Nat)} (hd2 : (es.map (·.1)).Nodup) (h : nxAt ops N e o = some (.pointer (some ⟨r, 0, none⟩), some d)) (hm : Rng P k w m r es td) (hR : ∀ w', Fr [r] w w' → R w w')
    (k0 : td = [] → WO S N y ((d, .tuple #[.bool false]) :: e) w)
    (kk : ∀ z w', z ∈ td → Rng P k w' m r es (td.filter fun e => !decide (e.1 = z.1)) → Ent P w' r z → Fr [r] w w' → w'.heap.size = w.heap.size → WO S N y ((d, .tuple #[.bool true, .int .i64 z.1, .pointer (some ⟨z.2, 0, none⟩)]) :: e) w') : WO S N x e w := by
  unfold nxAt at h
  cases ho : onB ops N e o with
  | false => rw [ho] at h; cases h
  | true =>
    rw [ho] at h
    simp only [cond_true] at h
    split at h
    · rename_i z hop
      simp only [Option.some.injEq, Prod.mk.injEq] at h
      obtain ⟨hz, hd⟩ := h
      obtain ⟨left, cnt, h1, h2⟩ := hm
      rcases h1.next (int_keyed M.k) o.type with ⟨_, h3, h4⟩ | ⟨key, v, kl, yy, w', cnt', h3, h4, h5, h6, h7, h8, _, h9, h10, h11⟩
      · refine WO.on hT ho fun a ha h5 h6 _ Q => ?_
        have hrun : (execOp (ev e) o).run P w = .ok (.value (.tuple #[.bool false])) w := by
          unfold execOp
          simp only [hop, hz, Sem.run_bind, h4, Result.andThen_ok, Sem.run_pure]
        simp only [Oper.wp, h5, hrun, Oper.upon]
        have hp := ha.put o.dst (.tuple #[.bool false]) h6
        rw [hd] at hp ⊢
        refine ⟨hR _ (Fr.refl [r] w), k0 ?_ _ hp⟩
        rw [h2]
        exact List.filter_eq_nil_iff.2 (fun e _ => by rw [h3]; simp)
      · have hkl : ∃ j, key = .int .i64 j ∧ kl = .int .i64 j := by
          cases key <;> simp [keyOf, M.k, mapKey] at h3
          obtain ⟨⟨rfl, hw⟩, rfl⟩ := h3
          exact ⟨_, rfl, rfl⟩
        obtain ⟨j, rfl, rfl⟩ := hkl
        obtain ⟨q, hq, hqb⟩ : ∃ q, q ∈ es ∧ q.1 = j ∧ yy.1 = .held q.2 := by
          have h12 := h6 (.lit (.bool true))
          rw [at_Dm] at h12
          cases hf : es.find? (fun e => decide (e.1 = j)) with
          | none => rw [hf] at h12; have h13 := h6 (.lit (.bool false)); rw [at_Dm, hf] at h13; rw [← h12] at h13; simp at h13
          | some q => rw [hf] at h12; exact ⟨q, List.mem_of_find?_eq_some hf, by simpa using List.find?_some hf, h12.symm⟩
        have hv : v = .pointer (some ⟨q.2, 0, none⟩) := ptrR_held (ps := yy.2) (by rw [h5, ← hqb.2])
        subst hv
        obtain ⟨rfl, hqb⟩ := hqb
        have hF := Fr.of_turned h9
        refine WO.on hT ho fun a ha h12 h13 _ Q => ?_
        have hrun : (execOp (ev e) o).run P w = .ok (.value (.tuple #[.bool true, .int .i64 q.1, .pointer (some ⟨q.2, 0, none⟩)])) w' := by
          unfold execOp
          simp only [hop, hz, Sem.run_bind, h7, Result.andThen_ok, Sem.run_pure]
        simp only [Oper.wp, h12, hrun, Oper.upon]
        have hp := ha.put o.dst (.tuple #[.bool true, .int .i64 q.1, .pointer (some ⟨q.2, 0, none⟩)]) h13
        rw [hd] at hp ⊢
        refine ⟨hR _ hF, kk q w' ?_ ⟨_, _, h8, ?_⟩ h11 hF h10 _ hp⟩
        · rw [h2]
          exact List.mem_filter.2 ⟨hq, h4⟩
        · rw [h2, List.filter_filter]
          congr 1
          funext e
          simp [Lit.sameKey, Bool.and_comm]
    · cases h
def enAt (ops : Array Oper) (N : Nat) (e : Env) (o : Oper) : Option (Value × Option Tmp) :=
  bif onB ops N e o then
    match o.op with
    | .entry z => some (ev e z, o.dst)
    | _ => none
  else none
theorem WO.en (hT : TkS P ops R S x o y) (d : Nat) {r : Nat} {z : Int × Nat} (h : enAt ops N e o = some (.pointer (some ⟨r, 0, none⟩), some d)) (hE : ∀ w', R w w' → Ent P w' r z) (kk : WO S N y ((d, .tuple #[.int .i64 z.1, .pointer (some ⟨z.2, 0, none⟩)]) :: e) w) : WO S N x e w := by
  unfold enAt at h
  cases ho : onB ops N e o with
  | false => rw [ho] at h; cases h
  | true =>
    rw [ho] at h
    simp only [cond_true] at h
    split at h
    · rename_i u hop
      simp only [Option.some.injEq, Prod.mk.injEq] at h
      obtain ⟨hz, hd⟩ := h
      refine WO.val hT ho (v := .tuple #[.int .i64 z.1, .pointer (some ⟨z.2, 0, none⟩)]) (fun w' hR => ?_) (by rw [hd]; exact kk)
      have := hE w' hR
      unfold Ent at this
      unfold execOp
      simp only [hop, hz, Sem.run_bind, this, Result.andThen_ok, Sem.run_pure]
    · cases h
end
end Go.Proofs.Ytkhibpdkgjapgaa.Eng
