/- The engine: a loop round by round; paths that come together again. -/
import Derived.Test.YtdhonbahpcmmnaaGreatDoorEng
import Derived.Test.YtdhonbahpcmmnaaGreatDoorLinePure
import Derived.Maps.OwnSet
import Derived.Maps.Range
section
set_option linter.unusedVariables false
namespace Go.Proofs.YtdhonbahpcmmnaaGreatDoor.Eng
open Go Go.Proofs.YtdhonbahpcmmnaaGreatDoor
section
variable {P : Program} {Q : Exit → Act → World → Prop} {N : Nat} {e e' : Env} {w : World} {x y : Code}
def inL (P : Program) (x : Code) (Q : Exit → Act → World → Prop) (a : Act) (w : World) : Prop :=
 ∀ (b : Frame) (k : List Item) (cs : List Frame), ∃ ex a' w', Q ex a' w' ∧ Arrives P (lone (b.at a (.code x :: .inLoop x :: k)) cs w) b k cs ex a' w'
def WL (P : Program) (N : Nat) (x : Code) (Q : Exit → Act → World → Prop) (e : Env) (w : World) : Prop := ∀ a, Rep N e a → inL P x Q a w
theorem WE.unroll (k : WL P N x Q e w) : WE P N (.loop x) Q e w := by
 intro a ha b k' cs
 obtain ⟨ex, a', w', hq, harr⟩ := k a ha b k' cs
 exact ⟨ex, a', w', hq, .of_steps (.one step_loop) harr⟩
theorem WL.go (k : WE P N x (Exit.then (inL P x Q) Q) e w) : WL P N x Q e w := by
 intro a ha b k' cs
 obtain ⟨ex, a₁, w₁, hq, harr⟩ := k a ha b (.inLoop x :: k') cs
 cases ex with
 | normal =>
  obtain ⟨e₂, a₂, w₂, hq₂, harr₂⟩ := hq b k' cs
  exact ⟨e₂, a₂, w₂, hq₂, .of_steps (Steps.trans harr (.one step_inLoop)) harr₂⟩
 | exit id => exact ⟨_, a₁, w₁, hq, .pass (x := .inLoop x) rfl (fun _ _ => .inl (by simp)) harr⟩
 | goto l => exact ⟨_, a₁, w₁, hq, .pass (x := .inLoop x) rfl (fun _ _ => .inl (by simp)) harr⟩
 | ret => exact ⟨_, a₁, w₁, hq, .pass (x := .inLoop x) rfl (fun _ _ => .inl (by simp)) harr⟩
 | panic ch => exact ⟨_, a₁, w₁, hq, .pass (x := .inLoop x) rfl (fun _ _ => .inl (by simp)) harr⟩
 | outgrown => exact ⟨_, a₁, w₁, hq, .pass (x := .inLoop x) rfl (fun _ _ => .inl (by simp)) harr⟩
theorem WQ.thenL (k : WL P N x Q e w) : WQ (Exit.then (inL P x Q) Q) N .normal e w := fun a ha => k a ha
theorem WE.seqJ {α : Type} (E : α → Env) (I : α → World → Prop) (k2 : ∀ z w', I z w' → WE P N y Q (E z) w')
  (k1 : WE P N x (Exit.then (fun a' w' => ∃ z, Rep N (E z) a' ∧ I z w') Q) e w) : WE P N (.seq x y) Q e w := by
 intro a ha
 refine wp_seq fun b k cs => ?_
 obtain ⟨ex, a', w', hq, harr⟩ := k1 a ha b k cs
 refine ⟨ex, a', w', ?_, harr⟩
 cases ex with
 | normal => obtain ⟨z, hR, hI⟩ := hq; exact k2 z w' hI a' hR
 | exit id => exact hq
 | goto l => exact hq
 | ret => exact hq
 | panic ch => exact hq
 | outgrown => exact hq
end
def Kp (bs : List Nat) (w w' : World) : Prop := ∀ b, b ∈ bs → w'.heap[b]? = w.heap[b]?
theorem kpR (bs : List Nat) (w : World) : Kp bs w w := fun _ _ => rfl
theorem kpT (bs : List Nat) (w w1 w2 : World) (h : Kp bs w w1) (k : Kp bs w1 w2) : Kp bs w w2 := fun b hb => (k b hb).trans (h b hb)
theorem kp_of {bs S : List Nat} {w : World} (h : ∀ b ∈ bs, b < w.heap.size ∧ b ∉ S) : ∀ w', Fr S w w' → Kp bs w w' := fun w' k b hb => k.block b (h b hb).1 (h b hb).2
theorem kp0 {S : List Nat} {w : World} : ∀ b ∈ ([] : List Nat), b < w.heap.size ∧ b ∉ S := by simp
theorem kpC {b : Nat} {bs S : List Nat} {w : World} (h : b < w.heap.size) (n : b ∉ S) (k : ∀ b ∈ bs, b < w.heap.size ∧ b ∉ S) : ∀ x ∈ b :: bs, x < w.heap.size ∧ x ∉ S := by
 intro x hx
 rcases List.mem_cons.1 hx with rfl | hx
 ·
  exact ⟨h, n⟩
 ·
  exact k x hx
theorem _root_.Go.Proofs.YtdhonbahpcmmnaaGreatDoor.Blk.kp {bs : List Nat} {w w1 : World} {g : Nat} {cs : Array Value} {T : TypeId} (h : Blk w g cs T) (k : Kp bs w w1) (hg : g ∈ bs) : Blk w1 g cs T := (k g hg).trans h
end Go.Proofs.YtdhonbahpcmmnaaGreatDoor.Eng
end
section
set_option linter.unusedVariables false
set_option linter.unusedSimpArgs false
namespace Go.Proofs.YtdhonbahpcmmnaaGreatDoor.Eng
open Go Go.RowKit Go.Maps Go.Proofs.YtdhonbahpcmmnaaGreatDoor
def ptrR (v : Value) : Option (DataW Nat × List MemPlace) :=
 match v with
 | .pointer none => some (.nil, [])
 | .pointer (some ⟨b, 0, none⟩) => some (.held b, [])
 | _ => none
theorem ptrR_mk (b : Nat) : ptrR (.pointer (some ⟨b, 0, none⟩)) = some (.held b, []) := rfl
def Dm (es : List (Int × Nat)) : DataW Nat := .map (es.map fun e => (.int .i64 e.1, .held e.2))
def MapI (P : Program) (k : TypeId) (w : World) (m : Nat) (es : List (Int × Nat)) : Prop := w.ownsMap P k ptrR m es.length (Dm es)
theorem own_tight {P : Program} {k : TypeId} {w : World} {m n : Nat} {es : List (Int × Nat)} (h : w.ownsMap P k ptrR m n (Dm es)) : MapI P k w m es := by
 obtain ⟨cs, clock, hb, F, hs, hD⟩ := h
 refine ⟨cs, clock, hb, F, ?_, hD⟩
 unfold Dm at hD
 simp only [DataW.map.injEq] at hD
 have := congrArg List.length hD
 rw [List.length_map, length_read] at this
 omega
def insE (x : Int × Nat) : List (Int × Nat) → List (Int × Nat)
 | [] => [x]
 | y :: r => if x.1 < y.1 then x :: y :: r else y :: insE x r
theorem insert_Dm (x : Int × Nat) : ∀ es : List (Int × Nat), DataW.insert ((.int .i64 x.1 : Lit), (.held x.2 : DataW Nat)) (es.map fun e => (.int .i64 e.1, .held e.2)) = (insE x es).map fun e => (.int .i64 e.1, .held e.2)
 | [] => rfl
 | y :: r => by
  simp only [List.map_cons, DataW.insert, insE, Lit.before, decide_eq_true_eq]
  split
  ·
   rfl
  ·
   rw [List.map_cons, insert_Dm x r]
theorem filter_Dm (es : List (Int × Nat)) (k : Int) : ((es.map fun e => ((.int .i64 e.1 : Lit), (.held e.2 : DataW Nat))).filter fun p => !p.1.sameKey (.int .i64 k)) = (es.filter fun e => !decide (e.1 = k)).map fun e => (.int .i64 e.1, .held e.2) := by
 rw [List.filter_map]
 congr 1
 simp [Function.comp_def, Lit.sameKey]
theorem del_Dm (es : List (Int × Nat)) (k : Int) : (Dm es).del (.int .i64 k) = Dm (es.filter fun e => !decide (e.1 = k)) := by
 unfold Dm DataW.del
 simp only
 rw [filter_Dm]
theorem put_Dm (es : List (Int × Nat)) (x : Int × Nat) (h : es.any (fun e => decide (e.1 = x.1)) = false) : (Dm es).put (.int .i64 x.1) (.held x.2) = Dm (insE x es) := by
 unfold Dm DataW.put
 simp only
 rw [filter_Dm, List.filter_eq_self.2 (fun e he => ?_), insert_Dm]
 have := List.any_eq_false.1 h e he
 simpa using this
section
variable {P : Program} {k : TypeId} {w w1 : World} {m : Nat} {es : List (Int × Nat)} {S : List Nat}
theorem MapI.lt (h : MapI P k w m es) : m < w.heap.size := World.ownsMap.lt h
theorem MapI.keep (h : MapI P k w m es) (f : Fr S w w1) (hn : m ∉ S) : MapI P k w1 m es := by
 obtain ⟨cs, clock, hb, F, hs, hD⟩ := h
 exact ⟨cs, clock, (f.block m (Array.getElem?_eq_some_iff.1 hb).1 hn).trans hb, F, hs, hD⟩
theorem MapI.made (w : World) : MapI P k (w.alloc (.map #[] 0)) w.heap.size [] := World.ownsMap_made w P k ptrR
structure MT (P : Program) (t k e : TypeId) : Prop where
 t : P.underlying t = some (.map k e)
 k : P.underlying k = some (.int .i64)
 z : ∀ w, (zeroValue e).run P w = .ok (.pointer none) w
end
theorem Fr.of_turned {w w1 : World} {m : Nat} (h : w.grownBy w1 (some m)) : Fr [m] w w1 := Fr.of_grown h (fun j hj => .inl (by simp only [Option.some.injEq] at hj; simp [hj]))
section
variable {P : Program} {ι : Type} {ops : Array Oper} {N : Nat} {S : ι → Act → World → Prop} {R : World → World → Prop} {x y : ι} {o : Oper} {e e' : Env} {w : World}
variable {t k el : TypeId} {m : Nat} {es : List (Int × Nat)}
def upAt (ops : Array Oper) (N : Nat) (e : Env) (o : Oper) : Option (TypeId × Value × Int × Value × Option Tmp) :=
 bif onB ops N e o then
  match o.op with
  | .mapUpdate t z u v => (match ev e u with | .int .i64 j => some (t, ev e z, j, ev e v, o.dst) | _ => none)
  | _ => none
 else none
theorem WO.up (hT : TkE P ops R S x o y) (M : MT P t k el) {j : Int} {b : Nat} (h : upAt ops N e o = some (t, .map (some m), j, .pointer (some ⟨b, 0, none⟩), none)) (hm : MapI P k w m es) (hj : -9223372036854775808 ≤ j ∧ j ≤ 9223372036854775807)
  (hno : es.any (fun e => decide (e.1 = j)) = false) (hl : es.length ≤ 1000000) (hR : ∀ w', Fr [m] w w' → R w w') (kk : ∀ w', MapI P k w' m (insE (j, b) es) → Fr [m] w w' → WO S N y e w') : WO S N x e w := by
 unfold upAt at h
 cases ho : onB ops N e o with
 | false => rw [ho] at h; cases h
 | true =>
  rw [ho] at h
  simp only [cond_true] at h
  split at h
  ·
   rename_i t' z u v hop
   split at h
   ·
    rename_i j' hu
    simp only [Option.some.injEq, Prod.mk.injEq] at h
    obtain ⟨rfl, hz, rfl, hv, hd⟩ := h
    have hw : (Lit.int .i64 j').wf = true := by
     have : IntKind.i64.min = -9223372036854775808 := by decide
     have : IntKind.i64.max = 9223372036854775807 := by decide
     simp [Lit.wf]
     omega
    obtain ⟨w', h1, h2, h3⟩ := World.ownsMap.update hm (int_keyed M.k) M.t (by unfold maxLen; omega) (keyOf_int_mk M.k hw) (ptrR_mk b)
    rw [put_Dm es (j', b) hno] at h2
    have hF := Fr.of_turned h3
    refine WO.on hT ho fun a ha h4 h5 _ Q => ?_
    have hrun : (execOp (ev e) o).run P w = .ok .skip w' := by
     unfold execOp
     simp only [hop, hz, hu, hv, Sem.run_bind, h1, Result.andThen_ok, Sem.run_pure]
    simp only [Oper.wp, h4, hrun, Oper.upon]
    have hp := ha.put o.dst undef h5
    rw [hd] at hp ⊢
    exact ⟨hR _ hF, kk w' (own_tight h2) hF _ hp⟩
   ·
    cases h
  ·
   cases h
def dlAt (ops : Array Oper) (N : Nat) (e : Env) (o : Oper) : Option (TypeId × TypeId × Value × Int × Option Tmp) :=
 bif onB ops N e o then
  match o.op with
  | .call { callee := .builtin .delete, args := ⟨[z, u]⟩, argTypes := ⟨[t, k]⟩ } => (match ev e u with | .int .i64 j => some (t, k, ev e z, j, o.dst) | _ => none)
  | _ => none
 else none
theorem WO.dl (hT : TkE P ops R S x o y) (M : MT P t k el) {j : Int} {dd : Option Tmp} (h : dlAt ops N e o = some (t, k, .map (some m), j, dd)) (hm : MapI P k w m es) (hj : -9223372036854775808 ≤ j ∧ j ≤ 9223372036854775807)
  (hR : ∀ w', Fr [m] w w' → R w w') (kk : ∀ w', MapI P k w' m (es.filter fun e => !decide (e.1 = j)) → Fr [m] w w' → WO S N y (putE e dd (.tuple #[])) w') : WO S N x e w := by
 unfold dlAt at h
 cases ho : onB ops N e o with
 | false => rw [ho] at h; cases h
 | true =>
  rw [ho] at h
  simp only [cond_true] at h
  split at h
  ·
   rename_i z u t' k' hop
   split at h
   ·
    rename_i j' hu
    simp only [Option.some.injEq, Prod.mk.injEq] at h
    obtain ⟨rfl, rfl, hz, rfl, hd⟩ := h
    have hw : (Lit.int .i64 j').wf = true := by
     have : IntKind.i64.min = -9223372036854775808 := by decide
     have : IntKind.i64.max = 9223372036854775807 := by decide
     simp [Lit.wf]
     omega
    obtain ⟨w', h1, h2, h3⟩ := World.ownsMap.drop hm (int_keyed M.k) M.t (keyOf_int_mk M.k hw) o.type
    rw [del_Dm] at h2
    have hF := Fr.of_turned h3.grown
    refine WO.on hT ho fun a ha h4 h5 _ Q => ?_
    have hrun : (execOp (ev e) o).run P w = .ok (.value (.tuple #[])) w' := by
     unfold execOp
     simp only [hop, resolve, invoke, builtin, Sem.run_bind, Sem.run_pure, Result.andThen_ok, List.map_toArray, List.map_cons, List.map_nil, hz, hu, h1]
    simp only [Oper.wp, h4, hrun, Oper.upon]
    have hp := ha.put o.dst (.tuple #[]) h5
    rw [hd] at hp ⊢
    exact ⟨hR _ hF, kk w' (own_tight h2) hF _ hp⟩
   ·
    cases h
  ·
   cases h
def Rng (P : Program) (k : TypeId) (w : World) (m r : Nat) (es td : List (Int × Nat)) : Prop :=
 ∃ left cnt, w.ranges P k ptrR m r es.length (Dm es) left cnt ∧ td = es.filter fun e => left (.int .i64 e.1)
theorem Rng.keep {w1 : World} {r : Nat} {td : List (Int × Nat)} {F : List Nat} (h : Rng P k w m r es td) (f : Fr F w w1) (h1 : m ∉ F) (h2 : r ∉ F) : Rng P k w1 m r es td := by
 obtain ⟨left, cnt, h3, h4⟩ := h
 have l1 := h3.owns.lt
 have l2 := h3.lt
 refine ⟨left, cnt, ?_, h4⟩
 obtain ⟨cs, clock, since, seen, c0, hb, Ft, hs, hD, hr, rest⟩ := h3
 exact ⟨cs, clock, since, seen, c0, (f.block m l1 h1).trans hb, Ft, hs, hD, (f.block r l2 h2).trans hr, rest⟩
theorem Rng.owns {r : Nat} {td : List (Int × Nat)} (h : Rng P k w m r es td) : MapI P k w m es := by
 obtain ⟨left, cnt, h3, _⟩ := h
 exact h3.owns
def Ent (P : Program) (w : World) (r : Nat) (x : Int × Nat) : Prop := (Instr.entry (.pointer (some ⟨r, 0, none⟩))).run P w = .ok (.tuple #[.int .i64 x.1, .pointer (some ⟨x.2, 0, none⟩)]) w
def enAt (ops : Array Oper) (N : Nat) (e : Env) (o : Oper) : Option (Value × Option Tmp) :=
 bif onB ops N e o then
  match o.op with
  | .entry z => some (ev e z, o.dst)
  | _ => none
 else none
theorem WO.en (hT : TkS P ops R S x o y) (d : Nat) {r : Nat} {z : Int × Nat} (h : enAt ops N e o = some (.pointer (some ⟨r, 0, none⟩), some d)) (hE : ∀ w', R w w' → Ent P w' r z) (kk : WO S N y ((d, .tuple #[.int .i64 z.1, .pointer (some ⟨z.2, 0, none⟩)]) :: e) w) : WO S N x e w := by
 unfold enAt at h
 cases ho : onB ops N e o with
 | false => rw [ho] at h; cases h
 | true =>
  rw [ho] at h
  simp only [cond_true] at h
  split at h
  ·
   rename_i u hop
   simp only [Option.some.injEq, Prod.mk.injEq] at h
   obtain ⟨hz, hd⟩ := h
   refine WO.val hT ho (v := .tuple #[.int .i64 z.1, .pointer (some ⟨z.2, 0, none⟩)]) (fun w' hR => ?_) (by rw [hd]; exact kk)
   have := hE w' hR
   unfold Ent at this
   unfold execOp
   simp only [hop, hz, Sem.run_bind, this, Result.andThen_ok, Sem.run_pure]
  ·
   cases h
end
end Go.Proofs.YtdhonbahpcmmnaaGreatDoor.Eng
end
