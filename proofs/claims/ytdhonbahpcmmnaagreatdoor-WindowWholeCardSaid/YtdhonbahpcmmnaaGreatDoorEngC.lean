/- The engine: a loop round by round; paths that come together again. -/
import Derived.Test.YtdhonbahpcmmnaaGreatDoorEng
import Derived.Test.YtdhonbahpcmmnaaGreatDoorLinePure
import Derived.Maps.OwnSet
import Derived.Maps.Range
section
set_option linter.unusedVariables false
namespace Go.Proofs.YtdhonbahpcmmnaaGreatDoor.Eng
open Go Go.Proofs.YtdhonbahpcmmnaaGreatDoor
section
variable {P : Program} {Q : Exit → Act → World → Prop} {N : Nat} {e e' : Env} {w : World} {x y : Code}
def inL (P : Program) (x : Code) (Q : Exit → Act → World → Prop) (a : Act) (w : World) : Prop :=
 ∀ (b : Frame) (k : List Item) (cs : List Frame), ∃ ex a' w', Q ex a' w' ∧ Arrives P (lone (b.at a (.code x :: .inLoop x :: k)) cs w) b k cs ex a' w'
def WL (P : Program) (N : Nat) (x : Code) (Q : Exit → Act → World → Prop) (e : Env) (w : World) : Prop := ∀ a, Rep N e a → inL P x Q a w
theorem WE.unroll (k : WL P N x Q e w) : WE P N (.loop x) Q e w := by
 intro a ha b k' cs
 obtain ⟨ex, a', w', hq, harr⟩ := k a ha b k' cs
 exact ⟨ex, a', w', hq, .of_steps (.one step_loop) harr⟩
theorem WL.go (k : WE P N x (Exit.then (inL P x Q) Q) e w) : WL P N x Q e w := by
 intro a ha b k' cs
 obtain ⟨ex, a₁, w₁, hq, harr⟩ := k a ha b (.inLoop x :: k') cs
 cases ex with
 | normal =>
  obtain ⟨e₂, a₂, w₂, hq₂, harr₂⟩ := hq b k' cs
  exact ⟨e₂, a₂, w₂, hq₂, .of_steps (Steps.trans harr (.one step_inLoop)) harr₂⟩
 | exit id => exact ⟨_, a₁, w₁, hq, .pass (x := .inLoop x) rfl (fun _ _ => .inl (by simp)) harr⟩
 | goto l => exact ⟨_, a₁, w₁, hq, .pass (x := .inLoop x) rfl (fun _ _ => .inl (by simp)) harr⟩
 | ret => exact ⟨_, a₁, w₁, hq, .pass (x := .inLoop x) rfl (fun _ _ => .inl (by simp)) harr⟩
 | panic ch => exact ⟨_, a₁, w₁, hq, .pass (x := .inLoop x) rfl (fun _ _ => .inl (by simp)) harr⟩
 | outgrown => exact ⟨_, a₁, w₁, hq, .pass (x := .inLoop x) rfl (fun _ _ => .inl (by simp)) harr⟩
theorem WQ.thenL (k : WL P N x Q e w) : WQ (Exit.then (inL P x Q) Q) N .normal e w := fun a ha => k a ha
theorem WE.seqJ {α : Type} (E : α → Env) (I : α → World → Prop) (k2 : ∀ z w', I z w' → WE P N y Q (E z) w')
  (k1 : WE P N x (Exit.then (fun a' w' => ∃ z, Rep N (E z) a' ∧ I z w') Q) e w) : WE P N (.seq x y) Q e w := by
 intro a ha
 refine wp_seq fun b k cs => ?_
 obtain ⟨ex, a', w', hq, harr⟩ := k1 a ha b k cs
 refine ⟨ex, a', w', ?_, harr⟩
 cases ex with
 | normal => obtain ⟨z, hR, hI⟩ := hq; exact k2 z w' hI a' hR
 | exit id => exact hq
 | goto l => exact hq
 | ret => exact hq
 | panic ch => exact hq
 | outgrown => exact hq
end
def Kp (bs : List Nat) (w w' : World) : Prop := ∀ b, b ∈ bs → w'.heap[b]? = w.heap[b]?
theorem kpR (bs : List Nat) (w : World) : Kp bs w w := fun _ _ => rfl
theorem kpT (bs : List Nat) (w w1 w2 : World) (h : Kp bs w w1) (k : Kp bs w1 w2) : Kp bs w w2 := fun b hb => (k b hb).trans (h b hb)
theorem kp_of {bs S : List Nat} {w : World} (h : ∀ b ∈ bs, b < w.heap.size ∧ b ∉ S) : ∀ w', Fr S w w' → Kp bs w w' := fun w' k b hb => k.block b (h b hb).1 (h b hb).2
theorem kp0 {S : List Nat} {w : World} : ∀ b ∈ ([] : List Nat), b < w.heap.size ∧ b ∉ S := by simp
theorem kpC {b : Nat} {bs S : List Nat} {w : World} (h : b < w.heap.size) (n : b ∉ S) (k : ∀ b ∈ bs, b < w.heap.size ∧ b ∉ S) : ∀ x ∈ b :: bs, x < w.heap.size ∧ x ∉ S := by
 intro x hx
 rcases List.mem_cons.1 hx with rfl | hx
 ·
  exact ⟨h, n⟩
 ·
  exact k x hx
theorem _root_.Go.Proofs.YtdhonbahpcmmnaaGreatDoor.Blk.kp {bs : List Nat} {w w1 : World} {g : Nat} {cs : Array Value} {T : TypeId} (h : Blk w g cs T) (k : Kp bs w w1) (hg : g ∈ bs) : Blk w1 g cs T := (k g hg).trans h
end Go.Proofs.YtdhonbahpcmmnaaGreatDoor.Eng
end
section
set_option linter.unusedVariables false
set_option linter.unusedSimpArgs false
namespace Go.Proofs.YtdhonbahpcmmnaaGreatDoor.Eng
open Go Go.RowKit Go.Maps Go.Proofs.YtdhonbahpcmmnaaGreatDoor
def ptrR (v : Value) : Option (DataW Nat × List MemPlace) :=
 match v with
 | .pointer none => some (.nil, [])
 | .pointer (some ⟨b, 0, none⟩) => some (.held b, [])
 | _ => none
theorem ptrR_mk (b : Nat) : ptrR (.pointer (some ⟨b, 0, none⟩)) = some (.held b, []) := rfl
def Dm (es : List (Int × Nat)) : DataW Nat := .map (es.map fun e => (.int .i64 e.1, .held e.2))
def MapI (P : Program) (k : TypeId) (w : World) (m : Nat) (es : List (Int × Nat)) : Prop := w.ownsMap P k ptrR m es.length (Dm es)
theorem own_tight {P : Program} {k : TypeId} {w : World} {m n : Nat} {es : List (Int × Nat)} (h : w.ownsMap P k ptrR m n (Dm es)) : MapI P k w m es := by
 obtain ⟨cs, clock, hb, F, hs, hD⟩ := h
 refine ⟨cs, clock, hb, F, ?_, hD⟩
 unfold Dm at hD
 simp only [DataW.map.injEq] at hD
 have := congrArg List.length hD
 rw [List.length_map, length_read] at this
 omega
def insE (x : Int × Nat) : List (Int × Nat) → List (Int × Nat)
 | [] => [x]
 | y :: r => if x.1 < y.1 then x :: y :: r else y :: insE x r
theorem insert_Dm (x : Int × Nat) : ∀ es : List (Int × Nat), DataW.insert ((.int .i64 x.1 : Lit), (.held x.2 : DataW Nat)) (es.map fun e => (.int .i64 e.1, .held e.2)) = (insE x es).map fun e => (.int .i64 e.1, .held e.2)
 | [] => rfl
 | y :: r => by
  simp only [List.map_cons, DataW.insert, insE, Lit.before, decide_eq_true_eq]
  split
  ·
   rfl
  ·
   rw [List.map_cons, insert_Dm x r]
theorem filter_Dm (es : List (Int × Nat)) (k : Int) : ((es.map fun e => ((.int .i64 e.1 : Lit), (.held e.2 : DataW Nat))).filter fun p => !p.1.sameKey (.int .i64 k)) = (es.filter fun e => !decide (e.1 = k)).map fun e => (.int .i64 e.1, .held e.2) := by
 rw [List.filter_map]
 congr 1
 simp [Function.comp_def, Lit.sameKey]
theorem del_Dm (es : List (Int × Nat)) (k : Int) : (Dm es).del (.int .i64 k) = Dm (es.filter fun e => !decide (e.1 = k)) := by
 unfold Dm DataW.del
 simp only
 rw [filter_Dm]
theorem put_Dm (es : List (Int × Nat)) (x : Int × Nat) (h : es.any (fun e => decide (e.1 = x.1)) = false) : (Dm es).put (.int .i64 x.1) (.held x.2) = Dm (insE x es) := by
 unfold Dm DataW.put
 simp only
 rw [filter_Dm, List.filter_eq_self.2 (fun e he => ?_), insert_Dm]
 have := List.any_eq_false.1 h e he
 simpa using this
section
variable {P : Program} {k : TypeId} {w w1 : World} {m : Nat} {es : List (Int × Nat)} {S : List Nat}
theorem MapI.lt (h : MapI P k w m es) : m < w.heap.size := World.ownsMap.lt h
theorem MapI.keep (h : MapI P k w m es) (f : Fr S w w1) (hn : m ∉ S) : MapI P k w1 m es := by
 obtain ⟨cs, clock, hb, F, hs, hD⟩ := h
 exact ⟨cs, clock, (f.block m (Array.getElem?_eq_some_iff.1 hb).1 hn).trans hb, F, hs, hD⟩
theorem MapI.made (w : World) : MapI P k (w.alloc (.map #[] 0)) w.heap.size [] := World.ownsMap_made w P k ptrR
structure MT (P : Program) (t k e : TypeId) : Prop where
 t : P.underlying t = some (.map k e)
 k : P.underlying k = some (.int .i64)
 z : ∀ w, (zeroValue e).run P w = .ok (.pointer none) w
end
theorem Fr.of_turned {w w1 : World} {m : Nat} (h : w.grownBy w1 (some m)) : Fr [m] w w1 := Fr.of_grown h (fun j hj => .inl (by simp only [Option.some.injEq] at hj; simp [hj]))
section
variable {P : Program} {ι : Type} {ops : Array Oper} {N : Nat} {S : ι → Act → World → Prop} {R : World → World → Prop} {x y : ι} {o : Oper} {e e' : Env} {w : World}
variable {t k el : TypeId} {m : Nat} {es : List (Int × Nat)}
def upAt (ops : Array Oper) (N : Nat) (e : Env) (o : Oper) : Option (TypeId × Value × Int × Value × Option Tmp) :=
 bif onB ops N e o then
  match o.op with
  | .mapUpdate t z u v => (match ev e u with | .int .i64 j => some (t, ev e z, j, ev e v, o.dst) | _ => none)
  | _ => none
 else none
theorem WO.up (hT : TkE P ops R S x o y) (M : MT P t k el) {j : Int} {b : Nat} (h : upAt ops N e o = some (t, .map (some m), j, .pointer (some ⟨b, 0, none⟩), none)) (hm : MapI P k w m es) (hj : -9223372036854775808 ≤ j ∧ j ≤ 9223372036854775807)
  (hno : es.any (fun e => decide (e.1 = j)) = false) (hl : es.length ≤ 1000000) (hR : ∀ w', Fr [m] w w' → R w w') (kk : ∀ w', MapI P k w' m (insE (j, b) es) → Fr [m] w w' → WO S N y e w') : WO S N x e w := by
 unfold upAt at h
 cases ho : onB ops N e o with
 | false => rw [ho] at h; cases h
 | true =>
  rw [ho] at h
  simp only [cond_true] at h
  split at h
  ·
   rename_i t' z u v hop
   split at h
   ·
    rename_i j' hu
    simp only [Option.some.injEq, Prod.mk.injEq] at h
    obtain ⟨rfl, hz, rfl, hv, hd⟩ := h
    have hw : (Lit.int .i64 j').wf = true := by
     have : IntKind.i64.min = -9223372036854775808 := by decide
     have : IntKind.i64.max = 9223372036854775807 := by decide
     simp [Lit.wf]
     omega
    obtain ⟨w', h1, h2, h3⟩ := World.ownsMap.update hm (int_keyed M.k) M.t (by unfold maxLen; omega) (keyOf_int_mk M.k hw) (ptrR_mk b)
    rw [put_Dm es (j', b) hno] at h2
    have hF := Fr.of_turned h3
    refine WO.on hT ho fun a ha h4 h5 _ Q => ?_
    have hrun : (execOp (ev e) o).run P w = .ok .skip w' := by
     unfold execOp
     simp only [hop, hz, hu, hv, Sem.run_bind, h1, Result.andThen_ok, Sem.run_pure]
    simp only [Oper.wp, h4, hrun, Oper.upon]
    have hp := ha.put o.dst undef h5
    rw [hd] at hp ⊢
    exact ⟨hR _ hF, kk w' (own_tight h2) hF _ hp⟩
   ·
    cases h
  ·
   cases h
def dlAt (ops : Array Oper) (N : Nat) (e : Env) (o : Oper) : Option (TypeId × TypeId × Value × Int × Option Tmp) :=
 bif onB ops N e o then
  match o.op with
  | .call { callee := .builtin .delete, args := ⟨[z, u]⟩, argTypes := ⟨[t, k]⟩ } => (match ev e u with | .int .i64 j => some (t, k, ev e z, j, o.dst) | _ => none)
  | _ => none
 else none
theorem WO.dl (hT : TkE P ops R S x o y) (M : MT P t k el) {j : Int} {dd : Option Tmp} (h : dlAt ops N e o = some (t, k, .map (some m), j, dd)) (hm : MapI P k w m es) (hj : -9223372036854775808 ≤ j ∧ j ≤ 9223372036854775807)
  (hR : ∀ w', Fr [m] w w' → R w w') (kk : ∀ w', MapI P k w' m (es.filter fun e => !decide (e.1 = j)) → Fr [m] w w' → WO S N y (putE e dd (.tuple #[])) w') : WO S N x e w := by
 unfold dlAt at h
 cases ho : onB ops N e o with
 | false => rw [ho] at h; cases h
 | true =>
  rw [ho] at h
  simp only [cond_true] at h
  split at h
  ·
   rename_i z u t' k' hop
   split at h
   ·
    rename_i j' hu
    simp only [Option.some.injEq, Prod.mk.injEq] at h
    obtain ⟨rfl, rfl, hz, rfl, hd⟩ := h
    have hw : (Lit.int .i64 j').wf = true := by
     have : IntKind.i64.min = -9223372036854775808 := by decide
     have : IntKind.i64.max = 9223372036854775807 := by decide
     simp [Lit.wf]
     omega
    obtain ⟨w', h1, h2, h3⟩ := World.ownsMap.drop hm (int_keyed M.k) M.t (keyOf_int_mk M.k hw) o.type
    rw [del_Dm] at h2
    have hF := Fr.of_turned h3.grown
    refine WO.on hT ho fun a ha h4 h5 _ Q => ?_
    have hrun : (execOp (ev e) o).run P w = .ok (.value (.tuple #[])) w' := by
     unfold execOp
     simp only [hop, resolve, invoke, builtin, Sem.run_bind, Sem.run_pure, Result.andThen_ok, List.map_toArray, List.map_cons, List.map_nil, hz, hu, h1]
    simp only [Oper.wp, h4, hrun, Oper.upon]
    have hp := ha.put o.dst (.tuple #[]) h5
    rw [hd] at hp ⊢
    exact ⟨hR _ hF, kk w' (own_tight h2) hF _ hp⟩
   ·
    cases h
  ·
   cases h
def Rng (P : Program) (k : TypeId) (w : World) (m r : Nat) (es td : List (Int × Nat)) : Prop :=
 ∃ left cnt, w.ranges P k ptrR m r es.length (Dm es) left cnt ∧ td = es.filter fun e => left (.int .i64 e.1)
theorem Rng.keep {w1 : World} {r : Nat} {td : List (Int × Nat)} {F : List Nat} (h : Rng P k w m r es td) (f : Fr F w w1) (h1 : m ∉ F) (h2 : r ∉ F) : Rng P k w1 m r es td := by
 obtain ⟨left, cnt, h3, h4⟩ := h
 have l1 := h3.owns.lt
 have l2 := h3.lt
 refine ⟨left, cnt, ?_, h4⟩
 obtain ⟨cs, clock, since, seen, c0, hb, Ft, hs, hD, hr, rest⟩ := h3
 exact ⟨cs, clock, since, seen, c0, (f.block m l1 h1).trans hb, Ft, hs, hD, (f.block r l2 h2).trans hr, rest⟩
theorem Rng.owns {r : Nat} {td : List (Int × Nat)} (h : Rng P k w m r es td) : MapI P k w m es := by
 obtain ⟨left, cnt, h3, _⟩ := h
 exact h3.owns
def Ent (P : Program) (w : World) (r : Nat) (x : Int × Nat) : Prop := (Instr.entry (.pointer (some ⟨r, 0, none⟩))).run P w = .ok (.tuple #[.int .i64 x.1, .pointer (some ⟨x.2, 0, none⟩)]) w
def enAt (ops : Array Oper) (N : Nat) (e : Env) (o : Oper) : Option (Value × Option Tmp) :=
 bif onB ops N e o then
  match o.op with
  | .entry z => some (ev e z, o.dst)
  | _ => none
 else none
theorem WO.en (hT : TkS P ops R S x o y) (d : Nat) {r : Nat} {z : Int × Nat} (h : enAt ops N e o = some (.pointer (some ⟨r, 0, none⟩), some d)) (hE : ∀ w', R w w' → Ent P w' r z) (kk : WO S N y ((d, .tuple #[.int .i64 z.1, .pointer (some ⟨z.2, 0, none⟩)]) :: e) w) : WO S N x e w := by
 unfold enAt at h
 cases ho : onB ops N e o with
 | false => rw [ho] at h; cases h
 | true =>
  rw [ho] at h
  simp only [cond_true] at h
  split at h
  ·
   rename_i u hop
   simp only [Option.some.injEq, Prod.mk.injEq] at h
   obtain ⟨hz, hd⟩ := h
   refine WO.val hT ho (v := .tuple #[.int .i64 z.1, .pointer (some ⟨z.2, 0, none⟩)]) (fun w' hR => ?_) (by rw [hd]; exact kk)
   have := hE w' hR
   unfold Ent at this
   unfold execOp
   simp only [hop, hz, Sem.run_bind, this, Result.andThen_ok, Sem.run_pure]
  ·
   cases h
end
end Go.Proofs.YtdhonbahpcmmnaaGreatDoor.Eng
end
section
set_option linter.unusedVariables false
namespace Go.Proofs.YtdhonbahpcmmnaaGreatDoor.Eng
open Go Go.Proofs.YtdhonbahpcmmnaaGreatDoor
section
variable {P : Program} {ops : Array Oper} {ms : List Md} {Q : Exit → Act → World → Prop} {N : Nat}
structure RT (R : World → World → Prop) : Prop where
 r : ∀ w, R w w
 t : ∀ w w1 w2, R w w1 → R w1 w2 → R w w2
theorem rtS : RT Same := ⟨sameR, sameT⟩
theorem rtB (B : Nat) : RT (FrB B) := ⟨frBR B, frBT B⟩
theorem rtK (bs : List Nat) : RT (Kp bs) := ⟨kpR bs, kpT bs⟩
def md (s r e : List Nat) (n : Nat) : List Md := (List.range n).map fun i => bif s.contains i then .still else bif r.contains i then .effR else bif e.contains i then .eff else .free
def okA (ops : Array Oper) (ms : List Md) (L : Array Bool) (e : Env) (i : Nat) : Bool :=
 match wantedE ops e (opAt ops i) with
 | some true => firstF ops ms L i
 | some false => firstO ops L i
 | none => false
theorem WO.stepA {R0 : World → World → Prop} (hrt : RT R0) {f i d : Nat} {L : Array Bool} {e : Env} {w : World} {v : Value} (hd : (opAt ops i).dst = some d) (h : ∀ w0, oneV P ops N e (opAt ops i) w0 = some (v, w0)) (hok : okA ops ms L e i = true)
  (k : WO (SA P ops ms R0 Q) N (f, L.setIfInBounds i true) ((d, v) :: e) w) : WO (SA P ops ms R0 Q) N (f + 1, L) e w := by
 unfold okA at hok
 split at hok
 ·
  refine WO.one0 (SA.F hrt.r hrt.t f i L hok) (funext h) ?_
  rw [hd]
  exact k
 ·
  rename_i hw
  refine WO.off (SA.O hrt.r hrt.t f i L hok) d ?_ ?_
  ·
   have h0 := h w
   unfold oneV at h0
   unfold offAt
   rw [hw] at h0 ⊢
   cases hd' : dstOk N (opAt ops i).dst with
   | false => rw [hd'] at h0; cases h0
   | true => simp [hd]
  ·
   have h0 := h w
   unfold oneV at h0
   rw [hw] at h0
   cases hd' : dstOk N (opAt ops i).dst with
   | false => rw [hd'] at h0; cases h0
   | true =>
    rw [hd'] at h0
    simp only [cond_true, Option.some.injEq, Prod.mk.injEq, and_true] at h0
    rw [h0]
    exact k
 ·
  cases hok
def runVA (P : Program) (ops : Array Oper) (ms : List Md) (N : Nat) (w : World) : List Nat → Array Bool → Env → Option (Env × List World)
 | [], _, e => some (e, [])
 | i :: is, L, e =>
  bif okA ops ms L e i then
   match (opAt ops i).dst, oneV P ops N e (opAt ops i) w with
   | some d, some (v, w') => (runVA P ops ms N w is (L.setIfInBounds i true) ((d, v) :: e)).map fun x => (x.1, w' :: x.2)
   | _, _ => none
  else none
theorem runVA_pre {w : World} : ∀ (is : List Nat) (L : Array Bool) (e e' : Env) (ws : List World), runVA P ops ms N w is L e = some (e', ws) → ∃ pre, e' = pre ++ e ∧ pre.length = is.length
 | [], L, e, e', ws, h => by
  simp only [runVA, Option.some.injEq, Prod.mk.injEq] at h
  exact ⟨[], by simp [h.1], rfl⟩
 | i :: is, L, e, e', ws, h => by
  simp only [runVA] at h
  cases hk : okA ops ms L e i with
  | false => rw [hk] at h; cases h
  | true =>
   rw [hk] at h
   simp only [cond_true] at h
   split at h
   ·
    rename_i d v w' hd hv
    cases h2 : runVA P ops ms N w is (L.setIfInBounds i true) ((d, v) :: e) with
    | none => rw [h2] at h; cases h
    | some x =>
     rw [h2] at h
     simp only [Option.map_some, Option.some.injEq, Prod.mk.injEq] at h
     obtain ⟨pre, h3, h4⟩ := runVA_pre is _ _ x.1 x.2 h2
     exact ⟨pre ++ [(d, v)], by rw [← h.1, h3]; simp, by simp [h4]⟩
   ·
    cases h
def setA (L : Array Bool) : List Nat → Array Bool
 | [] => L
 | i :: is => setA (L.setIfInBounds i true) is
theorem WO.batchA {R0 : World → World → Prop} (hrt : RT R0) : ∀ (is : List Nat) {f : Nat} {L : Array Bool} {e e' : Env} {w : World}, ((fun w => runVA P ops ms N w is L e) = fun w => some (e', List.replicate is.length w)) → WO (SA P ops ms R0 Q) N (f, setA L is) e' w → WO (SA P ops ms R0 Q) N (f + is.length, L) e w
 | [], f, L, e, e', w, h, k => by
  have := congrFun h w
  simp only [runVA, List.length_nil, List.replicate, Option.some.injEq, Prod.mk.injEq, and_true] at this
  subst this
  exact k
 | i :: is, f, L, e, e', w, h, k => by
  have hx : ∀ w0, okA ops ms L e i = true ∧ ∃ d v, (opAt ops i).dst = some d ∧ oneV P ops N e (opAt ops i) w0 = some (v, w0) ∧ runVA P ops ms N w0 is (L.setIfInBounds i true) ((d, v) :: e) = some (e', List.replicate is.length w0) := fun w0 => by
   have h0 := congrFun h w0
   simp only [runVA] at h0
   cases hk : okA ops ms L e i with
   | false => rw [hk] at h0; cases h0
   | true =>
    rw [hk] at h0
    simp only [cond_true] at h0
    refine ⟨rfl, ?_⟩
    split at h0
    ·
     rename_i d v w1 hd h1
     cases h2 : runVA P ops ms N w0 is (L.setIfInBounds i true) ((d, v) :: e) with
     | none => rw [h2] at h0; cases h0
     | some x2 =>
      rw [h2] at h0
      simp only [Option.map_some, List.length_cons, Option.some.injEq, Prod.mk.injEq, List.replicate_succ, List.cons.injEq] at h0
      obtain ⟨h3, h4, h5⟩ := h0
      subst h4
      exact ⟨d, v, hd, h1, by rw [h2, ← h3, ← h5]⟩
    ·
     cases h0
  obtain ⟨hok, d, v, hd, hv, hr⟩ := hx w
  have hall : ∀ w0, oneV P ops N e (opAt ops i) w0 = some (v, w0) ∧ runVA P ops ms N w0 is (L.setIfInBounds i true) ((d, v) :: e) = some (e', List.replicate is.length w0) := fun w0 => by
   obtain ⟨_, d0, v0, hd0, hv0, hr0⟩ := hx w0
   rw [hd] at hd0
   simp only [Option.some.injEq] at hd0
   subst hd0
   obtain ⟨p1, q1, l1⟩ := runVA_pre _ _ _ _ _ hr
   obtain ⟨p2, q2, l2⟩ := runVA_pre _ _ _ _ _ hr0
   have := (List.append_inj (q1.symm.trans q2) (l1.trans l2.symm)).2
   simp only [List.cons.injEq, Prod.mk.injEq, true_and, and_true] at this
   subst this
   exact ⟨hv0, hr0⟩
  have hk : WO (SA P ops ms R0 Q) N (f + is.length, L.setIfInBounds i true) ((d, v) :: e) w := WO.batchA hrt is (funext fun w0 => (hall w0).2) k
  exact WO.stepA hrt hd (fun w0 => (hall w0).1) hok hk
theorem Yr0 {R0 : World → World → Prop} {e : Env} {w : World} {f : Nat} {L : Array Bool} (is : List Nat) (pre : Env) (k : WO (SA P ops ms R0 Q) N (f, setA L is) (pre ++ e) w) (h : (fun w => runVA P ops ms N w is L e) = (fun w => some (pre ++ e, List.replicate is.length w)) := by kernel_rfl) {f' : Nat} (hf : f + is.length = f' := by rfl) (hrt : RT R0 := by first | exact rtS | exact rtB _ | exact rtK _) : WO (SA P ops ms R0 Q) N (f', L) e w := by
 subst hf
 exact WO.batchA hrt is h k
def envR (P : Program) (ops : Array Oper) (N : Nat) (w : World) (n i : Nat) (e : Env) : Env :=
 match runV P ops N w n i e with
 | some x => x.1
 | none => e
def envA (P : Program) (ops : Array Oper) (ms : List Md) (N : Nat) (w : World) (is : List Nat) (L : Array Bool) (e : Env) : Env :=
 match runVA P ops ms N w is L e with
 | some x => x.1
 | none => e
theorem Zr {e : Env} {w : World} (n : Nat) {i : Nat} (k : WO (SQ P ops Q) N (i + n) (envR P ops N w n i e) w) (hb : Nat.ble (i + n) ops.size = true := by kernel_rfl) (h : (fun w' => runV P ops N w' n i e) = (fun w' => some (envR P ops N w n i e, List.replicate n w')) := by kernel_rfl) : WO (SQ P ops Q) N i e w := WO.batch n i hb h k
theorem Yq {R0 : World → World → Prop} {e : Env} {w : World} {f : Nat} {L : Array Bool} (a n : Nat) (k : WO (SA P ops ms R0 Q) N (f, setA L (List.range' a n)) (envA P ops ms N w (List.range' a n) L e) w) (h : (fun w' => runVA P ops ms N w' (List.range' a n) L e) = (fun w' => some (envA P ops ms N w (List.range' a n) L e, List.replicate (List.range' a n).length w')) := by kernel_rfl) {f' : Nat} (hf : f + n = f' := by rfl) (hrt : RT R0 := by first | exact rtS | exact rtB _ | exact rtK _) : WO (SA P ops ms R0 Q) N (f', L) e w := by
 subst hf
 have hk := WO.batchA hrt (f := f) (List.range' a n) h k
 rwa [List.length_range'] at hk
theorem Yd {ms : List Md} {R : World → World → Prop} {L : Array Bool} {e : Env} {w : World} (k : WQ Q N .normal e w) (h : Region.ready .any ops L = [] := by kernel_rfl) : WO (SA P ops ms R Q) N (0, L) e w := WO.doneA h k
theorem Zd {i : Nat} {e : Env} {w : World} (k : WQ Q N .normal e w) (h : Nat.beq i ops.size = true := by kernel_rfl) : WO (SQ P ops Q) N i e w := WO.done h k
end
section
variable {P : Program} {ops : Array Oper} {Q : Exit → Act → World → Prop} {N : Nat} {e e' : Env} {w : World} {x y : Code}
theorem ZT {c : Operand} (k : WE P N x Q e w) (h : condE e c = some true := by kernel_rfl) : WE P N (.cond c x y) Q e w := WE.condT h k
theorem ZF {c : Operand} (k : WE P N y Q e w) (h : condE e c = some false := by kernel_rfl) : WE P N (.cond c x y) Q e w := WE.condF h k
theorem ZX {id id' : Nat} (k : WQ Q N (.exit id') e w) (h : Nat.beq id' id = false := by kernel_rfl) : WQ (Exit.inBlock id Q) N (.exit id') e w := WQ.blkX h k
theorem ZR {fn : Func} {R : Ending → World → Prop} (v : Value) (k : R (.returned v) w) (h : retV fn e = some v := by kernel_rfl) : WQ (bodyPost P fn R) N .ret e w := WQ.ret h k
theorem ZV {fn : Func} {R : Ending → World → Prop} (v : Value) (k : R (.returned v) w) (h : retV fn e = some v := by kernel_rfl) : WQ (bodyPost P fn R) N .normal e w := WQ.fall h k
theorem Zsg {id : Nat} (k : WO (SQ P ops (Exit.then (y.wp P Q) Q)) N 0 e w) : WE P N (.seq (.region id ops false) y) Q e w := WE.seq (WE.region k)
theorem Zdn {i : Nat} (k : WE P N y Q e w) (h : Nat.beq i ops.size = true := by kernel_rfl) : WO (SQ P ops (Exit.then (y.wp P Q) Q)) N i e w := WO.done h (WQ.thenN k)
theorem Ydn {ms : List Md} {R : World → World → Prop} {L : Array Bool} (k : WE P N y Q e w) (h : Region.ready .any ops L = [] := by kernel_rfl) : WO (SA P ops ms R (Exit.then (y.wp P Q) Q)) N (0, L) e w := WO.doneA h (WQ.thenN k)
theorem Zk (k : WE P N y Q e w) : WE P N .skip (Exit.then (y.wp P Q) Q) e w := WE.skip (WQ.thenN k)
theorem Zn (k : WE P N y Q e w) : WQ (Exit.then (y.wp P Q) Q) N .normal e w := WQ.thenN k
theorem Zq (k : WE P N x (Exit.then (y.wp P Q) Q) e w) : WE P N (.seq x y) Q e w := WE.seq k
theorem ZE {id : Nat} (s r e_ : List Nat) (n : Nat) (k : ∀ w1, Fr [] w w1 → w1.heap.size = w.heap.size → WO (SA P ops (md s r e_ n) Same Q) N (n, Array.replicate n false) e w1) (hm : P.follows .mixedOrders = true := by kernel_rfl) (hn : ops.size = n := by kernel_rfl) : WE P N (.region id ops true) Q e w := WE.draw (md s r e_ n) Same sameR hm n _ hn (by rw [hn]) k
theorem ZER {id : Nat} (R0 : World → World → Prop) (s r e_ : List Nat) (n : Nat) (k : ∀ w1, Fr [] w w1 → w1.heap.size = w.heap.size → WO (SA P ops (md s r e_ n) R0 Q) N (n, Array.replicate n false) e w1) (hm : P.follows .mixedOrders = true := by kernel_rfl) (hn : ops.size = n := by kernel_rfl) (hrt : RT R0 := by first | exact rtS | exact rtB _ | exact rtK _) : WE P N (.region id ops true) Q e w := WE.draw (md s r e_ n) R0 hrt.r hm n _ hn (by rw [hn]) k
theorem Ze {f : FuncId} {fn : Func} {args : Array Value} {R : Ending → World → Prop} (hf : P.funcs[f]? = some fn) (c : Code) (k : WE P fn.ntmps c (bodyPost P fn R) (argsE 0 args.toList) w) (hb : fn.body = some c := by rfl) (hl : Nat.ble args.size fn.ntmps = true := by kernel_rfl) : Calls P f args w R := enter hf hb rfl hl rfl k
end
theorem _root_.Go.Proofs.YtdhonbahpcmmnaaGreatDoor.Blk.s {w : World} {g : Nat} {cs : Array Value} {T : TypeId} (h : Blk w g cs T) (i : Nat) {v : Value} (hv : cs[i]? = some v := by kernel_rfl) : ∀ w', Same w w' → w'.cell? ⟨g, i, none⟩ = some v := same (h.at i hv)
theorem _root_.Go.Proofs.YtdhonbahpcmmnaaGreatDoor.Blk.k {w w1 : World} {g : Nat} {cs : Array Value} {t : TypeId} (h : Blk w g cs t) (k : Fr [] w w1) : Blk w1 g cs t := h.keep k (nin0 _)
theorem _root_.Go.Proofs.YtdhonbahpcmmnaaGreatDoor.Blk.j {w w1 : World} {g b : Nat} {cs : Array Value} {t : TypeId} (h : Blk w g cs t) (k : Fr [b] w w1) (n : g ≠ b) : Blk w1 g cs t := h.keep k (ninC n (nin0 _))
theorem sgN {F : List Nat} {q g : Nat} (h : F = [g]) (n : q ≠ g) : q ∉ F := by rw [h]; simpa using n
theorem sgD {F G : List Nat} {g : Nat} (h : F = [g]) (n : g ∉ G) : ∀ y ∈ F, y ∉ G := by rw [h]; intro y hy; rw [List.mem_singleton.1 hy]; exact n
theorem sgG {F : List Nat} {B g : Nat} (h : F = [g]) (n : B ≤ g) : ∀ y ∈ F, B ≤ y := by rw [h]; intro y hy; rw [List.mem_singleton.1 hy]; exact n
theorem _root_.Go.Proofs.YtdhonbahpcmmnaaGreatDoor.Eng.RowB.k {w w1 : World} {b : Nat} {T : TypeId} {size cap : Nat} {xs : List (List Value)} (h : RowB w b T size cap xs) (k : Fr [] w w1) : RowB w1 b T size cap xs := h.keep k (nin0 _)
abbrev Pt (g o : Nat) : Value := .pointer (some ⟨g, o, none⟩)
abbrev J (x : Int) : Value := .int .i64 x
theorem dj0 {F : List Nat} : ∀ y ∈ F, y ∉ ([] : List Nat) := fun _ _ => nin0 _
theorem ltn {a b s : Nat} (h : a < s) (k : s ≤ b) : a ≠ b := Nat.ne_of_lt (Nat.lt_of_lt_of_le h k)
theorem ZoP {P : Program} {ops : Array Oper} {N : Nat} {e : Env} {w : World} {Q : Exit → Act → World → Prop} {i : Nat} (d : Nat) (p : Prop) [Decidable p] (k1 : p → WO (SQ P ops Q) N (i + 1) ((d, .bool true) :: e) w) (k2 : ¬ p → WO (SQ P ops Q) N (i + 1) ((d, .bool false) :: e) w) (hv : (fun w => oneD P ops N e (opAt ops i) w) = (fun w => some (d, .bool (decide p), w)) := by kernel_rfl) (hq_ : Nat.blt i ops.size = true := by kernel_rfl) : WO (SQ P ops Q) N i e w := WO.one (SQ.F i hq_) d (.bool (decide p)) hv (WO.topP p k1 k2)
theorem ZoPT {P : Program} {ops : Array Oper} {N : Nat} {e : Env} {w : World} {Q : Exit → Act → World → Prop} {i : Nat} (d : Nat) (p : Prop) [Decidable p] (h : p) (k : WO (SQ P ops Q) N (i + 1) ((d, .bool true) :: e) w) (hv : (fun w => oneD P ops N e (opAt ops i) w) = (fun w => some (d, .bool (decide p), w)) := by kernel_rfl) (hq_ : Nat.blt i ops.size = true := by kernel_rfl) : WO (SQ P ops Q) N i e w := WO.one (SQ.F i hq_) d (.bool (decide p)) hv (WO.topPT p h k)
theorem ZoPF {P : Program} {ops : Array Oper} {N : Nat} {e : Env} {w : World} {Q : Exit → Act → World → Prop} {i : Nat} (d : Nat) (p : Prop) [Decidable p] (h : ¬ p) (k : WO (SQ P ops Q) N (i + 1) ((d, .bool false) :: e) w) (hv : (fun w => oneD P ops N e (opAt ops i) w) = (fun w => some (d, .bool (decide p), w)) := by kernel_rfl) (hq_ : Nat.blt i ops.size = true := by kernel_rfl) : WO (SQ P ops Q) N i e w := WO.one (SQ.F i hq_) d (.bool (decide p)) hv (WO.topPF p h k)
theorem ZoN {P : Program} {ops : Array Oper} {N : Nat} {e : Env} {w : World} {Q : Exit → Act → World → Prop} {i : Nat} (d : Nat) (p : Prop) [Decidable p] (k1 : p → WO (SQ P ops Q) N (i + 1) ((d, .bool false) :: e) w) (k2 : ¬ p → WO (SQ P ops Q) N (i + 1) ((d, .bool true) :: e) w) (hv : (fun w => oneD P ops N e (opAt ops i) w) = (fun w => some (d, .bool (!decide p), w)) := by kernel_rfl) (hq_ : Nat.blt i ops.size = true := by kernel_rfl) : WO (SQ P ops Q) N i e w := WO.one (SQ.F i hq_) d (.bool (!decide p)) hv (WO.topN p k1 k2)
theorem ZoNT {P : Program} {ops : Array Oper} {N : Nat} {e : Env} {w : World} {Q : Exit → Act → World → Prop} {i : Nat} (d : Nat) (p : Prop) [Decidable p] (h : p) (k : WO (SQ P ops Q) N (i + 1) ((d, .bool false) :: e) w) (hv : (fun w => oneD P ops N e (opAt ops i) w) = (fun w => some (d, .bool (!decide p), w)) := by kernel_rfl) (hq_ : Nat.blt i ops.size = true := by kernel_rfl) : WO (SQ P ops Q) N i e w := WO.one (SQ.F i hq_) d (.bool (!decide p)) hv (WO.topNT p h k)
theorem ZoNF {P : Program} {ops : Array Oper} {N : Nat} {e : Env} {w : World} {Q : Exit → Act → World → Prop} {i : Nat} (d : Nat) (p : Prop) [Decidable p] (h : ¬ p) (k : WO (SQ P ops Q) N (i + 1) ((d, .bool true) :: e) w) (hv : (fun w => oneD P ops N e (opAt ops i) w) = (fun w => some (d, .bool (!decide p), w)) := by kernel_rfl) (hq_ : Nat.blt i ops.size = true := by kernel_rfl) : WO (SQ P ops Q) N i e w := WO.one (SQ.F i hq_) d (.bool (!decide p)) hv (WO.topNF p h k)
theorem Zw {P : Program} {ops : Array Oper} {N : Nat} {e : Env} {w : World} {Q : Exit → Act → World → Prop} {i : Nat} (d : Nat) (n m : Int) (k : WO (SQ P ops Q) N (i + 1) ((d, .int .i64 m) :: e) w) (hv : (fun w => oneD P ops N e (opAt ops i) w) = (fun w => some (d, .int .i64 (IntKind.i64.wrap n), w)) := by kernel_rfl) (h : n = m := by omega) (h2 : -9223372036854775808 ≤ m ∧ m ≤ 9223372036854775807 := by omega) (hq_ : Nat.blt i ops.size = true := by kernel_rfl) : WO (SQ P ops Q) N i e w := WO.one (SQ.F i hq_) d (.int .i64 (IntKind.i64.wrap n)) hv (WO.top (wrap_i64 h h2) k)
theorem Zwr {P : Program} {ops : Array Oper} {N : Nat} {e : Env} {w : World} {Q : Exit → Act → World → Prop} {i : Nat} (d : Nat) (n m : Int) (k : WO (SQ P ops Q) N (i + 1) ((d, .int .i64 m) :: e) w) (hv : (fun w => oneD P ops N e (opAt ops i) w) = (fun w => some (d, .int .i64 (IntKind.i64.wrap n), w)) := by kernel_rfl) (h : n = m := by rfl) (h2 : -9223372036854775808 ≤ m ∧ m ≤ 9223372036854775807 := by omega) (hq_ : Nat.blt i ops.size = true := by kernel_rfl) : WO (SQ P ops Q) N i e w := WO.one (SQ.F i hq_) d (.int .i64 (IntKind.i64.wrap n)) hv (WO.top (wrap_i64 h h2) k)
theorem Zwu {P : Program} {ops : Array Oper} {N : Nat} {e : Env} {w : World} {Q : Exit → Act → World → Prop} {i : Nat} (d : Nat) (n m : Int) (k : WO (SQ P ops Q) N (i + 1) ((d, .int .u64 m) :: e) w) (hv : (fun w => oneD P ops N e (opAt ops i) w) = (fun w => some (d, .int .u64 (IntKind.u64.wrap n), w)) := by kernel_rfl) (h : n = m := by omega) (h2 : 0 ≤ m ∧ m ≤ 18446744073709551615 := by omega) (hq_ : Nat.blt i ops.size = true := by kernel_rfl) : WO (SQ P ops Q) N i e w := WO.one (SQ.F i hq_) d (.int .u64 (IntKind.u64.wrap n)) hv (WO.top (wrap_u64 h h2) k)
theorem Zwur {P : Program} {ops : Array Oper} {N : Nat} {e : Env} {w : World} {Q : Exit → Act → World → Prop} {i : Nat} (d : Nat) (n m : Int) (k : WO (SQ P ops Q) N (i + 1) ((d, .int .u64 m) :: e) w) (hv : (fun w => oneD P ops N e (opAt ops i) w) = (fun w => some (d, .int .u64 (IntKind.u64.wrap n), w)) := by kernel_rfl) (h : n = m := by rfl) (h2 : 0 ≤ m ∧ m ≤ 18446744073709551615 := by omega) (hq_ : Nat.blt i ops.size = true := by kernel_rfl) : WO (SQ P ops Q) N i e w := WO.one (SQ.F i hq_) d (.int .u64 (IntKind.u64.wrap n)) hv (WO.top (wrap_u64 h h2) k)
theorem Zcf {P : Program} {ops : Array Oper} {N : Nat} {e : Env} {w : World} {Q : Exit → Act → World → Prop} {i : Nat} (d : Nat) {f : FuncId} {args : Array Value} {v : Value} {R' : World → Prop} (hc : Calls P f args w fun e w' => e = .returned v ∧ R' w') (k : ∀ w', R' w' → WO (SQ P ops Q) N (i + 1) ((d, v) :: e) w') (h : callAt P ops N e (opAt ops i) w = some (f, args, some d, w) := by kernel_rfl) (hq_ : Nat.blt i ops.size = true := by kernel_rfl) : WO (SQ P ops Q) N i e w := WO.call (SQ.E i hq_) d h hc (fun en w' hh => ⟨v, hh.1, trivial, k w' hh.2⟩)
def stV (P : Program) (ops : Array Oper) (N : Nat) (e : Env) (o : Oper) : List Value :=
 match stAt P ops N e o with
 | some x => x.2.1
 | none => []
theorem Zst {P : Program} {ops : Array Oper} {N : Nat} {e : Env} {w : World} {Q : Exit → Act → World → Prop} {ix_ : Nat} (g off : Nat) {cs : Array Value} (cs' : Array Value) {T : TypeId} (hB : Blk w g cs T) (k : ∀ w', Blk w' g cs' T → Fr [g] w w' → w'.heap.size = w.heap.size → WO (SQ P ops Q) N (ix_ + 1) e w') (h : stAt P ops N e (opAt ops ix_) = some (⟨g, off, none⟩, stV P ops N e (opAt ops ix_), none) := by kernel_rfl) (hl : Nat.ble (off + (stV P ops N e (opAt ops ix_)).length) cs.size = true := by kernel_rfl) (hs : splice cs off (stV P ops N e (opAt ops ix_)) = cs' := by kernel_rfl) (hq_ : Nat.blt ix_ ops.size = true := by kernel_rfl) : WO (SQ P ops Q) N ix_ e w := WO.st (SQ.E ix_ hq_) g off _ cs' h hB hl hs (fun _ _ => trivial) k
theorem Zo {P : Program} {ops : Array Oper} {N : Nat} {e : Env} {w : World} {Q : Exit → Act → World → Prop} {ix_ : Nat} (d : Nat) (v : Value) (k : WO (SQ P ops Q) N (ix_ + 1) ((d, v) :: e) w) (h : (fun w => oneD P ops N e (opAt ops ix_) w) = fun w => some (d, v, w) := by kernel_rfl) (hq_ : Nat.blt ix_ ops.size = true := by kernel_rfl) : WO (SQ P ops Q) N ix_ e w := WO.one (hT := (SQ.F ix_ hq_)) (d := d) (v := v) (h := h) (k := k)
theorem Zl {P : Program} {ops : Array Oper} {N : Nat} {e : Env} {w : World} {Q : Exit → Act → World → Prop} {ix_ : Nat} (d : Nat) (v : Value) {ad : Addr} (hc : ∀ w', Same w w' → w'.cell? ad = some v) (k : WO (SQ P ops Q) N (ix_ + 1) ((d, v) :: e) w) (h : ldAt P ops N e (opAt ops ix_) = some (some false, ad, 1, some d) := by kernel_rfl) (hq_ : Nat.blt ix_ ops.size = true := by kernel_rfl) : WO (SQ P ops Q) N ix_ e w := WO.ld (hT := (SQ.S ix_ hq_)) (d := d) (v := v) (h := h) (hc := hc) (k := k)
theorem Yl {P : Program} {ops : Array Oper} {N : Nat} {e : Env} {w : World} {ms : List Md} {Q : Exit → Act → World → Prop} {f_ : Nat} {L_ : Array Bool} {R0 : World → World → Prop} (ix_ : Nat) (d : Nat) (v : Value) {ad : Addr} (hc : ∀ w', R0 w w' → w'.cell? ad = some v) (k : WO (SA P ops ms R0 Q) N (f_, L_.setIfInBounds ix_ true) ((d, v) :: e) w) (h : ldAt P ops N e (opAt ops ix_) = some (some false, ad, 1, some d) := by kernel_rfl) (hq_ : firstS ops ms L_ ix_ = true := by kernel_rfl) (hrt : RT R0 := by first | exact rtS | exact rtB _ | exact rtK _) : WO (SA P ops ms R0 Q) N (f_ + 1, L_) e w := WO.ld (hT := (SA.S hrt.r hrt.t f_ ix_ L_ hq_)) (d := d) (v := v) (h := h) (hc := hc) (k := k)
theorem Zla {P : Program} {ops : Array Oper} {N : Nat} {e : Env} {w : World} {Q : Exit → Act → World → Prop} {ix_ : Nat} (d : Nat) (vs : List Value) {ad : Addr} (hc : ∀ w', Same w w' → ∀ j, j < vs.length → w'.cell? (ad.add j) = vs[j]?) (k : WO (SQ P ops Q) N (ix_ + 1) ((d, .agg vs.toArray) :: e) w) (h : ldAt P ops N e (opAt ops ix_) = some (some true, ad, vs.length, some d) := by kernel_rfl) (hp : Nat.blt 0 vs.length = true := by kernel_rfl) (hq_ : Nat.blt ix_ ops.size = true := by kernel_rfl) : WO (SQ P ops Q) N ix_ e w := WO.ldA (hT := (SQ.S ix_ hq_)) (d := d) (vs := vs) (h := h) (hp := hp) (hc := hc) (k := k)
theorem Zlb {P : Program} {ops : Array Oper} {N : Nat} {e : Env} {w : World} {Q : Exit → Act → World → Prop} {ix_ : Nat} (d : Nat) (vs : List Value) (g : Nat) (off : Nat) {cs : Array Value} {T : TypeId} (hB : ∀ w', Same w w' → Blk w' g cs T) (k : WO (SQ P ops Q) N (ix_ + 1) ((d, .agg vs.toArray) :: e) w) (h : ldAt P ops N e (opAt ops ix_) = some (some true, ⟨g, off, none⟩, vs.length, some d) := by kernel_rfl) (hp : Nat.blt 0 vs.length = true := by kernel_rfl) (hc : (cs.toList.drop off).take vs.length = vs := by kernel_rfl) (hq_ : Nat.blt ix_ ops.size = true := by kernel_rfl) : WO (SQ P ops Q) N ix_ e w := WO.ldB (hT := (SQ.S ix_ hq_)) (d := d) (vs := vs) (g := g) (off := off) (h := h) (hp := hp) (hB := hB) (hc := hc) (k := k)
theorem Ylb {P : Program} {ops : Array Oper} {N : Nat} {e : Env} {w : World} {ms : List Md} {Q : Exit → Act → World → Prop} {f_ : Nat} {L_ : Array Bool} {R0 : World → World → Prop} (ix_ : Nat) (d : Nat) (vs : List Value) (g : Nat) (off : Nat) {cs : Array Value} {T : TypeId} (hB : ∀ w', R0 w w' → Blk w' g cs T) (k : WO (SA P ops ms R0 Q) N (f_, L_.setIfInBounds ix_ true) ((d, .agg vs.toArray) :: e) w) (h : ldAt P ops N e (opAt ops ix_) = some (some true, ⟨g, off, none⟩, vs.length, some d) := by kernel_rfl) (hp : Nat.blt 0 vs.length = true := by kernel_rfl) (hc : (cs.toList.drop off).take vs.length = vs := by kernel_rfl) (hq_ : firstS ops ms L_ ix_ = true := by kernel_rfl) (hrt : RT R0 := by first | exact rtS | exact rtB _ | exact rtK _) : WO (SA P ops ms R0 Q) N (f_ + 1, L_) e w := WO.ldB (hT := (SA.S hrt.r hrt.t f_ ix_ L_ hq_)) (d := d) (vs := vs) (g := g) (off := off) (h := h) (hp := hp) (hB := hB) (hc := hc) (k := k)
theorem Zib {P : Program} {ops : Array Oper} {N : Nat} {e : Env} {w : World} {Q : Exit → Act → World → Prop} {ix_ : Nat} (d : Nat) (m : Nat) (g : Nat) (off : Nat) (n : Nat) (size : Nat) (j : Int) (k : WO (SQ P ops Q) N (ix_ + 1) ((d, .pointer (some ⟨g, m, none⟩)) :: e) w) (h : ixAt P ops N e (opAt ops ix_) = some (⟨g, off, none⟩, n, j, size, some d) := by kernel_rfl) (h0 : 0 ≤ j := by omega) (h1 : j < n := by omega) (hm : off + j.toNat * size = m := by omega) (hq_ : Nat.blt ix_ ops.size = true := by kernel_rfl) : WO (SQ P ops Q) N ix_ e w := WO.ixB (hT := (SQ.F ix_ hq_)) (d := d) (m := m) (g := g) (off := off) (n := n) (size := size) (j := j) (h := h) (h0 := h0) (h1 := h1) (hm := hm) (k := k)
theorem Yib {P : Program} {ops : Array Oper} {N : Nat} {e : Env} {w : World} {ms : List Md} {Q : Exit → Act → World → Prop} {f_ : Nat} {L_ : Array Bool} {R0 : World → World → Prop} (ix_ : Nat) (d : Nat) (m : Nat) (g : Nat) (off : Nat) (n : Nat) (size : Nat) (j : Int) (k : WO (SA P ops ms R0 Q) N (f_, L_.setIfInBounds ix_ true) ((d, .pointer (some ⟨g, m, none⟩)) :: e) w) (h : ixAt P ops N e (opAt ops ix_) = some (⟨g, off, none⟩, n, j, size, some d) := by kernel_rfl) (h0 : 0 ≤ j := by omega) (h1 : j < n := by omega) (hm : off + j.toNat * size = m := by omega) (hq_ : firstF ops ms L_ ix_ = true := by kernel_rfl) (hrt : RT R0 := by first | exact rtS | exact rtB _ | exact rtK _) : WO (SA P ops ms R0 Q) N (f_ + 1, L_) e w := WO.ixB (hT := (SA.F hrt.r hrt.t f_ ix_ L_ hq_)) (d := d) (m := m) (g := g) (off := off) (n := n) (size := size) (j := j) (h := h) (h0 := h0) (h1 := h1) (hm := hm) (k := k)
theorem Zb {P : Program} {ops : Array Oper} {N : Nat} {e : Env} {w : World} {Q : Exit → Act → World → Prop} {ix_ : Nat} (d : Nat) (cs : Array Value) (T : TypeId) (V : Nat → Value) (k : ∀ g w', Blk w' g cs T → Fr [] w w' → w.heap.size ≤ g → g < w'.heap.size → WO (SQ P ops Q) N (ix_ + 1) ((d, V g) :: e) w') (h : bxAt P ops N e (opAt ops ix_) w = some (V w.heap.size, some d, w.alloc (.cells cs T)) := by kernel_rfl) (hq_ : Nat.blt ix_ ops.size = true := by kernel_rfl) : WO (SQ P ops Q) N ix_ e w := WO.bx (hT := (SQ.E ix_ hq_)) (d := d) (cs := cs) (T := T) (V := V) (h := h) (hR := fun _ _ => trivial) (k := k)
theorem Ys {P : Program} {ops : Array Oper} {N : Nat} {e : Env} {w : World} {ms : List Md} {Q : Exit → Act → World → Prop} {f_ : Nat} {L_ : Array Bool} {R0 : World → World → Prop} (ix_ : Nat) (g : Nat) (off : Nat) (vs : List Value) {cs : Array Value} (cs' : Array Value) {T : TypeId} (hB : Blk w g cs T) (k : ∀ w', Blk w' g cs' T → Fr [g] w w' → w'.heap.size = w.heap.size → WO (SA P ops ms R0 Q) N (f_, L_.setIfInBounds ix_ true) e w') (h : stAt P ops N e (opAt ops ix_) = some (⟨g, off, none⟩, vs, none) := by kernel_rfl) (hl : Nat.ble (off + vs.length) cs.size = true := by kernel_rfl) (hs : splice cs off vs = cs' := by kernel_rfl) (hq_ : onlyB ops L_ ix_ = true := by kernel_rfl) (hm_ : isEff (mdOf ms ix_) = true := by rfl) : WO (SA P ops ms R0 Q) N (f_ + 1, L_) e w := WO.st (hT := (SA.E f_ ix_ L_ hq_ hm_)) (g := g) (off := off) (vs := vs) (cs' := cs') (h := h) (hB := hB) (hl := hl) (hs := hs) (hR := fun _ _ => trivial) (k := k)
theorem Zc {P : Program} {ops : Array Oper} {N : Nat} {e : Env} {w : World} {Q : Exit → Act → World → Prop} {ix_ : Nat} (d : Nat) {f : FuncId} {args : Array Value} {K : Ending → World → Prop} (hc : Calls P f args w K) (k : ∀ en w', K en w' → ∃ v, en = .returned v ∧ All w w' ∧ WO (SQ P ops Q) N (ix_ + 1) ((d, v) :: e) w') (h : callAt P ops N e (opAt ops ix_) w = some (f, args, some d, w) := by kernel_rfl) (hq_ : Nat.blt ix_ ops.size = true := by kernel_rfl) : WO (SQ P ops Q) N ix_ e w := WO.call (hT := (SQ.E ix_ hq_)) (d := d) (h := h) (hc := hc) (k := k)
theorem Yc {P : Program} {ops : Array Oper} {N : Nat} {e : Env} {w : World} {ms : List Md} {Q : Exit → Act → World → Prop} {f_ : Nat} {L_ : Array Bool} {R0 : World → World → Prop} (ix_ : Nat) (d : Nat) {f : FuncId} {args : Array Value} {K : Ending → World → Prop} (hc : Calls P f args w K) (k : ∀ en w', K en w' → ∃ v, en = .returned v ∧ All w w' ∧ WO (SA P ops ms R0 Q) N (f_, L_.setIfInBounds ix_ true) ((d, v) :: e) w') (h : callAt P ops N e (opAt ops ix_) w = some (f, args, some d, w) := by kernel_rfl) (hq_ : onlyB ops L_ ix_ = true := by kernel_rfl) (hm_ : isEff (mdOf ms ix_) = true := by rfl) : WO (SA P ops ms R0 Q) N (f_ + 1, L_) e w := WO.call (hT := (SA.E f_ ix_ L_ hq_ hm_)) (d := d) (h := h) (hc := hc) (k := k)
theorem Ylr {P : Program} {ops : Array Oper} {N : Nat} {e : Env} {w : World} {ms : List Md} {Q : Exit → Act → World → Prop} {f_ : Nat} {L_ : Array Bool} {R0 : World → World → Prop} (ix_ : Nat) (d : Nat) (vs : List Value) (b : Nat) (k : Nat) (size : Nat) (off : Nat) {T : TypeId} {cap : Nat} {xs : List (List Value)} (hB : ∀ w', R0 w w' → RowB w' b T size cap xs) (hk : k < xs.length) (hv : xs.getD k [] = vs) (hp : Nat.blt 0 vs.length = true) (kk : WO (SA P ops ms R0 Q) N (f_, L_.setIfInBounds ix_ true) ((d, .agg vs.toArray) :: e) w) (hl : vs.length = size := by rfl) (hoff : k * size = off := by omega) (h : ldAt P ops N e (opAt ops ix_) = some (some true, ⟨b, off, none⟩, vs.length, some d) := by kernel_rfl) (hq_ : firstS ops ms L_ ix_ = true := by kernel_rfl) (hrt : RT R0 := by first | exact rtS | exact rtB _ | exact rtK _) : WO (SA P ops ms R0 Q) N (f_ + 1, L_) e w := WO.ldR (hT := (SA.S hrt.r hrt.t f_ ix_ L_ hq_)) (d := d) (vs := vs) (b := b) (k := k) (size := size) (off := off) (hB := hB) (hk := hk) (hv := hv) (hl := hl) (hoff := hoff) (hp := hp) (h := h) (kk := kk)
theorem Zsr {P : Program} {ops : Array Oper} {N : Nat} {e : Env} {w : World} {Q : Exit → Act → World → Prop} {ix_ : Nat} (b : Nat) (k : Nat) (off : Nat) (vs : List Value) {T : TypeId} {size cap : Nat} {xs : List (List Value)} (hB : RowB w b T size cap xs) (hk : k < xs.length) (kk : ∀ w', RowB w' b T size cap (xs.set k vs) → Fr [b] w w' → w'.heap.size = w.heap.size → WO (SQ P ops Q) N (ix_ + 1) e w') (hl : vs.length = size := by rfl) (hoff : k * size = off := by omega) (h1 : vs.all oneB = true := by rfl) (h : stAt P ops N e (opAt ops ix_) = some (⟨b, off, none⟩, vs, none) := by kernel_rfl) (hq_ : Nat.blt ix_ ops.size = true := by kernel_rfl) : WO (SQ P ops Q) N ix_ e w := WO.stR (hT := (SQ.E ix_ hq_)) (b := b) (k := k) (off := off) (vs := vs) (hB := hB) (hk := hk) (hl := hl) (hoff := hoff) (h1 := h1) (h := h) (hR := fun _ _ => trivial) (kk := kk)
theorem Ysr {P : Program} {ops : Array Oper} {N : Nat} {e : Env} {w : World} {ms : List Md} {Q : Exit → Act → World → Prop} {f_ : Nat} {L_ : Array Bool} {R0 : World → World → Prop} (ix_ : Nat) (b : Nat) (k : Nat) (off : Nat) (vs : List Value) {T : TypeId} {size cap : Nat} {xs : List (List Value)} (hB : RowB w b T size cap xs) (hk : k < xs.length) (kk : ∀ w', RowB w' b T size cap (xs.set k vs) → Fr [b] w w' → w'.heap.size = w.heap.size → WO (SA P ops ms R0 Q) N (f_, L_.setIfInBounds ix_ true) e w') (hl : vs.length = size := by rfl) (hoff : k * size = off := by omega) (h1 : vs.all oneB = true := by rfl) (h : stAt P ops N e (opAt ops ix_) = some (⟨b, off, none⟩, vs, none) := by kernel_rfl) (hq_ : onlyB ops L_ ix_ = true := by kernel_rfl) (hm_ : isEff (mdOf ms ix_) = true := by rfl) : WO (SA P ops ms R0 Q) N (f_ + 1, L_) e w := WO.stR (hT := (SA.E f_ ix_ L_ hq_ hm_)) (b := b) (k := k) (off := off) (vs := vs) (hB := hB) (hk := hk) (hl := hl) (hoff := hoff) (h1 := h1) (h := h) (hR := fun _ _ => trivial) (kk := kk)
theorem Zar {P : Program} {ops : Array Oper} {N : Nat} {e : Env} {w : World} {Q : Exit → Act → World → Prop} {ix_ : Nat} (d : Nat) {t : TypeId} {xv : Value} {b cap : Nat} {el : TypeId} {size bytes m n : Nat} {xs ys : List (List Value)} (E : ET P t el size bytes) (hrow : RowB w b el size cap xs) (hn : xs.length = n) (hsrc : Src w xv m ys.flatten size) (hl : ∀ x ∈ ys, x.length = size) (h1 : ∀ x ∈ ys, x.all oneB = true) (kk : ∀ b' cap' w', RowB w' b' el size cap' (xs ++ ys) → Fr [b] w w' → (b' = b ∨ w.heap.size ≤ b') → WO (SQ P ops Q) N (ix_ + 1) ((d, .slice (some ⟨b', 0, none⟩) (n + m) cap') :: e) w') (hm : ys.length = m := by rw [List.length_map] <;> first | rfl | omega | (simp <;> omega)) (h : appAt ops N e (opAt ops ix_) = some (t, .slice (some ⟨b, 0, none⟩) n cap, xv, some d) := by kernel_rfl) (hbytes : (n + m) * bytes ≤ 140737488355328 := by omega) (hnm : n + m ≤ 140737488355328 := by omega) (hq_ : Nat.blt ix_ ops.size = true := by kernel_rfl) : WO (SQ P ops Q) N ix_ e w := WO.appRow (hT := (SQ.E ix_ hq_)) (d := d) (E := E) (hrow := hrow) (hn := hn) (hm := hm) (hsrc := hsrc) (hl := hl) (h1 := h1) (h := h) (hbytes := hbytes) (hnm := hnm) (hR := fun _ _ => trivial) (kk := kk)
theorem Zax {P : Program} {ops : Array Oper} {N : Nat} {e : Env} {w : World} {Q : Exit → Act → World → Prop} {ix_ : Nat} (d : Nat) {t : TypeId} {v xv : Value} {el : TypeId} {size bytes m : Nat} {F : List Nat} {xs ys : List (List Value)} (E : ET P t el size bytes) (hx : OwnX el size w F v xs) (hsrc : Src w xv m ys.flatten size) (hl : ∀ x ∈ ys, x.length = size) (h1 : ∀ x ∈ ys, x.all oneB = true) (kk : ∀ v' w' F', OwnX el size w' F' v' (xs ++ ys) → Fr F w w' → (∀ y ∈ F', y ∈ F ∨ w.heap.size ≤ y) → WO (SQ P ops Q) N (ix_ + 1) ((d, v') :: e) w') (hm : ys.length = m := by rw [List.length_map] <;> first | rfl | omega | (simp <;> omega)) (h : appAt ops N e (opAt ops ix_) = some (t, v, xv, some d) := by kernel_rfl) (hbytes : (xs.length + m) * bytes ≤ 140737488355328 := by rw [List.length_map]; first | omega | (simp only [List.length_nil]; omega) | (simp only [List.length_append, List.length_cons, List.length_nil]; omega)) (hnm : xs.length + m ≤ 140737488355328 := by rw [List.length_map]; first | omega | (simp only [List.length_nil]; omega) | (simp only [List.length_append, List.length_cons, List.length_nil]; omega)) (hq_ : Nat.blt ix_ ops.size = true := by kernel_rfl) : WO (SQ P ops Q) N ix_ e w := WO.appX (hT := (SQ.E ix_ hq_)) (d := d) (E := E) (hx := hx) (hm := hm) (hsrc := hsrc) (hl := hl) (h1 := h1) (h := h) (hbytes := hbytes) (hnm := hnm) (hR := fun _ _ => trivial) (kk := kk)
theorem Yax {P : Program} {ops : Array Oper} {N : Nat} {e : Env} {w : World} {ms : List Md} {Q : Exit → Act → World → Prop} {f_ : Nat} {L_ : Array Bool} {R0 : World → World → Prop} (ix_ : Nat) (d : Nat) {t : TypeId} {v xv : Value} {el : TypeId} {size bytes m : Nat} {F : List Nat} {xs ys : List (List Value)} (E : ET P t el size bytes) (hx : OwnX el size w F v xs) (hsrc : Src w xv m ys.flatten size) (hl : ∀ x ∈ ys, x.length = size) (h1 : ∀ x ∈ ys, x.all oneB = true) (kk : ∀ v' w' F', OwnX el size w' F' v' (xs ++ ys) → Fr F w w' → (∀ y ∈ F', y ∈ F ∨ w.heap.size ≤ y) → WO (SA P ops ms R0 Q) N (f_, L_.setIfInBounds ix_ true) ((d, v') :: e) w') (hm : ys.length = m := by rw [List.length_map] <;> first | rfl | omega | (simp <;> omega)) (h : appAt ops N e (opAt ops ix_) = some (t, v, xv, some d) := by kernel_rfl) (hbytes : (xs.length + m) * bytes ≤ 140737488355328 := by rw [List.length_map]; first | omega | (simp only [List.length_nil]; omega) | (simp only [List.length_append, List.length_cons, List.length_nil]; omega)) (hnm : xs.length + m ≤ 140737488355328 := by rw [List.length_map]; first | omega | (simp only [List.length_nil]; omega) | (simp only [List.length_append, List.length_cons, List.length_nil]; omega)) (hq_ : onlyB ops L_ ix_ = true := by kernel_rfl) (hm_ : isEff (mdOf ms ix_) = true := by rfl) : WO (SA P ops ms R0 Q) N (f_ + 1, L_) e w := WO.appX (hT := (SA.E f_ ix_ L_ hq_ hm_)) (d := d) (E := E) (hx := hx) (hm := hm) (hsrc := hsrc) (hl := hl) (h1 := h1) (h := h) (hbytes := hbytes) (hnm := hnm) (hR := fun _ _ => trivial) (kk := kk)
theorem Zv {P : Program} {ops : Array Oper} {N : Nat} {e : Env} {w : World} {Q : Exit → Act → World → Prop} {ix_ : Nat} (d : Nat) (l : Nat) (h' : Nat) (A : Option Addr) (n : Nat) (cap : Nat) (size : Nat) (lo : Option Int) (hi : Option Int) (k : WO (SQ P ops Q) N (ix_ + 1) ((d, .slice (if cap = l then A else A.map (·.add (l * size))) (h' - l) (cap - l)) :: e) w) (h : slAt P ops N e (opAt ops ix_) = some (A, n, cap, lo, hi, size, some d) := by kernel_rfl) (hlo : lo.getD 0 = (l : Int) := by first | rfl | (simp only [Option.getD_some] <;> omega)) (hhi : hi.getD (n : Int) = (h' : Int) := by first | rfl | (simp only [Option.getD_some] <;> omega)) (h1 : l ≤ h' := by omega) (h2 : h' ≤ cap := by omega) (hq_ : Nat.blt ix_ ops.size = true := by kernel_rfl) : WO (SQ P ops Q) N ix_ e w := WO.sl (hT := (SQ.F ix_ hq_)) (d := d) (l := l) (h' := h') (A := A) (n := n) (cap := cap) (size := size) (lo := lo) (hi := hi) (h := h) (hlo := hlo) (hhi := hhi) (h1 := h1) (h2 := h2) (k := k)
theorem Zm {P : Program} {ops : Array Oper} {N : Nat} {e : Env} {w : World} {Q : Exit → Act → World → Prop} {ix_ : Nat} (d : Nat) (k : IntKind) (a : Int) (b : Int) (hb : b ≠ 0) (kk : WO (SQ P ops Q) N (ix_ + 1) ((d, .int k (a.tmod b)) :: e) w) (h : remAt ops N e (opAt ops ix_) = some (k, a, b, some d) := by kernel_rfl) (hq_ : Nat.blt ix_ ops.size = true := by kernel_rfl) : WO (SQ P ops Q) N ix_ e w := WO.rem (hT := (SQ.F ix_ hq_)) (d := d) (k := k) (a := a) (b := b) (h := h) (hb := hb) (kk := kk)
theorem Zio {P : Program} {ops : Array Oper} {N : Nat} {e : Env} {w : World} {Q : Exit → Act → World → Prop} {ix_ : Nat} (d : Nat) {A : Option Addr} {ad : Addr} (n : Nat) (size : Nat) (i : Nat) (j : Int) (hA : A = some ad) (k : WO (SQ P ops Q) N (ix_ + 1) ((d, .pointer (some (ad.add (i * size)))) :: e) w) (h : ixoAt P ops N e (opAt ops ix_) = some (A, n, j, size, some d) := by kernel_rfl) (hj : j = (i : Int) := by first | rfl | omega) (h1 : i < n := by omega) (hq_ : Nat.blt ix_ ops.size = true := by kernel_rfl) : WO (SQ P ops Q) N ix_ e w := WO.ixo (hT := (SQ.F ix_ hq_)) (d := d) (n := n) (size := size) (i := i) (j := j) (hA := hA) (h := h) (hj := hj) (h1 := h1) (k := k)
theorem Yio {P : Program} {ops : Array Oper} {N : Nat} {e : Env} {w : World} {ms : List Md} {Q : Exit → Act → World → Prop} {f_ : Nat} {L_ : Array Bool} {R0 : World → World → Prop} (ix_ : Nat) (d : Nat) {A : Option Addr} {ad : Addr} (n : Nat) (size : Nat) (i : Nat) (j : Int) (hA : A = some ad) (k : WO (SA P ops ms R0 Q) N (f_, L_.setIfInBounds ix_ true) ((d, .pointer (some (ad.add (i * size)))) :: e) w) (h : ixoAt P ops N e (opAt ops ix_) = some (A, n, j, size, some d) := by kernel_rfl) (hj : j = (i : Int) := by first | rfl | omega) (h1 : i < n := by omega) (hq_ : firstF ops ms L_ ix_ = true := by kernel_rfl) (hrt : RT R0 := by first | exact rtS | exact rtB _ | exact rtK _) : WO (SA P ops ms R0 Q) N (f_ + 1, L_) e w := WO.ixo (hT := (SA.F hrt.r hrt.t f_ ix_ L_ hq_)) (d := d) (n := n) (size := size) (i := i) (j := j) (hA := hA) (h := h) (hj := hj) (h1 := h1) (k := k)
theorem Zas {P : Program} {ops : Array Oper} {N : Nat} {e : Env} {w : World} {Q : Exit → Act → World → Prop} {ix_ : Nat} (d : Nat) {t ts te : TypeId} {v : Value} {s : ByteArray} (B : BT P t te ts) (E : ET P t te 1 1) (hz : ∃ i, P.info? te = some i ∧ i.zero = some (.int .u8 0)) {F : List Nat} {q : List UInt8} (hx : OwnX te 1 w F v (q.map cB)) (hnm : q.length + s.size ≤ 140737488351232) (kk : ∀ v' w' F', OwnX te 1 w' F' v' ((q ++ bs s).map cB) → Fr F w w' → (∀ y ∈ F', y ∈ F ∨ w.heap.size ≤ y) → WO (SQ P ops Q) N (ix_ + 1) ((d, v') :: e) w') (h : appSAt ops N e (opAt ops ix_) = some (t, ts, v, s, some d) := by kernel_rfl) (hq_ : Nat.blt ix_ ops.size = true := by kernel_rfl) : WO (SQ P ops Q) N ix_ e w := WO.appS (hT := (SQ.E ix_ hq_)) (d := d) (B := B) (E := E) (hz := hz) (hx := hx) (h := h) (hnm := hnm) (hR := fun _ _ => trivial) (kk := kk)
theorem Zct {P : Program} {ops : Array Oper} {N : Nat} {e : Env} {w : World} {Q : Exit → Act → World → Prop} {ix_ : Nat} (d : Nat) (a : ByteArray) (b : ByteArray) (hb : a.size + b.size ≤ 9223372036854775807) (kk : WO (SQ P ops Q) N (ix_ + 1) ((d, .string (a ++ b)) :: e) w) (h : catAt ops N e (opAt ops ix_) = some (a, b, some d) := by kernel_rfl) (hq_ : Nat.blt ix_ ops.size = true := by kernel_rfl) : WO (SQ P ops Q) N ix_ e w := WO.cat (hT := (SQ.F ix_ hq_)) (d := d) (a := a) (b := b) (h := h) (hb := hb) (kk := kk)
theorem Yct {P : Program} {ops : Array Oper} {N : Nat} {e : Env} {w : World} {ms : List Md} {Q : Exit → Act → World → Prop} {f_ : Nat} {L_ : Array Bool} {R0 : World → World → Prop} (ix_ : Nat) (d : Nat) (a : ByteArray) (b : ByteArray) (hb : a.size + b.size ≤ 9223372036854775807) (kk : WO (SA P ops ms R0 Q) N (f_, L_.setIfInBounds ix_ true) ((d, .string (a ++ b)) :: e) w) (h : catAt ops N e (opAt ops ix_) = some (a, b, some d) := by kernel_rfl) (hq_ : firstF ops ms L_ ix_ = true := by kernel_rfl) (hrt : RT R0 := by first | exact rtS | exact rtB _ | exact rtK _) : WO (SA P ops ms R0 Q) N (f_ + 1, L_) e w := WO.cat (hT := (SA.F hrt.r hrt.t f_ ix_ L_ hq_)) (d := d) (a := a) (b := b) (h := h) (hb := hb) (kk := kk)
theorem Zvs {P : Program} {ops : Array Oper} {N : Nat} {e : Env} {w : World} {Q : Exit → Act → World → Prop} {ix_ : Nat} (d : Nat) (h' : Nat) (q : List UInt8) {hi : Int} (hhi : hi = (h' : Int)) (hle : h' ≤ q.length) (k : WO (SQ P ops Q) N (ix_ + 1) ((d, .string (str (q.take h'))) :: e) w) (h : sshAt P ops N e (opAt ops ix_) = some (str q, hi, some d) := by kernel_rfl) (hq_ : Nat.blt ix_ ops.size = true := by kernel_rfl) : WO (SQ P ops Q) N ix_ e w := WO.slS (hT := (SQ.F ix_ hq_)) (d := d) (h' := h') (q := q) (h := h) (hhi := hhi) (hle := hle) (k := k)
theorem Zis {P : Program} {ops : Array Oper} {N : Nat} {e : Env} {w : World} {Q : Exit → Act → World → Prop} {ix_ : Nat} (d : Nat) (k : Nat) (q : List UInt8) {i : Int} (hi : i = (k : Int)) (hk : k < q.length) (kk : WO (SQ P ops Q) N (ix_ + 1) ((d, .int .u8 ((gB q k).toNat : Int)) :: e) w) (h : ixsAt P ops N e (opAt ops ix_) = some (str q, i, some d) := by kernel_rfl) (hq_ : Nat.blt ix_ ops.size = true := by kernel_rfl) : WO (SQ P ops Q) N ix_ e w := WO.ixS (hT := (SQ.F ix_ hq_)) (d := d) (k := k) (q := q) (h := h) (hi := hi) (hk := hk) (kk := kk)
theorem Yis {P : Program} {ops : Array Oper} {N : Nat} {e : Env} {w : World} {ms : List Md} {Q : Exit → Act → World → Prop} {f_ : Nat} {L_ : Array Bool} {R0 : World → World → Prop} (ix_ : Nat) (d : Nat) (k : Nat) (q : List UInt8) {i : Int} (hi : i = (k : Int)) (hk : k < q.length) (kk : WO (SA P ops ms R0 Q) N (f_, L_.setIfInBounds ix_ true) ((d, .int .u8 ((gB q k).toNat : Int)) :: e) w) (h : ixsAt P ops N e (opAt ops ix_) = some (str q, i, some d) := by kernel_rfl) (hq_ : firstF ops ms L_ ix_ = true := by kernel_rfl) (hrt : RT R0 := by first | exact rtS | exact rtB _ | exact rtK _) : WO (SA P ops ms R0 Q) N (f_ + 1, L_) e w := WO.ixS (hT := (SA.F hrt.r hrt.t f_ ix_ L_ hq_)) (d := d) (k := k) (q := q) (h := h) (hi := hi) (hk := hk) (kk := kk)
theorem Zvt {P : Program} {ops : Array Oper} {N : Nat} {e : Env} {w : World} {Q : Exit → Act → World → Prop} {ix_ : Nat} (d : Nat) (l' : Nat) (h' : Nat) (q : List UInt8) {lo hi : Int} (hlo : lo = (l' : Int)) (hhi : hi = (h' : Int)) (hl : l' ≤ h') (hle : h' ≤ q.length) (k : WO (SQ P ops Q) N (ix_ + 1) ((d, .string (str ((q.take h').drop l'))) :: e) w) (h : sshAt2 P ops N e (opAt ops ix_) = some (str q, lo, hi, some d) := by kernel_rfl) (hq_ : Nat.blt ix_ ops.size = true := by kernel_rfl) : WO (SQ P ops Q) N ix_ e w := WO.slS2 (hT := (SQ.F ix_ hq_)) (d := d) (l' := l') (h' := h') (q := q) (h := h) (hlo := hlo) (hhi := hhi) (hl := hl) (hle := hle) (k := k)
theorem Yvt {P : Program} {ops : Array Oper} {N : Nat} {e : Env} {w : World} {ms : List Md} {Q : Exit → Act → World → Prop} {f_ : Nat} {L_ : Array Bool} {R0 : World → World → Prop} (ix_ : Nat) (d : Nat) (l' : Nat) (h' : Nat) (q : List UInt8) {lo hi : Int} (hlo : lo = (l' : Int)) (hhi : hi = (h' : Int)) (hl : l' ≤ h') (hle : h' ≤ q.length) (k : WO (SA P ops ms R0 Q) N (f_, L_.setIfInBounds ix_ true) ((d, .string (str ((q.take h').drop l'))) :: e) w) (h : sshAt2 P ops N e (opAt ops ix_) = some (str q, lo, hi, some d) := by kernel_rfl) (hq_ : firstF ops ms L_ ix_ = true := by kernel_rfl) (hrt : RT R0 := by first | exact rtS | exact rtB _ | exact rtK _) : WO (SA P ops ms R0 Q) N (f_ + 1, L_) e w := WO.slS2 (hT := (SA.F hrt.r hrt.t f_ ix_ L_ hq_)) (d := d) (l' := l') (h' := h') (q := q) (h := h) (hlo := hlo) (hhi := hhi) (hl := hl) (hle := hle) (k := k)
theorem Zvu {P : Program} {ops : Array Oper} {N : Nat} {e : Env} {w : World} {Q : Exit → Act → World → Prop} {ix_ : Nat} (d : Nat) (l' : Nat) (q : List UInt8) {lo : Int} (hlo : lo = (l' : Int)) (hle : l' ≤ q.length) (k : WO (SQ P ops Q) N (ix_ + 1) ((d, .string (str (q.drop l'))) :: e) w) (h : sshAt3 P ops N e (opAt ops ix_) = some (str q, lo, some d) := by kernel_rfl) (hq_ : Nat.blt ix_ ops.size = true := by kernel_rfl) : WO (SQ P ops Q) N ix_ e w := WO.slS3 (hT := (SQ.F ix_ hq_)) (d := d) (l' := l') (q := q) (h := h) (hlo := hlo) (hle := hle) (k := k)
end Go.Proofs.YtdhonbahpcmmnaaGreatDoor.Eng
end
