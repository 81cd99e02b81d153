/- Maps of any keys and elements, as lists of (key, element) without order. Words for the walks. -/
import Derived.Test.YtdhonbahpcmmnaaGreatDoorLinePure
import Derived.Maps.OwnSet
import Derived.Maps.Range
import Derived.DeepKeys4
set_option linter.unusedVariables false
set_option linter.unusedSimpArgs false
set_option linter.unusedSectionVars false
namespace Go.Proofs.YtdhonbahpcmmnaaGreatDoor.Eng
open Go Go.RowKit Go.Maps Go.Proofs.YtdhonbahpcmmnaaGreatDoor
noncomputable def elR {β : Type} (E : β → Value) (v : Value) : Option (DataW β × List MemPlace) := open Classical in if h : ∃ b, E b = v then some (.held h.choose, []) else none
theorem elR_mk {β : Type} {E : β → Value} (hE : ∀ a b, E a = E b → a = b) (b : β) : elR E (E b) = some (.held b, []) := by
 unfold elR
 have h : ∃ c, E c = E b := ⟨b, rfl⟩
 rw [dif_pos h, hE _ _ h.choose_spec]
theorem elR_held {β : Type} {E : β → Value} {v : Value} {b : β} {ps : List MemPlace} (h : elR E v = some (.held b, ps)) : v = E b := by
 unfold elR at h
 split at h
 ·
  rename_i hx
  simp only [Option.some.injEq, Prod.mk.injEq, DataW.held.injEq] at h
  rw [← h.1, hx.choose_spec]
 ·
  cases h
structure KS (P : Program) (k : TypeId) {α : Type} (V : α → Value) (Lk : α → Lit) (ok : α → Prop) : Prop where
 keyed : Keyed P k
 key : ∀ a, ok a → keyOf P k (V a) = some (Lk a)
 inj : ∀ a b, V a = V b → a = b
theorem insert_perm {H : Type} (x : Lit × DataW H) : ∀ l, (DataW.insert x l).Perm (x :: l)
 | [] => .refl _
 | y :: r => by
  unfold DataW.insert
  split
  ·
   exact .refl _
  ·
   exact ((insert_perm x r).cons y).trans (.swap _ _ _)
section
variable {P : Program} {k t el : TypeId} {α β : Type} [DecidableEq α] {V : α → Value} {Lk : α → Lit} {ok : α → Prop} {E : β → Value} {w w1 : World} {m : Nat} {es : List (α × β)} {S : List Nat}
def enM (Lk : α → Lit) (e : α × β) : Lit × DataW β := (Lk e.1, .held e.2)
def MapG (P : Program) (k : TypeId) (Lk : α → Lit) (ok : α → Prop) (E : β → Value) (w : World) (m : Nat) (es : List (α × β)) : Prop :=
 (∀ e ∈ es, ok e.1) ∧ ∃ l, l.Perm (es.map (enM Lk)) ∧ w.ownsMap P k (elR E) m es.length (.map l)
def hasE (es : List (α × β)) (a : α) : Bool := es.any fun e => decide (e.1 = a)
def gE (es : List (α × β)) (a : α) (z : β) : β := ((es.find? fun e => decide (e.1 = a)).map (·.2)).getD z
def putG (es : List (α × β)) (a : α) (b : β) : List (α × β) := (a, b) :: es.filter fun e => !decide (e.1 = a)
theorem KS.linj (K : KS P k V Lk ok) {a b : α} (ha : ok a) (hb : ok b) (h : Lk a = Lk b) : a = b := K.inj _ _ (K.keyed.inj (K.key a ha) (h ▸ K.key b hb))
theorem own_len {R : Value → Option (DataW β × List MemPlace)} {n : Nat} {l : List (Lit × DataW β)} (h : w.ownsMap P k R m n (.map l)) : w.ownsMap P k R m l.length (.map l) := by
 obtain ⟨cs, clock, hb, F, hs, hD⟩ := h
 refine ⟨cs, clock, hb, F, ?_, hD⟩
 simp only [DataW.map.injEq] at hD
 rw [hD, length_read]
 exact Nat.le_refl _
theorem MapG.lt (h : MapG P k Lk ok E w m es) : m < w.heap.size := by
 obtain ⟨_, l, _, h⟩ := h
 exact World.ownsMap.lt h
theorem MapG.keep (h : MapG P k Lk ok E w m es) (f : Fr S w w1) (hn : m ∉ S) : MapG P k Lk ok E w1 m es := by
 obtain ⟨ho, l, hp, cs, clock, hb, F, hs, hD⟩ := h
 exact ⟨ho, l, hp, cs, clock, (f.block m (Array.getElem?_eq_some_iff.1 hb).1 hn).trans hb, F, hs, hD⟩
theorem MapG.perm {es' : List (α × β)} (h : MapG P k Lk ok E w m es) (hp : es.Perm es') : MapG P k Lk ok E w m es' := by
 obtain ⟨ho, l, hl, h⟩ := h
 exact ⟨fun e he => ho e (hp.mem_iff.2 he), l, hl.trans (hp.map _), by rw [← hp.length_eq]; exact h⟩
theorem MapG.made (w : World) : MapG P k Lk ok E (w.alloc (.map #[] 0)) w.heap.size ([] : List (α × β)) := ⟨by simp, [], .refl _, World.ownsMap_made w P k _⟩
theorem MapG.apart (K : KS P k V Lk ok) (h : MapG P k Lk ok E w m es) : (es.map (·.1)).Nodup := by
 obtain ⟨ho, l, hl, h⟩ := h
 obtain ⟨l', e, hp, _⟩ := World.ownsMap.entries h K.keyed
 simp only [DataW.map.injEq] at e
 subst e
 have := (hl.pairwise_iff (fun {_ _} hne => Ne.symm hne)).1 hp
 rw [List.pairwise_map] at this
 rw [List.Nodup, List.pairwise_map]
 exact this.imp (fun {a b} hne hab => hne (by unfold enM; rw [hab]))
theorem apart_l (K : KS P k V Lk ok) {l : List (Lit × DataW β)} {n : Nat} (h : w.ownsMap P k (elR E) m n (.map l)) : l.Pairwise fun p q => p.1 ≠ q.1 := by
 obtain ⟨l', e, hp, _⟩ := World.ownsMap.entries h K.keyed
 simp only [DataW.map.injEq] at e
 subst e
 exact hp
theorem same_l (K : KS P k V Lk ok) (ho : ∀ e ∈ es, ok e.1) {a : α} (ha : ok a) : ∀ e ∈ es, (Lk e.1).sameKey (Lk a) = decide (e.1 = a) := fun e he => by
 rw [Bool.eq_iff_iff, decide_eq_true_eq, WideAt.sameKey_iff (K.keyed.key (K.key a ha))]
 exact ⟨K.linj (ho e he) ha, fun h => by rw [h]⟩
theorem has_l (K : KS P k V Lk ok) (ho : ∀ e ∈ es, ok e.1) {l : List (Lit × DataW β)} (hl : l.Perm (es.map (enM Lk))) {a : α} (ha : ok a) : Maps.has (.map l) (Lk a) = hasE es a := by
 unfold Maps.has hasE
 rw [Bool.eq_iff_iff, List.any_eq_true, List.any_eq_true]
 constructor
 ·
  rintro ⟨p, hp, hs⟩
  obtain ⟨e, he, rfl⟩ := List.mem_map.1 (hl.mem_iff.1 hp)
  exact ⟨e, he, by rw [← same_l K ho ha e he]; exact hs⟩
 ·
  rintro ⟨e, he, hs⟩
  exact ⟨enM Lk e, hl.mem_iff.2 (List.mem_map.2 ⟨e, he, rfl⟩), by unfold enM; rw [same_l K ho ha e he]; exact hs⟩
theorem at_l (K : KS P k V Lk ok) (ho : ∀ e ∈ es, ok e.1) {l : List (Lit × DataW β)} (hl : l.Perm (es.map (enM Lk))) (hp : l.Pairwise fun p q => p.1 ≠ q.1) {a : α} (ha : ok a) (z : β) : (DataW.map l).atKey (Lk a) (.held z) = .held (gE es a z) := by
 unfold gE
 cases hf : es.find? fun e => decide (e.1 = a) with
 | some e =>
  have he := List.mem_of_find?_eq_some hf
  have ha2 : e.1 = a := by simpa using List.find?_some hf
  exact WideAt.atKey_mem _ (K.keyed.key (K.key a ha)) hp (hl.mem_iff.2 (List.mem_map.2 ⟨e, he, by unfold enM; rw [ha2]; rfl⟩))
 | none =>
  unfold DataW.atKey
  simp only
  rw [List.find?_eq_none.2 (fun p hp => by
   obtain ⟨e, he, rfl⟩ := List.mem_map.1 (hl.mem_iff.1 hp)
   have := List.find?_eq_none.1 hf e he
   unfold enM
   rw [same_l K ho ha e he]
   simpa using this)]
  rfl
structure GT (P : Program) (t k e : TypeId) {α β : Type} (V : α → Value) (Lk : α → Lit) (ok : α → Prop) (E : β → Value) (z : β) : Prop where
 ks : KS P k V Lk ok
 t : P.underlying t = some (.map k e)
 z : ∀ w, (zeroValue e).run P w = .ok (E z) w
 inj : ∀ a b, E a = E b → a = b
variable {z : β}
theorem MapG.look (M : GT P t k el V Lk ok E z) (h : MapG P k Lk ok E w m es) {a : α} (ha : ok a) (c : Bool) : (Instr.lookup t (.map (some m)) (V a) c).run P w = .ok (if c then .tuple #[E (gE es a z), .bool (hasE es a)] else E (gE es a z)) w := by
 obtain ⟨ho, l, hl, h⟩ := h
 have hp := apart_l M.ks h
 cases c
 ·
  obtain ⟨v, ps, h1, h2⟩ := World.ownsMap.lookup h M.ks.keyed M.t (M.z w) (elR_mk M.inj z) (M.ks.key a ha)
  rw [at_l M.ks ho hl hp ha] at h2
  rw [h1, elR_held h2]
  rfl
 ·
  obtain ⟨v, ps, h1, h2⟩ := World.ownsMap.look_ok h M.ks.keyed M.t (M.z w) (elR_mk M.inj z) (M.ks.key a ha)
  rw [at_l M.ks ho hl hp ha] at h2
  rw [h1, elR_held h2, has_l M.ks ho hl ha]
  rfl
theorem filter_l (K : KS P k V Lk ok) (ho : ∀ e ∈ es, ok e.1) {l : List (Lit × DataW β)} (hl : l.Perm (es.map (enM Lk))) {a : α} (ha : ok a) : (l.filter fun p => !p.1.sameKey (Lk a)).Perm ((es.filter fun e => !decide (e.1 = a)).map (enM Lk)) := by
 refine (hl.filter _).trans ?_
 rw [List.filter_map]
 refine .of_eq (congrArg _ (List.filter_congr fun e he => ?_))
 show (!(Lk e.1).sameKey (Lk a)) = _
 rw [same_l K ho ha e he]
theorem MapG.up (M : GT P t k el V Lk ok E z) (h : MapG P k Lk ok E w m es) (hn : es.length ≤ 1000000) {a : α} (ha : ok a) (b : β) : ∃ w', (Instr.mapUpdate t (.map (some m)) (V a) (E b)).run P w = .ok () w' ∧ MapG P k Lk ok E w' m (putG es a b) ∧ w.grownBy w' (some m) := by
 obtain ⟨ho, l, hl, h⟩ := h
 obtain ⟨w', h1, h2, h3⟩ := World.ownsMap.update h M.ks.keyed M.t (by unfold maxLen; omega) (M.ks.key a ha) (elR_mk M.inj b)
 have hp : (DataW.insert (Lk a, DataW.held b) (l.filter fun p => !p.1.sameKey (Lk a))).Perm ((putG es a b).map (enM Lk)) := (insert_perm _ _).trans ((filter_l M.ks ho hl ha).cons _)
 refine ⟨w', h1, ⟨fun e he => ?_, _, hp, ?_⟩, h3⟩
 ·
  rcases List.mem_cons.1 he with rfl | he
  ·
   exact ha
  ·
   exact ho e ((List.mem_filter.1 he).1)
 ·
  have h4 := own_len (l := DataW.insert (Lk a, DataW.held b) (l.filter fun p => !p.1.sameKey (Lk a))) h2
  rw [hp.length_eq, List.length_map] at h4
  exact h4
theorem MapG.del (M : GT P t k el V Lk ok E z) (h : MapG P k Lk ok E w m es) {a : α} (ha : ok a) (ty : TypeId) : ∃ w', (Builtin.delete_ #[t, k] ty #[.map (some m), V a]).run P w = .ok (.tuple #[]) w' ∧ MapG P k Lk ok E w' m (es.filter fun e => !decide (e.1 = a)) ∧ w.grownBy w' (some m) := by
 obtain ⟨ho, l, hl, h⟩ := h
 obtain ⟨w', h1, h2, h3⟩ := World.ownsMap.drop h M.ks.keyed M.t (M.ks.key a ha) ty
 have hp := filter_l M.ks ho hl ha
 refine ⟨w', h1, ⟨fun e he => ho e ((List.mem_filter.1 he).1), _, hp, ?_⟩, h3.grown⟩
 have h4 := own_len (l := l.filter fun p => !p.1.sameKey (Lk a)) h2
 rw [hp.length_eq, List.length_map] at h4
 exact h4
theorem MapG.len (ht : P.underlying t = some (.map k el)) (h : MapG P k Lk ok E w m es) (ty : TypeId) : (Builtin.len_ #[t] ty #[.map (some m)]).run P w = .ok (.int .i64 es.length) w := by
 obtain ⟨ho, l, hl, h⟩ := h
 rw [World.ownsMap.len h ht ty]
 unfold Maps.size
 simp only
 rw [hl.length_eq, List.length_map]
def RngG (P : Program) (k : TypeId) (Lk : α → Lit) (ok : α → Prop) (E : β → Value) (w : World) (m r : Nat) (es td : List (α × β)) : Prop :=
 (∀ e ∈ es, ok e.1) ∧ ∃ l left cnt, l.Perm (es.map (enM Lk)) ∧ w.ranges P k (elR E) m r es.length (.map l) left cnt ∧ td = es.filter fun e => left (Lk e.1)
theorem RngG.keep {r : Nat} {td : List (α × β)} (h : RngG P k Lk ok E w m r es td) (f : Fr S w w1) (h1 : m ∉ S) (h2 : r ∉ S) : RngG P k Lk ok E w1 m r es td := by
 obtain ⟨ho, l, left, cnt, hl, h3, h4⟩ := h
 have l1 := h3.owns.lt
 have l2 := h3.lt
 refine ⟨ho, l, left, cnt, hl, ?_, h4⟩
 obtain ⟨cs, clock, since, seen, c0, hb, Ft, hs, hD, hr, rest⟩ := h3
 exact ⟨cs, clock, since, seen, c0, (f.block m l1 h1).trans hb, Ft, hs, hD, (f.block r l2 h2).trans hr, rest⟩
theorem RngG.lt {r : Nat} {td : List (α × β)} (h : RngG P k Lk ok E w m r es td) : m < w.heap.size := by
 obtain ⟨_, l, left, cnt, _, h3, _⟩ := h
 exact h3.owns.lt
theorem RngG.lt2 {r : Nat} {td : List (α × β)} (h : RngG P k Lk ok E w m r es td) : r < w.heap.size := by
 obtain ⟨_, l, left, cnt, _, h3, _⟩ := h
 exact h3.lt
theorem RngG.owns {r : Nat} {td : List (α × β)} (h : RngG P k Lk ok E w m r es td) : MapG P k Lk ok E w m es := by
 obtain ⟨ho, l, left, cnt, hl, h3, _⟩ := h
 exact ⟨ho, l, hl, h3.owns⟩
theorem RngG.sub {r : Nat} {td : List (α × β)} (h : RngG P k Lk ok E w m r es td) : ∀ e ∈ td, e ∈ es := by
 obtain ⟨_, _, _, _, _, _, rfl⟩ := h
 exact fun e he => (List.mem_filter.1 he).1
end
theorem Fr.of_turnedG {w w1 : World} {m : Nat} (h : w.grownBy w1 (some m)) : Fr [m] w w1 := Fr.of_grown h (fun j hj => .inl (by simp only [Option.some.injEq] at hj; simp [hj]))
section
variable {P : Program} {ι : Type} {ops : Array Oper} {N : Nat} {S : ι → Act → World → Prop} {R : World → World → Prop} {x y : ι} {o : Oper} {e e' : Env} {w : World}
variable {t k el : TypeId} {m : Nat} {α β : Type} [DecidableEq α] {V : α → Value} {Lk : α → Lit} {ok : α → Prop} {E : β → Value} {z : β} {es : List (α × β)}
def lkGAt (ops : Array Oper) (N : Nat) (e : Env) (o : Oper) : Option (TypeId × Value × Value × Bool × Option Tmp) :=
 bif onB ops N e o then
  match o.op with
  | .lookup t z u c => some (t, ev e z, ev e u, c, o.dst)
  | _ => none
 else none
theorem lkGAt_spec {v j : Value} {c : Bool} {d : Option Tmp} (h : lkGAt ops N e o = some (t, v, j, c, d)) : ∃ z u, onB ops N e o = true ∧ o.op = .lookup t z u c ∧ ev e z = v ∧ ev e u = j ∧ o.dst = d := by
 unfold lkGAt at h
 cases ho : onB ops N e o with
 | false => rw [ho] at h; cases h
 | true =>
  rw [ho] at h
  simp only [cond_true] at h
  split at h
  ·
   rename_i t' z u c' hop
   simp only [Option.some.injEq, Prod.mk.injEq] at h
   obtain ⟨rfl, rfl, rfl, rfl, hd⟩ := h
   exact ⟨z, u, rfl, hop, rfl, rfl, hd⟩
  ·
   cases h
theorem WO.lkG (hT : TkS P ops R S x o y) (d : Nat) (M : GT P t k el V Lk ok E z) (a : α) (h : lkGAt ops N e o = some (t, .map (some m), V a, true, some d)) (hm : ∀ w', R w w' → MapG P k Lk ok E w' m es) (ha : ok a)
  (kk : WO S N y ((d, .tuple #[E (gE es a z), .bool (hasE es a)]) :: e) w) : WO S N x e w := by
 obtain ⟨z', u, ho, hop, hz, hu, hd⟩ := lkGAt_spec h
 refine WO.val hT ho (v := .tuple #[E (gE es a z), .bool (hasE es a)]) (fun w' hR => ?_) (by rw [hd]; exact kk)
 unfold execOp
 simp only [hop, hz, hu, Sem.run_bind, (hm w' hR).look M ha true, Result.andThen_ok, Sem.run_pure, if_true]
theorem WO.lkG1 (hT : TkS P ops R S x o y) (d : Nat) (M : GT P t k el V Lk ok E z) (a : α) (h : lkGAt ops N e o = some (t, .map (some m), V a, false, some d)) (hm : ∀ w', R w w' → MapG P k Lk ok E w' m es) (ha : ok a)
  (kk : WO S N y ((d, E (gE es a z)) :: e) w) : WO S N x e w := by
 obtain ⟨z', u, ho, hop, hz, hu, hd⟩ := lkGAt_spec h
 refine WO.val hT ho (v := E (gE es a z)) (fun w' hR => ?_) (by rw [hd]; exact kk)
 unfold execOp
 simp only [hop, hz, hu, Sem.run_bind, (hm w' hR).look M ha false, Result.andThen_ok, Sem.run_pure, Bool.false_eq_true, if_false]
theorem WO.lkGN (hT : TkS P ops R S x o y) (d : Nat) (M : GT P t k el V Lk ok E z) (a : α) (h : lkGAt ops N e o = some (t, .map none, V a, true, some d)) (ha : ok a)
  (kk : WO S N y ((d, .tuple #[E z, .bool false]) :: e) w) : WO S N x e w := by
 obtain ⟨z', u, ho, hop, hz, hu, hd⟩ := lkGAt_spec h
 refine WO.val hT ho (v := .tuple #[E z, .bool false]) (fun w' hR => ?_) (by rw [hd]; exact kk)
 unfold execOp
 simp only [hop, hz, hu, Sem.run_bind, Maps.look_nil true M.ks.keyed M.t (M.z w') (M.ks.key a ha), Result.andThen_ok, Sem.run_pure, if_true]
def upGAt (ops : Array Oper) (N : Nat) (e : Env) (o : Oper) : Option (TypeId × Value × Value × Value × Option Tmp) :=
 bif onB ops N e o then
  match o.op with
  | .mapUpdate t z u v => some (t, ev e z, ev e u, ev e v, o.dst)
  | _ => none
 else none
theorem WO.upG (hT : TkE P ops R S x o y) (M : GT P t k el V Lk ok E z) (a : α) (b : β) (h : upGAt ops N e o = some (t, .map (some m), V a, E b, none)) (hm : MapG P k Lk ok E w m es) (ha : ok a) (hl : es.length ≤ 1000000) (hR : ∀ w', Fr [m] w w' → R w w')
  (kk : ∀ w', MapG P k Lk ok E w' m (putG es a b) → Fr [m] w w' → WO S N y e w') : WO S N x e w := by
 unfold upGAt at h
 cases ho : onB ops N e o with
 | false => rw [ho] at h; cases h
 | true =>
  rw [ho] at h
  simp only [cond_true] at h
  split at h
  ·
   rename_i t' z' u v hop
   simp only [Option.some.injEq, Prod.mk.injEq] at h
   obtain ⟨rfl, hz, hu, hv, hd⟩ := h
   obtain ⟨w', h1, h2, h3⟩ := hm.up M hl ha b
   have hF := Fr.of_turnedG h3
   refine WO.on hT ho fun a' ha' h4 h5 _ Q => ?_
   have hrun : (execOp (ev e) o).run P w = .ok .skip w' := by
    unfold execOp
    simp only [hop, hz, hu, hv, Sem.run_bind, h1, Result.andThen_ok, Sem.run_pure]
   simp only [Oper.wp, h4, hrun, Oper.upon]
   have hp := ha'.put o.dst undef h5
   rw [hd] at hp ⊢
   exact ⟨hR _ hF, kk w' h2 hF _ hp⟩
  ·
   cases h
def dlGAt (ops : Array Oper) (N : Nat) (e : Env) (o : Oper) : Option (TypeId × TypeId × Value × Value × Option Tmp) :=
 bif onB ops N e o then
  match o.op with
  | .call { callee := .builtin .delete, args := ⟨[z, u]⟩, argTypes := ⟨[t, k]⟩ } => some (t, k, ev e z, ev e u, o.dst)
  | _ => none
 else none
theorem WO.dlG (hT : TkE P ops R S x o y) (M : GT P t k el V Lk ok E z) (a : α) {dd : Option Tmp} (h : dlGAt ops N e o = some (t, k, .map (some m), V a, dd)) (hm : MapG P k Lk ok E w m es) (ha : ok a)
  (hR : ∀ w', Fr [m] w w' → R w w') (kk : ∀ w', MapG P k Lk ok E w' m (es.filter fun e => !decide (e.1 = a)) → Fr [m] w w' → WO S N y (putE e dd (.tuple #[])) w') : WO S N x e w := by
 unfold dlGAt at h
 cases ho : onB ops N e o with
 | false => rw [ho] at h; cases h
 | true =>
  rw [ho] at h
  simp only [cond_true] at h
  split at h
  ·
   rename_i z' u t' k' hop
   simp only [Option.some.injEq, Prod.mk.injEq] at h
   obtain ⟨rfl, rfl, hz, hu, hd⟩ := h
   obtain ⟨w', h1, h2, h3⟩ := hm.del M ha o.type
   have hF := Fr.of_turnedG h3
   refine WO.on hT ho fun a' ha' h4 h5 _ Q => ?_
   have hrun : (execOp (ev e) o).run P w = .ok (.value (.tuple #[])) w' := by
    unfold execOp
    simp only [hop, resolve, invoke, builtin, Sem.run_bind, Sem.run_pure, Result.andThen_ok, List.map_toArray, List.map_cons, List.map_nil, hz, hu, h1]
   simp only [Oper.wp, h4, hrun, Oper.upon]
   have hp := ha'.put o.dst (.tuple #[]) h5
   rw [hd] at hp ⊢
   exact ⟨hR _ hF, kk w' h2 hF _ hp⟩
  ·
   cases h
def lnGAt (ops : Array Oper) (N : Nat) (e : Env) (o : Oper) : Option (TypeId × Value × Option Tmp) :=
 bif onB ops N e o then
  match o.op with
  | .call { callee := .builtin .len, args := ⟨[z]⟩, argTypes := ⟨[t]⟩ } => some (t, ev e z, o.dst)
  | _ => none
 else none
theorem lnGAt_run {v : Value} {d : Option Tmp} {n : Int} {w' : World} (h : lnGAt ops N e o = some (t, v, d)) (hr : (Builtin.len_ #[t] o.type #[v]).run P w' = .ok (.int .i64 n) w') : onB ops N e o = true ∧ (execOp (ev e) o).run P w' = .ok (.value (.int .i64 n)) w' ∧ o.dst = d := by
 unfold lnGAt at h
 cases ho : onB ops N e o with
 | false => rw [ho] at h; cases h
 | true =>
  rw [ho] at h
  simp only [cond_true] at h
  split at h
  ·
   rename_i z' t' hop
   simp only [Option.some.injEq, Prod.mk.injEq] at h
   obtain ⟨rfl, hz, hd⟩ := h
   refine ⟨rfl, ?_, hd⟩
   unfold execOp
   simp only [hop, resolve, invoke, builtin, Sem.run_bind, Sem.run_pure, Result.andThen_ok, List.map_toArray, List.map_cons, List.map_nil, hz, hr]
  ·
   cases h
theorem lnGAt_on {v : Value} {d : Option Tmp} (h : lnGAt ops N e o = some (t, v, d)) : onB ops N e o = true ∧ o.dst = d := by
 unfold lnGAt at h
 cases ho : onB ops N e o with
 | false => rw [ho] at h; cases h
 | true =>
  rw [ho] at h
  simp only [cond_true] at h
  split at h
  ·
   simp only [Option.some.injEq, Prod.mk.injEq] at h
   exact ⟨rfl, h.2.2⟩
  ·
   cases h
theorem WO.lnG (hT : TkS P ops R S x o y) (d : Nat) (n : Nat) (hu : P.underlying t = some (.map k el)) (h : lnGAt ops N e o = some (t, .map (some m), some d)) (hm : ∀ w', R w w' → MapG P k Lk ok E w' m es) (hn : es.length = n) (kk : WO S N y ((d, .int .i64 (n : Int)) :: e) w) : WO S N x e w := by
 obtain ⟨ho, hd⟩ := lnGAt_on h
 subst hn
 exact WO.val hT ho (v := .int .i64 (es.length : Int)) (fun w' hR => (lnGAt_run h ((hm w' hR).len hu o.type)).2.1) (by rw [hd]; exact kk)
theorem WO.lnNS (hT : TkS P ops R S x o y) (d : Nat) (hu : P.underlying t = some (.map k el)) (h : lnGAt ops N e o = some (t, .map none, some d)) (kk : WO S N y ((d, .int .i64 0) :: e) w) : WO S N x e w := by
 obtain ⟨ho, hd⟩ := lnGAt_on h
 exact WO.val hT ho (v := .int .i64 0) (fun w' _ => (lnGAt_run h (Maps.len_nil hu o.type)).2.1) (by rw [hd]; exact kk)
def mmGAt (ops : Array Oper) (N : Nat) (e : Env) (o : Oper) : Option (Option Tmp) :=
 bif onB ops N e o then
  match o.op with
  | .makeMap _ none => some o.dst
  | _ => none
 else none
theorem WO.mmG (hT : TkE P ops R S x o y) (d : Nat) (k : TypeId) (Lk : α → Lit) (ok : α → Prop) (E : β → Value) (h : mmGAt ops N e o = some (some d)) (hR : ∀ w', Fr [] w w' → R w w') (kk : ∀ g w', MapG P k Lk ok E w' g [] → Fr [] w w' → w.heap.size ≤ g → g < w'.heap.size → WO S N y ((d, .map (some g)) :: e) w') : WO S N x e w := by
 unfold mmGAt at h
 cases ho : onB ops N e o with
 | false => rw [ho] at h; cases h
 | true =>
  rw [ho] at h
  simp only [cond_true] at h
  split at h
  ·
   rename_i t hop
   simp only [Option.some.injEq] at h
   refine WO.on hT ho fun a ha h4 h5 _ Q => ?_
   have hrun : (execOp (ev e) o).run P w = .ok (.value (.map (some w.heap.size))) (w.alloc (.map #[] 0)) := by
    unfold execOp
    simp [hop, Instr.makeMap, newObj, Sem.run, World.alloc, -World.alloc_eq]
   simp only [Oper.wp, h4, hrun, Oper.upon]
   have hF := (Fr.refl [] w).alloc (.map #[] 0)
   have hp := ha.put o.dst (.map (some w.heap.size)) h5
   rw [h] at hp ⊢
   exact ⟨hR _ hF, kk _ _ (MapG.made w) hF (Nat.le_refl _) (by rw [size_alloc]; omega) _ hp⟩
  ·
   cases h
def rgGAt (ops : Array Oper) (N : Nat) (e : Env) (o : Oper) : Option (TypeId × Value × Option Tmp) :=
 bif onB ops N e o then
  match o.op with
  | .range t z => some (t, ev e z, o.dst)
  | _ => none
 else none
theorem WO.rgG (hT : TkE P ops R S x o y) (d : Nat) (M : GT P t k el V Lk ok E z) (h : rgGAt ops N e o = some (t, .map (some m), some d)) (hm : MapG P k Lk ok E w m es) (hR : ∀ w', Fr [] w w' → R w w')
  (kk : ∀ r w', RngG P k Lk ok E w' m r es es → Fr [] w w' → w.heap.size ≤ r → r < w'.heap.size → WO S N y ((d, .pointer (some ⟨r, 0, none⟩)) :: e) w') : WO S N x e w := by
 unfold rgGAt at h
 cases ho : onB ops N e o with
 | false => rw [ho] at h; cases h
 | true =>
  rw [ho] at h
  simp only [cond_true] at h
  split at h
  ·
   rename_i t' z' hop
   simp only [Option.some.injEq, Prod.mk.injEq] at h
   obtain ⟨rfl, hz, hd⟩ := h
   obtain ⟨hok, l, hl, hm⟩ := hm
   obtain ⟨w', h1, h2, h3, h4⟩ := World.ownsMap.range hm M.ks.keyed M.t
   have hF : Fr [] w w' := Fr.of_grown h3 (fun j hj => by cases hj)
   refine WO.on hT ho fun a ha h5 h6 _ Q => ?_
   have hrun : (execOp (ev e) o).run P w = .ok (.value (.pointer (some ⟨w.heap.size, 0, none⟩))) w' := by
    unfold execOp
    simp only [hop, hz, Sem.run_bind, h1, Result.andThen_ok, Sem.run_pure]
   simp only [Oper.wp, h5, hrun, Oper.upon]
   have hp := ha.put o.dst (.pointer (some ⟨w.heap.size, 0, none⟩)) h6
   rw [hd] at hp ⊢
   refine ⟨hR _ hF, kk _ _ ⟨hok, l, _, _, hl, h2, ?_⟩ hF (Nat.le_refl _) (by omega) _ hp⟩
   symm
   rw [List.filter_eq_self]
   intro e he
   rw [has_l M.ks hok hl (hok e he)]
   exact List.any_eq_true.2 ⟨e, he, by simp⟩
  ·
   cases h
def nxGAt (ops : Array Oper) (N : Nat) (e : Env) (o : Oper) : Option (Value × Option Tmp) :=
 bif onB ops N e o then
  match o.op with
  | .next z false => some (ev e z, o.dst)
  | _ => none
 else none
def EntG (P : Program) (w : World) (r : Nat) (kv vv : Value) : Prop := (Instr.entry (.pointer (some ⟨r, 0, none⟩))).run P w = .ok (.tuple #[kv, vv]) w
theorem WO.nxG (hT : TkE P ops R S x o y) (d : Nat) (M : GT P t k el V Lk ok E z) {r : Nat} {td : List (α × β)} (h : nxGAt ops N e o = some (.pointer (some ⟨r, 0, none⟩), some d)) (hm : RngG P k Lk ok E w m r es td) (hR : ∀ w', Fr [r] w w' → R w w')
  (k0 : td = [] → WO S N y ((d, .tuple #[.bool false]) :: e) w)
  (kk : ∀ q w', q ∈ td → RngG P k Lk ok E w' m r es (td.filter fun e => !decide (e.1 = q.1)) → EntG P w' r (V q.1) (E q.2) → Fr [r] w w' → w'.heap.size = w.heap.size → WO S N y ((d, .tuple #[.bool true, V q.1, E q.2]) :: e) w') : WO S N x e w := by
 unfold nxGAt at h
 cases ho : onB ops N e o with
 | false => rw [ho] at h; cases h
 | true =>
  rw [ho] at h
  simp only [cond_true] at h
  split at h
  ·
   rename_i z' hop
   simp only [Option.some.injEq, Prod.mk.injEq] at h
   obtain ⟨hz, hd⟩ := h
   obtain ⟨hok, l, left, cnt, hl, h1, h2⟩ := hm
   rcases h1.next M.ks.keyed o.type with ⟨_, h3, h4⟩ | ⟨key, v, kl, yy, w', cnt', h3, h4, h5, h6, h7, h8, _, h9, h10, h11⟩
   ·
    refine WO.on hT ho fun a ha h5 h6 _ Q => ?_
    have hrun : (execOp (ev e) o).run P w = .ok (.value (.tuple #[.bool false])) w := by
     unfold execOp
     simp only [hop, hz, Sem.run_bind, h4, Result.andThen_ok, Sem.run_pure]
    simp only [Oper.wp, h5, hrun, Oper.upon]
    have hp := ha.put o.dst (.tuple #[.bool false]) h6
    rw [hd] at hp ⊢
    refine ⟨hR _ (Fr.refl [r] w), k0 ?_ _ hp⟩
    rw [h2]
    exact List.filter_eq_nil_iff.2 (fun e _ => by rw [h3]; simp)
   ·
    obtain ⟨q, hq, hqk, hqb⟩ : ∃ q, q ∈ es ∧ Lk q.1 = kl ∧ yy.1 = .held q.2 := by
     have h12 := h6 (.lit (.bool true))
     have h13 := h6 (.lit (.bool false))
     unfold DataW.atKey at h12 h13
     simp only at h12 h13
     cases hf : l.find? (fun p => p.1.sameKey kl) with
     | none => rw [hf] at h12 h13; simp only at h12 h13; rw [← h12] at h13; simp at h13
     | some p =>
      rw [hf] at h12
      simp only at h12
      obtain ⟨q, hq, rfl⟩ := List.mem_map.1 (hl.mem_iff.1 (List.mem_of_find?_eq_some hf))
      exact ⟨q, hq, WideAt.sameKey_eq (by simpa [enM] using List.find?_some hf), h12.symm⟩
    subst hqk
    have hkey : key = V q.1 := M.ks.keyed.inj h3 (M.ks.key q.1 (hok q hq))
    have hv : v = E q.2 := elR_held (ps := yy.2) (by rw [h5, ← hqb])
    subst hkey hv
    have hF := Fr.of_turnedG h9
    refine WO.on hT ho fun a ha h12 h13 _ Q => ?_
    have hrun : (execOp (ev e) o).run P w = .ok (.value (.tuple #[.bool true, V q.1, E q.2])) w' := by
     unfold execOp
     simp only [hop, hz, Sem.run_bind, h7, Result.andThen_ok, Sem.run_pure]
    simp only [Oper.wp, h12, hrun, Oper.upon]
    have hp := ha.put o.dst (.tuple #[.bool true, V q.1, E q.2]) h13
    rw [hd] at hp ⊢
    refine ⟨hR _ hF, kk q w' ?_ ⟨hok, l, _, _, hl, h8, ?_⟩ h11 hF h10 _ hp⟩
    ·
     rw [h2]
     exact List.mem_filter.2 ⟨hq, h4⟩
    ·
     rw [h2, List.filter_filter]
     refine List.filter_congr fun e he => ?_
     rw [same_l M.ks hok (hok q hq) e he, Bool.and_comm]
  ·
   cases h
def enGAt (ops : Array Oper) (N : Nat) (e : Env) (o : Oper) : Option (Value × Option Tmp) :=
 bif onB ops N e o then
  match o.op with
  | .entry z => some (ev e z, o.dst)
  | _ => none
 else none
theorem WO.enG (hT : TkS P ops R S x o y) (d : Nat) {r : Nat} {kv vv : Value} (h : enGAt ops N e o = some (.pointer (some ⟨r, 0, none⟩), some d)) (hE : ∀ w', R w w' → EntG P w' r kv vv) (kk : WO S N y ((d, .tuple #[kv, vv]) :: e) w) : WO S N x e w := by
 unfold enGAt at h
 cases ho : onB ops N e o with
 | false => rw [ho] at h; cases h
 | true =>
  rw [ho] at h
  simp only [cond_true] at h
  split at h
  ·
   rename_i u hop
   simp only [Option.some.injEq, Prod.mk.injEq] at h
   obtain ⟨hz, hd⟩ := h
   refine WO.val hT ho (v := .tuple #[kv, vv]) (fun w' hR => ?_) (by rw [hd]; exact kk)
   have := hE w' hR
   unfold EntG at this
   unfold execOp
   simp only [hop, hz, Sem.run_bind, this, Result.andThen_ok, Sem.run_pure]
  ·
   cases h
end
def Vi (j : Int) : Value := .int .i64 j
def Li (j : Int) : Lit := .int .i64 j
def oki (j : Int) : Prop := -9223372036854775808 ≤ j ∧ j ≤ 9223372036854775807
theorem ks_int {P : Program} {k : TypeId} (h : P.underlying k = some (.int .i64)) : KS P k Vi Li oki where
 keyed := int_keyed h
 key a ha := keyOf_int_mk h (by
  have : IntKind.i64.min = -9223372036854775808 := by decide
  have : IntKind.i64.max = 9223372036854775807 := by decide
  unfold oki at ha
  simp [Lit.wf]
  omega)
 inj a b h := by unfold Vi at h; cases h; rfl
def Em (b : Option Nat) : Value := .map b
theorem em_inj (a b : Option Nat) (h : Em a = Em b) : a = b := by unfold Em at h; cases h; rfl
end Go.Proofs.YtdhonbahpcmmnaaGreatDoor.Eng
