/- Steps of a walk, each one lemma: what a temporary holds lies in a list, and the kernel reckons. Words for the walks. -/
import Derived.Test.YtjfgmdkdcnfdoaaGreatDoorApp
import Derived.StillTail
import Derived.OwnWalk
import Derived.IntWalk
import Derived.Scope
import Derived.KernelRfl
set_option linter.unusedVariables false
set_option linter.unusedSimpArgs false
namespace Go.Proofs.YtjfgmdkdcnfdoaaGreatDoor.Eng
open Go Go.Proofs.YtjfgmdkdcnfdoaaGreatDoor
abbrev Env := List (Nat × Value)
def look : Env → Nat → Value
 | [], _ => undef
 | (t, v) :: e, n => bif Nat.beq t n then v else look e n
def hasT : Env → Nat → Bool
 | [], _ => false
 | (t, _) :: e, n => bif Nat.beq t n then true else hasT e n
def ev (e : Env) : Operand → Value
 | .tmp t => look e t
 | .const v => v
 | .global g => .pointer (some ⟨g, 0, none⟩)
 | .func f => .func (.func f) #[] #[]
structure Rep (N : Nat) (e : Env) (a : Act) : Prop where
 size : a.tmps.size = N
 defers : a.defers = []
 get : ∀ t, hasT e t = true → a.tmps.getD t undef = look e t
def covX (e : Env) : Operand → Bool
 | .tmp t => hasT e t
 | _ => true
def noSel : Op → Bool
 | .select .. => false
 | _ => true
def cov (e : Env) (o : Oper) : Bool := noSel o.op && o.op.operands.toList.all (covX e)
theorem noSel_spec {o : Oper} (h : noSel o.op = true) : ∀ cs b, o.op ≠ .select cs b := by
 intro cs b hh
 rw [hh] at h
 cases h
theorem exec_ev {N : Nat} {e : Env} {a : Act} {o : Oper} (h : Rep N e a) (hc : cov e o = true) : execOp a.eval o = execOp (ev e) o := by
 unfold cov at hc
 rw [Bool.and_eq_true] at hc
 refine execOp_congr o (noSel_spec hc.1) fun x hx => ?_
 have := List.all_eq_true.1 hc.2 x (by simpa using hx)
 cases x with
 | tmp t => exact h.get t this
 | _ => rfl
def wantedE (ops : Array Oper) (e : Env) (o : Oper) : Option Bool :=
 match o.guard with
 | none => some true
 | some (j, want) =>
  match (ops[j]?).bind (·.dst) with
  | some t => bif hasT e t then (match look e t with | .bool b => some (b == want) | _ => some false) else none
  | none => none
theorem wanted_ev {N : Nat} {e : Env} {a : Act} {o : Oper} {ops : Array Oper} {b : Bool} (h : Rep N e a) (hb : wantedE ops e o = some b) : Region.wanted o (yielded ops a.tmps) = b := by
 unfold wantedE at hb
 unfold Region.wanted
 split at hb
 ·
  rename_i hg
  rw [hg]
  simpa using hb
 ·
  rename_i j want hg
  rw [hg]
  simp only
  unfold yielded
  split at hb
  ·
   rename_i t ht
   rw [ht]
   simp only [Option.bind_some]
   cases hh : hasT e t with
   | false => rw [hh] at hb; simp at hb
   | true =>
    rw [hh] at hb
    simp only [cond_true] at hb
    have hg := h.get t hh
    rcases Nat.lt_or_ge t a.tmps.size with hlt | hge
    ·
     have h1 : a.tmps[t]? = some (look e t) := by
      rw [← hg]
      simp [hlt]
     rw [h1]
     split at hb
     ·
      rename_i c hc
      rw [hc]
      simp only [Option.some.injEq] at hb
      rw [← hb]
      cases c <;> cases want <;> rfl
     ·
      rename_i hc
      simp only [Option.some.injEq] at hb
      rw [← hb]
      split
      ·
       rename_i d hd
       simp only [Option.some.injEq] at hd
       exact absurd hd (hc d)
      ·
       rfl
    ·
     have h1 : a.tmps[t]? = none := Array.getElem?_eq_none hge
     rw [h1]
     have h2 : look e t = undef := by
      rw [← hg]
      simp [Nat.not_lt.2 hge]
     rw [h2] at hb
     simp only [undef, Option.some.injEq] at hb
     rw [← hb]
     rfl
  ·
   cases hb
def putE (e : Env) (d : Option Tmp) (v : Value) : Env :=
 match d with
 | some d => (d, v) :: e
 | none => e
def dstOk (N : Nat) (d : Option Tmp) : Bool :=
 match d with
 | some d => Nat.blt d N
 | none => true
theorem Rep.put {N : Nat} {e : Env} {a : Act} (h : Rep N e a) (d : Option Tmp) (v : Value) (hd : dstOk N d = true) : Rep N (putE e d v) (a.put d v) := by
 cases d with
 | none => exact h
 | some d =>
  have hlt : d < N := by
   unfold dstOk at hd
   simpa [Nat.blt_eq] using hd
  refine ⟨by simpa [Act.put] using h.size, h.defers, fun t ht => ?_⟩
  unfold putE hasT at ht
  unfold putE look Act.put
  by_cases hdt : d = t
  ·
   subst hdt
   have : d < a.tmps.size := by rw [h.size]; exact hlt
   simp [this]
  ·
   have hb : Nat.beq d t = false := by
    cases hb : Nat.beq d t with
    | false => rfl
    | true => exact absurd (Nat.eq_of_beq_eq_true hb) hdt
   rw [hb] at ht
   simp only [hb, cond_false] at ht ⊢
   rw [← h.get t ht]
   simp [Array.getElem?_setIfInBounds_ne hdt]
def keepE (e : Env) (ts : List Nat) : Option Env := bif ts.all (hasT e) then some (ts.map fun t => (t, look e t)) else none
theorem look_keep (e : Env) : ∀ (ts : List Nat) (t : Nat), hasT (ts.map fun t => (t, look e t)) t = true → look (ts.map fun t => (t, look e t)) t = look e t ∧ t ∈ ts
 | [], t, h => by simp [hasT] at h
 | s :: ts, t, h => by
  simp only [List.map_cons, hasT, look] at *
  cases hb : Nat.beq s t with
  | true =>
   have := Nat.eq_of_beq_eq_true hb
   subst this
   simp
  | false =>
   rw [hb] at h
   simp only [cond_false] at *
   have := look_keep e ts t h
   exact ⟨this.1, List.mem_cons_of_mem _ this.2⟩
theorem Rep.keep {N : Nat} {e e' : Env} {a : Act} (h : Rep N e a) (ts : List Nat) (hk : keepE e ts = some e') : Rep N e' a := by
 unfold keepE at hk
 cases hall : ts.all (hasT e) with
 | false => rw [hall] at hk; cases hk
 | true =>
  rw [hall] at hk
  simp only [cond_true, Option.some.injEq] at hk
  subst hk
  refine ⟨h.size, h.defers, fun t ht => ?_⟩
  have := look_keep e ts t ht
  rw [this.1]
  exact h.get t (List.all_eq_true.1 hall t this.2)
theorem wrap_i64 {n m : Int} (h : n = m) (h2 : -9223372036854775808 ≤ m ∧ m ≤ 9223372036854775807) : Value.int .i64 (IntKind.i64.wrap n) = .int .i64 m := by
 subst h
 rw [IntWalk.i64_in n (by omega)]
theorem wrap_u64 {n m : Int} (h : n = m) (h2 : 0 ≤ m ∧ m ≤ 18446744073709551615) : Value.int .u64 (IntKind.u64.wrap n) = .int .u64 m := by
 subst h
 rw [IntWalk.u64_in n (by omega)]
theorem nin0 (g : Nat) : g ∉ ([] : List Nat) := by simp
theorem ninC {g b : Nat} {S : List Nat} (h : g ≠ b) (k : g ∉ S) : g ∉ b :: S := by simp [h, k]
theorem _root_.Go.Proofs.YtjfgmdkdcnfdoaaGreatDoor.Fr.step0 {S : List Nat} {w w1 w2 : World} (h : Fr S w w1) (k : Fr [] w1 w2) : Fr S w w2 := h.step k (by simp)
theorem inS0 {S : List Nat} {w : World} : ∀ x ∈ ([] : List Nat), x ∈ S ∨ w.heap.size ≤ x := by simp
theorem inSL {S T : List Nat} {w : World} {b : Nat} (h : b ∈ S) (k : ∀ x ∈ T, x ∈ S ∨ w.heap.size ≤ x) : ∀ x ∈ b :: T, x ∈ S ∨ w.heap.size ≤ x := by
 intro x hx
 rcases List.mem_cons.1 hx with rfl | hx
 ·
  exact .inl h
 ·
  exact k x hx
theorem inSR {S T : List Nat} {w : World} {b : Nat} (h : w.heap.size ≤ b) (k : ∀ x ∈ T, x ∈ S ∨ w.heap.size ≤ x) : ∀ x ∈ b :: T, x ∈ S ∨ w.heap.size ≤ x := by
 intro x hx
 rcases List.mem_cons.1 hx with rfl | hx
 ·
  exact .inr h
 ·
  exact k x hx
def FrB (B : Nat) (w w' : World) : Prop := ∀ k, k < B → w'.heap[k]? = w.heap[k]?
theorem frBR (B : Nat) (w : World) : FrB B w w := fun _ _ => rfl
theorem frBT (B : Nat) (w w1 w2 : World) (h : FrB B w w1) (k : FrB B w1 w2) : FrB B w w2 := fun i hi => (k i hi).trans (h i hi)
theorem frB_of {B : Nat} {w : World} {S : List Nat} (hB : B ≤ w.heap.size) (hS : ∀ x ∈ S, B ≤ x) : ∀ w', Fr S w w' → FrB B w w' := fun w' h i hi => h.block i (Nat.lt_of_lt_of_le hi hB) (fun hm => by have := hS i hm; omega)
theorem _root_.Go.Proofs.YtjfgmdkdcnfdoaaGreatDoor.Blk.keepB {B : Nat} {w w1 : World} {g : Nat} {cs : Array Value} {T : TypeId} (h : Blk w g cs T) (k : FrB B w w1) (hg : g < B) : Blk w1 g cs T := (k g hg).trans h
theorem _root_.Go.Proofs.YtjfgmdkdcnfdoaaGreatDoor.Blk.at {w : World} {g : Nat} {cs : Array Value} {T : TypeId} (h : Blk w g cs T) (i : Nat) {v : Value} (hv : cs[i]? = some v) : w.cell? ⟨g, i, none⟩ = some v := (h.cell i).trans hv
def opAt (ops : Array Oper) (i : Nat) : Oper := (ops[i]?).getD default
section
variable {P : Program} {ι : Type}
structure TkF (P : Program) (ops : Array Oper) (S : ι → Act → World → Prop) (x : ι) (o : Oper) (y : ι) : Prop where
 val : ∀ a w v, Region.wanted o (yielded ops a.tmps) = true → (∀ w', (execOp a.eval o).run P w' = .ok (.value v) w') → S y (a.put o.dst v) w → S x a w
 off : ∀ a w, Region.wanted o (yielded ops a.tmps) = false → S y (a.put o.dst undef) w → S x a w
structure TkO (P : Program) (ops : Array Oper) (S : ι → Act → World → Prop) (x : ι) (o : Oper) (y : ι) : Prop where
 off : ∀ a w, Region.wanted o (yielded ops a.tmps) = false → S y (a.put o.dst undef) w → S x a w
structure TkS (P : Program) (ops : Array Oper) (R : World → World → Prop) (S : ι → Act → World → Prop) (x : ι) (o : Oper) (y : ι) : Prop where
 val : ∀ a w v, Region.wanted o (yielded ops a.tmps) = true → (∀ w', R w w' → (execOp a.eval o).run P w' = .ok (.value v) w') → S y (a.put o.dst v) w → S x a w
structure TkE (P : Program) (ops : Array Oper) (R : World → World → Prop) (S : ι → Act → World → Prop) (x : ι) (o : Oper) (y : ι) : Prop where
 go : ∀ a w, Region.wanted o (yielded ops a.tmps) = true → (∀ Q, o.wp P a w (fun a' w' => R w w' ∧ S y a' w') Q) → S x a w
def WO (S : ι → Act → World → Prop) (N : Nat) (x : ι) (e : Env) (w : World) : Prop := ∀ a, Rep N e a → S x a w
variable {ops : Array Oper} {N : Nat} {S : ι → Act → World → Prop} {R : World → World → Prop} {x y : ι} {o : Oper} {e e' : Env} {w : World}
theorem WO.keep (ts : List Nat) (h : keepE e ts = some e') (k : WO S N x e' w) : WO S N x e w := fun a ha => k a (ha.keep ts h)
theorem WO.top {d : Nat} {v v' : Value} (h : v = v') (k : WO S N x ((d, v') :: e) w) : WO S N x ((d, v) :: e) w := by
 subst h
 exact k
theorem WO.sub {v v' : Value} (E : Value → Env) (h : v = v') (k : WO S N x (E v') w) : WO S N x (E v) w := by
 subst h
 exact k
section
variable {d : Nat} {p : Prop} [Decidable p]
theorem WO.topP (p : Prop) [Decidable p] (k1 : p → WO S N x ((d, .bool true) :: e) w) (k2 : ¬ p → WO S N x ((d, .bool false) :: e) w) : WO S N x ((d, .bool (decide p)) :: e) w := by
 by_cases h : p
 ·
  rw [decide_eq_true h]; exact k1 h
 ·
  rw [decide_eq_false h]; exact k2 h
theorem WO.topPT (p : Prop) [Decidable p] (h : p) (k : WO S N x ((d, .bool true) :: e) w) : WO S N x ((d, .bool (decide p)) :: e) w := by rw [decide_eq_true h]; exact k
theorem WO.topPF (p : Prop) [Decidable p] (h : ¬ p) (k : WO S N x ((d, .bool false) :: e) w) : WO S N x ((d, .bool (decide p)) :: e) w := by rw [decide_eq_false h]; exact k
theorem WO.topNT (p : Prop) [Decidable p] (h : p) (k : WO S N x ((d, .bool false) :: e) w) : WO S N x ((d, .bool (!decide p)) :: e) w := by rw [decide_eq_true h]; exact k
end
theorem WO.topNB {d : Nat} (b : Bool) (k1 : b = true → WO S N x ((d, .bool false) :: e) w) (k2 : b = false → WO S N x ((d, .bool true) :: e) w) : WO S N x ((d, .bool (!b)) :: e) w := by
 cases b
 ·
  exact k2 rfl
 ·
  exact k1 rfl
def oneV (P : Program) (ops : Array Oper) (N : Nat) (e : Env) (o : Oper) (w : World) : Option (Value × World) :=
 bif dstOk N o.dst then
  match wantedE ops e o with
  | some true => bif cov e o then (match (execOp (ev e) o).run P w with | .ok (.value v) w' => some (v, w') | _ => none) else none
  | some false => some (undef, w)
  | none => none
 else none
theorem WO.one0 (hT : TkF P ops S x o y) {v : Value} (h : (fun w => oneV P ops N e o w) = fun w => some (v, w)) (k : WO S N y (putE e o.dst v) w) : WO S N x e w := fun a ha => by
 have h1 := fun w => congrFun h w
 clear h
 have h0 := h1 w
 unfold oneV at h0
 cases hd : dstOk N o.dst with
 | false => rw [hd] at h0; simp at h0
 | true =>
  rw [hd] at h0
  simp only [cond_true] at h0
  split at h0
  ·
   rename_i hw
   cases hcv : cov e o with
   | false => rw [hcv] at h0; simp at h0
   | true =>
    refine hT.val a w v (wanted_ev ha hw) (fun w' => ?_) (k _ (ha.put _ _ hd))
    have h2 := h1 w'
    unfold oneV at h2
    rw [hd, hw, hcv] at h2
    simp only [cond_true] at h2
    rw [exec_ev ha hcv]
    split at h2
    ·
     rename_i u w2 hr
     simp only [Option.some.injEq, Prod.mk.injEq] at h2
     rw [hr, h2.1, h2.2]
    ·
     cases h2
  ·
   rename_i hw
   simp only [Option.some.injEq, Prod.mk.injEq, and_true] at h0
   subst h0
   exact hT.off a w (wanted_ev ha hw) (k _ (ha.put _ _ hd))
  ·
   cases h0
def oneD (P : Program) (ops : Array Oper) (N : Nat) (e : Env) (o : Oper) (w : World) : Option (Nat × Value × World) :=
 match o.dst, oneV P ops N e o w with
 | some d, some (v, w') => some (d, v, w')
 | _, _ => none
theorem WO.one (hT : TkF P ops S x o y) (d : Nat) (v : Value) (h : (fun w => oneD P ops N e o w) = fun w => some (d, v, w)) (k : WO S N y ((d, v) :: e) w) : WO S N x e w := by
 have h1 : ∀ w, o.dst = some d ∧ oneV P ops N e o w = some (v, w) := fun w => by
  have := congrFun h w
  unfold oneD at this
  split at this
  ·
   rename_i d' v' w' h2 h3
   simp only [Option.some.injEq, Prod.mk.injEq] at this
   obtain ⟨rfl, rfl, rfl⟩ := this
   exact ⟨h2, h3⟩
  ·
   cases this
 refine WO.one0 hT (funext fun w => (h1 w).2) ?_
 rw [(h1 w).1]
 exact k
def offAt (ops : Array Oper) (N : Nat) (e : Env) (o : Oper) : Option (Option Tmp) :=
 bif dstOk N o.dst then (match wantedE ops e o with | some false => some o.dst | _ => none) else none
theorem WO.off (hT : TkO P ops S x o y) (d : Nat) (h : offAt ops N e o = some (some d)) (k : WO S N y ((d, undef) :: e) w) : WO S N x e w := fun a ha => by
 unfold offAt at h
 cases hd : dstOk N o.dst with
 | false => rw [hd] at h; cases h
 | true =>
  rw [hd] at h
  simp only [cond_true] at h
  split at h
  ·
   rename_i hw
   simp only [Option.some.injEq] at h
   have hp := ha.put o.dst undef hd
   rw [h] at hp
   refine hT.off a w (wanted_ev ha hw) ?_
   rw [h]
   exact k _ hp
  ·
   cases h
def onB (ops : Array Oper) (N : Nat) (e : Env) (o : Oper) : Bool := dstOk N o.dst && cov e o && (match wantedE ops e o with | some true => true | _ => false)
theorem onB_spec {a : Act} (h : onB ops N e o = true) (ha : Rep N e a) : Region.wanted o (yielded ops a.tmps) = true ∧ execOp a.eval o = execOp (ev e) o ∧ dstOk N o.dst = true ∧ cov e o = true := by
 unfold onB at h
 rw [Bool.and_eq_true, Bool.and_eq_true] at h
 obtain ⟨⟨h1, h2⟩, h3⟩ := h
 split at h3
 ·
  rename_i hw
  exact ⟨wanted_ev ha hw, exec_ev ha h2, h1, h2⟩
 ·
  cases h3
theorem WO.val (hT : TkS P ops R S x o y) {v : Value} (h : onB ops N e o = true) (hr : ∀ w', R w w' → (execOp (ev e) o).run P w' = .ok (.value v) w') (k : WO S N y (putE e o.dst v) w) : WO S N x e w := fun a ha => by
 obtain ⟨h2, h3, h4, _⟩ := onB_spec h ha
 exact hT.val a w v h2 (fun w' hR => by rw [h3]; exact hr w' hR) (k _ (ha.put _ _ h4))
theorem WO.valF (hT : TkF P ops S x o y) {v : Value} (h : onB ops N e o = true) (hr : ∀ w', (execOp (ev e) o).run P w' = .ok (.value v) w') (k : WO S N y (putE e o.dst v) w) : WO S N x e w := fun a ha => by
 obtain ⟨h2, h3, h4, _⟩ := onB_spec h ha
 exact hT.val a w v h2 (fun w' => by rw [h3]; exact hr w') (k _ (ha.put _ _ h4))
def aggT (P : Program) (t : TypeId) : Option Bool :=
 match P.underlying t with
 | some (.struct _) => some true
 | some (.array ..) => some true
 | some _ => some false
 | none => none
theorem run_ld {t : TypeId} (hd : aggT P t = some false) {ad : Addr} {w : World} {v : Value} (hc : w.cell? ad = some v) : (Instr.loadAt t (.pointer (some ad))).run P w = .ok v w := by
 unfold aggT at hd
 split at hd
 ·
  cases hd
 ·
  cases hd
 ·
  rename_i d h1 h2 hu
  have hu' := run_underlying hu w
  cases d <;> simp_all [Instr.loadAt, Instr.sureAddr, loadVar, isAgg, Go.load, Sem.run]
 ·
  cases hd
def ldAt (P : Program) (ops : Array Oper) (N : Nat) (e : Env) (o : Oper) : Option (Option Bool × Addr × Nat × Option Tmp) :=
 bif onB ops N e o then
  match o.op with
  | .load t z =>
   match ev e z with
   | .pointer (some ad) => some (aggT P t, ad, ((P.info? t).map (·.size)).getD 0, o.dst)
   | _ => none
  | _ => none
 else none
theorem ldAt_spec {b : Option Bool} {ad : Addr} {n : Nat} {d : Option Tmp} (h : ldAt P ops N e o = some (b, ad, n, d)) :
  ∃ t z, onB ops N e o = true ∧ o.op = .load t z ∧ ev e z = .pointer (some ad) ∧ aggT P t = b ∧ ((P.info? t).map (·.size)).getD 0 = n ∧ o.dst = d := by
 unfold ldAt at h
 cases ho : onB ops N e o with
 | false => rw [ho] at h; cases h
 | true =>
  rw [ho] at h
  simp only [cond_true] at h
  split at h
  ·
   rename_i t z hop
   split at h
   ·
    rename_i ad' hx
    simp only [Option.some.injEq, Prod.mk.injEq] at h
    obtain ⟨h1, rfl, h3, h4⟩ := h
    exact ⟨t, z, rfl, hop, hx, h1, h3, h4⟩
   ·
    cases h
  ·
   cases h
theorem WO.ld (hT : TkS P ops R S x o y) (d : Nat) (v : Value) {ad : Addr} (h : ldAt P ops N e o = some (some false, ad, 1, some d)) (hc : ∀ w', R w w' → w'.cell? ad = some v) (k : WO S N y ((d, v) :: e) w) : WO S N x e w := by
 obtain ⟨t, z, ho, hop, hx, hb, hn, hd⟩ := ldAt_spec h
 refine WO.val hT ho (v := v) (fun w' hR => ?_) (by rw [hd]; exact k)
 unfold execOp
 simp only [hop, hx, Sem.run_bind, run_ld hb (hc w' hR), Result.andThen_ok, Sem.run_pure]
theorem run_loadCells {w : World} (ad : Addr) : ∀ (n i : Nat) (acc : Array Value) (vs : List Value), vs.length = n → (∀ j, j < n → w.cell? (ad.add (i + j)) = vs[j]?) → (loadCellsFrom ad i n acc).run P w = .ok (acc ++ vs.toArray) w
 | 0, i, acc, vs, hl, hc => by
  have : vs = [] := List.length_eq_zero_iff.1 hl
  subst this
  simp [loadCellsFrom]
 | n + 1, i, acc, [], hl, hc => by cases hl
 | n + 1, i, acc, v :: vs, hl, hc => by
  have h0 : w.cell? (ad.add i) = some v := by simpa using hc 0 (by omega)
  have ih := run_loadCells ad n (i + 1) (acc.push v) vs (by simpa using hl) (fun j hj => by have := hc (j + 1) (by omega); simpa [Nat.add_assoc, Nat.add_comm 1 j] using this)
  simp [loadCellsFrom, Go.load, Sem.run, h0, ih]
theorem run_ldA {t : TypeId} (hd : aggT P t = some true) {ad : Addr} {w : World} {vs : List Value} (hn : ((P.info? t).map (·.size)).getD 0 = vs.length) (hp : 0 < vs.length) (hc : ∀ j, j < vs.length → w.cell? (ad.add j) = vs[j]?) : (Instr.loadAt t (.pointer (some ad))).run P w = .ok (.agg vs.toArray) w := by
 have hl := run_loadCells (P := P) (w := w) ad vs.length 0 #[] vs rfl (fun j hj => by simpa using hc j hj)
 have hsz : (sizeOf t).run P w = .ok vs.length w := by
  cases hi : P.info? t with
  | none => rw [hi] at hn; simp at hn; omega
  | some x =>
   rw [hi] at hn
   simp at hn
   simp [sizeOf, typeInfo, program, Sem.run, hi, hn]
 unfold aggT at hd
 split at hd
 ·
  rename_i fs hu
  have hu' := run_underlying hu w
  simp [Instr.loadAt, Instr.sureAddr, loadVar, isAgg, hu', hsz, loadCells, hl]
 ·
  rename_i n x hu
  have hu' := run_underlying hu w
  simp [Instr.loadAt, Instr.sureAddr, loadVar, isAgg, hu', hsz, loadCells, hl]
 ·
  cases hd
 ·
  cases hd
theorem WO.ldA (hT : TkS P ops R S x o y) (d : Nat) (vs : List Value) {ad : Addr} (h : ldAt P ops N e o = some (some true, ad, vs.length, some d)) (hp : Nat.blt 0 vs.length = true) (hc : ∀ w', R w w' → ∀ j, j < vs.length → w'.cell? (ad.add j) = vs[j]?) (k : WO S N y ((d, .agg vs.toArray) :: e) w) : WO S N x e w := by
 obtain ⟨t, z, ho, hop, hx, hb, hn, hd⟩ := ldAt_spec h
 rw [Nat.blt_eq] at hp
 refine WO.val hT ho (v := .agg vs.toArray) (fun w' hR => ?_) (by rw [hd]; exact k)
 unfold execOp
 simp only [hop, hx, Sem.run_bind, run_ldA hb hn hp (hc w' hR), Result.andThen_ok, Sem.run_pure]
theorem add_add_ (a : Addr) (n m : Nat) : (a.add n).add m = a.add (n + m) := by
 unfold Addr.add
 by_cases h1 : n = 0 <;> by_cases h2 : m = 0 <;> simp [h1, h2, Nat.add_assoc]
theorem add_blk (g o n : Nat) : Addr.add ⟨g, o, none⟩ n = ⟨g, o + n, none⟩ := by
 unfold Addr.add
 split
 ·
  rename_i h
  subst h
  rfl
 ·
  rfl
theorem WO.ldB (hT : TkS P ops R S x o y) (d : Nat) (vs : List Value) (g off : Nat) {cs : Array Value} {T : TypeId} (h : ldAt P ops N e o = some (some true, ⟨g, off, none⟩, vs.length, some d)) (hp : Nat.blt 0 vs.length = true) (hB : ∀ w', R w w' → Blk w' g cs T) (hc : (cs.toList.drop off).take vs.length = vs) (k : WO S N y ((d, .agg vs.toArray) :: e) w) : WO S N x e w := by
 refine WO.ldA hT d vs h hp (fun w' hR j hj => ?_) k
 rw [add_blk, (hB w' hR).cell, ← Array.getElem?_toList]
 have := congrArg (fun l => l[j]?) hc
 simp only [List.getElem?_take, hj, if_true, List.getElem?_drop] at this
 exact this
def ixAt (P : Program) (ops : Array Oper) (N : Nat) (e : Env) (o : Oper) : Option (Addr × Nat × Int × Nat × Option Tmp) :=
 bif onB ops N e o then
  match o.op with
  | .indexAddr t z u =>
   match ev e z, ev e u, P.underlying t with
   | .slice (some ad) n _, .int _ j, some (.slice el) => (P.info? el).map fun x => (ad, n, j, x.size, o.dst)
   | _, _, _ => none
  | _ => none
 else none
theorem WO.ix (hT : TkF P ops S x o y) (d : Nat) (ad' ad : Addr) (n size : Nat) (j : Int) (h : ixAt P ops N e o = some (ad, n, j, size, some d)) (h0 : 0 ≤ j) (h1 : j < n) (had : ad.add (j.toNat * size) = ad') (k : WO S N y ((d, .pointer (some ad')) :: e) w) : WO S N x e w := by
 unfold ixAt at h
 cases ho : onB ops N e o with
 | false => rw [ho] at h; cases h
 | true =>
  rw [ho] at h
  simp only [cond_true] at h
  split at h
  ·
   rename_i t z u hop
   split at h
   ·
    rename_i ad2 n2 c2 kk j2 el hx hy hu
    cases hi : P.info? el with
    | none => rw [hi] at h; cases h
    | some inf =>
     rw [hi] at h
     simp only [Option.map_some, Option.some.injEq, Prod.mk.injEq] at h
     obtain ⟨rfl, rfl, rfl, rfl, hd⟩ := h
     subst had
     refine WO.valF hT ho (v := .pointer (some (ad2.add (j2.toNat * inf.size)))) (fun w' => ?_) (by rw [hd]; exact k)
     have hu' := run_underlying hu w'
     have hsz : (sizeOf el).run P w' = .ok inf.size w' := by simp [sizeOf, typeInfo, program, Sem.run, hi]
     unfold execOp
     simp [hop, hx, hy, Instr.indexAt, asIntOf, hu', hsz, h0, h1]
   ·
    cases h
  ·
   cases h
theorem WO.ixB (hT : TkF P ops S x o y) (d m g off n size : Nat) (j : Int) (h : ixAt P ops N e o = some (⟨g, off, none⟩, n, j, size, some d)) (h0 : 0 ≤ j) (h1 : j < n) (hm : off + j.toNat * size = m) (k : WO S N y ((d, .pointer (some ⟨g, m, none⟩)) :: e) w) : WO S N x e w :=
 WO.ix hT d _ _ n size j h h0 h1 (by rw [add_blk, hm]) k
theorem WO.on (hT : TkE P ops R S x o y) (h : onB ops N e o = true) (k : ∀ a, Rep N e a → execOp a.eval o = execOp (ev e) o → dstOk N o.dst = true → cov e o = true → ∀ Q, o.wp P a w (fun a' w' => R w w' ∧ S y a' w') Q) : WO S N x e w := fun a ha => by
 obtain ⟨h2, h3, h4, h5⟩ := onB_spec h ha
 exact hT.go a w h2 (k a ha h3 h4 h5)
def bxAt (P : Program) (ops : Array Oper) (N : Nat) (e : Env) (o : Oper) (w : World) : Option (Value × Option Tmp × World) :=
 bif onB ops N e o then
  match (execOp (ev e) o).run P w with
  | .ok (.value v) w' => some (v, o.dst, w')
  | _ => none
 else none
theorem WO.bxAny (hT : TkE P ops R S x o y) (d : Nat) {w' : World} {v : Value} (h : bxAt P ops N e o w = some (v, some d, w')) (hR : R w w') (k : WO S N y ((d, v) :: e) w') : WO S N x e w := by
 unfold bxAt at h
 cases ho : onB ops N e o with
 | false => rw [ho] at h; cases h
 | true =>
  rw [ho] at h
  simp only [cond_true] at h
  split at h
  ·
   rename_i u w2 hr
   simp only [Option.some.injEq, Prod.mk.injEq] at h
   obtain ⟨rfl, hd, rfl⟩ := h
   refine WO.on hT ho fun a ha h3 h4 _ Q => ?_
   simp only [Oper.wp, h3, hr, Oper.upon]
   have hp := ha.put o.dst u h4
   rw [hd] at hp ⊢
   exact ⟨hR, k _ hp⟩
  ·
   cases h
theorem WO.bx (hT : TkE P ops R S x o y) (d : Nat) (cs : Array Value) (T : TypeId) (V : Nat → Value) (h : bxAt P ops N e o w = some (V w.heap.size, some d, w.alloc (.cells cs T))) (hR : ∀ w', Fr [] w w' → R w w')
  (k : ∀ g w', Blk w' g cs T → Fr [] w w' → w.heap.size ≤ g → g < w'.heap.size → WO S N y ((d, V g) :: e) w') : WO S N x e w :=
 WO.bxAny hT d h (hR _ ((Fr.refl _ _).alloc _)) (k _ _ (Blk.new _ _ _) ((Fr.refl _ _).alloc _) (Nat.le_refl _) (by rw [size_alloc]; exact Nat.lt_succ_self _))
def oneB : Value → Bool
 | .agg _ => false
 | .tuple _ => false
 | _ => true
def splice (cs : Array Value) (o : Nat) : List Value → Array Value
 | [] => cs
 | v :: vs => splice (cs.setIfInBounds o v) (o + 1) vs
theorem size_splice : ∀ (vs : List Value) (cs : Array Value) (o : Nat), (splice cs o vs).size = cs.size
 | [], _, _ => rfl
 | v :: vs, cs, o => by rw [splice, size_splice vs]; simp
theorem run_storeCells {g : Nat} {T : TypeId} : ∀ (vs : List Value) (o i : Nat) (cs : Array Value) (w : World), Blk w g cs T → o + i + vs.length ≤ cs.size → vs.all oneB = true →
  ∃ w', (storeCells ⟨g, o, none⟩ vs i).run P w = .ok () w' ∧ Blk w' g (splice cs (o + i) vs) T ∧ Fr [g] w w' ∧ w'.heap.size = w.heap.size
 | [], o, i, cs, w, hB, hl, h1 => ⟨w, rfl, hB, Fr.refl _ _, rfl⟩
 | v :: vs, o, i, cs, w, hB, hl, h1 => by
  simp only [List.all_cons, Bool.and_eq_true, List.length_cons] at h1 hl
  have hB1 := Blk.put hB (o + i) v rfl
  obtain ⟨w', h2, h3, h4, h5⟩ := run_storeCells vs o (i + 1) (cs.setIfInBounds (o + i) v) (w.setCell ⟨g, o + i, none⟩ v) hB1 (by simp; omega) h1.2
  refine ⟨w', ?_, h3, (((Fr.refl [g] w).set (.inl (by simp)) (o + i) v).trans h4), by rw [h5, size_set]⟩
  have hcell : w.cell? ⟨g, o + i, none⟩ = some cs[o + i] := by rw [hB.cell]; exact Array.getElem?_eq_getElem _
  have hfr : w.frozen? ⟨g, o + i, none⟩ = false := hB.frozen _
  unfold storeCells
  rw [Sem.run_bind, add_blk]
  have : (Go.store ⟨g, o + i, none⟩ v).run P w = .ok () (w.setCell ⟨g, o + i, none⟩ v) := by
   cases v <;> first | (simp [oneB] at h1; done) | simp [Go.store, Sem.run, hcell, hfr]
  rw [this, Result.andThen_ok]
  exact h2
def stAt (P : Program) (ops : Array Oper) (N : Nat) (e : Env) (o : Oper) : Option (Addr × List Value × Option Tmp) :=
 bif onB ops N e o then
  match o.op with
  | .store t z u =>
   match ev e z with
   | .pointer (some ad) => bif ((ev e u).cells.toList.all oneB && (match P.info? t with | some inf => Nat.beq inf.size (ev e u).cells.size | none => false)) then some (ad, (ev e u).cells.toList, o.dst) else none
   | _ => none
  | _ => none
 else none
theorem WO.st (hT : TkE P ops R S x o y) (g off : Nat) (vs : List Value) {cs : Array Value} (cs' : Array Value) {T : TypeId} (h : stAt P ops N e o = some (⟨g, off, none⟩, vs, none)) (hB : Blk w g cs T) (hl : Nat.ble (off + vs.length) cs.size = true) (hs : splice cs off vs = cs') (hR : ∀ w', Fr [g] w w' → R w w')
  (k : ∀ w', Blk w' g cs' T → Fr [g] w w' → w'.heap.size = w.heap.size → WO S N y e w') : WO S N x e w := by
 unfold stAt at h
 cases ho : onB ops N e o with
 | false => rw [ho] at h; cases h
 | true =>
  rw [ho] at h
  simp only [cond_true] at h
  split at h
  ·
   rename_i t z u hop
   split at h
   ·
    rename_i ad hx
    cases hc : (((ev e u).cells.toList.all oneB) && (match P.info? t with | some inf => Nat.beq inf.size (ev e u).cells.size | none => false)) with
    | false => rw [hc] at h; cases h
    | true =>
     rw [hc] at h
     rw [Bool.and_eq_true] at hc
     simp only [cond_true, Option.some.injEq, Prod.mk.injEq] at h
     obtain ⟨rfl, rfl, hd⟩ := h
     obtain ⟨hc1, hc2⟩ := hc
     split at hc2
     ·
      rename_i inf hi
      have hsz : (sizeOf t).run P w = .ok inf.size w := by simp [sizeOf, typeInfo, program, Sem.run, hi]
      have heq : inf.size = (ev e u).cells.size := Nat.eq_of_beq_eq_true hc2
      obtain ⟨w', h2, h3, h4, h5⟩ := run_storeCells (P := P) (ev e u).cells.toList off 0 cs w hB (by simpa using Nat.le_of_ble_eq_true hl) hc1
      refine WO.on hT ho fun a ha h6 h7 _ Q => ?_
      have hrun : (execOp (ev e) o).run P w = .ok .skip w' := by
       unfold execOp
       simp [hop, hx, Instr.storeAt, Instr.sureAddr, storeVar, hsz, heq, h2]
      simp only [Oper.wp, h6, hrun, Oper.upon]
      have hp := ha.put o.dst undef h7
      rw [hd] at hp ⊢
      exact ⟨hR _ h4, k w' (by rw [← hs]; exact h3) h4 h5 _ hp⟩
     ·
      cases hc2
   ·
    cases h
  ·
   cases h
def callAt (P : Program) (ops : Array Oper) (N : Nat) (e : Env) (o : Oper) (w : World) : Option (FuncId × Array Value × Option Tmp × World) :=
 bif onB ops N e o then
  match (execOp (ev e) o).run P w with
  | .ok (.enter f args) w' => some (f, args, o.dst, w')
  | _ => none
 else none
theorem WO.call (hT : TkE P ops R S x o y) (d : Nat) {f : FuncId} {args : Array Value} {K : Ending → World → Prop} (h : callAt P ops N e o w = some (f, args, some d, w)) (hc : Calls P f args w K)
  (k : ∀ en w', K en w' → ∃ v, en = .returned v ∧ R w w' ∧ WO S N y ((d, v) :: e) w') : WO S N x e w := by
 unfold callAt at h
 cases ho : onB ops N e o with
 | false => rw [ho] at h; cases h
 | true =>
  rw [ho] at h
  simp only [cond_true] at h
  split at h
  ·
   rename_i f2 a2 w2 hr
   simp only [Option.some.injEq, Prod.mk.injEq] at h
   obtain ⟨rfl, rfl, hd, rfl⟩ := h
   refine WO.on hT ho fun a ha h3 h4 _ Q => ?_
   simp only [Oper.wp, h3, hr, Oper.upon]
   refine hc.mono fun en w' hK => ?_
   obtain ⟨v, rfl, hR, hk⟩ := k en w' hK
   have hp := ha.put o.dst v h4
   rw [hd] at hp
   simp only [hd]
   exact ⟨hR, hk _ hp⟩
  ·
   cases h
def appAt (ops : Array Oper) (N : Nat) (e : Env) (o : Oper) : Option (TypeId × Value × Value × Option Tmp) :=
 bif onB ops N e o then
  match o.op with
  | .call { callee := .builtin .append, args := ⟨[s, z]⟩, argTypes := ⟨[t, u]⟩ } => bif Nat.beq t u then some (t, ev e s, ev e z, o.dst) else none
  | _ => none
 else none
theorem WO.app (hT : TkE P ops R S x o y) (d : Nat) {t : TypeId} {v xv : Value} (h : appAt ops N e o = some (t, v, xv, some d)) {base : Nat} {el : TypeId} {size bytes n m : Nat} {xs news : List Value} (E : ET P t el size bytes)
  (hown : w.ownsRow base el size v n xs) (hsrc : Src w xv m news size) (hbytes : (n + m) * bytes ≤ 140737488355328) (hnm : n + m ≤ 140737488355328) (hbase : base ≤ w.heap.size)
  (k : ∀ v' w', w'.ownsRow base el size v' (n + m) (xs ++ news) → w.grownBy w' v.ownBlock → (v'.ownBlock = v.ownBlock ∨ v'.ownBlock = some w.heap.size) → R w w' ∧ WO S N y ((d, v') :: e) w') : WO S N x e w := by
 unfold appAt at h
 cases ho : onB ops N e o with
 | false => rw [ho] at h; cases h
 | true =>
  rw [ho] at h
  simp only [cond_true] at h
  split at h
  ·
   rename_i s z t' u' hop
   cases hb : Nat.beq t' u' with
   | false => rw [hb] at h; cases h
   | true =>
    rw [hb] at h
    have := Nat.eq_of_beq_eq_true hb
    subst this
    simp only [cond_true, Option.some.injEq, Prod.mk.injEq] at h
    obtain ⟨rfl, rfl, rfl, hd⟩ := h
    refine WO.on hT ho fun a ha h3 h4 hcv Q => ?_
    have hev : ∀ z ∈ o.op.operands, a.eval z = ev e z := fun z hz => by
     unfold cov at hcv
     rw [Bool.and_eq_true] at hcv
     have := List.all_eq_true.1 hcv.2 z (by simpa using hz)
     cases z with
     | tmp t => exact ha.get t this
     | _ => rfl
    refine wp_app s z t' hop base el size bytes E _ n xs (hev s (by simp [hop, Op.operands, Call.operands])) hown _ m news (hev z (by simp [hop, Op.operands, Call.operands])) hsrc hbytes hnm hbase fun v' w' h5 h6 h7 => ?_
    obtain ⟨hR, hk⟩ := k v' w' h5 h6 h7
    have hp := ha.put o.dst v' h4
    rw [hd] at hp ⊢
    exact ⟨hR, hk _ hp⟩
  ·
   cases h
end
section
variable {P : Program} {ops : Array Oper} {Q : Exit → Act → World → Prop} {N : Nat}
def SQ (P : Program) (ops : Array Oper) (Q : Exit → Act → World → Prop) (i : Nat) (a : Act) (w : World) : Prop := wpOps P ops Q (List.range' i (ops.size - i)) a w
def Same (w w' : World) : Prop := w' = w
def All (w w' : World) : Prop := True
theorem sameR (w : World) : Same w w := rfl
theorem sameT (w w1 w2 : World) (h : Same w w1) (k : Same w1 w2) : Same w w2 := Eq.trans k h
theorem same {p : World → Prop} {w : World} (h : p w) : ∀ w', Same w w' → p w' := by
 rintro _ rfl
 exact h
theorem SQ.cons {i : Nat} (h : Nat.blt i ops.size = true) : ops[i]? = some (opAt ops i) ∧ List.range' i (ops.size - i) = i :: List.range' (i + 1) (ops.size - (i + 1)) := by
 have hlt : i < ops.size := by simpa [Nat.blt_eq] using h
 refine ⟨by unfold opAt; rw [Array.getElem?_eq_getElem hlt]; rfl, ?_⟩
 rw [show ops.size - i = (ops.size - (i + 1)) + 1 by omega, List.range'_succ]
theorem SQ.F (i : Nat) (h : Nat.blt i ops.size = true) : TkF P ops (SQ P ops Q) i (opAt ops i) (i + 1) where
 val a w v hw hr k := by
  unfold SQ at *
  rw [(SQ.cons h).2]
  simp only [wpOps, (SQ.cons h).1, hw, if_true, Oper.wp, hr, Oper.upon]
  exact .inl k
 off a w hw k := by
  unfold SQ at *
  rw [(SQ.cons h).2]
  simp only [wpOps, (SQ.cons h).1, hw, Bool.false_eq_true, if_false]
  exact k
theorem SQ.O (i : Nat) (h : Nat.blt i ops.size = true) : TkO P ops (SQ P ops Q) i (opAt ops i) (i + 1) := ⟨(SQ.F i h).off⟩
theorem SQ.S (i : Nat) (h : Nat.blt i ops.size = true) : TkS P ops Same (SQ P ops Q) i (opAt ops i) (i + 1) where
 val a w v hw hr k := by
  unfold SQ at *
  rw [(SQ.cons h).2]
  simp only [wpOps, (SQ.cons h).1, hw, if_true, Oper.wp, hr w rfl, Oper.upon]
  exact .inl k
theorem SQ.E (i : Nat) (h : Nat.blt i ops.size = true) : TkE P ops All (SQ P ops Q) i (opAt ops i) (i + 1) where
 go a w hw k := by
  unfold SQ at *
  rw [(SQ.cons h).2]
  simp only [wpOps, (SQ.cons h).1, hw, if_true]
  exact .inl (Oper.wp_mono (fun _ _ hk => hk.2) (k Q))
def runV (P : Program) (ops : Array Oper) (N : Nat) (w : World) : Nat → Nat → Env → Option (Env × List World)
 | 0, _, e => some (e, [])
 | n + 1, i, e =>
  match (opAt ops i).dst, oneV P ops N e (opAt ops i) w with
  | some d, some (v, w') => (runV P ops N w n (i + 1) ((d, v) :: e)).map fun x => (x.1, w' :: x.2)
  | _, _ => none
theorem runV_pre {w : World} : ∀ (n i : Nat) (e e' : Env) (ws : List World), runV P ops N w n i e = some (e', ws) → ∃ pre, e' = pre ++ e ∧ pre.length = n
 | 0, i, e, e', ws, h => by
  simp only [runV, Option.some.injEq, Prod.mk.injEq] at h
  exact ⟨[], by simp [h.1], rfl⟩
 | n + 1, i, e, e', ws, h => by
  simp only [runV] at h
  split at h
  ·
   rename_i d v w' hd hv
   cases h2 : runV P ops N w n (i + 1) ((d, v) :: e) with
   | none => rw [h2] at h; cases h
   | some x =>
    rw [h2] at h
    simp only [Option.map_some, Option.some.injEq, Prod.mk.injEq] at h
    obtain ⟨pre, h3, h4⟩ := runV_pre n (i + 1) _ x.1 x.2 h2
    exact ⟨pre ++ [(d, v)], by rw [← h.1, h3]; simp, by simp [h4]⟩
  ·
   cases h
theorem WO.batch : ∀ (n i : Nat) {e e' : Env} {w : World}, Nat.ble (i + n) ops.size = true → ((fun w => runV P ops N w n i e) = fun w => some (e', List.replicate n w)) → WO (SQ P ops Q) N (i + n) e' w → WO (SQ P ops Q) N i e w
 | 0, i, e, e', w, hb, h, k => by
  have := congrFun h w
  simp only [runV, List.replicate, Option.some.injEq, Prod.mk.injEq, and_true] at this
  subst this
  exact k
 | n + 1, i, e, e', w, hb, h, k => by
  have hb' := Nat.le_of_ble_eq_true hb
  have hx : ∀ w0, ∃ d v, (opAt ops i).dst = some d ∧ oneV P ops N e (opAt ops i) w0 = some (v, w0) ∧ runV P ops N w0 n (i + 1) ((d, v) :: e) = some (e', List.replicate n w0) := fun w0 => by
   have h0 := congrFun h w0
   simp only [runV] at h0
   split at h0
   ·
    rename_i d v w1 hd h1
    cases h2 : runV P ops N w0 n (i + 1) ((d, v) :: e) with
    | none => rw [h2] at h0; cases h0
    | some x2 =>
     rw [h2] at h0
     simp only [Option.map_some, Option.some.injEq, Prod.mk.injEq, List.replicate_succ, List.cons.injEq] at h0
     obtain ⟨h3, h4, h5⟩ := h0
     subst h4
     exact ⟨d, v, hd, h1, by rw [h2, ← h3, ← h5]⟩
   ·
    cases h0
  obtain ⟨d, v, hd, hv, hr⟩ := hx w
  have hall : ∀ w0, oneV P ops N e (opAt ops i) w0 = some (v, w0) ∧ runV P ops N w0 n (i + 1) ((d, v) :: e) = some (e', List.replicate n w0) := fun w0 => by
   obtain ⟨d0, v0, hd0, hv0, hr0⟩ := hx w0
   rw [hd] at hd0
   simp only [Option.some.injEq] at hd0
   subst hd0
   obtain ⟨p1, q1, l1⟩ := runV_pre _ _ _ _ _ hr
   obtain ⟨p2, q2, l2⟩ := runV_pre _ _ _ _ _ hr0
   have := (List.append_inj (q1.symm.trans q2) (l1.trans l2.symm)).2
   simp only [List.cons.injEq, Prod.mk.injEq, true_and, and_true] at this
   subst this
   exact ⟨hv0, hr0⟩
  refine WO.one0 (SQ.F i (by rw [Nat.blt_eq]; omega)) (v := v) (funext fun w0 => (hall w0).1) ?_
  rw [hd]
  refine WO.batch n (i + 1) (by rw [Nat.ble_eq]; omega) (funext fun w0 => (hall w0).2) ?_
  rw [show i + 1 + n = i + (n + 1) by omega]
  exact k
theorem WO.run {e : Env} {w : World} (n i : Nat) (pre : Env) (hb : Nat.ble (i + n) ops.size = true) (h : (fun w => runV P ops N w n i e) = fun w => some (pre ++ e, List.replicate n w)) (k : WO (SQ P ops Q) N (i + n) (pre ++ e) w) : WO (SQ P ops Q) N i e w := WO.batch n i hb h k
end
inductive Md where
 | free | still | effR | eff
def mdOf (ms : List Md) (i : Nat) : Md := ms.getD i .eff
section
variable {P : Program} {ops : Array Oper} {ms : List Md} {R : World → World → Prop} {Q : Exit → Act → World → Prop} {N : Nat}
def mOp (P : Program) (ops : Array Oper) (ms : List Md) (R : World → World → Prop) (i : Nat) (K : Act → World → Prop) (a : Act) (w : World) : Prop :=
 match ops[i]? with
 | none => K a w
 | some o =>
  if Region.wanted o (yielded ops a.tmps) = true then
   match mdOf ms i with
   | .free => ∃ v, (∀ w', (execOp a.eval o).run P w' = .ok (.value v) w') ∧ K (a.put o.dst v) w
   | .still => ∃ v, (∀ w', R w w' → (execOp a.eval o).run P w' = .ok (.value v) w') ∧ K (a.put o.dst v) w
   | .effR => ∀ Q, o.wp P a w (fun a' w' => R w w' ∧ K a' w') Q
   | .eff => ∀ Q, o.wp P a w K Q
  else K (a.put o.dst undef) w
def wpA (P : Program) (ops : Array Oper) (ms : List Md) (R : World → World → Prop) (Q : Exit → Act → World → Prop) : Nat → Array Bool → Act → World → Prop
 | 0, L, a, w => Region.ready .any ops L = [] ∧ Q .normal a w
 | f + 1, L, a, w => Region.ready .any ops L ≠ [] ∧ ∀ i ∈ Region.ready .any ops L, mOp P ops ms R i (wpA P ops ms R Q f (L.setIfInBounds i true)) a w
theorem mOp_mono {i : Nat} {K K' : Act → World → Prop} {a : Act} {w : World} (h : ∀ a w, K a w → K' a w) (hh : mOp P ops ms R i K a w) : mOp P ops ms R i K' a w := by
 unfold mOp at *
 split
 ·
  rename_i ho; rw [ho] at hh; exact h _ _ hh
 ·
  rename_i o ho
  rw [ho] at hh
  simp only at hh
  split
  ·
   rename_i hw
   rw [if_pos hw] at hh
   split
   ·
    rename_i hm; rw [hm] at hh; obtain ⟨v, h1, h2⟩ := hh; exact ⟨v, h1, h _ _ h2⟩
   ·
    rename_i hm; rw [hm] at hh; obtain ⟨v, h1, h2⟩ := hh; exact ⟨v, h1, h _ _ h2⟩
   ·
    rename_i hm; rw [hm] at hh; exact fun Q => Oper.wp_mono (fun _ _ hk => ⟨hk.1, h _ _ hk.2⟩) (hh Q)
   ·
    rename_i hm; rw [hm] at hh; exact fun Q => Oper.wp_mono h (hh Q)
  ·
   rename_i hw
   rw [if_neg hw] at hh
   exact h _ _ hh
theorem wpOp_of_mOp (hR : ∀ w, R w w) {i : Nat} {K : Act → World → Prop} {a : Act} {w : World} (hh : mOp P ops ms R i K a w) : wpOp P ops Q i K a w := by
 unfold mOp at hh
 unfold wpOp
 split
 ·
  rename_i ho; rw [ho] at hh; exact hh
 ·
  rename_i o ho
  rw [ho] at hh
  simp only at hh
  split
  ·
   rename_i hw
   rw [if_pos hw] at hh
   refine .inl ?_
   cases hm : mdOf ms i <;> rw [hm] at hh <;> simp only at hh
   ·
    obtain ⟨v, h1, h2⟩ := hh
    simp only [Oper.wp, h1 w, Oper.upon]
    exact h2
   ·
    obtain ⟨v, h1, h2⟩ := hh
    simp only [Oper.wp, h1 w (hR w), Oper.upon]
    exact h2
   ·
    exact Oper.wp_mono (fun _ _ hk => hk.2) (hh Q)
   ·
    exact hh Q
  ·
   rename_i hw
   rw [if_neg hw] at hh
   exact hh
theorem wpAny_of_wpA (hR : ∀ w, R w w) : ∀ (f : Nat) (L : Array Bool) (a : Act) (w : World), wpA P ops ms R Q f L a w → wpAny P .any ops Q f L a w
 | 0, _, _, _, h => h
 | f + 1, L, a, w, h => ⟨fun h0 => absurd h0 h.1, fun i hi => wpOp_mono (fun a w => wpAny_of_wpA hR f _ a w) (wpOp_of_mOp hR (h.2 i hi))⟩
def Ev (P : Program) (ops : Array Oper) (R : World → World → Prop) (fr : Bool) (o : Oper) (v : Value) (a : Act) (w : World) : Prop :=
 (Region.wanted o (yielded ops a.tmps) = true ∧ ∀ w', (fr = true ∨ R w w') → (execOp a.eval o).run P w' = .ok (.value v) w') ∨
 (Region.wanted o (yielded ops a.tmps) = false ∧ v = undef)
def alike (ops : Array Oper) (o : Oper) (a a' : Act) : Prop := execOp a'.eval o = execOp a.eval o ∧ Region.wanted o (yielded ops a'.tmps) = Region.wanted o (yielded ops a.tmps)
theorem Ev.on {fr : Bool} {o : Oper} {v : Value} {a a' : Act} {w w' : World} (h : Ev P ops R fr o v a w) (ha : alike ops o a a') (hw : fr = true ∨ ∀ w2, R w' w2 → R w w2) : Ev P ops R fr o v a' w' := by
 unfold Ev at *
 rw [ha.1, ha.2]
 rcases h with ⟨h1, h2⟩ | h
 ·
  refine .inl ⟨h1, fun w2 h3 => h2 w2 ?_⟩
  rcases hw with hw | hw
  ·
   exact .inl hw
  ·
   exact h3.imp id (hw w2)
 ·
  exact .inr h
theorem wp_put {oi oj : Oper} {v : Value} (hap : oi.apart ops oj = true) (hsi : ∀ cs b, oi.op ≠ .select cs b) (hsj : ∀ cs b, oj.op ≠ .select cs b) {K : Act → World → Prop} {a : Act} {w : World}
  (h : oj.wp P (a.put oi.dst v) w K (fun _ _ _ => False)) (Q : Exit → Act → World → Prop) : oj.wp P a w (fun a' w' => alike ops oi a a' ∧ K (a'.put oi.dst v) w') Q := by
 obtain ⟨h1, h2, h3⟩ := Oper.apart_spec hap
 have keep : ∀ u, alike ops oi a (a.put oj.dst u) := fun u => ⟨execOp_put oi hsi a oj.dst u h3, wanted_put oi a oj.dst u h3⟩
 have keepD : ∀ d u, alike ops oi a (({ a with defers := d :: a.defers } : Act).put oj.dst u) := fun d u => ⟨execOp_put oi hsi _ oj.dst u h3, wanted_put oi _ oj.dst u h3⟩
 unfold Oper.wp at *
 rw [execOp_put oj hsj a oi.dst v h1] at h
 generalize (execOp a.eval oj).run P w = r at *
 cases r with
 | ok n w' =>
  cases n <;> simp only [Oper.upon] at h ⊢
  case value u => exact ⟨keep u, by rw [← Act.put_comm a v u h2]; exact h⟩
  case skip => exact ⟨keep _, by rw [← Act.put_comm a v undef h2]; exact h⟩
  case defer d =>
   refine ⟨keepD d _, ?_⟩
   rw [← Act.put_comm _ v undef h2, ← Act.put_defers]
   exact h
  case enter f args =>
   refine Calls.mono h fun e w'' he => ?_
   cases e with
   | returned u => exact ⟨keep u, by rw [← Act.put_comm a v u h2]; exact he⟩
   | panicked c => exact he.elim
   | outgrown => obtain ⟨_, _, he⟩ := he; exact he.elim
  case row row args => exact Rows.mono h fun u w'' he => ⟨keep u, by rw [← Act.put_comm a v u h2]; exact he⟩
 | halt x w' => cases x <;> simp only [Oper.upon] at h ⊢
theorem mOp_put (hR : ∀ w, R w w) (hRt : ∀ w w1 w2, R w w1 → R w1 w2 → R w w2) {j : Nat} {oi oj : Oper} {v : Value} {fr : Bool} {E : Act → World → Prop} (hE : ∀ a a' w w', E a w → alike ops oi a a' → (fr = true ∨ ∀ w2, R w' w2 → R w w2) → E a' w')
  (hj : ops[j]? = some oj) (hap : oi.apart ops oj = true) (hsi : ∀ cs b, oi.op ≠ .select cs b) (hsj : ∀ cs b, oj.op ≠ .select cs b)
  (hx : fr = true ∨ mdOf ms j ≠ .eff) {K : Act → World → Prop} {a : Act} {w : World} (hy : E a w) (h : mOp P ops ms R j K (a.put oi.dst v) w) :
  mOp P ops ms R j (fun a' w' => E a' w' ∧ K (a'.put oi.dst v) w') a w := by
 obtain ⟨h1, h2, h3⟩ := Oper.apart_spec hap
 have keep : ∀ u, E (a.put oj.dst u) w := fun u => hE _ _ _ _ hy ⟨execOp_put oi hsi a oj.dst u h3, wanted_put oi a oj.dst u h3⟩ (.inr fun _ h => h)
 unfold mOp at *
 simp only [hj] at *
 rw [wanted_put oj a oi.dst v h1] at h
 split
 ·
  rename_i hw
  rw [if_pos hw] at h
  cases hm : mdOf ms j <;> rw [hm] at h <;> simp only at h ⊢
  ·
   obtain ⟨u, h4, h5⟩ := h
   exact ⟨u, fun w' => by have := h4 w'; rwa [execOp_put oj hsj a oi.dst v h1] at this, keep u, by rw [← Act.put_comm a v u h2]; exact h5⟩
  ·
   obtain ⟨u, h4, h5⟩ := h
   exact ⟨u, fun w' hr => by have := h4 w' hr; rwa [execOp_put oj hsj a oi.dst v h1] at this, keep u, by rw [← Act.put_comm a v u h2]; exact h5⟩
  ·
   intro Q
   refine Oper.wp_mono ?_ (wp_put hap hsi hsj (h _) Q)
   rintro a' w' ⟨h4, h5, h6⟩
   exact ⟨h5, hE _ _ _ _ hy h4 (.inr fun w2 h7 => hRt _ _ _ h5 h7), h6⟩
  ·
   intro Q
   refine Oper.wp_mono ?_ (wp_put hap hsi hsj (h _) Q)
   rintro a' w' ⟨h4, h6⟩
   refine ⟨hE _ _ _ _ hy h4 ?_, h6⟩
   rcases hx with hx | hx
   ·
    exact .inl hx
   ·
    exact absurd hm hx
 ·
  rename_i hw
  rw [if_neg hw] at h
  exact ⟨keep _, by rw [← Act.put_comm a v undef h2]; exact h⟩
structure Closed (ops : Array Oper) (L : Array Bool) : Prop where
 size : L.size = ops.size
 closed : ∀ j oj, ops[j]? = some oj → L.getD j false = true → ∀ e ∈ oj.after, Region.binds .any e = true → L.getD e.on false = true
theorem Closed.set {i : Nat} {L : Array Bool} (inv : Closed ops L) (hi : i ∈ Region.ready .any ops L) : Closed ops (L.setIfInBounds i true) := by
 obtain ⟨_, oi, hoi, hall⟩ := mem_ready.1 hi
 refine ⟨by simp [inv.size], fun j oj hj hl e he hb => ?_⟩
 by_cases hij : i = j
 ·
  subst hij
  have : oj = oi := Option.some.inj (hj.symm.trans hoi)
  subst this
  exact getD_set_true (hall e he hb)
 ·
  rw [getD_set_ne false hij] at hl
  exact getD_set_true (inv.closed j oj hj hl e he hb)
def reach (ops : Array Oper) (i : Nat) : Nat → Nat → Bool
 | 0, _ => false
 | f + 1, j => match ops[j]? with
  | some oj => oj.after.any fun e => Region.binds .any e && (Nat.beq e.on i || reach ops i f e.on)
  | none => false
theorem reach_un {i : Nat} {L : Array Bool} (inv : Closed ops L) (hi : L.getD i false = false) : ∀ (f j : Nat), reach ops i f j = true → L.getD j false = false
 | 0, j, h => by cases h
 | f + 1, j, h => by
  unfold reach at h
  split at h
  ·
   rename_i oj hj
   obtain ⟨e, he, hb⟩ := Array.any_eq_true'.1 h
   simp only [Bool.and_eq_true, Bool.or_eq_true] at hb
   cases hl : L.getD j false with
   | false => rfl
   | true =>
    have h1 := inv.closed j oj hj hl e he hb.1
    rcases hb.2 with h2 | h2
    ·
     have := Nat.eq_of_beq_eq_true h2
     rw [this, hi] at h1
     cases h1
    ·
     have := reach_un inv hi f e.on h2
     rw [this] at h1
     cases h1
  ·
   cases h
theorem reach_ready {i f j : Nat} {L : Array Bool} (inv : Closed ops L) (hi : L.getD i false = false) (h : reach ops i f j = true) : j ∉ Region.ready .any ops L := by
 intro hr
 obtain ⟨_, oj, hoj, hall⟩ := mem_ready.1 hr
 cases f with
 | zero => cases h
 | succ f =>
  unfold reach at h
  rw [hoj] at h
  simp only at h
  obtain ⟨e, he, hb⟩ := Array.any_eq_true'.1 h
  simp only [Bool.and_eq_true, Bool.or_eq_true] at hb
  have h1 := hall e he hb.1
  rcases hb.2 with h2 | h2
  ·
   have := Nat.eq_of_beq_eq_true h2
   rw [this, hi] at h1
   cases h1
  ·
   rw [reach_un inv hi f e.on h2] at h1
   cases h1
theorem wpA_first (hR : ∀ w, R w w) (hRt : ∀ w w1 w2, R w w1 → R w1 w2 → R w w2) {i : Nat} {oi : Oper} {v : Value} {fr : Bool} {E : Act → World → Prop} (hE : ∀ a a' w w', E a w → alike ops oi a a' → (fr = true ∨ ∀ w2, R w' w2 → R w w2) → E a' w')
  (here : ∀ (K : Act → World → Prop) (a : Act) (w : World), E a w → K (a.put oi.dst v) w → mOp P ops ms R i K a w) (hi : ops[i]? = some oi) (hsel : ∀ (j : Nat) (o : Oper) cs b, ops[j]? = some o → o.op ≠ .select cs b) :
  ∀ (f : Nat) (L : Array Bool) (a : Act) (w : World), Closed ops L →
   (∀ j oj, ops[j]? = some oj → j ≠ i → L.getD j true = false → (∀ e ∈ oj.after, Region.binds .any e = true → e.on ≠ i) → oi.apart ops oj = true) →
   (fr = true ∨ ∀ j, L.getD j true = false → mdOf ms j = .eff → reach ops i ops.size j = true) →
   i ∈ Region.ready .any ops L → E a w →
   wpA P ops ms R Q f (L.setIfInBounds i true) (a.put oi.dst v) w → wpA P ops ms R Q (f + 1) L a w := by
 intro f
 induction f with
 | zero =>
  intro L a w inv _ _ hr hy H
  refine ⟨fun h => (by rw [h] at hr; cases hr), fun j hj => ?_⟩
  by_cases hji : j = i
  ·
   subst hji; exact here _ _ _ hy H
  ·
   have := ready_mono hj hji
   rw [H.1] at this
   cases this
 | succ f ih =>
  intro L a w inv hfree hre hr hy H
  refine ⟨fun h => (by rw [h] at hr; cases hr), fun j hj => ?_⟩
  by_cases hji : j = i
  ·
   subst hji; exact here _ _ _ hy H
  ·
   have h1 := H.2 j (ready_mono hj hji)
   obtain ⟨hjun, oj, hoj, hall⟩ := mem_ready.1 hj
   have hiun := (mem_ready.1 hr).1
   have hiun' : L.getD i false = false := by
    rcases Nat.lt_or_ge i L.size with h' | h'
    ·
     simp [h'] at hiun ⊢; exact hiun
    ·
     simp [Array.getElem?_eq_none h']
   have hnot : ∀ e ∈ oj.after, Region.binds .any e = true → e.on ≠ i := fun e he hb heq => by
    have h1 := hall e he hb
    rw [heq, hiun'] at h1
    cases h1
   have hx : fr = true ∨ mdOf ms j ≠ .eff := by
    rcases hre with h | h
    ·
     exact .inl h
    ·
     exact .inr fun he => reach_ready inv hiun' (h j hjun he) hj
   have h2 := mOp_put hR hRt hE hoj (hfree j oj hoj hji hjun hnot) (fun cs b => hsel i oi cs b hi) (fun cs b => hsel j oj cs b hoj) hx hy h1
   have hfree' : ∀ k ok, ops[k]? = some ok → k ≠ i → (L.setIfInBounds j true).getD k true = false →
     (∀ e ∈ ok.after, Region.binds .any e = true → e.on ≠ i) → oi.apart ops ok = true := fun k ok hk hki hun hno => by
    refine hfree k ok hk hki ?_ hno
    by_cases hjk : j = k
    ·
     subst hjk; exact hjun
    ·
     rw [getD_set_ne true hjk] at hun; exact hun
   have hre' : fr = true ∨ ∀ k, (L.setIfInBounds j true).getD k true = false → mdOf ms k = .eff → reach ops i ops.size k = true := hre.imp id fun h k hk he => by
    refine h k ?_ he
    by_cases hjk : j = k
    ·
     subst hjk; exact hjun
    ·
     rw [getD_set_ne true hjk] at hk; exact hk
   refine mOp_mono (fun a' w' h3 => ih (L.setIfInBounds j true) a' w' (inv.set hj) hfree' hre' (ready_mono hr (Ne.symm hji)) h3.1 ?_) h2
   rw [Array.setIfInBounds_comm _ _ hji]
   exact h3.2
theorem Ev.here {i : Nat} {oi : Oper} {v : Value} {fr : Bool} (hi : ops[i]? = some oi) (hfr : fr = true → mdOf ms i = .free) (hst : fr = false → mdOf ms i = .still) (K : Act → World → Prop) (a : Act) (w : World) (hy : Ev P ops R fr oi v a w) (H : K (a.put oi.dst v) w) : mOp P ops ms R i K a w := by
 unfold mOp
 rw [hi]
 simp only
 rcases hy with ⟨hw, hv⟩ | ⟨hw, rfl⟩
 ·
  rw [if_pos hw]
  cases hf : fr with
  | true =>
   rw [hfr hf]
   exact ⟨v, fun w' => hv w' (.inl hf), H⟩
  | false =>
   rw [hst hf]
   exact ⟨v, fun w' h => hv w' (.inr h), H⟩
 ·
  rw [hw]
  simpa using H
def SA (P : Program) (ops : Array Oper) (ms : List Md) (R : World → World → Prop) (Q : Exit → Act → World → Prop) (x : Nat × Array Bool) (a : Act) (w : World) : Prop := Closed ops x.2 → wpA P ops ms R Q x.1 x.2 a w
def isFree : Md → Bool
 | .free => true
 | _ => false
def isStill : Md → Bool
 | .still => true
 | _ => false
def isEff : Md → Bool
 | .eff => true
 | _ => false
def firstF (ops : Array Oper) (ms : List Md) (L : Array Bool) (i : Nat) : Bool :=
 Nat.blt i ops.size && (Region.ready .any ops L).contains i && Region.free .any ops L i && Region.noSelect ops && isFree (mdOf ms i)
def firstS (ops : Array Oper) (ms : List Md) (L : Array Bool) (i : Nat) : Bool :=
 Nat.blt i ops.size && (Region.ready .any ops L).contains i && Region.free .any ops L i && Region.noSelect ops && isStill (mdOf ms i) &&
 (List.range ops.size).all fun j => L.getD j true || !isEff (mdOf ms j) || reach ops i ops.size j
theorem opAt_some {i : Nat} (h : Nat.blt i ops.size = true) : ops[i]? = some (opAt ops i) := by
 have hlt : i < ops.size := by simpa [Nat.blt_eq] using h
 unfold opAt
 rw [Array.getElem?_eq_getElem hlt]
 rfl
theorem SA.F (hR : ∀ w, R w w) (hRt : ∀ w w1 w2, R w w1 → R w1 w2 → R w w2) (f i : Nat) (L : Array Bool) (h : firstF ops ms L i = true) : TkF P ops (SA P ops ms R Q) (f + 1, L) (opAt ops i) (f, L.setIfInBounds i true) := by
 simp only [firstF, Bool.and_eq_true] at h
 obtain ⟨⟨⟨⟨h1, h2⟩, h3⟩, h4⟩, h5⟩ := h
 have hi := opAt_some h1
 have hm : mdOf ms i = .free := by cases hm : mdOf ms i <;> rw [hm] at h5 <;> first | rfl | cases h5
 have hr : i ∈ Region.ready .any ops L := by simpa using h2
 have key : ∀ a w v, Ev P ops R true (opAt ops i) v a w → SA P ops ms R Q (f, L.setIfInBounds i true) (a.put (opAt ops i).dst v) w → SA P ops ms R Q (f + 1, L) a w := fun a w v hE k hC =>
  wpA_first hR hRt (fun _ _ _ _ h1 h2 h3 => h1.on h2 h3) (Ev.here hi (fun _ => hm) (fun h => by cases h)) hi (Region.noSelect_spec h4) f L a w hC (Region.free_spec hi h3) (.inl rfl) hr hE (k (hC.set hr))
 exact ⟨fun a w v hw hv k => key a w v (.inl ⟨hw, fun w' _ => hv w'⟩) k, fun a w hw k => key a w undef (.inr ⟨hw, rfl⟩) k⟩
theorem SA.S (hR : ∀ w, R w w) (hRt : ∀ w w1 w2, R w w1 → R w1 w2 → R w w2) (f i : Nat) (L : Array Bool) (h : firstS ops ms L i = true) : TkS P ops R (SA P ops ms R Q) (f + 1, L) (opAt ops i) (f, L.setIfInBounds i true) := by
 simp only [firstS, Bool.and_eq_true] at h
 obtain ⟨⟨⟨⟨⟨h1, h2⟩, h3⟩, h4⟩, h5⟩, h6⟩ := h
 have hi := opAt_some h1
 have hm : mdOf ms i = .still := by cases hm : mdOf ms i <;> rw [hm] at h5 <;> first | rfl | cases h5
 have hr : i ∈ Region.ready .any ops L := by simpa using h2
 refine ⟨fun a w v hw hv k hC => ?_⟩
 refine wpA_first hR hRt (fr := false) (fun _ _ _ _ h1 h2 h3 => h1.on h2 h3) (Ev.here hi (fun h => by cases h) (fun _ => hm)) hi (Region.noSelect_spec h4) f L a w hC (Region.free_spec hi h3) (.inr fun j hj he => ?_) hr (.inl ⟨hw, fun w' h => hv w' (h.resolve_left (by simp))⟩) (k (hC.set hr))
 have hlt : j < ops.size := by
  rcases Nat.lt_or_ge j ops.size with h' | h'
  ·
   exact h'
  ·
   rw [← hC.size] at h'
   simp [Array.getElem?_eq_none h'] at hj
 have := List.all_eq_true.1 h6 j (List.mem_range.2 hlt)
 rw [hj, he] at this
 simpa [isEff] using this
def firstO (ops : Array Oper) (L : Array Bool) (i : Nat) : Bool :=
 Nat.blt i ops.size && (Region.ready .any ops L).contains i && Region.free .any ops L i && Region.noSelect ops
theorem SA.O (hR : ∀ w, R w w) (hRt : ∀ w w1 w2, R w w1 → R w1 w2 → R w w2) (f i : Nat) (L : Array Bool) (h : firstO ops L i = true) : TkO P ops (SA P ops ms R Q) (f + 1, L) (opAt ops i) (f, L.setIfInBounds i true) := by
 simp only [firstO, Bool.and_eq_true] at h
 obtain ⟨⟨⟨h1, h2⟩, h3⟩, h4⟩ := h
 have hi := opAt_some h1
 have hr : i ∈ Region.ready .any ops L := by simpa using h2
 refine ⟨fun a w hw k hC => ?_⟩
 refine wpA_first hR hRt (fr := true) (E := fun a _ => Region.wanted (opAt ops i) (yielded ops a.tmps) = false) (v := undef) (fun a a' _ _ h5 h6 _ => by rw [h6.2]; exact h5) (fun K a w h5 H => ?_) hi (Region.noSelect_spec h4) f L a w hC (Region.free_spec hi h3) (.inl rfl) hr hw (k (hC.set hr))
 unfold mOp
 rw [hi]
 simp only [h5, Bool.false_eq_true, if_false]
 exact H
def onlyB (ops : Array Oper) (L : Array Bool) (i : Nat) : Bool := Nat.blt i ops.size && decide (Region.ready .any ops L = [i])
theorem SA.only {f i : Nat} {L : Array Bool} {a : Act} {w : World} (h : onlyB ops L i = true) (k : Closed ops (L.setIfInBounds i true) → mOp P ops ms R i (wpA P ops ms R Q f (L.setIfInBounds i true)) a w) : SA P ops ms R Q (f + 1, L) a w := fun hC => by
 simp only [onlyB, Bool.and_eq_true, decide_eq_true_eq] at h
 have hr : i ∈ Region.ready .any ops L := by rw [h.2]; simp
 refine ⟨by rw [h.2]; simp, fun j hj => ?_⟩
 rw [h.2] at hj
 have : j = i := by simpa using hj
 subst this
 exact k (hC.set hr)
def isEffR : Md → Bool
 | .effR => true
 | _ => false
theorem SA.E (f i : Nat) (L : Array Bool) (h : onlyB ops L i = true) (hm : isEff (mdOf ms i) = true) : TkE P ops All (SA P ops ms R Q) (f + 1, L) (opAt ops i) (f, L.setIfInBounds i true) where
 go a w hw k := by
  refine SA.only h fun hC => ?_
  have hi : ops[i]? = some (opAt ops i) := opAt_some (by simp only [onlyB, Bool.and_eq_true] at h; exact h.1)
  have hm' : mdOf ms i = .eff := by cases hm' : mdOf ms i <;> rw [hm'] at hm <;> first | rfl | cases hm
  unfold mOp
  rw [hi]
  simp only [hw, if_true, hm']
  exact fun Q => Oper.wp_mono (fun _ _ hk => hk.2 hC) (k Q)
theorem SA.ER (f i : Nat) (L : Array Bool) (h : onlyB ops L i = true) (hm : isEffR (mdOf ms i) = true) : TkE P ops R (SA P ops ms R Q) (f + 1, L) (opAt ops i) (f, L.setIfInBounds i true) where
 go a w hw k := by
  refine SA.only h fun hC => ?_
  have hi : ops[i]? = some (opAt ops i) := opAt_some (by simp only [onlyB, Bool.and_eq_true] at h; exact h.1)
  have hm' : mdOf ms i = .effR := by cases hm' : mdOf ms i <;> rw [hm'] at hm <;> first | rfl | cases hm
  unfold mOp
  rw [hi]
  simp only [hw, if_true, hm']
  exact fun Q => Oper.wp_mono (fun _ _ hk => ⟨hk.1, hk.2 hC⟩) (k Q)
def SAx (P : Program) (ops : Array Oper) (ms : List Md) (R : World → World → Prop) (Q : Exit → Act → World → Prop) (x : Nat × Array Bool × Option Nat) (a : Act) (w : World) : Prop :=
 match x with
 | (f, L, none) => SA P ops ms R Q (f, L) a w
 | (f, L, some i) => Closed ops L → i ∈ Region.ready .any ops L → mOp P ops ms R i (wpA P ops ms R Q f (L.setIfInBounds i true)) a w
theorem SAx.F {x y : Nat × Array Bool} {o : Oper} (h : TkF P ops (SA P ops ms R Q) x o y) : TkF P ops (SAx P ops ms R Q) (x.1, x.2, none) o (y.1, y.2, none) := ⟨h.val, h.off⟩
theorem SAx.O {x y : Nat × Array Bool} {o : Oper} (h : TkO P ops (SA P ops ms R Q) x o y) : TkO P ops (SAx P ops ms R Q) (x.1, x.2, none) o (y.1, y.2, none) := ⟨h.off⟩
theorem SAx.S {R' : World → World → Prop} {x y : Nat × Array Bool} {o : Oper} (h : TkS P ops R' (SA P ops ms R Q) x o y) : TkS P ops R' (SAx P ops ms R Q) (x.1, x.2, none) o (y.1, y.2, none) := ⟨h.val⟩
theorem SAx.E {R' : World → World → Prop} {x y : Nat × Array Bool} {o : Oper} (h : TkE P ops R' (SA P ops ms R Q) x o y) : TkE P ops R' (SAx P ops ms R Q) (x.1, x.2, none) o (y.1, y.2, none) := ⟨h.go⟩
theorem SAx.nowR (f i : Nat) (L : Array Bool) (h : Nat.blt i ops.size = true) (hm : isEffR (mdOf ms i) = true) : TkE P ops R (SAx P ops ms R Q) (f, L, some i) (opAt ops i) (f, L.setIfInBounds i true, none) where
 go a w hw k := by
  intro hC hr
  have hm' : mdOf ms i = .effR := by cases hm' : mdOf ms i <;> rw [hm'] at hm <;> first | rfl | cases hm
  unfold mOp
  rw [opAt_some h]
  simp only [hw, if_true, hm']
  exact fun Q => Oper.wp_mono (fun _ _ hk => ⟨hk.1, hk.2 (hC.set hr)⟩) (k Q)
theorem WO.toX {f : Nat} {L : Array Bool} {e : Env} {w : World} (k : WO (SAx P ops ms R Q) N (f, L, none) e w) : WO (SA P ops ms R Q) N (f, L) e w := k
theorem WO.fork2 {f : Nat} {L : Array Bool} {e : Env} {w : World} (i j : Nat) (h : decide (Region.ready .any ops L = [i, j]) = true) (k1 : WO (SAx P ops ms R Q) N (f, L, some i) e w) (k2 : WO (SAx P ops ms R Q) N (f, L, some j) e w) : WO (SAx P ops ms R Q) N (f + 1, L, none) e w := fun a ha hC => by
 have h' := of_decide_eq_true h
 refine ⟨by rw [h']; simp, fun m hm => ?_⟩
 have hm2 := hm
 rw [h'] at hm2
 rcases (by simpa using hm2 : m = i ∨ m = j) with rfl | rfl
 ·
  exact k1 a ha hC hm
 ·
  exact k2 a ha hC hm
end
section
variable {P : Program} {ops : Array Oper} {Q : Exit → Act → World → Prop} {N : Nat}
variable {e e' : Env} {w : World} {x y : Code}
def WE (P : Program) (N : Nat) (c : Code) (Q : Exit → Act → World → Prop) (e : Env) (w : World) : Prop := ∀ a, Rep N e a → c.wp P Q a w
def WQ (Q : Exit → Act → World → Prop) (N : Nat) (x : Exit) (e : Env) (w : World) : Prop := ∀ a, Rep N e a → Q x a w
theorem WE.keep {c : Code} (ts : List Nat) (h : keepE e ts = some e') (k : WE P N c Q e' w) : WE P N c Q e w := fun a ha => k a (ha.keep ts h)
theorem WQ.keep {z : Exit} (ts : List Nat) (h : keepE e ts = some e') (k : WQ Q N z e' w) : WQ Q N z e w := fun a ha => k a (ha.keep ts h)
theorem WQ.env {z : Exit} (h : e' = e) (k : WQ Q N z e' w) : WQ Q N z e w := by
 subst h
 exact k
theorem WE.env {c : Code} (h : e' = e) (k : WE P N c Q e' w) : WE P N c Q e w := by
 subst h
 exact k
theorem WE.seq (k : WE P N x (Exit.then (y.wp P Q) Q) e w) : WE P N (.seq x y) Q e w := fun a ha => wp_seq (k a ha)
theorem WE.skip (k : WQ Q N .normal e w) : WE P N .skip Q e w := fun a ha => wp_skip (k a ha)
theorem WE.exit {id : Nat} (k : WQ Q N (.exit id) e w) : WE P N (.exit id) Q e w := fun a ha => wp_exit (k a ha)
theorem WE.ret (k : WQ Q N .ret e w) : WE P N .ret Q e w := fun a ha => wp_ret (k a ha)
theorem WE.block {id : Nat} (k : WE P N x (Exit.inBlock id Q) e w) : WE P N (.block id x) Q e w := fun a ha => wp_block (k a ha)
def condE (e : Env) (c : Operand) : Option Bool :=
 bif covX e c then (match ev e c with | .bool b => some b | _ => none) else none
theorem condE_spec {c : Operand} {b : Bool} {a : Act} (ha : Rep N e a) (h : condE e c = some b) : a.eval c = .bool b := by
 unfold condE at h
 cases hc : covX e c with
 | false => rw [hc] at h; cases h
 | true =>
  rw [hc] at h
  simp only [cond_true] at h
  have : a.eval c = ev e c := by
   cases c with
   | tmp t => exact ha.get t hc
   | _ => rfl
  rw [this]
  split at h
  ·
   rename_i b' hb
   rw [hb]
   simp only [Option.some.injEq] at h
   rw [h]
  ·
   cases h
theorem WE.condT {c : Operand} (h : condE e c = some true) (k : WE P N x Q e w) : WE P N (.cond c x y) Q e w := fun a ha => wp_cond_true (condE_spec ha h) (k a ha)
theorem WE.condF {c : Operand} (h : condE e c = some false) (k : WE P N y Q e w) : WE P N (.cond c x y) Q e w := fun a ha => wp_cond_false (condE_spec ha h) (k a ha)
theorem WE.region {id : Nat} (k : WO (SQ P ops Q) N 0 e w) : WE P N (.region id ops false) Q e w := fun a ha => wp_region (by
 have := k a ha
 unfold SQ at this
 rw [List.range_eq_range']
 exact this)
theorem WO.done {i : Nat} (h : Nat.beq i ops.size = true) (k : WQ Q N .normal e w) : WO (SQ P ops Q) N i e w := fun a ha => by
 have := Nat.eq_of_beq_eq_true h
 subst this
 unfold SQ
 simp only [Nat.sub_self, List.range'_zero, wpOps]
 exact k a ha
theorem WQ.thenN (k : WE P N y Q e w) : WQ (Exit.then (y.wp P Q) Q) N .normal e w := fun a ha => k a ha
theorem WQ.thenE {K : Act → World → Prop} {id : Nat} (k : WQ Q N (.exit id) e w) : WQ (Exit.then K Q) N (.exit id) e w := fun a ha => k a ha
theorem WQ.thenR {K : Act → World → Prop} (k : WQ Q N .ret e w) : WQ (Exit.then K Q) N .ret e w := fun a ha => k a ha
theorem WQ.blkN {id : Nat} (k : WQ Q N .normal e w) : WQ (Exit.inBlock id Q) N .normal e w := fun a ha => k a ha
theorem WQ.blkR {id : Nat} (k : WQ Q N .ret e w) : WQ (Exit.inBlock id Q) N .ret e w := fun a ha => k a ha
theorem WQ.blkE {id : Nat} (k : WQ Q N .normal e w) : WQ (Exit.inBlock id Q) N (.exit id) e w := fun a ha => by
 simp only [Exit.inBlock, if_true]
 exact k a ha
theorem WQ.blkX {id id' : Nat} (h : Nat.beq id' id = false) (k : WQ Q N (.exit id') e w) : WQ (Exit.inBlock id Q) N (.exit id') e w := fun a ha => by
 have hne : id' ≠ id := fun hh => by subst hh; simp at h
 simp only [Exit.inBlock, hne, if_false]
 exact k a ha
theorem WE.draw {id : Nat} (ms : List Md) (R : World → World → Prop) (hR : ∀ w, R w w) (hm : P.follows .mixedOrders = true) (n : Nat) (L : Array Bool) (hn : ops.size = n) (hL : Array.replicate ops.size false = L)
  (k : ∀ w1, Fr [] w w1 → w1.heap.size = w.heap.size → WO (SA P ops ms R Q) N (n, L) e w1) : WE P N (.region id ops true) Q e w := fun a ha => by
 subst hn
 subst hL
 refine wp_region_any hm (wpAny_of_wpA (ms := ms) (R := R) hR _ _ _ _ ?_)
 refine k { w with drawn := w.drawn + 1 } ((Fr.refl [] w).drew) rfl a ha ⟨by simp, fun j oj _ hl => ?_⟩
 rw [getD_replicate_false] at hl
 cases hl
theorem WO.doneA {ms : List Md} {R : World → World → Prop} {L : Array Bool} (h : Region.ready .any ops L = []) (k : WQ Q N .normal e w) : WO (SA P ops ms R Q) N (0, L) e w := fun a ha _ => ⟨h, k a ha⟩
theorem WO.doneX {ms : List Md} {R : World → World → Prop} {L : Array Bool} (h : Region.ready .any ops L = []) (k : WQ Q N .normal e w) : WO (SAx P ops ms R Q) N (0, L, none) e w := fun a ha _ => ⟨h, k a ha⟩
def retV (fn : Func) (e : Env) : Option Value :=
 match fn.results.toList with
 | [] => some (.tuple #[])
 | [.tmp t] => bif hasT e t then some (look e t) else none
 | [.tmp t, .tmp u] => bif hasT e t && hasT e u then some (.tuple #[look e t, look e u]) else none
 | [.tmp t, .tmp u, .tmp v] => bif hasT e t && hasT e u && hasT e v then some (.tuple #[look e t, look e u, look e v]) else none
 | _ => none
theorem retV_spec {fn : Func} {v : Value} {a : Act} (ha : Rep N e a) (h : retV fn e = some v) : (results fn a.tmps).run P w = .ok v w := by
 unfold retV at h
 split at h
 ·
  rename_i hr
  have hr' : fn.results = #[] := by rw [← Array.toArray_toList (xs := fn.results), hr]
  simp only [Option.some.injEq] at h
  subst h
  exact results_none hr' _ _ _
 ·
  rename_i t hr
  have hr' : fn.results = #[.tmp t] := by rw [← Array.toArray_toList (xs := fn.results), hr]
  cases h1 : hasT e t <;> rw [h1] at h <;> simp at h
  subst h
  rw [results_tmp hr', ha.get t h1]
 ·
  rename_i t u hr
  have hr' : fn.results = #[.tmp t, .tmp u] := by rw [← Array.toArray_toList (xs := fn.results), hr]
  cases h1 : hasT e t <;> cases h2 : hasT e u <;> rw [h1, h2] at h <;> simp at h
  subst h
  rw [results_tmp2 hr', ha.get t h1, ha.get u h2]
 ·
  rename_i t u z hr
  have hr' : fn.results = #[.tmp t, .tmp u, .tmp z] := by rw [← Array.toArray_toList (xs := fn.results), hr]
  cases h1 : hasT e t <;> cases h2 : hasT e u <;> cases h3 : hasT e z <;> rw [h1, h2, h3] at h <;> simp at h
  subst h
  rw [results_tmp3 hr', ha.get t h1, ha.get u h2, ha.get z h3]
 ·
  cases h
theorem WQ.ret {fn : Func} {R : Ending → World → Prop} {v : Value} (h : retV fn e = some v) (k : R (.returned v) w) : WQ (bodyPost P fn R) N .ret e w := fun a ha => ⟨ha.defers, v, retV_spec ha h, k⟩
theorem WQ.fall {fn : Func} {R : Ending → World → Prop} {v : Value} (h : retV fn e = some v) (k : R (.returned v) w) : WQ (bodyPost P fn R) N .normal e w := fun a ha => ⟨ha.defers, v, retV_spec ha h, k⟩
def resOk (P : Program) (e : Env) (w : World) (r : ResultVar) (v : Value) : Prop :=
 match r with
 | .tmp t => hasT e t = true ∧ look e t = v
 | .cell p T => hasT e p = true ∧ ∃ ad, look e p = .pointer (some ad) ∧ (loadVar T ad).run P w = .ok v w
theorem ldVarB {g off : Nat} {cs : Array Value} {T t : TypeId} (vs : List Value) (hd : aggT P t = some true) (hn : ((P.info? t).map (·.size)).getD 0 = vs.length) (hp : Nat.blt 0 vs.length = true) (hB : Blk w g cs T) (hc : (cs.toList.drop off).take vs.length = vs) : (loadVar t ⟨g, off, none⟩).run P w = .ok (.agg vs.toArray) w := by
 rw [Nat.blt_eq] at hp
 have := run_ldA (P := P) (w := w) hd (ad := ⟨g, off, none⟩) hn hp (fun j hj => by
  rw [add_blk, hB.cell, ← Array.getElem?_toList]
  have := congrArg (fun l => l[j]?) hc
  simp only [List.getElem?_take, hj, if_true, List.getElem?_drop] at this
  exact this)
 simpa [Instr.loadAt, Instr.sureAddr] using this
def resSem (tmps : Array Value) : ResultVar → Sem Value
 | .tmp t => pure (tmps.getD t undef)
 | .cell p T => do loadVar T (← asAddr (tmps.getD p undef))
theorem results_eq (fn : Func) (tmps : Array Value) : results fn tmps = (do
  let vs ← fn.results.mapM (resSem tmps)
  pure (if h : vs.size = 1 then vs[0] else .tuple vs)) := by
 have : (fun r : ResultVar => match r with
  | .tmp t => (pure (tmps.getD t undef) : Sem Value)
  | .cell p T => do loadVar T (← asAddr (tmps.getD p undef))) = resSem tmps := by
  funext r
  cases r <;> rfl
 unfold results
 rw [← this]
 congr 1
theorem resRun {a : Act} (ha : Rep N e a) {r : ResultVar} {v : Value} (h : resOk P e w r v) : (resSem a.tmps r).run P w = .ok v w := by
 cases r with
 | tmp t =>
  obtain ⟨h1, h2⟩ := h
  show (pure (a.tmps.getD t undef) : Sem Value).run P w = _
  rw [ha.get t h1, h2]
  rfl
 | cell p T =>
  obtain ⟨h1, ad, h2, h3⟩ := h
  show (do loadVar T (← asAddr (a.tmps.getD p undef)) : Sem Value).run P w = _
  rw [ha.get p h1, h2]
  simp [asAddr, h3]
theorem WQ.ret2 {fn : Func} {R : Ending → World → Prop} {r s : ResultVar} {v u : Value} (hr : fn.results = #[r, s]) (h : resOk P e w r v) (h2 : resOk P e w s u) (k : R (.returned (.tuple #[v, u])) w) : WQ (bodyPost P fn R) N .ret e w := fun a ha => by
 refine ⟨ha.defers, _, ?_, k⟩
 have h3 := resRun ha h
 have h4 := resRun ha h2
 rw [results_eq, hr]
 simp [h3, h4]
theorem WQ.ret3 {fn : Func} {R : Ending → World → Prop} {r s t : ResultVar} {v u z : Value} (hr : fn.results = #[r, s, t]) (h : resOk P e w r v) (h2 : resOk P e w s u) (h3 : resOk P e w t z) (k : R (.returned (.tuple #[v, u, z])) w) : WQ (bodyPost P fn R) N .ret e w := fun a ha => by
 refine ⟨ha.defers, _, ?_, k⟩
 have h4 := resRun ha h
 have h5 := resRun ha h2
 have h6 := resRun ha h3
 rw [results_eq, hr]
 simp [h4, h5, h6]
def argsE : Nat → List Value → Env
 | _, [] => []
 | i, v :: l => (i, v) :: argsE (i + 1) l
theorem argsE_spec : ∀ (l : List Value) (i t : Nat), hasT (argsE i l) t = true → i ≤ t ∧ l[t - i]? = some (look (argsE i l) t)
 | [], i, t, h => by simp [argsE, hasT] at h
 | v :: l, i, t, h => by
  simp only [argsE, hasT, look] at *
  cases hb : Nat.beq i t with
  | true =>
   have := Nat.eq_of_beq_eq_true hb
   subst this
   simp
  | false =>
   rw [hb] at h
   simp only [cond_false] at *
   have := argsE_spec l (i + 1) t h
   refine ⟨by omega, ?_⟩
   rw [show t - i = (t - (i + 1)) + 1 by omega, List.getElem?_cons_succ]
   exact this.2
theorem enter {f : FuncId} {fn : Func} {c : Code} {args : Array Value} {R : Ending → World → Prop} (hf : P.funcs[f]? = some fn) (hb : fn.body = some c) (hN : fn.ntmps = N) (hl : Nat.ble args.size N = true) (he : argsE 0 args.toList = e)
  (k : WE P N c (bodyPost P fn R) e w) : Calls P f args w R := by
 refine calls_of_wp hf hb (k _ ?_)
 subst hN
 subst he
 have hl' := Nat.le_of_ble_eq_true hl
 refine ⟨by simp; omega, rfl, fun t ht => ?_⟩
 have := (argsE_spec args.toList 0 t ht).2
 simp only [Nat.sub_zero, Array.getElem?_toList] at this
 have hlt : t < args.size := (Array.getElem?_eq_some_iff.1 this).1
 simp [Array.getElem?_append_left hlt, this]
theorem WE.loop {α : Type} (E : α → Env) (I : α → World → Prop) (m : α → Nat) (x0 : α) (ts : List Nat) (h0 : keepE e ts = some (E x0)) (hI : I x0 w)
  (round : ∀ z w, I z w → WE P N x (Exit.then (fun a' w' => ∃ z', m z' < m z ∧ Rep N (E z') a' ∧ I z' w') Q) (E z) w) : WE P N (.loop x) Q e w := by
 intro a ha b k cs
 have key : ∀ n z a w, m z = n → Rep N (E z) a → I z w →
   ∃ ex a' w', Q ex a' w' ∧ Arrives P (lone (b.at a (.code x :: .inLoop x :: k)) cs w) b k cs ex a' w' := by
  intro n
  induction n using Nat.strongRecOn with
  | _ n ih =>
   intro z a w hn hR hI
   obtain ⟨ex, a₁, w₁, hq, harr⟩ := round z w hI a hR b (.inLoop x :: k) cs
   cases ex with
   | normal =>
    obtain ⟨z', hlt, hR1, hI1⟩ := hq
    obtain ⟨e₂, a₂, w₂, hq₂, harr₂⟩ := ih (m z') (hn ▸ hlt) z' a₁ w₁ rfl hR1 hI1
    exact ⟨e₂, a₂, w₂, hq₂, .of_steps (Steps.trans harr (.one step_inLoop)) harr₂⟩
   | exit id => exact ⟨_, a₁, w₁, hq, .pass (x := .inLoop x) rfl (fun _ _ => .inl (by simp)) harr⟩
   | goto l => exact ⟨_, a₁, w₁, hq, .pass (x := .inLoop x) rfl (fun _ _ => .inl (by simp)) harr⟩
   | ret => exact ⟨_, a₁, w₁, hq, .pass (x := .inLoop x) rfl (fun _ _ => .inl (by simp)) harr⟩
   | panic ch => exact ⟨_, a₁, w₁, hq, .pass (x := .inLoop x) rfl (fun _ _ => .inl (by simp)) harr⟩
   | outgrown => exact ⟨_, a₁, w₁, hq, .pass (x := .inLoop x) rfl (fun _ _ => .inl (by simp)) harr⟩
 obtain ⟨ex, a', w', hq, harr⟩ := key _ x0 a w rfl (ha.keep ts h0) hI
 exact ⟨ex, a', w', hq, .of_steps (.one step_loop) harr⟩
theorem WQ.round {f : Act → World → Prop} (k : ∀ a, Rep N e a → f a w) : WQ (Exit.then f Q) N .normal e w := k
end
end Go.Proofs.YtjfgmdkdcnfdoaaGreatDoor.Eng
