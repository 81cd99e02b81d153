/- '[]byte("abc")' of a constant: a literal's row, and a conversion to its own type, which marks the row. For the engine. -/
import Derived.Test.YtdhonbahpcmmnaaGreatDoorEngB
import Derived.IntWalk
import Derived.Test.YtdhonbahpcmmnaaGreatDoorEng
import Derived.Maps.OwnSet
import Derived.Maps.Range
section
set_option linter.unusedVariables false
set_option linter.unusedSimpArgs false
namespace Go.Proofs.YtdhonbahpcmmnaaGreatDoor.Eng
open Go Go.RowKit Go.Proofs.YtdhonbahpcmmnaaGreatDoor Go.Proofs.YtdhonbahpcmmnaaGreatDoorW.PrintWords Go.Proofs.YtdhonbahpcmmnaaGreatDoorW.PrintLast
variable {P : Program} {ι : Type} {ops : Array Oper} {N : Nat} {S : ι → Act → World → Prop} {R : World → World → Prop} {x y : ι} {o : Oper} {e e' : Env} {w : World}
def sshAt (P : Program) (ops : Array Oper) (N : Nat) (e : Env) (o : Oper) : Option (ByteArray × Int × Option Tmp) :=
 bif onB ops N e o then
  match o.op with
  | .slice t z none (some hi) none => (match ev e z, P.underlying t, ev e hi with | .string s, some .string, .int _ h => some (s, h, o.dst) | _, _, _ => none)
  | _ => none
 else none
theorem str_take (q : List UInt8) (h : Nat) : (str q).extract 0 h = str (q.take h) := by
 apply ByteArray.ext
 rw [ByteArray.data_extract]
 apply Array.ext'
 rw [Array.toList_extract]
 simp [str, List.extract]
theorem WO.slS (hT : TkF P ops S x o y) (d h' : Nat) (q : List UInt8) {hi : Int} (h : sshAt P ops N e o = some (str q, hi, some d)) (hhi : hi = (h' : Int)) (hle : h' ≤ q.length) (k : WO S N y ((d, .string (str (q.take h'))) :: e) w) : WO S N x e w := by
 unfold sshAt at h
 cases ho : onB ops N e o with
 | false => rw [ho] at h; cases h
 | true =>
  rw [ho] at h
  simp only [cond_true] at h
  split at h
  ·
   rename_i t z hz hop
   split at h
   ·
    rename_i s kk hi' hs hu hh
    simp only [Option.some.injEq, Prod.mk.injEq] at h
    obtain ⟨rfl, rfl, hd⟩ := h
    subst hhi
    have hu' := fun w' => run_underlying (P := P) hu w'
    refine WO.valF hT ho (v := .string (str (q.take h'))) (fun w' => ?_) (by rw [hd]; exact k)
    unfold execOp
    have hb : (0 : Int) ≤ (h' : Int) ∧ (h' : Int) ≤ ((str q).size : Int) := by rw [str_size]; omega
    simp [hop, hs, hh, Instr.sliceAt, Instr.slice, hu', Instr.sliceBounds, Instr.sliceBound, asIntOf, hb, str_take, str_size, hle]
   ·
    cases h
  ·
   cases h
def ixsAt (P : Program) (ops : Array Oper) (N : Nat) (e : Env) (o : Oper) : Option (ByteArray × Int × Option Tmp) :=
 bif onB ops N e o then
  match o.op with
  | .index t z u => (match ev e z, P.underlying t, ev e u with | .string s, some .string, .int _ i => some (s, i, o.dst) | _, _, _ => none)
  | _ => none
 else none
theorem str_get (q : List UInt8) (k : Nat) (h : k < q.length) : (str q)[k]? = some (gB q k) := by
 have h1 : k < (str q).size := h
 rw [getElem?_pos (str q) k h1]
 unfold gB
 rw [List.getD_eq_getElem?_getD, List.getElem?_eq_getElem h]
 rfl
theorem WO.ixS (hT : TkF P ops S x o y) (d k : Nat) (q : List UInt8) {i : Int} (h : ixsAt P ops N e o = some (str q, i, some d)) (hi : i = (k : Int)) (hk : k < q.length) (kk : WO S N y ((d, .int .u8 ((gB q k).toNat : Int)) :: e) w) : WO S N x e w := by
 unfold ixsAt at h
 cases ho : onB ops N e o with
 | false => rw [ho] at h; cases h
 | true =>
  rw [ho] at h
  simp only [cond_true] at h
  split at h
  ·
   rename_i t z u hop
   split at h
   ·
    rename_i s kk' i' hs hu hh
    simp only [Option.some.injEq, Prod.mk.injEq] at h
    obtain ⟨rfl, rfl, hd⟩ := h
    subst hi
    have hu' := fun w' => run_underlying (P := P) hu w'
    refine WO.valF hT ho (v := .int .u8 ((gB q k).toNat : Int)) (fun w' => ?_) (by rw [hd]; exact kk)
    unfold execOp
    have hb : (0 : Int) ≤ (k : Int) := by omega
    simp [hop, hs, hh, Instr.index, hu', asIntOf, hb, str_get q k hk]
   ·
    cases h
  ·
   cases h
def sshAt2 (P : Program) (ops : Array Oper) (N : Nat) (e : Env) (o : Oper) : Option (ByteArray × Int × Int × Option Tmp) :=
 bif onB ops N e o then
  match o.op with
  | .slice t z (some lo) (some hi) none => (match ev e z, P.underlying t, ev e lo, ev e hi with | .string s, some .string, .int _ l, .int _ h => some (s, l, h, o.dst) | _, _, _, _ => none)
  | _ => none
 else none
theorem str_part (q : List UInt8) (l h : Nat) : (str q).extract l h = str ((q.take h).drop l) := by
 apply ByteArray.ext
 rw [ByteArray.data_extract]
 apply Array.ext'
 rw [Array.toList_extract]
 simp [str, List.extract, List.drop_take]
theorem WO.slS2 (hT : TkF P ops S x o y) (d l' h' : Nat) (q : List UInt8) {lo hi : Int} (h : sshAt2 P ops N e o = some (str q, lo, hi, some d)) (hlo : lo = (l' : Int)) (hhi : hi = (h' : Int)) (hl : l' ≤ h') (hle : h' ≤ q.length) (k : WO S N y ((d, .string (str ((q.take h').drop l'))) :: e) w) : WO S N x e w := by
 unfold sshAt2 at h
 cases ho : onB ops N e o with
 | false => rw [ho] at h; cases h
 | true =>
  rw [ho] at h
  simp only [cond_true] at h
  split at h
  ·
   rename_i t z lz hz hop
   split at h
   ·
    rename_i s k1 lo' k2 hi' hs hu hll hh
    simp only [Option.some.injEq, Prod.mk.injEq] at h
    obtain ⟨rfl, rfl, rfl, hd⟩ := h
    subst hlo hhi
    have hu' := fun w' => run_underlying (P := P) hu w'
    refine WO.valF hT ho (v := .string (str ((q.take h').drop l'))) (fun w' => ?_) (by rw [hd]; exact k)
    unfold execOp
    have hb : (0 : Int) ≤ (h' : Int) ∧ (h' : Int) ≤ ((str q).size : Int) := by rw [str_size]; omega
    have hb2 : (0 : Int) ≤ (l' : Int) ∧ (l' : Int) ≤ (h' : Int) := by omega
    simp [hop, hs, hll, hh, Instr.sliceAt, Instr.slice, hu', Instr.sliceBounds, Instr.sliceBound, asIntOf, hb, hb2, str_part, str_size, hle, hl]
   ·
    cases h
  ·
   cases h
def sshAt3 (P : Program) (ops : Array Oper) (N : Nat) (e : Env) (o : Oper) : Option (ByteArray × Int × Option Tmp) :=
 bif onB ops N e o then
  match o.op with
  | .slice t z (some lo) none none => (match ev e z, P.underlying t, ev e lo with | .string s, some .string, .int _ l => some (s, l, o.dst) | _, _, _ => none)
  | _ => none
 else none
theorem WO.slS3 (hT : TkF P ops S x o y) (d l' : Nat) (q : List UInt8) {lo : Int} (h : sshAt3 P ops N e o = some (str q, lo, some d)) (hlo : lo = (l' : Int)) (hle : l' ≤ q.length) (k : WO S N y ((d, .string (str (q.drop l'))) :: e) w) : WO S N x e w := by
 unfold sshAt3 at h
 cases ho : onB ops N e o with
 | false => rw [ho] at h; cases h
 | true =>
  rw [ho] at h
  simp only [cond_true] at h
  split at h
  ·
   rename_i t z lz hop
   split at h
   ·
    rename_i s k1 lo' hs hu hll
    simp only [Option.some.injEq, Prod.mk.injEq] at h
    obtain ⟨rfl, rfl, hd⟩ := h
    subst hlo
    have hu' := fun w' => run_underlying (P := P) hu w'
    refine WO.valF hT ho (v := .string (str (q.drop l'))) (fun w' => ?_) (by rw [hd]; exact k)
    unfold execOp
    have hb2 : (0 : Int) ≤ (l' : Int) ∧ (l' : Int) ≤ ((str q).size : Int) := by rw [str_size]; omega
    have he : (str q).extract l' (str q).size = str (q.drop l') := by rw [str_part, str_size, List.take_length]
    simp [hop, hs, hll, Instr.sliceAt, Instr.slice, hu', Instr.sliceBounds, Instr.sliceBound, asIntOf, hb2, he, str_size, hle]
    try exact he
   ·
    cases h
  ·
   cases h
end Go.Proofs.YtdhonbahpcmmnaaGreatDoor.Eng
end
section
set_option linter.unusedVariables false
set_option linter.unusedSimpArgs false
namespace Go.Proofs.YtdhonbahpcmmnaaGreatDoor.Line
abbrev L := List UInt8
def gb (q : L) (i : Nat) : UInt8 := q.getD i 0
def inW (c : UInt8) : Bool := decide (97 ≤ c.toNat ∧ c.toNat ≤ 122) || decide (48 ≤ c.toNat ∧ c.toNat ≤ 57) || decide (c.toNat = 95) || decide (c.toNat = 46)
def isWord (s : L) : Bool := s.all inW && decide (1 ≤ s.length) && decide (s.length ≤ 16)
structure Ev where
 name : L
 tags : List (L × L)
 kind : Int
 value : Int
 time : Int
def mayE (e : Ev) : Bool := e.tags.all (fun t => isWord t.1 && isWord t.2) && isWord e.name && decide (e.tags.length ≤ 6) && decide (1 ≤ e.kind) && decide (e.kind ≤ 3) && decide (0 ≤ e.time) && decide (e.time ≤ 1099511627776)
def fewE (e : Ev) : Bool := e.tags.all (fun t => decide (t.1.length ≤ 100) && decide (t.2.length ≤ 100)) && decide (e.name.length ≤ 100) && decide (e.tags.length ≤ 20)
def digs (n : Nat) : L := if h : n < 10 then [UInt8.ofNat (48 + n)] else digs (n / 10) ++ [UInt8.ofNat (48 + n % 10)]
termination_by n
decreasing_by omega
def numT (z : Int) : L := if z < 0 then 45 :: digs z.natAbs else digs z.toNat
def headT (e : Ev) : L := e.name ++ (e.tags.map fun t => 44 :: t.1 ++ (61 :: t.2)).flatten
def letter (k : Int) : L := if k = 1 then [99] else if k = 2 then [103] else [104]
def printT (e : Ev) : L := headT e ++ 32 :: (letter e.kind ++ 32 :: (numT e.value ++ 32 :: numT e.time))
theorem inW_t {c : UInt8} (h : (97 ≤ c.toNat ∧ c.toNat ≤ 122) ∨ (48 ≤ c.toNat ∧ c.toNat ≤ 57) ∨ c.toNat = 95 ∨ c.toNat = 46) : inW c = true := by
 unfold inW
 simp only [Bool.or_eq_true, decide_eq_true_eq]
 omega
theorem inW_f {c : UInt8} (h : ¬ ((97 ≤ c.toNat ∧ c.toNat ≤ 122) ∨ (48 ≤ c.toNat ∧ c.toNat ≤ 57) ∨ c.toNat = 95 ∨ c.toNat = 46)) : inW c = false := by
 rw [Bool.eq_false_iff]
 intro h2
 unfold inW at h2
 simp only [Bool.or_eq_true, decide_eq_true_eq] at h2
 omega
theorem inW_46 {c : UInt8} (h : ¬ ((97 ≤ c.toNat ∧ c.toNat ≤ 122) ∨ (48 ≤ c.toNat ∧ c.toNat ≤ 57) ∨ c.toNat = 95)) : decide ((c.toNat : Int) = 46) = inW c := by
 by_cases h1 : c.toNat = 46
 ·
  rw [inW_t (by omega), decide_eq_true (by omega)]
 ·
  rw [inW_f (by omega), decide_eq_false (by omega)]
theorem gb_mem {s : L} {i : Nat} (h : i < s.length) : gb s i ∈ s := by
 unfold gb
 rw [List.getD_eq_getElem?_getD, List.getElem?_eq_getElem h]
 exact List.getElem_mem h
theorem word_bad {s : L} {i : Nat} (h : i < s.length) (hb : inW (gb s i) = false) : isWord s = false := by
 unfold isWord
 have : s.all inW = false := by
  rw [Bool.eq_false_iff]
  intro h2
  rw [List.all_eq_true.1 h2 _ (gb_mem h)] at hb
  cases hb
 simp [this]
theorem word_all {s : L} (h : ∀ j, j < s.length → inW (gb s j) = true) : isWord s = (decide (1 ≤ s.length) && decide (s.length ≤ 16)) := by
 unfold isWord
 have : s.all inW = true := by
  rw [List.all_eq_true]
  intro x hx
  obtain ⟨j, hj, rfl⟩ := List.getElem_of_mem hx
  have := h j hj
  unfold gb at this
  rw [List.getD_eq_getElem?_getD, List.getElem?_eq_getElem hj] at this
  exact this
 simp [this]
def gT (q : List (L × L)) (i : Nat) : L × L := q.getD i ([], [])
theorem gT_some (q : List (L × L)) (i : Nat) (h : i < q.length) : q[i]? = some (gT q i) := by
 unfold gT
 rw [List.getD_eq_getElem?_getD, List.getElem?_eq_getElem h]
 rfl
theorem gT_mem {q : List (L × L)} {i : Nat} (h : i < q.length) : gT q i ∈ q := List.mem_of_getElem? (gT_some q i h)
theorem all_gT {q : List (L × L)} {p : L × L → Bool} : q.all p = true ↔ ∀ j, j < q.length → p (gT q j) = true := by
 rw [List.all_eq_true]
 refine ⟨fun h j hj => h _ (gT_mem hj), fun h x hx => ?_⟩
 obtain ⟨j, hj, rfl⟩ := List.getElem_of_mem hx
 have h1 := h j hj
 have h2 := gT_some q j hj
 rw [List.getElem?_eq_getElem hj] at h2
 simp only [Option.some.injEq] at h2
 rw [h2]
 exact h1
theorem all_no {q : List (L × L)} {p : L × L → Bool} {i : Nat} (h : i < q.length) (hp : p (gT q i) = false) : q.all p = false := by
 rw [Bool.eq_false_iff]
 intro h2
 rw [all_gT.1 h2 i h] at hp
 cases hp
end Go.Proofs.YtdhonbahpcmmnaaGreatDoor.Line
end
section
set_option linter.unusedVariables false
namespace Go.Proofs.YtdhonbahpcmmnaaGreatDoor.Eng
open Go Go.Proofs.YtdhonbahpcmmnaaGreatDoor
section
variable {P : Program} {Q : Exit → Act → World → Prop} {N : Nat} {e e' : Env} {w : World} {x y : Code}
def inL (P : Program) (x : Code) (Q : Exit → Act → World → Prop) (a : Act) (w : World) : Prop :=
 ∀ (b : Frame) (k : List Item) (cs : List Frame), ∃ ex a' w', Q ex a' w' ∧ Arrives P (lone (b.at a (.code x :: .inLoop x :: k)) cs w) b k cs ex a' w'
def WL (P : Program) (N : Nat) (x : Code) (Q : Exit → Act → World → Prop) (e : Env) (w : World) : Prop := ∀ a, Rep N e a → inL P x Q a w
theorem WE.unroll (k : WL P N x Q e w) : WE P N (.loop x) Q e w := by
 intro a ha b k' cs
 obtain ⟨ex, a', w', hq, harr⟩ := k a ha b k' cs
 exact ⟨ex, a', w', hq, .of_steps (.one step_loop) harr⟩
theorem WL.go (k : WE P N x (Exit.then (inL P x Q) Q) e w) : WL P N x Q e w := by
 intro a ha b k' cs
 obtain ⟨ex, a₁, w₁, hq, harr⟩ := k a ha b (.inLoop x :: k') cs
 cases ex with
 | normal =>
  obtain ⟨e₂, a₂, w₂, hq₂, harr₂⟩ := hq b k' cs
  exact ⟨e₂, a₂, w₂, hq₂, .of_steps (Steps.trans harr (.one step_inLoop)) harr₂⟩
 | exit id => exact ⟨_, a₁, w₁, hq, .pass (x := .inLoop x) rfl (fun _ _ => .inl (by simp)) harr⟩
 | goto l => exact ⟨_, a₁, w₁, hq, .pass (x := .inLoop x) rfl (fun _ _ => .inl (by simp)) harr⟩
 | ret => exact ⟨_, a₁, w₁, hq, .pass (x := .inLoop x) rfl (fun _ _ => .inl (by simp)) harr⟩
 | panic ch => exact ⟨_, a₁, w₁, hq, .pass (x := .inLoop x) rfl (fun _ _ => .inl (by simp)) harr⟩
 | outgrown => exact ⟨_, a₁, w₁, hq, .pass (x := .inLoop x) rfl (fun _ _ => .inl (by simp)) harr⟩
theorem WQ.thenL (k : WL P N x Q e w) : WQ (Exit.then (inL P x Q) Q) N .normal e w := fun a ha => k a ha
theorem WE.seqJ {α : Type} (E : α → Env) (I : α → World → Prop) (k2 : ∀ z w', I z w' → WE P N y Q (E z) w')
  (k1 : WE P N x (Exit.then (fun a' w' => ∃ z, Rep N (E z) a' ∧ I z w') Q) e w) : WE P N (.seq x y) Q e w := by
 intro a ha
 refine wp_seq fun b k cs => ?_
 obtain ⟨ex, a', w', hq, harr⟩ := k1 a ha b k cs
 refine ⟨ex, a', w', ?_, harr⟩
 cases ex with
 | normal => obtain ⟨z, hR, hI⟩ := hq; exact k2 z w' hI a' hR
 | exit id => exact hq
 | goto l => exact hq
 | ret => exact hq
 | panic ch => exact hq
 | outgrown => exact hq
end
def Kp (bs : List Nat) (w w' : World) : Prop := ∀ b, b ∈ bs → w'.heap[b]? = w.heap[b]?
theorem kpR (bs : List Nat) (w : World) : Kp bs w w := fun _ _ => rfl
theorem kpT (bs : List Nat) (w w1 w2 : World) (h : Kp bs w w1) (k : Kp bs w1 w2) : Kp bs w w2 := fun b hb => (k b hb).trans (h b hb)
theorem kp_of {bs S : List Nat} {w : World} (h : ∀ b ∈ bs, b < w.heap.size ∧ b ∉ S) : ∀ w', Fr S w w' → Kp bs w w' := fun w' k b hb => k.block b (h b hb).1 (h b hb).2
theorem kp0 {S : List Nat} {w : World} : ∀ b ∈ ([] : List Nat), b < w.heap.size ∧ b ∉ S := by simp
theorem kpC {b : Nat} {bs S : List Nat} {w : World} (h : b < w.heap.size) (n : b ∉ S) (k : ∀ b ∈ bs, b < w.heap.size ∧ b ∉ S) : ∀ x ∈ b :: bs, x < w.heap.size ∧ x ∉ S := by
 intro x hx
 rcases List.mem_cons.1 hx with rfl | hx
 ·
  exact ⟨h, n⟩
 ·
  exact k x hx
theorem _root_.Go.Proofs.YtdhonbahpcmmnaaGreatDoor.Blk.kp {bs : List Nat} {w w1 : World} {g : Nat} {cs : Array Value} {T : TypeId} (h : Blk w g cs T) (k : Kp bs w w1) (hg : g ∈ bs) : Blk w1 g cs T := (k g hg).trans h
end Go.Proofs.YtdhonbahpcmmnaaGreatDoor.Eng
end
section
set_option linter.unusedVariables false
set_option linter.unusedSimpArgs false
namespace Go.Proofs.YtdhonbahpcmmnaaGreatDoor.Eng
open Go Go.RowKit Go.Maps Go.Proofs.YtdhonbahpcmmnaaGreatDoor
def ptrR (v : Value) : Option (DataW Nat × List MemPlace) :=
 match v with
 | .pointer none => some (.nil, [])
 | .pointer (some ⟨b, 0, none⟩) => some (.held b, [])
 | _ => none
def Dm (es : List (Int × Nat)) : DataW Nat := .map (es.map fun e => (.int .i64 e.1, .held e.2))
def MapI (P : Program) (k : TypeId) (w : World) (m : Nat) (es : List (Int × Nat)) : Prop := w.ownsMap P k ptrR m es.length (Dm es)
section
variable {P : Program} {k : TypeId} {w w1 : World} {m : Nat} {es : List (Int × Nat)} {S : List Nat}
theorem MapI.lt (h : MapI P k w m es) : m < w.heap.size := World.ownsMap.lt h
theorem MapI.keep (h : MapI P k w m es) (f : Fr S w w1) (hn : m ∉ S) : MapI P k w1 m es := by
 obtain ⟨cs, clock, hb, F, hs, hD⟩ := h
 exact ⟨cs, clock, (f.block m (Array.getElem?_eq_some_iff.1 hb).1 hn).trans hb, F, hs, hD⟩
structure MT (P : Program) (t k e : TypeId) : Prop where
 t : P.underlying t = some (.map k e)
 k : P.underlying k = some (.int .i64)
 z : ∀ w, (zeroValue e).run P w = .ok (.pointer none) w
end
section
variable {P : Program} {ι : Type} {ops : Array Oper} {N : Nat} {S : ι → Act → World → Prop} {R : World → World → Prop} {x y : ι} {o : Oper} {e e' : Env} {w : World}
variable {t k el : TypeId} {m : Nat} {es : List (Int × Nat)}
def Rng (P : Program) (k : TypeId) (w : World) (m r : Nat) (es td : List (Int × Nat)) : Prop :=
 ∃ left cnt, w.ranges P k ptrR m r es.length (Dm es) left cnt ∧ td = es.filter fun e => left (.int .i64 e.1)
theorem Rng.keep {w1 : World} {r : Nat} {td : List (Int × Nat)} {F : List Nat} (h : Rng P k w m r es td) (f : Fr F w w1) (h1 : m ∉ F) (h2 : r ∉ F) : Rng P k w1 m r es td := by
 obtain ⟨left, cnt, h3, h4⟩ := h
 have l1 := h3.owns.lt
 have l2 := h3.lt
 refine ⟨left, cnt, ?_, h4⟩
 obtain ⟨cs, clock, since, seen, c0, hb, Ft, hs, hD, hr, rest⟩ := h3
 exact ⟨cs, clock, since, seen, c0, (f.block m l1 h1).trans hb, Ft, hs, hD, (f.block r l2 h2).trans hr, rest⟩
theorem Rng.owns {r : Nat} {td : List (Int × Nat)} (h : Rng P k w m r es td) : MapI P k w m es := by
 obtain ⟨left, cnt, h3, _⟩ := h
 exact h3.owns
def Ent (P : Program) (w : World) (r : Nat) (x : Int × Nat) : Prop := (Instr.entry (.pointer (some ⟨r, 0, none⟩))).run P w = .ok (.tuple #[.int .i64 x.1, .pointer (some ⟨x.2, 0, none⟩)]) w
def enAt (ops : Array Oper) (N : Nat) (e : Env) (o : Oper) : Option (Value × Option Tmp) :=
 bif onB ops N e o then
  match o.op with
  | .entry z => some (ev e z, o.dst)
  | _ => none
 else none
theorem WO.en (hT : TkS P ops R S x o y) (d : Nat) {r : Nat} {z : Int × Nat} (h : enAt ops N e o = some (.pointer (some ⟨r, 0, none⟩), some d)) (hE : ∀ w', R w w' → Ent P w' r z) (kk : WO S N y ((d, .tuple #[.int .i64 z.1, .pointer (some ⟨z.2, 0, none⟩)]) :: e) w) : WO S N x e w := by
 unfold enAt at h
 cases ho : onB ops N e o with
 | false => rw [ho] at h; cases h
 | true =>
  rw [ho] at h
  simp only [cond_true] at h
  split at h
  ·
   rename_i u hop
   simp only [Option.some.injEq, Prod.mk.injEq] at h
   obtain ⟨hz, hd⟩ := h
   refine WO.val hT ho (v := .tuple #[.int .i64 z.1, .pointer (some ⟨z.2, 0, none⟩)]) (fun w' hR => ?_) (by rw [hd]; exact kk)
   have := hE w' hR
   unfold Ent at this
   unfold execOp
   simp only [hop, hz, Sem.run_bind, this, Result.andThen_ok, Sem.run_pure]
  ·
   cases h
end
end Go.Proofs.YtdhonbahpcmmnaaGreatDoor.Eng
end
