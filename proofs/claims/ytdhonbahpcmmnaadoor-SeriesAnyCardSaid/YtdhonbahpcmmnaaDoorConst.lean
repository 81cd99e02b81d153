/- '[]byte("abc")' of a constant: a literal's row, and a conversion to its own type, which marks the row. For the engine. -/
import Derived.Test.YtdhonbahpcmmnaaDoorEngB
set_option linter.unusedVariables false
set_option linter.unusedSimpArgs false
namespace Go.Proofs.YtdhonbahpcmmnaaDoor.Eng
open Go Go.RowKit Go.Proofs.YtdhonbahpcmmnaaDoor Go.Proofs.YtdhonbahpcmmnaaDoorW.PrintWords Go.Proofs.YtdhonbahpcmmnaaDoorW.PrintLast
variable {P : Program} {ι : Type} {ops : Array Oper} {N : Nat} {S : ι → Act → World → Prop} {R : World → World → Prop} {x y : ι} {o : Oper} {e e' : Env} {w : World}
def ixsAt (P : Program) (ops : Array Oper) (N : Nat) (e : Env) (o : Oper) : Option (ByteArray × Int × Option Tmp) :=
 bif onB ops N e o then
  match o.op with
  | .index t z u => (match ev e z, P.underlying t, ev e u with | .string s, some .string, .int _ i => some (s, i, o.dst) | _, _, _ => none)
  | _ => none
 else none
theorem str_get (q : List UInt8) (k : Nat) (h : k < q.length) : (str q)[k]? = some (gB q k) := by
 have h1 : k < (str q).size := h
 rw [getElem?_pos (str q) k h1]
 unfold gB
 rw [List.getD_eq_getElem?_getD, List.getElem?_eq_getElem h]
 rfl
theorem WO.ixS (hT : TkF P ops S x o y) (d k : Nat) (q : List UInt8) {i : Int} (h : ixsAt P ops N e o = some (str q, i, some d)) (hi : i = (k : Int)) (hk : k < q.length) (kk : WO S N y ((d, .int .u8 ((gB q k).toNat : Int)) :: e) w) : WO S N x e w := by
 unfold ixsAt at h
 cases ho : onB ops N e o with
 | false => rw [ho] at h; cases h
 | true =>
  rw [ho] at h
  simp only [cond_true] at h
  split at h
  ·
   rename_i t z u hop
   split at h
   ·
    rename_i s kk' i' hs hu hh
    simp only [Option.some.injEq, Prod.mk.injEq] at h
    obtain ⟨rfl, rfl, hd⟩ := h
    subst hi
    have hu' := fun w' => run_underlying (P := P) hu w'
    refine WO.valF hT ho (v := .int .u8 ((gB q k).toNat : Int)) (fun w' => ?_) (by rw [hd]; exact kk)
    unfold execOp
    have hb : (0 : Int) ≤ (k : Int) := by omega
    simp [hop, hs, hh, Instr.index, hu', asIntOf, hb, str_get q k hk]
   ·
    cases h
  ·
   cases h
def sshAt2 (P : Program) (ops : Array Oper) (N : Nat) (e : Env) (o : Oper) : Option (ByteArray × Int × Int × Option Tmp) :=
 bif onB ops N e o then
  match o.op with
  | .slice t z (some lo) (some hi) none => (match ev e z, P.underlying t, ev e lo, ev e hi with | .string s, some .string, .int _ l, .int _ h => some (s, l, h, o.dst) | _, _, _, _ => none)
  | _ => none
 else none
theorem str_part (q : List UInt8) (l h : Nat) : (str q).extract l h = str ((q.take h).drop l) := by
 apply ByteArray.ext
 rw [ByteArray.data_extract]
 apply Array.ext'
 rw [Array.toList_extract]
 simp [str, List.extract, List.drop_take]
theorem WO.slS2 (hT : TkF P ops S x o y) (d l' h' : Nat) (q : List UInt8) {lo hi : Int} (h : sshAt2 P ops N e o = some (str q, lo, hi, some d)) (hlo : lo = (l' : Int)) (hhi : hi = (h' : Int)) (hl : l' ≤ h') (hle : h' ≤ q.length) (k : WO S N y ((d, .string (str ((q.take h').drop l'))) :: e) w) : WO S N x e w := by
 unfold sshAt2 at h
 cases ho : onB ops N e o with
 | false => rw [ho] at h; cases h
 | true =>
  rw [ho] at h
  simp only [cond_true] at h
  split at h
  ·
   rename_i t z lz hz hop
   split at h
   ·
    rename_i s k1 lo' k2 hi' hs hu hll hh
    simp only [Option.some.injEq, Prod.mk.injEq] at h
    obtain ⟨rfl, rfl, rfl, hd⟩ := h
    subst hlo hhi
    have hu' := fun w' => run_underlying (P := P) hu w'
    refine WO.valF hT ho (v := .string (str ((q.take h').drop l'))) (fun w' => ?_) (by rw [hd]; exact k)
    unfold execOp
    have hb : (0 : Int) ≤ (h' : Int) ∧ (h' : Int) ≤ ((str q).size : Int) := by rw [str_size]; omega
    have hb2 : (0 : Int) ≤ (l' : Int) ∧ (l' : Int) ≤ (h' : Int) := by omega
    simp [hop, hs, hll, hh, Instr.sliceAt, Instr.slice, hu', Instr.sliceBounds, Instr.sliceBound, asIntOf, hb, hb2, str_part, str_size, hle, hl]
   ·
    cases h
  ·
   cases h
end Go.Proofs.YtdhonbahpcmmnaaDoor.Eng
