/- '[]byte("abc")' of a constant: a literal's row, and a conversion to its own type, which marks the row. For the engine. -/
import Derived.Test.YtkhibpdkgjapgaaEngB
set_option linter.unusedVariables false
set_option linter.unusedSimpArgs false
namespace Go.Proofs.Ytkhibpdkgjapgaa.Eng
open Go Go.RowKit Go.Proofs.Ytkhibpdkgjapgaa Go.Proofs.YtkhibpdkgjapgaaW.PrintWords Go.Proofs.YtkhibpdkgjapgaaW.PrintLast
theorem freeze_mod {w : World} {g k : Nat} {cs : Array Value} {t : TypeId} (h : Blk w g cs t) : (w.freeze ⟨g, k, none⟩ 1).heap.size = w.heap.size ∧ (w.freeze ⟨g, k, none⟩ 1).heap[g]? = some (.cells cs t (k, k + 1)) ∧ (∀ j, j ≠ g → (w.freeze ⟨g, k, none⟩ 1).heap[j]? = w.heap[j]?) := by
  have hb : w.heap[g]? = some (.cells cs t (0, 0)) := h
  unfold World.freeze
  rw [if_neg (by decide)]
  refine ⟨by simp, ?_, fun j hj => ?_⟩
  · simp only [Array.getElem?_modify, if_true, hb, Option.map_some]
    rfl
  · simp only [Array.getElem?_modify]
    rw [if_neg (Ne.symm hj)]
variable {P : Program} {ι : Type} {ops : Array Oper} {N : Nat} {S : ι → Act → World → Prop} {R : World → World → Prop} {x y : ι} {o : Oper} {e e' : Env} {w : World}
theorem WO.cst (hT : TkE P ops R S x o y) (d : Nat) {tb te ts : TypeId} (B : BT P tb te ts) {g n c : Nat} (q : List UInt8) {cs : Array Value} (h : cvAt ops N e o = some (tb, tb, .slice (some ⟨g, 0, none⟩) n c, some d)) (hb : Blk w g cs te) (hq : cs.toList = (q.map cB).flatten) (hR : ∀ w', Fr [g] w w' → R w w')
    (k : ∀ w', VX cB 1 w' [g] (some ⟨g, 0, none⟩) q → Fr [g] w w' → WO S N y ((d, .slice (some ⟨g, 0, none⟩) n c) :: e) w') : WO S N x e w := by
  obtain ⟨z, ho, hop, hx, hd⟩ := cvAt_spec h
  refine WO.on hT ho fun a ha h3 h4 _ Q => ?_
  obtain ⟨m1, m2, m3⟩ := freeze_mod (k := cs.size) hb
  have hsh : w.shape? g = some (te, cs.size) := by
    have : w.heap[g]? = some (.cells cs te (0, 0)) := hb
    unfold World.shape?
    rw [this]
  have hcv : (convert tb tb (.slice (some ⟨g, 0, none⟩) n c)).run P w = .ok (.slice (some ⟨g, 0, none⟩) n c) (w.freeze ⟨g, cs.size, none⟩ 1) := by
    simp [convert, run_underlying B.b, run_underlying B.e, markStringish, hsh]
  have hrun : (execOp (ev e) o).run P w = .ok (.value (.slice (some ⟨g, 0, none⟩) n c)) (w.freeze ⟨g, cs.size, none⟩ 1) := by
    unfold execOp
    simp only [hop, hx, Sem.run_bind, hcv, Result.andThen_ok, Sem.run_pure]
  have hF : Fr [g] w (w.freeze ⟨g, cs.size, none⟩ 1) := by
    refine ⟨?_, ?_, ?_, Nat.le_of_eq m1.symm, fun j _ hn => m3 j (by simpa using hn)⟩ <;> (unfold World.freeze; rw [if_neg (by decide)])
  simp only [Oper.wp, h3, hrun, Oper.upon]
  have hp := ha.put o.dst (.slice (some ⟨g, 0, none⟩) n c) h4
  rw [hd] at hp ⊢
  refine ⟨hR _ hF, k _ ⟨fun y hy => ?_, fun hl => ⟨_, rfl, by simp, fun i b hb2 j u hu => ?_⟩⟩ hF _ hp⟩
  · obtain rfl : y = g := by simpa using hy
    rw [m1]
    exact hb.lt
  · have hj0 : j = 0 ∧ u = .int .u8 (b.toNat : Int) := by
      unfold cB at hu
      cases j with
      | zero => simpa using hu.symm
      | succ j => simp at hu
    obtain ⟨rfl, rfl⟩ := hj0
    have hc : cs[i]? = some (.int .u8 (b.toNat : Int)) := by
      rw [← Array.getElem?_toList, hq, cB_flat, List.getElem?_map, hb2]
      rfl
    have hadd : Addr.add ⟨g, 0, none⟩ (i * 1 + 0) = ⟨g, i, none⟩ := by rw [add_blk]; simp
    rw [hadd]
    show (World.cell? _ ⟨g, i, none⟩) = _
    simp only [World.cell?, m2]
    exact hc
/-- a text's beginning: s[:h] -/
def sshAt (P : Program) (ops : Array Oper) (N : Nat) (e : Env) (o : Oper) : Option (ByteArray × Int × Option Tmp) :=
  bif onB ops N e o then
    match o.op with
    | .slice t z none (some hi) none => (match ev e z, P.underlying t, ev e hi with | .string s, some .string, .int _ h => some (s, h, o.dst) | _, _, _ => none)
    | _ => none
  else none
theorem str_take (q : List UInt8) (h : Nat) : (str q).extract 0 h = str (q.take h) := by
  apply ByteArray.ext
  rw [ByteArray.data_extract]
  apply Array.ext'
  rw [Array.toList_extract]
  simp [str, List.extract]
theorem WO.slS (hT : TkF P ops S x o y) (d h' : Nat) (q : List UInt8) {hi : Int} (h : sshAt P ops N e o = some (str q, hi, some d)) (hhi : hi = (h' : Int)) (hle : h' ≤ q.length) (k : WO S N y ((d, .string (str (q.take h'))) :: e) w) : WO S N x e w := by
  unfold sshAt at h
  cases ho : onB ops N e o with
  | false => rw [ho] at h; cases h
  | true =>
    rw [ho] at h
    simp only [cond_true] at h
    split at h
    · rename_i t z hz hop
      split at h
      · rename_i s kk hi' hs hu hh
        simp only [Option.some.injEq, Prod.mk.injEq] at h
        obtain ⟨rfl, rfl, hd⟩ := h
        subst hhi
        have hu' := fun w' => run_underlying (P := P) hu w'
        refine WO.valF hT ho (v := .string (str (q.take h'))) (fun w' => ?_) (by rw [hd]; exact k)
        unfold execOp
        have hb : (0 : Int) ≤ (h' : Int) ∧ (h' : Int) ≤ ((str q).size : Int) := by rw [str_size]; omega
        simp [hop, hs, hh, Instr.sliceAt, Instr.slice, hu', Instr.sliceBounds, Instr.sliceBound, asIntOf, hb, str_take, str_size, hle]
      · cases h
    · cases h
end Go.Proofs.Ytkhibpdkgjapgaa.Eng
