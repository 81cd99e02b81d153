/- The engine: a loop round by round; paths that come together again. -/
import Derived.Test.YtdhonbahpcmmnaaDoorEng
set_option linter.unusedVariables false
namespace Go.Proofs.YtdhonbahpcmmnaaDoor.Eng
open Go Go.Proofs.YtdhonbahpcmmnaaDoor
section
variable {P : Program} {Q : Exit → Act → World → Prop} {N : Nat} {e e' : Env} {w : World} {x y : Code}
def inL (P : Program) (x : Code) (Q : Exit → Act → World → Prop) (a : Act) (w : World) : Prop :=
 ∀ (b : Frame) (k : List Item) (cs : List Frame), ∃ ex a' w', Q ex a' w' ∧ Arrives P (lone (b.at a (.code x :: .inLoop x :: k)) cs w) b k cs ex a' w'
def WL (P : Program) (N : Nat) (x : Code) (Q : Exit → Act → World → Prop) (e : Env) (w : World) : Prop := ∀ a, Rep N e a → inL P x Q a w
theorem WE.unroll (k : WL P N x Q e w) : WE P N (.loop x) Q e w := by
 intro a ha b k' cs
 obtain ⟨ex, a', w', hq, harr⟩ := k a ha b k' cs
 exact ⟨ex, a', w', hq, .of_steps (.one step_loop) harr⟩
theorem WL.go (k : WE P N x (Exit.then (inL P x Q) Q) e w) : WL P N x Q e w := by
 intro a ha b k' cs
 obtain ⟨ex, a₁, w₁, hq, harr⟩ := k a ha b (.inLoop x :: k') cs
 cases ex with
 | normal =>
  obtain ⟨e₂, a₂, w₂, hq₂, harr₂⟩ := hq b k' cs
  exact ⟨e₂, a₂, w₂, hq₂, .of_steps (Steps.trans harr (.one step_inLoop)) harr₂⟩
 | exit id => exact ⟨_, a₁, w₁, hq, .pass (x := .inLoop x) rfl (fun _ _ => .inl (by simp)) harr⟩
 | goto l => exact ⟨_, a₁, w₁, hq, .pass (x := .inLoop x) rfl (fun _ _ => .inl (by simp)) harr⟩
 | ret => exact ⟨_, a₁, w₁, hq, .pass (x := .inLoop x) rfl (fun _ _ => .inl (by simp)) harr⟩
 | panic ch => exact ⟨_, a₁, w₁, hq, .pass (x := .inLoop x) rfl (fun _ _ => .inl (by simp)) harr⟩
 | outgrown => exact ⟨_, a₁, w₁, hq, .pass (x := .inLoop x) rfl (fun _ _ => .inl (by simp)) harr⟩
theorem WE.seqJ {α : Type} (E : α → Env) (I : α → World → Prop) (k2 : ∀ z w', I z w' → WE P N y Q (E z) w')
  (k1 : WE P N x (Exit.then (fun a' w' => ∃ z, Rep N (E z) a' ∧ I z w') Q) e w) : WE P N (.seq x y) Q e w := by
 intro a ha
 refine wp_seq fun b k cs => ?_
 obtain ⟨ex, a', w', hq, harr⟩ := k1 a ha b k cs
 refine ⟨ex, a', w', ?_, harr⟩
 cases ex with
 | normal => obtain ⟨z, hR, hI⟩ := hq; exact k2 z w' hI a' hR
 | exit id => exact hq
 | goto l => exact hq
 | ret => exact hq
 | panic ch => exact hq
 | outgrown => exact hq
end
def Kp (bs : List Nat) (w w' : World) : Prop := ∀ b, b ∈ bs → w'.heap[b]? = w.heap[b]?
theorem kpR (bs : List Nat) (w : World) : Kp bs w w := fun _ _ => rfl
theorem kpT (bs : List Nat) (w w1 w2 : World) (h : Kp bs w w1) (k : Kp bs w1 w2) : Kp bs w w2 := fun b hb => (k b hb).trans (h b hb)
theorem kp_of {bs S : List Nat} {w : World} (h : ∀ b ∈ bs, b < w.heap.size ∧ b ∉ S) : ∀ w', Fr S w w' → Kp bs w w' := fun w' k b hb => k.block b (h b hb).1 (h b hb).2
theorem kp0 {S : List Nat} {w : World} : ∀ b ∈ ([] : List Nat), b < w.heap.size ∧ b ∉ S := by simp
theorem kpC {b : Nat} {bs S : List Nat} {w : World} (h : b < w.heap.size) (n : b ∉ S) (k : ∀ b ∈ bs, b < w.heap.size ∧ b ∉ S) : ∀ x ∈ b :: bs, x < w.heap.size ∧ x ∉ S := by
 intro x hx
 rcases List.mem_cons.1 hx with rfl | hx
 ·
  exact ⟨h, n⟩
 ·
  exact k x hx
theorem _root_.Go.Proofs.YtdhonbahpcmmnaaDoor.Blk.kp {bs : List Nat} {w w1 : World} {g : Nat} {cs : Array Value} {T : TypeId} (h : Blk w g cs T) (k : Kp bs w w1) (hg : g ∈ bs) : Blk w1 g cs T := (k g hg).trans h
end Go.Proofs.YtdhonbahpcmmnaaDoor.Eng
