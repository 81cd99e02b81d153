/- Layer 8: Parts: the numbers of a disk's parts, sorted; Crash. -/
import Derived.Test.YtkhibpdkgjapgaaDiskC
import Derived.Test.YtkhibpdkgjapgaaShelf
set_option linter.unusedVariables false
set_option linter.unusedSimpArgs false
namespace Go.Proofs.Ytkhibpdkgjapgaa.Disk
open Go Go.RowKit Go.Maps Go.Sort Go.Shelf Go.Proofs Go.Proofs.Ytkhibpdkgjapgaa Go.Proofs.Ytkhibpdkgjapgaa.Eng Go.Proofs.YtkhibpdkgjapgaaW.PrintWords
theorem sortsA (k : Nat) : AnyZI.SortsIn Try.prog Try.sortedA_ren Fence.wide k :=
  ⟨fun blk off cap ss W hH hblk hsz => callsIn_wide.2 (AnyM.slices_Sort_int Try.sortA blk off cap ss W hH hblk hsz),
   fun p cap W => callsIn_wide.2 (AnyM.slices_Sort_int_none Try.sortA p cap W)⟩
set_option maxHeartbeats 1000000 in
/-- what maps.Keys and slices.Sorted come to -/
theorem keys_f (m : Nat) (w : World) : Calls Try.prog 38 #[.map (some m)] w fun e w' => e = .returned (.func (.func 44) #[] #[.pointer (some ⟨w.heap.size, 0, none⟩)]) ∧ w' = w.alloc (.cells #[.map (some m)] 63) :=
  (callsIn_wide (n := 5)).1 (AnyZI.keys_in Try.keysA Fence.wide 5 trivial rfl (some m) w)
set_option maxHeartbeats 1000000 in
theorem sorted_f (m : Nat) (es : List (Int × Nat)) (w w1 : World) (hm : MapI Try.prog 3 w m es) (hl : es.length ≤ 1000000) (h1 : w1 = w.alloc (.cells #[.map (some m)] 63)) :
    Calls Try.prog 37 #[.func (.func 44) #[] #[.pointer (some ⟨w.heap.size, 0, none⟩)]] w1 fun e w' => ∃ (v : Value) (ss : List Int), e = .returned v ∧ ss.Perm (intKeys (Dm es)) ∧
      w'.ownsRow w1.heap.size 3 1 v ss.length ((ss.mergeSort (fun x y => decide (x ≤ y))).map encZ) ∧ (v = .slice none 0 0 ↔ ss = []) ∧ Below w1.heap.size w1 w' := by
  subst h1
  have hown : w.ownsMap Try.prog 3 ptrR m es.length (Dm es) := hm
  have hbl := hown.lt
  have hsz : Maps.size (Dm es) = es.length := by simp [Dm, Maps.size]
  have hseq : SeqGives Fence.wide 2 Try.prog 44 #[.pointer (some ⟨w.heap.size, 0, none⟩)] encZ (fun ss => ss.Perm (intKeys (Dm es))) (Maps.size (Dm es)) (w.alloc (.cells #[.map (some m)] 63)) :=
    AnyZI.keys_gives (ρ := Try.keysA_ren) { Try.keysA with } Fence.wide _ trivial rfl (by omega) w.heap.size m es.length (Dm es) _ (by simp) (by simp) (by
      obtain ⟨es2, clock, hb, Ft, hs, hD⟩ := hown
      exact ⟨es2, clock, (Below.heap_alloc _ _ m hbl).trans hb, Ft, hs, hD⟩)
  exact (callsIn_wide (n := 5)).1 (AnyZI.sorted_in Try.sortedA Fence.wide 5 trivial trivial trivial trivial rfl (by omega) (sortsA _) (enters_of Try.func43 (by kernel_rfl) rfl) 44 #[.pointer (some ⟨w.heap.size, 0, none⟩)] trivial (enters_of Try.func44 (by kernel_rfl) rfl) _ _ (by rw [hsz]; exact Nat.le_trans hl (by decide)) (by rw [hsz]; omega) _ hseq)
end Go.Proofs.Ytkhibpdkgjapgaa.Disk
