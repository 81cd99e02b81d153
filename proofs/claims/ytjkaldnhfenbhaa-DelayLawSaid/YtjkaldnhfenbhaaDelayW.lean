/- The walks of layer 11's control. -/
import Derived.Test.YtjkaldnhfenbhaaDelayPure
import Derived.Test.YtjkaldnhfenbhaaErr
import Derived.Test.YtjkaldnhfenbhaaLists
import Derived.Lib.Hide
import Derived.BigRegion
import Derived.ChangeAlike
import Derived.Deep.RegionHeld3
set_option linter.unusedVariables false
set_option linter.unusedSimpArgs false
namespace Go.Proofs.Ytjkaldnhfenbhaa.Delay
open Go.RowKit Go.Proofs.YtjkaldnhfenbhaaW.PrintWords Go.Proofs.YtjkaldnhfenbhaaW.PrintLast Go.Proofs.Ytjkaldnhfenbhaa.PDelayLaw

set_option maxRecDepth 100000 in
set_option maxHeartbeats 4000000 in
theorem ask_a (g : Nat) (tg iv st till nx ct last now wt : Int) (w0 w : World) (hI : IsS133 w0 w g tg iv st till nx ct last) (hB : Below w0.heap.size w0 w) (h : now < last) :
    Calls Try.prog 57 #[.pointer (some ⟨g, 0, none⟩), .int .i64 now, .int .i64 wt] w fun e w' => e = .returned (.bool false) ∧ IsS133 w0 w' g tg iv st till nx ct last ∧ Below w0.heap.size w0 w' ∧ KeepBut w w' g none := by
  have HI := Lib.hid hI
  have HB := Lib.hid hB
  have HK := Lib.hid (KeepBut.refl w g none)
  have c0 := (blk_cell hI.1 0).trans rfl
  have c1 := (blk_cell hI.1 1).trans rfl
  have c2 := (blk_cell hI.1 2).trans rfl
  have c3 := (blk_cell hI.1 3).trans rfl
  have c4 := (blk_cell hI.1 4).trans rfl
  have c5 := (blk_cell hI.1 5).trans rfl
  have c6 := (blk_cell hI.1 6).trans rfl
  have f2 := blk_frozen hI.1 2
  have f3 := blk_frozen hI.1 3
  have f4 := blk_frozen hI.1 4
  have f5 := blk_frozen hI.1 5
  have f6 := blk_frozen hI.1 6
  clear hI hB
  go_enter Try.func57, Try.ntmps57
  go_wp2_with fail
  go_ret
  exact ⟨by first | rfl | (simp <;> rfl), by repeat (first | (with_reducible first | exact HI.out | apply IsS133.drewN | apply IsS133.drew | apply IsS133.set_2 | apply IsS133.set_3 | apply IsS133.set_4 | apply IsS133.set_5 | apply IsS133.set_6) | exact HI.out), by repeat (first | (with_reducible first | exact HB.out | apply pw_below_drewN | apply below_drew1 | apply below_drew | refine below_set ?_ (IsS133.ge HI.out)) | exact HB.out), by repeat (first | (with_reducible first | exact HK.out | apply KeepBut.set_ | apply keep_drewN | apply keep_drew) | exact HK.out)⟩

set_option maxRecDepth 100000 in
set_option maxHeartbeats 4000000 in
theorem ask_b (g : Nat) (tg iv st till nx ct last now wt : Int) (w0 w : World) (hI : IsS133 w0 w g tg iv st till nx ct last) (hB : Below w0.heap.size w0 w) (h0 : ¬ now < last) (h : 1099511627776 < now) :
    Calls Try.prog 57 #[.pointer (some ⟨g, 0, none⟩), .int .i64 now, .int .i64 wt] w fun e w' => e = .returned (.bool false) ∧ IsS133 w0 w' g tg iv st till nx ct last ∧ Below w0.heap.size w0 w' ∧ KeepBut w w' g none := by
  have HI := Lib.hid hI
  have HB := Lib.hid hB
  have HK := Lib.hid (KeepBut.refl w g none)
  have c0 := (blk_cell hI.1 0).trans rfl
  have c1 := (blk_cell hI.1 1).trans rfl
  have c2 := (blk_cell hI.1 2).trans rfl
  have c3 := (blk_cell hI.1 3).trans rfl
  have c4 := (blk_cell hI.1 4).trans rfl
  have c5 := (blk_cell hI.1 5).trans rfl
  have c6 := (blk_cell hI.1 6).trans rfl
  have f2 := blk_frozen hI.1 2
  have f3 := blk_frozen hI.1 3
  have f4 := blk_frozen hI.1 4
  have f5 := blk_frozen hI.1 5
  have f6 := blk_frozen hI.1 6
  clear hI hB
  go_enter Try.func57, Try.ntmps57
  go_wp2_with fail
  go_ret
  exact ⟨by first | rfl | (simp <;> rfl), by repeat (first | (with_reducible first | exact HI.out | apply IsS133.drewN | apply IsS133.drew | apply IsS133.set_2 | apply IsS133.set_3 | apply IsS133.set_4 | apply IsS133.set_5 | apply IsS133.set_6) | exact HI.out), by repeat (first | (with_reducible first | exact HB.out | apply pw_below_drewN | apply below_drew1 | apply below_drew | refine below_set ?_ (IsS133.ge HI.out)) | exact HB.out), by repeat (first | (with_reducible first | exact HK.out | apply KeepBut.set_ | apply keep_drewN | apply keep_drew) | exact HK.out)⟩

set_option maxRecDepth 100000 in
set_option maxHeartbeats 4000000 in
theorem ask_c (g : Nat) (tg iv st till nx ct last now wt : Int) (w0 w : World) (hI : IsS133 w0 w g tg iv st till nx ct last) (hB : Below w0.heap.size w0 w) (h0 : ¬ now < last) (h1 : ¬ 1099511627776 < now) (h : wt < 0) :
    Calls Try.prog 57 #[.pointer (some ⟨g, 0, none⟩), .int .i64 now, .int .i64 wt] w fun e w' => e = .returned (.bool false) ∧ IsS133 w0 w' g tg iv st till nx ct last ∧ Below w0.heap.size w0 w' ∧ KeepBut w w' g none := by
  have HI := Lib.hid hI
  have HB := Lib.hid hB
  have HK := Lib.hid (KeepBut.refl w g none)
  have c0 := (blk_cell hI.1 0).trans rfl
  have c1 := (blk_cell hI.1 1).trans rfl
  have c2 := (blk_cell hI.1 2).trans rfl
  have c3 := (blk_cell hI.1 3).trans rfl
  have c4 := (blk_cell hI.1 4).trans rfl
  have c5 := (blk_cell hI.1 5).trans rfl
  have c6 := (blk_cell hI.1 6).trans rfl
  have f2 := blk_frozen hI.1 2
  have f3 := blk_frozen hI.1 3
  have f4 := blk_frozen hI.1 4
  have f5 := blk_frozen hI.1 5
  have f6 := blk_frozen hI.1 6
  clear hI hB
  go_enter Try.func57, Try.ntmps57
  go_wp2_with fail
  go_ret
  exact ⟨by first | rfl | (simp <;> rfl), by repeat (first | (with_reducible first | exact HI.out | apply IsS133.drewN | apply IsS133.drew | apply IsS133.set_2 | apply IsS133.set_3 | apply IsS133.set_4 | apply IsS133.set_5 | apply IsS133.set_6) | exact HI.out), by repeat (first | (with_reducible first | exact HB.out | apply pw_below_drewN | apply below_drew1 | apply below_drew | refine below_set ?_ (IsS133.ge HI.out)) | exact HB.out), by repeat (first | (with_reducible first | exact HK.out | apply KeepBut.set_ | apply keep_drewN | apply keep_drew) | exact HK.out)⟩

set_option maxRecDepth 100000 in
set_option maxHeartbeats 4000000 in
theorem ask_calm (g : Nat) (tg iv st till nx ct last now wt : Int) (w0 w : World) (hI : IsS133 w0 w g tg iv st till nx ct last) (hB : Below w0.heap.size w0 w) (hf : last ≤ now ∧ now ≤ 1099511627776 ∧ 0 ≤ wt) (h : wt < tg) :
    Calls Try.prog 57 #[.pointer (some ⟨g, 0, none⟩), .int .i64 now, .int .i64 wt] w fun e w' => e = .returned (.bool false) ∧ IsS133 w0 w' g tg iv 0 till nx ct now ∧ Below w0.heap.size w0 w' ∧ KeepBut w w' g none := by
  have HI := Lib.hid hI
  have HB := Lib.hid hB
  have HK := Lib.hid (KeepBut.refl w g none)
  have c0 := (blk_cell hI.1 0).trans rfl
  have c1 := (blk_cell hI.1 1).trans rfl
  have c2 := (blk_cell hI.1 2).trans rfl
  have c3 := (blk_cell hI.1 3).trans rfl
  have c4 := (blk_cell hI.1 4).trans rfl
  have c5 := (blk_cell hI.1 5).trans rfl
  have c6 := (blk_cell hI.1 6).trans rfl
  have f2 := blk_frozen hI.1 2
  have f3 := blk_frozen hI.1 3
  have f4 := blk_frozen hI.1 4
  have f5 := blk_frozen hI.1 5
  have f6 := blk_frozen hI.1 6
  clear hI hB
  obtain ⟨q1, q2, q3⟩ := hf
  go_enter Try.func57, Try.ntmps57
  go_wp2_with fail
  go_ret
  exact ⟨by first | rfl | (simp <;> rfl), by repeat (first | (with_reducible first | exact HI.out | apply IsS133.drewN | apply IsS133.drew | apply IsS133.set_2 | apply IsS133.set_3 | apply IsS133.set_4 | apply IsS133.set_5 | apply IsS133.set_6) | exact HI.out), by repeat (first | (with_reducible first | exact HB.out | apply pw_below_drewN | apply below_drew1 | apply below_drew | refine below_set ?_ (IsS133.ge HI.out)) | exact HB.out), by repeat (first | (with_reducible first | exact HK.out | apply KeepBut.set_ | apply keep_drewN | apply keep_drew) | exact HK.out)⟩

set_option maxRecDepth 100000 in
set_option maxHeartbeats 4000000 in
theorem ask_wary (g : Nat) (tg iv till nx ct last now wt : Int) (w0 w : World) (hI : IsS133 w0 w g tg iv 0 till nx ct last) (hB : Below w0.heap.size w0 w) (hf : last ≤ now ∧ now ≤ 1099511627776 ∧ 0 ≤ wt) (h : ¬ wt < tg) (hb : 1 ≤ iv ∧ iv ≤ 1000000) (hz : 0 ≤ last) :
    Calls Try.prog 57 #[.pointer (some ⟨g, 0, none⟩), .int .i64 now, .int .i64 wt] w fun e w' => e = .returned (.bool false) ∧ IsS133 w0 w' g tg iv 1 (now + iv) nx ct now ∧ Below w0.heap.size w0 w' ∧ KeepBut w w' g none := by
  have HI := Lib.hid hI
  have HB := Lib.hid hB
  have HK := Lib.hid (KeepBut.refl w g none)
  have c0 := (blk_cell hI.1 0).trans rfl
  have c1 := (blk_cell hI.1 1).trans rfl
  have c2 := (blk_cell hI.1 2).trans rfl
  have c3 := (blk_cell hI.1 3).trans rfl
  have c4 := (blk_cell hI.1 4).trans rfl
  have c5 := (blk_cell hI.1 5).trans rfl
  have c6 := (blk_cell hI.1 6).trans rfl
  have f2 := blk_frozen hI.1 2
  have f3 := blk_frozen hI.1 3
  have f4 := blk_frozen hI.1 4
  have f5 := blk_frozen hI.1 5
  have f6 := blk_frozen hI.1 6
  clear hI hB
  obtain ⟨q1, q2, q3⟩ := hf
  go_enter Try.func57, Try.ntmps57
  go_wp2_with fail
  go_ret
  exact ⟨by first | rfl | (simp <;> rfl), by repeat (first | (with_reducible first | exact HI.out | apply IsS133.drewN | apply IsS133.drew | apply IsS133.set_2 | apply IsS133.set_3 | apply IsS133.set_4 | apply IsS133.set_5 | apply IsS133.set_6) | exact HI.out), by repeat (first | (with_reducible first | exact HB.out | apply pw_below_drewN | apply below_drew1 | apply below_drew | refine below_set ?_ (IsS133.ge HI.out)) | exact HB.out), by repeat (first | (with_reducible first | exact HK.out | apply KeepBut.set_ | apply keep_drewN | apply keep_drew) | exact HK.out)⟩

set_option maxRecDepth 100000 in
set_option maxHeartbeats 4000000 in
theorem ask_wait1 (g : Nat) (tg iv till nx ct last now wt : Int) (w0 w : World) (hI : IsS133 w0 w g tg iv 1 till nx ct last) (hB : Below w0.heap.size w0 w) (hf : last ≤ now ∧ now ≤ 1099511627776 ∧ 0 ≤ wt) (h : ¬ wt < tg) (h2 : now < till) :
    Calls Try.prog 57 #[.pointer (some ⟨g, 0, none⟩), .int .i64 now, .int .i64 wt] w fun e w' => e = .returned (.bool false) ∧ IsS133 w0 w' g tg iv 1 till nx ct now ∧ Below w0.heap.size w0 w' ∧ KeepBut w w' g none := by
  have HI := Lib.hid hI
  have HB := Lib.hid hB
  have HK := Lib.hid (KeepBut.refl w g none)
  have c0 := (blk_cell hI.1 0).trans rfl
  have c1 := (blk_cell hI.1 1).trans rfl
  have c2 := (blk_cell hI.1 2).trans rfl
  have c3 := (blk_cell hI.1 3).trans rfl
  have c4 := (blk_cell hI.1 4).trans rfl
  have c5 := (blk_cell hI.1 5).trans rfl
  have c6 := (blk_cell hI.1 6).trans rfl
  have f2 := blk_frozen hI.1 2
  have f3 := blk_frozen hI.1 3
  have f4 := blk_frozen hI.1 4
  have f5 := blk_frozen hI.1 5
  have f6 := blk_frozen hI.1 6
  clear hI hB
  obtain ⟨q1, q2, q3⟩ := hf
  go_enter Try.func57, Try.ntmps57
  go_wp2_with fail
  go_ret
  exact ⟨by first | rfl | (simp <;> rfl), by repeat (first | (with_reducible first | exact HI.out | apply IsS133.drewN | apply IsS133.drew | apply IsS133.set_2 | apply IsS133.set_3 | apply IsS133.set_4 | apply IsS133.set_5 | apply IsS133.set_6) | exact HI.out), by repeat (first | (with_reducible first | exact HB.out | apply pw_below_drewN | apply below_drew1 | apply below_drew | refine below_set ?_ (IsS133.ge HI.out)) | exact HB.out), by repeat (first | (with_reducible first | exact HK.out | apply KeepBut.set_ | apply keep_drewN | apply keep_drew) | exact HK.out)⟩

set_option maxRecDepth 100000 in
set_option maxHeartbeats 4000000 in
theorem ask_wait2 (g : Nat) (tg iv till nx ct last now wt : Int) (w0 w : World) (hI : IsS133 w0 w g tg iv 2 till nx ct last) (hB : Below w0.heap.size w0 w) (hf : last ≤ now ∧ now ≤ 1099511627776 ∧ 0 ≤ wt) (h : ¬ wt < tg) (h2 : now < nx) :
    Calls Try.prog 57 #[.pointer (some ⟨g, 0, none⟩), .int .i64 now, .int .i64 wt] w fun e w' => e = .returned (.bool false) ∧ IsS133 w0 w' g tg iv 2 till nx ct now ∧ Below w0.heap.size w0 w' ∧ KeepBut w w' g none := by
  have HI := Lib.hid hI
  have HB := Lib.hid hB
  have HK := Lib.hid (KeepBut.refl w g none)
  have c0 := (blk_cell hI.1 0).trans rfl
  have c1 := (blk_cell hI.1 1).trans rfl
  have c2 := (blk_cell hI.1 2).trans rfl
  have c3 := (blk_cell hI.1 3).trans rfl
  have c4 := (blk_cell hI.1 4).trans rfl
  have c5 := (blk_cell hI.1 5).trans rfl
  have c6 := (blk_cell hI.1 6).trans rfl
  have f2 := blk_frozen hI.1 2
  have f3 := blk_frozen hI.1 3
  have f4 := blk_frozen hI.1 4
  have f5 := blk_frozen hI.1 5
  have f6 := blk_frozen hI.1 6
  clear hI hB
  obtain ⟨q1, q2, q3⟩ := hf
  go_enter Try.func57, Try.ntmps57
  go_wp2_with fail
  go_ret
  exact ⟨by first | rfl | (simp <;> rfl), by repeat (first | (with_reducible first | exact HI.out | apply IsS133.drewN | apply IsS133.drew | apply IsS133.set_2 | apply IsS133.set_3 | apply IsS133.set_4 | apply IsS133.set_5 | apply IsS133.set_6) | exact HI.out), by repeat (first | (with_reducible first | exact HB.out | apply pw_below_drewN | apply below_drew1 | apply below_drew | refine below_set ?_ (IsS133.ge HI.out)) | exact HB.out), by repeat (first | (with_reducible first | exact HK.out | apply KeepBut.set_ | apply keep_drewN | apply keep_drew) | exact HK.out)⟩
end Go.Proofs.Ytjkaldnhfenbhaa.Delay
