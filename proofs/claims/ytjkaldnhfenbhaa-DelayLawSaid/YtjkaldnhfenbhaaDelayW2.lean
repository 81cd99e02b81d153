/- The walks of layer 11's control. -/
import Derived.Test.YtjkaldnhfenbhaaDelayW
import Derived.Test.YtjkaldnhfenbhaaErr
import Derived.Test.YtjkaldnhfenbhaaLists
import Derived.Lib.Hide
import Derived.BigRegion
import Derived.ChangeAlike
import Derived.Deep.RegionHeld3
set_option linter.unusedVariables false
set_option linter.unusedSimpArgs false
namespace Go.Proofs.Ytjkaldnhfenbhaa.Delay
open Go.RowKit Go.Proofs.YtjkaldnhfenbhaaW.PrintWords Go.Proofs.YtjkaldnhfenbhaaW.PrintLast Go.Proofs.Ytjkaldnhfenbhaa.PDelayLaw

set_option maxRecDepth 100000 in
set_option maxHeartbeats 4000000 in
theorem ask_drop (g : Nat) (tg iv till nx ct last now wt P : Int) (w0 w : World) (hI : IsS133 w0 w g tg iv 2 till nx ct last) (hB : Below w0.heap.size w0 w) (hf : last ≤ now ∧ now ≤ 1099511627776 ∧ 0 ≤ wt) (h : ¬ wt < tg) (hc : 0 ≤ ct ∧ ct ≤ 1000000) (hv : 1 ≤ iv ∧ iv ≤ 1000000) (hn : 0 ≤ nx ∧ nx ≤ 1200000000000) (hz : 0 ≤ last) (pz : 0 ≤ P ∧ P ≤ 1024000000) (h2 : ¬ now < nx) (hlt : ct < 1000000) (hp : delay_Pause.f 33 iv (ct + 1) = some P) :
    Calls Try.prog 57 #[.pointer (some ⟨g, 0, none⟩), .int .i64 now, .int .i64 wt] w fun e w' => e = .returned (.bool true) ∧ IsS133 w0 w' g tg iv 2 till (nx + P) (ct + 1) now ∧ Below w0.heap.size w0 w' ∧ KeepBut w w' g none := by
  have HI := Lib.hid hI
  have HB := Lib.hid hB
  have HK := Lib.hid (KeepBut.refl w g none)
  have c0 := (blk_cell hI.1 0).trans rfl
  have c1 := (blk_cell hI.1 1).trans rfl
  have c2 := (blk_cell hI.1 2).trans rfl
  have c3 := (blk_cell hI.1 3).trans rfl
  have c4 := (blk_cell hI.1 4).trans rfl
  have c5 := (blk_cell hI.1 5).trans rfl
  have c6 := (blk_cell hI.1 6).trans rfl
  have f2 := blk_frozen hI.1 2
  have f3 := blk_frozen hI.1 3
  have f4 := blk_frozen hI.1 4
  have f5 := blk_frozen hI.1 5
  have f6 := blk_frozen hI.1 6
  clear hI hB
  obtain ⟨q1, q2, q3⟩ := hf
  obtain ⟨v1, v2⟩ := hv
  obtain ⟨n1, n2⟩ := hn
  obtain ⟨e1, e2⟩ := hc
  obtain ⟨p1, p2⟩ := pz
  go_enter Try.func57, Try.ntmps57
  go_wp2_with fail
  have HS1 := Lib.hid (show IsS133 w0 ((w.setCell ⟨g, 6, none⟩ (.int .i64 now)).setCell ⟨g, 5, none⟩ (.int .i64 (ct + 1))) g tg iv 2 till nx (ct + 1) now from by repeat (first | (with_reducible first | exact HI.out | apply IsS133.drewN | apply IsS133.drew | apply IsS133.set_2 | apply IsS133.set_3 | apply IsS133.set_4 | apply IsS133.set_5 | apply IsS133.set_6) | exact HI.out))
  have k1 := (blk_cell HS1.out.1 1).trans rfl
  have k4 := (blk_cell HS1.out.1 4).trans rfl
  have k5 := (blk_cell HS1.out.1 5).trans rfl
  have kf2 := blk_frozen HS1.out.1 2
  have kf4 := blk_frozen HS1.out.1 4
  have hw : IntKind.i64.wrap (nx + P) = nx + P := IntWalk.i64_in _ (by omega)
  refine start_ (n := 17) (S := fun w' => w'.cell? ⟨g, 4, none⟩ = some (.int .i64 nx) ∧ w'.cell? ⟨g, 1, none⟩ = some (.int .i64 iv) ∧ w'.cell? ⟨g, 5, none⟩ = some (.int .i64 (ct + 1))) (ds := [16]) #[false, false, false, false, false, false, false, false, false, false, false, false, false, false, false, false, false] (by kernel_rfl) rfl rfl ⟨k4, k1, k5⟩ (fun hHeld => ?_)
  refine pure_ (i := 0) (N := some 95) (v := ?_) (a' := ?_) #[true, false, false, false, false, false, false, false, false, false, false, false, false, false, false, false, false] rfl rfl (by kernel_rfl) (fun _ _ _ h => h) (Or.inl ⟨by rfl, ?_⟩) ?_ ?_
  rotate_left
  · intro w'
    go_simp
    with_reducible rfl
  rotate_left
  · simp only [Act.put, List.setIfInBounds_toArray, List.set_cons_zero, List.set_cons_succ, i64_w, i32_w]
    rfl
  refine pure_ (i := 1) (N := some 96) (v := ?_) (a' := ?_) #[true, true, false, false, false, false, false, false, false, false, false, false, false, false, false, false, false] rfl rfl (by kernel_rfl) (fun _ _ _ h => h) (Or.inl ⟨by rfl, ?_⟩) ?_ ?_
  rotate_left
  · intro w'
    go_simp
    with_reducible rfl
  rotate_left
  · simp only [Act.put, List.setIfInBounds_toArray, List.set_cons_zero, List.set_cons_succ, i64_w, i32_w]
    rfl
  refine pure_ (i := 2) (N := some 97) (v := ?_) (a' := ?_) #[true, true, true, false, false, false, false, false, false, false, false, false, false, false, false, false, false] rfl rfl (by kernel_rfl) (fun _ _ _ h => h) (Or.inl ⟨by rfl, ?_⟩) ?_ ?_
  rotate_left
  · intro w'
    go_simp
    with_reducible rfl
  rotate_left
  · simp only [Act.put, List.setIfInBounds_toArray, List.set_cons_zero, List.set_cons_succ, i64_w, i32_w]
    rfl
  refine pure_ (i := 4) (N := some 99) (v := ?_) (a' := ?_) #[true, true, true, false, true, false, false, false, false, false, false, false, false, false, false, false, false] rfl rfl (by kernel_rfl) (fun _ _ _ h => h) (Or.inl ⟨by rfl, ?_⟩) ?_ ?_
  rotate_left
  · intro w'
    go_simp
    with_reducible rfl
  rotate_left
  · simp only [Act.put, List.setIfInBounds_toArray, List.set_cons_zero, List.set_cons_succ, i64_w, i32_w]
    rfl
  refine pure_ (i := 5) (N := some 100) (v := ?_) (a' := ?_) #[true, true, true, false, true, true, false, false, false, false, false, false, false, false, false, false, false] rfl rfl (by kernel_rfl) (fun _ _ _ h => h) (Or.inl ⟨by rfl, ?_⟩) ?_ ?_
  rotate_left
  · intro w'
    go_simp
    with_reducible rfl
  rotate_left
  · simp only [Act.put, List.setIfInBounds_toArray, List.set_cons_zero, List.set_cons_succ, i64_w, i32_w]
    rfl
  refine pure_ (i := 6) (N := some 101) (v := ?_) (a' := ?_) #[true, true, true, false, true, true, true, false, false, false, false, false, false, false, false, false, false] rfl rfl (by kernel_rfl) (fun _ _ _ h => h) (Or.inl ⟨by rfl, ?_⟩) ?_ ?_
  rotate_left
  · intro w'
    go_simp
    with_reducible rfl
  rotate_left
  · simp only [Act.put, List.setIfInBounds_toArray, List.set_cons_zero, List.set_cons_succ, i64_w, i32_w]
    rfl
  refine pure_ (i := 8) (N := some 103) (v := ?_) (a' := ?_) #[true, true, true, false, true, true, true, false, true, false, false, false, false, false, false, false, false] rfl rfl (by kernel_rfl) (fun _ _ _ h => h) (Or.inl ⟨by rfl, ?_⟩) ?_ ?_
  rotate_left
  · intro w'
    go_simp
    with_reducible rfl
  rotate_left
  · simp only [Act.put, List.setIfInBounds_toArray, List.set_cons_zero, List.set_cons_succ, i64_w, i32_w]
    rfl
  refine pure_ (i := 9) (N := some 104) (v := ?_) (a' := ?_) #[true, true, true, false, true, true, true, false, true, true, false, false, false, false, false, false, false] rfl rfl (by kernel_rfl) (fun _ _ _ h => h) (Or.inl ⟨by rfl, ?_⟩) ?_ ?_
  rotate_left
  · intro w'
    go_simp
    with_reducible rfl
  rotate_left
  · simp only [Act.put, List.setIfInBounds_toArray, List.set_cons_zero, List.set_cons_succ, i64_w, i32_w]
    rfl
  refine pure_ (i := 10) (N := some 105) (v := ?_) (a' := ?_) #[true, true, true, false, true, true, true, false, true, true, true, false, false, false, false, false, false] rfl rfl (by kernel_rfl) (fun _ _ _ h => h) (Or.inl ⟨by rfl, ?_⟩) ?_ ?_
  rotate_left
  · intro w'
    go_simp
    with_reducible rfl
  rotate_left
  · simp only [Act.put, List.setIfInBounds_toArray, List.set_cons_zero, List.set_cons_succ, i64_w, i32_w]
    rfl
  refine take_ (i := 3) (N := some 98) (v := ?_) (a' := ?_) #[true, true, true, true, true, true, true, false, true, true, true, false, false, false, false, false, false] rfl rfl (by kernel_rfl) (fun _ _ _ h => h) (Or.inl ⟨by rfl, ?_⟩) hHeld ?_ ?_
  rotate_left
  · rintro w' ⟨s0, s1, s2⟩
    go_simp
    with_reducible rfl
  rotate_left
  · simp only [Act.put, List.setIfInBounds_toArray, List.set_cons_zero, List.set_cons_succ, i64_w, i32_w]
    rfl
  refine take_ (i := 7) (N := some 102) (v := ?_) (a' := ?_) #[true, true, true, true, true, true, true, true, true, true, true, false, false, false, false, false, false] rfl rfl (by kernel_rfl) (fun _ _ _ h => h) (Or.inl ⟨by rfl, ?_⟩) hHeld ?_ ?_
  rotate_left
  · rintro w' ⟨s0, s1, s2⟩
    go_simp
    with_reducible rfl
  rotate_left
  · simp only [Act.put, List.setIfInBounds_toArray, List.set_cons_zero, List.set_cons_succ, i64_w, i32_w]
    rfl
  refine take_ (i := 11) (N := some 106) (v := ?_) (a' := ?_) #[true, true, true, true, true, true, true, true, true, true, true, true, false, false, false, false, false] rfl rfl (by kernel_rfl) (fun _ _ _ h => h) (Or.inl ⟨by rfl, ?_⟩) hHeld ?_ ?_
  rotate_left
  · rintro w' ⟨s0, s1, s2⟩
    go_simp
    with_reducible rfl
  rotate_left
  · simp only [Act.put, List.setIfInBounds_toArray, List.set_cons_zero, List.set_cons_succ, i64_w, i32_w]
    rfl
  refine one_ (i := 12) (N := some 107) #[true, true, true, true, true, true, true, true, true, true, true, true, true, false, false, false, false] rfl rfl (by kernel_rfl) (by decide) (fun K hK => ?_)
  refine goes_ Try.func54 (by kernel_rfl) rfl #[.int .i64 iv, .int .i64 (ct + 1)] (by rfl) rfl rfl (by simp only [List.map_toArray, List.map_cons, List.map_nil]; rfl) ?_
  with_reducible refine (delay_Pause.calls 33 iv (ct + 1) P _ hp).mono ?_
  rintro e w3 ⟨rfl, hd⟩
  refine ⟨_, rfl, ?_⟩
  obtain ⟨N, rfl⟩ := hd.out
  clear hd
  refine hK.out _ _ ⟨k4, k1, k5⟩ (fun hHeld => ?_)
  clear hK K
  refine norm_ (a' := ?_) ?_ ?_
  rotate_left
  · show Act.put _ (some 107) _ = _
    simp only [Act.put, List.setIfInBounds_toArray, List.set_cons_zero, List.set_cons_succ, i64_w, i32_w]
    rfl
  refine pure_ (i := 13) (N := some 108) (v := ?_) (a' := ?_) #[true, true, true, true, true, true, true, true, true, true, true, true, true, true, false, false, false] rfl rfl (by kernel_rfl) (fun _ _ _ h => h) (Or.inl ⟨by rfl, ?_⟩) ?_ ?_
  rotate_left
  · intro w'
    go_simp
    with_reducible rfl
  rotate_left
  · simp only [Act.put, List.setIfInBounds_toArray, List.set_cons_zero, List.set_cons_succ, i64_w, i32_w]
    rfl
  refine pure_ (i := 14) (N := some 109) (v := ?_) (a' := ?_) #[true, true, true, true, true, true, true, true, true, true, true, true, true, true, true, false, false] rfl rfl (by kernel_rfl) (fun _ _ _ h => h) (Or.inl ⟨by rfl, ?_⟩) ?_ ?_
  rotate_left
  · intro w'
    go_simp
    with_reducible rfl
  rotate_left
  · simp only [Act.put, List.setIfInBounds_toArray, List.set_cons_zero, List.set_cons_succ, i64_w, i32_w]
    rfl
  refine pure_ (i := 15) (N := some 110) (v := ?_) (a' := ?_) #[true, true, true, true, true, true, true, true, true, true, true, true, true, true, true, true, false] rfl rfl (by kernel_rfl) (fun _ _ _ h => h) (Or.inl ⟨by rfl, ?_⟩) ?_ ?_
  rotate_left
  · intro w'
    go_simp
    with_reducible rfl
  rotate_left
  · simp only [Act.put, List.setIfInBounds_toArray, List.set_cons_zero, List.set_cons_succ, i64_w, i32_w]
    rfl
  refine last_ (i := 16) (N := none) #[true, true, true, true, true, true, true, true, true, true, true, true, true, true, true, true, true] rfl rfl (by kernel_rfl) (by decide) (fun K hK => ?_)
  refine skip_ (w1 := ?_) (by rfl) rfl ?_ ?_
  rotate_left
  · go_simp
    rfl
  refine hK.out _ _ ?_
  clear hK K
  refine done_ (by kernel_rfl) ?_
  go_wp2_with fail
  go_ret
  exact ⟨by first | rfl | (simp <;> rfl), by repeat (first | (with_reducible first | exact HI.out | apply IsS133.drewN | apply IsS133.drew | apply IsS133.set_2 | apply IsS133.set_3 | apply IsS133.set_4 | apply IsS133.set_5 | apply IsS133.set_6) | exact HI.out), by repeat (first | (with_reducible first | exact HB.out | apply pw_below_drewN | apply below_drew1 | apply below_drew | refine below_set ?_ (IsS133.ge HI.out)) | exact HB.out), by repeat (first | (with_reducible first | exact HK.out | apply KeepBut.set_ | apply keep_drewN | apply keep_drew) | exact HK.out)⟩

set_option maxRecDepth 100000 in
set_option maxHeartbeats 4000000 in
theorem ask_dropmax (g : Nat) (tg iv till nx ct last now wt P : Int) (w0 w : World) (hI : IsS133 w0 w g tg iv 2 till nx ct last) (hB : Below w0.heap.size w0 w) (hf : last ≤ now ∧ now ≤ 1099511627776 ∧ 0 ≤ wt) (h : ¬ wt < tg) (hc : 0 ≤ ct ∧ ct ≤ 1000000) (hv : 1 ≤ iv ∧ iv ≤ 1000000) (hn : 0 ≤ nx ∧ nx ≤ 1200000000000) (hz : 0 ≤ last) (pz : 0 ≤ P ∧ P ≤ 1024000000) (h2 : ¬ now < nx) (hlt : ct = 1000000) (hp : delay_Pause.f 33 iv 1000000 = some P) :
    Calls Try.prog 57 #[.pointer (some ⟨g, 0, none⟩), .int .i64 now, .int .i64 wt] w fun e w' => e = .returned (.bool true) ∧ IsS133 w0 w' g tg iv 2 till (nx + P) 1000000 now ∧ Below w0.heap.size w0 w' ∧ KeepBut w w' g none := by
  have HI := Lib.hid hI
  have HB := Lib.hid hB
  have HK := Lib.hid (KeepBut.refl w g none)
  have c0 := (blk_cell hI.1 0).trans rfl
  have c1 := (blk_cell hI.1 1).trans rfl
  have c2 := (blk_cell hI.1 2).trans rfl
  have c3 := (blk_cell hI.1 3).trans rfl
  have c4 := (blk_cell hI.1 4).trans rfl
  have c5 := (blk_cell hI.1 5).trans rfl
  have c6 := (blk_cell hI.1 6).trans rfl
  have f2 := blk_frozen hI.1 2
  have f3 := blk_frozen hI.1 3
  have f4 := blk_frozen hI.1 4
  have f5 := blk_frozen hI.1 5
  have f6 := blk_frozen hI.1 6
  clear hI hB
  obtain ⟨q1, q2, q3⟩ := hf
  obtain ⟨v1, v2⟩ := hv
  obtain ⟨n1, n2⟩ := hn
  obtain ⟨e1, e2⟩ := hc
  obtain ⟨p1, p2⟩ := pz
  go_enter Try.func57, Try.ntmps57
  go_wp2_with fail
  have HS1 := Lib.hid (show IsS133 w0 ((w.setCell ⟨g, 6, none⟩ (.int .i64 now)).setCell ⟨g, 5, none⟩ (.int .i64 1000000)) g tg iv 2 till nx 1000000 now from by repeat (first | (with_reducible first | exact HI.out | apply IsS133.drewN | apply IsS133.drew | apply IsS133.set_2 | apply IsS133.set_3 | apply IsS133.set_4 | apply IsS133.set_5 | apply IsS133.set_6) | exact HI.out))
  have k1 := (blk_cell HS1.out.1 1).trans rfl
  have k4 := (blk_cell HS1.out.1 4).trans rfl
  have k5 := (blk_cell HS1.out.1 5).trans rfl
  have kf2 := blk_frozen HS1.out.1 2
  have kf4 := blk_frozen HS1.out.1 4
  have hw : IntKind.i64.wrap (nx + P) = nx + P := IntWalk.i64_in _ (by omega)
  refine start_ (n := 17) (S := fun w' => w'.cell? ⟨g, 4, none⟩ = some (.int .i64 nx) ∧ w'.cell? ⟨g, 1, none⟩ = some (.int .i64 iv) ∧ w'.cell? ⟨g, 5, none⟩ = some (.int .i64 1000000)) (ds := [16]) #[false, false, false, false, false, false, false, false, false, false, false, false, false, false, false, false, false] (by kernel_rfl) rfl rfl ⟨k4, k1, k5⟩ (fun hHeld => ?_)
  refine pure_ (i := 0) (N := some 95) (v := ?_) (a' := ?_) #[true, false, false, false, false, false, false, false, false, false, false, false, false, false, false, false, false] rfl rfl (by kernel_rfl) (fun _ _ _ h => h) (Or.inl ⟨by rfl, ?_⟩) ?_ ?_
  rotate_left
  · intro w'
    go_simp
    with_reducible rfl
  rotate_left
  · simp only [Act.put, List.setIfInBounds_toArray, List.set_cons_zero, List.set_cons_succ, i64_w, i32_w]
    rfl
  refine pure_ (i := 1) (N := some 96) (v := ?_) (a' := ?_) #[true, true, false, false, false, false, false, false, false, false, false, false, false, false, false, false, false] rfl rfl (by kernel_rfl) (fun _ _ _ h => h) (Or.inl ⟨by rfl, ?_⟩) ?_ ?_
  rotate_left
  · intro w'
    go_simp
    with_reducible rfl
  rotate_left
  · simp only [Act.put, List.setIfInBounds_toArray, List.set_cons_zero, List.set_cons_succ, i64_w, i32_w]
    rfl
  refine pure_ (i := 2) (N := some 97) (v := ?_) (a' := ?_) #[true, true, true, false, false, false, false, false, false, false, false, false, false, false, false, false, false] rfl rfl (by kernel_rfl) (fun _ _ _ h => h) (Or.inl ⟨by rfl, ?_⟩) ?_ ?_
  rotate_left
  · intro w'
    go_simp
    with_reducible rfl
  rotate_left
  · simp only [Act.put, List.setIfInBounds_toArray, List.set_cons_zero, List.set_cons_succ, i64_w, i32_w]
    rfl
  refine pure_ (i := 4) (N := some 99) (v := ?_) (a' := ?_) #[true, true, true, false, true, false, false, false, false, false, false, false, false, false, false, false, false] rfl rfl (by kernel_rfl) (fun _ _ _ h => h) (Or.inl ⟨by rfl, ?_⟩) ?_ ?_
  rotate_left
  · intro w'
    go_simp
    with_reducible rfl
  rotate_left
  · simp only [Act.put, List.setIfInBounds_toArray, List.set_cons_zero, List.set_cons_succ, i64_w, i32_w]
    rfl
  refine pure_ (i := 5) (N := some 100) (v := ?_) (a' := ?_) #[true, true, true, false, true, true, false, false, false, false, false, false, false, false, false, false, false] rfl rfl (by kernel_rfl) (fun _ _ _ h => h) (Or.inl ⟨by rfl, ?_⟩) ?_ ?_
  rotate_left
  · intro w'
    go_simp
    with_reducible rfl
  rotate_left
  · simp only [Act.put, List.setIfInBounds_toArray, List.set_cons_zero, List.set_cons_succ, i64_w, i32_w]
    rfl
  refine pure_ (i := 6) (N := some 101) (v := ?_) (a' := ?_) #[true, true, true, false, true, true, true, false, false, false, false, false, false, false, false, false, false] rfl rfl (by kernel_rfl) (fun _ _ _ h => h) (Or.inl ⟨by rfl, ?_⟩) ?_ ?_
  rotate_left
  · intro w'
    go_simp
    with_reducible rfl
  rotate_left
  · simp only [Act.put, List.setIfInBounds_toArray, List.set_cons_zero, List.set_cons_succ, i64_w, i32_w]
    rfl
  refine pure_ (i := 8) (N := some 103) (v := ?_) (a' := ?_) #[true, true, true, false, true, true, true, false, true, false, false, false, false, false, false, false, false] rfl rfl (by kernel_rfl) (fun _ _ _ h => h) (Or.inl ⟨by rfl, ?_⟩) ?_ ?_
  rotate_left
  · intro w'
    go_simp
    with_reducible rfl
  rotate_left
  · simp only [Act.put, List.setIfInBounds_toArray, List.set_cons_zero, List.set_cons_succ, i64_w, i32_w]
    rfl
  refine pure_ (i := 9) (N := some 104) (v := ?_) (a' := ?_) #[true, true, true, false, true, true, true, false, true, true, false, false, false, false, false, false, false] rfl rfl (by kernel_rfl) (fun _ _ _ h => h) (Or.inl ⟨by rfl, ?_⟩) ?_ ?_
  rotate_left
  · intro w'
    go_simp
    with_reducible rfl
  rotate_left
  · simp only [Act.put, List.setIfInBounds_toArray, List.set_cons_zero, List.set_cons_succ, i64_w, i32_w]
    rfl
  refine pure_ (i := 10) (N := some 105) (v := ?_) (a' := ?_) #[true, true, true, false, true, true, true, false, true, true, true, false, false, false, false, false, false] rfl rfl (by kernel_rfl) (fun _ _ _ h => h) (Or.inl ⟨by rfl, ?_⟩) ?_ ?_
  rotate_left
  · intro w'
    go_simp
    with_reducible rfl
  rotate_left
  · simp only [Act.put, List.setIfInBounds_toArray, List.set_cons_zero, List.set_cons_succ, i64_w, i32_w]
    rfl
  refine take_ (i := 3) (N := some 98) (v := ?_) (a' := ?_) #[true, true, true, true, true, true, true, false, true, true, true, false, false, false, false, false, false] rfl rfl (by kernel_rfl) (fun _ _ _ h => h) (Or.inl ⟨by rfl, ?_⟩) hHeld ?_ ?_
  rotate_left
  · rintro w' ⟨s0, s1, s2⟩
    go_simp
    with_reducible rfl
  rotate_left
  · simp only [Act.put, List.setIfInBounds_toArray, List.set_cons_zero, List.set_cons_succ, i64_w, i32_w]
    rfl
  refine take_ (i := 7) (N := some 102) (v := ?_) (a' := ?_) #[true, true, true, true, true, true, true, true, true, true, true, false, false, false, false, false, false] rfl rfl (by kernel_rfl) (fun _ _ _ h => h) (Or.inl ⟨by rfl, ?_⟩) hHeld ?_ ?_
  rotate_left
  · rintro w' ⟨s0, s1, s2⟩
    go_simp
    with_reducible rfl
  rotate_left
  · simp only [Act.put, List.setIfInBounds_toArray, List.set_cons_zero, List.set_cons_succ, i64_w, i32_w]
    rfl
  refine take_ (i := 11) (N := some 106) (v := ?_) (a' := ?_) #[true, true, true, true, true, true, true, true, true, true, true, true, false, false, false, false, false] rfl rfl (by kernel_rfl) (fun _ _ _ h => h) (Or.inl ⟨by rfl, ?_⟩) hHeld ?_ ?_
  rotate_left
  · rintro w' ⟨s0, s1, s2⟩
    go_simp
    with_reducible rfl
  rotate_left
  · simp only [Act.put, List.setIfInBounds_toArray, List.set_cons_zero, List.set_cons_succ, i64_w, i32_w]
    rfl
  refine one_ (i := 12) (N := some 107) #[true, true, true, true, true, true, true, true, true, true, true, true, true, false, false, false, false] rfl rfl (by kernel_rfl) (by decide) (fun K hK => ?_)
  refine goes_ Try.func54 (by kernel_rfl) rfl #[.int .i64 iv, .int .i64 1000000] (by rfl) rfl rfl (by simp only [List.map_toArray, List.map_cons, List.map_nil]; rfl) ?_
  with_reducible refine (delay_Pause.calls 33 iv 1000000 P _ hp).mono ?_
  rintro e w3 ⟨rfl, hd⟩
  refine ⟨_, rfl, ?_⟩
  obtain ⟨N, rfl⟩ := hd.out
  clear hd
  refine hK.out _ _ ⟨k4, k1, k5⟩ (fun hHeld => ?_)
  clear hK K
  refine norm_ (a' := ?_) ?_ ?_
  rotate_left
  · show Act.put _ (some 107) _ = _
    simp only [Act.put, List.setIfInBounds_toArray, List.set_cons_zero, List.set_cons_succ, i64_w, i32_w]
    rfl
  refine pure_ (i := 13) (N := some 108) (v := ?_) (a' := ?_) #[true, true, true, true, true, true, true, true, true, true, true, true, true, true, false, false, false] rfl rfl (by kernel_rfl) (fun _ _ _ h => h) (Or.inl ⟨by rfl, ?_⟩) ?_ ?_
  rotate_left
  · intro w'
    go_simp
    with_reducible rfl
  rotate_left
  · simp only [Act.put, List.setIfInBounds_toArray, List.set_cons_zero, List.set_cons_succ, i64_w, i32_w]
    rfl
  refine pure_ (i := 14) (N := some 109) (v := ?_) (a' := ?_) #[true, true, true, true, true, true, true, true, true, true, true, true, true, true, true, false, false] rfl rfl (by kernel_rfl) (fun _ _ _ h => h) (Or.inl ⟨by rfl, ?_⟩) ?_ ?_
  rotate_left
  · intro w'
    go_simp
    with_reducible rfl
  rotate_left
  · simp only [Act.put, List.setIfInBounds_toArray, List.set_cons_zero, List.set_cons_succ, i64_w, i32_w]
    rfl
  refine pure_ (i := 15) (N := some 110) (v := ?_) (a' := ?_) #[true, true, true, true, true, true, true, true, true, true, true, true, true, true, true, true, false] rfl rfl (by kernel_rfl) (fun _ _ _ h => h) (Or.inl ⟨by rfl, ?_⟩) ?_ ?_
  rotate_left
  · intro w'
    go_simp
    with_reducible rfl
  rotate_left
  · simp only [Act.put, List.setIfInBounds_toArray, List.set_cons_zero, List.set_cons_succ, i64_w, i32_w]
    rfl
  refine last_ (i := 16) (N := none) #[true, true, true, true, true, true, true, true, true, true, true, true, true, true, true, true, true] rfl rfl (by kernel_rfl) (by decide) (fun K hK => ?_)
  refine skip_ (w1 := ?_) (by rfl) rfl ?_ ?_
  rotate_left
  · go_simp
    rfl
  refine hK.out _ _ ?_
  clear hK K
  refine done_ (by kernel_rfl) ?_
  go_wp2_with fail
  go_ret
  exact ⟨by first | rfl | (simp <;> rfl), by repeat (first | (with_reducible first | exact HI.out | apply IsS133.drewN | apply IsS133.drew | apply IsS133.set_2 | apply IsS133.set_3 | apply IsS133.set_4 | apply IsS133.set_5 | apply IsS133.set_6) | exact HI.out), by repeat (first | (with_reducible first | exact HB.out | apply pw_below_drewN | apply below_drew1 | apply below_drew | refine below_set ?_ (IsS133.ge HI.out)) | exact HB.out), by repeat (first | (with_reducible first | exact HK.out | apply KeepBut.set_ | apply keep_drewN | apply keep_drew) | exact HK.out)⟩
end Go.Proofs.Ytjkaldnhfenbhaa.Delay
