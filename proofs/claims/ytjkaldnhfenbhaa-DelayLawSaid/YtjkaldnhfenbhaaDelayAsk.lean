/- Layer 11's control, asked anything; how it is made. -/
import Derived.Test.YtjkaldnhfenbhaaDelayW2
import Derived.Test.YtjkaldnhfenbhaaDelayW3
set_option linter.unusedVariables false
set_option linter.unusedSimpArgs false
namespace Go.Proofs.Ytjkaldnhfenbhaa.Delay
open Go.RowKit Go.Proofs.YtjkaldnhfenbhaaW.PrintWords Go.Proofs.YtjkaldnhfenbhaaW.PrintLast Go.Proofs.Ytjkaldnhfenbhaa.PDelayLaw

def Okc (st nx ct last : Int) : Prop := (st = 0 ∨ st = 1 ∨ st = 2) ∧ (0 ≤ nx ∧ nx ≤ 1200000000000) ∧ (0 ≤ ct ∧ ct ≤ 1000000) ∧ 0 ≤ last
def good (tg iv : Int) : Prop := 1 ≤ tg ∧ tg ≤ 1000000 ∧ 1 ≤ iv ∧ iv ≤ 1000000
/-- where a control stands, and that it may stand so -/
def Is (w0 w : World) (g : Nat) (tg iv ct : Int) : Prop := ∃ st till nx last, IsS133 w0 w g tg iv st till nx ct last ∧ Okc st nx ct last

theorem ask_any (g : Nat) (tg iv ct now wt : Int) (w0 w : World) (gd : good tg iv) (hI : Is w0 w g tg iv ct) (hB : Below w0.heap.size w0 w) :
    Calls Try.prog 57 #[.pointer (some ⟨g, 0, none⟩), .int .i64 now, .int .i64 wt] w fun e w' => ∃ d ct', e = .returned (.bool d) ∧ Is w0 w' g tg iv ct' ∧ Below w0.heap.size w0 w' ∧ KeepBut w w' g none ∧ (d = true → tg ≤ wt) ∧ (d = false → ct' = ct) := by
  obtain ⟨st, till, nx, last, hI, h1, h2, h3, h4⟩ := hI
  have hv := gd.2.2
  by_cases q1 : now < last
  · exact (ask_a g tg iv st till nx ct last now wt w0 w hI hB q1).mono fun e w' h => ⟨false, ct, h.1, ⟨st, till, nx, last, h.2.1, h1, h2, h3, h4⟩, h.2.2.1, h.2.2.2, by simp, by simp⟩
  · by_cases q2 : 1099511627776 < now
    · exact (ask_b g tg iv st till nx ct last now wt w0 w hI hB q1 q2).mono fun e w' h => ⟨false, ct, h.1, ⟨st, till, nx, last, h.2.1, h1, h2, h3, h4⟩, h.2.2.1, h.2.2.2, by simp, by simp⟩
    · by_cases q3 : wt < 0
      · exact (ask_c g tg iv st till nx ct last now wt w0 w hI hB q1 q2 q3).mono fun e w' h => ⟨false, ct, h.1, ⟨st, till, nx, last, h.2.1, h1, h2, h3, h4⟩, h.2.2.1, h.2.2.2, by simp, by simp⟩
      · have hf : last ≤ now ∧ now ≤ 1099511627776 ∧ 0 ≤ wt := ⟨by omega, by omega, by omega⟩
        by_cases q4 : wt < tg
        · exact (ask_calm g tg iv st till nx ct last now wt w0 w hI hB hf q4).mono fun e w' h => ⟨false, ct, h.1, ⟨0, till, nx, now, h.2.1, .inl rfl, h2, h3, by omega⟩, h.2.2.1, h.2.2.2, by simp, by simp⟩
        · rcases h1 with rfl | rfl | rfl
          · exact (ask_wary g tg iv till nx ct last now wt w0 w hI hB hf q4 hv h4).mono fun e w' h => ⟨false, ct, h.1, ⟨1, now + iv, nx, now, h.2.1, .inr (.inl rfl), h2, h3, by omega⟩, h.2.2.1, h.2.2.2, by simp, by simp⟩
          · by_cases q5 : now < till
            · exact (ask_wait1 g tg iv till nx ct last now wt w0 w hI hB hf q4 q5).mono fun e w' h => ⟨false, ct, h.1, ⟨1, till, nx, now, h.2.1, .inr (.inl rfl), h2, h3, by omega⟩, h.2.2.1, h.2.2.2, by simp, by simp⟩
            · by_cases q6 : ct ≤ 2
              · obtain ⟨P, hp, hP⟩ := pause_f iv 1
                have pz := pause_nonneg hP
                exact (ask_one g tg iv till nx ct last now wt P w0 w hI hB hf q4 h3 hv h2 h4 pz q5 q6 hp).mono fun e w' h => ⟨true, 1, h.1, ⟨2, till, now + P, now, h.2.1, .inr (.inr rfl), by omega, by omega, by omega⟩, h.2.2.1, h.2.2.2, fun _ => by omega, by simp⟩
              · by_cases q7 : now < nx + 16 * iv
                · obtain ⟨P, hp, hP⟩ := pause_f iv (ct - 2)
                  have pz := pause_nonneg hP
                  exact (ask_less g tg iv till nx ct last now wt P w0 w hI hB hf q4 h3 hv h2 h4 pz q5 (by omega) q7 hp).mono fun e w' h => ⟨true, ct - 2, h.1, ⟨2, till, now + P, now, h.2.1, .inr (.inr rfl), by omega, by omega, by omega⟩, h.2.2.1, h.2.2.2, fun _ => by omega, by simp⟩
                · obtain ⟨P, hp, hP⟩ := pause_f iv 1
                  have pz := pause_nonneg hP
                  exact (ask_far g tg iv till nx ct last now wt P w0 w hI hB hf q4 h3 hv h2 h4 pz q5 (by omega) q7 hp).mono fun e w' h => ⟨true, 1, h.1, ⟨2, till, now + P, now, h.2.1, .inr (.inr rfl), by omega, by omega, by omega⟩, h.2.2.1, h.2.2.2, fun _ => by omega, by simp⟩
          · by_cases q5 : now < nx
            · exact (ask_wait2 g tg iv till nx ct last now wt w0 w hI hB hf q4 q5).mono fun e w' h => ⟨false, ct, h.1, ⟨2, till, nx, now, h.2.1, .inr (.inr rfl), h2, h3, by omega⟩, h.2.2.1, h.2.2.2, by simp, by simp⟩
            · by_cases q6 : ct < 1000000
              · obtain ⟨P, hp, hP⟩ := pause_f iv (ct + 1)
                have pz := pause_nonneg hP
                exact (ask_drop g tg iv till nx ct last now wt P w0 w hI hB hf q4 h3 hv h2 h4 pz q5 q6 hp).mono fun e w' h => ⟨true, ct + 1, h.1, ⟨2, till, nx + P, now, h.2.1, .inr (.inr rfl), by omega, by omega, by omega⟩, h.2.2.1, h.2.2.2, fun _ => by omega, by simp⟩
              · obtain ⟨P, hp, hP⟩ := pause_f iv 1000000
                have pz := pause_nonneg hP
                exact (ask_dropmax g tg iv till nx ct last now wt P w0 w hI hB hf q4 h3 hv h2 h4 pz q5 (by omega) hp).mono fun e w' h => ⟨true, 1000000, h.1, ⟨2, till, nx + P, now, h.2.1, .inr (.inr rfl), by omega, by omega, by omega⟩, h.2.2.1, h.2.2.2, fun _ => by omega, by simp⟩
theorem count_any (g : Nat) (tg iv ct : Int) (w0 w : World) (hI : Is w0 w g tg iv ct) (hB : Below w0.heap.size w0 w) :
    Calls Try.prog 56 #[.pointer (some ⟨g, 0, none⟩)] w fun e w' => e = .returned (.int .i64 ct) ∧ Is w0 w' g tg iv ct ∧ Below w0.heap.size w0 w' ∧ KeepBut w w' g none := by
  obtain ⟨st, till, nx, last, hI, ho⟩ := hI
  exact (delay_Control_Count.calls g tg iv st till nx ct last _ _ _ _ _ _ _ _ w0 w hI hB rfl).mono fun e w' h => ⟨h.1, ⟨st, till, nx, last, h.2.1, ho⟩, h.2.2.1, h.2.2.2⟩

set_option maxRecDepth 100000 in
set_option maxHeartbeats 2000000 in
theorem new_good (tg iv : Int) (w0 w : World) (hB : Below w0.heap.size w0 w) (gd : good tg iv) :
    Calls Try.prog 55 #[.int .i64 tg, .int .i64 iv] w fun e w' => ∃ g, e = .returned (.tuple #[.pointer (some ⟨g, 0, none⟩), .nilIface]) ∧ IsS133 w0 w' g tg iv 0 0 0 0 0 ∧ Below w0.heap.size w0 w' ∧ Below w.heap.size w w' ∧ w.heap.size ≤ g := by
  refine Calls.mono (R := fun e w' => e = .returned (.tuple #[.pointer (some ⟨w.heap.size, 0, none⟩), .nilIface]) ∧ w' = w.alloc (.cells #[.int .i64 tg, .int .i64 iv, .int .i64 0, .int .i64 0, .int .i64 0, .int .i64 0, .int .i64 0] 133)) ?_ (fun e w' ⟨he, hw⟩ => by
    subst hw
    exact ⟨w.heap.size, he, IsS133.new w0 w tg iv 0 0 0 0 0 hB, hB.alloc hB.size _, (Below.refl _ _).alloc (Nat.le_refl _) _, Nat.le_refl _⟩)
  obtain ⟨g1, g2, g3, g4⟩ := gd
  clear hB
  go_enter Try.func55, Try.ntmps55
  go_wp2_with fail
  go_ret2
  exact ⟨rfl, rfl⟩

set_option maxRecDepth 100000 in
set_option maxHeartbeats 2000000 in
theorem new_bad (tg iv : Int) (w : World) (gd : ¬ good tg iv) :
    Calls Try.prog 55 #[.int .i64 tg, .int .i64 iv] w fun e w' => e = .returned (.tuple #[.pointer none, .iface 29 (.int .i64 1)]) ∧ w' = w := by
  by_cases b0 : tg < 1
  · clear gd
    go_enter Try.func55, Try.ntmps55
    go_wp2_with fail
    go_ret2
    exact ⟨rfl, rfl⟩
  · by_cases b1 : 1000000 < tg
    · clear gd
      go_enter Try.func55, Try.ntmps55
      go_wp2_with fail
      go_ret2
      exact ⟨rfl, rfl⟩
    · by_cases b2 : iv < 1
      · clear gd
        go_enter Try.func55, Try.ntmps55
        go_wp2_with fail
        go_ret2
        exact ⟨rfl, rfl⟩
      · by_cases b3 : 1000000 < iv
        · clear gd
          go_enter Try.func55, Try.ntmps55
          go_wp2_with fail
          go_ret2
          exact ⟨rfl, rfl⟩
        · exact absurd ⟨by omega, by omega, by omega, by omega⟩ gd

theorem pause_100 : delay_Pause.f 33 100 1 = some 100 := by
  obtain ⟨p, hp, hP⟩ := pause_f 100 1
  rw [hp, pause_one (by omega) hP]
theorem pause_ex : delay_Pause.f 33 100 4 = some 50 := by
  obtain ⟨p, hp, hP⟩ := pause_f 100 4
  rw [hp]
  unfold Paused at hP
  rw [if_pos (by omega)] at hP
  obtain ⟨r, hr, r1, rfl⟩ := hP
  obtain rfl := root_of hr (s := 2048) (by omega) (by omega) (by omega)
  rfl
theorem root_ex : delay_Root.f 33 10 = some 3 := by
  obtain ⟨r, hr, hR⟩ := root_f 10 (by omega) (by omega)
  rw [hr]
  obtain ⟨a1, a2, a3, a4⟩ := hR
  by_cases c : r < 3
  · exfalso
    have := a4 (by omega)
    have h2 : (r + 1) * (r + 1) ≤ 3 * 3 := Int.mul_le_mul (by omega) (by omega) (by omega) (by omega)
    omega
  · by_cases c2 : 3 < r
    · exfalso
      have h2 : (4 : Int) * 4 ≤ r * r := Int.mul_le_mul (by omega) (by omega) (by omega) (by omega)
      omega
    · congr 1; omega

set_option maxRecDepth 100000 in
set_option maxHeartbeats 2000000 in
theorem up_any (w : World) : Calls Try.prog 52 #[] w fun e w' => e = .returned (.bool true) ∧ Below w.heap.size w w' := by
  have he := Err.eql_err
  have hu := Try.underlying26
  have G := Lib.hid (show good 5 100 from ⟨by decide, by decide, by decide, by decide⟩)
  go_enter Try.func52, Try.ntmps52
  go_wp2_with fail
  refine (new_good 5 100 w w (Below.refl _ _) G.out).mono ?_
  rintro e w1 ⟨g, rfl, hI, hB, -, -⟩
  have HI := Lib.hid hI
  have HB := Lib.hid hB
  clear hI hB
  go_wp2_with fail
  refine (new_bad 0 1 _ (fun h => absurd h.1 (by decide))).mono ?_
  rintro e w2 ⟨rfl, rfl⟩
  go_wp2_with fail
  refine (ask_wary g 5 100 0 0 0 0 0 9 w _ HI.out HB.out (by omega) (by omega) (by omega) (by omega)).mono ?_
  rintro e w1 ⟨rfl, hI, hB, -⟩
  have HI := Lib.hid hI
  have HB := Lib.hid hB
  clear hI hB
  go_wp2_with fail
  refine (ask_one g 5 100 100 0 0 0 100 9 100 w _ (by exact HI.out) (by exact HB.out) (by omega) (by omega) (by omega) (by omega) (by omega) (by omega) (by omega) (by omega) (by omega) pause_100).mono ?_
  rintro e w1 ⟨rfl, hI, hB, -⟩
  have HI := Lib.hid hI
  have HB := Lib.hid hB
  clear hI hB
  go_wp2_with fail
  refine (delay_Pause.calls 33 100 4 50 _ pause_ex).mono ?_
  rintro e w3 ⟨rfl, hd⟩
  obtain ⟨N, rfl⟩ := hd.out
  go_wp2_with fail
  refine (delay_Root.calls 33 10 3 _ root_ex).mono ?_
  rintro e w4 ⟨rfl, hd⟩
  obtain ⟨N2, rfl⟩ := hd.out
  go_wp2_with fail
  refine (delay_Control_Count.calls g _ _ _ _ _ _ _ _ _ _ _ _ _ _ _ w _ (by exact HI.out) (by first | exact pw_below_drewN HB.out _ | exact pw_below_drewN (pw_below_drewN HB.out N) N2) rfl).mono ?_
  rintro e w5 ⟨rfl, hI, hB, -⟩
  go_wp2_with fail
  go_ret
  exact ⟨rfl, hB⟩
end Go.Proofs.Ytjkaldnhfenbhaa.Delay
