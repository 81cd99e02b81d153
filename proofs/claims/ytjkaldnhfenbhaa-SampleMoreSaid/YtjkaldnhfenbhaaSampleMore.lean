/- The walk of the statement SampleMore. -/
import Derived.Test.YtjkaldnhfenbhaaSampleW
set_option linter.unusedVariables false
set_option linter.unusedSimpArgs false
namespace Go.Proofs.Ytjkaldnhfenbhaa.Sample
open Go.RowKit Go.Proofs.YtjkaldnhfenbhaaW.PrintWords Go.Proofs.YtjkaldnhfenbhaaW.PrintLast Go.Proofs.Ytjkaldnhfenbhaa.PSampleKeeps

def PostM (w : World) (e : Ending) (w' : World) : Prop := e = .returned (.bool true) ∧ Below w.heap.size w w'
abbrev RL (w : World) (A0 : Option Addr) (l : List (List Int)) : Prop := Kd.C (Kd.slice 3 (Kd.int .i64)) w A0 l.length l

set_option maxRecDepth 100000 in
set_option maxHeartbeats 4000000 in
theorem more_any (A0 : Option Addr) (c0 : Nat) (l : List (List Int)) (c v : Int) (s : ByteArray) (w : World) (hr : RL w A0 l) (hc : l.length ≤ c0) (hs : s.size ≤ 140737488351232) (hv : -9223372036854775808 ≤ v ∧ v ≤ 9223372036854775807) :
    Calls Try.prog 9 #[.slice A0 l.length c0, .int .i64 c, .int .i64 v, .string s] w (PostM w) := by
  have HR := Lib.hid hr
  have HC := Lib.hid hc
  obtain ⟨b, hb, hi⟩ := few_f l (by have := hr.2.1; omega)
  have HB := Lib.hid hb
  have HI := Lib.hid hi
  clear hr hc hb hi
  have go : ∀ w1 : World, Fr [] w w1 → RL w1 A0 l := fun w1 h => Kd.C_below HR.out h.below0
  have HG := Lib.hid go
  clear go
  cases b with
  | false =>
    go_enter Try.func9, Try.ntmps9
    go_wp2_with fail
    refine (up_any _).mono ?_
    rintro e w1 ⟨rfl, hF⟩
    have HF := Lib.hid hF
    clear hF
    go_wp2_with fail
    refine (nogginlaw15_few.calls _ A0 c0 l _ w1 (HG.out w1 HF.out) HC.out HB.out).mono ?_
    rintro e w2 ⟨rfl, hd⟩
    have HF2 := Lib.hid (HF.out.trans (Fr.of_drawn hd)).below0
    clear hd HF
    go_wp2_with fail
    go_ret
    exact ⟨rfl, HF2.out⟩
  | true =>
    by_cases hs2 : 3000 < s.size
    · go_enter Try.func9, Try.ntmps9
      go_wp2_with fail
      refine (up_any _).mono ?_
      rintro e w1 ⟨rfl, hF⟩
      have HF := Lib.hid hF
      clear hF
      go_wp2_with fail
      refine (nogginlaw15_few.calls _ A0 c0 l _ w1 (HG.out w1 HF.out) HC.out HB.out).mono ?_
      rintro e w2 ⟨rfl, hd⟩
      have HF2 := Lib.hid (HF.out.trans (Fr.of_drawn hd)).below0
      clear hd HF
      go_wp2_with fail
      go_ret
      exact ⟨rfl, HF2.out⟩
    · by_cases ht : There l c v
      · have HZ := Lib.hid (thr_zero ht)
        have HT := Lib.hid ht
        have hv8 : v ≤ 1000 := by
          have h1 := ht.1.row c.toNat (by have := ht.2.1; have := ht.2.2.1; omega)
          have h2 := ht.2.2.2.2
          have := h1.hi
          have := h1.eq
          omega
        have hv0 : 0 ≤ v := ht.2.2.2.1
        obtain ⟨m, hm⟩ : ∃ m, m = MixS.mixH (bytesL s) % 65536 := ⟨_, rfl⟩
        have HM0 := Lib.hid (show decide (MixS.mixH (bytesL s) % 65536 ≥ thr l c 0) = true by
          rw [HZ.out.2]
          exact decide_eq_true (Int.emod_nonneg _ (by decide)))
        obtain ⟨k, hk⟩ : ∃ k, k = decide (m ≥ thr l c v) := ⟨_, rfl⟩
        have HK := Lib.hid (show decide (MixS.mixH (bytesL s) % 65536 ≥ thr l c v) = k by rw [hk, hm])
        by_cases ht2 : There l c (v + 1)
        · obtain ⟨q, hq⟩ : ∃ q, q = decide (m ≥ thr l c (v + 1)) := ⟨_, rfl⟩
          have HQ := Lib.hid (show decide (MixS.mixH (bytesL s) % 65536 ≥ thr l c (v + 1)) = q by rw [hq, hm])
          have HT2 := Lib.hid ht2
          have hkq : q = true → k = true := fun h => by
            rw [hq] at h
            have h1 := of_decide_eq_true h
            have h2 := thr_more ht ht2
            rw [hk]
            exact decide_eq_true (by omega)
          clear hq hk hm ht ht2 hv
          cases q with
          | false =>
            clear hkq
            cases k
            all_goals
              go_enter Try.func9, Try.ntmps9
              go_wp2_with fail
              refine (up_any _).mono ?_
              rintro e w1 ⟨rfl, hF⟩
              have HF := Lib.hid hF
              clear hF
              go_wp2_with fail
              refine (nogginlaw15_few.calls _ A0 c0 l _ w1 (HG.out w1 HF.out) HC.out HB.out).mono ?_
              rintro e w2 ⟨rfl, hd⟩
              have HF2 := Lib.hid (HF.out.trans (Fr.of_drawn hd))
              clear hd HF
              go_wp2_with fail
              refine (keep_yes A0 c0 l c v s (by omega) w2 (HG.out w2 HF2.out) HC.out HT.out _ HK.out).mono ?_
              rintro e w3 ⟨rfl, hF⟩
              have HF3 := Lib.hid (HF2.out.trans hF)
              clear hF HF2
              go_wp2_with fail
              refine (keep_yes A0 c0 l c 0 s (by omega) w3 (HG.out w3 HF3.out) HC.out HZ.out.1 _ HM0.out).mono ?_
              rintro e w4 ⟨rfl, hF⟩
              have HF4 := Lib.hid (HF3.out.trans hF)
              clear hF HF3
              go_wp2_with fail
              refine (keep_yes A0 c0 l c (v + 1) s (by omega) w4 (HG.out w4 HF4.out) HC.out HT2.out _ HQ.out).mono ?_
              rintro e w5 ⟨rfl, hF⟩
              have HF5 := Lib.hid (HF4.out.trans hF).below0
              clear hF HF4
              go_wp2_with fail
              go_ret
              exact ⟨rfl, HF5.out⟩
          | true =>
            obtain rfl := hkq rfl
            clear hkq
            go_enter Try.func9, Try.ntmps9
            go_wp2_with fail
            refine (up_any _).mono ?_
            rintro e w1 ⟨rfl, hF⟩
            have HF := Lib.hid hF
            clear hF
            go_wp2_with fail
            refine (nogginlaw15_few.calls _ A0 c0 l _ w1 (HG.out w1 HF.out) HC.out HB.out).mono ?_
            rintro e w2 ⟨rfl, hd⟩
            have HF2 := Lib.hid (HF.out.trans (Fr.of_drawn hd))
            clear hd HF
            go_wp2_with fail
            refine (keep_yes A0 c0 l c v s (by omega) w2 (HG.out w2 HF2.out) HC.out HT.out _ HK.out).mono ?_
            rintro e w3 ⟨rfl, hF⟩
            have HF3 := Lib.hid (HF2.out.trans hF)
            clear hF HF2
            go_wp2_with fail
            refine (keep_yes A0 c0 l c 0 s (by omega) w3 (HG.out w3 HF3.out) HC.out HZ.out.1 _ HM0.out).mono ?_
            rintro e w4 ⟨rfl, hF⟩
            have HF4 := Lib.hid (HF3.out.trans hF)
            clear hF HF3
            go_wp2_with fail
            refine (keep_yes A0 c0 l c (v + 1) s (by omega) w4 (HG.out w4 HF4.out) HC.out HT2.out _ HQ.out).mono ?_
            rintro e w5 ⟨rfl, hF⟩
            have HF5 := Lib.hid (HF4.out.trans hF).below0
            clear hF HF4
            go_wp2_with fail
            go_ret
            exact ⟨rfl, HF5.out⟩
        · have HT2 := Lib.hid ht2
          clear hk hm ht ht2 hv
          cases k
          all_goals
            go_enter Try.func9, Try.ntmps9
            go_wp2_with fail
            refine (up_any _).mono ?_
            rintro e w1 ⟨rfl, hF⟩
            have HF := Lib.hid hF
            clear hF
            go_wp2_with fail
            refine (nogginlaw15_few.calls _ A0 c0 l _ w1 (HG.out w1 HF.out) HC.out HB.out).mono ?_
            rintro e w2 ⟨rfl, hd⟩
            have HF2 := Lib.hid (HF.out.trans (Fr.of_drawn hd))
            clear hd HF
            go_wp2_with fail
            refine (keep_yes A0 c0 l c v s (by omega) w2 (HG.out w2 HF2.out) HC.out HT.out _ HK.out).mono ?_
            rintro e w3 ⟨rfl, hF⟩
            have HF3 := Lib.hid (HF2.out.trans hF)
            clear hF HF2
            go_wp2_with fail
            refine (keep_yes A0 c0 l c 0 s (by omega) w3 (HG.out w3 HF3.out) HC.out HZ.out.1 _ HM0.out).mono ?_
            rintro e w4 ⟨rfl, hF⟩
            have HF4 := Lib.hid (HF3.out.trans hF)
            clear hF HF3
            go_wp2_with fail
            refine (keep_no A0 c0 l c (v + 1) s w4 (HG.out w4 HF4.out) HC.out HT2.out).mono ?_
            rintro e w5 ⟨rfl, hF⟩
            have HF5 := Lib.hid (HF4.out.trans hF).below0
            clear hF HF4
            go_wp2_with fail
            go_ret
            exact ⟨rfl, HF5.out⟩
      · have HT := Lib.hid ht
        clear ht hv
        go_enter Try.func9, Try.ntmps9
        go_wp2_with fail
        refine (up_any _).mono ?_
        rintro e w1 ⟨rfl, hF⟩
        have HF := Lib.hid hF
        clear hF
        go_wp2_with fail
        refine (nogginlaw15_few.calls _ A0 c0 l _ w1 (HG.out w1 HF.out) HC.out HB.out).mono ?_
        rintro e w2 ⟨rfl, hd⟩
        have HF2 := Lib.hid (HF.out.trans (Fr.of_drawn hd))
        clear hd HF
        go_wp2_with fail
        refine (keep_no A0 c0 l c v s w2 (HG.out w2 HF2.out) HC.out HT.out).mono ?_
        rintro e w3 ⟨rfl, hF⟩
        have HF3 := Lib.hid (HF2.out.trans hF).below0
        clear hF HF2
        go_wp2_with fail
        go_ret
        exact ⟨rfl, HF3.out⟩
end Go.Proofs.Ytjkaldnhfenbhaa.Sample
