/- The walk of DelayLaw. -/
import Derived.Test.YtjkaldnhfenbhaaDelayAsk
import Derived.Deep.RegionHeld3
set_option linter.unusedVariables false
set_option linter.unusedSimpArgs false
namespace Go.Proofs.Ytjkaldnhfenbhaa.Delay
open Go.RowKit Go.Proofs.YtjkaldnhfenbhaaW.PrintWords Go.Proofs.YtjkaldnhfenbhaaW.PrintLast Go.Proofs.Ytjkaldnhfenbhaa.PDelayLaw

/-- a slice of asks: its kind -/
abbrev KD : Kd (Int × Int) := Kd.pair (Kd.int .i64) (Kd.int .i64)
theorem C_asks {w : World} {A : Option Addr} {l : List (Int × Int)} (h : Kd.C KD w A l.length l) : l = [] ∨ ∃ ad, A = some ad ∧ ∀ j, j < l.length → ∃ n t, l[j]? = some (n, t) ∧ w.cell? (ad.add (j * 2)) = some (.int .i64 n) ∧ w.cell? (ad.add (j * 2 + 1)) = some (.int .i64 t) := by
  by_cases hn : 0 < l.length
  · right
    obtain ⟨_, _, h3⟩ := h
    obtain ⟨ad, e, hc⟩ := h3 hn
    refine ⟨ad, e, fun j hj => ?_⟩
    obtain ⟨cs, _, hk, hcell⟩ := hc j l[j] (by simp [hj])
    obtain ⟨c3, c4, rfl, hk3, hk4⟩ := hk
    obtain rfl : c3 = [.int .i64 l[j].1] := hk3
    obtain rfl : c4 = [.int .i64 l[j].2] := hk4
    exact ⟨l[j].1, l[j].2, by simp [hj], hcell 0 _ rfl, hcell 1 _ rfl⟩
  · left
    exact List.length_eq_zero_iff.1 (by omega)
/-- the counts that a pause is asked of -/
def Ways (iv c : Int) : Prop := c < 1 ∨ 1000000 ≤ c ∨ (1 ≤ c ∧ c < 1000000 ∧ ∃ p q, delay_Pause.f 33 iv c = some p ∧ delay_Pause.f 33 iv (c + 1) = some q ∧ q ≤ p)
theorem ways (iv c : Int) : Ways iv c := by
  by_cases h1 : c < 1
  · exact .inl h1
  · by_cases h2 : 1000000 ≤ c
    · exact .inr (.inl h2)
    · obtain ⟨p, hp, hP⟩ := pause_f iv c
      obtain ⟨q, hq, hQ⟩ := pause_f iv (c + 1)
      exact .inr (.inr ⟨by omega, by omega, p, q, hp, hq, pause_mono (by omega) (by omega) hP hQ⟩)
theorem sq_le {r : Int} (h : 0 ≤ r ∧ r ≤ 4294967295) : 0 ≤ r * r ∧ r * r ≤ 18446744073709551615 := by
  refine ⟨Int.mul_nonneg h.1 h.1, ?_⟩
  have := Int.mul_le_mul h.2 h.2 h.1 (by omega)
  omega

set_option maxRecDepth 100000 in
set_option maxHeartbeats 8000000 in
theorem law_bad (A0 : Option Addr) (c0 m : Nat) (n tg iv cn : Int)  (w : World) (hn : 0 ≤ n ∧ n < 18446744073709551616) (hcn : -9223372036854775808 ≤ cn ∧ cn ≤ 9223372036854775807) (gd : ¬ good tg iv) :
    Calls Try.prog 11 #[.int .u64 n, .int .i64 tg, .int .i64 iv, .int .i64 cn, .slice A0 m c0] w fun e w' => e = .returned (.bool true) ∧ Below w.heap.size w w' := by
  have he := Err.eql_err
  have hu := Try.underlying26
  obtain ⟨r, hr, hR⟩ := root_f n hn.1 hn.2
  have HR := Lib.hid hr
  obtain ⟨r1, r2, r3, r4⟩ := hR
  obtain ⟨s1, s2⟩ := sq_le ⟨r1, r2⟩
  have hw1 : IntKind.u64.wrap (r * r) = r * r := IntWalk.u64_in _ ⟨s1, s2⟩
  have hW := Lib.hid (ways iv cn)
  clear hr s1 s2
  have H := Lib.hid gd
  clear gd
  by_cases c4 : r < 4294967295
  all_goals rcases hW.out with hc | hc | ⟨hc1, hc2, p, q, hp, hq, hpq⟩
  all_goals
    (try have r5 := r4 (by assumption))
    (try have hw3 : IntKind.u64.wrap ((r + 1) * (r + 1)) = (r + 1) * (r + 1) := IntWalk.u64_in _ (sq_le (r := r + 1) ⟨by omega, by omega⟩))
    clear r4 hW
    go_enter Try.func11, Try.ntmps11
    go_wp2_with fail
    refine (up_any _).mono ?_
    rintro e w1 ⟨rfl, hb⟩
    have HB1 := Lib.hid hb
    clear hb
    go_wp2_with fail
    refine (delay_Root.calls 33 n r _ HR.out).mono ?_
    rintro e w2 ⟨rfl, hd⟩
    obtain ⟨N, rfl⟩ := hd.out
    clear hd
    go_wp2_with fail
    try
      refine (delay_Pause.calls 33 iv cn p _ hp).mono ?_
      rintro e w3 ⟨rfl, hd⟩
      obtain ⟨N2, rfl⟩ := hd.out
      clear hd
      go_wp2_with fail
      refine (delay_Pause.calls 33 iv (cn + 1) q _ hq).mono ?_
      rintro e w4 ⟨rfl, hd⟩
      obtain ⟨N3, rfl⟩ := hd.out
      clear hd
      go_wp2_with fail
    refine (new_bad tg iv _ H.out).mono ?_
    rintro e w5 ⟨rfl, rfl⟩
    go_wp2_with fail
    go_ret
    exact ⟨rfl, pw_below_drewN HB1.out _⟩

set_option maxRecDepth 100000 in
set_option maxHeartbeats 8000000 in
theorem law_long (A0 : Option Addr) (c0 m : Nat) (n tg iv cn : Int)  (w : World) (hn : 0 ≤ n ∧ n < 18446744073709551616) (hcn : -9223372036854775808 ≤ cn ∧ cn ≤ 9223372036854775807) (gd : good tg iv) (hl : 300 < m) (hm : m ≤ 9223372036854775807) :
    Calls Try.prog 11 #[.int .u64 n, .int .i64 tg, .int .i64 iv, .int .i64 cn, .slice A0 m c0] w fun e w' => e = .returned (.bool true) ∧ Below w.heap.size w w' := by
  have he := Err.eql_err
  have hu := Try.underlying26
  obtain ⟨r, hr, hR⟩ := root_f n hn.1 hn.2
  have HR := Lib.hid hr
  obtain ⟨r1, r2, r3, r4⟩ := hR
  obtain ⟨s1, s2⟩ := sq_le ⟨r1, r2⟩
  have hw1 : IntKind.u64.wrap (r * r) = r * r := IntWalk.u64_in _ ⟨s1, s2⟩
  have hW := Lib.hid (ways iv cn)
  clear hr s1 s2
  have H := Lib.hid gd
  clear gd
  by_cases c4 : r < 4294967295
  all_goals rcases hW.out with hc | hc | ⟨hc1, hc2, p, q, hp, hq, hpq⟩
  all_goals
    (try have r5 := r4 (by assumption))
    (try have hw3 : IntKind.u64.wrap ((r + 1) * (r + 1)) = (r + 1) * (r + 1) := IntWalk.u64_in _ (sq_le (r := r + 1) ⟨by omega, by omega⟩))
    clear r4 hW
    go_enter Try.func11, Try.ntmps11
    go_wp2_with fail
    refine (up_any _).mono ?_
    rintro e w1 ⟨rfl, hb⟩
    have HB1 := Lib.hid hb
    clear hb
    go_wp2_with fail
    refine (delay_Root.calls 33 n r _ HR.out).mono ?_
    rintro e w2 ⟨rfl, hd⟩
    obtain ⟨N, rfl⟩ := hd.out
    clear hd
    go_wp2_with fail
    try
      refine (delay_Pause.calls 33 iv cn p _ hp).mono ?_
      rintro e w3 ⟨rfl, hd⟩
      obtain ⟨N2, rfl⟩ := hd.out
      clear hd
      go_wp2_with fail
      refine (delay_Pause.calls 33 iv (cn + 1) q _ hq).mono ?_
      rintro e w4 ⟨rfl, hd⟩
      obtain ⟨N3, rfl⟩ := hd.out
      clear hd
      go_wp2_with fail
    refine (new_good tg iv w _ (pw_below_drewN HB1.out _) H.out).mono ?_
    rintro e w5 ⟨g, rfl, hI, hB, -, -⟩
    go_wp2_with fail
    go_ret
    exact ⟨rfl, hB⟩

set_option maxRecDepth 100000 in
set_option maxHeartbeats 8000000 in
theorem law_none (A0 : Option Addr) (c0 : Nat) (n tg iv cn : Int)  (w : World) (hn : 0 ≤ n ∧ n < 18446744073709551616) (hcn : -9223372036854775808 ≤ cn ∧ cn ≤ 9223372036854775807) (gd : good tg iv) :
    Calls Try.prog 11 #[.int .u64 n, .int .i64 tg, .int .i64 iv, .int .i64 cn, .slice A0 0 c0] w fun e w' => e = .returned (.bool true) ∧ Below w.heap.size w w' := by
  have he := Err.eql_err
  have hu := Try.underlying26
  obtain ⟨r, hr, hR⟩ := root_f n hn.1 hn.2
  have HR := Lib.hid hr
  obtain ⟨r1, r2, r3, r4⟩ := hR
  obtain ⟨s1, s2⟩ := sq_le ⟨r1, r2⟩
  have hw1 : IntKind.u64.wrap (r * r) = r * r := IntWalk.u64_in _ ⟨s1, s2⟩
  have hW := Lib.hid (ways iv cn)
  clear hr s1 s2
  have H := Lib.hid gd
  clear gd
  by_cases c4 : r < 4294967295
  all_goals rcases hW.out with hc | hc | ⟨hc1, hc2, p, q, hp, hq, hpq⟩
  all_goals
    (try have r5 := r4 (by assumption))
    (try have hw3 : IntKind.u64.wrap ((r + 1) * (r + 1)) = (r + 1) * (r + 1) := IntWalk.u64_in _ (sq_le (r := r + 1) ⟨by omega, by omega⟩))
    clear r4 hW
    go_enter Try.func11, Try.ntmps11
    go_wp2_with fail
    refine (up_any _).mono ?_
    rintro e w1 ⟨rfl, hb⟩
    have HB1 := Lib.hid hb
    clear hb
    go_wp2_with fail
    refine (delay_Root.calls 33 n r _ HR.out).mono ?_
    rintro e w2 ⟨rfl, hd⟩
    obtain ⟨N, rfl⟩ := hd.out
    clear hd
    go_wp2_with fail
    try
      refine (delay_Pause.calls 33 iv cn p _ hp).mono ?_
      rintro e w3 ⟨rfl, hd⟩
      obtain ⟨N2, rfl⟩ := hd.out
      clear hd
      go_wp2_with fail
      refine (delay_Pause.calls 33 iv (cn + 1) q _ hq).mono ?_
      rintro e w4 ⟨rfl, hd⟩
      obtain ⟨N3, rfl⟩ := hd.out
      clear hd
      go_wp2_with fail
    refine (new_good tg iv w _ (pw_below_drewN HB1.out _) H.out).mono ?_
    rintro e w5 ⟨g, rfl, hI, hB, -, -⟩
    have HX := Lib.hid (show Is w w5 g tg iv 0 ∧ Below w.heap.size w w5 from ⟨⟨0, 0, 0, 0, hI, .inl rfl, by omega, by omega, by omega⟩, hB⟩)
    clear hI hB
    go_wp2_with fail
    try clear r5 hw3
    clear hw1 r3
    go_loopw [15] (fun i wr => i = .int .i64 ((0 : Nat) : Int) ∧ Below w.heap.size w wr) (fun i _ => 0)
    case atStart => exact ⟨rfl, HX.out.2⟩
    case round =>
      obtain ⟨rfl, hX⟩ := hrel
      have HX := Lib.hid (show True ∧ Below w.heap.size w wr from ⟨trivial, hX⟩)
      clear hX
      obtain ⟨z, hz⟩ : ∃ z, Hid (delay_Pause.f 33 iv 1 = some z ∧ z = iv) := by
        obtain ⟨z, h1, h2⟩ := pause_f iv 1
        exact ⟨z, Lib.hid ⟨h1, pause_one H.out.2.2 h2⟩⟩
      have hz2 := hz.out.2
      go_wp2_with fail
      refine (delay_Pause.calls 33 iv 1 z _ hz.out.1).mono ?_
      rintro e w9 ⟨rfl, hd⟩
      obtain ⟨N9, rfl⟩ := hd.out
      clear hd
      go_wp2_with fail
      go_ret
      exact ⟨by simp [hz2], pw_below_drewN HX.out.2 _⟩

set_option maxRecDepth 100000 in
set_option maxHeartbeats 8000000 in
theorem law_some (ad : Addr) (c0 : Nat) (n tg iv cn : Int) (l : List (Int × Int)) (w : World) (hn : 0 ≤ n ∧ n < 18446744073709551616) (hcn : -9223372036854775808 ≤ cn ∧ cn ≤ 9223372036854775807) (gd : good tg iv) (hc : ∀ j, j < l.length → ∃ n t, l[j]? = some (n, t) ∧ w.cell? (ad.add (j * 2)) = some (.int .i64 n) ∧ w.cell? (ad.add (j * 2 + 1)) = some (.int .i64 t)) (hl : l.length ≤ 300) :
    Calls Try.prog 11 #[.int .u64 n, .int .i64 tg, .int .i64 iv, .int .i64 cn, .slice (some ad) l.length c0] w fun e w' => e = .returned (.bool true) ∧ Below w.heap.size w w' := by
  have he := Err.eql_err
  have hu := Try.underlying26
  obtain ⟨r, hr, hR⟩ := root_f n hn.1 hn.2
  have HR := Lib.hid hr
  obtain ⟨r1, r2, r3, r4⟩ := hR
  obtain ⟨s1, s2⟩ := sq_le ⟨r1, r2⟩
  have hw1 : IntKind.u64.wrap (r * r) = r * r := IntWalk.u64_in _ ⟨s1, s2⟩
  have hW := Lib.hid (ways iv cn)
  clear hr s1 s2
  have H := Lib.hid gd
  clear gd
  have HC := Lib.hid hc
  clear hc
  by_cases c4 : r < 4294967295
  all_goals rcases hW.out with hc | hc | ⟨hc1, hc2, p, q, hp, hq, hpq⟩
  all_goals
    (try have r5 := r4 (by assumption))
    (try have hw3 : IntKind.u64.wrap ((r + 1) * (r + 1)) = (r + 1) * (r + 1) := IntWalk.u64_in _ (sq_le (r := r + 1) ⟨by omega, by omega⟩))
    clear r4 hW
    go_enter Try.func11, Try.ntmps11
    go_wp2_with fail
    refine (up_any _).mono ?_
    rintro e w1 ⟨rfl, hb⟩
    have HB1 := Lib.hid hb
    clear hb
    go_wp2_with fail
    refine (delay_Root.calls 33 n r _ HR.out).mono ?_
    rintro e w2 ⟨rfl, hd⟩
    obtain ⟨N, rfl⟩ := hd.out
    clear hd
    go_wp2_with fail
    try
      refine (delay_Pause.calls 33 iv cn p _ hp).mono ?_
      rintro e w3 ⟨rfl, hd⟩
      obtain ⟨N2, rfl⟩ := hd.out
      clear hd
      go_wp2_with fail
      refine (delay_Pause.calls 33 iv (cn + 1) q _ hq).mono ?_
      rintro e w4 ⟨rfl, hd⟩
      obtain ⟨N3, rfl⟩ := hd.out
      clear hd
      go_wp2_with fail
    refine (new_good tg iv w _ (pw_below_drewN HB1.out _) H.out).mono ?_
    rintro e w5 ⟨g, rfl, hI, hB, -, -⟩
    have HX := Lib.hid (show Is w w5 g tg iv 0 ∧ Below w.heap.size w w5 from ⟨⟨0, 0, 0, 0, hI, .inl rfl, by omega, by omega, by omega⟩, hB⟩)
    clear hI hB
    go_wp2_with fail
    try clear r5 hw3
    clear hw1 r3
    go_loopw [15] (fun i wr => ∃ (k : Nat) (ct : Int), k ≤ l.length ∧ i = .int .i64 k ∧ Is w wr g tg iv ct ∧ Below w.heap.size w wr) (fun i _ => l.length - (intOf i).toNat)
    case atStart => exact ⟨0, 0, Nat.zero_le _, rfl, HX.out⟩
    case round =>
      obtain ⟨k, ct, hk, rfl, hX⟩ := hrel
      have HX := Lib.hid hX
      clear hX
      by_cases hlt : k < l.length
      · obtain ⟨nw, t, HCW⟩ : ∃ nw t, Hid (∀ w', Below w.heap.size w w' → w'.cell? (ad.add (k * 2)) = some (.int .i64 nw) ∧ w'.cell? { block := (ad.add (k * 2)).block, off := (ad.add (k * 2)).off + 1 } = some (.int .i64 t)) := by
          obtain ⟨nw, t, -, e1, e2⟩ := HC.out k hlt
          exact ⟨nw, t, fun w' hB => ⟨(hB.cell (World.block_lt_of_cell? w _ e1)).trans e1, (congrArg w'.cell? (add_add ad (k * 2) 1)).trans ((hB.cell (World.block_lt_of_cell? w _ e2)).trans e2)⟩⟩
        go_wp2_with fail
        refine (count_any g tg iv ct w _ (by exact HX.out.1) (by exact HX.out.2)).mono ?_
        rintro e w6 ⟨rfl, hI, hB, -⟩
        have HX6 := Lib.hid (show Is w w6 g tg iv ct ∧ Below w.heap.size w w6 from ⟨hI, hB⟩)
        clear hI hB
        have hcc := HCW.out w6 HX6.out.2
        go_wp2_with fail
        go_region_held3 (fun w' => w'.cell? (ad.add (k * 2)) = some (.int .i64 nw) ∧ w'.cell? { block := (ad.add (k * 2)).block, off := (ad.add (k * 2)).off + 1 } = some (.int .i64 t)) (first | exact HCW.out w7 hB7 | exact HCW.out w6 HX6.out.2)
          (first
            | (go_at_call 57; refine (ask_any g tg iv ct nw t w _ H.out (by exact HX6.out.1) (by first | exact HX6.out.2 | exact below_drew HX6.out.2 | exact pw_below_drewN HX6.out.2 _)).mono ?_; rintro e w7 ⟨d, ct', rfl, hI7, hB7, hk7, hd1, hd2⟩))
        have HX7 := Lib.hid (show Is w w7 g tg iv ct' ∧ Below w.heap.size w w7 from ⟨hI7, hB7⟩)
        have hcc7 := HCW.out w7 hB7
        obtain ⟨hcc7, hcc8⟩ := hcc7
        clear hI7 hB7 hk7 hcc
        rcases d with _ | _
        · have hd3 := hd2 rfl
          subst hd3
          clear hd1 hd2
          go_wp2_with fail
          refine (count_any g tg iv ct' w _ (by exact HX7.out.1) (by exact HX7.out.2)).mono ?_
          rintro e w8 ⟨rfl, hI, hB, -⟩
          have HX8 := Lib.hid (show Is w w8 g tg iv ct' ∧ Below w.heap.size w w8 from ⟨hI, hB⟩)
          clear hI hB hcc7 hcc8
          go_wp2_with fail
          go_roundw
          case rel => exact ⟨k + 1, ct', by omega, by go_num, HX8.out⟩
          case measure => simp [intOf]; omega
        · have hd3 := hd1 rfl
          clear hd1 hd2
          go_wp2_with fail
          clear hcc7 hcc8
          go_roundw
          case rel => exact ⟨k + 1, ct', by omega, by go_num, HX7.out⟩
          case measure => simp [intOf]; omega
      · obtain ⟨z, hz⟩ : ∃ z, Hid (delay_Pause.f 33 iv 1 = some z ∧ z = iv) := by
          obtain ⟨z, h1, h2⟩ := pause_f iv 1
          exact ⟨z, Lib.hid ⟨h1, pause_one H.out.2.2 h2⟩⟩
        have hz2 := hz.out.2
        go_wp2_with fail
        refine (delay_Pause.calls 33 iv 1 z _ hz.out.1).mono ?_
        rintro e w9 ⟨rfl, hd⟩
        obtain ⟨N9, rfl⟩ := hd.out
        clear hd
        go_wp2_with fail
        go_ret
        exact ⟨by simp [hz2], pw_below_drewN HX.out.2 _⟩

theorem law_any (A0 : Option Addr) (c0 : Nat) (n tg iv cn : Int) (l : List (Int × Int)) (w : World) (hn : 0 ≤ n ∧ n < 18446744073709551616) (hcn : -9223372036854775808 ≤ cn ∧ cn ≤ 9223372036854775807) (hr : Kd.C KD w A0 l.length l) :
    Calls Try.prog 11 #[.int .u64 n, .int .i64 tg, .int .i64 iv, .int .i64 cn, .slice A0 l.length c0] w fun e w' => e = .returned (.bool true) ∧ Below w.heap.size w w' := by
  by_cases h : good tg iv
  · by_cases hl : l.length ≤ 300
    · rcases C_asks hr with rfl | ⟨ad, rfl, hc⟩
      · exact law_none A0 c0 n tg iv cn w hn hcn h
      · exact law_some ad c0 n tg iv cn l w hn hcn h hc hl
    · exact law_long A0 c0 l.length n tg iv cn w hn hcn h (by omega) hr.2.1
  · exact law_bad A0 c0 l.length n tg iv cn w hn hcn h
end Go.Proofs.Ytjkaldnhfenbhaa.Delay
