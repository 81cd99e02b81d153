/- The walks of layer 23's statements. -/
import Derived.Test.YtjkaldnhfenbhaaFusePure
import Derived.Deep.RegionHeld3
set_option linter.unusedVariables false
set_option linter.unusedSimpArgs false
namespace Go.Proofs.Ytjkaldnhfenbhaa.Fuse
open Go.RowKit Go.Proofs.YtjkaldnhfenbhaaW.PrintWords Go.Proofs.YtjkaldnhfenbhaaW.PrintLast Go.Proofs.Ytjkaldnhfenbhaa.PFusePlays

def f0 (b p : Int) : F := ⟨b, p, 0, 0, 0⟩

set_option maxRecDepth 100000 in
set_option maxHeartbeats 2000000 in
theorem new_good (b p : Int) (w0 w : World) (hB : Below w0.heap.size w0 w) (gd : good b p) :
    Calls Try.prog 35 #[.int .i64 b, .int .i64 p] w fun e w' => ∃ g, e = .returned (.tuple #[.pointer (some ⟨g, 0, none⟩), .nilIface]) ∧ Is w0 w' g (f0 b p) ∧ Below w0.heap.size w0 w' ∧ Below w.heap.size w w' ∧ w.heap.size ≤ g := by
  refine Calls.mono (R := fun e w' => e = .returned (.tuple #[.pointer (some ⟨w.heap.size, 0, none⟩), .nilIface]) ∧ w' = w.alloc (.cells #[.int .i64 b, .int .i64 p, .int .i64 0, .int .i64 0, .int .i64 0] 125)) ?_ (fun e w' ⟨he, hw⟩ => by
    subst hw
    exact ⟨w.heap.size, he, IsS125.new w0 w b p 0 0 0 hB, hB.alloc hB.size _, (Below.refl _ _).alloc (Nat.le_refl _) _, Nat.le_refl _⟩)
  obtain ⟨g1, g2, g3, g4⟩ := gd
  clear hB
  go_enter Try.func35, Try.ntmps35
  go_wp2_with fail
  go_ret2
  exact ⟨rfl, rfl⟩

set_option maxRecDepth 100000 in
set_option maxHeartbeats 2000000 in
theorem new_bad (b p : Int) (w : World) (gd : ¬ good b p) :
    Calls Try.prog 35 #[.int .i64 b, .int .i64 p] w fun e w' => e = .returned (.tuple #[.pointer none, .iface 29 (.int .i64 1)]) ∧ w' = w := by
  by_cases b0 : b < 1
  · clear gd
    go_enter Try.func35, Try.ntmps35
    go_wp2_with fail
    go_ret2
    exact ⟨rfl, rfl⟩
  · by_cases b1 : 1000 < b
    · clear gd
      go_enter Try.func35, Try.ntmps35
      go_wp2_with fail
      go_ret2
      exact ⟨rfl, rfl⟩
    · by_cases b2 : p < 1
      · clear gd
        go_enter Try.func35, Try.ntmps35
        go_wp2_with fail
        go_ret2
        exact ⟨rfl, rfl⟩
      · by_cases b3 : 1000000 < p
        · clear gd
          go_enter Try.func35, Try.ntmps35
          go_wp2_with fail
          go_ret2
          exact ⟨rfl, rfl⟩
        · exact absurd ⟨by omega, by omega, by omega, by omega⟩ gd

set_option maxRecDepth 100000 in
set_option maxHeartbeats 2000000 in
theorem up_any (w : World) : Calls Try.prog 34 #[] w fun e w' => e = .returned (.bool true) ∧ Below w.heap.size w w' := by
  have he := Err.eql_err
  have hu := Try.underlying26
  have G := Lib.hid (show good 1 5 from ⟨by decide, by decide, by decide, by decide⟩)
  obtain ⟨s1, E1⟩ : ∃ s1, Hid (s1 = (⟨1, 5, 1, 1, 0⟩ : F)) := ⟨_, rfl⟩
  obtain ⟨s2, E2⟩ : ∃ s2, Hid (s2 = (⟨1, 5, 2, 1, 0⟩ : F)) := ⟨_, rfl⟩
  have S1 := Lib.hid (show badF (f0 1 5) 0 = s1 by rw [E1.out]; rfl)
  have S2 := Lib.hid (show askF s1 4 = (false, s1) by rw [E1.out]; rfl)
  have S3 := Lib.hid (show askF s1 5 = (true, s2) by rw [E1.out, E2.out]; rfl)
  have S4 := Lib.hid (show askF s2 5 = (false, s2) by rw [E2.out]; rfl)
  have O0 := Lib.hid (show Ok (f0 1 5) from new_ok G.out)
  have O1 := Lib.hid (show Ok s1 by rw [← S1.out]; exact bad_ok _ 0 O0.out)
  have O2 := Lib.hid (show Ok s2 by have := ask_ok s1 5 O1.out; rw [S3.out] at this; exact this)
  have T2 := Lib.hid (show s2.st = 2 by rw [E2.out])
  go_enter Try.func34, Try.ntmps34
  go_wp2_with fail
  refine (new_good 1 5 w w (Below.refl _ _) G.out).mono ?_
  rintro e w1 ⟨g, rfl, hI, hB, -, -⟩
  have HI := Lib.hid hI
  have HB := Lib.hid hB
  clear hI hB
  go_wp2_with fail
  refine (new_bad 0 5 _ (fun h => absurd h.1 (by decide))).mono ?_
  rintro e w2 ⟨rfl, rfl⟩
  go_wp2_with fail
  refine (bad_as g _ 0 s1 w _ S1.out HI.out HB.out O0.out).mono ?_
  rintro e w1 ⟨rfl, hI, hB, -⟩
  have HI := Lib.hid hI
  have HB := Lib.hid hB
  clear hI hB
  go_wp2_with fail
  refine (ask_as g s1 4 false s1 w _ S2.out HI.out HB.out O1.out).mono ?_
  simp only [errA, errW_none, errW_some, if_true, if_false, Bool.false_eq_true]
  rintro e w1 ⟨rfl, hI, hB, -⟩
  have HI := Lib.hid hI
  have HB := Lib.hid hB
  clear hI hB
  go_wp2_with fail
  refine (ask_as g s1 5 true s2 w _ S3.out HI.out HB.out O1.out).mono ?_
  simp only [errA, errW_none, errW_some, if_true, if_false, Bool.false_eq_true]
  rintro e w1 ⟨rfl, hI, hB, -⟩
  have HI := Lib.hid hI
  have HB := Lib.hid hB
  clear hI hB
  go_wp2_with fail
  refine (ask_as g s2 5 false s2 w _ S4.out HI.out HB.out O2.out).mono ?_
  simp only [errA, errW_none, errW_some, if_true, if_false, Bool.false_eq_true]
  rintro e w1 ⟨rfl, hI, hB, -⟩
  have HI := Lib.hid hI
  have HB := Lib.hid hB
  clear hI hB
  go_wp2_with fail
  refine (state_as g s2 w _ HI.out HB.out).mono ?_
  rw [T2.out]
  rintro e w1 ⟨rfl, hI, hB, -⟩
  go_wp2_with fail
  go_ret
  exact ⟨rfl, hB⟩

/-- what both fuses are, deed by deed -/
def Both (w wr : World) (g m : Nat) (s : F) : Prop := Is w wr g s ∧ IsR w wr m s ∧ Below w.heap.size w wr ∧ Ok s
theorem Both.drew {w wr : World} {g m : Nat} {s : F} (H : Both w wr g m s) : Both w wr.drew g m s := ⟨H.1, H.2.1, below_drew H.2.2.1, H.2.2.2⟩
theorem Both.drawn {w wr wr' : World} {g m : Nat} {s : F} (H : Both w wr g m s) (h : Drawn0 wr wr') : Both w wr' g m s := by
  obtain ⟨n, rfl⟩ := h.out
  exact ⟨H.1, H.2.1, pw_below_drewN H.2.2.1 n, H.2.2.2⟩

/-- a slice of deeds: its kind -/
abbrev KD : Kd (Int × Int) := Kd.pair (Kd.int .i64) (Kd.int .i64)
theorem C_deeds {w : World} {A : Option Addr} {l : List (Int × Int)} (h : Kd.C KD w A l.length l) : l = [] ∨ ∃ ad, A = some ad ∧ ∀ j, j < l.length → ∃ n t, l[j]? = some (n, t) ∧ w.cell? (ad.add (j * 2)) = some (.int .i64 n) ∧ w.cell? (ad.add (j * 2 + 1)) = some (.int .i64 t) := by
  by_cases hn : 0 < l.length
  · right
    obtain ⟨_, _, h3⟩ := h
    obtain ⟨ad, e, hc⟩ := h3 hn
    refine ⟨ad, e, fun j hj => ?_⟩
    obtain ⟨cs, _, hk, hcell⟩ := hc j l[j] (by simp [hj])
    obtain ⟨c3, c4, rfl, hk3, hk4⟩ := hk
    obtain rfl : c3 = [.int .i64 l[j].1] := hk3
    obtain rfl : c4 = [.int .i64 l[j].2] := hk4
    exact ⟨l[j].1, l[j].2, by simp [hj], hcell 0 _ rfl, hcell 1 _ rfl⟩
  · left
    exact List.length_eq_zero_iff.1 (by omega)

set_option maxRecDepth 100000 in
set_option maxHeartbeats 2000000 in
theorem plays_bad (A0 : Option Addr) (c0 n : Nat) (b p : Int) (w : World) (gd : ¬ good b p) :
    Calls Try.prog 7 #[.int .i64 b, .int .i64 p, .slice A0 n c0] w fun e w' => e = .returned (.bool true) ∧ Below w.heap.size w w' := by
  have he := Err.eql_err
  have hu := Try.underlying26
  have H := Lib.hid gd
  clear gd
  go_enter Try.func7, Try.ntmps7
  go_wp2_with fail
  refine (up_any _).mono ?_
  rintro e w1 ⟨rfl, hb⟩
  have HI := Lib.hid (IsS63.new w w1 b p 0 0 0 hb)
  have HB := Lib.hid (hb.alloc hb.size (.cells #[.int .i64 b, .int .i64 p, .int .i64 0, .int .i64 0, .int .i64 0] 63))
  clear hb
  go_wp2_with fail
  refine (new_bad b p _ H.out).mono ?_
  rintro e w2 ⟨rfl, hw2⟩
  subst hw2
  go_wp2_with fail
  refine (goodR_no _ b p 0 0 0 w _ HI.out HB.out H.out).mono ?_
  rintro e w3 ⟨rfl, hI, hB, -⟩
  go_wp2_with fail
  go_ret
  exact ⟨rfl, hB⟩

set_option maxRecDepth 100000 in
set_option maxHeartbeats 2000000 in
theorem plays_long (A0 : Option Addr) (c0 n : Nat) (b p : Int) (w : World) (gd : good b p) (hl : 2000 < n) (hm : n ≤ 9223372036854775807) :
    Calls Try.prog 7 #[.int .i64 b, .int .i64 p, .slice A0 n c0] w fun e w' => e = .returned (.bool true) ∧ Below w.heap.size w w' := by
  have he := Err.eql_err
  have hu := Try.underlying26
  have H := Lib.hid gd
  clear gd
  go_enter Try.func7, Try.ntmps7
  go_wp2_with fail
  refine (up_any _).mono ?_
  rintro e w1 ⟨rfl, hb⟩
  have HI := Lib.hid (IsS63.new w w1 b p 0 0 0 hb)
  have HB := Lib.hid (hb.alloc hb.size (.cells #[.int .i64 b, .int .i64 p, .int .i64 0, .int .i64 0, .int .i64 0] 63))
  clear hb
  go_wp2_with fail
  refine (new_good b p w _ HB.out H.out).mono ?_
  rintro e w2 ⟨g, rfl, hs, hb2, hbw, -⟩
  have HI := Lib.hid (IsS63.below HI.out hbw)
  have HB := Lib.hid hb2
  clear hs hb2 hbw
  go_wp2_with fail
  refine (goodR_yes _ b p 0 0 0 w _ HI.out HB.out H.out).mono ?_
  rintro e w3 ⟨rfl, hI, hB, -⟩
  go_wp2_with fail
  go_ret
  exact ⟨rfl, hB⟩

set_option maxRecDepth 100000 in
set_option maxHeartbeats 4000000 in
theorem plays_some (ad : Addr) (c0 : Nat) (b p : Int) (l : List (Int × Int)) (w : World) (gd : good b p) (hc : ∀ j, j < l.length → ∃ n t, l[j]? = some (n, t) ∧ w.cell? (ad.add (j * 2)) = some (.int .i64 n) ∧ w.cell? (ad.add (j * 2 + 1)) = some (.int .i64 t)) (hl : l.length ≤ 2000) :
    Calls Try.prog 7 #[.int .i64 b, .int .i64 p, .slice (some ad) l.length c0] w fun e w' => e = .returned (.bool true) ∧ Below w.heap.size w w' := by
  have he := Err.eql_err
  have hne := Err.neq_err
  have hu := Try.underlying26
  have H := Lib.hid gd
  have HR := Lib.hid hc
  clear gd hc
  go_enter Try.func7, Try.ntmps7
  go_wp2_with fail
  refine (up_any _).mono ?_
  rintro e w1 ⟨rfl, hb⟩
  have HI := Lib.hid (IsS63.new w w1 b p 0 0 0 hb)
  have HB := Lib.hid (hb.alloc hb.size (.cells #[.int .i64 b, .int .i64 p, .int .i64 0, .int .i64 0, .int .i64 0] 63))
  clear hb
  go_wp2_with fail
  refine (new_good b p w _ HB.out H.out).mono ?_
  rintro e w2 ⟨g, rfl, hs, hb2, hbw, hge⟩
  have HI := Lib.hid (IsS63.below HI.out hbw)
  have HB := Lib.hid hb2
  have HN := Lib.hid (show g ≠ w1.heap.size from (Nat.ne_of_lt (Nat.lt_of_lt_of_le (blk_lt (blk_new w1 _)) hge)).symm)
  have HS := Lib.hid hs
  clear hs hb2 hbw hge
  go_wp2_with fail
  refine (goodR_yes _ b p 0 0 0 w _ HI.out HB.out H.out).mono ?_
  rintro e w3 ⟨rfl, hI, hB, hk⟩
  have HX := Lib.hid (show Both w w3 g w1.heap.size (f0 b p) from ⟨Is.keep HS.out hk HN.out, hI, hB, new_ok H.out⟩)
  clear hI hB hk
  go_wp2_with fail
  clear HI HB HS
  go_loopw [11] (fun i wr => ∃ (k : Nat) (s : F), k ≤ l.length ∧ i = .int .i64 k ∧ Both w wr g w1.heap.size s) (fun i _ => l.length - (intOf i).toNat)
  case atStart => exact ⟨0, _, Nat.zero_le _, rfl, HX.out⟩
  case round =>
    obtain ⟨k, s, hk, rfl, hX⟩ := hrel
    have HX := Lib.hid hX
    clear hX
    by_cases hlt : k < l.length
    · obtain ⟨n, t, HCW⟩ : ∃ n t, Hid (∀ w', Below w.heap.size w w' → w'.cell? (ad.add (k * 2)) = some (.int .i64 n) ∧ w'.cell? { block := (ad.add (k * 2)).block, off := (ad.add (k * 2)).off + 1 } = some (.int .i64 t)) := by
        obtain ⟨n, t, -, e1, e2⟩ := HR.out k hlt
        exact ⟨n, t, fun w' hB => ⟨(hB.cell (World.block_lt_of_cell? w _ e1)).trans e1, (congrArg w'.cell? (add_add ad (k * 2) 1)).trans ((hB.cell (World.block_lt_of_cell? w _ e2)).trans e2)⟩⟩
      obtain ⟨v, EV⟩ : ∃ v, Hid (nogginlaw23_pick.f n 3 = some v) := ⟨_, Lib.hid (pick_f n)⟩
      obtain ⟨hcell, -⟩ := HCW.out wr HX.out.2.2.1
      by_cases v0 : v = 0
      · subst v0
        obtain ⟨r, s', ET⟩ : ∃ r s', Hid (askF s t = (r, s')) := ⟨_, _, rfl⟩
        have HO := Lib.hid (ask_ok s t HX.out.2.2.2)
        rw [ET.out] at HO
        go_wp2_with fail
        refine (nogginlaw23_pick.calls n 3 0 _ EV.out).mono ?_
        rintro e w4 ⟨rfl, hd⟩
        have HX4 := Lib.hid (show Both w w4 g w1.heap.size s from HX.out.drawn hd)
        clear hd hcell
        obtain ⟨-, hcell1⟩ := HCW.out w4 HX4.out.2.2.1
        rcases r with _ | _
        all_goals
          go_wp2_with fail
          refine (ask_as g s t _ s' w _ ET.out (by exact HX4.out.1) (by exact HX4.out.2.2.1) HX4.out.2.2.2).mono ?_
          simp only [errA, errW_none, errW_some, if_true, if_false, Bool.false_eq_true]
          rintro e w5 ⟨rfl, hI5, hB5, hk5⟩
          have HI5 := Lib.hid hI5
          have HB5 := Lib.hid hB5
          have HM5 := Lib.hid (show IsR w w5 w1.heap.size s from IsR.keep HX4.out.2.1 hk5 HN.out.symm)
          clear hI5 hB5 hk5 hcell1
          obtain ⟨-, hcell1⟩ := HCW.out w5 HB5.out
          go_wp2_with fail
          refine (askR_as w1.heap.size s t _ s' w _ ET.out (by exact HM5.out) (by exact HB5.out) HX4.out.2.2.2).mono ?_
          rintro e w6 ⟨rfl, hI6, hB6, hk6⟩
          have HY := Lib.hid (show Both w w6 g w1.heap.size s' from ⟨Is.keep HI5.out hk6 HN.out, hI6, hB6, HO.out⟩)
          clear hI6 hB6 hk6 hcell1
          have hcs := (blk_cell HY.out.2.1.1 2).trans rfl
          have hcs2 := hcs
          go_wp2_with fail
          go_region_held3 (fun w' => w'.cell? ⟨w1.heap.size, 2, none⟩ = some (.int .i64 s'.st)) (first | exact hcs | exact hcs7)
            (first
              | (go_at_call 44; refine (state_as g s' w _ (by exact HY.out.1) (by first | exact HY.out.2.2.1 | exact below_drew HY.out.2.2.1 | exact pw_below_drewN HY.out.2.2.1 _)).mono ?_; rintro e w7 ⟨rfl, hI7, hB7, hk7⟩; have hr7 := IsR.keep HY.out.2.1 hk7 HN.out.symm; have hcs7 := (blk_cell hr7.1 2).trans rfl))
          have HZ := Lib.hid (show Both w w7 g w1.heap.size s' from ⟨hI7, hr7, hB7, HY.out.2.2.2⟩)
          clear hI7 hB7 hk7 hr7 hcs hcs2 hcs7
          go_wp2_with fail
          go_roundw
          case rel => exact ⟨k + 1, s', by omega, by go_num, HZ.out⟩
          case measure => simp [intOf]; omega
      · by_cases v1 : v = 1
        · subst v1
          obtain ⟨s', ET⟩ : ∃ s', Hid (goodF s = s') := ⟨_, rfl⟩
          have HO := Lib.hid (good_ok s HX.out.2.2.2)
          rw [ET.out] at HO
          go_wp2_with fail
          refine (nogginlaw23_pick.calls n 3 1 _ EV.out).mono ?_
          rintro e w4 ⟨rfl, hd⟩
          have HX4 := Lib.hid (show Both w w4 g w1.heap.size s from HX.out.drawn hd)
          clear hd hcell
          go_wp2_with fail
          refine (good_as g s w _ (by exact HX4.out.1) (by exact HX4.out.2.2.1)).mono ?_
          rw [ET.out]
          rintro e w5 ⟨rfl, hI5, hB5, hk5⟩
          have HI5 := Lib.hid hI5
          have HB5 := Lib.hid hB5
          have HM5 := Lib.hid (show IsR w w5 w1.heap.size s from IsR.keep HX4.out.2.1 hk5 HN.out.symm)
          clear hI5 hB5 hk5
          go_wp2_with fail
          refine (well_as w1.heap.size s w _ (by exact HM5.out) (by exact HB5.out)).mono ?_
          rw [ET.out]
          rintro e w6 ⟨rfl, hI6, hB6, hk6⟩
          have HY := Lib.hid (show Both w w6 g w1.heap.size s' from ⟨Is.keep HI5.out hk6 HN.out, hI6, hB6, HO.out⟩)
          clear hI6 hB6 hk6
          have hcs := (blk_cell HY.out.2.1.1 2).trans rfl
          have hcs2 := hcs
          go_wp2_with fail
          go_region_held3 (fun w' => w'.cell? ⟨w1.heap.size, 2, none⟩ = some (.int .i64 s'.st)) (first | exact hcs | exact hcs7)
            (first
              | (go_at_call 44; refine (state_as g s' w _ (by exact HY.out.1) (by first | exact HY.out.2.2.1 | exact below_drew HY.out.2.2.1 | exact pw_below_drewN HY.out.2.2.1 _)).mono ?_; rintro e w7 ⟨rfl, hI7, hB7, hk7⟩; have hr7 := IsR.keep HY.out.2.1 hk7 HN.out.symm; have hcs7 := (blk_cell hr7.1 2).trans rfl))
          have HZ := Lib.hid (show Both w w7 g w1.heap.size s' from ⟨hI7, hr7, hB7, HY.out.2.2.2⟩)
          clear hI7 hB7 hk7 hr7 hcs hcs2 hcs7
          go_wp2_with fail
          go_roundw
          case rel => exact ⟨k + 1, s', by omega, by go_num, HZ.out⟩
          case measure => simp [intOf]; omega
        · obtain ⟨s', ET⟩ : ∃ s', Hid (badF s t = s') := ⟨_, rfl⟩
          have HO := Lib.hid (bad_ok s t HX.out.2.2.2)
          rw [ET.out] at HO
          have b0 : (v == 0) = false := beq_eq_false_iff_ne.2 v0
          have b1 : (v == 1) = false := beq_eq_false_iff_ne.2 v1
          go_wp2_with fail
          refine (nogginlaw23_pick.calls n 3 v _ EV.out).mono ?_
          rintro e w4 ⟨rfl, hd⟩
          have HX4 := Lib.hid (show Both w w4 g w1.heap.size s from HX.out.drawn hd)
          clear hd hcell
          obtain ⟨-, hcell1⟩ := HCW.out w4 HX4.out.2.2.1
          go_wp2_with fail
          refine (bad_as g s t s' w _ ET.out (by exact HX4.out.1) (by exact HX4.out.2.2.1) HX4.out.2.2.2).mono ?_
          rintro e w5 ⟨rfl, hI5, hB5, hk5⟩
          have HI5 := Lib.hid hI5
          have HB5 := Lib.hid hB5
          have HM5 := Lib.hid (show IsR w w5 w1.heap.size s from IsR.keep HX4.out.2.1 hk5 HN.out.symm)
          clear hI5 hB5 hk5 hcell1
          obtain ⟨-, hcell1⟩ := HCW.out w5 HB5.out
          go_wp2_with fail
          refine (badR_as w1.heap.size s t s' w _ ET.out (by exact HM5.out) (by exact HB5.out) HX4.out.2.2.2).mono ?_
          rintro e w6 ⟨rfl, hI6, hB6, hk6⟩
          have HY := Lib.hid (show Both w w6 g w1.heap.size s' from ⟨Is.keep HI5.out hk6 HN.out, hI6, hB6, HO.out⟩)
          clear hI6 hB6 hk6 hcell1
          have hcs := (blk_cell HY.out.2.1.1 2).trans rfl
          have hcs2 := hcs
          go_wp2_with fail
          go_region_held3 (fun w' => w'.cell? ⟨w1.heap.size, 2, none⟩ = some (.int .i64 s'.st)) (first | exact hcs | exact hcs7)
            (first
              | (go_at_call 44; refine (state_as g s' w _ (by exact HY.out.1) (by first | exact HY.out.2.2.1 | exact below_drew HY.out.2.2.1 | exact pw_below_drewN HY.out.2.2.1 _)).mono ?_; rintro e w7 ⟨rfl, hI7, hB7, hk7⟩; have hr7 := IsR.keep HY.out.2.1 hk7 HN.out.symm; have hcs7 := (blk_cell hr7.1 2).trans rfl))
          have HZ := Lib.hid (show Both w w7 g w1.heap.size s' from ⟨hI7, hr7, hB7, HY.out.2.2.2⟩)
          clear hI7 hB7 hk7 hr7 hcs hcs2 hcs7
          go_wp2_with fail
          go_roundw
          case rel => exact ⟨k + 1, s', by omega, by go_num, HZ.out⟩
          case measure => simp [intOf]; omega
    · go_wp2_with fail
      go_ret
      exact ⟨rfl, HX.out.2.2.1⟩

set_option maxRecDepth 100000 in
set_option maxHeartbeats 4000000 in
theorem plays_none (A0 : Option Addr) (c0 : Nat) (b p : Int) (w : World) (gd : good b p) :
    Calls Try.prog 7 #[.int .i64 b, .int .i64 p, .slice A0 0 c0] w fun e w' => e = .returned (.bool true) ∧ Below w.heap.size w w' := by
  have he := Err.eql_err
  have hu := Try.underlying26
  have H := Lib.hid gd
  clear gd
  go_enter Try.func7, Try.ntmps7
  go_wp2_with fail
  refine (up_any _).mono ?_
  rintro e w1 ⟨rfl, hb⟩
  have HI := Lib.hid (IsS63.new w w1 b p 0 0 0 hb)
  have HB := Lib.hid (hb.alloc hb.size (.cells #[.int .i64 b, .int .i64 p, .int .i64 0, .int .i64 0, .int .i64 0] 63))
  clear hb
  go_wp2_with fail
  refine (new_good b p w _ HB.out H.out).mono ?_
  rintro e w2 ⟨g, rfl, hs, hb2, hbw, hge⟩
  have HI := Lib.hid (IsS63.below HI.out hbw)
  have HB := Lib.hid hb2
  have HN := Lib.hid (show g ≠ w1.heap.size from (Nat.ne_of_lt (Nat.lt_of_lt_of_le (blk_lt (blk_new w1 _)) hge)).symm)
  have HS := Lib.hid hs
  clear hs hb2 hbw hge
  go_wp2_with fail
  refine (goodR_yes _ b p 0 0 0 w _ HI.out HB.out H.out).mono ?_
  rintro e w3 ⟨rfl, hI, hB, hk⟩
  have HX := Lib.hid (show Both w w3 g w1.heap.size (f0 b p) from ⟨Is.keep HS.out hk HN.out, hI, hB, new_ok H.out⟩)
  clear hI hB hk
  go_wp2_with fail
  clear HI HB HS
  go_loopw [11] (fun i wr => i = .int .i64 ((0 : Nat) : Int) ∧ Below w.heap.size w wr) (fun i _ => 0)
  case atStart => exact ⟨rfl, HX.out.2.2.1⟩
  case round =>
    obtain ⟨rfl, hX⟩ := hrel
    go_wp2_with fail
    go_ret
    exact ⟨rfl, hX⟩

theorem plays_any (A0 : Option Addr) (c0 : Nat) (b p : Int) (l : List (Int × Int)) (w : World) (hr : Kd.C KD w A0 l.length l) :
    Calls Try.prog 7 #[.int .i64 b, .int .i64 p, .slice A0 l.length c0] w fun e w' => e = .returned (.bool true) ∧ Below w.heap.size w w' := by
  by_cases h : good b p
  · by_cases hl : l.length ≤ 2000
    · rcases C_deeds hr with rfl | ⟨ad, rfl, hc⟩
      · exact plays_none A0 c0 b p w h
      · exact plays_some ad c0 b p l w h hc hl
    · exact plays_long A0 c0 l.length b p w h (by omega) hr.2.1
  · exact plays_bad A0 c0 l.length b p w h
end Go.Proofs.Ytjkaldnhfenbhaa.Fuse
