/- The walks of layer 19's statements. -/
import Derived.Test.YtjkaldnhfenbhaaMarkW
import Derived.Deep.RegionHeld3
set_option linter.unusedVariables false
namespace Go.Proofs.Ytjkaldnhfenbhaa.Mark
open Go.RowKit Go.Proofs.YtjkaldnhfenbhaaW.PrintWords Go.Proofs.YtjkaldnhfenbhaaW.PrintLast Go.Proofs.Ytjkaldnhfenbhaa.PMarkTells

def good (la id : Int) : Prop := 0 ≤ la ∧ la ≤ 1099511627776 ∧ 1 ≤ id ∧ id ≤ 1099511627776
def m0 (la id : Int) : M := ⟨la, id, false, 0, 0, 0⟩
theorem m0_ok {la id : Int} (h : good la id) : Ok (m0 la id) := ⟨h.1, h.2.1, h.2.2.1, h.2.2.2, by simp [m0], by simp [m0], by simp [m0], by simp [m0], by simp [m0]⟩

set_option maxRecDepth 100000 in
set_option maxHeartbeats 2000000 in
theorem new_good (la id : Int) (w0 w : World) (hB : Below w0.heap.size w0 w) (gd : good la id) :
    Calls Try.prog 16 #[.int .i64 la, .int .i64 id] w fun e w' => ∃ g, e = .returned (.tuple #[.pointer (some ⟨g, 0, none⟩), .nilIface]) ∧ Is w0 w' g (m0 la id) ∧ Below w0.heap.size w0 w' ∧ Below w.heap.size w w' ∧ w.heap.size ≤ g := by
  refine Calls.mono (R := fun e w' => e = .returned (.tuple #[.pointer (some ⟨w.heap.size, 0, none⟩), .nilIface]) ∧ w' = w.alloc (.cells #[.int .i64 la, .int .i64 id, .bool false, .int .i64 0, .int .i64 0, .int .i64 0] 119)) ?_ (fun e w' ⟨he, hw⟩ => by
    subst hw
    exact ⟨w.heap.size, he, IsS119.new w0 w la id false 0 0 0 hB, hB.alloc hB.size _, (Below.refl _ _).alloc (Nat.le_refl _) _, Nat.le_refl _⟩)
  obtain ⟨g1, g2, g3, g4⟩ := gd
  clear hB
  go_enter Try.func16, Try.ntmps16
  go_wp2_with fail
  go_ret2
  exact ⟨rfl, rfl⟩

set_option maxRecDepth 100000 in
set_option maxHeartbeats 2000000 in
theorem new_bad (la id : Int) (w : World) (gd : ¬ good la id) :
    Calls Try.prog 16 #[.int .i64 la, .int .i64 id] w fun e w' => e = .returned (.tuple #[.pointer none, .iface 29 (.int .i64 1)]) ∧ w' = w := by
  by_cases b0 : la < 0
  · clear gd
    go_enter Try.func16, Try.ntmps16
    go_wp2_with fail
    go_ret2
    exact ⟨rfl, rfl⟩
  · by_cases b1 : 1099511627776 < la
    · clear gd
      go_enter Try.func16, Try.ntmps16
      go_wp2_with fail
      go_ret2
      exact ⟨rfl, rfl⟩
    · by_cases b2 : id < 1
      · clear gd
        go_enter Try.func16, Try.ntmps16
        go_wp2_with fail
        go_ret2
        exact ⟨rfl, rfl⟩
      · by_cases b3 : 1099511627776 < id
        · clear gd
          go_enter Try.func16, Try.ntmps16
          go_wp2_with fail
          go_ret2
          exact ⟨rfl, rfl⟩
        · exact absurd ⟨by omega, by omega, by omega, by omega⟩ gd

theorem see_as (g : Nat) (s : M) (now time : Int) (b : Bool) (s' : M) (w0 w : World) (E : seeM s now time = (b, s')) (hI : Is w0 w g s) (hB : Below w0.heap.size w0 w) (ok : Ok s) :
    Calls Try.prog 19 #[.pointer (some ⟨g, 0, none⟩), .int .i64 now, .int .i64 time] w (Ends w0 w g (b, s')) := by
  have := see_any g s now time w0 w hI hB ok
  rwa [E] at this
theorem seeR_as (g : Nat) (s : M) (now time : Int) (b : Bool) (s' : M) (w0 w : World) (E : seeM s now time = (b, s')) (hI : IsR w0 w g s) (hB : Below w0.heap.size w0 w) (ok : Ok s) :
    Calls Try.prog 20 #[.pointer (some ⟨g, 0, none⟩), .int .i64 now, .int .i64 time] w (EndsR w0 w g (b, s')) := by
  have := seeR_any g s now time w0 w hI hB ok
  rwa [E] at this
theorem tick_as (g : Nat) (s : M) (now : Int) (b : Bool) (s' : M) (w0 w : World) (E : tickM s now = (b, s')) (hI : Is w0 w g s) (hB : Below w0.heap.size w0 w) (ok : Ok s) :
    Calls Try.prog 17 #[.pointer (some ⟨g, 0, none⟩), .int .i64 now] w (Ends w0 w g (b, s')) := by
  have := tick_any g s now w0 w hI hB ok
  rwa [E] at this
theorem tickR_as (g : Nat) (s : M) (now : Int) (b : Bool) (s' : M) (w0 w : World) (E : tickM s now = (b, s')) (hI : IsR w0 w g s) (hB : Below w0.heap.size w0 w) (ok : Ok s) :
    Calls Try.prog 18 #[.pointer (some ⟨g, 0, none⟩), .int .i64 now] w (EndsR w0 w g (b, s')) := by
  have := tickR_any g s now w0 w hI hB ok
  rwa [E] at this

set_option maxRecDepth 100000 in
set_option maxHeartbeats 2000000 in
theorem up_any (w : World) : Calls Try.prog 15 #[] w fun e w' => e = .returned (.bool true) ∧ Below w.heap.size w w' := by
  have he := Err.eql_err
  have hu := Try.underlying26
  have G := Lib.hid (show good 5 10 from ⟨by decide, by decide, by decide, by decide⟩)
  obtain ⟨s1, E1⟩ : ∃ s1, Hid (s1 = (⟨5, 10, true, 20, 0, 0⟩ : M)) := ⟨_, rfl⟩
  obtain ⟨s2, E2⟩ : ∃ s2, Hid (s2 = (⟨5, 10, true, 30, 0, 10⟩ : M)) := ⟨_, rfl⟩
  have S1 := Lib.hid (show seeM (m0 5 10) 0 20 = (true, s1) by rw [E1.out]; rfl)
  have S2 := Lib.hid (show tickM s1 10 = (true, s2) by rw [E1.out, E2.out]; rfl)
  have O1 := Lib.hid (show Ok s1 by rw [E1.out]; exact ⟨by decide, by decide, by decide, by decide, by decide, by decide, by decide, by decide, by decide⟩)
  have O2 := Lib.hid (show Ok s2 by rw [E2.out]; exact ⟨by decide, by decide, by decide, by decide, by decide, by decide, by decide, by decide, by decide⟩)
  have A1 := Lib.hid (show atM s1 = 15 by rw [E1.out]; decide)
  have A2 := Lib.hid (show atM s2 = 25 by rw [E2.out]; decide)
  go_enter Try.func15, Try.ntmps15
  go_wp2_with fail
  refine (new_good 5 10 w w (Below.refl _ _) G.out).mono ?_
  rintro e w1 ⟨g, rfl, hI, hB, -, -⟩
  have HI := Lib.hid hI
  have HB := Lib.hid hB
  clear hI hB
  go_wp2_with fail
  refine (new_bad (-1) 10 _ (fun h => absurd h.1 (by decide))).mono ?_
  rintro e w2 ⟨rfl, rfl⟩
  go_wp2_with fail
  refine (see_as g _ 0 20 true s1 w _ S1.out HI.out HB.out (m0_ok G.out)).mono ?_
  rintro e w1 ⟨rfl, hI, hB, -⟩
  have HI := Lib.hid hI
  have HB := Lib.hid hB
  clear hI hB
  go_wp2_with fail
  refine (at_any g s1 w _ HI.out HB.out O1.out).mono ?_
  rw [A1.out]
  rintro e w1 ⟨rfl, hI, hB, -⟩
  have HI := Lib.hid hI
  have HB := Lib.hid hB
  clear hI hB
  go_wp2_with fail
  refine (tick_as g _ 10 true s2 w _ S2.out HI.out HB.out O1.out).mono ?_
  rintro e w1 ⟨rfl, hI, hB, -⟩
  have HI := Lib.hid hI
  have HB := Lib.hid hB
  clear hI hB
  go_wp2_with fail
  refine (at_any g s2 w _ HI.out HB.out O2.out).mono ?_
  rw [A2.out]
  rintro e w1 ⟨rfl, hI, hB, -⟩
  go_wp2_with fail
  go_ret
  exact ⟨rfl, hB⟩

/-- what both marks are, deed by deed -/
def Both (w wr : World) (g m : Nat) (s : M) : Prop := Is w wr g s ∧ IsR w wr m s ∧ Below w.heap.size w wr ∧ Ok s
theorem Both.drew {w wr : World} {g m : Nat} {s : M} (H : Both w wr g m s) : Both w wr.drew g m s := ⟨H.1, H.2.1, below_drew H.2.2.1, H.2.2.2⟩

/-- a slice of deeds: its kind -/
abbrev KD : Kd (Bool × Int × Int) := Kd.pair Kd.bool (Kd.pair (Kd.int .i64) (Kd.int .i64))
theorem C_deeds {w : World} {A : Option Addr} {l : List (Bool × Int × Int)} (h : Kd.C KD w A l.length l) : l = [] ∨ ∃ ad, A = some ad ∧ ∀ j, j < l.length → ∃ b n t, l[j]? = some (b, n, t) ∧ w.cell? (ad.add (j * 3)) = some (.bool b) ∧ w.cell? (ad.add (j * 3 + 1)) = some (.int .i64 n) ∧ w.cell? (ad.add (j * 3 + 2)) = some (.int .i64 t) := by
  by_cases hn : 0 < l.length
  · right
    obtain ⟨_, _, h3⟩ := h
    obtain ⟨ad, e, hc⟩ := h3 hn
    refine ⟨ad, e, fun j hj => ?_⟩
    obtain ⟨cs, _, hk, hcell⟩ := hc j l[j] (by simp [hj])
    obtain ⟨c1, c2, rfl, hk1, c3, c4, rfl, hk3, hk4⟩ := hk
    obtain rfl : c1 = [.bool l[j].1] := hk1
    obtain rfl : c3 = [.int .i64 l[j].2.1] := hk3
    obtain rfl : c4 = [.int .i64 l[j].2.2] := hk4
    exact ⟨l[j].1, l[j].2.1, l[j].2.2, by simp [hj], hcell 0 _ rfl, hcell 1 _ rfl, hcell 2 _ rfl⟩
  · left
    exact List.length_eq_zero_iff.1 (by omega)

set_option maxRecDepth 100000 in
set_option maxHeartbeats 2000000 in
theorem tells_bad (A0 : Option Addr) (c0 n : Nat) (la id : Int) (w : World) (gd : ¬ good la id) :
    Calls Try.prog 3 #[.int .i64 la, .int .i64 id, .slice A0 n c0] w fun e w' => e = .returned (.bool true) ∧ Below w.heap.size w w' := by
  have he := Err.eql_err
  have hu := Try.underlying26
  by_cases b0 : la < 0
  · have H := Lib.hid gd
    clear gd
    go_enter Try.func3, Try.ntmps3
    go_wp2_with fail
    refine (up_any _).mono ?_
    rintro e w1 ⟨rfl, hb⟩
    go_wp2_with fail
    refine (new_bad la id _ H.out).mono ?_
    rintro e w2 ⟨rfl, rfl⟩
    go_wp2_with fail
    go_ret
    exact ⟨rfl, hb⟩
  · by_cases b1 : 1099511627776 < la
    · have H := Lib.hid gd
      clear gd
      go_enter Try.func3, Try.ntmps3
      go_wp2_with fail
      refine (up_any _).mono ?_
      rintro e w1 ⟨rfl, hb⟩
      go_wp2_with fail
      refine (new_bad la id _ H.out).mono ?_
      rintro e w2 ⟨rfl, rfl⟩
      go_wp2_with fail
      go_ret
      exact ⟨rfl, hb⟩
    · by_cases b2 : id < 1
      · have H := Lib.hid gd
        clear gd
        go_enter Try.func3, Try.ntmps3
        go_wp2_with fail
        refine (up_any _).mono ?_
        rintro e w1 ⟨rfl, hb⟩
        go_wp2_with fail
        refine (new_bad la id _ H.out).mono ?_
        rintro e w2 ⟨rfl, rfl⟩
        go_wp2_with fail
        go_ret
        exact ⟨rfl, hb⟩
      · by_cases b3 : 1099511627776 < id
        · have H := Lib.hid gd
          clear gd
          go_enter Try.func3, Try.ntmps3
          go_wp2_with fail
          refine (up_any _).mono ?_
          rintro e w1 ⟨rfl, hb⟩
          go_wp2_with fail
          refine (new_bad la id _ H.out).mono ?_
          rintro e w2 ⟨rfl, rfl⟩
          go_wp2_with fail
          go_ret
          exact ⟨rfl, hb⟩
        · exact absurd ⟨by omega, by omega, by omega, by omega⟩ gd

set_option maxRecDepth 100000 in
set_option maxHeartbeats 2000000 in
theorem tells_long (A0 : Option Addr) (c0 n : Nat) (la id : Int) (w : World) (gd : good la id) (hl : 300 < n) (hm : n ≤ 9223372036854775807) :
    Calls Try.prog 3 #[.int .i64 la, .int .i64 id, .slice A0 n c0] w fun e w' => e = .returned (.bool true) ∧ Below w.heap.size w w' := by
  have he := Err.eql_err
  have hu := Try.underlying26
  have H := Lib.hid gd
  obtain ⟨g1, g2, g3, g4⟩ := gd
  go_enter Try.func3, Try.ntmps3
  go_wp2_with fail
  refine (up_any _).mono ?_
  rintro e w1 ⟨rfl, hb⟩
  go_wp2_with fail
  refine (new_good la id w _ hb H.out).mono ?_
  rintro e w2 ⟨g, rfl, hs, hb2, -, -⟩
  go_wp2_with fail
  go_ret
  exact ⟨rfl, hb2⟩

set_option maxRecDepth 100000 in
set_option maxHeartbeats 4000000 in
theorem tells_some (ad : Addr) (c0 : Nat) (la id : Int) (l : List (Bool × Int × Int)) (w : World) (gd : good la id) (hc : ∀ j, j < l.length → ∃ b n t, l[j]? = some (b, n, t) ∧ w.cell? (ad.add (j * 3)) = some (.bool b) ∧ w.cell? (ad.add (j * 3 + 1)) = some (.int .i64 n) ∧ w.cell? (ad.add (j * 3 + 2)) = some (.int .i64 t)) (hl : l.length ≤ 300) :
    Calls Try.prog 3 #[.int .i64 la, .int .i64 id, .slice (some ad) l.length c0] w fun e w' => e = .returned (.bool true) ∧ Below w.heap.size w w' := by
  have he := Err.eql_err
  have hu := Try.underlying26
  have H := Lib.hid gd
  have HR := Lib.hid hc
  obtain ⟨g1, g2, g3, g4⟩ := gd
  clear hc
  go_enter Try.func3, Try.ntmps3
  go_wp2_with fail
  refine (up_any _).mono ?_
  rintro e w1 ⟨rfl, hb⟩
  go_wp2_with fail
  refine (new_good la id w _ hb H.out).mono ?_
  rintro e w2 ⟨g, rfl, hs, hb2, -, -⟩
  have HX := Lib.hid (show Both w (w2.alloc (.cells #[.int .i64 la, .int .i64 id, .bool false, .int .i64 0, .int .i64 0, .int .i64 0] 32)) g w2.heap.size (m0 la id) from ⟨IsS119.alloc hs _, IsS32.new w w2 la id false 0 0 0 hb2, hb2.alloc hb2.size _, m0_ok H.out⟩)
  have HN := Lib.hid (show g ≠ w2.heap.size from Nat.ne_of_lt (blk_lt hs.1))
  clear hs hb2 hb
  go_wp2_with fail
  clear g1 g2 g3 g4
  go_loopw [11] (fun i wr => ∃ (k : Nat) (s : M), k ≤ l.length ∧ i = .int .i64 k ∧ Both w wr g w2.heap.size s) (fun i _ => l.length - (intOf i).toNat)
  case atStart => exact ⟨0, _, Nat.zero_le _, rfl, HX.out⟩
  case round =>
    obtain ⟨k, s, hk, rfl, hX⟩ := hrel
    have HX := Lib.hid hX
    clear hX
    by_cases hlt : k < l.length
    · obtain ⟨b, n, t, HCW⟩ : ∃ b n t, Hid (∀ w', Below w.heap.size w w' → w'.cell? (ad.add (k * 3)) = some (.bool b) ∧ w'.cell? (ad.add (k * 3 + 1)) = some (.int .i64 n) ∧ w'.cell? (ad.add (k * 3 + 2)) = some (.int .i64 t)) := by
        obtain ⟨b, n, t, -, e1, e2, e3⟩ := HR.out k hlt
        exact ⟨b, n, t, fun w' hB => ⟨(hB.cell (World.block_lt_of_cell? w _ e1)).trans e1, (hB.cell (World.block_lt_of_cell? w _ e2)).trans e2, (hB.cell (World.block_lt_of_cell? w _ e3)).trans e3⟩⟩
      rcases b with _ | _
      · obtain ⟨hcell, hcell1, hcell2⟩ := HCW.out wr HX.out.2.2.1
        have hcell1 : wr.cell? { block := (ad.add (k * 3)).block, off := (ad.add (k * 3)).off + 1 } = some (.int .i64 n) := (congrArg wr.cell? (add_add ad (k * 3) 1)).trans hcell1
        have hcell2 : wr.cell? { block := (ad.add (k * 3)).block, off := (ad.add (k * 3)).off + 2 } = some (.int .i64 t) := (congrArg wr.cell? (add_add ad (k * 3) 2)).trans hcell2
        obtain ⟨r, s', ET⟩ : ∃ r s', Hid (seeM s n t = (r, s')) := ⟨_, _, rfl⟩
        have HO := Lib.hid (see_ok s n t HX.out.2.2.2)
        rw [ET.out] at HO
        have HX1 := Lib.hid (show Both w (wr.alloc (.cells #[.bool false, .int .i64 n, .int .i64 t] 34)) g w2.heap.size s from ⟨IsS119.alloc HX.out.1 _, IsS32.alloc HX.out.2.1 _, below_alloc HX.out.2.2.1 _, HX.out.2.2.2⟩)
        have HQ := Lib.hid (blk_new wr (.cells #[.bool false, .int .i64 n, .int .i64 t] 34))
        have HQ1 := Lib.hid (show wr.heap.size ≠ g from (Nat.ne_of_lt (blk_lt HX.out.1.1)).symm)
        have HQ2 := Lib.hid (show wr.heap.size ≠ w2.heap.size from (Nat.ne_of_lt (blk_lt HX.out.2.1.1)).symm)
        have hq1 := (blk_cell HQ.out 1).trans rfl
        have hq2 := (blk_cell HQ.out 2).trans rfl
        go_wp2_with fail
        go_region_held3 (fun w' => w'.cell? ⟨wr.heap.size, 1, none⟩ = some (.int .i64 n) ∧ w'.cell? ⟨wr.heap.size, 2, none⟩ = some (.int .i64 t)) (first | exact ⟨hq1, hq2⟩ | exact ⟨hq6, hq7⟩ | exact ⟨hq4, hq5⟩)
          (first
            | (go_at_call 19; refine (see_as g s n t r s' w _ ET.out (by exact HX1.out.1) (by first | exact HX1.out.2.2.1 | exact below_drew HX1.out.2.2.1 | exact pw_below_drewN HX1.out.2.2.1 _) HX1.out.2.2.2).mono ?_; rintro e w4 ⟨rfl, hI4, hB4, hk4⟩; have hx4 := hk4.blk HQ.out HQ1.out (by simp); have hq4 := (blk_cell hx4 1).trans rfl; have hq5 := (blk_cell hx4 2).trans rfl)
            | (go_at_call 20; refine (seeR_as w2.heap.size s n t r s' w _ ET.out (by exact IsR.keep HX1.out.2.1 hk4 HN.out.symm) (by first | exact hB4 | exact below_drew hB4 | exact pw_below_drewN hB4 _) HX1.out.2.2.2).mono ?_; rintro e w5 ⟨rfl, hI5, hB5, hk5⟩; have hx5 := hk5.blk hx4 HQ2.out (by simp); have hq6 := (blk_cell hx5 1).trans rfl; have hq7 := (blk_cell hx5 2).trans rfl))
        all_goals
          have HX5 := Lib.hid (show Both w w5 g w2.heap.size s' from ⟨Is.keep hI4 hk5 HN.out, hI5, hB5, HO.out⟩)
          clear hI4 hB4 hk4 hI5 hB5 hk5 hcell hcell1 hcell2 hq1 hq2 hq4 hq5 hx4 hq6 hq7 hx5
          go_wp2_with fail
          refine (at_any g s' w _ HX5.out.1 HX5.out.2.2.1 HO.out).mono ?_
          rintro e w6 ⟨rfl, hI6, hB6, hk6⟩
          have HX6 := Lib.hid (show Both w w6 g w2.heap.size s' from ⟨hI6, IsR.keep HX5.out.2.1 hk6 HN.out.symm, hB6, HO.out⟩)
          clear hI6 hB6 hk6 HX5
          go_wp2_with fail
          refine (atR_any w2.heap.size s' w _ HX6.out.2.1 HX6.out.2.2.1 HO.out).mono ?_
          rintro e w7 ⟨rfl, hI7, hB7, hk7⟩
          have HX7 := Lib.hid (show Both w w7 g w2.heap.size s' from ⟨Is.keep HX6.out.1 hk7 HN.out, hI7, hB7, HO.out⟩)
          clear hI7 hB7 hk7 HX6
          go_wp2_with fail
          go_roundw
          case rel => exact ⟨k + 1, s', by omega, by go_num, HX7.out⟩
          case measure => simp [intOf]; omega
      · obtain ⟨hcell, hcell1, hcell2⟩ := HCW.out wr HX.out.2.2.1
        have hcell1 : wr.cell? { block := (ad.add (k * 3)).block, off := (ad.add (k * 3)).off + 1 } = some (.int .i64 n) := (congrArg wr.cell? (add_add ad (k * 3) 1)).trans hcell1
        have hcell2 : wr.cell? { block := (ad.add (k * 3)).block, off := (ad.add (k * 3)).off + 2 } = some (.int .i64 t) := (congrArg wr.cell? (add_add ad (k * 3) 2)).trans hcell2
        obtain ⟨r, s', ET⟩ : ∃ r s', Hid (tickM s n = (r, s')) := ⟨_, _, rfl⟩
        have HO := Lib.hid (tick_ok s n HX.out.2.2.2)
        rw [ET.out] at HO
        have HX1 := Lib.hid (show Both w (wr.alloc (.cells #[.bool true, .int .i64 n, .int .i64 t] 34)) g w2.heap.size s from ⟨IsS119.alloc HX.out.1 _, IsS32.alloc HX.out.2.1 _, below_alloc HX.out.2.2.1 _, HX.out.2.2.2⟩)
        have HQ := Lib.hid (blk_new wr (.cells #[.bool true, .int .i64 n, .int .i64 t] 34))
        have HQ1 := Lib.hid (show wr.heap.size ≠ g from (Nat.ne_of_lt (blk_lt HX.out.1.1)).symm)
        have HQ2 := Lib.hid (show wr.heap.size ≠ w2.heap.size from (Nat.ne_of_lt (blk_lt HX.out.2.1.1)).symm)
        have hq1 := (blk_cell HQ.out 1).trans rfl
        have hq2 := (blk_cell HQ.out 2).trans rfl
        go_wp2_with fail
        go_region_held3 (fun w' => w'.cell? ⟨wr.heap.size, 1, none⟩ = some (.int .i64 n) ∧ w'.cell? ⟨wr.heap.size, 2, none⟩ = some (.int .i64 t)) (first | exact ⟨hq1, hq2⟩ | exact ⟨hq6, hq7⟩ | exact ⟨hq4, hq5⟩)
          (first
            | (go_at_call 17; refine (tick_as g s n r s' w _ ET.out (by exact HX1.out.1) (by first | exact HX1.out.2.2.1 | exact below_drew HX1.out.2.2.1 | exact pw_below_drewN HX1.out.2.2.1 _) HX1.out.2.2.2).mono ?_; rintro e w4 ⟨rfl, hI4, hB4, hk4⟩; have hx4 := hk4.blk HQ.out HQ1.out (by simp); have hq4 := (blk_cell hx4 1).trans rfl; have hq5 := (blk_cell hx4 2).trans rfl)
            | (go_at_call 18; refine (tickR_as w2.heap.size s n r s' w _ ET.out (by exact IsR.keep HX1.out.2.1 hk4 HN.out.symm) (by first | exact hB4 | exact below_drew hB4 | exact pw_below_drewN hB4 _) HX1.out.2.2.2).mono ?_; rintro e w5 ⟨rfl, hI5, hB5, hk5⟩; have hx5 := hk5.blk hx4 HQ2.out (by simp); have hq6 := (blk_cell hx5 1).trans rfl; have hq7 := (blk_cell hx5 2).trans rfl))
        all_goals
          have HX5 := Lib.hid (show Both w w5 g w2.heap.size s' from ⟨Is.keep hI4 hk5 HN.out, hI5, hB5, HO.out⟩)
          clear hI4 hB4 hk4 hI5 hB5 hk5 hcell hcell1 hcell2 hq1 hq2 hq4 hq5 hx4 hq6 hq7 hx5
          go_wp2_with fail
          refine (at_any g s' w _ HX5.out.1 HX5.out.2.2.1 HO.out).mono ?_
          rintro e w6 ⟨rfl, hI6, hB6, hk6⟩
          have HX6 := Lib.hid (show Both w w6 g w2.heap.size s' from ⟨hI6, IsR.keep HX5.out.2.1 hk6 HN.out.symm, hB6, HO.out⟩)
          clear hI6 hB6 hk6 HX5
          go_wp2_with fail
          refine (atR_any w2.heap.size s' w _ HX6.out.2.1 HX6.out.2.2.1 HO.out).mono ?_
          rintro e w7 ⟨rfl, hI7, hB7, hk7⟩
          have HX7 := Lib.hid (show Both w w7 g w2.heap.size s' from ⟨Is.keep HX6.out.1 hk7 HN.out, hI7, hB7, HO.out⟩)
          clear hI7 hB7 hk7 HX6
          go_wp2_with fail
          go_roundw
          case rel => exact ⟨k + 1, s', by omega, by go_num, HX7.out⟩
          case measure => simp [intOf]; omega
    · go_wp2_with fail
      go_ret
      exact ⟨rfl, HX.out.2.2.1⟩

set_option maxRecDepth 100000 in
set_option maxHeartbeats 4000000 in
theorem tells_none (A0 : Option Addr) (c0 : Nat) (la id : Int) (w : World) (gd : good la id) :
    Calls Try.prog 3 #[.int .i64 la, .int .i64 id, .slice A0 0 c0] w fun e w' => e = .returned (.bool true) ∧ Below w.heap.size w w' := by
  have he := Err.eql_err
  have hu := Try.underlying26
  have H := Lib.hid gd
  obtain ⟨g1, g2, g3, g4⟩ := gd
  go_enter Try.func3, Try.ntmps3
  go_wp2_with fail
  refine (up_any _).mono ?_
  rintro e w1 ⟨rfl, hb⟩
  go_wp2_with fail
  refine (new_good la id w _ hb H.out).mono ?_
  rintro e w2 ⟨g, rfl, hs, hb2, -, -⟩
  have HB := Lib.hid (show Below w.heap.size w (w2.alloc (.cells #[.int .i64 la, .int .i64 id, .bool false, .int .i64 0, .int .i64 0, .int .i64 0] 32)) from hb2.alloc hb2.size _)
  clear hs hb2 hb
  go_wp2_with fail
  clear g1 g2 g3 g4
  go_loopw [11] (fun i wr => i = .int .i64 ((0 : Nat) : Int) ∧ Below w.heap.size w wr) (fun i _ => 0)
  case atStart => exact ⟨rfl, HB.out⟩
  case round =>
    obtain ⟨rfl, hX⟩ := hrel
    go_wp2_with fail
    go_ret
    exact ⟨rfl, hX⟩

theorem tells_any (A0 : Option Addr) (c0 : Nat) (la id : Int) (l : List (Bool × Int × Int)) (w : World) (hr : Kd.C KD w A0 l.length l) :
    Calls Try.prog 3 #[.int .i64 la, .int .i64 id, .slice A0 l.length c0] w fun e w' => e = .returned (.bool true) ∧ Below w.heap.size w w' := by
  by_cases h : good la id
  · by_cases hl : l.length ≤ 300
    · rcases C_deeds hr with rfl | ⟨ad, rfl, hc⟩
      · exact tells_none A0 c0 la id w h
      · exact tells_some ad c0 la id l w h hc hl
    · exact tells_long A0 c0 l.length la id w h (by omega) hr.2.1
  · exact tells_bad A0 c0 l.length la id w h
end Go.Proofs.Ytjkaldnhfenbhaa.Mark
