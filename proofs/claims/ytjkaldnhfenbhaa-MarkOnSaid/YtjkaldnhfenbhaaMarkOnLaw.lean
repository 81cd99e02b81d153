/- The walk of MarkOn. -/
import Derived.Test.YtjkaldnhfenbhaaMarkLaw
import Derived.Deep.RegionWith
set_option linter.unusedVariables false
set_option linter.unusedSimpArgs false
namespace Go.Proofs.Ytjkaldnhfenbhaa.Mark
open Go.RowKit Go.Proofs.YtjkaldnhfenbhaaW.PrintWords Go.Proofs.YtjkaldnhfenbhaaW.PrintLast Go.Proofs.Ytjkaldnhfenbhaa.PMarkTells

theorem see_on (s : M) (now time : Int) (ok : Ok s) (r : Bool) (s' : M) (E : seeM s now time = (r, s')) : atM s ≤ atM s' ∧ s'.la = s.la := by
  unfold seeM at E
  by_cases c : fair s now = true ∧ 0 ≤ time ∧ time ≤ 1099511627776
  · rw [if_pos c] at E
    injection E with e1 e2
    subst e2
    unfold Ok at ok
    unfold atM
    simp only [if_true]
    refine ⟨?_, trivial⟩
    repeat' split
    all_goals omega
  · rw [if_neg c] at E
    injection E with e1 e2
    subst e2
    exact ⟨Int.le_refl _, rfl⟩
theorem tick_on (s : M) (now : Int) (ok : Ok s) (r : Bool) (s' : M) (E : tickM s now = (r, s')) : atM s ≤ atM s' ∧ s'.la = s.la := by
  unfold tickM at E
  by_cases c : fair s now = true
  · rw [if_pos c] at E
    have hf := fair_iff c
    injection E with e1 e2
    subst e2
    unfold Ok at ok
    unfold atM
    simp only
    refine ⟨?_, trivial⟩
    repeat' split
    all_goals omega
  · rw [if_neg c] at E
    injection E with e1 e2
    subst e2
    exact ⟨Int.le_refl _, rfl⟩
theorem at_nonneg (s : M) : 0 ≤ atM s := by
  unfold atM
  repeat' split
  all_goals omega
theorem at_le (s : M) (ok : Ok s) : atM s ≤ 1099511627776 := by
  unfold Ok at ok
  unfold atM
  repeat' split
  all_goals omega

/-- the greatest time that a mark which only sees has seen -/
def Most (u : M) (mv : Int) : Prop := (u.saw = false ∧ mv = -1 ∧ u.most = 0) ∨ (u.saw = true ∧ mv = u.most)
theorem most_yes (u : M) (now time mv : Int) (ok : Ok u) (u' : M) (h : Most u mv) (hm : mv < time) (E : seeM u now time = (true, u')) : Most u' time := by
  unfold seeM at E
  by_cases c : fair u now = true ∧ 0 ≤ time ∧ time ≤ 1099511627776
  · rw [if_pos c] at E
    injection E with e1 e2
    subst e2
    unfold Ok at ok
    unfold Most at h ⊢
    right
    refine ⟨rfl, ?_⟩
    simp only
    split <;> omega
  · rw [if_neg c] at E
    injection E with e1 e2
    exact absurd e1 (by decide)
theorem most_no (u : M) (now time mv : Int) (ok : Ok u) (u' : M) (h : Most u mv) (hm : ¬ mv < time) (E : seeM u now time = (true, u')) : Most u' mv := by
  unfold seeM at E
  by_cases c : fair u now = true ∧ 0 ≤ time ∧ time ≤ 1099511627776
  · rw [if_pos c] at E
    injection E with e1 e2
    subst e2
    unfold Ok at ok
    unfold Most at h ⊢
    right
    refine ⟨rfl, ?_⟩
    simp only
    split <;> omega
  · rw [if_neg c] at E
    injection E with e1 e2
    exact absurd e1 (by decide)
theorem most_off (u : M) (now time mv : Int) (u' : M) (h : Most u mv) (E : seeM u now time = (false, u')) : Most u' mv := by
  unfold seeM at E
  by_cases c : fair u now = true ∧ 0 ≤ time ∧ time ≤ 1099511627776
  · rw [if_pos c] at E
    injection E with e1 e2
    exact absurd e1 (by decide)
  · rw [if_neg c] at E
    injection E with e1 e2
    subst e2
    exact h
theorem most_bd (u : M) (mv : Int) (ok : Ok u) (h : Most u mv) : -1 ≤ mv ∧ mv ≤ 1099511627776 := by
  unfold Most at h
  unfold Ok at ok
  omega
theorem most_at (u : M) (mv : Int) (ok : Ok u) (h : Most u mv) : atM u = if mv < u.la then 0 else mv - u.la := by
  unfold Most at h
  unfold Ok at ok
  unfold atM
  rcases h with ⟨h1, h2, h3⟩ | ⟨h1, h2⟩
  · rw [h1, if_neg (by decide), if_pos (by omega)]
  · rw [h1, if_pos rfl, h2]
    split <;> split <;> omega

/-- where both marks stand -/
def Two (w wr : World) (g m : Nat) (s u : M) (la mv : Int) : Prop := Is w wr g s ∧ Is w wr m u ∧ Below w.heap.size w wr ∧ Ok s ∧ Ok u ∧ u.la = la ∧ Most u mv

set_option maxRecDepth 100000 in
set_option maxHeartbeats 2000000 in
theorem on_bad (A0 : Option Addr) (c0 n : Nat) (la id : Int) (w : World) (gd : ¬ good la id) :
    Calls Try.prog 4 #[.int .i64 la, .int .i64 id, .slice A0 n c0] w fun e w' => e = .returned (.bool true) ∧ Below w.heap.size w w' := by
  have he := Err.eql_err
  have hu := Try.underlying26
  have H := Lib.hid gd
  clear gd
  go_enter Try.func4, Try.ntmps4
  go_wp2_with fail
  refine (up_any _).mono ?_
  rintro e w1 ⟨rfl, hb⟩
  go_wp2_with fail
  refine (new_bad la id _ H.out).mono ?_
  rintro e w2 ⟨rfl, rfl⟩
  go_wp2_with fail
  refine (new_bad la id _ H.out).mono ?_
  rintro e w3 ⟨rfl, rfl⟩
  go_wp2_with fail
  go_ret
  exact ⟨rfl, hb⟩

set_option maxRecDepth 100000 in
set_option maxHeartbeats 2000000 in
theorem on_long (A0 : Option Addr) (c0 n : Nat) (la id : Int) (w : World) (gd : good la id) (hl : 300 < n) (hm : n ≤ 9223372036854775807) :
    Calls Try.prog 4 #[.int .i64 la, .int .i64 id, .slice A0 n c0] w fun e w' => e = .returned (.bool true) ∧ Below w.heap.size w w' := by
  have he := Err.eql_err
  have hu := Try.underlying26
  have H := Lib.hid gd
  clear gd
  go_enter Try.func4, Try.ntmps4
  go_wp2_with fail
  refine (up_any _).mono ?_
  rintro e w1 ⟨rfl, hb⟩
  go_wp2_with fail
  refine (new_good la id w _ hb H.out).mono ?_
  rintro e w2 ⟨g, rfl, hs, hb2, -, -⟩
  go_wp2_with fail
  refine (new_good la id w _ hb2 H.out).mono ?_
  rintro e w3 ⟨m, rfl, hs3, hb3, -, -⟩
  go_wp2_with fail
  go_ret
  exact ⟨rfl, hb3⟩

set_option maxRecDepth 100000 in
set_option maxHeartbeats 4000000 in
theorem on_some (ad : Addr) (c0 : Nat) (la id : Int) (l : List (Bool × Int × Int)) (w : World) (gd : good la id) (hc : ∀ j, j < l.length → ∃ b n t, l[j]? = some (b, n, t) ∧ w.cell? (ad.add (j * 3)) = some (.bool b) ∧ w.cell? (ad.add (j * 3 + 1)) = some (.int .i64 n) ∧ w.cell? (ad.add (j * 3 + 2)) = some (.int .i64 t)) (hl : l.length ≤ 300) :
    Calls Try.prog 4 #[.int .i64 la, .int .i64 id, .slice (some ad) l.length c0] w fun e w' => e = .returned (.bool true) ∧ Below w.heap.size w w' := by
  have he := Err.eql_err
  have hu := Try.underlying26
  have H := Lib.hid gd
  have HR := Lib.hid hc
  clear hc gd
  go_enter Try.func4, Try.ntmps4
  go_wp2_with fail
  refine (up_any _).mono ?_
  rintro e w1 ⟨rfl, hb⟩
  go_wp2_with fail
  refine (new_good la id w _ hb H.out).mono ?_
  rintro e w2 ⟨g, rfl, hs, hb2, -, -⟩
  go_wp2_with fail
  refine (new_good la id w _ hb2 H.out).mono ?_
  rintro e w3 ⟨m, rfl, hs3, hb3, hbw, hge⟩
  have HX := Lib.hid (show Two w w3 g m (m0 la id) (m0 la id) la (-1) from ⟨Is.later hs hbw, hs3, hb3, m0_ok H.out, m0_ok H.out, rfl, .inl ⟨rfl, rfl, rfl⟩⟩)
  have HN := Lib.hid (show g ≠ m from Nat.ne_of_lt (Nat.lt_of_lt_of_le (blk_lt hs.1) hge))
  clear hs hb2 hb hs3 hb3 hbw hge
  go_wp2_with fail
  go_loopw [14, 12, 13] (fun i last most wr => ∃ (k : Nat) (s u : M) (mv : Int), k ≤ l.length ∧ i = .int .i64 k ∧ last = .int .i64 (atM s) ∧ most = .int .i64 mv ∧ Two w wr g m s u la mv) (fun i _ _ _ => l.length - (intOf i).toNat)
  case atStart => exact ⟨0, _, _, _, Nat.zero_le _, rfl, rfl, rfl, HX.out⟩
  case round =>
    obtain ⟨k, s, u, mv, hk, rfl, rfl, rfl, hX⟩ := hrel
    have HX := Lib.hid hX
    clear hX
    by_cases hlt : k < l.length
    · obtain ⟨b, n, t, HCW⟩ : ∃ b n t, Hid (∀ w', Below w.heap.size w w' → w'.cell? (ad.add (k * 3)) = some (.bool b) ∧ w'.cell? (ad.add (k * 3 + 1)) = some (.int .i64 n) ∧ w'.cell? (ad.add (k * 3 + 2)) = some (.int .i64 t)) := by
        obtain ⟨b, n, t, -, e1, e2, e3⟩ := HR.out k hlt
        exact ⟨b, n, t, fun w' hB => ⟨(hB.cell (World.block_lt_of_cell? w _ e1)).trans e1, (hB.cell (World.block_lt_of_cell? w _ e2)).trans e2, (hB.cell (World.block_lt_of_cell? w _ e3)).trans e3⟩⟩
      have HCZ := Lib.hid (show ∀ w', Below w.heap.size w w' → w'.cell? { block := (ad.add (k * 3)).block, off := (ad.add (k * 3)).off + 1 } = some (.int .i64 n) ∧ w'.cell? { block := (ad.add (k * 3)).block, off := (ad.add (k * 3)).off + 2 } = some (.int .i64 t) from fun w' hB => ⟨(congrArg w'.cell? (add_add ad (k * 3) 1)).trans (HCW.out w' hB).2.1, (congrArg w'.cell? (add_add ad (k * 3) 2)).trans (HCW.out w' hB).2.2⟩)
      rcases b with _ | _
      · obtain ⟨r, s', ET⟩ : ∃ r s', Hid (seeM s n t = (r, s')) := ⟨_, _, rfl⟩
        have HM := Lib.hid (see_on s n t HX.out.2.2.2.1 r s' ET.out)
        have HO := Lib.hid (see_ok s n t HX.out.2.2.2.1)
        rw [ET.out] at HO
        obtain ⟨q, u', EU⟩ : ∃ q u', Hid (seeM u n t = (q, u')) := ⟨_, _, rfl⟩
        have HL := Lib.hid (see_on u n t HX.out.2.2.2.2.1 q u' EU.out)
        have HP := Lib.hid (see_ok u n t HX.out.2.2.2.2.1)
        rw [EU.out] at HP
        obtain ⟨hcell, hcell1, hcell2⟩ := HCW.out wr HX.out.2.2.1
        have hcell1 : wr.cell? { block := (ad.add (k * 3)).block, off := (ad.add (k * 3)).off + 1 } = some (.int .i64 n) := (congrArg wr.cell? (add_add ad (k * 3) 1)).trans hcell1
        have hcell2 : wr.cell? { block := (ad.add (k * 3)).block, off := (ad.add (k * 3)).off + 2 } = some (.int .i64 t) := (congrArg wr.cell? (add_add ad (k * 3) 2)).trans hcell2
        go_wp2_with fail
        go_region_held3 (fun w' => w'.cell? { block := (ad.add (k * 3)).block, off := (ad.add (k * 3)).off + 1 } = some (.int .i64 n) ∧ w'.cell? { block := (ad.add (k * 3)).block, off := (ad.add (k * 3)).off + 2 } = some (.int .i64 t)) (first | exact HCZ.out w5 hB5 | exact HCZ.out w4 hB4 | exact HCZ.out w4 HB4.out | exact HCZ.out wr HX.out.2.2.1)
          (first
            | (go_at_call 19; refine (see_as g s n t r s' w _ ET.out (by exact HX.out.1) (by first | exact HX.out.2.2.1 | exact below_drew HX.out.2.2.1 | exact pw_below_drewN HX.out.2.2.1 _) HX.out.2.2.2.1).mono ?_; rintro e w4 ⟨rfl, hI4, hB4, hk4⟩))
        have HX4 := Lib.hid (show Is w w4 m u from Is.keep HX.out.2.1 hk4 HN.out.symm)
        have HI4 := Lib.hid hI4
        have HB4 := Lib.hid hB4
        clear hI4 hB4 hk4 hcell hcell1 hcell2
        obtain ⟨hcell, hcell1, hcell2⟩ := HCW.out w4 HB4.out
        have hcell1 : w4.cell? { block := (ad.add (k * 3)).block, off := (ad.add (k * 3)).off + 1 } = some (.int .i64 n) := (congrArg w4.cell? (add_add ad (k * 3) 1)).trans hcell1
        have hcell2 : w4.cell? { block := (ad.add (k * 3)).block, off := (ad.add (k * 3)).off + 2 } = some (.int .i64 t) := (congrArg w4.cell? (add_add ad (k * 3) 2)).trans hcell2
        rcases q with _ | _
        · go_wp2_with fail
          have HCALL := see_as m u n t false u' w w4.drew EU.out HX4.out (below_drew HB4.out) HX.out.2.2.2.2.1
          refine start_ (n := 21) (S := fun w' => w'.cell? { block := (ad.add (k * 3)).block, off := (ad.add (k * 3)).off + 1 } = some (.int .i64 n) ∧ w'.cell? { block := (ad.add (k * 3)).block, off := (ad.add (k * 3)).off + 2 } = some (.int .i64 t)) (ds := []) #[false, false, false, false, false, false, false, false, false, false, false, false, false, false, false, false, false, false, false, false, false] (by kernel_rfl) rfl rfl ⟨(HCZ.out w4 HB4.out).1, (HCZ.out w4 HB4.out).2⟩ (fun hHeld => ?_)
          refine pure_ (i := 0) (N := some 86) (v := ?_) (a' := ?_) #[true, false, false, false, false, false, false, false, false, false, false, false, false, false, false, false, false, false, false, false, false] rfl rfl (by kernel_rfl) (fun _ _ _ h => h) (Or.inl ⟨by rfl, ?_⟩) ?_ ?_
          rotate_left
          · intro w'
            go_simp
            with_reducible rfl
          rotate_left
          · simp only [Act.put, List.setIfInBounds_toArray, List.set_cons_zero, List.set_cons_succ, i64_w, i32_w]
            rfl
          refine pure_ (i := 1) (N := some 87) (v := ?_) (a' := ?_) #[true, true, false, false, false, false, false, false, false, false, false, false, false, false, false, false, false, false, false, false, false] rfl rfl (by kernel_rfl) (fun _ _ _ h => h) (Or.inl ⟨by rfl, ?_⟩) ?_ ?_
          rotate_left
          · intro w'
            go_simp
            with_reducible rfl
          rotate_left
          · simp only [Act.put, List.setIfInBounds_toArray, List.set_cons_zero, List.set_cons_succ, i64_w, i32_w]
            rfl
          refine pure_ (i := 2) (N := some 88) (v := ?_) (a' := ?_) #[true, true, true, false, false, false, false, false, false, false, false, false, false, false, false, false, false, false, false, false, false] rfl rfl (by kernel_rfl) (fun _ _ _ h => h) (Or.inl ⟨by rfl, ?_⟩) ?_ ?_
          rotate_left
          · intro w'
            go_simp
            with_reducible rfl
          rotate_left
          · simp only [Act.put, List.setIfInBounds_toArray, List.set_cons_zero, List.set_cons_succ, i64_w, i32_w]
            rfl
          refine pure_ (i := 3) (N := some 89) (v := ?_) (a' := ?_) #[true, true, true, true, false, false, false, false, false, false, false, false, false, false, false, false, false, false, false, false, false] rfl rfl (by kernel_rfl) (fun _ _ _ h => h) (Or.inl ⟨by rfl, ?_⟩) ?_ ?_
          rotate_left
          · intro w'
            go_simp
            with_reducible rfl
          rotate_left
          · simp only [Act.put, List.setIfInBounds_toArray, List.set_cons_zero, List.set_cons_succ, i64_w, i32_w]
            rfl
          refine pure_ (i := 4) (N := some 90) (v := ?_) (a' := ?_) #[true, true, true, true, true, false, false, false, false, false, false, false, false, false, false, false, false, false, false, false, false] rfl rfl (by kernel_rfl) (fun _ _ _ h => h) (Or.inl ⟨by rfl, ?_⟩) ?_ ?_
          rotate_left
          · intro w'
            go_simp
            with_reducible rfl
          rotate_left
          · simp only [Act.put, List.setIfInBounds_toArray, List.set_cons_zero, List.set_cons_succ, i64_w, i32_w]
            rfl
          refine pure_ (i := 6) (N := some 92) (v := ?_) (a' := ?_) #[true, true, true, true, true, false, true, false, false, false, false, false, false, false, false, false, false, false, false, false, false] rfl rfl (by kernel_rfl) (fun _ _ _ h => h) (Or.inl ⟨by rfl, ?_⟩) ?_ ?_
          rotate_left
          · intro w'
            go_simp
            with_reducible rfl
          rotate_left
          · simp only [Act.put, List.setIfInBounds_toArray, List.set_cons_zero, List.set_cons_succ, i64_w, i32_w]
            rfl
          refine pure_ (i := 7) (N := some 93) (v := ?_) (a' := ?_) #[true, true, true, true, true, false, true, true, false, false, false, false, false, false, false, false, false, false, false, false, false] rfl rfl (by kernel_rfl) (fun _ _ _ h => h) (Or.inl ⟨by rfl, ?_⟩) ?_ ?_
          rotate_left
          · intro w'
            go_simp
            with_reducible rfl
          rotate_left
          · simp only [Act.put, List.setIfInBounds_toArray, List.set_cons_zero, List.set_cons_succ, i64_w, i32_w]
            rfl
          refine pure_ (i := 8) (N := some 94) (v := ?_) (a' := ?_) #[true, true, true, true, true, false, true, true, true, false, false, false, false, false, false, false, false, false, false, false, false] rfl rfl (by kernel_rfl) (fun _ _ _ h => h) (Or.inl ⟨by rfl, ?_⟩) ?_ ?_
          rotate_left
          · intro w'
            go_simp
            with_reducible rfl
          rotate_left
          · simp only [Act.put, List.setIfInBounds_toArray, List.set_cons_zero, List.set_cons_succ, i64_w, i32_w]
            rfl
          refine pure_ (i := 9) (N := some 95) (v := ?_) (a' := ?_) #[true, true, true, true, true, false, true, true, true, true, false, false, false, false, false, false, false, false, false, false, false] rfl rfl (by kernel_rfl) (fun _ _ _ h => h) (Or.inl ⟨by rfl, ?_⟩) ?_ ?_
          rotate_left
          · intro w'
            go_simp
            with_reducible rfl
          rotate_left
          · simp only [Act.put, List.setIfInBounds_toArray, List.set_cons_zero, List.set_cons_succ, i64_w, i32_w]
            rfl
          refine take_ (i := 5) (N := some 91) (v := ?_) (a' := ?_) #[true, true, true, true, true, true, true, true, true, true, false, false, false, false, false, false, false, false, false, false, false] rfl rfl (by kernel_rfl) (fun _ _ _ h => h) (Or.inl ⟨by rfl, ?_⟩) hHeld ?_ ?_
          rotate_left
          · rintro w' ⟨s0, s1⟩
            go_simp
            with_reducible rfl
          rotate_left
          · simp only [Act.put, List.setIfInBounds_toArray, List.set_cons_zero, List.set_cons_succ, i64_w, i32_w]
            rfl
          refine take_ (i := 10) (N := some 96) (v := ?_) (a' := ?_) #[true, true, true, true, true, true, true, true, true, true, true, false, false, false, false, false, false, false, false, false, false] rfl rfl (by kernel_rfl) (fun _ _ _ h => h) (Or.inl ⟨by rfl, ?_⟩) hHeld ?_ ?_
          rotate_left
          · rintro w' ⟨s0, s1⟩
            go_simp
            with_reducible rfl
          rotate_left
          · simp only [Act.put, List.setIfInBounds_toArray, List.set_cons_zero, List.set_cons_succ, i64_w, i32_w]
            rfl
          refine one_ (i := 11) (N := some 97) #[true, true, true, true, true, true, true, true, true, true, true, true, false, false, false, false, false, false, false, false, false] rfl rfl (by kernel_rfl) (by decide) (fun K hK => ?_)
          refine goes_ Try.func19 (by kernel_rfl) rfl #[.pointer (some ⟨m, 0, none⟩), .int .i64 n, .int .i64 t] (by rfl) rfl rfl (by simp only [List.map_toArray, List.map_cons, List.map_nil]; rfl) ?_
          with_reducible refine (HCALL).mono ?_
          rintro e w5 ⟨rfl, hI5, hB5, hk5⟩
          refine ⟨_, rfl, ?_⟩
          refine hK.out _ _ ⟨(HCZ.out w5 hB5).1, (HCZ.out w5 hB5).2⟩ (fun hHeld => ?_)
          clear hK K
          refine norm_ (a' := ?_) ?_ ?_
          rotate_left
          · show Act.put _ (some 97) _ = _
            simp only [Act.put, List.setIfInBounds_toArray, List.set_cons_zero, List.set_cons_succ, i64_w, i32_w]
            rfl
          refine pure_ (i := 12) (N := some 98) (v := ?_) (a' := ?_) #[true, true, true, true, true, true, true, true, true, true, true, true, true, false, false, false, false, false, false, false, false] rfl rfl (by kernel_rfl) (fun _ _ _ h => h) (Or.inl ⟨by rfl, ?_⟩) ?_ ?_
          rotate_left
          · intro w'
            go_simp
            with_reducible rfl
          rotate_left
          · simp only [Act.put, List.setIfInBounds_toArray, List.set_cons_zero, List.set_cons_succ, i64_w, i32_w]
            rfl
          refine pure_ (i := 13) (N := some 99) (v := undef) (a' := ?_) #[true, true, true, true, true, true, true, true, true, true, true, true, true, true, false, false, false, false, false, false, false] rfl rfl (by kernel_rfl) (fun _ _ _ h => h) (Or.inr ⟨by rfl, rfl⟩) ?_ ?_
          rotate_left
          · simp only [Act.put, List.setIfInBounds_toArray, List.set_cons_zero, List.set_cons_succ, i64_w, i32_w]
            rfl
          refine pure_ (i := 14) (N := some 100) (v := undef) (a' := ?_) #[true, true, true, true, true, true, true, true, true, true, true, true, true, true, true, false, false, false, false, false, false] rfl rfl (by kernel_rfl) (fun _ _ _ h => h) (Or.inr ⟨by rfl, rfl⟩) ?_ ?_
          rotate_left
          · simp only [Act.put, List.setIfInBounds_toArray, List.set_cons_zero, List.set_cons_succ, i64_w, i32_w]
            rfl
          refine pure_ (i := 15) (N := some 101) (v := undef) (a' := ?_) #[true, true, true, true, true, true, true, true, true, true, true, true, true, true, true, true, false, false, false, false, false] rfl rfl (by kernel_rfl) (fun _ _ _ h => h) (Or.inr ⟨by rfl, rfl⟩) ?_ ?_
          rotate_left
          · simp only [Act.put, List.setIfInBounds_toArray, List.set_cons_zero, List.set_cons_succ, i64_w, i32_w]
            rfl
          refine pure_ (i := 16) (N := some 102) (v := undef) (a' := ?_) #[true, true, true, true, true, true, true, true, true, true, true, true, true, true, true, true, true, false, false, false, false] rfl rfl (by kernel_rfl) (fun _ _ _ h => h) (Or.inr ⟨by rfl, rfl⟩) ?_ ?_
          rotate_left
          · simp only [Act.put, List.setIfInBounds_toArray, List.set_cons_zero, List.set_cons_succ, i64_w, i32_w]
            rfl
          refine pure_ (i := 17) (N := some 103) (v := undef) (a' := ?_) #[true, true, true, true, true, true, true, true, true, true, true, true, true, true, true, true, true, true, false, false, false] rfl rfl (by kernel_rfl) (fun _ _ _ h => h) (Or.inr ⟨by rfl, rfl⟩) ?_ ?_
          rotate_left
          · simp only [Act.put, List.setIfInBounds_toArray, List.set_cons_zero, List.set_cons_succ, i64_w, i32_w]
            rfl
          refine pure_ (i := 18) (N := some 104) (v := undef) (a' := ?_) #[true, true, true, true, true, true, true, true, true, true, true, true, true, true, true, true, true, true, true, false, false] rfl rfl (by kernel_rfl) (fun _ _ _ h => h) (Or.inr ⟨by rfl, rfl⟩) ?_ ?_
          rotate_left
          · simp only [Act.put, List.setIfInBounds_toArray, List.set_cons_zero, List.set_cons_succ, i64_w, i32_w]
            rfl
          refine pure_ (i := 19) (N := some 105) (v := undef) (a' := ?_) #[true, true, true, true, true, true, true, true, true, true, true, true, true, true, true, true, true, true, true, true, false] rfl rfl (by kernel_rfl) (fun _ _ _ h => h) (Or.inr ⟨by rfl, rfl⟩) ?_ ?_
          rotate_left
          · simp only [Act.put, List.setIfInBounds_toArray, List.set_cons_zero, List.set_cons_succ, i64_w, i32_w]
            rfl
          refine pure_ (i := 20) (N := some 106) (v := ?_) (a' := ?_) #[true, true, true, true, true, true, true, true, true, true, true, true, true, true, true, true, true, true, true, true, true] rfl rfl (by kernel_rfl) (fun _ _ _ h => h) (Or.inl ⟨by rfl, ?_⟩) ?_ ?_
          rotate_left
          · intro w'
            go_simp
            with_reducible rfl
          rotate_left
          · simp only [Act.put, List.setIfInBounds_toArray, List.set_cons_zero, List.set_cons_succ, i64_w, i32_w]
            rfl
          refine done_ (by kernel_rfl) ?_
          have HY := Lib.hid (show Two w w5 g m s' u' la mv from ⟨Is.keep HI4.out hk5 HN.out, hI5, hB5, HO.out, HP.out, HL.out.2.trans HX.out.2.2.2.2.2.1, most_off u n t mv u' HX.out.2.2.2.2.2.2 EU.out⟩)
          clear hI5 hB5 hk5 hcell hcell1 hcell2
          go_wp2_with fail
          refine (at_any g s' w _ (by exact HY.out.1) (by exact HY.out.2.2.1) HY.out.2.2.2.1).mono ?_
          rintro e w7 ⟨rfl, hI7, hB7, hk7⟩
          have HY := Lib.hid (show Two w w7 g m s' _ la _ from ⟨hI7, Is.keep HY.out.2.1 hk7 HN.out.symm, hB7, HY.out.2.2.2⟩)
          clear hI7 hB7 hk7
          have a1 := HM.out.1
          go_wp2_with fail
          refine (at_any g s' w _ (by exact HY.out.1) (by exact HY.out.2.2.1) HY.out.2.2.2.1).mono ?_
          rintro e w8 ⟨rfl, hI8, hB8, hk8⟩
          have HY := Lib.hid (show Two w w8 g m s' _ la _ from ⟨hI8, Is.keep HY.out.2.1 hk8 HN.out.symm, hB8, HY.out.2.2.2⟩)
          clear hI8 hB8 hk8
          go_wp2_with fail
          go_roundw
          case rel => exact ⟨k + 1, s', _, _, by omega, by go_num, rfl, rfl, HY.out⟩
          case measure => simp [intOf]; omega
        · by_cases hmt : mv < t
          · go_wp2_with fail
            go_region_held3 (fun w' => w'.cell? { block := (ad.add (k * 3)).block, off := (ad.add (k * 3)).off + 1 } = some (.int .i64 n) ∧ w'.cell? { block := (ad.add (k * 3)).block, off := (ad.add (k * 3)).off + 2 } = some (.int .i64 t)) (first | exact HCZ.out w5 hB5 | exact HCZ.out w4 hB4 | exact HCZ.out w4 HB4.out | exact HCZ.out wr HX.out.2.2.1)
              (first
                | (go_at_call 19; refine (see_as m u n t true u' w _ EU.out (by exact HX4.out) (by first | exact HB4.out | exact below_drew HB4.out | exact pw_below_drewN HB4.out _) HX.out.2.2.2.2.1).mono ?_; rintro e w5 ⟨rfl, hI5, hB5, hk5⟩))
            have HY := Lib.hid (show Two w w5 g m s' u' la t from ⟨Is.keep HI4.out hk5 HN.out, hI5, hB5, HO.out, HP.out, HL.out.2.trans HX.out.2.2.2.2.2.1, most_yes u n t mv HX.out.2.2.2.2.1 u' HX.out.2.2.2.2.2.2 (by omega) EU.out⟩)
            clear hcell hcell1 hcell2
            obtain ⟨hcell, hcell1, hcell2⟩ := HCW.out w5 hB5
            have hcell1 : w5.cell? { block := (ad.add (k * 3)).block, off := (ad.add (k * 3)).off + 1 } = some (.int .i64 n) := (congrArg w5.cell? (add_add ad (k * 3) 1)).trans hcell1
            have hcell2 : w5.cell? { block := (ad.add (k * 3)).block, off := (ad.add (k * 3)).off + 2 } = some (.int .i64 t) := (congrArg w5.cell? (add_add ad (k * 3) 2)).trans hcell2
            clear hI5 hB5 hk5
            go_wp2_with fail
            clear hcell hcell1 hcell2
            refine (at_any g s' w _ (by exact HY.out.1) (by exact HY.out.2.2.1) HY.out.2.2.2.1).mono ?_
            rintro e w7 ⟨rfl, hI7, hB7, hk7⟩
            have HY := Lib.hid (show Two w w7 g m s' _ la _ from ⟨hI7, Is.keep HY.out.2.1 hk7 HN.out.symm, hB7, HY.out.2.2.2⟩)
            clear hI7 hB7 hk7
            have a1 := HM.out.1
            go_wp2_with fail
            refine (at_any g s' w _ (by exact HY.out.1) (by exact HY.out.2.2.1) HY.out.2.2.2.1).mono ?_
            rintro e w8 ⟨rfl, hI8, hB8, hk8⟩
            have HY := Lib.hid (show Two w w8 g m s' _ la _ from ⟨hI8, Is.keep HY.out.2.1 hk8 HN.out.symm, hB8, HY.out.2.2.2⟩)
            clear hI8 hB8 hk8
            go_wp2_with fail
            go_roundw
            case rel => exact ⟨k + 1, s', _, _, by omega, by go_num, rfl, rfl, HY.out⟩
            case measure => simp [intOf]; omega
          · go_wp2_with fail
            go_region_held3 (fun w' => w'.cell? { block := (ad.add (k * 3)).block, off := (ad.add (k * 3)).off + 1 } = some (.int .i64 n) ∧ w'.cell? { block := (ad.add (k * 3)).block, off := (ad.add (k * 3)).off + 2 } = some (.int .i64 t)) (first | exact HCZ.out w5 hB5 | exact HCZ.out w4 hB4 | exact HCZ.out w4 HB4.out | exact HCZ.out wr HX.out.2.2.1)
              (first
                | (go_at_call 19; refine (see_as m u n t true u' w _ EU.out (by exact HX4.out) (by first | exact HB4.out | exact below_drew HB4.out | exact pw_below_drewN HB4.out _) HX.out.2.2.2.2.1).mono ?_; rintro e w5 ⟨rfl, hI5, hB5, hk5⟩))
            have HY := Lib.hid (show Two w w5 g m s' u' la mv from ⟨Is.keep HI4.out hk5 HN.out, hI5, hB5, HO.out, HP.out, HL.out.2.trans HX.out.2.2.2.2.2.1, most_no u n t mv HX.out.2.2.2.2.1 u' HX.out.2.2.2.2.2.2 (by omega) EU.out⟩)
            clear hcell hcell1 hcell2
            obtain ⟨hcell, hcell1, hcell2⟩ := HCW.out w5 hB5
            have hcell1 : w5.cell? { block := (ad.add (k * 3)).block, off := (ad.add (k * 3)).off + 1 } = some (.int .i64 n) := (congrArg w5.cell? (add_add ad (k * 3) 1)).trans hcell1
            have hcell2 : w5.cell? { block := (ad.add (k * 3)).block, off := (ad.add (k * 3)).off + 2 } = some (.int .i64 t) := (congrArg w5.cell? (add_add ad (k * 3) 2)).trans hcell2
            clear hI5 hB5 hk5
            go_wp2_with fail
            clear hcell hcell1 hcell2
            refine (at_any g s' w _ (by exact HY.out.1) (by exact HY.out.2.2.1) HY.out.2.2.2.1).mono ?_
            rintro e w7 ⟨rfl, hI7, hB7, hk7⟩
            have HY := Lib.hid (show Two w w7 g m s' _ la _ from ⟨hI7, Is.keep HY.out.2.1 hk7 HN.out.symm, hB7, HY.out.2.2.2⟩)
            clear hI7 hB7 hk7
            have a1 := HM.out.1
            go_wp2_with fail
            refine (at_any g s' w _ (by exact HY.out.1) (by exact HY.out.2.2.1) HY.out.2.2.2.1).mono ?_
            rintro e w8 ⟨rfl, hI8, hB8, hk8⟩
            have HY := Lib.hid (show Two w w8 g m s' _ la _ from ⟨hI8, Is.keep HY.out.2.1 hk8 HN.out.symm, hB8, HY.out.2.2.2⟩)
            clear hI8 hB8 hk8
            go_wp2_with fail
            go_roundw
            case rel => exact ⟨k + 1, s', _, _, by omega, by go_num, rfl, rfl, HY.out⟩
            case measure => simp [intOf]; omega
      · obtain ⟨r, s', ET⟩ : ∃ r s', Hid (tickM s n = (r, s')) := ⟨_, _, rfl⟩
        have HM := Lib.hid (tick_on s n HX.out.2.2.2.1 r s' ET.out)
        have HO := Lib.hid (tick_ok s n HX.out.2.2.2.1)
        rw [ET.out] at HO
        obtain ⟨hcell, hcell1, hcell2⟩ := HCW.out wr HX.out.2.2.1
        have hcell1 : wr.cell? { block := (ad.add (k * 3)).block, off := (ad.add (k * 3)).off + 1 } = some (.int .i64 n) := (congrArg wr.cell? (add_add ad (k * 3) 1)).trans hcell1
        have hcell2 : wr.cell? { block := (ad.add (k * 3)).block, off := (ad.add (k * 3)).off + 2 } = some (.int .i64 t) := (congrArg wr.cell? (add_add ad (k * 3) 2)).trans hcell2
        go_wp2_with fail
        refine (tick_as g s n r s' w _ ET.out (by exact HX.out.1) (by exact HX.out.2.2.1) HX.out.2.2.2.1).mono ?_
        rintro e w4 ⟨rfl, hI4, hB4, hk4⟩
        have HY := Lib.hid (show Two w w4 g m s' u la mv from ⟨hI4, Is.keep HX.out.2.1 hk4 HN.out.symm, hB4, HO.out, HX.out.2.2.2.2⟩)
        clear hI4 hB4 hk4 hcell hcell1 hcell2
        go_wp2_with fail
        refine (at_any g s' w _ (by exact HY.out.1) (by exact HY.out.2.2.1) HY.out.2.2.2.1).mono ?_
        rintro e w7 ⟨rfl, hI7, hB7, hk7⟩
        have HY := Lib.hid (show Two w w7 g m s' _ la _ from ⟨hI7, Is.keep HY.out.2.1 hk7 HN.out.symm, hB7, HY.out.2.2.2⟩)
        clear hI7 hB7 hk7
        have a1 := HM.out.1
        go_wp2_with fail
        refine (at_any g s' w _ (by exact HY.out.1) (by exact HY.out.2.2.1) HY.out.2.2.2.1).mono ?_
        rintro e w8 ⟨rfl, hI8, hB8, hk8⟩
        have HY := Lib.hid (show Two w w8 g m s' _ la _ from ⟨hI8, Is.keep HY.out.2.1 hk8 HN.out.symm, hB8, HY.out.2.2.2⟩)
        clear hI8 hB8 hk8
        go_wp2_with fail
        go_roundw
        case rel => exact ⟨k + 1, s', _, _, by omega, by go_num, rfl, rfl, HY.out⟩
        case measure => simp [intOf]; omega
    · obtain ⟨hmb1, hmb2⟩ := most_bd u mv HX.out.2.2.2.2.1 HX.out.2.2.2.2.2.2
      have HA := Lib.hid (most_at u mv HX.out.2.2.2.2.1 HX.out.2.2.2.2.2.2)
      rw [HX.out.2.2.2.2.2.1] at HA
      obtain ⟨g1, g2, g3, g4⟩ := H.out
      by_cases hml : mv < la
      · rw [if_pos hml] at HA
        go_wp2_with fail
        refine (at_any m u w _ (by exact HX.out.2.1) (by exact HX.out.2.2.1) HX.out.2.2.2.2.1).mono ?_
        rw [HA.out]
        rintro e w7 ⟨rfl, hI7, hB7, hk7⟩
        go_wp2_with fail
        go_ret
        exact ⟨rfl, hB7⟩
      · rw [if_neg hml] at HA
        go_wp2_with fail
        refine (at_any m u w _ (by exact HX.out.2.1) (by exact HX.out.2.2.1) HX.out.2.2.2.2.1).mono ?_
        rw [HA.out]
        rintro e w7 ⟨rfl, hI7, hB7, hk7⟩
        go_wp2_with fail
        go_ret
        exact ⟨by simp, hB7⟩
set_option maxRecDepth 100000 in
set_option maxHeartbeats 4000000 in
theorem on_none (A0 : Option Addr) (c0 : Nat) (la id : Int) (w : World) (gd : good la id) :
    Calls Try.prog 4 #[.int .i64 la, .int .i64 id, .slice A0 0 c0] w fun e w' => e = .returned (.bool true) ∧ Below w.heap.size w w' := by
  have he := Err.eql_err
  have hu := Try.underlying26
  have H := Lib.hid gd
  clear gd
  go_enter Try.func4, Try.ntmps4
  go_wp2_with fail
  refine (up_any _).mono ?_
  rintro e w1 ⟨rfl, hb⟩
  go_wp2_with fail
  refine (new_good la id w _ hb H.out).mono ?_
  rintro e w2 ⟨g, rfl, hs, hb2, -, -⟩
  go_wp2_with fail
  refine (new_good la id w _ hb2 H.out).mono ?_
  rintro e w3 ⟨m, rfl, hs3, hb3, hbw, hge⟩
  have HX := Lib.hid (show Two w w3 g m (m0 la id) (m0 la id) la (-1) from ⟨Is.later hs hbw, hs3, hb3, m0_ok H.out, m0_ok H.out, rfl, .inl ⟨rfl, rfl, rfl⟩⟩)
  have HN := Lib.hid (show g ≠ m from Nat.ne_of_lt (Nat.lt_of_lt_of_le (blk_lt hs.1) hge))
  clear hs hb2 hb hs3 hb3 hbw hge
  go_wp2_with fail
  go_loopw [14, 12, 13] (fun i last most wr => ∃ (s u : M) (mv : Int), i = .int .i64 ((0 : Nat) : Int) ∧ last = .int .i64 (atM s) ∧ most = .int .i64 mv ∧ Two w wr g m s u la mv) (fun i _ _ _ => 0)
  case atStart => exact ⟨_, _, _, rfl, rfl, rfl, HX.out⟩
  case round =>
    obtain ⟨s, u, mv, rfl, rfl, rfl, hX⟩ := hrel
    have HX := Lib.hid hX
    clear hX
    obtain ⟨hmb1, hmb2⟩ := most_bd u mv HX.out.2.2.2.2.1 HX.out.2.2.2.2.2.2
    have HA := Lib.hid (most_at u mv HX.out.2.2.2.2.1 HX.out.2.2.2.2.2.2)
    rw [HX.out.2.2.2.2.2.1] at HA
    obtain ⟨g1, g2, g3, g4⟩ := H.out
    by_cases hml : mv < la
    · rw [if_pos hml] at HA
      go_wp2_with fail
      refine (at_any m u w _ (by exact HX.out.2.1) (by exact HX.out.2.2.1) HX.out.2.2.2.2.1).mono ?_
      rw [HA.out]
      rintro e w7 ⟨rfl, hI7, hB7, hk7⟩
      go_wp2_with fail
      go_ret
      exact ⟨rfl, hB7⟩
    · rw [if_neg hml] at HA
      go_wp2_with fail
      refine (at_any m u w _ (by exact HX.out.2.1) (by exact HX.out.2.2.1) HX.out.2.2.2.2.1).mono ?_
      rw [HA.out]
      rintro e w7 ⟨rfl, hI7, hB7, hk7⟩
      go_wp2_with fail
      go_ret
      exact ⟨by simp, hB7⟩

theorem on_any (A0 : Option Addr) (c0 : Nat) (la id : Int) (l : List (Bool × Int × Int)) (w : World) (hr : Kd.C KD w A0 l.length l) :
    Calls Try.prog 4 #[.int .i64 la, .int .i64 id, .slice A0 l.length c0] w fun e w' => e = .returned (.bool true) ∧ Below w.heap.size w w' := by
  by_cases h : good la id
  · by_cases hl : l.length ≤ 300
    · rcases C_deeds hr with rfl | ⟨ad, rfl, hc⟩
      · exact on_none A0 c0 la id w h
      · exact on_some ad c0 la id l w h hc hl
    · exact on_long A0 c0 l.length la id w h (by omega) hr.2.1
  · exact on_bad A0 c0 l.length la id w h
end Go.Proofs.Ytjkaldnhfenbhaa.Mark
