/- The walk of FuseShuts. -/
import Derived.Test.YtjkaldnhfenbhaaFuseLaw
set_option linter.unusedVariables false
set_option linter.unusedSimpArgs false
namespace Go.Proofs.Ytjkaldnhfenbhaa.Fuse
open Go.RowKit Go.Proofs.YtjkaldnhfenbhaaW.PrintWords Go.Proofs.YtjkaldnhfenbhaaW.PrintLast Go.Proofs.Ytjkaldnhfenbhaa.PFusePlays

/-- the fuse behind so many fails at one tick -/
def burnt (b p at_ k : Int) : F := if k < b then ⟨b, p, 0, k, 0⟩ else ⟨b, p, 1, b, at_⟩
theorem burnt_0 (b p at_ : Int) (h : good b p) : burnt b p at_ 0 = f0 b p := by
  unfold good at h
  unfold burnt f0
  rw [if_pos (by omega)]
theorem burnt_ok (b p at_ k : Int) (h : good b p) (hk : 0 ≤ k) (ha : 0 ≤ at_ ∧ at_ ≤ 1000000000) : Ok (burnt b p at_ k) := by
  have hg := h
  unfold good at h
  unfold burnt
  by_cases c : k < b
  · rw [if_pos c]
    refine ⟨hg, .inl ⟨rfl, c⟩, ?_, ?_, ?_, ?_⟩
    all_goals (try dsimp only); omega
  · rw [if_neg c]
    refine ⟨hg, .inr (.inl rfl), ?_, ?_, ?_, ?_⟩
    all_goals (try dsimp only); omega
theorem burnt_st (b p at_ k : Int) (c : k < b) : (burnt b p at_ k).st = 0 := by
  unfold burnt
  rw [if_pos c]
theorem burnt_ask (b p at_ k : Int) (c : k < b) (ha : 0 ≤ at_ ∧ at_ ≤ 1000000000) : askF (burnt b p at_ k) at_ = (true, burnt b p at_ k) := by
  unfold burnt askF
  rw [if_pos c, if_neg (by dsimp only; omega), if_pos rfl]
theorem burnt_bad (b p at_ k : Int) (h : good b p) (c : k < b) (ha : 0 ≤ at_ ∧ at_ ≤ 1000000000) : badF (burnt b p at_ k) at_ = burnt b p at_ (k + 1) := by
  unfold good at h
  unfold burnt badF
  rw [if_pos c, if_neg (by dsimp only; omega), if_pos rfl]
  dsimp only
  by_cases c2 : k + 1 < b
  · rw [if_pos c2, if_pos c2]
  · rw [if_neg c2, if_neg c2, show k + 1 = b by omega]
theorem burnt_all (b p at_ k : Int) (c : ¬ k < b) : burnt b p at_ k = ⟨b, p, 1, b, at_⟩ := by
  unfold burnt
  rw [if_neg c]

/-- blown; or on trial, one let through -/
def shut (b p at_ n : Int) : F := ⟨b, p, if n = 0 then 1 else 2, b, at_⟩
theorem shut_ok (b p at_ n : Int) (h : good b p) (ha : 0 ≤ at_ ∧ at_ ≤ 1000000000) : Ok (shut b p at_ n) := by
  have hg := h
  unfold good at h
  unfold shut
  by_cases c : n = 0
  · rw [if_pos c]
    refine ⟨hg, .inr (.inl rfl), ?_, ?_, ?_, ?_⟩
    all_goals (try dsimp only); omega
  · rw [if_neg c]
    refine ⟨hg, .inr (.inr rfl), ?_, ?_, ?_, ?_⟩
    all_goals (try dsimp only); omega
theorem shut_no (b p at_ n t : Int) (c : t < at_ + p) : askF (shut b p at_ n) t = (false, shut b p at_ n) := by
  unfold shut askF
  by_cases h : n = 0
  · rw [if_pos h]
    by_cases c1 : t < 0 ∨ 1099511627776 < t ∨ (1 : Int) = 2
    · rw [if_pos c1]
    · rw [if_neg c1, if_neg (by dsimp only; omega), if_pos c]
  · rw [if_neg h, if_pos (.inr (.inr rfl))]
theorem shut_one (b p at_ t : Int) (c : at_ + p ≤ t) (h : 0 ≤ t ∧ t ≤ 1099511627776) : askF (shut b p at_ 0) t = (true, shut b p at_ 1) := by
  unfold shut askF
  rw [if_pos rfl, if_neg (by dsimp only; omega), if_neg (by dsimp only; omega), if_neg (by dsimp only; omega), if_neg (by omega)]
theorem shut_far (b p at_ t : Int) (h : ¬ (0 ≤ t ∧ t ≤ 1099511627776)) : askF (shut b p at_ 0) t = (false, shut b p at_ 0) := by
  unfold shut askF
  rw [if_pos (show t < 0 ∨ 1099511627776 < t ∨ _ by omega)]
theorem shut_two (b p at_ t : Int) : askF (shut b p at_ 1) t = (false, shut b p at_ 1) := by
  unfold shut askF
  rw [if_neg (show ¬ (1 : Int) = 0 by omega), if_pos (.inr (.inr rfl))]

set_option maxRecDepth 100000 in
set_option maxHeartbeats 2000000 in
theorem shuts_bad (A0 : Option Addr) (c0 n : Nat) (b p at_ : Int) (gd' : Bool) (w : World) (gd : ¬ good b p) :
    Calls Try.prog 8 #[.int .i64 b, .int .i64 p, .int .i64 at_, .slice A0 n c0, .bool gd'] w fun e w' => e = .returned (.bool true) ∧ Below w.heap.size w w' := by
  have he := Err.eql_err
  have hu := Try.underlying26
  have H := Lib.hid gd
  clear gd
  go_enter Try.func8, Try.ntmps8
  go_wp2_with fail
  refine (up_any _).mono ?_
  rintro e w1 ⟨rfl, hb⟩
  go_wp2_with fail
  refine (new_bad b p _ H.out).mono ?_
  rintro e w2 ⟨rfl, rfl⟩
  go_wp2_with fail
  go_ret
  exact ⟨rfl, hb⟩

set_option maxRecDepth 100000 in
set_option maxHeartbeats 2000000 in
theorem shuts_off (A0 : Option Addr) (c0 n : Nat) (b p at_ : Int) (gd' : Bool) (w : World) (gd : good b p) (ho : at_ < 0 ∨ 1000000000 < at_ ∨ 300 < n) (hm : n ≤ 9223372036854775807) :
    Calls Try.prog 8 #[.int .i64 b, .int .i64 p, .int .i64 at_, .slice A0 n c0, .bool gd'] w fun e w' => e = .returned (.bool true) ∧ Below w.heap.size w w' := by
  have he := Err.eql_err
  have hu := Try.underlying26
  have H := Lib.hid gd
  clear gd
  by_cases o1 : at_ < 0
  · clear ho
    go_enter Try.func8, Try.ntmps8
    go_wp2_with fail
    refine (up_any _).mono ?_
    rintro e w1 ⟨rfl, hb⟩
    go_wp2_with fail
    refine (new_good b p w _ hb H.out).mono ?_
    rintro e w2 ⟨g, rfl, hs, hb2, -, -⟩
    go_wp2_with fail
    go_ret
    exact ⟨rfl, hb2⟩
  · by_cases o2 : 1000000000 < at_
    · clear ho
      go_enter Try.func8, Try.ntmps8
      go_wp2_with fail
      refine (up_any _).mono ?_
      rintro e w1 ⟨rfl, hb⟩
      go_wp2_with fail
      refine (new_good b p w _ hb H.out).mono ?_
      rintro e w2 ⟨g, rfl, hs, hb2, -, -⟩
      go_wp2_with fail
      go_ret
      exact ⟨rfl, hb2⟩
    · have o3 : 300 < n := by omega
      clear ho
      go_enter Try.func8, Try.ntmps8
      go_wp2_with fail
      refine (up_any _).mono ?_
      rintro e w1 ⟨rfl, hb⟩
      go_wp2_with fail
      refine (new_good b p w _ hb H.out).mono ?_
      rintro e w2 ⟨g, rfl, hs, hb2, -, -⟩
      go_wp2_with fail
      go_ret
      exact ⟨rfl, hb2⟩

/-- where the fuse stands -/
def Stands (w wr : World) (g : Nat) (s : F) : Prop := Is w wr g s ∧ Below w.heap.size w wr

set_option maxRecDepth 100000 in
set_option maxHeartbeats 4000000 in
theorem shuts_some (ad : Addr) (c0 : Nat) (b p at_ : Int) (l : List Int) (gd' : Bool) (w : World) (gd : good b p) (ha : 0 ≤ at_ ∧ at_ ≤ 1000000000) (hc : ∀ j, j < l.length → w.cell? (ad.add j) = some (.int .i64 (l.getD j 0))) (hl : l.length ≤ 300) :
    Calls Try.prog 8 #[.int .i64 b, .int .i64 p, .int .i64 at_, .slice (some ad) l.length c0, .bool gd'] w fun e w' => e = .returned (.bool true) ∧ Below w.heap.size w w' := by
  have he := Err.eql_err
  have hne := Err.neq_err
  have hu := Try.underlying26
  have H := Lib.hid gd
  have HA := Lib.hid ha
  have HR := Lib.hid hc
  obtain ⟨ha1, ha2⟩ := ha
  obtain ⟨g1, g2, g3, g4⟩ := gd
  clear hc
  go_enter Try.func8, Try.ntmps8
  go_wp2_with fail
  refine (up_any _).mono ?_
  rintro e w1 ⟨rfl, hb⟩
  go_wp2_with fail
  refine (new_good b p w _ hb H.out).mono ?_
  rintro e w2 ⟨g, rfl, hs, hb2, -, -⟩
  have HX := Lib.hid (show Stands w w2 g (burnt b p at_ 0) from ⟨by rw [burnt_0 b p at_ H.out]; exact hs, hb2⟩)
  clear hs hb2 hb
  go_wp2_with fail
  go_loopw [14] (fun i wr => ∃ k : Nat, (k : Int) ≤ b ∧ i = .int .i64 k ∧ Stands w wr g (burnt b p at_ k)) (fun i _ => (b - intOf i).toNat)
  case atStart => exact ⟨0, by omega, rfl, HX.out⟩
  case round =>
    obtain ⟨k, hk, rfl, hX⟩ := hrel
    have HX := Lib.hid hX
    clear hX
    by_cases hlt : (k : Int) < b
    · obtain ⟨s, hs⟩ : ∃ s, s = burnt b p at_ k := ⟨_, rfl⟩
      have HO := Lib.hid (burnt_ok b p at_ k H.out (by omega) HA.out)
      have HT := Lib.hid (burnt_st b p at_ k hlt)
      have HK := Lib.hid (burnt_ask b p at_ k hlt HA.out)
      have HL := Lib.hid (burnt_bad b p at_ k H.out hlt HA.out)
      rw [← hs] at HX HO HT HK HL
      clear hs
      go_wp2_with fail
      refine (state_as g s w _ (by exact HX.out.1) (by exact HX.out.2)).mono ?_
      rw [HT.out]
      rintro e w3 ⟨rfl, hI, hB, -⟩
      have HX := Lib.hid (show Stands w w3 g s from ⟨hI, hB⟩)
      clear hI hB
      go_wp2_with fail
      refine (ask_as g s at_ true s w _ HK.out (by exact HX.out.1) (by exact HX.out.2) HO.out).mono ?_
      simp only [errA, errW_none, errW_some, if_true, if_false, Bool.false_eq_true]
      rintro e w4 ⟨rfl, hI, hB, -⟩
      have HX := Lib.hid (show Stands w w4 g s from ⟨hI, hB⟩)
      clear hI hB
      go_wp2_with fail
      refine (bad_as g s at_ _ w _ HL.out (by exact HX.out.1) (by exact HX.out.2) HO.out).mono ?_
      rintro e w5 ⟨rfl, hI, hB, -⟩
      have HX := Lib.hid (show Stands w w5 g (burnt b p at_ (k + 1)) from ⟨hI, hB⟩)
      clear hI hB
      go_wp2_with fail
      go_roundw
      case rel => exact ⟨k + 1, by omega, by go_num, HX.out⟩
      case measure => simp [intOf]; omega
    · have HX := Lib.hid (show Stands w _ g (shut b p at_ 0) from by have := HX.out; rw [burnt_all b p at_ k hlt] at this; exact this)
      go_wp2_with fail
      go_loopw [15, 16] (fun thr i wr => ∃ k n : Nat, k ≤ l.length ∧ n ≤ 1 ∧ thr = .int .i64 n ∧ i = .int .i64 k ∧ Stands w wr g (shut b p at_ n)) (fun _ i _ => l.length - (intOf i).toNat)
      case atStart => exact ⟨0, 0, Nat.zero_le _, by omega, rfl, rfl, HX.out⟩
      case round =>
        obtain ⟨k, n, hk2, hn, rfl, rfl, hX⟩ := hrel
        have HX := Lib.hid hX
        clear hX
        have hn2 : n = 0 ∨ n = 1 := by omega
        clear hn
        by_cases hl2 : k < l.length
        · obtain ⟨t, HCW⟩ : ∃ t, Hid (∀ w', Below w.heap.size w w' → w'.cell? (ad.add k) = some (.int .i64 t)) := ⟨l.getD k 0, fun w' hB => (hB.cell (World.block_lt_of_cell? w _ (HR.out k hl2))).trans (HR.out k hl2)⟩
          have hcell := HCW.out _ HX.out.2
          rcases hn2 with rfl | rfl
          · have HO := Lib.hid (shut_ok b p at_ 0 H.out HA.out)
            by_cases c2 : t < at_ + p
            · have HE := Lib.hid (shut_no b p at_ 0 t c2)
              go_wp2_with fail
              refine (ask_as g _ t false _ w _ HE.out (by exact HX.out.1) (by exact HX.out.2) HO.out).mono ?_
              simp only [errA, errW_none, errW_some, if_true, if_false, Bool.false_eq_true]
              rintro e w4 ⟨rfl, hI, hB, -⟩
              have HX := Lib.hid (show Stands w w4 g (shut b p at_ 0) from ⟨hI, hB⟩)
              clear hI hB
              clear HE hcell
              go_wp2_with fail
              go_roundw
              case rel => exact ⟨k + 1, 0, by omega, by omega, by go_num, by go_num, HX.out⟩
              case measure => simp [intOf]; omega
            · by_cases c3 : 0 ≤ t ∧ t ≤ 1099511627776
              · have HE := Lib.hid (shut_one b p at_ t (by omega) c3)
                go_wp2_with fail
                refine (ask_as g _ t true _ w _ HE.out (by exact HX.out.1) (by exact HX.out.2) HO.out).mono ?_
                simp only [errA, errW_none, errW_some, if_true, if_false, Bool.false_eq_true]
                rintro e w4 ⟨rfl, hI, hB, -⟩
                have HX := Lib.hid (show Stands w w4 g (shut b p at_ 1) from ⟨hI, hB⟩)
                clear hI hB
                clear HE hcell
                have hcell := HCW.out _ HX.out.2
                go_wp2_with fail
                go_roundw
                case rel => exact ⟨k + 1, 1, by omega, by omega, by go_num, by go_num, HX.out⟩
                case measure => simp [intOf]; omega
              · have HE := Lib.hid (shut_far b p at_ t c3)
                go_wp2_with fail
                refine (ask_as g _ t false _ w _ HE.out (by exact HX.out.1) (by exact HX.out.2) HO.out).mono ?_
                simp only [errA, errW_none, errW_some, if_true, if_false, Bool.false_eq_true]
                rintro e w4 ⟨rfl, hI, hB, -⟩
                have HX := Lib.hid (show Stands w w4 g (shut b p at_ 0) from ⟨hI, hB⟩)
                clear hI hB
                clear HE hcell
                go_wp2_with fail
                go_roundw
                case rel => exact ⟨k + 1, 0, by omega, by omega, by go_num, by go_num, HX.out⟩
                case measure => simp [intOf]; omega
          · have HO := Lib.hid (shut_ok b p at_ 1 H.out HA.out)
            have HE := Lib.hid (shut_two b p at_ t)
            go_wp2_with fail
            refine (ask_as g _ t false _ w _ HE.out (by exact HX.out.1) (by exact HX.out.2) HO.out).mono ?_
            simp only [errA, errW_none, errW_some, if_true, if_false, Bool.false_eq_true]
            rintro e w4 ⟨rfl, hI, hB, -⟩
            have HX := Lib.hid (show Stands w w4 g (shut b p at_ 1) from ⟨hI, hB⟩)
            clear hI hB
            clear HE hcell
            go_wp2_with fail
            go_roundw
            case rel => exact ⟨k + 1, 1, by omega, by omega, by go_num, by go_num, HX.out⟩
            case measure => simp [intOf]; omega
        · rcases hn2 with rfl | rfl
          · have HO := Lib.hid (shut_ok b p at_ 0 H.out HA.out)
            have HE := Lib.hid (shut_one b p at_ (at_ + p) (by omega) (by omega))
            go_wp2_with fail
            refine (ask_as g _ (at_ + p) true _ w _ HE.out (by exact HX.out.1) (by exact HX.out.2) HO.out).mono ?_
            simp only [errA, errW_none, errW_some, if_true, if_false, Bool.false_eq_true]
            rintro e w6 ⟨rfl, hI, hB, -⟩
            have HX := Lib.hid (show Stands w w6 g (shut b p at_ 1) from ⟨hI, hB⟩)
            clear hI hB
            clear HE HO
            have HO := Lib.hid (shut_ok b p at_ 1 H.out HA.out)
            go_wp2_with fail
            refine (state_as g _ w _ (by exact HX.out.1) (by exact HX.out.2)).mono ?_
            rw [show (shut b p at_ 1).st = 2 from rfl]
            rintro e w7 ⟨rfl, hI, hB, -⟩
            have HX := Lib.hid (show Stands w w7 g (shut b p at_ 1) from ⟨hI, hB⟩)
            clear hI hB
            rcases gd' with _ | _
            · go_wp2_with fail
              have HL := Lib.hid (show badF (shut b p at_ 1) (at_ + p) = ⟨b, p, 1, b, at_ + p⟩ by unfold shut badF; rw [if_neg (show ¬ (1 : Int) = 0 by omega), if_neg (by dsimp only; omega), if_neg (by dsimp only; omega)])
              have HO1 := Lib.hid (bad_ok _ (at_ + p) HO.out)
              rw [HL.out] at HO1
              have HK := Lib.hid (show askF ⟨b, p, 1, b, at_ + p⟩ (at_ + p) = (false, ⟨b, p, 1, b, at_ + p⟩) by unfold askF; rw [if_neg (by dsimp only; omega), if_neg (by dsimp only; omega), if_pos (by dsimp only; omega)])
              obtain ⟨s, hs⟩ : ∃ s, s = (⟨b, p, 1, b, at_ + p⟩ : F) := ⟨_, rfl⟩
              have HT := Lib.hid (show s.st = 1 by rw [hs])
              rw [← hs] at HL HO1 HK
              clear hs
              refine (bad_as g _ (at_ + p) s w _ HL.out (by exact HX.out.1) (by exact HX.out.2) HO.out).mono ?_
              rintro e w8 ⟨rfl, hI, hB, -⟩
              have HX := Lib.hid (show Stands w w8 g s from ⟨hI, hB⟩)
              clear hI hB
              go_wp2_with fail
              refine (state_as g s w _ (by exact HX.out.1) (by exact HX.out.2)).mono ?_
              rw [HT.out]
              rintro e w9 ⟨rfl, hI, hB, -⟩
              have HX := Lib.hid (show Stands w w9 g s from ⟨hI, hB⟩)
              clear hI hB
              go_wp2_with fail
              refine (ask_as g s (at_ + p) false s w _ HK.out (by exact HX.out.1) (by exact HX.out.2) HO1.out).mono ?_
              simp only [errA, errW_none, errW_some, if_true, if_false, Bool.false_eq_true]
              rintro e wa ⟨rfl, hI, hB, -⟩
              go_wp2_with fail
              go_ret
              exact ⟨rfl, hB⟩
            · go_wp2_with fail
              have HO1 := Lib.hid (good_ok _ HO.out)
              have HK := Lib.hid (show askF (goodF (shut b p at_ 1)) at_ = (true, goodF (shut b p at_ 1)) by unfold askF goodF; rw [if_neg (by dsimp only; omega), if_pos rfl])
              obtain ⟨s, hs⟩ : ∃ s, s = goodF (shut b p at_ 1) := ⟨_, rfl⟩
              have HT := Lib.hid (show s.st = 0 by rw [hs]; rfl)
              rw [← hs] at HO1 HK
              refine (good_as g _ w _ (by exact HX.out.1) (by exact HX.out.2)).mono ?_
              rw [← hs]
              clear hs
              rintro e w8 ⟨rfl, hI, hB, -⟩
              have HX := Lib.hid (show Stands w w8 g s from ⟨hI, hB⟩)
              clear hI hB
              go_wp2_with fail
              refine (state_as g s w _ (by exact HX.out.1) (by exact HX.out.2)).mono ?_
              rw [HT.out]
              rintro e w9 ⟨rfl, hI, hB, -⟩
              have HX := Lib.hid (show Stands w w9 g s from ⟨hI, hB⟩)
              clear hI hB
              go_wp2_with fail
              refine (ask_as g s at_ true s w _ HK.out (by exact HX.out.1) (by exact HX.out.2) HO1.out).mono ?_
              simp only [errA, errW_none, errW_some, if_true, if_false, Bool.false_eq_true]
              rintro e wa ⟨rfl, hI, hB, -⟩
              go_wp2_with fail
              go_ret
              exact ⟨rfl, hB⟩
          · have HO := Lib.hid (shut_ok b p at_ 1 H.out HA.out)
            have HE := Lib.hid (shut_two b p at_ (at_ + p))
            go_wp2_with fail
            refine (ask_as g _ (at_ + p) false _ w _ HE.out (by exact HX.out.1) (by exact HX.out.2) HO.out).mono ?_
            simp only [errA, errW_none, errW_some, if_true, if_false, Bool.false_eq_true]
            rintro e w6 ⟨rfl, hI, hB, -⟩
            have HX := Lib.hid (show Stands w w6 g (shut b p at_ 1) from ⟨hI, hB⟩)
            clear hI hB
            clear HE HO
            have HO := Lib.hid (shut_ok b p at_ 1 H.out HA.out)
            go_wp2_with fail
            refine (state_as g _ w _ (by exact HX.out.1) (by exact HX.out.2)).mono ?_
            rw [show (shut b p at_ 1).st = 2 from rfl]
            rintro e w7 ⟨rfl, hI, hB, -⟩
            have HX := Lib.hid (show Stands w w7 g (shut b p at_ 1) from ⟨hI, hB⟩)
            clear hI hB
            rcases gd' with _ | _
            · go_wp2_with fail
              have HL := Lib.hid (show badF (shut b p at_ 1) (at_ + p) = ⟨b, p, 1, b, at_ + p⟩ by unfold shut badF; rw [if_neg (show ¬ (1 : Int) = 0 by omega), if_neg (by dsimp only; omega), if_neg (by dsimp only; omega)])
              have HO1 := Lib.hid (bad_ok _ (at_ + p) HO.out)
              rw [HL.out] at HO1
              have HK := Lib.hid (show askF ⟨b, p, 1, b, at_ + p⟩ (at_ + p) = (false, ⟨b, p, 1, b, at_ + p⟩) by unfold askF; rw [if_neg (by dsimp only; omega), if_neg (by dsimp only; omega), if_pos (by dsimp only; omega)])
              obtain ⟨s, hs⟩ : ∃ s, s = (⟨b, p, 1, b, at_ + p⟩ : F) := ⟨_, rfl⟩
              have HT := Lib.hid (show s.st = 1 by rw [hs])
              rw [← hs] at HL HO1 HK
              clear hs
              refine (bad_as g _ (at_ + p) s w _ HL.out (by exact HX.out.1) (by exact HX.out.2) HO.out).mono ?_
              rintro e w8 ⟨rfl, hI, hB, -⟩
              have HX := Lib.hid (show Stands w w8 g s from ⟨hI, hB⟩)
              clear hI hB
              go_wp2_with fail
              refine (state_as g s w _ (by exact HX.out.1) (by exact HX.out.2)).mono ?_
              rw [HT.out]
              rintro e w9 ⟨rfl, hI, hB, -⟩
              have HX := Lib.hid (show Stands w w9 g s from ⟨hI, hB⟩)
              clear hI hB
              go_wp2_with fail
              refine (ask_as g s (at_ + p) false s w _ HK.out (by exact HX.out.1) (by exact HX.out.2) HO1.out).mono ?_
              simp only [errA, errW_none, errW_some, if_true, if_false, Bool.false_eq_true]
              rintro e wa ⟨rfl, hI, hB, -⟩
              go_wp2_with fail
              go_ret
              exact ⟨rfl, hB⟩
            · go_wp2_with fail
              have HO1 := Lib.hid (good_ok _ HO.out)
              have HK := Lib.hid (show askF (goodF (shut b p at_ 1)) at_ = (true, goodF (shut b p at_ 1)) by unfold askF goodF; rw [if_neg (by dsimp only; omega), if_pos rfl])
              obtain ⟨s, hs⟩ : ∃ s, s = goodF (shut b p at_ 1) := ⟨_, rfl⟩
              have HT := Lib.hid (show s.st = 0 by rw [hs]; rfl)
              rw [← hs] at HO1 HK
              refine (good_as g _ w _ (by exact HX.out.1) (by exact HX.out.2)).mono ?_
              rw [← hs]
              clear hs
              rintro e w8 ⟨rfl, hI, hB, -⟩
              have HX := Lib.hid (show Stands w w8 g s from ⟨hI, hB⟩)
              clear hI hB
              go_wp2_with fail
              refine (state_as g s w _ (by exact HX.out.1) (by exact HX.out.2)).mono ?_
              rw [HT.out]
              rintro e w9 ⟨rfl, hI, hB, -⟩
              have HX := Lib.hid (show Stands w w9 g s from ⟨hI, hB⟩)
              clear hI hB
              go_wp2_with fail
              refine (ask_as g s at_ true s w _ HK.out (by exact HX.out.1) (by exact HX.out.2) HO1.out).mono ?_
              simp only [errA, errW_none, errW_some, if_true, if_false, Bool.false_eq_true]
              rintro e wa ⟨rfl, hI, hB, -⟩
              go_wp2_with fail
              go_ret
              exact ⟨rfl, hB⟩

set_option maxRecDepth 100000 in
set_option maxHeartbeats 4000000 in
theorem shuts_none (A0 : Option Addr) (c0 : Nat) (b p at_ : Int) (gd' : Bool) (w : World) (gd : good b p) (ha : 0 ≤ at_ ∧ at_ ≤ 1000000000) :
    Calls Try.prog 8 #[.int .i64 b, .int .i64 p, .int .i64 at_, .slice A0 0 c0, .bool gd'] w fun e w' => e = .returned (.bool true) ∧ Below w.heap.size w w' := by
  have he := Err.eql_err
  have hne := Err.neq_err
  have hu := Try.underlying26
  have H := Lib.hid gd
  have HA := Lib.hid ha
  obtain ⟨ha1, ha2⟩ := ha
  obtain ⟨g1, g2, g3, g4⟩ := gd
  go_enter Try.func8, Try.ntmps8
  go_wp2_with fail
  refine (up_any _).mono ?_
  rintro e w1 ⟨rfl, hb⟩
  go_wp2_with fail
  refine (new_good b p w _ hb H.out).mono ?_
  rintro e w2 ⟨g, rfl, hs, hb2, -, -⟩
  have HX := Lib.hid (show Stands w w2 g (burnt b p at_ 0) from ⟨by rw [burnt_0 b p at_ H.out]; exact hs, hb2⟩)
  clear hs hb2 hb
  go_wp2_with fail
  go_loopw [14] (fun i wr => ∃ k : Nat, (k : Int) ≤ b ∧ i = .int .i64 k ∧ Stands w wr g (burnt b p at_ k)) (fun i _ => (b - intOf i).toNat)
  case atStart => exact ⟨0, by omega, rfl, HX.out⟩
  case round =>
    obtain ⟨k, hk, rfl, hX⟩ := hrel
    have HX := Lib.hid hX
    clear hX
    by_cases hlt : (k : Int) < b
    · obtain ⟨s, hs⟩ : ∃ s, s = burnt b p at_ k := ⟨_, rfl⟩
      have HO := Lib.hid (burnt_ok b p at_ k H.out (by omega) HA.out)
      have HT := Lib.hid (burnt_st b p at_ k hlt)
      have HK := Lib.hid (burnt_ask b p at_ k hlt HA.out)
      have HL := Lib.hid (burnt_bad b p at_ k H.out hlt HA.out)
      rw [← hs] at HX HO HT HK HL
      clear hs
      go_wp2_with fail
      refine (state_as g s w _ (by exact HX.out.1) (by exact HX.out.2)).mono ?_
      rw [HT.out]
      rintro e w3 ⟨rfl, hI, hB, -⟩
      have HX := Lib.hid (show Stands w w3 g s from ⟨hI, hB⟩)
      clear hI hB
      go_wp2_with fail
      refine (ask_as g s at_ true s w _ HK.out (by exact HX.out.1) (by exact HX.out.2) HO.out).mono ?_
      simp only [errA, errW_none, errW_some, if_true, if_false, Bool.false_eq_true]
      rintro e w4 ⟨rfl, hI, hB, -⟩
      have HX := Lib.hid (show Stands w w4 g s from ⟨hI, hB⟩)
      clear hI hB
      go_wp2_with fail
      refine (bad_as g s at_ _ w _ HL.out (by exact HX.out.1) (by exact HX.out.2) HO.out).mono ?_
      rintro e w5 ⟨rfl, hI, hB, -⟩
      have HX := Lib.hid (show Stands w w5 g (burnt b p at_ (k + 1)) from ⟨hI, hB⟩)
      clear hI hB
      go_wp2_with fail
      go_roundw
      case rel => exact ⟨k + 1, by omega, by go_num, HX.out⟩
      case measure => simp [intOf]; omega
    · have HX := Lib.hid (show Stands w _ g (shut b p at_ 0) from by have := HX.out; rw [burnt_all b p at_ k hlt] at this; exact this)
      go_wp2_with fail
      go_loopw [15, 16] (fun thr i wr => ∃ k n : Nat, k = 0 ∧ n ≤ 1 ∧ thr = .int .i64 n ∧ i = .int .i64 k ∧ Stands w wr g (shut b p at_ n)) (fun _ i _ => 0)
      case atStart => exact ⟨0, 0, rfl, by omega, rfl, rfl, HX.out⟩
      case round =>
        obtain ⟨k, n, hk2, hn, rfl, rfl, hX⟩ := hrel
        have HX := Lib.hid hX
        clear hX
        have hn2 : n = 0 ∨ n = 1 := by omega
        clear hn
        subst hk2
        rcases hn2 with rfl | rfl
        · have HO := Lib.hid (shut_ok b p at_ 0 H.out HA.out)
          have HE := Lib.hid (shut_one b p at_ (at_ + p) (by omega) (by omega))
          go_wp2_with fail
          refine (ask_as g _ (at_ + p) true _ w _ HE.out (by exact HX.out.1) (by exact HX.out.2) HO.out).mono ?_
          simp only [errA, errW_none, errW_some, if_true, if_false, Bool.false_eq_true]
          rintro e w6 ⟨rfl, hI, hB, -⟩
          have HX := Lib.hid (show Stands w w6 g (shut b p at_ 1) from ⟨hI, hB⟩)
          clear hI hB
          clear HE HO
          have HO := Lib.hid (shut_ok b p at_ 1 H.out HA.out)
          go_wp2_with fail
          refine (state_as g _ w _ (by exact HX.out.1) (by exact HX.out.2)).mono ?_
          rw [show (shut b p at_ 1).st = 2 from rfl]
          rintro e w7 ⟨rfl, hI, hB, -⟩
          have HX := Lib.hid (show Stands w w7 g (shut b p at_ 1) from ⟨hI, hB⟩)
          clear hI hB
          rcases gd' with _ | _
          · go_wp2_with fail
            have HL := Lib.hid (show badF (shut b p at_ 1) (at_ + p) = ⟨b, p, 1, b, at_ + p⟩ by unfold shut badF; rw [if_neg (show ¬ (1 : Int) = 0 by omega), if_neg (by dsimp only; omega), if_neg (by dsimp only; omega)])
            have HO1 := Lib.hid (bad_ok _ (at_ + p) HO.out)
            rw [HL.out] at HO1
            have HK := Lib.hid (show askF ⟨b, p, 1, b, at_ + p⟩ (at_ + p) = (false, ⟨b, p, 1, b, at_ + p⟩) by unfold askF; rw [if_neg (by dsimp only; omega), if_neg (by dsimp only; omega), if_pos (by dsimp only; omega)])
            obtain ⟨s, hs⟩ : ∃ s, s = (⟨b, p, 1, b, at_ + p⟩ : F) := ⟨_, rfl⟩
            have HT := Lib.hid (show s.st = 1 by rw [hs])
            rw [← hs] at HL HO1 HK
            clear hs
            refine (bad_as g _ (at_ + p) s w _ HL.out (by exact HX.out.1) (by exact HX.out.2) HO.out).mono ?_
            rintro e w8 ⟨rfl, hI, hB, -⟩
            have HX := Lib.hid (show Stands w w8 g s from ⟨hI, hB⟩)
            clear hI hB
            go_wp2_with fail
            refine (state_as g s w _ (by exact HX.out.1) (by exact HX.out.2)).mono ?_
            rw [HT.out]
            rintro e w9 ⟨rfl, hI, hB, -⟩
            have HX := Lib.hid (show Stands w w9 g s from ⟨hI, hB⟩)
            clear hI hB
            go_wp2_with fail
            refine (ask_as g s (at_ + p) false s w _ HK.out (by exact HX.out.1) (by exact HX.out.2) HO1.out).mono ?_
            simp only [errA, errW_none, errW_some, if_true, if_false, Bool.false_eq_true]
            rintro e wa ⟨rfl, hI, hB, -⟩
            go_wp2_with fail
            go_ret
            exact ⟨rfl, hB⟩
          · go_wp2_with fail
            have HO1 := Lib.hid (good_ok _ HO.out)
            have HK := Lib.hid (show askF (goodF (shut b p at_ 1)) at_ = (true, goodF (shut b p at_ 1)) by unfold askF goodF; rw [if_neg (by dsimp only; omega), if_pos rfl])
            obtain ⟨s, hs⟩ : ∃ s, s = goodF (shut b p at_ 1) := ⟨_, rfl⟩
            have HT := Lib.hid (show s.st = 0 by rw [hs]; rfl)
            rw [← hs] at HO1 HK
            refine (good_as g _ w _ (by exact HX.out.1) (by exact HX.out.2)).mono ?_
            rw [← hs]
            clear hs
            rintro e w8 ⟨rfl, hI, hB, -⟩
            have HX := Lib.hid (show Stands w w8 g s from ⟨hI, hB⟩)
            clear hI hB
            go_wp2_with fail
            refine (state_as g s w _ (by exact HX.out.1) (by exact HX.out.2)).mono ?_
            rw [HT.out]
            rintro e w9 ⟨rfl, hI, hB, -⟩
            have HX := Lib.hid (show Stands w w9 g s from ⟨hI, hB⟩)
            clear hI hB
            go_wp2_with fail
            refine (ask_as g s at_ true s w _ HK.out (by exact HX.out.1) (by exact HX.out.2) HO1.out).mono ?_
            simp only [errA, errW_none, errW_some, if_true, if_false, Bool.false_eq_true]
            rintro e wa ⟨rfl, hI, hB, -⟩
            go_wp2_with fail
            go_ret
            exact ⟨rfl, hB⟩
        · have HO := Lib.hid (shut_ok b p at_ 1 H.out HA.out)
          have HE := Lib.hid (shut_two b p at_ (at_ + p))
          go_wp2_with fail
          refine (ask_as g _ (at_ + p) false _ w _ HE.out (by exact HX.out.1) (by exact HX.out.2) HO.out).mono ?_
          simp only [errA, errW_none, errW_some, if_true, if_false, Bool.false_eq_true]
          rintro e w6 ⟨rfl, hI, hB, -⟩
          have HX := Lib.hid (show Stands w w6 g (shut b p at_ 1) from ⟨hI, hB⟩)
          clear hI hB
          clear HE HO
          have HO := Lib.hid (shut_ok b p at_ 1 H.out HA.out)
          go_wp2_with fail
          refine (state_as g _ w _ (by exact HX.out.1) (by exact HX.out.2)).mono ?_
          rw [show (shut b p at_ 1).st = 2 from rfl]
          rintro e w7 ⟨rfl, hI, hB, -⟩
          have HX := Lib.hid (show Stands w w7 g (shut b p at_ 1) from ⟨hI, hB⟩)
          clear hI hB
          rcases gd' with _ | _
          · go_wp2_with fail
            have HL := Lib.hid (show badF (shut b p at_ 1) (at_ + p) = ⟨b, p, 1, b, at_ + p⟩ by unfold shut badF; rw [if_neg (show ¬ (1 : Int) = 0 by omega), if_neg (by dsimp only; omega), if_neg (by dsimp only; omega)])
            have HO1 := Lib.hid (bad_ok _ (at_ + p) HO.out)
            rw [HL.out] at HO1
            have HK := Lib.hid (show askF ⟨b, p, 1, b, at_ + p⟩ (at_ + p) = (false, ⟨b, p, 1, b, at_ + p⟩) by unfold askF; rw [if_neg (by dsimp only; omega), if_neg (by dsimp only; omega), if_pos (by dsimp only; omega)])
            obtain ⟨s, hs⟩ : ∃ s, s = (⟨b, p, 1, b, at_ + p⟩ : F) := ⟨_, rfl⟩
            have HT := Lib.hid (show s.st = 1 by rw [hs])
            rw [← hs] at HL HO1 HK
            clear hs
            refine (bad_as g _ (at_ + p) s w _ HL.out (by exact HX.out.1) (by exact HX.out.2) HO.out).mono ?_
            rintro e w8 ⟨rfl, hI, hB, -⟩
            have HX := Lib.hid (show Stands w w8 g s from ⟨hI, hB⟩)
            clear hI hB
            go_wp2_with fail
            refine (state_as g s w _ (by exact HX.out.1) (by exact HX.out.2)).mono ?_
            rw [HT.out]
            rintro e w9 ⟨rfl, hI, hB, -⟩
            have HX := Lib.hid (show Stands w w9 g s from ⟨hI, hB⟩)
            clear hI hB
            go_wp2_with fail
            refine (ask_as g s (at_ + p) false s w _ HK.out (by exact HX.out.1) (by exact HX.out.2) HO1.out).mono ?_
            simp only [errA, errW_none, errW_some, if_true, if_false, Bool.false_eq_true]
            rintro e wa ⟨rfl, hI, hB, -⟩
            go_wp2_with fail
            go_ret
            exact ⟨rfl, hB⟩
          · go_wp2_with fail
            have HO1 := Lib.hid (good_ok _ HO.out)
            have HK := Lib.hid (show askF (goodF (shut b p at_ 1)) at_ = (true, goodF (shut b p at_ 1)) by unfold askF goodF; rw [if_neg (by dsimp only; omega), if_pos rfl])
            obtain ⟨s, hs⟩ : ∃ s, s = goodF (shut b p at_ 1) := ⟨_, rfl⟩
            have HT := Lib.hid (show s.st = 0 by rw [hs]; rfl)
            rw [← hs] at HO1 HK
            refine (good_as g _ w _ (by exact HX.out.1) (by exact HX.out.2)).mono ?_
            rw [← hs]
            clear hs
            rintro e w8 ⟨rfl, hI, hB, -⟩
            have HX := Lib.hid (show Stands w w8 g s from ⟨hI, hB⟩)
            clear hI hB
            go_wp2_with fail
            refine (state_as g s w _ (by exact HX.out.1) (by exact HX.out.2)).mono ?_
            rw [HT.out]
            rintro e w9 ⟨rfl, hI, hB, -⟩
            have HX := Lib.hid (show Stands w w9 g s from ⟨hI, hB⟩)
            clear hI hB
            go_wp2_with fail
            refine (ask_as g s at_ true s w _ HK.out (by exact HX.out.1) (by exact HX.out.2) HO1.out).mono ?_
            simp only [errA, errW_none, errW_some, if_true, if_false, Bool.false_eq_true]
            rintro e wa ⟨rfl, hI, hB, -⟩
            go_wp2_with fail
            go_ret
            exact ⟨rfl, hB⟩

theorem shuts_any (A0 : Option Addr) (c0 : Nat) (b p at_ : Int) (l : List Int) (gd' : Bool) (w : World) (hr : Kd.C (Kd.int .i64) w A0 l.length l) :
    Calls Try.prog 8 #[.int .i64 b, .int .i64 p, .int .i64 at_, .slice A0 l.length c0, .bool gd'] w fun e w' => e = .returned (.bool true) ∧ Below w.heap.size w w' := by
  by_cases h : good b p
  · by_cases ho : at_ < 0 ∨ 1000000000 < at_ ∨ 300 < l.length
    · exact shuts_off A0 c0 l.length b p at_ gd' w h ho hr.2.1
    · rcases Lists.C_ints hr with rfl | ⟨ad, rfl, hc⟩
      · exact shuts_none A0 c0 b p at_ gd' w h (by omega)
      · exact shuts_some ad c0 b p at_ l gd' w h (by omega) hc (by omega)
  · exact shuts_bad A0 c0 l.length b p at_ gd' w h
end Go.Proofs.Ytjkaldnhfenbhaa.Fuse
