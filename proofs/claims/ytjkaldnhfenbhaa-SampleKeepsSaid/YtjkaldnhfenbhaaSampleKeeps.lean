/- The walk of the statement SampleKeeps. -/
import Derived.Test.YtjkaldnhfenbhaaSampleW2
set_option linter.unusedVariables false
set_option linter.unusedSimpArgs false
namespace Go.Proofs.Ytjkaldnhfenbhaa.Sample
open Go.RowKit Go.Proofs.YtjkaldnhfenbhaaW.PrintWords Go.Proofs.YtjkaldnhfenbhaaW.PrintLast Go.Proofs.Ytjkaldnhfenbhaa.PSampleKeeps

def PostK (w : World) (e : Ending) (w' : World) : Prop := e = .returned (.bool true) ∧ Below w.heap.size w w'
abbrev RLK (w : World) (A0 : Option Addr) (l : List (List Int)) : Prop := Kd.C (Kd.slice 3 (Kd.int .i64)) w A0 l.length l
def KEYS (w : World) (A3 : Option Addr) (keys : List ByteArray) : Prop := keys = [] ∨ ∃ ad, A3 = some ad ∧ ∀ j, j < keys.length → w.cell? (ad.add j) = some (.string (keys.getD j ByteArray.empty))
/-- the head of the first row, where there is one -/
theorem head_cell {w : World} {A0 : Option Addr} {l : List (List Int)} (hr : RLK w A0 l) (h : 0 < l.length) : ∃ (ad : Addr) (A1 : Option Addr) (n1 c1 : Nat), A0 = some ad ∧ n1 = (l.getD 0 []).length ∧ ∀ W, Fr [] w W → W.cell? ad = some (.slice A1 n1 c1) := by
  obtain ⟨ad, A1, c1, e, hcell, _, _⟩ := at_L1 hr 0 (by omega) (by omega)
  refine ⟨ad, A1, _, c1, e, rfl, fun W hW => ?_⟩
  have := hW.cell0 hcell
  exact this

set_option maxRecDepth 100000 in
set_option maxHeartbeats 2000000 in
theorem keeps_few (A0 : Option Addr) (c0 : Nat) (l : List (List Int)) (c v : Int) (A3 : Option Addr) (n3 c3 : Nat) (w : World) (hr : RLK w A0 l) (hc : l.length ≤ c0) (hm : n3 ≤ 9223372036854775807)
    (b : Bool) (hb : nogginlaw15_few.f (l.length + 1) l = some b) (h : b = false ∨ 50 < n3) :
    Calls Try.prog 10 #[.slice A0 l.length c0, .int .i64 c, .int .i64 v, .slice A3 n3 c3] w (PostK w) := by
  have HR := Lib.hid hr
  have HC := Lib.hid hc
  have HB := Lib.hid hb
  have HG := Lib.hid (show ∀ w1 : World, Fr [] w w1 → RLK w1 A0 l from fun w1 h => Kd.C_below hr h.below0)
  clear hr hc hb
  by_cases h1 : b = false
  · subst h1
    clear h
    go_enter Try.func10, Try.ntmps10
    go_wp2_with fail
    refine (up_any _).mono ?_
    rintro e w1 ⟨rfl, hF⟩
    have HF := Lib.hid hF
    clear hF
    go_wp2_with fail
    refine (nogginlaw15_few.calls _ A0 c0 l _ w1 (HG.out w1 HF.out) HC.out HB.out).mono ?_
    rintro e w2 ⟨rfl, hd⟩
    have HF2 := Lib.hid (HF.out.trans (Fr.of_drawn hd)).below0
    clear hd HF
    go_wp2_with fail
    go_ret
    exact ⟨rfl, HF2.out⟩
  · have h2 : 50 < n3 := by
      rcases h with h | h
      · exact absurd h h1
      · exact h
    obtain rfl : b = true := by simpa using h1
    clear h h1
    go_enter Try.func10, Try.ntmps10
    go_wp2_with fail
    refine (up_any _).mono ?_
    rintro e w1 ⟨rfl, hF⟩
    have HF := Lib.hid hF
    clear hF
    go_wp2_with fail
    refine (nogginlaw15_few.calls _ A0 c0 l _ w1 (HG.out w1 HF.out) HC.out HB.out).mono ?_
    rintro e w2 ⟨rfl, hd⟩
    have HF2 := Lib.hid (HF.out.trans (Fr.of_drawn hd)).below0
    clear hd HF
    go_wp2_with fail
    go_ret
    exact ⟨rfl, HF2.out⟩

set_option maxRecDepth 100000 in
set_option maxHeartbeats 8000000 in
theorem keeps_no1 (A0 : Option Addr) (c0 : Nat) (l : List (List Int)) (c v : Int) (A3 : Option Addr) (c3 : Nat) (keys : List ByteArray) (w : World) (hr : RLK w A0 l) (hc : l.length ≤ c0) (hkl : keys.length ≤ 50) (hrk : KEYS w A3 keys) (hb : nogginlaw15_few.f (l.length + 1) l = some true) (h : ¬ MayP l) :
    Calls Try.prog 10 #[.slice A0 l.length c0, .int .i64 c, .int .i64 v, .slice A3 keys.length c3] w (PostK w) := by
  have he := Err.eql_err
  have hn : ∀ w, (binOp .neq 26 (.iface 29 (.int .i64 1)) (.iface 29 (.int .i64 1))).run Try.prog w = .ok (.bool false) w := fun w => (Err.neq_err w 1 1).trans rfl
  have hu := Try.underlying26
  have HC := Lib.hid hc
  have HB := Lib.hid hb
  have HK := Lib.hid hrk
  have HG := Lib.hid (show ∀ w1 : World, Fr [] w w1 → RLK w1 A0 l from fun w1 h => Kd.C_below hr h.below0)
  obtain ⟨b1, hm1, hm2⟩ := may_f l 40 (by omega)
  obtain ⟨b2, ht1, ht2⟩ := th_f l 201 (by omega)
  obtain rfl : b1 = false := by cases b1 <;> simp_all
  obtain rfl : b2 = false := by cases b2 <;> simp_all
  have HM := Lib.hid hm1
  have HT := Lib.hid ht1
  have HN := Lib.hid (show ¬ There l c v from fun hth => h hth.1)
  clear hr hc hb hrk hm1 hm2 ht1 ht2 h
  go_enter Try.func10, Try.ntmps10
  go_wp2_with fail
  refine (up_any _).mono ?_
  rintro e w1 ⟨rfl, hF⟩
  have HF := Lib.hid hF
  clear hF
  go_wp2_with fail
  refine (nogginlaw15_few.calls _ A0 c0 l _ w1 (HG.out w1 HF.out) HC.out HB.out).mono ?_
  rintro e w2 ⟨rfl, hd⟩
  have HF2 := Lib.hid (HF.out.trans (Fr.of_drawn hd))
  clear hd HF
  go_wp2_with fail
  refine (nogginref14_Thresholds.calls 201 A0 c0 l _ w2 (HG.out w2 HF2.out) HC.out HT.out).mono ?_
  rintro e w3 ⟨rfl, hd⟩
  have HF3 := Lib.hid (HF2.out.trans (Fr.of_drawn hd))
  clear hd HF2
  go_wp2_with fail
  refine (sample_May.calls 40 A0 c0 l _ w3 (HG.out w3 HF3.out) HC.out HM.out).mono ?_
  rintro e w4 ⟨rfl, hd⟩
  have HF4 := Lib.hid (HF3.out.trans (Fr.of_drawn hd))
  clear hd HF3
  go_wp2_with fail
  go_loopw [13, 14] (fun n i wr => n = .int .i64 0 ∧ ∃ k : Nat, k ≤ keys.length ∧ i = .int .i64 k ∧ Fr [] w wr) (fun _ i _ => keys.length - (intOf i).toNat)
  case atStart => exact ⟨rfl, 0, Nat.zero_le _, rfl, HF4.out⟩
  case round =>
    obtain ⟨rfl, k, hk, rfl, hF⟩ := hrel
    clear HF4
    have HF := Lib.hid hF
    clear hF
    by_cases hlt : k < keys.length
    · obtain ⟨ad3, rfl, hcell⟩ : ∃ ad3, A3 = some ad3 ∧ ∀ W, Fr [] w W → W.cell? (ad3.add k) = some (.string (keys.getD k ByteArray.empty)) := by
        rcases HK.out with h0 | ⟨ad3, h1, h2⟩
        · rw [h0] at hlt
          exact absurd hlt (Nat.not_lt_zero _)
        · exact ⟨ad3, h1, fun W hW => hW.cell0 (h2 k hlt)⟩
      obtain ⟨s, hs⟩ : ∃ s, s = keys.getD k ByteArray.empty := ⟨_, rfl⟩
      rw [← hs] at hcell
      have e1 := hcell wr HF.out
      have HE := Lib.hid hcell
      clear hcell hs
      by_cases hsz : 1000 < s.size
      · have HF5 := Lib.hid HF.out.below0
        go_wp2_with fail
        go_ret
        exact ⟨rfl, HF5.out⟩
      · go_wp2_with fail
        refine (keep_no A0 c0 l c v s wr (HG.out wr HF.out) HC.out HN.out).mono ?_
        rintro e w5 ⟨rfl, hF⟩
        have HF5 := Lib.hid (HF.out.trans hF)
        clear hF HF e1
        go_wp2_with fail
        go_roundw
        case rel => exact ⟨rfl, k + 1, by omega, by go_num, HF5.out⟩
        case measure => simp [intOf]; omega
    · obtain rfl : k = keys.length := by omega
      go_wp2_with fail
      refine (lost_no A0 c0 l c v A3 keys.length c3 wr (HG.out wr HF.out) HC.out HN.out).mono ?_
      rintro e w5 ⟨rfl, hF⟩
      have HF5 := Lib.hid (HF.out.trans hF).below0
      clear hF HF
      go_wp2_with fail
      go_ret
      exact ⟨rfl, HF5.out⟩

set_option maxRecDepth 100000 in
set_option maxHeartbeats 8000000 in
theorem keeps_no2a (A0 : Option Addr) (c0 : Nat) (l : List (List Int)) (c v : Int) (A3 : Option Addr) (c3 : Nat) (keys : List ByteArray) (w : World) (hr : RLK w A0 l) (hc : l.length ≤ c0) (hkl : keys.length ≤ 50) (hrk : KEYS w A3 keys) (hb : nogginlaw15_few.f (l.length + 1) l = some true) (hmay : MayP l) (h : c < 0) :
    Calls Try.prog 10 #[.slice A0 l.length c0, .int .i64 c, .int .i64 v, .slice A3 keys.length c3] w (PostK w) := by
  have he := Err.eql_err
  have hn : ∀ w, (binOp .neq 26 (.iface 29 (.int .i64 1)) (.iface 29 (.int .i64 1))).run Try.prog w = .ok (.bool false) w := fun w => (Err.neq_err w 1 1).trans rfl
  have hu := Try.underlying26
  have HC := Lib.hid hc
  have HB := Lib.hid hb
  have HK := Lib.hid hrk
  have HG := Lib.hid (show ∀ w1 : World, Fr [] w w1 → RLK w1 A0 l from fun w1 h => Kd.C_below hr h.below0)
  obtain ⟨b1, hm1, hm2⟩ := may_f l 40 (by omega)
  obtain ⟨b2, ht1, ht2⟩ := th_f l 201 (by omega)
  obtain rfl : b1 = true := hm2.2 hmay
  obtain rfl : b2 = true := ht2.2 hmay
  have HM := Lib.hid hm1
  have HT := Lib.hid ht1
  have HN := Lib.hid (show ¬ There l c v from fun h2 => by have := h2.2.1; omega)
  have hl0 := hmay.lo
  have hl4 := hmay.hi
  clear hr hc hb hrk hm1 hm2 ht1 ht2 hmay
  go_enter Try.func10, Try.ntmps10
  go_wp2_with fail
  refine (up_any _).mono ?_
  rintro e w1 ⟨rfl, hF⟩
  have HF := Lib.hid hF
  clear hF
  go_wp2_with fail
  refine (nogginlaw15_few.calls _ A0 c0 l _ w1 (HG.out w1 HF.out) HC.out HB.out).mono ?_
  rintro e w2 ⟨rfl, hd⟩
  have HF2 := Lib.hid (HF.out.trans (Fr.of_drawn hd))
  clear hd HF
  go_wp2_with fail
  refine (nogginref14_Thresholds.calls 201 A0 c0 l _ w2 (HG.out w2 HF2.out) HC.out HT.out).mono ?_
  rintro e w3 ⟨rfl, hd⟩
  have HF3 := Lib.hid (HF2.out.trans (Fr.of_drawn hd))
  clear hd HF2
  go_wp2_with fail
  refine (sample_May.calls 40 A0 c0 l _ w3 (HG.out w3 HF3.out) HC.out HM.out).mono ?_
  rintro e w4 ⟨rfl, hd⟩
  have HF4 := Lib.hid (HF3.out.trans (Fr.of_drawn hd))
  clear hd HF3
  go_wp2_with fail
  go_loopw [13, 14] (fun n i wr => n = .int .i64 0 ∧ ∃ k : Nat, k ≤ keys.length ∧ i = .int .i64 k ∧ Fr [] w wr) (fun _ i _ => keys.length - (intOf i).toNat)
  case atStart => exact ⟨rfl, 0, Nat.zero_le _, rfl, HF4.out⟩
  case round =>
    obtain ⟨rfl, k, hk, rfl, hF⟩ := hrel
    clear HF4
    have HF := Lib.hid hF
    clear hF
    by_cases hlt : k < keys.length
    · obtain ⟨ad3, rfl, hcell⟩ : ∃ ad3, A3 = some ad3 ∧ ∀ W, Fr [] w W → W.cell? (ad3.add k) = some (.string (keys.getD k ByteArray.empty)) := by
        rcases HK.out with h0 | ⟨ad3, h1, h2⟩
        · rw [h0] at hlt
          exact absurd hlt (Nat.not_lt_zero _)
        · exact ⟨ad3, h1, fun W hW => hW.cell0 (h2 k hlt)⟩
      obtain ⟨s, hs⟩ : ∃ s, s = keys.getD k ByteArray.empty := ⟨_, rfl⟩
      rw [← hs] at hcell
      have e1 := hcell wr HF.out
      have HE := Lib.hid hcell
      clear hcell hs
      by_cases hsz : 1000 < s.size
      · have HF5 := Lib.hid HF.out.below0
        go_wp2_with fail
        go_ret
        exact ⟨rfl, HF5.out⟩
      · go_wp2_with fail
        refine (keep_no A0 c0 l c v s wr (HG.out wr HF.out) HC.out HN.out).mono ?_
        rintro e w5 ⟨rfl, hF⟩
        have HF5 := Lib.hid (HF.out.trans hF)
        clear hF HF e1
        go_wp2_with fail
        go_roundw
        case rel => exact ⟨rfl, k + 1, by omega, by go_num, HF5.out⟩
        case measure => simp [intOf]; omega
    · obtain rfl : k = keys.length := by omega
      go_wp2_with fail
      refine (lost_no A0 c0 l c v A3 keys.length c3 wr (HG.out wr HF.out) HC.out HN.out).mono ?_
      rintro e w5 ⟨rfl, hF⟩
      have HF5 := Lib.hid (HF.out.trans hF).below0
      clear hF HF
      go_wp2_with fail
      go_ret
      exact ⟨rfl, HF5.out⟩

set_option maxRecDepth 100000 in
set_option maxHeartbeats 8000000 in
theorem keeps_no2b (A0 : Option Addr) (c0 : Nat) (l : List (List Int)) (c v : Int) (A3 : Option Addr) (c3 : Nat) (keys : List ByteArray) (w : World) (hr : RLK w A0 l) (hc : l.length ≤ c0) (hkl : keys.length ≤ 50) (hrk : KEYS w A3 keys) (hb : nogginlaw15_few.f (l.length + 1) l = some true) (hmay : MayP l) (h : (l.length : Int) ≤ c) :
    Calls Try.prog 10 #[.slice A0 l.length c0, .int .i64 c, .int .i64 v, .slice A3 keys.length c3] w (PostK w) := by
  have he := Err.eql_err
  have hn : ∀ w, (binOp .neq 26 (.iface 29 (.int .i64 1)) (.iface 29 (.int .i64 1))).run Try.prog w = .ok (.bool false) w := fun w => (Err.neq_err w 1 1).trans rfl
  have hu := Try.underlying26
  have HC := Lib.hid hc
  have HB := Lib.hid hb
  have HK := Lib.hid hrk
  have HG := Lib.hid (show ∀ w1 : World, Fr [] w w1 → RLK w1 A0 l from fun w1 h => Kd.C_below hr h.below0)
  obtain ⟨b1, hm1, hm2⟩ := may_f l 40 (by omega)
  obtain ⟨b2, ht1, ht2⟩ := th_f l 201 (by omega)
  obtain rfl : b1 = true := hm2.2 hmay
  obtain rfl : b2 = true := ht2.2 hmay
  have HM := Lib.hid hm1
  have HT := Lib.hid ht1
  have HN := Lib.hid (show ¬ There l c v from fun h2 => by have := h2.2.2.1; omega)
  have hl0 := hmay.lo
  have hl4 := hmay.hi
  clear hr hc hb hrk hm1 hm2 ht1 ht2 hmay
  go_enter Try.func10, Try.ntmps10
  go_wp2_with fail
  refine (up_any _).mono ?_
  rintro e w1 ⟨rfl, hF⟩
  have HF := Lib.hid hF
  clear hF
  go_wp2_with fail
  refine (nogginlaw15_few.calls _ A0 c0 l _ w1 (HG.out w1 HF.out) HC.out HB.out).mono ?_
  rintro e w2 ⟨rfl, hd⟩
  have HF2 := Lib.hid (HF.out.trans (Fr.of_drawn hd))
  clear hd HF
  go_wp2_with fail
  refine (nogginref14_Thresholds.calls 201 A0 c0 l _ w2 (HG.out w2 HF2.out) HC.out HT.out).mono ?_
  rintro e w3 ⟨rfl, hd⟩
  have HF3 := Lib.hid (HF2.out.trans (Fr.of_drawn hd))
  clear hd HF2
  go_wp2_with fail
  refine (sample_May.calls 40 A0 c0 l _ w3 (HG.out w3 HF3.out) HC.out HM.out).mono ?_
  rintro e w4 ⟨rfl, hd⟩
  have HF4 := Lib.hid (HF3.out.trans (Fr.of_drawn hd))
  clear hd HF3
  go_wp2_with fail
  go_loopw [13, 14] (fun n i wr => n = .int .i64 0 ∧ ∃ k : Nat, k ≤ keys.length ∧ i = .int .i64 k ∧ Fr [] w wr) (fun _ i _ => keys.length - (intOf i).toNat)
  case atStart => exact ⟨rfl, 0, Nat.zero_le _, rfl, HF4.out⟩
  case round =>
    obtain ⟨rfl, k, hk, rfl, hF⟩ := hrel
    clear HF4
    have HF := Lib.hid hF
    clear hF
    by_cases hlt : k < keys.length
    · obtain ⟨ad3, rfl, hcell⟩ : ∃ ad3, A3 = some ad3 ∧ ∀ W, Fr [] w W → W.cell? (ad3.add k) = some (.string (keys.getD k ByteArray.empty)) := by
        rcases HK.out with h0 | ⟨ad3, h1, h2⟩
        · rw [h0] at hlt
          exact absurd hlt (Nat.not_lt_zero _)
        · exact ⟨ad3, h1, fun W hW => hW.cell0 (h2 k hlt)⟩
      obtain ⟨s, hs⟩ : ∃ s, s = keys.getD k ByteArray.empty := ⟨_, rfl⟩
      rw [← hs] at hcell
      have e1 := hcell wr HF.out
      have HE := Lib.hid hcell
      clear hcell hs
      by_cases hsz : 1000 < s.size
      · have HF5 := Lib.hid HF.out.below0
        go_wp2_with fail
        go_ret
        exact ⟨rfl, HF5.out⟩
      · go_wp2_with fail
        refine (keep_no A0 c0 l c v s wr (HG.out wr HF.out) HC.out HN.out).mono ?_
        rintro e w5 ⟨rfl, hF⟩
        have HF5 := Lib.hid (HF.out.trans hF)
        clear hF HF e1
        go_wp2_with fail
        go_roundw
        case rel => exact ⟨rfl, k + 1, by omega, by go_num, HF5.out⟩
        case measure => simp [intOf]; omega
    · obtain rfl : k = keys.length := by omega
      go_wp2_with fail
      refine (lost_no A0 c0 l c v A3 keys.length c3 wr (HG.out wr HF.out) HC.out HN.out).mono ?_
      rintro e w5 ⟨rfl, hF⟩
      have HF5 := Lib.hid (HF.out.trans hF).below0
      clear hF HF
      go_wp2_with fail
      go_ret
      exact ⟨rfl, HF5.out⟩

set_option maxRecDepth 100000 in
set_option maxHeartbeats 8000000 in
theorem keeps_no2c (A0 : Option Addr) (c0 : Nat) (l : List (List Int)) (c v : Int) (A3 : Option Addr) (c3 : Nat) (keys : List ByteArray) (w : World) (hr : RLK w A0 l) (hc : l.length ≤ c0) (hkl : keys.length ≤ 50) (hrk : KEYS w A3 keys) (hb : nogginlaw15_few.f (l.length + 1) l = some true) (hmay : MayP l) (h : 0 ≤ c ∧ c < l.length ∧ v < 0) :
    Calls Try.prog 10 #[.slice A0 l.length c0, .int .i64 c, .int .i64 v, .slice A3 keys.length c3] w (PostK w) := by
  have he := Err.eql_err
  have hn : ∀ w, (binOp .neq 26 (.iface 29 (.int .i64 1)) (.iface 29 (.int .i64 1))).run Try.prog w = .ok (.bool false) w := fun w => (Err.neq_err w 1 1).trans rfl
  have hu := Try.underlying26
  have HC := Lib.hid hc
  have HB := Lib.hid hb
  have HK := Lib.hid hrk
  have HG := Lib.hid (show ∀ w1 : World, Fr [] w w1 → RLK w1 A0 l from fun w1 h => Kd.C_below hr h.below0)
  obtain ⟨b1, hm1, hm2⟩ := may_f l 40 (by omega)
  obtain ⟨b2, ht1, ht2⟩ := th_f l 201 (by omega)
  obtain rfl : b1 = true := hm2.2 hmay
  obtain rfl : b2 = true := ht2.2 hmay
  have HM := Lib.hid hm1
  have HT := Lib.hid ht1
  have HN := Lib.hid (show ¬ There l c v from fun h2 => by have := h2.2.2.2.1; omega)
  have hl0 := hmay.lo
  have hl4 := hmay.hi
  obtain ⟨h1, h2, h3⟩ := h
  clear hr hc hb hrk hm1 hm2 ht1 ht2 hmay
  go_enter Try.func10, Try.ntmps10
  go_wp2_with fail
  refine (up_any _).mono ?_
  rintro e w1 ⟨rfl, hF⟩
  have HF := Lib.hid hF
  clear hF
  go_wp2_with fail
  refine (nogginlaw15_few.calls _ A0 c0 l _ w1 (HG.out w1 HF.out) HC.out HB.out).mono ?_
  rintro e w2 ⟨rfl, hd⟩
  have HF2 := Lib.hid (HF.out.trans (Fr.of_drawn hd))
  clear hd HF
  go_wp2_with fail
  refine (nogginref14_Thresholds.calls 201 A0 c0 l _ w2 (HG.out w2 HF2.out) HC.out HT.out).mono ?_
  rintro e w3 ⟨rfl, hd⟩
  have HF3 := Lib.hid (HF2.out.trans (Fr.of_drawn hd))
  clear hd HF2
  go_wp2_with fail
  refine (sample_May.calls 40 A0 c0 l _ w3 (HG.out w3 HF3.out) HC.out HM.out).mono ?_
  rintro e w4 ⟨rfl, hd⟩
  have HF4 := Lib.hid (HF3.out.trans (Fr.of_drawn hd))
  clear hd HF3
  go_wp2_with fail
  go_loopw [13, 14] (fun n i wr => n = .int .i64 0 ∧ ∃ k : Nat, k ≤ keys.length ∧ i = .int .i64 k ∧ Fr [] w wr) (fun _ i _ => keys.length - (intOf i).toNat)
  case atStart => exact ⟨rfl, 0, Nat.zero_le _, rfl, HF4.out⟩
  case round =>
    obtain ⟨rfl, k, hk, rfl, hF⟩ := hrel
    clear HF4
    have HF := Lib.hid hF
    clear hF
    by_cases hlt : k < keys.length
    · obtain ⟨ad3, rfl, hcell⟩ : ∃ ad3, A3 = some ad3 ∧ ∀ W, Fr [] w W → W.cell? (ad3.add k) = some (.string (keys.getD k ByteArray.empty)) := by
        rcases HK.out with h0 | ⟨ad3, h1, h2⟩
        · rw [h0] at hlt
          exact absurd hlt (Nat.not_lt_zero _)
        · exact ⟨ad3, h1, fun W hW => hW.cell0 (h2 k hlt)⟩
      obtain ⟨s, hs⟩ : ∃ s, s = keys.getD k ByteArray.empty := ⟨_, rfl⟩
      rw [← hs] at hcell
      have e1 := hcell wr HF.out
      have HE := Lib.hid hcell
      clear hcell hs
      by_cases hsz : 1000 < s.size
      · have HF5 := Lib.hid HF.out.below0
        go_wp2_with fail
        go_ret
        exact ⟨rfl, HF5.out⟩
      · go_wp2_with fail
        refine (keep_no A0 c0 l c v s wr (HG.out wr HF.out) HC.out HN.out).mono ?_
        rintro e w5 ⟨rfl, hF⟩
        have HF5 := Lib.hid (HF.out.trans hF)
        clear hF HF e1
        go_wp2_with fail
        go_roundw
        case rel => exact ⟨rfl, k + 1, by omega, by go_num, HF5.out⟩
        case measure => simp [intOf]; omega
    · obtain rfl : k = keys.length := by omega
      go_wp2_with fail
      refine (lost_no A0 c0 l c v A3 keys.length c3 wr (HG.out wr HF.out) HC.out HN.out).mono ?_
      rintro e w5 ⟨rfl, hF⟩
      have HF5 := Lib.hid (HF.out.trans hF).below0
      clear hF HF
      go_wp2_with fail
      go_ret
      exact ⟨rfl, HF5.out⟩

set_option maxRecDepth 100000 in
set_option maxHeartbeats 8000000 in
theorem keeps_no2d (A0 : Option Addr) (c0 : Nat) (l : List (List Int)) (c v : Int) (A3 : Option Addr) (c3 : Nat) (keys : List ByteArray) (w : World) (hr : RLK w A0 l) (hc : l.length ≤ c0) (hkl : keys.length ≤ 50) (hrk : KEYS w A3 keys) (hb : nogginlaw15_few.f (l.length + 1) l = some true) (hmay : MayP l) (h : 0 ≤ c ∧ c < l.length ∧ 0 ≤ v ∧ ((l.getD 0 []).length : Int) ≤ v) :
    Calls Try.prog 10 #[.slice A0 l.length c0, .int .i64 c, .int .i64 v, .slice A3 keys.length c3] w (PostK w) := by
  have he := Err.eql_err
  have hn : ∀ w, (binOp .neq 26 (.iface 29 (.int .i64 1)) (.iface 29 (.int .i64 1))).run Try.prog w = .ok (.bool false) w := fun w => (Err.neq_err w 1 1).trans rfl
  have hu := Try.underlying26
  have HC := Lib.hid hc
  have HB := Lib.hid hb
  have HK := Lib.hid hrk
  have HG := Lib.hid (show ∀ w1 : World, Fr [] w w1 → RLK w1 A0 l from fun w1 h => Kd.C_below hr h.below0)
  obtain ⟨b1, hm1, hm2⟩ := may_f l 40 (by omega)
  obtain ⟨b2, ht1, ht2⟩ := th_f l 201 (by omega)
  obtain rfl : b1 = true := hm2.2 hmay
  obtain rfl : b2 = true := ht2.2 hmay
  have HM := Lib.hid hm1
  have HT := Lib.hid ht1
  have HN := Lib.hid (show ¬ There l c v from fun h2 => by have := h2.2.2.2.2; omega)
  have hl0 := hmay.lo
  have hl4 := hmay.hi
  obtain ⟨h1, h2, h3, h4⟩ := h
  obtain ⟨ad, A1, n1, c1, rfl, hn1, hcell⟩ := head_cell hr (by omega)
  rw [← hn1] at h4
  have HE1 := Lib.hid hcell
  have hd4 : decide (v < (n1 : Int)) = false := decide_eq_false (by omega)
  clear hcell hn1
  clear hr hc hb hrk hm1 hm2 ht1 ht2 hmay
  go_enter Try.func10, Try.ntmps10
  go_wp2_with fail
  refine (up_any _).mono ?_
  rintro e w1 ⟨rfl, hF⟩
  have HF := Lib.hid hF
  clear hF
  go_wp2_with fail
  refine (nogginlaw15_few.calls _ (some ad) c0 l _ w1 (HG.out w1 HF.out) HC.out HB.out).mono ?_
  rintro e w2 ⟨rfl, hd⟩
  have HF2 := Lib.hid (HF.out.trans (Fr.of_drawn hd))
  clear hd HF
  go_wp2_with fail
  refine (nogginref14_Thresholds.calls 201 (some ad) c0 l _ w2 (HG.out w2 HF2.out) HC.out HT.out).mono ?_
  rintro e w3 ⟨rfl, hd⟩
  have HF3 := Lib.hid (HF2.out.trans (Fr.of_drawn hd))
  clear hd HF2
  go_wp2_with fail
  refine (sample_May.calls 40 (some ad) c0 l _ w3 (HG.out w3 HF3.out) HC.out HM.out).mono ?_
  rintro e w4 ⟨rfl, hd⟩
  have HF4 := Lib.hid (HF3.out.trans (Fr.of_drawn hd))
  clear hd HF3
  have ec := HE1.out w4 HF4.out
  go_wp2_with fail
  go_loopw [13, 14] (fun n i wr => n = .int .i64 0 ∧ ∃ k : Nat, k ≤ keys.length ∧ i = .int .i64 k ∧ Fr [] w wr) (fun _ i _ => keys.length - (intOf i).toNat)
  case atStart => exact ⟨rfl, 0, Nat.zero_le _, rfl, HF4.out⟩
  case round =>
    obtain ⟨rfl, k, hk, rfl, hF⟩ := hrel
    clear HF4
    have HF := Lib.hid hF
    clear hF
    by_cases hlt : k < keys.length
    · obtain ⟨ad3, rfl, hcell⟩ : ∃ ad3, A3 = some ad3 ∧ ∀ W, Fr [] w W → W.cell? (ad3.add k) = some (.string (keys.getD k ByteArray.empty)) := by
        rcases HK.out with h0 | ⟨ad3, h1, h2⟩
        · rw [h0] at hlt
          exact absurd hlt (Nat.not_lt_zero _)
        · exact ⟨ad3, h1, fun W hW => hW.cell0 (h2 k hlt)⟩
      obtain ⟨s, hs⟩ : ∃ s, s = keys.getD k ByteArray.empty := ⟨_, rfl⟩
      rw [← hs] at hcell
      have e1 := hcell wr HF.out
      have HE := Lib.hid hcell
      clear hcell hs
      by_cases hsz : 1000 < s.size
      · have HF5 := Lib.hid HF.out.below0
        go_wp2_with fail
        go_ret
        exact ⟨rfl, HF5.out⟩
      · go_wp2_with fail
        refine (keep_no (some ad) c0 l c v s wr (HG.out wr HF.out) HC.out HN.out).mono ?_
        rintro e w5 ⟨rfl, hF⟩
        have HF5 := Lib.hid (HF.out.trans hF)
        clear hF HF e1
        go_wp2_with fail
        go_roundw
        case rel => exact ⟨rfl, k + 1, by omega, by go_num, HF5.out⟩
        case measure => simp [intOf]; omega
    · obtain rfl : k = keys.length := by omega
      go_wp2_with fail
      refine (lost_no (some ad) c0 l c v A3 keys.length c3 wr (HG.out wr HF.out) HC.out HN.out).mono ?_
      rintro e w5 ⟨rfl, hF⟩
      have HF5 := Lib.hid (HF.out.trans hF).below0
      clear hF HF
      go_wp2_with fail
      go_ret
      exact ⟨rfl, HF5.out⟩

set_option maxRecDepth 100000 in
set_option maxHeartbeats 8000000 in
theorem keeps_yes (A0 : Option Addr) (c0 : Nat) (l : List (List Int)) (c v : Int) (A3 : Option Addr) (c3 : Nat) (keys : List ByteArray) (w : World) (hr : RLK w A0 l) (hc : l.length ≤ c0) (hkl : keys.length ≤ 50) (hrk : KEYS w A3 keys) (hb : nogginlaw15_few.f (l.length + 1) l = some true) (hth : There l c v) :
    Calls Try.prog 10 #[.slice A0 l.length c0, .int .i64 c, .int .i64 v, .slice A3 keys.length c3] w (PostK w) := by
  have he := Err.eql_err
  have hn : ∀ w, (binOp .neq 26 (.iface 29 (.int .i64 1)) (.iface 29 (.int .i64 1))).run Try.prog w = .ok (.bool false) w := fun w => (Err.neq_err w 1 1).trans rfl
  have hu := Try.underlying26
  have HC := Lib.hid hc
  have HB := Lib.hid hb
  have HK := Lib.hid hrk
  have HG := Lib.hid (show ∀ w1 : World, Fr [] w w1 → RLK w1 A0 l from fun w1 h => Kd.C_below hr h.below0)
  obtain ⟨b1, hm1, hm2⟩ := may_f l 40 (by omega)
  obtain ⟨b2, ht1, ht2⟩ := th_f l 201 (by omega)
  obtain rfl : b1 = true := hm2.2 hth.1
  obtain rfl : b2 = true := ht2.2 hth.1
  have HM := Lib.hid hm1
  have HT := Lib.hid ht1
  have HTH := Lib.hid hth
  have hl0 := hth.1.lo
  have hl4 := hth.1.hi
  obtain ⟨h0, h1, h2, h3, h4⟩ := hth
  obtain ⟨ad, A1, n1, c1, rfl, hn1, hcell⟩ := head_cell hr (by omega)
  rw [← hn1] at h4
  have HE1 := Lib.hid hcell
  have HFB := Lib.hid (lost_bd l c v keys)
  have HS := Lib.hid (show ∀ k, lost l c v keys (k + 1) = lost l c v keys k + if MixS.mixH (bytesL (keys.getD k ByteArray.empty)) % 65536 ≥ thr l c v then 0 else 1 from fun _ => rfl)
  have H0 := Lib.hid (show lost l c v keys 0 = 0 from rfl)
  obtain ⟨f, hf⟩ : ∃ f, f = lost l c v keys := ⟨_, rfl⟩
  rw [← hf] at HFB HS H0
  have HFE := Lib.hid hf
  clear hcell hn1 hf
  clear hr hc hb hrk hm1 hm2 ht1 ht2 h0
  go_enter Try.func10, Try.ntmps10
  go_wp2_with fail
  refine (up_any _).mono ?_
  rintro e w1 ⟨rfl, hF⟩
  have HF := Lib.hid hF
  clear hF
  go_wp2_with fail
  refine (nogginlaw15_few.calls _ (some ad) c0 l _ w1 (HG.out w1 HF.out) HC.out HB.out).mono ?_
  rintro e w2 ⟨rfl, hd⟩
  have HF2 := Lib.hid (HF.out.trans (Fr.of_drawn hd))
  clear hd HF
  go_wp2_with fail
  refine (nogginref14_Thresholds.calls 201 (some ad) c0 l _ w2 (HG.out w2 HF2.out) HC.out HT.out).mono ?_
  rintro e w3 ⟨rfl, hd⟩
  have HF3 := Lib.hid (HF2.out.trans (Fr.of_drawn hd))
  clear hd HF2
  go_wp2_with fail
  refine (sample_May.calls 40 (some ad) c0 l _ w3 (HG.out w3 HF3.out) HC.out HM.out).mono ?_
  rintro e w4 ⟨rfl, hd⟩
  have HF4 := Lib.hid (HF3.out.trans (Fr.of_drawn hd))
  clear hd HF3
  have ec := HE1.out w4 HF4.out
  go_wp2_with fail
  go_loopw [13, 14] (fun n i wr => ∃ k : Nat, k ≤ keys.length ∧ i = .int .i64 k ∧ n = .int .i64 (f k) ∧ Fr [] w wr ∧ ∀ j, j < k → (keys.getD j ByteArray.empty).size ≤ 1000) (fun _ i _ => keys.length - (intOf i).toNat)
  case atStart => exact ⟨0, Nat.zero_le _, rfl, by rw [H0.out], HF4.out, fun j hj => absurd hj (Nat.not_lt_zero _)⟩
  case round =>
    obtain ⟨k, hk, rfl, rfl, hF, hsm⟩ := hrel
    clear HF4
    have HF := Lib.hid hF
    have HSM := Lib.hid hsm
    clear hF hsm
    have hfb := HFB.out k
    obtain ⟨f0, f1⟩ := hfb
    by_cases hlt : k < keys.length
    · obtain ⟨ad3, rfl, hcell⟩ : ∃ ad3, A3 = some ad3 ∧ ∀ W, Fr [] w W → W.cell? (ad3.add k) = some (.string (keys.getD k ByteArray.empty)) := by
        rcases HK.out with h0 | ⟨ad3, h1, h2⟩
        · rw [h0] at hlt
          exact absurd hlt (Nat.not_lt_zero _)
        · exact ⟨ad3, h1, fun W hW => hW.cell0 (h2 k hlt)⟩
      have HS1 := Lib.hid (HS.out k)
      have HSN : ∀ (h : (keys.getD k ByteArray.empty).size ≤ 1000) j, j < k + 1 → (keys.getD j ByteArray.empty).size ≤ 1000 := fun h j hj => by
        by_cases hj2 : j < k
        · exact HSM.out j hj2
        · obtain rfl : j = k := by omega
          exact h
      obtain ⟨s, hs⟩ : ∃ s, s = keys.getD k ByteArray.empty := ⟨_, rfl⟩
      rw [← hs] at hcell HS1 HSN
      have HSN2 := Lib.hid HSN
      have e1 := hcell wr HF.out
      have HE := Lib.hid hcell
      clear hcell hs HSN HSM
      by_cases hsz : 1000 < s.size
      · have HF5 := Lib.hid HF.out.below0
        go_wp2_with fail
        go_ret
        exact ⟨rfl, HF5.out⟩
      · by_cases hm : MixS.mixH (bytesL s) % 65536 ≥ thr l c v
        · rw [if_pos hm] at HS1
          have HM1 := Lib.hid (decide_eq_true hm)
          clear hm
          go_wp2_with fail
          refine (keep_yes (some ad) c0 l c v s (by omega) wr (HG.out wr HF.out) HC.out HTH.out true HM1.out).mono ?_
          rintro e w5 ⟨rfl, hF⟩
          have HF5 := Lib.hid (HF.out.trans hF)
          have e5 := HE.out w5 HF5.out
          clear hF HF e1
          go_wp2_with fail
          refine (refkeep (some ad) c0 l c v s (by omega) w5 (HG.out w5 HF5.out) HTH.out true HM1.out).mono ?_
          rintro e w6 ⟨rfl, hF⟩
          have HF6 := Lib.hid (HF5.out.trans hF)
          clear hF HF5 e5
          go_wp2_with fail
          go_roundw
          case rel => exact ⟨k + 1, by omega, by go_num, by rw [HS1.out, Int.add_zero], HF6.out, HSN2.out (by omega)⟩
          case measure => simp [intOf]; omega
        · rw [if_neg hm] at HS1
          have HM1 := Lib.hid (decide_eq_false hm)
          clear hm
          go_wp2_with fail
          refine (keep_yes (some ad) c0 l c v s (by omega) wr (HG.out wr HF.out) HC.out HTH.out false HM1.out).mono ?_
          rintro e w5 ⟨rfl, hF⟩
          have HF5 := Lib.hid (HF.out.trans hF)
          have e5 := HE.out w5 HF5.out
          clear hF HF e1
          go_wp2_with fail
          refine (refkeep (some ad) c0 l c v s (by omega) w5 (HG.out w5 HF5.out) HTH.out false HM1.out).mono ?_
          rintro e w6 ⟨rfl, hF⟩
          have HF6 := Lib.hid (HF5.out.trans hF)
          clear hF HF5 e5
          go_wp2_with fail
          go_roundw
          case rel => exact ⟨k + 1, by omega, by go_num, by rw [HS1.out], HF6.out, HSN2.out (by omega)⟩
          case measure => simp [intOf]; omega
    · obtain rfl : k = keys.length := by omega
      have HKW := Lib.hid (show KEYS wr A3 keys from by
        rcases HK.out with h0 | ⟨ad3, h1, h2⟩
        · exact .inl h0
        · exact .inr ⟨ad3, h1, fun j hj => HF.out.cell0 (h2 j hj)⟩)
      have HLY := Lib.hid (lost_yes (some ad) c0 l c v A3 c3 keys wr (HG.out wr HF.out) HC.out HTH.out (by omega) HSM.out HKW.out)
      rw [← HFE.out] at HLY
      go_wp2_with fail
      refine HLY.out.mono ?_
      rintro e w5 ⟨rfl, hF⟩
      have HF5 := Lib.hid (HF.out.trans hF).below0
      clear hF HF HLY
      go_wp2_with fail
      go_ret
      exact ⟨rfl, HF5.out⟩

theorem keeps_any (A0 : Option Addr) (c0 : Nat) (l : List (List Int)) (c v : Int) (A3 : Option Addr) (c3 : Nat) (keys : List ByteArray) (w : World) (hr : RLK w A0 l) (hc : l.length ≤ c0) (hrk : Kd.C Kd.string w A3 keys.length keys) :
    Calls Try.prog 10 #[.slice A0 l.length c0, .int .i64 c, .int .i64 v, .slice A3 keys.length c3] w fun e w' => e = .returned (.bool true) ∧ Below w.heap.size w w' := by
  obtain ⟨b, hb, hi⟩ := few_f l (by have := hr.2.1; omega)
  by_cases h : b = false ∨ 50 < keys.length
  · exact keeps_few A0 c0 l c v A3 keys.length c3 w hr hc hrk.2.1 b hb h
  · obtain rfl : b = true := by
      cases b with
      | true => rfl
      | false => exact absurd (.inl rfl) h
    have hkl : keys.length ≤ 50 := by
      by_cases h2 : 50 < keys.length
      · exact absurd (.inr h2) h
      · omega
    have hk := C_strs hrk
    by_cases hm : MayP l
    · by_cases h1 : c < 0
      · exact keeps_no2a A0 c0 l c v A3 c3 keys w hr hc hkl hk hb hm h1
      · by_cases h2 : (l.length : Int) ≤ c
        · exact keeps_no2b A0 c0 l c v A3 c3 keys w hr hc hkl hk hb hm h2
        · by_cases h3 : v < 0
          · exact keeps_no2c A0 c0 l c v A3 c3 keys w hr hc hkl hk hb hm ⟨by omega, by omega, h3⟩
          · by_cases h4 : ((l.getD 0 []).length : Int) ≤ v
            · exact keeps_no2d A0 c0 l c v A3 c3 keys w hr hc hkl hk hb hm ⟨by omega, by omega, by omega, h4⟩
            · exact keeps_yes A0 c0 l c v A3 c3 keys w hr hc hkl hk hb ⟨hm, by omega, by omega, by omega, by omega⟩
    · exact keeps_no1 A0 c0 l c v A3 c3 keys w hr hc hkl hk hb hm
end Go.Proofs.Ytjkaldnhfenbhaa.Sample
