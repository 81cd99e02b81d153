/- The walk of the statement RingOrder. -/
import Derived.Test.YtjkaldnhfenbhaaRingUp
set_option linter.unusedVariables false
set_option linter.unusedSimpArgs false
namespace Go.Proofs.Ytjkaldnhfenbhaa.Ring
open Go.RowKit Go.Proofs.YtjkaldnhfenbhaaW.PrintWords Go.Proofs.YtjkaldnhfenbhaaW.PrintLast

def PostO (w : World) (e : Ending) (w' : World) : Prop := e = .returned (.bool true) ∧ Below w.heap.size w w'

set_option maxRecDepth 100000 in
set_option maxHeartbeats 2000000 in
theorem order_bad (A1 : Option Addr) (c1 n1 : Nat) (room : Int) (w : World) (gd : ¬ (1 ≤ room ∧ room ≤ 1000)) :
    Calls Try.prog 6 #[.int .i64 room, .slice A1 n1 c1] w (PostO w) := by
  have he := Err.eql_err
  have hu := Try.underlying26
  have H := Lib.hid gd
  clear gd
  go_enter Try.func6, Try.ntmps6
  go_wp2_with fail
  refine (up_any _).mono ?_
  rintro e w1 ⟨rfl, hb⟩
  have HB := Lib.hid hb.below0
  clear hb
  go_wp2_with fail
  refine (new_string_bad room H.out _).mono ?_
  rintro e w2 ⟨rfl, rfl⟩
  go_wp2_with fail
  go_ret
  exact ⟨rfl, HB.out⟩

set_option maxRecDepth 100000 in
set_option maxHeartbeats 2000000 in
theorem order_long (A1 : Option Addr) (c1 n1 : Nat) (room : Nat) (w : World) (gd : 1 ≤ room ∧ room ≤ 1000) (hl : 300 < n1) (hm : n1 ≤ 9223372036854775807) :
    Calls Try.prog 6 #[.int .i64 room, .slice A1 n1 c1] w (PostO w) := by
  have he := Err.eql_err
  have hu := Try.underlying26
  have H := Lib.hid gd
  obtain ⟨g1, g2⟩ := gd
  go_enter Try.func6, Try.ntmps6
  go_wp2_with fail
  refine (up_any _).mono ?_
  rintro e w1 ⟨rfl, hb⟩
  have HB := Lib.hid hb
  clear hb
  go_wp2_with fail
  refine (new_string room H.out _).mono ?_
  rintro e w2 ⟨g, b, rfl, hI, hF, -, -⟩
  have HB2 := Lib.hid (HB.out.trans hF).below0
  clear hI hF
  go_wp2_with fail
  go_ret
  exact ⟨rfl, HB2.out⟩

/-- what holds behind k: those from a on are in it -/
def Ord (w wr : World) (g b n : Nat) (l : List ByteArray) (a k : Nat) : Prop :=
  IsR wr g b n (win l a k) 123 9 ∧ Fr [] w wr ∧ w.heap.size ≤ g ∧ w.heap.size ≤ b ∧ a ≤ k ∧ k ≤ l.length

set_option maxRecDepth 100000 in
set_option maxHeartbeats 8000000 in
theorem order_some (A1 : Option Addr) (c1 : Nat) (l : List ByteArray) (room : Nat) (w : World) (gd : 1 ≤ room ∧ room ≤ 1000) (hl : l.length ≤ 300)
    (hc : l = [] ∨ ∃ ad, A1 = some ad ∧ ∀ j, j < l.length → w.cell? (ad.add j) = some (.string (l.getD j ByteArray.empty))) :
    Calls Try.prog 6 #[.int .i64 room, .slice A1 l.length c1] w (PostO w) := by
  have he := Err.eql_err
  have hu := Try.underlying26
  have H := Lib.hid gd
  have HR := Lib.hid hc
  obtain ⟨g1, g2⟩ := gd
  clear hc
  go_enter Try.func6, Try.ntmps6
  go_wp2_with fail
  refine (up_any _).mono ?_
  rintro e w1 ⟨rfl, hb⟩
  have HB := Lib.hid hb
  clear hb
  go_wp2_with fail
  refine (new_string room H.out _).mono ?_
  rintro e w2 ⟨g, b, rfl, hI, hF, hg, hb⟩
  have HX := Lib.hid (show Ord w w2 g b room l 0 0 from ⟨by rw [win_none]; exact hI, HB.out.trans hF, Nat.le_trans HB.out.size hg, Nat.le_trans HB.out.size hb, Nat.le_refl _, Nat.zero_le _⟩)
  clear hI hF hg hb HB
  go_wp2_with fail
  go_loopw [8, 9, 10] (fun n x i wr => ∃ (a k : Nat), i = .int .i64 k ∧ n = .int .i64 k ∧ x = .int .i64 a ∧ Ord w wr g b room l a k) (fun _ _ i _ => l.length - (intOf i).toNat)
  case atStart => exact ⟨0, 0, rfl, rfl, rfl, HX.out⟩
  case round =>
    obtain ⟨a, k, rfl, rfl, rfl, hX⟩ := hrel
    clear HX
    obtain ⟨hI, hF, hg, hb, hak, hk⟩ := hX
    have HG := Lib.hid (And.intro hg hb)
    have HI := Lib.hid hI
    have HF := Lib.hid hF
    clear hI hF hg hb
    by_cases hlt : k < l.length
    · obtain ⟨ad, rfl, HC⟩ : ∃ ad, A1 = some ad ∧ Hid (∀ j, j < l.length → ∀ W, Fr [] w W → W.cell? (ad.add j) = some (.string (l.getD j ByteArray.empty))) := by
        rcases HR.out with h0 | ⟨ad, h1, h2⟩
        · rw [h0] at hlt
          exact absurd hlt (Nat.not_lt_zero _)
        · exact ⟨ad, h1, fun j hj W hW => hW.cell0 (h2 j hj)⟩
      have HQ := Lib.hid (win_snoc l a k hak hlt)
      have HL := Lib.hid (win_len l a k hk)
      have HH := Lib.hid (win_head l a k)
      have HT := Lib.hid (win_snoc l (a + 1) k)
      obtain ⟨sk, hsk⟩ : ∃ s, s = l.getD k ByteArray.empty := ⟨_, rfl⟩
      have HK := Lib.hid (show ∀ W, Fr [] w W → W.cell? (ad.add k) = some (.string sk) from fun W hW => by rw [hsk]; exact HC.out k hlt W hW)
      rw [← hsk] at HQ HT
      clear hsk
      have e1 := HK.out wr HF.out
      have hroom := HI.out.room
      rw [HL.out] at hroom
      obtain ⟨r0, r1, r2⟩ := hroom
      by_cases hfull : k - a = room
      · have hak2 : a < k := by omega
        obtain ⟨sa, hsa⟩ : ∃ s, s = l.getD a ByteArray.empty := ⟨_, rfl⟩
        have HA := Lib.hid (show ∀ W, Fr [] w W → W.cell? (ad.add a) = some (.string sa) from fun W hW => by rw [hsa]; exact HC.out a (by omega) W hW)
        have HH2 := Lib.hid (HH.out hak2 hk)
        have HT2 := Lib.hid (HT.out (by omega) hlt)
        have HL2 := Lib.hid (show (win l (a + 1) k).length = room - 1 by rw [win_len l _ _ hk]; omega)
        have HL3 := Lib.hid (show (((win l (a + 1) k).length : Nat) : Int) = (room : Int) - 1 by rw [HL2.out]; omega)
        rw [← hsa] at HH2
        have HF0 := Lib.hid (show (win l a k).length = room by rw [HL.out]; exact hfull)
        clear hsa hfull HH HT
        go_wp2_with fail
        refine (push_string_full g b room (win l a k) (.string sk) _ HI.out HF0.out).mono ?_
        rintro e w3 ⟨rfl, hF⟩
        have HI3 := Lib.hid (HI.out.keep hF (by simp) (by simp))
        have HF3 := Lib.hid (HF.out.trans hF)
        rw [HH2.out] at HI3
        clear hF HI HF e1
        go_wp2_with fail
        refine (pop_string_some g b room sa (win l (a + 1) k) _ HI3.out).mono ?_
        rintro e w4 ⟨rfl, hI, hF⟩
        have HI4 := Lib.hid hI
        have HF4 := Lib.hid (HF3.out.step hF (by simp; exact HG.out))
        have e2 := HA.out w4 HF4.out
        have e1 := HK.out w4 HF4.out
        have hib : (k : Int) - 1 = (k : Int) - 1 := rfl
        clear hF hI HI3 HF3 hib
        go_wp2_with fail
        refine (len_string g b room _ _ HI4.out).mono ?_
        rw [HL3.out]
        rintro e w5 ⟨rfl, rfl⟩
        go_wp2_with fail
        refine (push_string_yes g b room (win l (a + 1) k) sk _ HI4.out (by rw [HL2.out]; omega)).mono ?_
        rintro e w5 ⟨rfl, hI, hF⟩
        have HX5 := Lib.hid (show Ord w w5 g b room l (a + 1) (k + 1) from ⟨by rw [← HT2.out]; exact hI, HF4.out.step hF (by simp; exact HG.out), HG.out.1, HG.out.2, by omega, by omega⟩)
        clear hI hF HI4 HF4 e1 e2
        go_wp2_with fail
        go_roundw
        case rel => exact ⟨a + 1, k + 1, by go_num, by go_num, by go_num, HX5.out⟩
        case measure => simp [intOf]; omega
      · have HF0 := Lib.hid (show (win l a k).length < room by rw [HL.out]; omega)
        clear hfull HH HT
        go_wp2_with fail
        refine (push_string_yes g b room (win l a k) sk _ HI.out HF0.out).mono ?_
        rintro e w3 ⟨rfl, hI, hF⟩
        have HX5 := Lib.hid (show Ord w w3 g b room l a (k + 1) from ⟨by rw [← HQ.out]; exact hI, HF.out.step hF (by simp; exact HG.out), HG.out.1, HG.out.2, by omega, by omega⟩)
        clear hI hF HI HF e1
        go_wp2_with fail
        go_roundw
        case rel => exact ⟨a, k + 1, by go_num, by go_num, rfl, HX5.out⟩
        case measure => simp [intOf]; omega
    · obtain rfl : k = l.length := by omega
      obtain ⟨wo, hwo⟩ : ∃ wo : World, wo = wr := ⟨_, rfl⟩
      go_wp2_with fail
      go_loopw [9] (fun x wr => ∃ (a : Nat), x = .int .i64 a ∧ Ord w wr g b room l a l.length) (fun x _ => l.length - (intOf x).toNat)
      case atStart => exact ⟨a, rfl, HI.out, HF.out, HG.out.1, HG.out.2, hak, Nat.le_refl _⟩
      case round =>
        clear HI HF hwo hak hk
        obtain ⟨a, rfl, hI, hF, hg, hb, hak, -⟩ := hrel
        have HI := Lib.hid hI
        have HF := Lib.hid hF
        clear hI hF hg hb
        by_cases ha : a < l.length
        · obtain ⟨ad, rfl, HC⟩ : ∃ ad, A1 = some ad ∧ Hid (∀ j, j < l.length → ∀ W, Fr [] w W → W.cell? (ad.add j) = some (.string (l.getD j ByteArray.empty))) := by
            rcases HR.out with h0 | ⟨ad, h1, h2⟩
            · rw [h0] at ha
              exact absurd ha (Nat.not_lt_zero _)
            · exact ⟨ad, h1, fun j hj W hW => hW.cell0 (h2 j hj)⟩
          have HH := Lib.hid (win_head l a l.length ha (Nat.le_refl _))
          obtain ⟨sa, hsa⟩ : ∃ s, s = l.getD a ByteArray.empty := ⟨_, rfl⟩
          have HA := Lib.hid (show ∀ W, Fr [] w W → W.cell? (ad.add a) = some (.string sa) from fun W hW => by rw [hsa]; exact HC.out a ha W hW)
          rw [← hsa] at HH
          rw [HH.out] at HI
          clear hsa HC HR hlt
          go_wp2_with fail
          refine (pop_string_some g b room sa (win l (a + 1) l.length) _ HI.out).mono ?_
          rintro e w4 ⟨rfl, hI, hF⟩
          have HX5 := Lib.hid (show Ord w w4 g b room l (a + 1) l.length from ⟨hI, HF.out.step hF (by simp; exact HG.out), HG.out.1, HG.out.2, by omega, by omega⟩)
          have e2 := HA.out w4 HX5.out.2.1
          clear hI hF HI HF
          go_wp2_with fail
          go_roundw
          case rel => exact ⟨a + 1, by go_num, HX5.out⟩
          case measure => simp [intOf]; omega
        · obtain rfl : a = l.length := by omega
          rw [win_none] at HI
          go_wp2_with fail
          refine (pop_string_none g b room _ HI.out).mono ?_
          rintro e w4 ⟨rfl, rfl⟩
          have HF4 := Lib.hid HF.out.below0
          go_wp2_with fail
          go_ret
          exact ⟨rfl, HF4.out⟩

theorem order_any (A1 : Option Addr) (c1 : Nat) (room : Int) (l : List ByteArray) (w : World) (hr : Kd.C Kd.string w A1 l.length l) :
    Calls Try.prog 6 #[.int .i64 room, .slice A1 l.length c1] w fun e w' => e = .returned (.bool true) ∧ Below w.heap.size w w' := by
  by_cases h : 1 ≤ room ∧ room ≤ 1000
  · obtain ⟨k, rfl⟩ : ∃ k : Nat, room = k := ⟨room.toNat, by omega⟩
    by_cases hl : l.length ≤ 300
    · exact order_some A1 c1 l k w (by omega) hl (C_strs hr)
    · exact order_long A1 c1 l.length k w (by omega) (by omega) hr.2.1
  · exact order_bad A1 c1 l.length room w h
end Go.Proofs.Ytjkaldnhfenbhaa.Ring
