/- The walks of layer 10's statements: the document's example; what lies in the ring, deed by deed. -/
import Derived.Test.YtjkaldnhfenbhaaRingW
import Derived.Test.YtjkaldnhfenbhaaDeeds
set_option linter.unusedVariables false
set_option linter.unusedSimpArgs false
namespace Go.Proofs.Ytjkaldnhfenbhaa.Ring
open Go.RowKit Go.Proofs.YtjkaldnhfenbhaaW.PrintWords Go.Proofs.YtjkaldnhfenbhaaW.PrintLast

theorem C_strs {w : World} {A : Option Addr} {l : List ByteArray} (h : Kd.C Kd.string w A l.length l) : l = [] ∨ ∃ ad, A = some ad ∧ ∀ j, j < l.length → w.cell? (ad.add j) = some (.string (l.getD j ByteArray.empty)) := by
  by_cases hn : 0 < l.length
  · right
    obtain ⟨_, _, h3⟩ := h
    obtain ⟨ad, e, hc⟩ := h3 hn
    refine ⟨ad, e, fun j hj => ?_⟩
    obtain ⟨cs, _, hk, hcell⟩ := hc j (l.getD j ByteArray.empty) (by simp [List.getD, hj])
    obtain rfl : cs = [.string (l.getD j ByteArray.empty)] := hk
    have := hcell 0 _ rfl
    rwa [show j * Kd.string.sz + 0 = j from Nat.mul_one j] at this
  · left
    exact List.length_eq_zero_iff.1 (by omega)

/-- those from a on, ahead of k -/
def win (l : List ByteArray) (a k : Nat) : List Value := ((l.take k).drop a).map Value.string
theorem win_len (l : List ByteArray) (a k : Nat) (hk : k ≤ l.length) : (win l a k).length = k - a := by
  unfold win
  rw [List.length_map, List.length_drop, List.length_take]
  omega
theorem win_head (l : List ByteArray) (a k : Nat) (ha : a < k) (hk : k ≤ l.length) : win l a k = .string (l.getD a ByteArray.empty) :: win l (a + 1) k := by
  unfold win
  have h : a < (l.take k).length := by rw [List.length_take]; omega
  rw [List.drop_eq_getElem_cons h, List.map_cons]
  congr 2
  rw [List.getElem_take, List.getD_eq_getElem?_getD, List.getElem?_eq_getElem (by omega)]
  rfl
theorem win_snoc (l : List ByteArray) (a k : Nat) (ha : a ≤ k) (hk : k < l.length) : win l a k ++ [.string (l.getD k ByteArray.empty)] = win l a (k + 1) := by
  unfold win
  have e : l.getD k ByteArray.empty = l[k] := by
    rw [List.getD_eq_getElem?_getD, List.getElem?_eq_getElem hk]
    rfl
  rw [e, List.take_succ_eq_append_getElem hk, List.drop_append_of_le_length (by rw [List.length_take]; omega), List.map_append]
  rfl
theorem win_none (l : List ByteArray) (k : Nat) : win l k k = [] := by
  unfold win
  rw [List.drop_of_length_le (by rw [List.length_take]; omega)]
  rfl

set_option maxRecDepth 100000 in
set_option maxHeartbeats 2000000 in
theorem up_any (w : World) : Calls Try.prog 23 #[] w fun e w' => e = .returned (.bool true) ∧ Fr [] w w' := by
  have he := Err.eql_err
  have hu := Try.underlying26
  go_enter Try.func23, Try.ntmps23
  go_wp2_with fail
  refine (new_int 1 (by omega) w).mono ?_
  rintro e w1 ⟨g, b, rfl, hI, hF, hg, hb⟩
  have HI := Lib.hid hI
  have HF := Lib.hid hF
  clear hI hF
  go_wp2_with fail
  refine (new_string_bad 0 (by omega) _).mono ?_
  rintro e w2 ⟨rfl, rfl⟩
  go_wp2_with fail
  refine (push_int_yes g b 1 [] 5 _ HI.out (by simp)).mono ?_
  rintro e w2 ⟨rfl, hI, hF⟩
  have HI2 := Lib.hid hI
  have HF2 := Lib.hid (HF.out.step hF (by simp; exact ⟨hg, hb⟩))
  clear hI hF HI HF
  go_wp2_with fail
  refine (push_int_full g b 1 [.int .i64 5] (.int .i64 6) _ HI2.out rfl).mono ?_
  rintro e w3 ⟨rfl, hF⟩
  have HI3 := Lib.hid (HI2.out.keep hF (by simp) (by simp))
  have HF3 := Lib.hid (HF2.out.trans hF)
  clear hF HI2 HF2
  go_wp2_with fail
  refine (pop_int_some g b 1 5 [] _ HI3.out).mono ?_
  rintro e w4 ⟨rfl, hI, hF⟩
  have HI4 := Lib.hid hI
  have HF4 := Lib.hid (HF3.out.step hF (by simp; exact ⟨hg, hb⟩))
  clear hI hF HI3 HF3
  go_wp2_with fail
  refine (len_int g b 1 [] _ HI4.out).mono ?_
  rintro e w5 ⟨rfl, rfl⟩
  go_wp2_with fail
  go_ret
  exact ⟨rfl, HF4.out⟩
end Go.Proofs.Ytjkaldnhfenbhaa.Ring
