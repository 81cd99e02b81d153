/- The walks of layer 17's statements: the document's example. -/
import Derived.Test.YtjkaldnhfenbhaaLedgerW5
import Derived.Test.YtjkaldnhfenbhaaLedgerW6
import Derived.Test.YtjkaldnhfenbhaaLedgerW7
import Derived.Test.YtjkaldnhfenbhaaLedgerW8
import Derived.Test.YtjkaldnhfenbhaaLedgerInv
set_option linter.unusedVariables false
set_option linter.unusedSimpArgs false
namespace Go.Proofs.Ytjkaldnhfenbhaa.Ledger
open Go.RowKit Go.Proofs.YtjkaldnhfenbhaaW.PrintWords Go.Proofs.YtjkaldnhfenbhaaW.PrintLast Go.Proofs.Ytjkaldnhfenbhaa.PLedgerPlays

theorem IsL.keep {w w1 : World} {S : List Nat} {g b n : Nat} {l : List Int} {tp : TypeId} (h : IsL w g b n l tp) (k : Fr S w w1) (h1 : g ∉ S) (h2 : b ∉ S) : IsL w1 g b n l tp := ⟨k.blk h.1 h1, k.blk h.2.1 h2, h.2.2⟩
theorem IsL.alloc {w : World} {g b n : Nat} {l : List Int} {tp : TypeId} (h : IsL w g b n l tp) (o : Obj) : IsL (w.alloc o) g b n l tp := ⟨blk_alloc h.1 o, blk_alloc h.2.1 o, h.2.2⟩
theorem IsL.lt {w : World} {g b n : Nat} {l : List Int} {tp : TypeId} (h : IsL w g b n l tp) : g < w.heap.size ∧ b < w.heap.size := ⟨blk_lt h.1, blk_lt h.2.1⟩
theorem IsL.drawn {w w1 : World} {g b n : Nat} {l : List Int} {tp : TypeId} (h : IsL w g b n l tp) (k : Drawn0 w w1) : IsL w1 g b n l tp := h.keep (Fr.of_drawn k) (by simp) (by simp)

theorem new_any (k : Nat) (hk : 1 ≤ k ∧ k ≤ 4) (w : World) :
    Calls Try.prog 59 #[.int .i64 k] w fun e w' => ∃ g b, e = .returned (.tuple #[.pointer (some ⟨g, 0, none⟩), .nilIface]) ∧ IsL w' g b (k + 1) (List.replicate (9 * (k + 1)) 0) 140 ∧ Fr [] w w' ∧ w.heap.size ≤ g ∧ w.heap.size ≤ b := by
  have h : k = 1 ∨ k = 2 ∨ k = 3 ∨ k = 4 := by omega
  rcases h with rfl | rfl | rfl | rfl
  · exact new_2 w
  · exact new_3 w
  · exact new_4 w
  · exact new_5 w

set_option maxRecDepth 100000 in
set_option maxHeartbeats 2000000 in
theorem up_any (w : World) : Calls Try.prog 58 #[] w fun e w' => e = .returned (.bool true) ∧ Fr [] w w' := by
  have he := Err.eql_err
  have hu := Try.underlying26
  go_enter Try.func58, Try.ntmps58
  go_wp2_with fail
  refine (new_2 w).mono ?_
  rintro e w1 ⟨g, b, rfl, hI, hF, hg, hb⟩
  have HI := Lib.hid hI
  have HF := Lib.hid hF
  have HN := Lib.hid (show ∀ i, (List.replicate 18 (0 : Int)).getD i 0 = 0 from rep_getD 18)
  obtain ⟨l, hl⟩ : ∃ l, l = List.replicate 18 (0 : Int) := ⟨_, rfl⟩
  rw [← hl] at HI HN
  have HL := Lib.hid (show l.length = 18 by rw [hl]; rfl)
  clear hI hF hl
  go_wp2_with fail
  refine (new_bad 0 _ (by omega)).mono ?_
  rintro e w2 ⟨rfl, rfl⟩
  go_wp2_with fail
  refine (come_yes g b 2 l _ 1 _ HI.out (by omega) (by omega) (by rw [HN.out]; omega)).mono ?_
  rintro e w2 ⟨rfl, hI, hF⟩
  have HI2 := Lib.hid hI
  have HF2 := Lib.hid (HF.out.step hF (by simp; exact hb))
  have HN2 := Lib.hid (show ∀ i, (more l (9 * 1)).getD i 0 = if 9 = i then 1 else 0 from fun i => by rw [more_get _ _ _ (by rw [HL.out]; omega), HN.out]; omega)
  have HO := Lib.hid (show openR (more l (9 * 1)) 1 = (1, true) by unfold openR; rw [ended_eq]; simp only [HN2.out]; rfl)
  obtain ⟨l2, hl⟩ : ∃ l2, l2 = more l (9 * 1) := ⟨_, rfl⟩
  rw [← hl] at HI2 HN2 HO
  clear hI hF HI HF hl HN
  go_wp2_with fail
  refine (come_no g b 2 l2 _ 2 _ HI2.out (by omega) (by omega)).mono ?_
  rintro e w3 ⟨rfl, hd⟩
  have HI3 := Lib.hid (HI2.out.drawn hd)
  have HF3 := Lib.hid (HF2.out.trans (Fr.of_drawn hd))
  clear hd HI2 HF2
  go_wp2_with fail
  refine (open_yes g b 2 l2 _ 1 _ HI3.out (by omega) (by omega) (fun i => by rw [HN2.out]; split <;> omega)).mono ?_
  rw [HO.out]
  rintro e w4 ⟨rfl, hd⟩
  have HI4 := Lib.hid (HI3.out.drawn hd)
  have HF4 := Lib.hid (HF3.out.trans (Fr.of_drawn hd))
  clear hd HI3 HF3
  go_wp2_with fail
  refine (received_yes g b 2 l2 _ 1 _ HI4.out (by omega) (by omega)).mono ?_
  rw [HN2.out]
  rintro e w5 ⟨rfl, hd⟩
  have HF5 := Lib.hid (HF4.out.trans (Fr.of_drawn hd))
  clear hd HI4 HF4
  go_wp2_with fail
  go_ret
  exact ⟨rfl, HF5.out⟩

theorem open_in (g b n : Nat) (l : List Int) (tp : TypeId) (c : Int) (w : World) (hI : IsL w g b n l tp) (hn : n ≤ 5) (hc : 0 ≤ c ∧ c < n) (hx : ∀ i, 0 ≤ l.getD i 0 ∧ l.getD i 0 ≤ 1000000) (r : Int × Bool) (hr : openR l c.toNat = r) :
    Calls Try.prog 62 #[.pointer (some ⟨g, 0, none⟩), .int .i64 c] w fun e w' => e = .returned (.tuple #[.int .u64 r.1, .bool r.2]) ∧ Drawn0 w w' := by
  subst hr
  obtain ⟨q, rfl⟩ : ∃ q : Nat, c = q := ⟨c.toNat, by omega⟩
  rw [Int.toNat_natCast]
  exact open_yes g b n l tp q w hI hn (by omega) hx
theorem received_in (g b n : Nat) (l : List Int) (tp : TypeId) (c : Int) (w : World) (hI : IsL w g b n l tp) (hn : n ≤ 5) (hc : 0 ≤ c ∧ c < n) (v : Int) (hv : l.getD (9 * c.toNat) 0 = v) :
    Calls Try.prog 63 #[.pointer (some ⟨g, 0, none⟩), .int .i64 c] w fun e w' => e = .returned (.int .u64 v) ∧ Drawn0 w w' := by
  subst hv
  obtain ⟨q, rfl⟩ : ∃ q : Nat, c = q := ⟨c.toNat, by omega⟩
  rw [Int.toNat_natCast]
  exact received_yes g b n l tp q w hI hn (by omega)
theorem ended_in (g b n : Nat) (l : List Int) (tp : TypeId) (c r : Int) (w : World) (hI : IsL w g b n l tp) (hn : n ≤ 5) (v : Int) (hv : (0 ≤ c ∧ c < n ∧ 1 ≤ r ∧ r ≤ 7 ∧ l.getD (9 * c.toNat + 1 + r.toNat) 0 = v) ∨ (¬ (0 ≤ c ∧ c < n ∧ 1 ≤ r ∧ r ≤ 7) ∧ v = 0)) :
    Calls Try.prog 64 #[.pointer (some ⟨g, 0, none⟩), .int .i64 c, .int .i64 r] w fun e w' => e = .returned (.int .u64 v) ∧ Drawn0 w w' := by
  rcases hv with ⟨h1, h2, h3, h4, rfl⟩ | ⟨h1, rfl⟩
  · obtain ⟨q, rfl⟩ : ∃ q : Nat, c = q := ⟨c.toNat, by omega⟩
    obtain ⟨s, rfl⟩ : ∃ s : Nat, r = s := ⟨r.toNat, by omega⟩
    rw [Int.toNat_natCast, Int.toNat_natCast]
    exact ended_yes g b n l tp q s w hI hn (by omega) (by omega)
  · exact ended_no g b n l tp c r w hI hn h1
end Go.Proofs.Ytjkaldnhfenbhaa.Ledger
