/- The walk of the statement LedgerWhole. -/
import Derived.Test.YtjkaldnhfenbhaaLedgerUp
import Derived.Test.YtjkaldnhfenbhaaDeeds
import Derived.StillTailTactics
set_option linter.unusedVariables false
set_option linter.unusedSimpArgs false
namespace Go.Proofs.Ytjkaldnhfenbhaa.Ledger
open Go.RowKit Go.Proofs.YtjkaldnhfenbhaaW.PrintWords Go.Proofs.YtjkaldnhfenbhaaW.PrintLast Go.Proofs.Ytjkaldnhfenbhaa.PLedgerPlays

def PostW (w : World) (e : Ending) (w' : World) : Prop := e = .returned (.bool true) ∧ Below w.heap.size w w'
/-- behind k deeds: none ended that had not come -/
structure InvW (n k : Nat) (l : List Int) : Prop where
  len : l.length = 9 * n
  small : ∀ i, 0 ≤ l.getD i 0 ∧ l.getD i 0 ≤ k
  le : ∀ c : Nat, c < n → total (ended l c) ≤ l.getD (9 * c) 0
  zero : ∀ c : Nat, c < n → l.getD (9 * c + 1) 0 = 0
theorem InvW.start (n : Nat) : InvW n 0 (List.replicate (9 * n) 0) where
  len := by simp
  small := fun i => by rw [rep_getD]; simp
  le := fun c _ => by rw [ended_total]; simp only [rep_getD]; omega
  zero := fun c _ => rep_getD _ _
theorem InvW.same {n k : Nat} {l : List Int} (h : InvW n k l) : InvW n (k + 1) l := ⟨h.len, fun i => by have := h.small i; omega, h.le, h.zero⟩
theorem InvW.small_more {n k : Nat} {l : List Int} (h : InvW n k l) (i : Nat) (hi : i < 9 * n) (j : Nat) : 0 ≤ (more l i).getD j 0 ∧ (more l i).getD j 0 ≤ (k + 1 : Nat) := by
  rw [more_get l i j (by rw [h.len]; exact hi)]
  have := h.small j
  split <;> omega
theorem InvW.come {n k : Nat} {l : List Int} (h : InvW n k l) (c : Nat) (hc : c < n) : InvW n (k + 1) (more l (9 * c)) where
  len := (more_len _ _).trans h.len
  small := h.small_more _ (by omega)
  le := fun d hd => by
    rw [total_come _ _ _ (by rw [h.len]; omega), more_get _ _ _ (by rw [h.len]; omega)]
    have := h.le d hd
    split <;> omega
  zero := fun d hd => by rw [more_far _ _ _ (by omega)]; exact h.zero d hd
theorem InvW.end_ {n k : Nat} {l : List Int} (h : InvW n k l) (c r : Nat) (hc : c < n) (hr : 1 ≤ r ∧ r ≤ 7) (hm : total (ended l c) < l.getD (9 * c) 0) : InvW n (k + 1) (more l (9 * c + 1 + r)) where
  len := (more_len _ _).trans h.len
  small := h.small_more _ (by omega)
  le := fun d hd => by
    rw [more_far _ _ (9 * d) (by omega)]
    have := h.le d hd
    by_cases e : c = d
    · subst e
      rw [total_same _ _ _ (by omega) (by rw [h.len]; omega)]
      omega
    · rw [total_other _ _ _ _ e (by omega) (by rw [h.len]; omega)]
      exact this
  zero := fun d hd => by rw [more_far _ _ _ (by omega)]; exact h.zero d hd
theorem InvW.open_ {n k : Nat} {l : List Int} (h : InvW n k l) (c : Nat) (hc : c < n) : openR l c = (l.getD (9 * c) 0 - total (ended l c), true) := by
  have h1 := h.le c hc
  unfold openR
  rw [opens_total _ _ (h.small _).1 (fun x hx => by
    obtain ⟨r, _, rfl⟩ := List.mem_map.1 hx
    exact (h.small _).1), if_pos h1]
/-- the sum of the first of some numbers -/
def psum (f : Nat → Int) : Nat → Int
  | 0 => 0
  | r + 1 => psum f r + f (r + 1)
/-- how many of a class ended by a reason -/
def endsBy (n : Nat) (l : List Int) (cls : Int) (r : Nat) : Int := if 0 ≤ cls ∧ cls < n then l.getD (9 * cls.toNat + 1 + r) 0 else 0
theorem endsBy_in (n : Nat) (l : List Int) (cls : Int) (r : Nat) (hr : 1 ≤ r ∧ r ≤ 7) : (0 ≤ cls ∧ cls < (n : Int) ∧ 1 ≤ (r : Int) ∧ (r : Int) ≤ 7 ∧ l.getD (9 * cls.toNat + 1 + (r : Int).toNat) 0 = endsBy n l cls r) ∨ (¬ (0 ≤ cls ∧ cls < (n : Int) ∧ 1 ≤ (r : Int) ∧ (r : Int) ≤ 7) ∧ endsBy n l cls r = 0) := by
  unfold endsBy
  by_cases h : 0 ≤ cls ∧ cls < n
  · rw [if_pos h, Int.toNat_natCast]
    exact .inl ⟨h.1, h.2, by omega, by omega, rfl⟩
  · rw [if_neg h]
    exact .inr ⟨fun h3 => h ⟨h3.1, h3.2.1⟩, rfl⟩
theorem endsBy_small {n k : Nat} {l : List Int} (h : InvW n k l) (cls : Int) (r : Nat) : 0 ≤ endsBy n l cls r ∧ endsBy n l cls r ≤ k := by
  unfold endsBy
  split
  · exact h.small _
  · omega
theorem psum_small {n k : Nat} {l : List Int} (h : InvW n k l) (hk : k ≤ 500) (cls : Int) : ∀ r, r ≤ 7 → 0 ≤ psum (endsBy n l cls) r ∧ psum (endsBy n l cls) r ≤ r * 500
  | 0, _ => by simp [psum]
  | r + 1, hr => by
    have h1 := psum_small h hk cls r (by omega)
    have h2 := endsBy_small h cls (r + 1)
    simp only [psum]
    omega
theorem psum_no {n : Nat} {l : List Int} {cls : Int} (h : ¬ (0 ≤ cls ∧ cls < n)) : psum (endsBy n l cls) 7 = 0 := by
  simp only [psum, endsBy, if_neg h]
  rfl
theorem psum_yes {n k : Nat} {l : List Int} (hI : InvW n k l) {cls : Int} (h : 0 ≤ cls ∧ cls < n) : psum (endsBy n l cls) 7 = total (ended l cls.toNat) := by
  have h0 := hI.zero cls.toNat (by omega)
  rw [ended_total, h0]
  simp only [psum, endsBy, if_pos h]

set_option maxRecDepth 100000 in
set_option maxHeartbeats 2000000 in
theorem whole_bad (A1 : Option Addr) (c1 n1 : Nat) (cl cls : Int) (w : World) (gd : ¬ (1 ≤ cl ∧ cl ≤ 4)) :
    Calls Try.prog 13 #[.int .i64 cl, .slice A1 n1 c1, .int .i64 cls] w (PostW w) := by
  have he := Err.eql_err
  have hu := Try.underlying26
  have H := Lib.hid gd
  clear gd
  go_enter Try.func13, Try.ntmps13
  go_wp2_with fail
  refine (up_any _).mono ?_
  rintro e w1 ⟨rfl, hb⟩
  have HB := Lib.hid hb.below0
  clear hb
  go_wp2_with fail
  refine (new_bad cl _ H.out).mono ?_
  rintro e w2 ⟨rfl, rfl⟩
  go_wp2_with fail
  go_ret
  exact ⟨rfl, HB.out⟩

set_option maxRecDepth 100000 in
set_option maxHeartbeats 2000000 in
theorem whole_long (A1 : Option Addr) (c1 n1 : Nat) (cl : Nat) (cls : Int) (w : World) (gd : 1 ≤ cl ∧ cl ≤ 4) (hl : 500 < n1) (hm : n1 ≤ 9223372036854775807) :
    Calls Try.prog 13 #[.int .i64 cl, .slice A1 n1 c1, .int .i64 cls] w (PostW w) := by
  have he := Err.eql_err
  have hu := Try.underlying26
  have H := Lib.hid gd
  obtain ⟨g1, g2⟩ := gd
  go_enter Try.func13, Try.ntmps13
  go_wp2_with fail
  refine (up_any _).mono ?_
  rintro e w1 ⟨rfl, hb⟩
  have HB := Lib.hid hb
  clear hb
  go_wp2_with fail
  refine (new_any cl H.out _).mono ?_
  rintro e w2 ⟨g, b, rfl, hI, hF, -, -⟩
  have HB2 := Lib.hid (HB.out.trans hF).below0
  clear hI hF
  go_wp2_with fail
  go_ret
  exact ⟨rfl, HB2.out⟩

/-- what holds behind k deeds -/
def PlayW (w wr : World) (g b n k : Nat) (l : List Int) : Prop :=
  IsL wr g b n l 140 ∧ Fr [] w wr ∧ w.heap.size ≤ g ∧ w.heap.size ≤ b ∧ InvW n k l

set_option maxRecDepth 100000 in
set_option maxHeartbeats 8000000 in
theorem whole_some (A1 : Option Addr) (c1 : Nat) (d : List (Bool × Int × Int)) (cl : Nat) (cls : Int) (w : World) (gd : 1 ≤ cl ∧ cl ≤ 4) (hl : d.length ≤ 500)
    (hc : d = [] ∨ ∃ ad, A1 = some ad ∧ ∀ j, j < d.length → ∃ b n t, d[j]? = some (b, n, t) ∧ w.cell? (ad.add (j * 3)) = some (.bool b) ∧ w.cell? (ad.add (j * 3 + 1)) = some (.int .i64 n) ∧ w.cell? (ad.add (j * 3 + 2)) = some (.int .i64 t)) :
    Calls Try.prog 13 #[.int .i64 cl, .slice A1 d.length c1, .int .i64 cls] w (PostW w) := by
  have he := Err.eql_err
  have hu := Try.underlying26
  have H := Lib.hid gd
  have HR := Lib.hid hc
  obtain ⟨g1, g2⟩ := gd
  clear hc
  go_enter Try.func13, Try.ntmps13
  go_wp2_with fail
  refine (up_any _).mono ?_
  rintro e w1 ⟨rfl, hb⟩
  have HB := Lib.hid hb
  clear hb
  go_wp2_with fail
  refine (new_any cl H.out _).mono ?_
  rintro e w2 ⟨g, b, rfl, hI, hF, hg, hb⟩
  have HX := Lib.hid (show PlayW w w2 g b (cl + 1) 0 (List.replicate (9 * (cl + 1)) 0) from ⟨hI, HB.out.trans hF, Nat.le_trans HB.out.size hg, Nat.le_trans HB.out.size hb, InvW.start _⟩)
  clear hI hF hg hb HB
  go_wp2_with fail
  go_loopw [10] (fun i wr => ∃ (k : Nat) (l : List Int), k ≤ d.length ∧ i = .int .i64 k ∧ PlayW w wr g b (cl + 1) k l) (fun i _ => d.length - (intOf i).toNat)
  case atStart => exact ⟨0, _, Nat.zero_le _, rfl, HX.out⟩
  case round =>
    obtain ⟨k, l, hk, rfl, hX⟩ := hrel
    clear HX
    have HX := Lib.hid hX
    clear hX
    by_cases hlt : k < d.length
    · obtain ⟨ad, rfl, HC⟩ : ∃ ad, A1 = some ad ∧ Hid (∃ b n t, d[k]? = some (b, n, t) ∧ w.cell? (ad.add (k * 3)) = some (.bool b) ∧ w.cell? (ad.add (k * 3 + 1)) = some (.int .i64 n) ∧ w.cell? (ad.add (k * 3 + 2)) = some (.int .i64 t)) := by
        rcases HR.out with h0 | ⟨ad, h1, h2⟩
        · rw [h0] at hlt
          exact absurd hlt (Nat.not_lt_zero _)
        · exact ⟨ad, h1, h2 k hlt⟩
      obtain ⟨x, c, r, HC⟩ : ∃ (x : Bool) (c r : Int), Hid (∀ W, Fr [] w W → W.cell? (ad.add (k * 3)) = some (.bool x) ∧ W.cell? { block := (ad.add (k * 3)).block, off := (ad.add (k * 3)).off + 1 } = some (.int .i64 c) ∧ W.cell? { block := (ad.add (k * 3)).block, off := (ad.add (k * 3)).off + 2 } = some (.int .i64 r)) := by
        obtain ⟨x, c, r, -, e1, e2, e3⟩ := HC.out
        exact ⟨x, c, r, fun W hW => ⟨hW.cell0 e1, (congrArg W.cell? (add_add ad (k * 3) 1)).trans (hW.cell0 e2), (congrArg W.cell? (add_add ad (k * 3) 2)).trans (hW.cell0 e3)⟩⟩
      obtain ⟨e1, e2, e3⟩ := HC.out wr HX.out.2.1
      have HI := Lib.hid HX.out.1
      have HF := Lib.hid HX.out.2.1
      have HG := Lib.hid (show w.heap.size ≤ g ∧ w.heap.size ≤ b from ⟨HX.out.2.2.1, HX.out.2.2.2.1⟩)
      have HV := Lib.hid HX.out.2.2.2.2
      have HS := Lib.hid (show ∀ i, 0 ≤ l.getD i 0 ∧ l.getD i 0 ≤ 1000000 from fun i => by have := HX.out.2.2.2.2.small i; omega)
      clear HX HR
      rcases x with _ | _
      · by_cases hc0 : c < 0
        · go_wp2_with fail
          refine (open_no g b (cl + 1) l _ c _ HI.out (by omega) (by omega)).mono ?_
          rintro e w3 ⟨rfl, hd⟩
          have HI3 := Lib.hid (HI.out.drawn hd)
          have HF3 := Lib.hid (HF.out.trans (Fr.of_drawn hd))
          obtain ⟨e4, e5, e6⟩ := HC.out w3 HF3.out
          clear hd HI HF e1 e2 e3
          go_wp2_with fail
          refine (come_no g b (cl + 1) l _ c _ HI3.out (by omega) (by omega)).mono ?_
          rintro e w4 ⟨rfl, hd⟩
          have HX4 := Lib.hid (show PlayW w w4 g b (cl + 1) (k + 1) l from ⟨HI3.out.drawn hd, HF3.out.trans (Fr.of_drawn hd), HG.out.1, HG.out.2, HV.out.same⟩)
          clear hd
          go_wp2_with fail
          go_roundw
          case rel => exact ⟨k + 1, _, by omega, by go_num, HX4.out⟩
          case measure => simp [intOf]; omega
        · by_cases hc1 : (cl : Int) < c
          · go_wp2_with fail
            refine (open_no g b (cl + 1) l _ c _ HI.out (by omega) (by omega)).mono ?_
            rintro e w3 ⟨rfl, hd⟩
            have HI3 := Lib.hid (HI.out.drawn hd)
            have HF3 := Lib.hid (HF.out.trans (Fr.of_drawn hd))
            obtain ⟨e4, e5, e6⟩ := HC.out w3 HF3.out
            clear hd HI HF e1 e2 e3
            go_wp2_with fail
            refine (come_no g b (cl + 1) l _ c _ HI3.out (by omega) (by omega)).mono ?_
            rintro e w4 ⟨rfl, hd⟩
            have HX4 := Lib.hid (show PlayW w w4 g b (cl + 1) (k + 1) l from ⟨HI3.out.drawn hd, HF3.out.trans (Fr.of_drawn hd), HG.out.1, HG.out.2, HV.out.same⟩)
            clear hd
            go_wp2_with fail
            go_roundw
            case rel => exact ⟨k + 1, _, by omega, by go_num, HX4.out⟩
            case measure => simp [intOf]; omega
          · obtain ⟨c', rfl⟩ : ∃ c' : Nat, c = c' := ⟨c.toNat, by omega⟩
            have HO := Lib.hid (HV.out.open_ c' (by omega))
            obtain ⟨m, hm⟩ : ∃ m, m = l.getD (9 * c') 0 - total (ended l c') := ⟨_, rfl⟩
            rw [← hm] at HO
            have HM := Lib.hid hm
            clear hm
            go_wp2_with fail
            refine (open_in g b (cl + 1) l _ c' _ HI.out (by omega) (by omega) HS.out (m, true) (by rw [Int.toNat_natCast]; exact HO.out)).mono ?_
            rintro e w3 ⟨rfl, hd⟩
            have HI3 := Lib.hid (HI.out.drawn hd)
            have HF3 := Lib.hid (HF.out.trans (Fr.of_drawn hd))
            obtain ⟨e4, e5, e6⟩ := HC.out w3 HF3.out
            clear hd HI HF e1 e2 e3
            go_wp2_with fail
            refine (come_yes g b (cl + 1) l _ c' _ HI3.out (by omega) (by omega) (by have := HS.out (9 * c'); omega)).mono ?_
            rintro e w4 ⟨rfl, hI4, hF4⟩
            have HX4 := Lib.hid (show PlayW w w4 g b (cl + 1) (k + 1) _ from ⟨hI4, HF3.out.step hF4 (by simp; exact HG.out.2), HG.out.1, HG.out.2, HV.out.come c' (by omega)⟩)
            clear hI4 hF4
            go_wp2_with fail
            go_roundw
            case rel => exact ⟨k + 1, _, by omega, by go_num, HX4.out⟩
            case measure => simp [intOf]; omega
      · by_cases hc0 : c < 0
        · go_wp2_with fail
          refine (open_no g b (cl + 1) l _ c _ HI.out (by omega) (by omega)).mono ?_
          rintro e w3 ⟨rfl, hd⟩
          have HI3 := Lib.hid (HI.out.drawn hd)
          have HF3 := Lib.hid (HF.out.trans (Fr.of_drawn hd))
          obtain ⟨e4, e5, e6⟩ := HC.out w3 HF3.out
          clear hd HI HF e1 e2 e3
          go_wp2_with fail
          go_roundw
          case rel => exact ⟨k + 1, _, by omega, by go_num, ⟨HI3.out, HF3.out, HG.out.1, HG.out.2, HV.out.same⟩⟩
          case measure => simp [intOf]; omega
        · by_cases hc1 : (cl : Int) < c
          · go_wp2_with fail
            refine (open_no g b (cl + 1) l _ c _ HI.out (by omega) (by omega)).mono ?_
            rintro e w3 ⟨rfl, hd⟩
            have HI3 := Lib.hid (HI.out.drawn hd)
            have HF3 := Lib.hid (HF.out.trans (Fr.of_drawn hd))
            obtain ⟨e4, e5, e6⟩ := HC.out w3 HF3.out
            clear hd HI HF e1 e2 e3
            go_wp2_with fail
            go_roundw
            case rel => exact ⟨k + 1, _, by omega, by go_num, ⟨HI3.out, HF3.out, HG.out.1, HG.out.2, HV.out.same⟩⟩
            case measure => simp [intOf]; omega
          · obtain ⟨c', rfl⟩ : ∃ c' : Nat, c = c' := ⟨c.toNat, by omega⟩
            have HO := Lib.hid (HV.out.open_ c' (by omega))
            obtain ⟨m, hm⟩ : ∃ m, m = l.getD (9 * c') 0 - total (ended l c') := ⟨_, rfl⟩
            rw [← hm] at HO
            have HM := Lib.hid hm
            clear hm
            by_cases hm0 : m = 0
            · subst hm0
              go_wp2_with fail
              refine (open_in g b (cl + 1) l _ c' _ HI.out (by omega) (by omega) HS.out (0, true) (by rw [Int.toNat_natCast]; exact HO.out)).mono ?_
              rintro e w3 ⟨rfl, hd⟩
              have HI3 := Lib.hid (HI.out.drawn hd)
              have HF3 := Lib.hid (HF.out.trans (Fr.of_drawn hd))
              obtain ⟨e4, e5, e6⟩ := HC.out w3 HF3.out
              clear hd HI HF e1 e2 e3
              go_wp2_with fail
              go_roundw
              case rel => exact ⟨k + 1, _, by omega, by go_num, ⟨HI3.out, HF3.out, HG.out.1, HG.out.2, HV.out.same⟩⟩
              case measure => simp [intOf]; omega
            · have HP := Lib.hid (show total (ended l c') < l.getD (9 * c') 0 by have := HV.out.le c' (by omega); have := HM.out; omega)
              have hmb : (m == 0) = false := by simpa using hm0
              clear hm0
              by_cases hr0 : r < 1
              · go_wp2_with fail
                refine (open_in g b (cl + 1) l _ c' _ HI.out (by omega) (by omega) HS.out (m, true) (by rw [Int.toNat_natCast]; exact HO.out)).mono ?_
                rintro e w3 ⟨rfl, hd⟩
                have HI3 := Lib.hid (HI.out.drawn hd)
                have HF3 := Lib.hid (HF.out.trans (Fr.of_drawn hd))
                obtain ⟨e4, e5, e6⟩ := HC.out w3 HF3.out
                clear hd HI HF e1 e2 e3
                go_wp2_with fail
                go_still_tail 11, (by kernel_rfl)
                go_wp2_with fail
                refine (end_no g b (cl + 1) l _ c' r _ (by exact HI3.out) (by omega) (by omega)).mono ?_
                rintro e w4 ⟨rfl, hd⟩
                have HX4 := Lib.hid (show PlayW w w4 g b (cl + 1) (k + 1) l from ⟨IsL.drawn (by exact HI3.out) hd, Fr.trans (by first | exact HF3.out.drewN _ | exact HF3.out.drew) (Fr.of_drawn hd), HG.out.1, HG.out.2, HV.out.same⟩)
                clear hd
                go_wp2_with fail
                go_roundw
                case rel => exact ⟨k + 1, _, by omega, by go_num, HX4.out⟩
                case measure => simp [intOf]; omega
              · by_cases hr1 : 7 < r
                · go_wp2_with fail
                  refine (open_in g b (cl + 1) l _ c' _ HI.out (by omega) (by omega) HS.out (m, true) (by rw [Int.toNat_natCast]; exact HO.out)).mono ?_
                  rintro e w3 ⟨rfl, hd⟩
                  have HI3 := Lib.hid (HI.out.drawn hd)
                  have HF3 := Lib.hid (HF.out.trans (Fr.of_drawn hd))
                  obtain ⟨e4, e5, e6⟩ := HC.out w3 HF3.out
                  clear hd HI HF e1 e2 e3
                  go_wp2_with fail
                  go_still_tail 11, (by kernel_rfl)
                  go_wp2_with fail
                  refine (end_no g b (cl + 1) l _ c' r _ (by exact HI3.out) (by omega) (by omega)).mono ?_
                  rintro e w4 ⟨rfl, hd⟩
                  have HX4 := Lib.hid (show PlayW w w4 g b (cl + 1) (k + 1) l from ⟨IsL.drawn (by exact HI3.out) hd, Fr.trans (by first | exact HF3.out.drewN _ | exact HF3.out.drew) (Fr.of_drawn hd), HG.out.1, HG.out.2, HV.out.same⟩)
                  clear hd
                  go_wp2_with fail
                  go_roundw
                  case rel => exact ⟨k + 1, _, by omega, by go_num, HX4.out⟩
                  case measure => simp [intOf]; omega
                · obtain ⟨r', rfl⟩ : ∃ r' : Nat, r = r' := ⟨r.toNat, by omega⟩
                  go_wp2_with fail
                  refine (open_in g b (cl + 1) l _ c' _ HI.out (by omega) (by omega) HS.out (m, true) (by rw [Int.toNat_natCast]; exact HO.out)).mono ?_
                  rintro e w3 ⟨rfl, hd⟩
                  have HI3 := Lib.hid (HI.out.drawn hd)
                  have HF3 := Lib.hid (HF.out.trans (Fr.of_drawn hd))
                  obtain ⟨e4, e5, e6⟩ := HC.out w3 HF3.out
                  clear hd HI HF e1 e2 e3
                  go_wp2_with fail
                  go_still_tail 11, (by kernel_rfl)
                  go_wp2_with fail
                  refine (end_yes g b (cl + 1) l _ c' r' _ (by exact HI3.out) (by omega) (by omega) (by omega) (by have := HS.out (9 * c' + 1 + r'); omega)).mono ?_
                  rintro e w4 ⟨rfl, hI4, hF4⟩
                  have HX4 := Lib.hid (show PlayW w w4 g b (cl + 1) (k + 1) _ from ⟨hI4, Fr.step (by first | exact HF3.out.drewN _ | exact HF3.out.drew) hF4 (by simp; exact HG.out.2), HG.out.1, HG.out.2, HV.out.end_ c' r' (by omega) (by omega) HP.out⟩)
                  clear hI4 hF4
                  go_wp2_with fail
                  go_roundw
                  case rel => exact ⟨k + 1, _, by omega, by go_num, HX4.out⟩
                  case measure => simp [intOf]; omega
    · have HV := Lib.hid HX.out.2.2.2.2
      have HS := Lib.hid (show ∀ i, 0 ≤ l.getD i 0 ∧ l.getD i 0 ≤ 1000000 from fun i => by have := HX.out.2.2.2.2.small i; omega)
      have HP := Lib.hid (psum_small HX.out.2.2.2.2 (by omega) cls)
      have HE := Lib.hid (fun r hr => endsBy_in (cl + 1) l cls r hr)
      have HPS := Lib.hid (show ∀ r, psum (endsBy (cl + 1) l cls) (r + 1) = psum (endsBy (cl + 1) l cls) r + endsBy (cl + 1) l cls (r + 1) from fun _ => rfl)
      have HP0 := Lib.hid (show psum (endsBy (cl + 1) l cls) 0 = 0 from rfl)
      have HB := Lib.hid (fun r => endsBy_small HX.out.2.2.2.2 cls r)
      have HI := Lib.hid HX.out.1
      have HF := Lib.hid HX.out.2.1
      have HPN := Lib.hid (show ¬ (0 ≤ cls ∧ cls < ((cl + 1 : Nat) : Int)) → psum (endsBy (cl + 1) l cls) 7 = 0 from psum_no)
      have HPY := Lib.hid (show (0 ≤ cls ∧ cls < ((cl + 1 : Nat) : Int)) → psum (endsBy (cl + 1) l cls) 7 = total (ended l cls.toNat) from psum_yes HX.out.2.2.2.2)
      obtain ⟨f, hf⟩ : ∃ f, f = endsBy (cl + 1) l cls := ⟨_, rfl⟩
      rw [← hf] at HP HE HPS HP0 HB HPN HPY
      obtain ⟨q, hq⟩ : ∃ q, q = psum f := ⟨_, rfl⟩
      rw [← hq] at HP HPS HP0 HPN HPY
      clear hf hq HX HR
      go_wp2_with fail
      obtain ⟨wo, hwo⟩ : ∃ wo : World, wo = wr := ⟨_, rfl⟩
      rw [← hwo] at HI HF
      go_loopw [13, 14] (fun s i wr => ∃ r : Nat, r ≤ 7 ∧ i = .int .i64 ((r : Int) + 1) ∧ s = .int .u64 (q r) ∧ IsL wr g b (cl + 1) l 140 ∧ Fr [] w wr) (fun _ i _ => 8 - (intOf i).toNat)
      case atStart => exact ⟨0, by omega, rfl, by rw [HP0.out], by rw [← hwo]; exact HI.out, by rw [← hwo]; exact HF.out⟩
      case round =>
        clear hwo HI HF
        obtain ⟨r, hr, rfl, rfl, hI, hF⟩ := hrel
        have HI := Lib.hid hI
        have HF := Lib.hid hF
        clear hI hF
        by_cases hr7 : r < 7
        · have hp := HP.out r (by omega)
          have hb := HB.out (r + 1)
          obtain ⟨p0, p1⟩ := hp
          obtain ⟨b0, b1⟩ := hb
          have hE1 := HE.out (r + 1) (by omega)
          rw [show ((r + 1 : Nat) : Int) = (r : Int) + 1 from by omega] at hE1
          have HE1 := Lib.hid hE1
          clear hE1
          obtain ⟨v, hv⟩ : ∃ v, v = f (r + 1) := ⟨_, rfl⟩
          have HV1 := Lib.hid (HPS.out r)
          rw [← hv] at b0 b1 HE1 HV1
          clear hv
          go_wp2_with fail
          refine (ended_in g b (cl + 1) l _ cls ((r : Int) + 1) _ HI.out (by omega) v HE1.out).mono ?_
          rintro e w3 ⟨rfl, hd⟩
          have HI3 := Lib.hid (HI.out.drawn hd)
          have HF3 := Lib.hid (HF.out.trans (Fr.of_drawn hd))
          clear hd HI HF
          go_wp2_with fail
          go_roundw
          case rel => exact ⟨r + 1, by omega, by go_num, by rw [HV1.out], HI3.out, HF3.out⟩
          case measure => simp [intOf]; omega
        · obtain rfl : r = 7 := by omega
          by_cases hk : 0 ≤ cls ∧ cls < ((cl + 1 : Nat) : Int)
          · obtain ⟨k0, k1⟩ := hk
            have HQ := Lib.hid (HPY.out ⟨k0, k1⟩)
            have HO := Lib.hid (HV.out.open_ cls.toNat (by omega))
            have hle := HV.out.le cls.toNat (by omega)
            have hs := HS.out (9 * cls.toNat)
            obtain ⟨t, ht⟩ : ∃ t, t = total (ended l cls.toNat) := ⟨_, rfl⟩
            obtain ⟨a, ha⟩ : ∃ a, a = l.getD (9 * cls.toNat) 0 := ⟨_, rfl⟩
            have HA := Lib.hid ha.symm
            have hq := HP.out 7 (by omega)
            rw [← ht, ← ha] at HO hle
            rw [← ha] at hs
            rw [← ht] at HQ
            rw [HQ.out] at hq
            obtain ⟨s0, s1⟩ := hs
            obtain ⟨q0, q1⟩ := hq
            clear ht ha
            rw [HQ.out]
            go_wp2_with fail
            refine (open_in g b (cl + 1) l _ cls _ HI.out (by omega) (by omega) HS.out _ HO.out).mono ?_
            rintro e w3 ⟨rfl, hd⟩
            have HI3 := Lib.hid (HI.out.drawn hd)
            have HF3 := Lib.hid (HF.out.trans (Fr.of_drawn hd))
            clear hd HI HF HO
            go_wp2_with fail
            refine (received_in g b (cl + 1) l _ cls _ HI3.out (by omega) (by omega) _ HA.out).mono ?_
            rintro e w4 ⟨rfl, hd⟩
            have HF4 := Lib.hid (HF3.out.trans (Fr.of_drawn hd)).below0
            have hb : (a == t + (a - t)) = true := by simp; omega
            clear hd HI3 HF3
            go_wp2_with fail
            go_ret
            exact ⟨by first | rfl | rw [hb] | simp, HF4.out⟩
          · have HQ := Lib.hid (HPN.out hk)
            have HN := Lib.hid hk
            rw [HQ.out]
            by_cases h0 : cls < 0
            all_goals
              try (have h1 : (cl : Int) < cls := by have := HN.out; omega)
              clear hk
              go_wp2_with fail
              refine (open_no g b (cl + 1) l _ cls _ HI.out (by omega) HN.out).mono ?_
              rintro e w3 ⟨rfl, hd⟩
              have HF3 := Lib.hid (HF.out.trans (Fr.of_drawn hd)).below0
              clear hd HI HF
              go_wp2_with fail
              go_ret
              exact ⟨rfl, HF3.out⟩

theorem whole_any (A1 : Option Addr) (c1 : Nat) (cl cls : Int) (d : List (Bool × Int × Int)) (w : World) (hr : Kd.C Deeds.BII w A1 d.length d) :
    Calls Try.prog 13 #[.int .i64 cl, .slice A1 d.length c1, .int .i64 cls] w fun e w' => e = .returned (.bool true) ∧ Below w.heap.size w w' := by
  by_cases h : 1 ≤ cl ∧ cl ≤ 4
  · obtain ⟨k, rfl⟩ : ∃ k : Nat, cl = k := ⟨cl.toNat, by omega⟩
    by_cases hl : d.length ≤ 500
    · exact whole_some A1 c1 d k cls w (by omega) hl (Deeds.C_bii hr)
    · exact whole_long A1 c1 d.length k cls w (by omega) (by omega) hr.2.1
  · exact whole_bad A1 c1 d.length cl cls w h
end Go.Proofs.Ytjkaldnhfenbhaa.Ledger
