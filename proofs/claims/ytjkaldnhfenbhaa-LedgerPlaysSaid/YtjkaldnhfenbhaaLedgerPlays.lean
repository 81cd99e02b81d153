/- The walk of the statement LedgerPlays. -/
import Derived.Test.YtjkaldnhfenbhaaLedgerUp
import Derived.Test.YtjkaldnhfenbhaaDeeds
set_option linter.unusedVariables false
set_option linter.unusedSimpArgs false
namespace Go.Proofs.Ytjkaldnhfenbhaa.Ledger
open Go.RowKit Go.Proofs.YtjkaldnhfenbhaaW.PrintWords Go.Proofs.YtjkaldnhfenbhaaW.PrintLast Go.Proofs.Ytjkaldnhfenbhaa.PLedgerPlays

def Post (w : World) (e : Ending) (w' : World) : Prop := e = .returned (.bool true) ∧ Below w.heap.size w w'

set_option maxRecDepth 100000 in
set_option maxHeartbeats 2000000 in
theorem plays_bad (A1 : Option Addr) (c1 n1 : Nat) (cl cls rsn : Int) (w : World) (gd : ¬ (1 ≤ cl ∧ cl ≤ 4)) :
    Calls Try.prog 12 #[.int .i64 cl, .slice A1 n1 c1, .int .i64 cls, .int .i64 rsn] w (Post w) := by
  have he := Err.eql_err
  have hu := Try.underlying26
  have H := Lib.hid gd
  by_cases b0 : cl < 1
  all_goals
    first
      | clear gd
      | skip
    try (have b1 : 4 < cl := by have := H.out; omega)
    go_enter Try.func12, Try.ntmps12
    go_wp2_with fail
    refine (up_any _).mono ?_
    rintro e w1 ⟨rfl, hb⟩
    have HB := Lib.hid hb.below0
    clear hb
    go_wp2_with fail
    refine (new_bad cl _ H.out).mono ?_
    rintro e w2 ⟨rfl, rfl⟩
    go_wp2_with fail
    go_ret
    exact ⟨rfl, HB.out⟩

set_option maxRecDepth 100000 in
set_option maxHeartbeats 2000000 in
theorem plays_long (A1 : Option Addr) (c1 n1 : Nat) (cl : Nat) (cls rsn : Int) (w : World) (gd : 1 ≤ cl ∧ cl ≤ 4) (hl : 500 < n1) (hm : n1 ≤ 9223372036854775807) :
    Calls Try.prog 12 #[.int .i64 cl, .slice A1 n1 c1, .int .i64 cls, .int .i64 rsn] w (Post w) := by
  have he := Err.eql_err
  have hu := Try.underlying26
  have H := Lib.hid gd
  obtain ⟨g1, g2⟩ := gd
  go_enter Try.func12, Try.ntmps12
  go_wp2_with fail
  refine (up_any _).mono ?_
  rintro e w1 ⟨rfl, hb⟩
  have HB := Lib.hid hb
  clear hb
  go_wp2_with fail
  refine (new_any cl H.out _).mono ?_
  rintro e w2 ⟨g, b, rfl, hI, hF, -, -⟩
  have HB2 := Lib.hid (HB.out.trans hF).below0
  clear hI hF
  go_wp2_with fail
  go_ret
  exact ⟨rfl, HB2.out⟩

/-- what holds behind k deeds -/
def Play (w wr : World) (g b n : Nat) (cls rsn : Int) (k : Nat) (l : List Int) (ca en al : Int) : Prop :=
  IsL wr g b n l 140 ∧ Fr [] w wr ∧ w.heap.size ≤ g ∧ w.heap.size ≤ b ∧ Inv n cls rsn k l ca en al

theorem plays_end {cl : Nat} {cls rsn : Int} {w wr : World} {g b k : Nat} {l : List Int} {ca en al : Int} (hX : Play w wr g b (cl + 1) cls rsn k l ca en al) :
    ((al ≤ ca ∧ 0 ≤ cls ∧ cls ≤ cl ∧ openR l cls.toNat = (ca - al, true)) ∨ (ca < al ∧ 0 ≤ cls ∧ cls ≤ cl ∧ openR l cls.toNat = (0, false)) ∨ ¬ (0 ≤ cls ∧ cls ≤ cl)) := by
  by_cases h : 0 ≤ cls ∧ cls ≤ cl
  · have h1 := hX.2.2.2.2.open_ cls.toNat (by omega) (by omega)
    by_cases h2 : al ≤ ca
    · rw [if_pos h2] at h1
      exact .inl ⟨h2, h.1, h.2, h1⟩
    · rw [if_neg h2] at h1
      exact .inr (.inl ⟨by omega, h.1, h.2, h1⟩)
  · exact .inr (.inr h)
theorem plays_ends {cl : Nat} {cls rsn : Int} {w wr : World} {g b k : Nat} {l : List Int} {ca en al : Int} (hX : Play w wr g b (cl + 1) cls rsn k l ca en al) :
    (0 ≤ cls ∧ cls < ((cl + 1 : Nat) : Int) ∧ 1 ≤ rsn ∧ rsn ≤ 7 ∧ l.getD (9 * cls.toNat + 1 + rsn.toNat) 0 = en) ∨ (¬ (0 ≤ cls ∧ cls < ((cl + 1 : Nat) : Int) ∧ 1 ≤ rsn ∧ rsn ≤ 7) ∧ en = 0) := by
  have hV := hX.2.2.2.2
  by_cases h : 0 ≤ cls ∧ cls < ((cl + 1 : Nat) : Int)
  · by_cases h2 : 1 ≤ rsn ∧ rsn ≤ 7
    · exact .inl ⟨h.1, h.2, h2.1, h2.2, (hV.ends cls.toNat rsn.toNat (by omega) (by omega) (by omega) (by omega) (by omega)).symm⟩
    · exact .inr ⟨fun h3 => h2 ⟨h3.2.2.1, h3.2.2.2⟩, hV.noner h2⟩
  · exact .inr ⟨fun h3 => h ⟨h3.1, h3.2.1⟩, (hV.none h).2.1⟩

set_option maxRecDepth 100000 in
set_option maxHeartbeats 8000000 in
theorem plays_some (A1 : Option Addr) (c1 : Nat) (d : List (Bool × Int × Int)) (cl : Nat) (cls rsn : Int) (w : World) (gd : 1 ≤ cl ∧ cl ≤ 4) (hl : d.length ≤ 500)
    (hc : d = [] ∨ ∃ ad, A1 = some ad ∧ ∀ j, j < d.length → ∃ b n t, d[j]? = some (b, n, t) ∧ w.cell? (ad.add (j * 3)) = some (.bool b) ∧ w.cell? (ad.add (j * 3 + 1)) = some (.int .i64 n) ∧ w.cell? (ad.add (j * 3 + 2)) = some (.int .i64 t)) :
    Calls Try.prog 12 #[.int .i64 cl, .slice A1 d.length c1, .int .i64 cls, .int .i64 rsn] w (Post w) := by
  have he := Err.eql_err
  have hn : ∀ w, (binOp .neq 26 (.iface 29 (.int .i64 1)) (.iface 29 (.int .i64 1))).run Try.prog w = .ok (.bool false) w := fun w => (Err.neq_err w 1 1).trans rfl
  have hu := Try.underlying26
  have H := Lib.hid gd
  have HR := Lib.hid hc
  obtain ⟨g1, g2⟩ := gd
  clear hc
  go_enter Try.func12, Try.ntmps12
  go_wp2_with fail
  refine (up_any _).mono ?_
  rintro e w1 ⟨rfl, hb⟩
  have HB := Lib.hid hb
  clear hb
  go_wp2_with fail
  refine (new_any cl H.out _).mono ?_
  rintro e w2 ⟨g, b, rfl, hI, hF, hg, hb⟩
  have HX := Lib.hid (show Play w w2 g b (cl + 1) cls rsn 0 (List.replicate (9 * (cl + 1)) 0) 0 0 0 from ⟨hI, HB.out.trans hF, Nat.le_trans HB.out.size hg, Nat.le_trans HB.out.size hb, Inv.start _ _ _⟩)
  clear hI hF hg hb HB
  go_wp2_with fail
  go_loopw [12, 13, 14, 15] (fun ca en al i wr => ∃ (k : Nat) (l : List Int) (a b' c : Int), k ≤ d.length ∧ i = .int .i64 k ∧ ca = .int .u64 a ∧ en = .int .u64 b' ∧ al = .int .u64 c ∧ Play w wr g b (cl + 1) cls rsn k l a b' c) (fun _ _ _ i _ => d.length - (intOf i).toNat)
  case atStart => exact ⟨0, _, 0, 0, 0, Nat.zero_le _, rfl, rfl, rfl, rfl, HX.out⟩
  case round =>
    obtain ⟨k, l, ca, en, al, hk, rfl, rfl, rfl, rfl, hX⟩ := hrel
    clear HX
    have HX := Lib.hid hX
    obtain ⟨ca0, ca1⟩ := hX.2.2.2.2.ca0
    obtain ⟨en0, en1⟩ := hX.2.2.2.2.en0
    obtain ⟨al0, al1⟩ := hX.2.2.2.2.al0
    clear hX
    by_cases hlt : k < d.length
    · obtain ⟨ad, rfl, HC⟩ : ∃ ad, A1 = some ad ∧ Hid (∃ b n t, d[k]? = some (b, n, t) ∧ w.cell? (ad.add (k * 3)) = some (.bool b) ∧ w.cell? (ad.add (k * 3 + 1)) = some (.int .i64 n) ∧ w.cell? (ad.add (k * 3 + 2)) = some (.int .i64 t)) := by
        rcases HR.out with h0 | ⟨ad, h1, h2⟩
        · rw [h0] at hlt
          exact absurd hlt (Nat.not_lt_zero _)
        · exact ⟨ad, h1, h2 k hlt⟩
      obtain ⟨x, c, r, -, e1, e2, e3⟩ := HC.out
      have e1 := HX.out.2.1.cell0 e1
      have e2 : wr.cell? { block := (ad.add (k * 3)).block, off := (ad.add (k * 3)).off + 1 } = some (.int .i64 c) := (congrArg wr.cell? (add_add ad (k * 3) 1)).trans (HX.out.2.1.cell0 e2)
      have e3 : wr.cell? { block := (ad.add (k * 3)).block, off := (ad.add (k * 3)).off + 2 } = some (.int .i64 r) := (congrArg wr.cell? (add_add ad (k * 3) 2)).trans (HX.out.2.1.cell0 e3)
      have HQ := Lib.hid (Blk.new wr #[.bool x, .int .i64 c, .int .i64 r] 97)
      have HI := Lib.hid (HX.out.1.alloc (.cells #[.bool x, .int .i64 c, .int .i64 r] 97))
      have HN := Lib.hid (show wr.heap.size ≠ b by have := HX.out.1.lt; omega)
      have HF := Lib.hid (HX.out.2.1.alloc (.cells #[.bool x, .int .i64 c, .int .i64 r] 97))
      have HG := Lib.hid (show w.heap.size ≤ g ∧ w.heap.size ≤ b from ⟨HX.out.2.2.1, HX.out.2.2.2.1⟩)
      have HV := Lib.hid HX.out.2.2.2.2
      clear HX HC HR

      rcases x with _ | _
      · by_cases hc0 : c < 0
        · go_wp2_with fail
          refine (come_no g b (cl + 1) l _ c _ HI.out (by omega) (by omega)).mono ?_
          rintro e w3 ⟨rfl, hd⟩
          have q := (HQ.out.keep (Fr.of_drawn hd) (by simp))
          have q0 := (q.cell 0).trans rfl
          have q1 := (q.cell 1).trans rfl
          have q2 := (q.cell 2).trans rfl
          have HI3 := Lib.hid (HI.out.drawn hd)
          have HF3 := Lib.hid (HF.out.trans (Fr.of_drawn hd))
          clear q hd HQ HI HF
          go_wp2_with fail
          go_roundw
          case rel => exact ⟨k + 1, _, _, _, _, by omega, by go_num, rfl, rfl, rfl, ⟨HI3.out, HF3.out, HG.out.1, HG.out.2, HV.out.same⟩⟩
          case measure => simp [intOf]; omega
        · by_cases hc1 : (cl : Int) < c
          · go_wp2_with fail
            refine (come_no g b (cl + 1) l _ c _ HI.out (by omega) (by omega)).mono ?_
            rintro e w3 ⟨rfl, hd⟩
            have q := (HQ.out.keep (Fr.of_drawn hd) (by simp))
            have q0 := (q.cell 0).trans rfl
            have q1 := (q.cell 1).trans rfl
            have q2 := (q.cell 2).trans rfl
            have HI3 := Lib.hid (HI.out.drawn hd)
            have HF3 := Lib.hid (HF.out.trans (Fr.of_drawn hd))
            clear q hd HQ HI HF
            go_wp2_with fail
            go_roundw
            case rel => exact ⟨k + 1, _, _, _, _, by omega, by go_num, rfl, rfl, rfl, ⟨HI3.out, HF3.out, HG.out.1, HG.out.2, HV.out.same⟩⟩
            case measure => simp [intOf]; omega
          · obtain ⟨c', rfl⟩ : ∃ c' : Nat, c = c' := ⟨c.toNat, by omega⟩
            by_cases hq : (c' : Int) = cls
            · have HE := Lib.hid hq
              have hqb : ((c' : Int) == cls) = true := by simpa using hq
              clear hq
              go_wp2_with fail
              refine (come_yes g b (cl + 1) l _ c' _ HI.out (by omega) (by omega) (by have := HV.out.small (9 * c'); omega)).mono ?_
              rintro e w3 ⟨rfl, hI3, hF3⟩
              have q := (HQ.out.keep hF3 (by simpa using HN.out))
              have q0 := (q.cell 0).trans rfl
              have q1 := (q.cell 1).trans rfl
              have q2 := (q.cell 2).trans rfl
              have HI3 := Lib.hid hI3
              have HF3 := Lib.hid (HF.out.step hF3 (by simp; exact HG.out.2))
              clear q hI3 hF3 HQ HI HF
              go_wp2_with fail
              go_roundw
              case rel => exact ⟨k + 1, _, _, _, _, by omega, by go_num, rfl, rfl, rfl, ⟨HI3.out, HF3.out, HG.out.1, HG.out.2, HV.out.come_eq c' (by omega) HE.out⟩⟩
              case measure => simp [intOf]; omega
            · have HE := Lib.hid hq
              have hqb : ((c' : Int) == cls) = false := by simpa using hq
              clear hq
              go_wp2_with fail
              refine (come_yes g b (cl + 1) l _ c' _ HI.out (by omega) (by omega) (by have := HV.out.small (9 * c'); omega)).mono ?_
              rintro e w3 ⟨rfl, hI3, hF3⟩
              have q := (HQ.out.keep hF3 (by simpa using HN.out))
              have q0 := (q.cell 0).trans rfl
              have q1 := (q.cell 1).trans rfl
              have q2 := (q.cell 2).trans rfl
              have HI3 := Lib.hid hI3
              have HF3 := Lib.hid (HF.out.step hF3 (by simp; exact HG.out.2))
              clear q hI3 hF3 HQ HI HF
              go_wp2_with fail
              go_roundw
              case rel => exact ⟨k + 1, _, _, _, _, by omega, by go_num, rfl, rfl, rfl, ⟨HI3.out, HF3.out, HG.out.1, HG.out.2, HV.out.come_ne c' (by omega) HE.out⟩⟩
              case measure => simp [intOf]; omega
      · by_cases hc0 : c < 0
        · go_wp2_with fail
          refine (end_no g b (cl + 1) l _ c r _ HI.out (by omega) (by omega)).mono ?_
          rintro e w3 ⟨rfl, hd⟩
          have q := (HQ.out.keep (Fr.of_drawn hd) (by simp))
          have q0 := (q.cell 0).trans rfl
          have q1 := (q.cell 1).trans rfl
          have q2 := (q.cell 2).trans rfl
          have HI3 := Lib.hid (HI.out.drawn hd)
          have HF3 := Lib.hid (HF.out.trans (Fr.of_drawn hd))
          clear q hd HQ HI HF
          go_wp2_with fail
          go_roundw
          case rel => exact ⟨k + 1, _, _, _, _, by omega, by go_num, rfl, rfl, rfl, ⟨HI3.out, HF3.out, HG.out.1, HG.out.2, HV.out.same⟩⟩
          case measure => simp [intOf]; omega
        · by_cases hc1 : (cl : Int) < c
          · go_wp2_with fail
            refine (end_no g b (cl + 1) l _ c r _ HI.out (by omega) (by omega)).mono ?_
            rintro e w3 ⟨rfl, hd⟩
            have q := (HQ.out.keep (Fr.of_drawn hd) (by simp))
            have q0 := (q.cell 0).trans rfl
            have q1 := (q.cell 1).trans rfl
            have q2 := (q.cell 2).trans rfl
            have HI3 := Lib.hid (HI.out.drawn hd)
            have HF3 := Lib.hid (HF.out.trans (Fr.of_drawn hd))
            clear q hd HQ HI HF
            go_wp2_with fail
            go_roundw
            case rel => exact ⟨k + 1, _, _, _, _, by omega, by go_num, rfl, rfl, rfl, ⟨HI3.out, HF3.out, HG.out.1, HG.out.2, HV.out.same⟩⟩
            case measure => simp [intOf]; omega
          · by_cases hr0 : r < 1
            · go_wp2_with fail
              refine (end_no g b (cl + 1) l _ c r _ HI.out (by omega) (by omega)).mono ?_
              rintro e w3 ⟨rfl, hd⟩
              have q := (HQ.out.keep (Fr.of_drawn hd) (by simp))
              have q0 := (q.cell 0).trans rfl
              have q1 := (q.cell 1).trans rfl
              have q2 := (q.cell 2).trans rfl
              have HI3 := Lib.hid (HI.out.drawn hd)
              have HF3 := Lib.hid (HF.out.trans (Fr.of_drawn hd))
              clear q hd HQ HI HF
              go_wp2_with fail
              go_roundw
              case rel => exact ⟨k + 1, _, _, _, _, by omega, by go_num, rfl, rfl, rfl, ⟨HI3.out, HF3.out, HG.out.1, HG.out.2, HV.out.same⟩⟩
              case measure => simp [intOf]; omega
            · by_cases hr1 : 7 < r
              · go_wp2_with fail
                refine (end_no g b (cl + 1) l _ c r _ HI.out (by omega) (by omega)).mono ?_
                rintro e w3 ⟨rfl, hd⟩
                have q := (HQ.out.keep (Fr.of_drawn hd) (by simp))
                have q0 := (q.cell 0).trans rfl
                have q1 := (q.cell 1).trans rfl
                have q2 := (q.cell 2).trans rfl
                have HI3 := Lib.hid (HI.out.drawn hd)
                have HF3 := Lib.hid (HF.out.trans (Fr.of_drawn hd))
                clear q hd HQ HI HF
                go_wp2_with fail
                go_roundw
                case rel => exact ⟨k + 1, _, _, _, _, by omega, by go_num, rfl, rfl, rfl, ⟨HI3.out, HF3.out, HG.out.1, HG.out.2, HV.out.same⟩⟩
                case measure => simp [intOf]; omega
              · obtain ⟨c', rfl⟩ : ∃ c' : Nat, c = c' := ⟨c.toNat, by omega⟩
                obtain ⟨r', rfl⟩ : ∃ r' : Nat, r = r' := ⟨r.toNat, by omega⟩
                by_cases hq : (c' : Int) = cls
                · by_cases hs : (r' : Int) = rsn
                  · have HE := Lib.hid hq
                    have HE2 := Lib.hid hs
                    have hqb : ((c' : Int) == cls) = true := by simpa using hq
                    have hsb : ((r' : Int) == rsn) = true := by simpa using hs
                    clear hq hs
                    go_wp2_with fail
                    refine (end_yes g b (cl + 1) l _ c' r' _ HI.out (by omega) (by omega) (by omega) (by have := HV.out.small (9 * c' + 1 + r'); omega)).mono ?_
                    rintro e w3 ⟨rfl, hI3, hF3⟩
                    have q := (HQ.out.keep hF3 (by simpa using HN.out))
                    have q0 := (q.cell 0).trans rfl
                    have q1 := (q.cell 1).trans rfl
                    have q2 := (q.cell 2).trans rfl
                    have HI3 := Lib.hid hI3
                    have HF3 := Lib.hid (HF.out.step hF3 (by simp; exact HG.out.2))
                    clear q hI3 hF3 HQ HI HF
                    go_wp2_with fail
                    go_roundw
                    case rel => exact ⟨k + 1, _, _, _, _, by omega, by go_num, rfl, rfl, rfl, ⟨HI3.out, HF3.out, HG.out.1, HG.out.2, HV.out.end_eq c' r' (by omega) (by omega) HE.out HE2.out⟩⟩
                    case measure => simp [intOf]; omega
                  · have HE := Lib.hid hq
                    have HE2 := Lib.hid hs
                    have hqb : ((c' : Int) == cls) = true := by simpa using hq
                    have hsb : ((r' : Int) == rsn) = false := by simpa using hs
                    clear hq hs
                    go_wp2_with fail
                    refine (end_yes g b (cl + 1) l _ c' r' _ HI.out (by omega) (by omega) (by omega) (by have := HV.out.small (9 * c' + 1 + r'); omega)).mono ?_
                    rintro e w3 ⟨rfl, hI3, hF3⟩
                    have q := (HQ.out.keep hF3 (by simpa using HN.out))
                    have q0 := (q.cell 0).trans rfl
                    have q1 := (q.cell 1).trans rfl
                    have q2 := (q.cell 2).trans rfl
                    have HI3 := Lib.hid hI3
                    have HF3 := Lib.hid (HF.out.step hF3 (by simp; exact HG.out.2))
                    clear q hI3 hF3 HQ HI HF
                    go_wp2_with fail
                    go_roundw
                    case rel => exact ⟨k + 1, _, _, _, _, by omega, by go_num, rfl, rfl, rfl, ⟨HI3.out, HF3.out, HG.out.1, HG.out.2, HV.out.end_ner c' r' (by omega) (by omega) HE.out HE2.out⟩⟩
                    case measure => simp [intOf]; omega
                · have HE := Lib.hid hq
                  have hqb : ((c' : Int) == cls) = false := by simpa using hq
                  clear hq
                  go_wp2_with fail
                  refine (end_yes g b (cl + 1) l _ c' r' _ HI.out (by omega) (by omega) (by omega) (by have := HV.out.small (9 * c' + 1 + r'); omega)).mono ?_
                  rintro e w3 ⟨rfl, hI3, hF3⟩
                  have q := (HQ.out.keep hF3 (by simpa using HN.out))
                  have q0 := (q.cell 0).trans rfl
                  have q1 := (q.cell 1).trans rfl
                  have q2 := (q.cell 2).trans rfl
                  have HI3 := Lib.hid hI3
                  have HF3 := Lib.hid (HF.out.step hF3 (by simp; exact HG.out.2))
                  clear q hI3 hF3 HQ HI HF
                  go_wp2_with fail
                  go_roundw
                  case rel => exact ⟨k + 1, _, _, _, _, by omega, by go_num, rfl, rfl, rfl, ⟨HI3.out, HF3.out, HG.out.1, HG.out.2, HV.out.end_ne c' r' (by omega) (by omega) HE.out⟩⟩
                  case measure => simp [intOf]; omega
    · have HS := Lib.hid (show ∀ i, 0 ≤ l.getD i 0 ∧ l.getD i 0 ≤ 1000000 from fun i => by have := HX.out.2.2.2.2.small i; omega)
      have HE := Lib.hid (plays_ends HX.out)
      have HI := Lib.hid HX.out.1
      have HF := Lib.hid HX.out.2.1
      rcases plays_end HX.out with ⟨h1, h2, h3, h4⟩ | ⟨h1, h2, h3, h4⟩ | h1
      · have HO := Lib.hid h4
        have HC := Lib.hid (HX.out.2.2.2.2.came cls.toNat (by omega) (by omega)).symm
        clear h4 HX
        go_wp2_with fail
        refine (open_in g b (cl + 1) l _ cls _ HI.out (by omega) (by omega) HS.out _ HO.out).mono ?_
        rintro e w3 ⟨rfl, hd⟩
        have HI3 := Lib.hid (HI.out.drawn hd)
        have HF3 := Lib.hid (HF.out.trans (Fr.of_drawn hd))
        clear hd HI HF HO
        go_wp2_with fail
        refine (received_in g b (cl + 1) l _ cls _ HI3.out (by omega) (by omega) _ HC.out).mono ?_
        rintro e w4 ⟨rfl, hd⟩
        have HI4 := Lib.hid (HI3.out.drawn hd)
        have HF4 := Lib.hid (HF3.out.trans (Fr.of_drawn hd))
        clear hd HI3 HF3 HC
        go_wp2_with fail
        refine (ended_in g b (cl + 1) l _ cls rsn _ HI4.out (by omega) en HE.out).mono ?_
        rintro e w5 ⟨rfl, hd⟩
        have HF5 := Lib.hid (HF4.out.trans (Fr.of_drawn hd)).below0
        clear hd HI4 HF4
        go_wp2_with fail
        go_ret
        exact ⟨rfl, HF5.out⟩
      · have HO := Lib.hid h4
        have HC := Lib.hid (HX.out.2.2.2.2.came cls.toNat (by omega) (by omega)).symm
        clear h4 HX
        go_wp2_with fail
        refine (open_in g b (cl + 1) l _ cls _ HI.out (by omega) (by omega) HS.out _ HO.out).mono ?_
        rintro e w3 ⟨rfl, hd⟩
        have HI3 := Lib.hid (HI.out.drawn hd)
        have HF3 := Lib.hid (HF.out.trans (Fr.of_drawn hd))
        clear hd HI HF HO
        go_wp2_with fail
        refine (received_in g b (cl + 1) l _ cls _ HI3.out (by omega) (by omega) _ HC.out).mono ?_
        rintro e w4 ⟨rfl, hd⟩
        have HI4 := Lib.hid (HI3.out.drawn hd)
        have HF4 := Lib.hid (HF3.out.trans (Fr.of_drawn hd))
        clear hd HI3 HF3 HC
        go_wp2_with fail
        refine (ended_in g b (cl + 1) l _ cls rsn _ HI4.out (by omega) en HE.out).mono ?_
        rintro e w5 ⟨rfl, hd⟩
        have HF5 := Lib.hid (HF4.out.trans (Fr.of_drawn hd)).below0
        clear hd HI4 HF4
        go_wp2_with fail
        go_ret
        exact ⟨rfl, HF5.out⟩
      · have HN := Lib.hid (show ¬ (0 ≤ cls ∧ cls < ((cl + 1 : Nat) : Int)) by omega)
        obtain ⟨rfl, rfl, rfl⟩ := HX.out.2.2.2.2.none HN.out
        clear HX h1
        by_cases h0 : cls < 0
        all_goals
          try (have h1 : (cl : Int) < cls := by have := HN.out; omega)
          go_wp2_with fail
          refine (open_no g b (cl + 1) l _ cls _ HI.out (by omega) HN.out).mono ?_
          rintro e w3 ⟨rfl, hd⟩
          have HI3 := Lib.hid (HI.out.drawn hd)
          have HF3 := Lib.hid (HF.out.trans (Fr.of_drawn hd))
          clear hd HI HF
          go_wp2_with fail
          refine (received_no g b (cl + 1) l _ cls _ HI3.out (by omega) HN.out).mono ?_
          rintro e w4 ⟨rfl, hd⟩
          have HI4 := Lib.hid (HI3.out.drawn hd)
          have HF4 := Lib.hid (HF3.out.trans (Fr.of_drawn hd))
          clear hd HI3 HF3
          go_wp2_with fail
          refine (ended_in g b (cl + 1) l _ cls rsn _ HI4.out (by omega) 0 (.inr ⟨fun h3 => HN.out ⟨h3.1, h3.2.1⟩, rfl⟩)).mono ?_
          rintro e w5 ⟨rfl, hd⟩
          have HF5 := Lib.hid (HF4.out.trans (Fr.of_drawn hd)).below0
          clear hd HI4 HF4
          go_wp2_with fail
          go_ret
          exact ⟨rfl, HF5.out⟩

theorem plays_any (A1 : Option Addr) (c1 : Nat) (cl cls rsn : Int) (d : List (Bool × Int × Int)) (w : World) (hr : Kd.C Deeds.BII w A1 d.length d) :
    Calls Try.prog 12 #[.int .i64 cl, .slice A1 d.length c1, .int .i64 cls, .int .i64 rsn] w fun e w' => e = .returned (.bool true) ∧ Below w.heap.size w w' := by
  by_cases h : 1 ≤ cl ∧ cl ≤ 4
  · obtain ⟨k, rfl⟩ : ∃ k : Nat, cl = k := ⟨cl.toNat, by omega⟩
    by_cases hl : d.length ≤ 500
    · exact plays_some A1 c1 d k cls rsn w (by omega) hl (Deeds.C_bii hr)
    · exact plays_long A1 c1 d.length k cls rsn w (by omega) (by omega) hr.2.1
  · exact plays_bad A1 c1 d.length cl cls rsn w h
end Go.Proofs.Ytjkaldnhfenbhaa.Ledger
