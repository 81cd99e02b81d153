/- Slices of small structs that are read: their cells, place by place. Words for the walks. -/
import Derived.Test.YtjnjkgoofkgiiaaDoorFr
set_option linter.unusedVariables false
namespace Go.Proofs.YtjnjkgoofkgiiaaDoor.Deeds
open Go.RowKit Go.Proofs.YtjnjkgoofkgiiaaDoorW.PrintWords Go.Proofs.YtjnjkgoofkgiiaaDoorW.PrintLast

/-- (bool, int, int) -/
abbrev BII : Kd (Bool × Int × Int) := Kd.pair Kd.bool (Kd.pair (Kd.int .i64) (Kd.int .i64))
theorem C_bii {w : World} {A : Option Addr} {l : List (Bool × Int × Int)} (h : Kd.C BII w A l.length l) : l = [] ∨ ∃ ad, A = some ad ∧ ∀ j, j < l.length → ∃ b n t, l[j]? = some (b, n, t) ∧ w.cell? (ad.add (j * 3)) = some (.bool b) ∧ w.cell? (ad.add (j * 3 + 1)) = some (.int .i64 n) ∧ w.cell? (ad.add (j * 3 + 2)) = some (.int .i64 t) := by
  by_cases hn : 0 < l.length
  · right
    obtain ⟨_, _, h3⟩ := h
    obtain ⟨ad, e, hc⟩ := h3 hn
    refine ⟨ad, e, fun j hj => ?_⟩
    obtain ⟨cs, _, hk, hcell⟩ := hc j l[j] (by simp [hj])
    obtain ⟨c1, c2, rfl, hk1, c3, c4, rfl, hk3, hk4⟩ := hk
    obtain rfl : c1 = [.bool l[j].1] := hk1
    obtain rfl : c3 = [.int .i64 l[j].2.1] := hk3
    obtain rfl : c4 = [.int .i64 l[j].2.2] := hk4
    exact ⟨l[j].1, l[j].2.1, l[j].2.2, by simp [hj], hcell 0 _ rfl, hcell 1 _ rfl, hcell 2 _ rfl⟩
  · left
    exact List.length_eq_zero_iff.1 (by omega)
/-- (int, int) -/
abbrev II : Kd (Int × Int) := Kd.pair (Kd.int .i64) (Kd.int .i64)
theorem C_ii {w : World} {A : Option Addr} {l : List (Int × Int)} (h : Kd.C II w A l.length l) : l = [] ∨ ∃ ad, A = some ad ∧ ∀ j, j < l.length → ∃ a b, l[j]? = some (a, b) ∧ w.cell? (ad.add (j * 2)) = some (.int .i64 a) ∧ w.cell? (ad.add (j * 2 + 1)) = some (.int .i64 b) := by
  by_cases hn : 0 < l.length
  · right
    obtain ⟨_, _, h3⟩ := h
    obtain ⟨ad, e, hc⟩ := h3 hn
    refine ⟨ad, e, fun j hj => ?_⟩
    obtain ⟨cs, _, hk, hcell⟩ := hc j l[j] (by simp [hj])
    obtain ⟨c1, c2, rfl, hk1, hk2⟩ := hk
    obtain rfl : c1 = [.int .i64 l[j].1] := hk1
    obtain rfl : c2 = [.int .i64 l[j].2] := hk2
    exact ⟨l[j].1, l[j].2, by simp [hj], hcell 0 _ rfl, hcell 1 _ rfl⟩
  · left
    exact List.length_eq_zero_iff.1 (by omega)
/-- (int, int, int) -/
abbrev III : Kd (Int × Int × Int) := Kd.pair (Kd.int .i64) (Kd.pair (Kd.int .i64) (Kd.int .i64))
theorem C_iii {w : World} {A : Option Addr} {l : List (Int × Int × Int)} (h : Kd.C III w A l.length l) : l = [] ∨ ∃ ad, A = some ad ∧ ∀ j, j < l.length → ∃ b n t, l[j]? = some (b, n, t) ∧ w.cell? (ad.add (j * 3)) = some (.int .i64 b) ∧ w.cell? (ad.add (j * 3 + 1)) = some (.int .i64 n) ∧ w.cell? (ad.add (j * 3 + 2)) = some (.int .i64 t) := by
  by_cases hn : 0 < l.length
  · right
    obtain ⟨_, _, h3⟩ := h
    obtain ⟨ad, e, hc⟩ := h3 hn
    refine ⟨ad, e, fun j hj => ?_⟩
    obtain ⟨cs, _, hk, hcell⟩ := hc j l[j] (by simp [hj])
    obtain ⟨c1, c2, rfl, hk1, c3, c4, rfl, hk3, hk4⟩ := hk
    obtain rfl : c1 = [.int .i64 l[j].1] := hk1
    obtain rfl : c3 = [.int .i64 l[j].2.1] := hk3
    obtain rfl : c4 = [.int .i64 l[j].2.2] := hk4
    exact ⟨l[j].1, l[j].2.1, l[j].2.2, by simp [hj], hcell 0 _ rfl, hcell 1 _ rfl, hcell 2 _ rfl⟩
  · left
    exact List.length_eq_zero_iff.1 (by omega)
end Go.Proofs.YtjnjkgoofkgiiaaDoor.Deeds
