/- Layer 8's law DiskPlays, from the statement's arguments. -/
import Derived.Test.YtkhibpdkgjapgaaDiskT
import Derived.Test.YtkhibpdkgjapgaaViews
set_option linter.unusedVariables false
set_option linter.unusedSimpArgs false
namespace Go.Proofs.Ytkhibpdkgjapgaa.Disk
open Go Go.RowKit Go.Proofs.Ytkhibpdkgjapgaa Go.Proofs.Ytkhibpdkgjapgaa.Eng Go.Proofs.YtkhibpdkgjapgaaW.PrintWords Go.Proofs.YtkhibpdkgjapgaaW.PrintLast
abbrev DeedK : Kd (Int × Int × Int × List UInt8) := Kd.pair (Kd.int .i64) (Kd.pair (Kd.int .i64) (Kd.pair (Kd.int .i64) (Kd.slice 5 Views.byteK)))
theorem pick_list {α : Type} {P : Nat → α → Prop} : ∀ n, (∀ j, j < n → ∃ x, P j x) → ∃ q : List α, q.length = n ∧ ∀ j x, q[j]? = some x → P j x
  | 0, _ => ⟨[], rfl, by simp⟩
  | n + 1, h => by
    obtain ⟨q, hq, hp⟩ := pick_list n fun j hj => h j (by omega)
    obtain ⟨x, hx⟩ := h n (by omega)
    refine ⟨q ++ [x], by simp [hq], fun j y hy => ?_⟩
    rcases Nat.lt_or_ge j n with h1 | h1
    · rw [List.getElem?_append_left (by omega)] at hy
      exact hp j y hy
    · have hj : j = n := by
        have := (List.getElem?_eq_some_iff.1 hy).1
        simp at this
        omega
      subst hj
      rw [List.getElem?_append_right (by omega), hq] at hy
      simp at hy
      subst hy
      exact hx
theorem deeds {w : World} {A : Option Addr} {l : List (Int × Int × Int × List UInt8)} (R : Kd.C DeedK w A l.length l) : ∃ (q : List GD) (F : List Nat), q.length = l.length ∧ VX cD 4 w F A q ∧ ∀ x ∈ q, (x.what, x.n, x.z, x.b) ∈ l ∧ VX cB 1 w x.F x.A x.b ∧ ∀ y ∈ x.F, y < w.heap.size := by
  obtain ⟨_, _, h3⟩ := R
  by_cases hp : 0 < l.length
  · obtain ⟨ad, rfl, hc⟩ := h3 hp
    obtain ⟨q, hq, hP⟩ := pick_list (P := fun j x => (x.what, x.n, x.z, x.b) ∈ l ∧ VX cB 1 w x.F x.A x.b ∧ ∀ i u, (cD x)[i]? = some u → w.cell? (ad.add (j * 4 + i)) = some u) l.length fun j hj => by
      obtain ⟨cs, _, hk, hcell⟩ := hc j l[j] (List.getElem?_eq_getElem hj)
      obtain ⟨c1, c2, rfl, hk1, c3, c4, rfl, hk3, c5, c6, rfl, hk5, hk6⟩ := hk
      obtain rfl : c1 = [.int .i64 l[j].1] := hk1
      obtain rfl : c3 = [.int .i64 l[j].2.1] := hk3
      obtain rfl : c5 = [.int .i64 l[j].2.2.1] := hk5
      obtain ⟨Ai, ci, rfl, _, hCi⟩ := hk6
      obtain ⟨Fi, hVi⟩ := Views.bytes hCi
      exact ⟨⟨l[j].1, l[j].2.1, l[j].2.2.1, Ai, ci, l[j].2.2.2, Fi⟩, List.getElem_mem hj, hVi, hcell⟩
    refine ⟨q, [ad.block], hq, ⟨fun y hy => ?_, fun _ => ⟨ad, rfl, by simp, fun i x hx j u hu => (hP i x hx).2.2 j u hu⟩⟩, fun x hx => ?_⟩
    · obtain rfl : y = ad.block := by simpa using hy
      obtain ⟨cs, hl, hk, hcell2⟩ := hc 0 l[0] (List.getElem?_eq_getElem hp)
      have := World.block_lt_of_cell? w _ (hcell2 0 _ (List.getElem?_eq_getElem (by rw [hl]; decide)))
      have hb : (ad.add (0 * DeedK.sz + 0)).block = ad.block := by unfold Addr.add; split <;> rfl
      rwa [hb] at this
    · obtain ⟨j, hj⟩ := List.getElem?_of_mem hx
      obtain ⟨h1, h2, _⟩ := hP j x hj
      exact ⟨h1, h2, h2.lt⟩
  · obtain rfl : l = [] := List.length_eq_zero_iff.1 (by omega)
    exact ⟨[], [], rfl, VX.nil w A, by simp⟩
theorem plays_row (room : Int) (A : Option Addr) (cL : Nat) (l : List (Int × Int × Int × List UInt8)) (w : World) (hroom : -9223372036854775808 ≤ room ∧ room ≤ 9223372036854775807) (R : Kd.C DeedK w A l.length l) (hl : l.length ≤ 9223372036854775807) (hg : ∀ x ∈ l, (-9223372036854775808 ≤ x.1 ∧ x.1 ≤ 9223372036854775807) ∧ (-9223372036854775808 ≤ x.2.1 ∧ x.2.1 ≤ 9223372036854775807) ∧ (-9223372036854775808 ≤ x.2.2.1 ∧ x.2.2.1 ≤ 9223372036854775807) ∧ x.2.2.2.length ≤ 9223372036854775807) :
    Calls Try.prog 4 #[.int .i64 room, .slice A l.length cL] w fun e w' => e = .returned (.bool true) ∧ Below w.heap.size w w' := by
  obtain ⟨q, F, hq, HV, hx⟩ := deeds R
  rw [← hq] at hl ⊢
  by_cases hbad : room < 1 ∨ 65536 < room
  · exact (plays_bad room A q.length cL q F w hroom HV rfl hl hbad).mono fun e w' ⟨h1, h2⟩ => ⟨h1, h2.below0⟩
  · exact (plays_ok room A q.length cL q F w hroom HV rfl hl hbad fun x hxq => by
      obtain ⟨h1, h2, h3⟩ := hx x hxq
      obtain ⟨h4, h5, h6, h7⟩ := hg _ h1
      exact ⟨h4, h5, h6, h2, h3, h7⟩).mono fun e w' ⟨h1, h2⟩ => ⟨h1, h2.below0⟩
end Go.Proofs.Ytkhibpdkgjapgaa.Disk
