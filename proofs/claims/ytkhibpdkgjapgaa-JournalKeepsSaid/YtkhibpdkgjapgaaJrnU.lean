/- Layer 9's law JournalKeeps, from the statement's arguments. -/
import Derived.Test.YtkhibpdkgjapgaaJrnT
import Derived.Test.YtkhibpdkgjapgaaViews
set_option linter.unusedVariables false
set_option linter.unusedSimpArgs false
namespace Go.Proofs.Ytkhibpdkgjapgaa.Jrn
open Go Go.RowKit Go.Proofs.Ytkhibpdkgjapgaa Go.Proofs.Ytkhibpdkgjapgaa.Eng Go.Proofs.Ytkhibpdkgjapgaa.Disk Go.Proofs.YtkhibpdkgjapgaaW.PrintWords Go.Proofs.YtkhibpdkgjapgaaW.PrintLast
abbrev BytesK : Kd (List UInt8) := Kd.slice 5 Views.byteK
theorem pick_list {α : Type} {P : Nat → α → Prop} : ∀ n, (∀ j, j < n → ∃ x, P j x) → ∃ q : List α, q.length = n ∧ ∀ j x, q[j]? = some x → P j x
  | 0, _ => ⟨[], rfl, by simp⟩
  | n + 1, h => by
    obtain ⟨q, hq, hp⟩ := pick_list n fun j hj => h j (by omega)
    obtain ⟨x, hx⟩ := h n (by omega)
    refine ⟨q ++ [x], by simp [hq], fun j y hy => ?_⟩
    rcases Nat.lt_or_ge j n with h1 | h1
    · rw [List.getElem?_append_left (by omega)] at hy
      exact hp j y hy
    · have hj : j = n := by
        have := (List.getElem?_eq_some_iff.1 hy).1
        simp at this
        omega
      subst hj
      rw [List.getElem?_append_right (by omega), hq] at hy
      simp at hy
      subst hy
      exact hx
theorem F2_of {α β : Type} {P : α → β → Prop} : ∀ {xs : List α} {ys : List β}, xs.length = ys.length → (∀ (i : Nat) (a : α) (b : β), xs[i]? = some a → ys[i]? = some b → P a b) → F2 P xs ys
  | [], [], _, _ => .nil
  | [], _ :: _, h, _ => by simp at h
  | _ :: _, [], h, _ => by simp at h
  | x :: xs, y :: ys, h, hp => .cons (hp 0 x y rfl rfl) (F2_of (by simpa using h) fun i a b h1 h2 => hp (i + 1) a b (by simpa using h1) (by simpa using h2))
theorem slices {w : World} {A : Option Addr} {l : List (List UInt8)} (R : Kd.C BytesK w A l.length l) : ∃ (xs : List RX) (FX FE : List Nat), xs.length = l.length ∧ VX cR 1 w FX A xs ∧ EV w FE xs l := by
  obtain ⟨_, _, h3⟩ := R
  by_cases hp : 0 < l.length
  · obtain ⟨ad, rfl, hc⟩ := h3 hp
    obtain ⟨q, hq, hP⟩ := pick_list (P := fun j (x : RX × List Nat) => ∃ r, l[j]? = some r ∧ x.1.2.1 = r.length ∧ r.length ≤ x.1.2.2 ∧ VX cB 1 w x.2 x.1.1 r ∧ ∀ i u, (cR x.1)[i]? = some u → w.cell? (ad.add (j * 1 + i)) = some u) l.length fun j hj => by
      obtain ⟨cs, _, hk, hcell⟩ := hc j l[j] (List.getElem?_eq_getElem hj)
      obtain ⟨Ai, ci, rfl, hci, hCi⟩ := hk
      obtain ⟨Fi, hVi⟩ := Views.bytes hCi
      exact ⟨((Ai, l[j].length, ci), Fi), l[j], List.getElem?_eq_getElem hj, rfl, hci, hVi, hcell⟩
    have hlt : ∀ y ∈ q.flatMap Prod.snd, y < w.heap.size := fun y hy => by
      obtain ⟨x, hx, hy2⟩ := List.mem_flatMap.1 hy
      obtain ⟨j, hj⟩ := List.getElem?_of_mem hx
      obtain ⟨r, _, _, _, h5, _⟩ := hP j x hj
      exact h5.lt y hy2
    refine ⟨q.map Prod.fst, [ad.block], q.flatMap Prod.snd, by simp [hq], ⟨fun y hy => ?_, fun _ => ⟨ad, rfl, by simp, fun i x hx j u hu => ?_⟩⟩, hlt, F2_of (by simp [hq]) fun i a b ha hb => ?_⟩
    · obtain rfl : y = ad.block := by simpa using hy
      obtain ⟨cs, hl, hk, hcell2⟩ := hc 0 l[0] (List.getElem?_eq_getElem hp)
      have := World.block_lt_of_cell? w _ (hcell2 0 _ (List.getElem?_eq_getElem (by rw [hl]; decide)))
      have hb : (ad.add (0 * BytesK.sz + 0)).block = ad.block := by unfold Addr.add; split <;> rfl
      rwa [hb] at this
    · rw [List.getElem?_map] at hx
      obtain ⟨z, hz, rfl⟩ := Option.map_eq_some_iff.1 hx
      obtain ⟨r, _, _, _, _, h6⟩ := hP i z hz
      exact h6 j u hu
    · rw [List.getElem?_map] at ha
      obtain ⟨z, hz, rfl⟩ := Option.map_eq_some_iff.1 ha
      obtain ⟨r, h2, h3, h4, h5, _⟩ := hP i z hz
      rw [hb] at h2
      simp only [Option.some.injEq] at h2
      subst h2
      exact ⟨h3, h4, z.2, fun y hy => List.mem_flatMap.2 ⟨z, List.mem_of_getElem? hz, hy⟩, h5⟩
  · obtain rfl : l = [] := List.length_eq_zero_iff.1 (by omega)
    exact ⟨[], [], [], rfl, VX.nil w A, EV.nil w⟩
theorem keeps_row (many : Int) (A : Option Addr) (cL : Nat) (l : List (List UInt8)) (sy keep : Int) (w : World) (R : Kd.C BytesK w A l.length l) (hl : l.length ≤ 9223372036854775807) (hs : -9223372036854775808 ≤ sy ∧ sy ≤ 9223372036854775807) (hk : -9223372036854775808 ≤ keep ∧ keep ≤ 9223372036854775807) :
    Calls Try.prog 5 #[.int .i64 many, .slice A l.length cL, .int .i64 sy, .int .i64 keep] w fun e w' => e = .returned (.bool true) ∧ Below w.heap.size w w' := by
  obtain ⟨xs, FX, FE, hx, HX, HE⟩ := slices R
  rw [← hx] at hl ⊢
  by_cases hsy : sy < 0
  · exact (keeps_neg many A xs.length cL xs l FX FE keep w hk HX rfl HE hl sy hsy).mono fun e w' ⟨h1, h2⟩ => ⟨h1, h2.below0⟩
  · obtain ⟨s, rfl⟩ := Int.eq_ofNat_of_zero_le (show 0 ≤ sy by omega)
    by_cases hm : many < 1 ∨ 100 < many
    · exact (keeps_badm many A xs.length cL xs l FX FE keep w hk HX rfl HE hl s hm).mono fun e w' ⟨h1, h2⟩ => ⟨h1, h2.below0⟩
    · exact (keeps_ok many A xs.length cL xs l FX FE keep w hk HX rfl HE hl s hm).mono fun e w' ⟨h1, h2⟩ => ⟨h1, h2.below0⟩
end Go.Proofs.Ytkhibpdkgjapgaa.Jrn
