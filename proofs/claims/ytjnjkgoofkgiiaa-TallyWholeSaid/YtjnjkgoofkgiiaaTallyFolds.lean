/- Layer 18's law TallyFolds: its walk. -/
import Derived.Test.YtjnjkgoofkgiiaaTallyW8
set_option linter.unusedVariables false
set_option linter.unusedSimpArgs false
namespace Go.Proofs.Ytjnjkgoofkgiiaa.Tally
open Go.RowKit Go.Proofs.YtjnjkgoofkgiiaaW.PrintWords Go.Proofs.YtjnjkgoofkgiiaaW.PrintLast

theorem C_of_own {w : World} {b : Nat} {A : Option Addr} {n c : Nat} {bs : List Int} (hl : bs.length ≤ 1000) (h : Ow w b (.slice A n c) bs) : n = bs.length ∧ n ≤ c ∧ Kd.C (Kd.int .u64) w A n bs := by
  rcases h.form with ⟨h1, rfl⟩ | ⟨g, cap, h1, _, _, h2, h3⟩
  · simp only [Value.slice.injEq] at h1
    obtain ⟨rfl, rfl, rfl⟩ := h1
    exact ⟨rfl, Nat.le_refl _, ⟨rfl, by omega, fun h => by omega⟩⟩
  · simp only [Value.slice.injEq] at h1
    obtain ⟨rfl, rfl, rfl⟩ := h1
    refine ⟨rfl, h2, rfl, by omega, fun _ => ⟨_, rfl, fun j p hp => ⟨[.int .u64 p], rfl, rfl, fun i u hu => ?_⟩⟩⟩
    have hj : j < bs.length := (List.getElem?_eq_some_iff.1 hp).1
    obtain ⟨hi, rfl⟩ := List.getElem?_eq_some_iff.1 hu
    obtain rfl : i = 0 := by simpa using hi
    have h4 := (h3 j hj).1
    have h5 : bs.getD j 0 = p := by rw [List.getD_eq_getElem?_getD, hp]; rfl
    rw [h5] at h4
    show w.cell? (Addr.add ⟨g, 0, none⟩ (j * 1 + 0)) = some (.int .u64 p)
    rw [show j * 1 + 0 = j by omega]
    unfold Addr.add
    by_cases hj0 : j = 0
    · rw [if_pos hj0, ← h4, hj0]
    · rw [if_neg hj0, ← h4]
      simp

set_option maxRecDepth 100000 in
set_option maxHeartbeats 4000000 in
theorem up_any (w : World) : Calls Try.prog 19 #[] w fun e w' => e = .returned (.bool true) ∧ Fr [] w w' := by
  have HR := Lib.hid (show foldR 3 [0, 1, 3] = ⟨3, 3, 4, 0, 3, false, [1, 1, 1]⟩ by kernel_rfl)
  have hFA := Lib.hid ((Fr.refl [] w).alloc (.cells #[.int .i64 0, .int .i64 1, .int .i64 3] 2))
  have HB := Lib.hid (bucket_num (-5) (by unfold I64; omega))
  have hb0 : bl (-5) = 0 := by decide
  rw [hb0] at HB
  have HFO := Lib.hid (fold_some ⟨w.heap.size, 0, none⟩ 3 ⟨#[97]⟩ 3 [0, 1, 3] (w.alloc (.cells #[.int .i64 0, .int .i64 1, .int .i64 3] 2)) (by decide) (by decide) (by intro x hx; unfold I64; simp at hx; omega) (fun j hj => by
    have hB : Blk (w.alloc (.cells #[.int .i64 0, .int .i64 1, .int .i64 3] 2)) w.heap.size #[.int .i64 0, .int .i64 1, .int .i64 3] 2 := Blk.new w _ _
    have hj' : j = 0 ∨ j = 1 ∨ j = 2 := by simp at hj; omega
    rcases hj' with rfl | rfl | rfl
    · exact hB.cell 0
    · exact hB.cell 1
    · exact hB.cell 2) (by decide) (by decide))
  clear hb0
  go_enter Try.func19, Try.ntmps19
  go_wp2_with fail
  refine HFO.out.mono ?_
  rw [HR.out]
  rintro e w3 ⟨bv, rfl, hO, hF⟩
  have HO := Lib.hid hO
  have HF3 := Lib.hid (hFA.out.trans hF)
  clear hO hF HFO hFA
  simp only [RowV]
  rcases HO.out.form with ⟨_, h⟩ | ⟨g, cap, rfl, _, hg, _, hc⟩
  · simp at h
  · have c0 := (hc 0 (by decide)).1
    have c2 := (hc 2 (by decide)).1
    clear HO hc
    go_wp2_with fail
    refine (HB.out _).mono ?_
    rintro e w4 ⟨rfl, rfl⟩
    go_wp2_with fail
    go_ret
    exact ⟨rfl, HF3.out.alloc _⟩

set_option maxRecDepth 100000 in
set_option maxHeartbeats 4000000 in
theorem folds_long (A : Option Addr) (n c0 : Nat) (key : ByteArray) (kind : Int) (w : World) (hl : 200 < n) (hm : n ≤ 9223372036854775807) :
    Calls Try.prog 5 #[.string key, .int .i64 kind, .slice A n c0] w fun e w' => e = .returned (.bool true) ∧ Fr [] w w' := by
  have hd : decide ((200 : Int) < (n : Int)) = true := by simp; omega
  go_enter Try.func5, Try.ntmps5
  go_wp2_with fail
  refine (up_any w).mono ?_
  rintro e w3 ⟨rfl, hF⟩
  have HF := Lib.hid hF
  clear hF
  go_wp2_with fail
  go_ret
  exact ⟨rfl, HF.out⟩

set_option maxRecDepth 100000 in
set_option maxHeartbeats 4000000 in
theorem folds_some (A : Option Addr) (c0 : Nat) (key : ByteArray) (kind : Int) (l : List Int) (w : World) (hl : l.length ≤ 200) (hI : ∀ x ∈ l, I64 x) (hr : Kd.C (Kd.int .i64) w A l.length l) (hcap : l.length ≤ c0) :
    Calls Try.prog 5 #[.string key, .int .i64 kind, .slice A l.length c0] w fun e w' => e = .returned (.bool true) ∧ Fr [] w w' := by
  have HL := Lib.hid (show (foldR kind l).b.length ≤ 64 by
    cases l with
    | nil => exact Nat.zero_le _
    | cons v l =>
      have := (fold_ok kind (v :: l) hI (v :: l).length (by simp) (Nat.le_refl _)).len
      rwa [List.take_length] at this)
  have HF1 := Lib.hid (fun W h => fold_any A c0 key kind l W hl hI h hcap)
  have HF2 := Lib.hid (fun W h => ref_any A c0 key kind l W hl hI h)
  have HR := Lib.hid hr
  obtain ⟨n, hn⟩ : ∃ n, n = l.length := ⟨_, rfl⟩
  rw [← hn] at HF1 HF2 HR hl ⊢
  clear hn hr hI hcap
  obtain ⟨k2, hk2⟩ : ∃ k2, k2 = (if l = [] then ⟨#[]⟩ else key : ByteArray) := ⟨_, rfl⟩
  rw [← hk2] at HF1 HF2
  obtain ⟨r, hr⟩ : ∃ r, r = foldR kind l := ⟨_, rfl⟩
  rw [← hr] at HF1 HF2 HL
  clear hk2 hr
  have hd : decide ((200 : Int) < (n : Int)) = false := by simp; omega
  go_enter Try.func5, Try.ntmps5
  go_wp2_with fail
  refine (up_any w).mono ?_
  rintro e w3 ⟨rfl, hF⟩
  have HF3 := Lib.hid hF
  clear hF
  go_wp2_with fail
  refine (HF1.out w3 (Kd.C_below HR.out HF3.out.below0)).mono ?_
  rintro e w4 ⟨bv, rfl, hO, hF⟩
  have HO4 := Lib.hid hO
  have HF4 := Lib.hid (HF3.out.trans hF)
  clear hO hF
  obtain ⟨A4, n4, c4, rfl⟩ := HO4.out.slice
  simp only [RowV]
  go_wp2_with fail
  refine (HF2.out w4 (Kd.C_below HR.out HF4.out.below0)).mono ?_
  rintro e w5 ⟨bv, rfl, hO, hF⟩
  have HO5 := Lib.hid hO
  have HO45 := Lib.hid (HO4.out.keep0 hF)
  have HF5 := Lib.hid (HF4.out.trans hF)
  clear hO hF
  obtain ⟨A5, n5, c5, rfl⟩ := HO5.out.slice
  simp only [RowV]
  obtain ⟨e4, l4, C4⟩ := C_of_own (by have := HL.out; omega) HO45.out
  obtain ⟨e5, l5, C5⟩ := C_of_own (by have := HL.out; omega) HO5.out
  subst e4 e5
  have HC4 := Lib.hid C4
  have HC5 := Lib.hid C5
  clear C4 C5
  go_wp2_with fail
  refine (PTallyFolds.nogginref06_SameRow.calls 1003 k2 r.kind r.many r.sum r.least r.most r.over A4 c4 r.b k2 r.kind r.many r.sum r.least r.most r.over A5 c5 r.b true w5 HC4.out l4 HC5.out l5 (same_f k2 r (by have := HL.out; omega))).mono ?_
  rintro e w6 ⟨rfl, hB⟩
  have HF6 := Lib.hid (HF5.out.trans (Fr.of_below hB))
  clear hB
  go_wp2_with fail
  go_ret
  exact ⟨rfl, HF6.out⟩

theorem folds_any (A : Option Addr) (c0 : Nat) (key : ByteArray) (kind : Int) (l : List Int) (w : World) (hI : ∀ x ∈ l, I64 x) (hr : Kd.C (Kd.int .i64) w A l.length l) (hcap : l.length ≤ c0) :
    Calls Try.prog 5 #[.string key, .int .i64 kind, .slice A l.length c0] w fun e w' => e = .returned (.bool true) ∧ Below w.heap.size w w' := by
  by_cases h : l.length ≤ 200
  · exact (folds_some A c0 key kind l w h hI hr hcap).mono fun e w' ⟨h1, h2⟩ => ⟨h1, h2.below0⟩
  · exact (folds_long A l.length c0 key kind w (by omega) hr.2.1).mono fun e w' ⟨h1, h2⟩ => ⟨h1, h2.below0⟩
end Go.Proofs.Ytjnjkgoofkgiiaa.Tally
