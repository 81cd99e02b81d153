/- Layer 8: Parts and Crash by contract. -/
import Derived.Test.YtkhibpdkgjapgaaDiskP
set_option linter.unusedVariables false
set_option linter.unusedSimpArgs false
namespace Go.Proofs.Ytkhibpdkgjapgaa.Disk
open Go Go.RowKit Go.Proofs.Ytkhibpdkgjapgaa Go.Proofs.Ytkhibpdkgjapgaa.Eng Go.Proofs.YtkhibpdkgjapgaaW.PrintWords
theorem sorted_perm {ss ns : List Int} (hp : ss.Perm ns) (hs : ns.Pairwise (· < ·)) : ss.mergeSort (fun x y => decide (x ≤ y)) = ns := by
  refine List.Perm.eq_of_pairwise (le := fun a b => a ≤ b) (fun a b _ _ h1 h2 => Int.le_antisymm h1 h2) ?_ (hs.imp fun h => Int.le_of_lt h) ((List.mergeSort_perm ss _).trans hp)
  have := List.pairwise_mergeSort (le := fun x y : Int => decide (x ≤ y)) (fun a b c h1 h2 => by simp only [decide_eq_true_eq] at *; omega) (fun a b => by simp only [Bool.or_eq_true, decide_eq_true_eq]; omega) ss
  exact this.imp fun h => by simpa using h
theorem keys_ents (es : List GP) : intKeys (Dm (ents es)) = es.map (fun e => e.n) := by
  unfold Dm ents
  simp only [intKeys, List.map_map]
  exact List.map_congr_left fun _ _ => rfl
theorem own_of_keys {w w0 w1 w2 : World} {g m : Nat} {room : Int} {down : Bool} {es : List GP} {v : Value} {ss : List Int} (hd : GDm w0 g m room down es) (hr : Rise (es.map GP.pt)) (hss : ss.Perm (intKeys (Dm (ents es)))) (hrow : w2.ownsRow w1.heap.size 3 1 v ss.length ((ss.mergeSort (fun x y => decide (x ≤ y))).map encZ)) (hsz : w.heap.size ≤ w1.heap.size) (HA : Fr [] w w2) :
    ∃ v' F', (Ending.returned v : Ending) = .returned v' ∧ OwnX 3 1 w2 F' v' ((es.map (fun e => e.n)).map cI) ∧ Fr [] w w2 ∧ ∀ y ∈ F', w.heap.size ≤ y := by
  rw [keys_ents] at hss
  have hl := hss.length_eq
  rw [List.length_map] at hl
  have hs : ss.mergeSort (fun x y => decide (x ≤ y)) = es.map (fun e => e.n) := sorted_perm hss (by
    have h := (rise_iff _).1 hr
    simpa [GP.pt, Function.comp_def] using h)
  rw [hs] at hrow
  have hf : ((es.map (fun e => e.n)).map cI).flatten = (es.map (fun e => e.n)).map encZ := by
    have : ∀ l : List Int, (l.map cI).flatten = l.map encZ := fun l => by
      induction l with
      | nil => rfl
      | cons a l ih => simp [cI, ih]
    exact this _
  rcases hrow.2 with ⟨h3, h4⟩ | ⟨b, cap, cur, h3, h5, h6, h7, h8, h9, h10⟩
  · have : es = [] := List.length_eq_zero_iff.1 (by omega)
    subst this
    exact ⟨v, [], rfl, .inl ⟨rfl, h3, rfl⟩, HA, by simp⟩
  · refine ⟨v, [b], rfl, .inr ⟨b, cap, rfl, by rw [h3]; simp [hl], ?_⟩, HA, fun y hy => ?_⟩
    · refine RowB.of_own (n := es.length) ?_ (by simp) (cI_len _) (cI_one _)
      rw [hf, ← hl]
      exact ⟨by simp [hl], .inr ⟨b, cap, cur, rfl, Nat.zero_le _, h6, h7, h8, h9, h10⟩⟩
    · rw [List.mem_singleton.1 hy]
      omega
set_option maxRecDepth 100000 in
set_option maxHeartbeats 400000 in
theorem parts_any (g m : Nat) (room : Int) (down : Bool) (es : List GP) (w : World) (hd : GDm w g m room down es) (hr : Rise (es.map GP.pt)) (hel : es.length ≤ 1000000) :
    Calls Try.prog 25 #[.pointer (some ⟨g, 0, none⟩)] w fun e w' => ∃ v F', e = .returned v ∧ OwnX 3 1 w' F' v ((es.map (fun e => e.n)).map cI) ∧ Fr [] w w' ∧ ∀ y ∈ F', w.heap.size ≤ y := by
  have HB := hd.blk
  have HM := hd.map
  have hgm : g ≠ m := by have h_ := hd.nodup; intro h; subst h; simp at h_
  have HA := Fr.refl [] w
  refine enter (N := 9) Try.func25 (c := _) rfl (by kernel_rfl) (by kernel_rfl) (e := [(0, .pointer (some ⟨g, 0, none⟩))]) (by kernel_rfl) ?_
  refine WE.seq ?_
  refine WE.region ?_
  refine WO.run 1 0 [(2, .slice none 0 0)] (by kernel_rfl) (by kernel_rfl) ?_
  refine WO.done (by kernel_rfl) ?_
  refine WQ.keep [0, 2] (e' := [(0, .pointer (some ⟨g, 0, none⟩)), (2, .slice none 0 0)]) (by kernel_rfl) ?_
  refine WQ.thenN ?_
  refine WE.seq ?_
  refine WE.region ?_
  refine WO.run 3 0 [(5, .pointer (some ⟨g, 1, none⟩)), (4, .pointer (some ⟨g, 0, none⟩)), (3, .pointer (some ⟨g, 0, none⟩))] (by kernel_rfl) (by kernel_rfl) ?_
  refine WO.ld (SQ.S 3 (by kernel_rfl)) 6 (.map (some m)) (by kernel_rfl) (same (HB.at 1 (by kernel_rfl))) ?_
  have HM0 := HM
  refine WO.call (SQ.E 4 (by kernel_rfl)) 7 (by kernel_rfl) (keys_f m _) ?_
  rintro _ w1 ⟨rfl, hw1⟩
  refine ⟨_, rfl, trivial, ?_⟩
  have FK : Fr [] w w1 := by rw [hw1]; exact (Fr.refl _ _).alloc _
  have hsz0 := HA.size
  have HB := Blk.keep HB FK (nin0 _)
  have HM := HM.keep FK (nin0 _)
  have HA := Fr.step0 HA FK
  refine WO.call (SQ.E 5 (by kernel_rfl)) 8 (by kernel_rfl) (sorted_f m (ents es) w w1 HM0 (by unfold ents; rw [List.length_map]; exact hel) hw1) ?_
  rintro _ w2 ⟨v, ss, rfl, hss, hrow, hnil, hb⟩
  refine ⟨_, rfl, trivial, ?_⟩
  have FS := Fr.of_below hb
  have hsz1 := HA.size
  have HB := Blk.keep HB FS (nin0 _)
  have HM := HM.keep FS (nin0 _)
  have HA := Fr.step0 HA FS
  refine WO.run 1 6 [(2, v)] (by kernel_rfl) (by kernel_rfl) ?_
  refine WO.done (by kernel_rfl) ?_
  refine WQ.keep [0, 2] (e' := [(0, .pointer (some ⟨g, 0, none⟩)), (2, v)]) (by kernel_rfl) ?_
  refine WQ.thenN ?_
  refine WE.ret ?_
  refine WQ.ret (v := v) (by kernel_rfl) ?_
  exact own_of_keys hd hr hss hrow hsz1 HA
theorem partsIn : PartsIn := fun g m room down es w hd hr hel => parts_any g m room down es w hd hr hel
theorem gparts (g : Nat) (F : List Nat) (d : Dk) (w : World) (h : GDisk w g F d) (ho : d.Ok) (hel : d.l.length ≤ 1000000) :
    Calls Try.prog 25 #[.pointer (some ⟨g, 0, none⟩)] w fun e w' => ∃ v F', e = .returned v ∧ OwnX 3 1 w' F' v ((d.l.map (fun p => p.n)).map cI) ∧ Fr [] w w' ∧ ∀ y ∈ F', w.heap.size ≤ y := by
  obtain ⟨m, es, rfl, hl, hd⟩ := h
  have hr := ho.rise
  rw [hl] at hr hel ⊢
  have := partsIn g m d.room d.down es w hd hr (by simpa using hel)
  have h2 : (es.map GP.pt).map (fun p => p.n) = es.map (fun e => e.n) := by simp [GP.pt]
  rw [h2]
  exact this
theorem gcrash (g : Nat) (F : List Nat) (d : Dk) (keep : Int) (w : World) (h : GDisk w g F d) (ho : d.Ok) (hel : d.l.length ≤ 1000000) (hk : -9223372036854775808 ≤ keep ∧ keep ≤ 9223372036854775807) :
    Calls Try.prog 10 #[.pointer (some ⟨g, 0, none⟩), .int .i64 keep] w fun e w' => e = .returned (.tuple #[]) ∧ GDisk w' g F (crash d keep) ∧ Fr F w w' := by
  have hG := h
  obtain ⟨m, es, hF, hl, hd⟩ := h
  have hgm : g ≠ m := by
    have h_ := hd.nodup
    intro h
    subst h
    simp at h_
  cases hdn : d.down with
  | true =>
    have hs : crash d keep = d := by unfold crash; rw [hdn]; rfl
    rw [hs]
    have hb := hd.blk
    rw [hdn] at hb
    refine (crash_down g m d.room _ keep w hb hd.map hgm).mono fun e w' hh => ?_
    obtain ⟨rfl, h2⟩ := hh
    exact ⟨rfl, ⟨m, es, hF, hl, hd.keep h2 (by simp)⟩, h2.only (by simp)⟩
  | false =>
    have hs : crash d keep = { d with l := crashL keep.toNat d.l, down := true } := by unfold crash; rw [hdn]; rfl
    rw [hs]
    have hr := ho.rise
    rw [hl] at hr hel
    have hf := ho.fits
    have hm := ho.room
    refine (crash_run partsIn g m d.room es keep F w (by rw [← hdn]; exact hd) hF hr (by simpa using hel) hk (fun e he => ?_) (by rw [hF]; exact hd.lt)).mono fun e w' hh => ?_
    · have hp : e.pt ∈ d.l := by rw [hl]; exact List.mem_map.2 ⟨e, he, rfl⟩
      have h1 := ho.sync _ hp
      have h2 := usedL_mem hp
      have h3 := ho.keys _ hp
      have h4 : e.pt.b = e.b := rfl
      rw [h4] at h2
      exact ⟨h1, by omega, h3⟩
    · obtain ⟨rfl, es', h2, h3, h4, h5⟩ := hh
      exact ⟨rfl, ⟨m, es', h4, by show crashL keep.toNat d.l = _; rw [hl]; exact h2, h3⟩, h5⟩
end Go.Proofs.Ytkhibpdkgjapgaa.Disk
