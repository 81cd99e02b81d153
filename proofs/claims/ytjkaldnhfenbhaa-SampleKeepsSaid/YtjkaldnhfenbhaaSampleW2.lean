/- Walks of layer 15: the document's Keep; Lost. -/
import Derived.Test.YtjkaldnhfenbhaaSampleW
import Derived.Deep.RegionHeld3
import Derived.Test.YtjkaldnhfenbhaaConv
set_option linter.unusedVariables false
set_option linter.unusedSimpArgs false
namespace Go.Proofs.Ytjkaldnhfenbhaa.Sample
open Go.RowKit Go.Proofs.YtjkaldnhfenbhaaW.PrintWords Go.Proofs.YtjkaldnhfenbhaaW.PrintLast Go.Proofs.Ytjkaldnhfenbhaa.PSampleKeeps

/-- the two cells that a threshold is read from -/
theorem thr_cells {w : World} {A0 : Option Addr} {l : List (List Int)} {c v : Int} (hr : Kd.C (Kd.slice 3 (Kd.int .i64)) w A0 l.length l) (h : There l c v) :
    ∃ (ad a1 : Addr) (n1 c1 : Nat), A0 = some ad ∧ v < (n1 : Int) ∧ w.cell? (ad.add c.toNat) = some (.slice (some a1) n1 c1) ∧ w.cell? (a1.add v.toNat) = some (.int .i64 (thr l c v)) := by
  obtain ⟨h1, h2, h3, h4, h5⟩ := h
  obtain ⟨ad, A1, c1, e, hcell, _, hK⟩ := at_L1 hr c h2 h3
  have e2 : (rd_L1 l c).length = (l.getD 0 []).length := (h1.row c.toNat (by omega)).eq
  have h6 := hK.2.2
  obtain ⟨a1, e1, hc⟩ := h6 (by omega)
  subst e1
  obtain ⟨cs, _, hk, hcc⟩ := hc v.toNat (rd (rd_L1 l c) v) (by
    unfold rd
    have : v.toNat < (rd_L1 l c).length := by omega
    simp [List.getD, this])
  obtain rfl : cs = [.int .i64 (rd (rd_L1 l c) v)] := hk
  have := hcc 0 _ rfl
  rw [show v.toNat * (Kd.int .i64).sz + 0 = v.toNat from Nat.mul_one _] at this
  exact ⟨ad, a1, _, c1, e, by omega, hcell, this⟩

set_option maxRecDepth 100000 in
set_option maxHeartbeats 2000000 in
theorem refkeep (A0 : Option Addr) (c0 : Nat) (l : List (List Int)) (c v : Int) (s : ByteArray) (hs : s.size ≤ 5000) (w : World) (hr : Kd.C (Kd.slice 3 (Kd.int .i64)) w A0 l.length l) (h : There l c v) (b : Bool) (hb : decide (MixS.mixH (bytesL s) % 65536 ≥ thr l c v) = b) :
    Calls Try.prog 50 #[.slice A0 l.length c0, .int .i64 c, .int .i64 v, .string s] w fun e w' => e = .returned (.bool b) ∧ Fr [] w w' := by
  obtain ⟨ad, a1, n1, c1, rfl, hv1, e1, e2⟩ := thr_cells hr h
  obtain ⟨h1, h2, h3, h4, h5⟩ := h
  obtain ⟨ci, rfl⟩ : ∃ ci : Nat, c = ci := ⟨c.toNat, by omega⟩
  obtain ⟨vi, rfl⟩ : ∃ vi : Nat, v = vi := ⟨v.toNat, by omega⟩
  rw [Int.toNat_natCast] at e1 e2
  have HH := Lib.hid (MixS.ref_hash_eq (bytesL s) (bytesL_wf s) (by rw [bytesL_len]; omega) 5001 (by rw [bytesL_len]; omega))
  have hm := MixS.mixH_bd (bytesL s)
  obtain ⟨m, hmm⟩ : ∃ m, m = MixS.mixH (bytesL s) := ⟨_, rfl⟩
  rw [← hmm] at HH hm hb
  obtain ⟨t, ht⟩ : ∃ t, t = thr l (ci : Int) (vi : Int) := ⟨_, rfl⟩
  rw [← ht] at e2 hb
  have HB := Lib.hid hb
  have HR := Lib.hid (fun w : World => bytes_reads w 5 s (by omega))
  have HL := Lib.hid (bytesL_len s)
  obtain ⟨hm0, hm1⟩ := hm
  have hcl : (ci : Int) < l.length := h3
  have hc0 : (0 : Int) ≤ (ci : Int) := h2
  have hv0 : (0 : Int) ≤ (vi : Int) := h4
  have E1 := Lib.hid (fun W (hW : Fr [] w W) => hW.cell0 e1)
  have E2 := Lib.hid (fun W (hW : Fr [] w W) => hW.cell0 e2)
  clear hr h1 h2 h3 h4 h5 hb hmm ht
  go_enter Try.func50, Try.ntmps50
  go_wp2_with fail
  have F0 : Fr [] w w.drew := (Fr.refl [] w).drew
  have HK2 := Lib.hid (nogginref01_Hash.calls 5001 (some ⟨w.drew.heap.size, 0, none⟩) (grownCap w.drew s.size 0 5) (bytesL s) m (Lib.bytesWorld w.drew 5 s) (HR.out _) (by rw [HL.out]; exact cap_le _ _ _) HH.out)
  rw [HL.out] at HK2
  have HB2 := Lib.hid (show decide (t ≤ wrap64 (m.tmod 65536)) = b by rw [← HB.out]; congr 1; rw [Int.tmod_eq_emod_of_nonneg hm0, show wrap64 (m % 65536) = m % 65536 by unfold wrap64; omega])
  refine start_ (n := 14) (S := fun w' => w'.cell? (ad.add ci) = some (.slice (some a1) n1 c1) ∧ w'.cell? (a1.add vi) = some (.int .i64 t)) (ds := []) #[false, false, false, false, false, false, false, false, false, false, false, false, false, false] (by kernel_rfl) rfl rfl ⟨e1, e2⟩ (fun hHeld => ?_)
  refine pure_ (i := 0) (N := some 9) (v := ?_) (a' := ?_) #[true, false, false, false, false, false, false, false, false, false, false, false, false, false] rfl rfl (by kernel_rfl) (fun _ _ _ h => h) (Or.inl ⟨by rfl, ?_⟩) ?_ ?_
  rotate_left
  · intro w'
    go_simp
    with_reducible rfl
  rotate_left
  · simp only [Act.put, List.setIfInBounds_toArray, List.set_cons_zero, List.set_cons_succ, i64_w, i32_w]
    rfl
  refine pure_ (i := 5) (N := some 14) (v := ?_) (a' := ?_) #[true, false, false, false, false, true, false, false, false, false, false, false, false, false] rfl rfl (by kernel_rfl) (fun _ _ _ h => h) (Or.inl ⟨by rfl, ?_⟩) ?_ ?_
  rotate_left
  · intro w'
    go_simp
    with_reducible rfl
  rotate_left
  · simp only [Act.put, List.setIfInBounds_toArray, List.set_cons_zero, List.set_cons_succ, i64_w, i32_w]
    rfl
  refine pure_ (i := 6) (N := some 15) (v := ?_) (a' := ?_) #[true, false, false, false, false, true, true, false, false, false, false, false, false, false] rfl rfl (by kernel_rfl) (fun _ _ _ h => h) (Or.inl ⟨by rfl, ?_⟩) ?_ ?_
  rotate_left
  · intro w'
    go_simp
    with_reducible rfl
  rotate_left
  · simp only [Act.put, List.setIfInBounds_toArray, List.set_cons_zero, List.set_cons_succ, i64_w, i32_w]
    rfl
  refine pure_ (i := 7) (N := some 16) (v := ?_) (a' := ?_) #[true, false, false, false, false, true, true, true, false, false, false, false, false, false] rfl rfl (by kernel_rfl) (fun _ _ _ h => h) (Or.inl ⟨by rfl, ?_⟩) ?_ ?_
  rotate_left
  · intro w'
    go_simp
    with_reducible rfl
  rotate_left
  · simp only [Act.put, List.setIfInBounds_toArray, List.set_cons_zero, List.set_cons_succ, i64_w, i32_w]
    rfl
  refine pure_ (i := 9) (N := some 18) (v := ?_) (a' := ?_) #[true, false, false, false, false, true, true, true, false, true, false, false, false, false] rfl rfl (by kernel_rfl) (fun _ _ _ h => h) (Or.inl ⟨by rfl, ?_⟩) ?_ ?_
  rotate_left
  · intro w'
    go_simp
    with_reducible rfl
  rotate_left
  · simp only [Act.put, List.setIfInBounds_toArray, List.set_cons_zero, List.set_cons_succ, i64_w, i32_w]
    rfl
  refine take_ (i := 8) (N := some 17) (v := ?_) (a' := ?_) #[true, false, false, false, false, true, true, true, true, true, false, false, false, false] rfl rfl (by kernel_rfl) (fun _ _ _ h => h) (Or.inl ⟨by rfl, ?_⟩) hHeld ?_ ?_
  rotate_left
  · rintro w' ⟨s0, s1⟩
    go_simp
    with_reducible rfl
  rotate_left
  · simp only [Act.put, List.setIfInBounds_toArray, List.set_cons_zero, List.set_cons_succ, i64_w, i32_w]
    rfl
  refine pure_ (i := 10) (N := some 19) (v := ?_) (a' := ?_) #[true, false, false, false, false, true, true, true, true, true, true, false, false, false] rfl rfl (by kernel_rfl) (fun _ _ _ h => h) (Or.inl ⟨by rfl, ?_⟩) ?_ ?_
  rotate_left
  · intro w'
    go_simp
    with_reducible rfl
  rotate_left
  · simp only [Act.put, List.setIfInBounds_toArray, List.set_cons_zero, List.set_cons_succ, i64_w, i32_w]
    rfl
  refine take_ (i := 11) (N := some 20) (v := ?_) (a' := ?_) #[true, false, false, false, false, true, true, true, true, true, true, true, false, false] rfl rfl (by kernel_rfl) (fun _ _ _ h => h) (Or.inl ⟨by rfl, ?_⟩) hHeld ?_ ?_
  rotate_left
  · rintro w' ⟨s0, s1⟩
    go_simp
    with_reducible rfl
  rotate_left
  · simp only [Act.put, List.setIfInBounds_toArray, List.set_cons_zero, List.set_cons_succ, i64_w, i32_w]
    rfl
  refine one_ (i := 1) (N := some 10) #[true, true, false, false, false, true, true, true, true, true, true, true, false, false] rfl rfl (by kernel_rfl) (by decide) (fun K hK => ?_)
  refine value_ (w1 := Lib.bytesWorld w.drew 5 s) (v := .slice (some ⟨w.drew.heap.size, 0, none⟩) s.size (grownCap w.drew s.size 0 5)) (by rfl) rfl (conv_exec _ (src := 9) (dst := 128) (e := 5) (x := .tmp 9) (s := s) rfl (by rfl) (by kernel_rfl) (by kernel_rfl) (by kernel_rfl)) ?_
  refine hK.out _ _ ⟨(E1.out _ (F0.trans (bytes_fr _ _ _))), (E2.out _ (F0.trans (bytes_fr _ _ _)))⟩ (fun hHeld => ?_)
  clear hK K
  refine norm_ (a' := ?_) ?_ ?_
  rotate_left
  · show Act.put _ (some 10) _ = _
    simp only [Act.put, List.setIfInBounds_toArray, List.set_cons_zero, List.set_cons_succ, i64_w, i32_w]
    rfl
  refine one_ (i := 2) (N := some 11) #[true, true, true, false, false, true, true, true, true, true, true, true, false, false] rfl rfl (by kernel_rfl) (by decide) (fun K hK => ?_)
  refine goes_ Try.func79 (by kernel_rfl) rfl #[.slice (some ⟨w.drew.heap.size, 0, none⟩) s.size (grownCap w.drew s.size 0 5)] (by rfl) rfl rfl (by simp only [List.map_toArray, List.map_cons, List.map_nil]; rfl) ?_
  with_reducible refine (HK2.out).mono ?_
  rintro e w4 ⟨rfl, hd⟩
  refine ⟨_, rfl, ?_⟩
  have HF4 := Lib.hid ((F0.trans (bytes_fr _ _ _)).trans (Fr.of_drawn hd))
  clear hd
  refine hK.out _ _ ⟨(E1.out _ HF4.out), (E2.out _ HF4.out)⟩ (fun hHeld => ?_)
  clear hK K
  refine norm_ (a' := ?_) ?_ ?_
  rotate_left
  · show Act.put _ (some 11) _ = _
    simp only [Act.put, List.setIfInBounds_toArray, List.set_cons_zero, List.set_cons_succ, i64_w, i32_w]
    rfl
  refine pure_ (i := 3) (N := some 12) (v := ?_) (a' := ?_) #[true, true, true, true, false, true, true, true, true, true, true, true, false, false] rfl rfl (by kernel_rfl) (fun _ _ _ h => h) (Or.inl ⟨by rfl, ?_⟩) ?_ ?_
  rotate_left
  · intro w'
    go_simp
    with_reducible rfl
  rotate_left
  · simp only [Act.put, List.setIfInBounds_toArray, List.set_cons_zero, List.set_cons_succ, i64_w, i32_w]
    rfl
  refine pure_ (i := 4) (N := some 13) (v := ?_) (a' := ?_) #[true, true, true, true, true, true, true, true, true, true, true, true, false, false] rfl rfl (by kernel_rfl) (fun _ _ _ h => h) (Or.inl ⟨by rfl, ?_⟩) ?_ ?_
  rotate_left
  · intro w'
    go_simp
    with_reducible rfl
  rotate_left
  · simp only [Act.put, List.setIfInBounds_toArray, List.set_cons_zero, List.set_cons_succ, i64_w, i32_w]
    rfl
  refine pure_ (i := 12) (N := some 21) (v := ?_) (a' := ?_) #[true, true, true, true, true, true, true, true, true, true, true, true, true, false] rfl rfl (by kernel_rfl) (fun _ _ _ h => h) (Or.inl ⟨by rfl, ?_⟩) ?_ ?_
  rotate_left
  · intro w'
    go_simp
    with_reducible rfl
  rotate_left
  · simp only [Act.put, List.setIfInBounds_toArray, List.set_cons_zero, List.set_cons_succ, i64_w, i32_w]
    rfl
  refine pure_ (i := 13) (N := some 8) (v := ?_) (a' := ?_) #[true, true, true, true, true, true, true, true, true, true, true, true, true, true] rfl rfl (by kernel_rfl) (fun _ _ _ h => h) (Or.inl ⟨by rfl, ?_⟩) ?_ ?_
  rotate_left
  · intro w'
    go_simp
    with_reducible rfl
  rotate_left
  · simp only [Act.put, List.setIfInBounds_toArray, List.set_cons_zero, List.set_cons_succ, i64_w, i32_w]
    rfl
  refine done_ (by kernel_rfl) ?_
  go_wp2_with fail
  go_ret
  exact ⟨congrArg (fun x => Ending.returned (.bool x)) HB2.out, HF4.out⟩

/-- how many of the first keys are not kept -/
def lost (l : List (List Int)) (c v : Int) (keys : List ByteArray) : Nat → Int
  | 0 => 0
  | k + 1 => lost l c v keys k + if MixS.mixH (bytesL (keys.getD k ByteArray.empty)) % 65536 ≥ thr l c v then 0 else 1
theorem lost_bd (l : List (List Int)) (c v : Int) (keys : List ByteArray) : ∀ k : Nat, 0 ≤ lost l c v keys k ∧ lost l c v keys k ≤ k
  | 0 => by simp [lost]
  | k + 1 => by
    have := lost_bd l c v keys k
    simp only [lost]
    split <;> omega
theorem C_strs {w : World} {A : Option Addr} {l : List ByteArray} (h : Kd.C Kd.string w A l.length l) : l = [] ∨ ∃ ad, A = some ad ∧ ∀ j, j < l.length → w.cell? (ad.add j) = some (.string (l.getD j ByteArray.empty)) := by
  by_cases hn : 0 < l.length
  · right
    obtain ⟨_, _, h3⟩ := h
    obtain ⟨ad, e, hc⟩ := h3 hn
    refine ⟨ad, e, fun j hj => ?_⟩
    obtain ⟨cs, _, hk, hcell⟩ := hc j (l.getD j ByteArray.empty) (by simp [List.getD, hj])
    obtain rfl : cs = [.string (l.getD j ByteArray.empty)] := hk
    have := hcell 0 _ rfl
    rwa [show j * Kd.string.sz + 0 = j from Nat.mul_one j] at this
  · left
    exact List.length_eq_zero_iff.1 (by omega)

set_option maxRecDepth 100000 in
set_option maxHeartbeats 2000000 in
theorem lost_no (A0 : Option Addr) (c0 : Nat) (l : List (List Int)) (c v : Int) (A3 : Option Addr) (n3 c3 : Nat) (w : World) (hr : Kd.C (Kd.slice 3 (Kd.int .i64)) w A0 l.length l) (hc : l.length ≤ c0) (h : ¬ There l c v) :
    Calls Try.prog 51 #[.slice A0 l.length c0, .int .i64 c, .int .i64 v, .slice A3 n3 c3] w fun e w' => e = .returned (.tuple #[.int .i64 0, .iface 29 (.int .i64 1)]) ∧ Fr [] w w' := by
  have HC := Lib.hid (sample_threshold.calls 40 A0 c0 l c v _ _ w hr hc (thr_no h))
  clear hr hc h
  go_enter Try.func51, Try.ntmps51
  go_wp2_with fail
  refine HC.out.mono ?_
  rintro e w1 ⟨rfl, hd⟩
  have HF := Lib.hid (Fr.of_drawn hd)
  clear hd
  unfold errW
  go_wp2_with fail
  go_ret2
  exact ⟨rfl, HF.out⟩

set_option maxRecDepth 100000 in
set_option maxHeartbeats 4000000 in
theorem lost_yes (A0 : Option Addr) (c0 : Nat) (l : List (List Int)) (c v : Int) (A3 : Option Addr) (c3 : Nat) (keys : List ByteArray) (w : World) (hr : Kd.C (Kd.slice 3 (Kd.int .i64)) w A0 l.length l) (hc : l.length ≤ c0) (h : There l c v)
    (hk : keys.length ≤ 50) (hks : ∀ j, j < keys.length → (keys.getD j ByteArray.empty).size ≤ 1000)
    (hrk : keys = [] ∨ ∃ ad, A3 = some ad ∧ ∀ j, j < keys.length → w.cell? (ad.add j) = some (.string (keys.getD j ByteArray.empty))) :
    Calls Try.prog 51 #[.slice A0 l.length c0, .int .i64 c, .int .i64 v, .slice A3 keys.length c3] w fun e w' => e = .returned (.tuple #[.int .i64 (lost l c v keys keys.length), .nilIface]) ∧ Fr [] w w' := by
  have HC := Lib.hid (sample_threshold.calls 40 A0 c0 l c v _ _ w hr hc (thr_yes h))
  have HK := Lib.hid (fun s (hs : s.size ≤ 1000) => MixS.keep_eq (bytesL s) (by rw [bytesL_len]; omega) (thr l c v) 5001 (by rw [bytesL_len]; omega))
  have HB := Lib.hid (lost_bd l c v keys)
  have HS := Lib.hid (show ∀ k, lost l c v keys (k + 1) = lost l c v keys k + if MixS.mixH (bytesL (keys.getD k ByteArray.empty)) % 65536 ≥ thr l c v then 0 else 1 from fun _ => rfl)
  have H0 := Lib.hid (show lost l c v keys 0 = 0 from rfl)
  obtain ⟨t, ht⟩ : ∃ t, t = thr l c v := ⟨_, rfl⟩
  obtain ⟨f, hf⟩ : ∃ f, f = lost l c v keys := ⟨_, rfl⟩
  rw [← ht] at HC HK HS
  rw [← hf] at HB HS H0
  have HFF := Lib.hid (show ∀ n : Int, n = f keys.length → Ending.returned (.tuple #[.int .i64 n, .nilIface]) = Ending.returned (.tuple #[.int .i64 (lost l c v keys keys.length), .nilIface]) from fun n hn => by rw [hn, hf])
  have HR := Lib.hid hrk
  have HKS := Lib.hid hks
  have HRB := Lib.hid (fun (w : World) (s : ByteArray) (hs : s.size ≤ 1000) => bytes_reads w 5 s (by omega))
  clear hr hc h ht hf hrk hks
  go_enter Try.func51, Try.ntmps51
  go_wp2_with fail
  refine HC.out.mono ?_
  rintro e w1 ⟨rfl, hd⟩
  have HF := Lib.hid (Fr.of_drawn hd)
  clear hd
  unfold errW
  go_wp2_with fail
  go_loopw [12, 27] (fun n i wr => ∃ k : Nat, k ≤ keys.length ∧ i = .int .i64 k ∧ n = .int .i64 (f k) ∧ Fr [] w wr) (fun _ i _ => keys.length - (intOf i).toNat)
  case atStart => exact ⟨0, Nat.zero_le _, rfl, by rw [H0.out], HF.out⟩
  case round =>
    obtain ⟨k, hkk, rfl, rfl, hF⟩ := hrel
    clear HF
    have HF := Lib.hid hF
    clear hF
    have hfb := HB.out k
    obtain ⟨f0, f1⟩ := hfb
    by_cases hlt : k < keys.length
    · obtain ⟨ad, rfl, hcell⟩ : ∃ ad, A3 = some ad ∧ wr.cell? (ad.add k) = some (.string (keys.getD k ByteArray.empty)) := by
        rcases HR.out with h0 | ⟨ad, h1, h2⟩
        · rw [h0] at hlt
          exact absurd hlt (Nat.not_lt_zero _)
        · exact ⟨ad, h1, HF.out.cell0 (h2 k hlt)⟩
      have hss := HKS.out k hlt
      have HS1 := Lib.hid (HS.out k)
      obtain ⟨s, hs⟩ : ∃ s, s = keys.getD k ByteArray.empty := ⟨_, rfl⟩
      rw [← hs] at hcell hss HS1
      have HK1 := Lib.hid (HK.out s hss)
      have HRB1 := Lib.hid (fun w => HRB.out w s hss)
      have HL := Lib.hid (bytesL_len s)
      have hcv := fun w : World => Lib.run_convert_string_bytes (P := Try.prog) (u := .string) w 9 128 5 s (by kernel_rfl) (by kernel_rfl) (by kernel_rfl)
      clear hs
      obtain ⟨wo, hwo⟩ : ∃ wo : World, wo = wr := ⟨_, rfl⟩
      rw [← hwo] at HF hcell ⊢
      clear hwo
      by_cases hm : MixS.mixH (bytesL s) % 65536 ≥ t
      · rw [if_pos hm] at HS1
        rw [decide_eq_true hm] at HK1
        have HK2 := Lib.hid (mix_Keep.calls 5001 (some ⟨wo.heap.size, 0, none⟩) (grownCap wo s.size 0 5) (bytesL s) t true (Lib.bytesWorld wo 5 s) (HRB1.out wo) (by rw [HL.out]; exact cap_le _ _ _) HK1.out)
        rw [HL.out] at HK2
        clear hm
        go_wp2_with fail
        refine HK2.out.mono ?_
        rintro e w2 ⟨rfl, hd⟩
        have HF2 := Lib.hid ((HF.out.trans (bytes_fr _ _ _)).trans (Fr.of_drawn hd))
        clear hd hcv HK2
        go_wp2_with fail
        go_roundw
        case rel => exact ⟨k + 1, by omega, by go_num, by rw [HS1.out, Int.add_zero], HF2.out⟩
        case measure => simp [intOf]; omega
      · rw [if_neg hm] at HS1
        rw [decide_eq_false hm] at HK1
        have HK2 := Lib.hid (mix_Keep.calls 5001 (some ⟨wo.heap.size, 0, none⟩) (grownCap wo s.size 0 5) (bytesL s) t false (Lib.bytesWorld wo 5 s) (HRB1.out wo) (by rw [HL.out]; exact cap_le _ _ _) HK1.out)
        rw [HL.out] at HK2
        clear hm
        go_wp2_with fail
        refine HK2.out.mono ?_
        rintro e w2 ⟨rfl, hd⟩
        have HF2 := Lib.hid ((HF.out.trans (bytes_fr _ _ _)).trans (Fr.of_drawn hd))
        clear hd hcv HK2
        go_wp2_with fail
        go_roundw
        case rel => exact ⟨k + 1, by omega, by go_num, by rw [HS1.out], HF2.out⟩
        case measure => simp [intOf]; omega
    · obtain rfl : k = keys.length := by omega
      go_wp2_with fail
      go_ret2
      exact ⟨HFF.out _ rfl, HF.out⟩
end Go.Proofs.Ytjkaldnhfenbhaa.Sample
