/- The walk of the statement RingPlays. -/
import Derived.Test.YtjkaldnhfenbhaaRingUp
import Derived.Test.YtjkaldnhfenbhaaApp
set_option linter.unusedVariables false
set_option linter.unusedSimpArgs false
namespace Go.Proofs.Ytjkaldnhfenbhaa.Ring
open Go.RowKit Go.Proofs.YtjkaldnhfenbhaaW.PrintWords Go.Proofs.YtjkaldnhfenbhaaW.PrintLast

def PostP (w : World) (e : Ending) (w' : World) : Prop := e = .returned (.bool true) ∧ Below w.heap.size w w'
def pk (c : Int) : Int := if c < 0 then (-(c + 1)) % 4 else c % 4
theorem pk_bd (c : Int) : pk c = 0 ∨ pk c = 1 ∨ pk c = 2 ∨ pk c = 3 := by unfold pk; split <;> omega
set_option maxRecDepth 100000 in
set_option maxHeartbeats 2000000 in
theorem pick_any (c : Int) (hc : -9223372036854775808 ≤ c ∧ c ≤ 9223372036854775807) (w : World) :
    Calls Try.prog 25 #[.int .i64 c, .int .i64 4] w fun e w' => e = .returned (.int .i64 (pk c)) ∧ w = w' := by
  obtain ⟨h0, h1⟩ := hc
  by_cases h : c < 0
  · have e : pk c = (-(c + 1)) % 4 := by unfold pk; rw [if_pos h]
    have e2 : pk c = -(c + 1).tmod 4 := by rw [e, ← Int.neg_tmod, Int.tmod_eq_emod_of_nonneg (by omega)]
    rw [e2]
    clear e e2
    go_enter Try.func25, Try.ntmps25
    go_wp2_with fail
    go_ret
    exact ⟨rfl, rfl⟩
  · have e : pk c = c % 4 := by unfold pk; rw [if_neg h]
    rw [e]
    clear e
    go_enter Try.func25, Try.ntmps25
    go_wp2_with fail
    go_ret
    exact ⟨rfl, rfl⟩
theorem EI : ET Try.prog 43 3 1 8 := by
  obtain ⟨i, h1, h2, h3, h4⟩ := info_parts (P := Try.prog) (e := 3) (z := .int .i64 0) (size := 1) (bytes := 8) (by kernel_rfl)
  exact ⟨by kernel_rfl, ⟨i, _, h1, h2, h3, h4, rfl⟩, by decide⟩

/-- what is wanted: a slice that reads so, apart from the ring -/
def Wn (w : World) (g b : Nat) (v : Value) (q : List Int) : Prop :=
  ∃ A c, v = .slice A q.length c ∧ q.length ≤ c ∧ (0 < q.length → ∃ ad, A = some ad ∧ ad.block ≠ g ∧ ad.block ≠ b ∧ ∀ j, j < q.length → w.cell? (ad.add j) = some (.int .i64 (q.getD j 0)))
theorem Wn.src {w : World} {g b : Nat} {v : Value} {q : List Int} (h : Wn w g b v q) : Src w v q.length (q.map (Value.int .i64)) 1 := by
  obtain ⟨A, c, h1, _, h2⟩ := h
  refine ⟨A, c, h1, by simp, fun hm => ?_, fun u hu => by obtain ⟨x, _, rfl⟩ := List.mem_map.1 hu; rfl⟩
  obtain ⟨ad, e, _, _, hc⟩ := h2 hm
  refine ⟨ad, e, fun j u hu => ?_⟩
  have hj : j < q.length := by
    have := (List.getElem?_eq_some_iff.1 hu).1
    simpa using this
  rw [hc j hj, ← hu]
  simp [List.getD, hj]
theorem Wn.keep {w w1 : World} {g b : Nat} {v : Value} {q : List Int} (h : Wn w g b v q) (k : Fr [g, b] w w1) : Wn w1 g b v q := by
  obtain ⟨A, c, h1, h3, h2⟩ := h
  refine ⟨A, c, h1, h3, fun hm => ?_⟩
  obtain ⟨ad, e, n1, n2, hc⟩ := h2 hm
  refine ⟨ad, e, n1, n2, fun j hj => ?_⟩
  have hlt := World.block_lt_of_cell? w _ (hc j hj)
  rw [← hc j hj]
  exact World.cell?_of_block (k.block _ hlt (by simp [Addr.add]; split <;> simp_all))
theorem Wn.tail {w : World} {g b : Nat} {ad : Addr} {c : Nat} {x : Int} {q : List Int} (h : Wn w g b (.slice (some ad) (q.length + 1) c) (x :: q)) (c' : Nat) (A : Option Addr) (hA : A = some (ad.add 1) ∨ q.length = 0) (hc' : q.length ≤ c') : Wn w g b (.slice A q.length c') q := by
  rcases hA with hA | hA
  · subst hA
    obtain ⟨A, c, h1, _, h2⟩ := h
    obtain ⟨ad', e, n1, n2, hc⟩ := h2 (by simp)
    subst e
    simp only [Value.slice.injEq, Option.some.injEq] at h1
    obtain ⟨rfl, _, _⟩ := h1
    refine ⟨_, _, rfl, hc', fun _ => ⟨_, rfl, ?_, ?_, fun j hj => ?_⟩⟩
    · simpa [Addr.add] using n1
    · simpa [Addr.add] using n2
    · have := hc (j + 1) (by simp; omega)
      rw [add_add, Nat.add_comm 1 j, this]
      simp [List.getD]
  · exact ⟨_, _, rfl, hc', fun hm => by omega⟩
theorem Wn.of_own {w : World} {g b base : Nat} {v : Value} {q : List Int} {e : TypeId} (h : w.ownsRow base e 1 v q.length (q.map (Value.int .i64))) (hg : g < base) (hb : b < base) : Wn w g b v q := by
  rcases h.2 with ⟨rfl, hn⟩ | ⟨k, cap, cur, rfl, hk, _, hcap, _⟩
  · exact ⟨none, 0, by rw [hn], by omega, fun hm => by omega⟩
  · refine ⟨_, _, rfl, hcap, fun _ => ⟨_, rfl, by show k ≠ g; omega, by show k ≠ b; omega, fun j hj => ?_⟩⟩
    refine h.cells rfl j _ ?_
    simp [List.getD, hj]

set_option maxRecDepth 100000 in
set_option maxHeartbeats 2000000 in
theorem plays_bad (A1 : Option Addr) (c1 n1 : Nat) (room : Int) (w : World) (gd : ¬ (1 ≤ room ∧ room ≤ 1000)) :
    Calls Try.prog 5 #[.int .i64 room, .slice A1 n1 c1] w (PostP w) := by
  have he := Err.eql_err
  have hu := Try.underlying26
  have H := Lib.hid gd
  by_cases b0 : room < 1
  all_goals
    try (have b1 : 1000 < room := by have := H.out; omega)
    clear gd
    go_enter Try.func5, Try.ntmps5
    go_wp2_with fail
    refine (up_any _).mono ?_
    rintro e w1 ⟨rfl, hb⟩
    have HB := Lib.hid hb.below0
    clear hb
    go_wp2_with fail
    refine (new_int_bad room H.out _).mono ?_
    rintro e w2 ⟨rfl, rfl⟩
    go_wp2_with fail
    go_ret
    exact ⟨rfl, HB.out⟩

set_option maxRecDepth 100000 in
set_option maxHeartbeats 2000000 in
theorem plays_long (A1 : Option Addr) (c1 n1 : Nat) (room : Nat) (w : World) (gd : 1 ≤ room ∧ room ≤ 1000) (hl : 300 < n1) (hm : n1 ≤ 9223372036854775807) :
    Calls Try.prog 5 #[.int .i64 room, .slice A1 n1 c1] w (PostP w) := by
  have he := Err.eql_err
  have hu := Try.underlying26
  have H := Lib.hid gd
  obtain ⟨g1, g2⟩ := gd
  go_enter Try.func5, Try.ntmps5
  go_wp2_with fail
  refine (up_any _).mono ?_
  rintro e w1 ⟨rfl, hb⟩
  have HB := Lib.hid hb
  clear hb
  go_wp2_with fail
  refine (new_int room H.out _).mono ?_
  rintro e w2 ⟨g, b, rfl, hI, hF, -, -⟩
  have HB2 := Lib.hid (HB.out.trans hF).below0
  clear hI hF
  go_wp2_with fail
  go_ret
  exact ⟨rfl, HB2.out⟩

/-- what holds behind k deeds -/
def Pl (w wr : World) (g b n : Nat) (v : Value) (q : List Int) : Prop :=
  IsR wr g b n (q.map (Value.int .i64)) 121 3 ∧ Fr [] w wr ∧ w.heap.size ≤ g ∧ w.heap.size ≤ b ∧ Wn wr g b v q

set_option maxRecDepth 100000 in
set_option maxHeartbeats 8000000 in
theorem plays_some (A1 : Option Addr) (c1 : Nat) (d : List (Int × Int)) (hd : ∀ x ∈ d, (-9223372036854775808 ≤ x.1 ∧ x.1 ≤ 9223372036854775807)) (room : Nat) (w : World) (gd : 1 ≤ room ∧ room ≤ 1000) (hl : d.length ≤ 300)
    (hc : d = [] ∨ ∃ ad, A1 = some ad ∧ ∀ j, j < d.length → ∃ a b, d[j]? = some (a, b) ∧ w.cell? (ad.add (j * 2)) = some (.int .i64 a) ∧ w.cell? (ad.add (j * 2 + 1)) = some (.int .i64 b)) :
    Calls Try.prog 5 #[.int .i64 room, .slice A1 d.length c1] w (PostP w) := by
  have he := Err.eql_err
  have hu := Try.underlying26
  have H := Lib.hid gd
  have HR := Lib.hid hc
  have HD := Lib.hid hd
  obtain ⟨g1, g2⟩ := gd
  clear hc hd
  go_enter Try.func5, Try.ntmps5
  go_wp2_with fail
  refine (up_any _).mono ?_
  rintro e w1 ⟨rfl, hb⟩
  have HB := Lib.hid hb
  clear hb
  go_wp2_with fail
  refine (new_int room H.out _).mono ?_
  rintro e w2 ⟨g, b, rfl, hI, hF, hg, hb⟩
  have HX := Lib.hid (show Pl w w2 g b room (.slice none 0 0) [] from ⟨hI, HB.out.trans hF, Nat.le_trans HB.out.size hg, Nat.le_trans HB.out.size hb, none, 0, rfl, Nat.le_refl _, fun h => absurd h (by decide)⟩)
  clear hI hF hg hb HB
  go_wp2_with fail
  go_loopw [8, 9] (fun v i wr => ∃ (k : Nat) (q : List Int), k ≤ d.length ∧ q.length ≤ k ∧ i = .int .i64 k ∧ Pl w wr g b room v q) (fun _ i _ => d.length - (intOf i).toNat)
  case atStart => exact ⟨0, [], Nat.zero_le _, Nat.le_refl _, rfl, HX.out⟩
  case round =>
    obtain ⟨k, q, hk, hqk, rfl, hX⟩ := hrel
    clear HX
    have HX := Lib.hid hX
    clear hX
    by_cases hlt : k < d.length
    · obtain ⟨ad, rfl, a, N, HC, ha⟩ : ∃ ad, A1 = some ad ∧ ∃ a N : Int, Hid (∀ W, Fr [] w W → W.cell? (ad.add (k * 2)) = some (.int .i64 a) ∧ W.cell? { block := (ad.add (k * 2)).block, off := (ad.add (k * 2)).off + 1 } = some (.int .i64 N)) ∧ (-9223372036854775808 ≤ a ∧ a ≤ 9223372036854775807) := by
        rcases HR.out with h0 | ⟨ad, h1, h2⟩
        · rw [h0] at hlt
          exact absurd hlt (Nat.not_lt_zero _)
        · obtain ⟨a, N, e0, e1, e2⟩ := h2 k hlt
          exact ⟨ad, h1, a, N, fun W hW => ⟨hW.cell0 e1, (congrArg W.cell? (add_add ad (k * 2) 1)).trans (hW.cell0 e2)⟩, HD.out (a, N) (List.mem_of_getElem? e0)⟩
      have HA := Lib.hid ha
      obtain ⟨p, hp⟩ : ∃ p, p = pk a := ⟨_, rfl⟩
      have HP := Lib.hid hp
      have hp4 : p = 0 ∨ p = 1 ∨ p = 2 ∨ p = 3 := by rw [hp]; exact pk_bd a
      clear ha hp HR
      obtain ⟨hI, hF, hg, hb, hW⟩ := HX.out
      have HI := Lib.hid hI
      have HF := Lib.hid hF
      have HG := Lib.hid (And.intro hg hb)
      have HW := Lib.hid hW
      obtain ⟨A8, c8, hv8, -⟩ := hW
      have HV := Lib.hid hv8
      subst hv8
      have hroom := hI.room
      rw [List.length_map] at hroom
      obtain ⟨r0, r1, r2⟩ := hroom
      have HLT := Lib.hid hI.lt
      obtain ⟨n, hn⟩ : ∃ n, n = q.length := ⟨_, rfl⟩
      have HQ := Lib.hid hn
      have HLQ := Lib.hid (show (q.map (Value.int .i64)).length = n by rw [hn, List.length_map])
      have e1 := (HC.out wr HF.out).1
      have e2 := (HC.out wr HF.out).2
      rw [← hn] at r0 hqk ⊢
      clear hI hF hg hb hn HX HV
      by_cases hp01 : p = 0 ∨ p = 1
      · by_cases hfull : n = room
        · rcases hp01 with rfl | rfl
          all_goals
            go_wp2_with fail
            refine (pick_any a HA.out wr).mono ?_
            rw [← HP.out]
            rintro e w3 ⟨rfl, rfl⟩
            go_wp2_with fail
            refine (push_int_full g b room (q.map (Value.int .i64)) (.int .i64 N) wr HI.out (by rw [HLQ.out]; exact hfull)).mono ?_
            rintro e w4 ⟨rfl, hF4⟩
            have HI4 := Lib.hid (HI.out.keep hF4 (by simp) (by simp))
            have HX4 := Lib.hid (show Pl w w4 g b room (.slice A8 n c8) q from ⟨HI4.out, HF.out.trans hF4, HG.out.1, HG.out.2, by have := HW.out.keep (hF4.only (by simp)); rw [← HQ.out] at this; exact this⟩)
            have HX5 := Lib.hid (show Pl w w4 g b room (.slice A8 room c8) q by have h := HX4.out; rw [hfull] at h; exact h)
            clear hF4 e1 e2 HI HF HW
            go_wp2_with fail
            refine (len_int g b room _ _ HI4.out).mono ?_
            rw [HLQ.out]
            rintro e w5 ⟨rfl, rfl⟩
            go_wp2_with fail
            go_roundw
            case rel => exact ⟨k + 1, q, by omega, by rw [← HQ.out]; omega, by go_num, HX5.out⟩
            case measure => simp [intOf]; omega
        · have hroom : n < room := by omega
          rcases hp01 with rfl | rfl
          all_goals
            go_wp2_with fail
            refine (pick_any a HA.out wr).mono ?_
            rw [← HP.out]
            rintro e w3 ⟨rfl, rfl⟩
            go_wp2_with fail
            refine (push_int_yes g b room (q.map (Value.int .i64)) N wr HI.out (by rw [HLQ.out]; exact hroom)).mono ?_
            rintro e w4 ⟨rfl, hI4, hF4⟩
            have HI4 := Lib.hid hI4
            have HF4 := Lib.hid (HF.out.step hF4 (by simp; exact HG.out))
            have hw4 := HW.out.keep hF4
            rw [← HQ.out] at hw4
            have HSRC := Lib.hid hw4.src
            rw [← HQ.out] at HSRC
            have e1 := (HC.out w4 HF4.out).1
            have e2 := (HC.out w4 HF4.out).2
            have HLT4 := Lib.hid hI4.lt
            clear hF4 hI4 hw4 HI HF HW e1
            go_wp2_with fail
            have HN := Lib.hid (show ∀ W, Fr [] w4 W → W.cell? { block := (ad.add (k * 2)).block, off := (ad.add (k * 2)).off + 1 } = some (.int .i64 N) from fun W hW => (HC.out W (HF4.out.trans hW)).2)
            obtain ⟨v8, hv8⟩ : ∃ v8, v8 = Value.slice A8 n c8 := ⟨_, rfl⟩
            obtain ⟨qs, hqs⟩ : ∃ qs, qs = q.map (Value.int .i64) := ⟨_, rfl⟩
            have EI := EI
            have fwx : Fr [] w4 w4.drew := (Fr.refl [] w4).drew
            have zwx : w4.drew.heap.size = w4.heap.size := rfl
            rw [← hv8, ← hqs] at HSRC
            rw [← hv8]
            clear hv8
            refine start_ (n := 11) (S := fun w' => w'.cell? { block := (ad.add (k * 2)).block, off := (ad.add (k * 2)).off + 1 } = some (.int .i64 N)) (ds := []) #[false, false, false, false, false, false, false, false, false, false, false] (by kernel_rfl) rfl rfl ((HN.out _ fwx)) (fun hHeld => ?_)
            refine pure_ (i := 1) (N := some 116) (v := ?_) (a' := ?_) #[false, true, false, false, false, false, false, false, false, false, false] rfl rfl (by kernel_rfl) (fun _ _ _ h => h) (Or.inl ⟨by rfl, ?_⟩) ?_ ?_
            rotate_left
            · intro w'
              go_simp
              with_reducible rfl
            rotate_left
            · simp only [Act.put, List.setIfInBounds_toArray, List.set_cons_zero, List.set_cons_succ, i64_w, i32_w]
              rfl
            refine pure_ (i := 3) (N := some 118) (v := ?_) (a' := ?_) #[false, true, false, true, false, false, false, false, false, false, false] rfl rfl (by kernel_rfl) (fun _ _ _ h => h) (Or.inl ⟨by rfl, ?_⟩) ?_ ?_
            rotate_left
            · intro w'
              go_simp
              with_reducible rfl
            rotate_left
            · simp only [Act.put, List.setIfInBounds_toArray, List.set_cons_zero, List.set_cons_succ, i64_w, i32_w]
              rfl
            refine pure_ (i := 4) (N := some 119) (v := ?_) (a' := ?_) #[false, true, false, true, true, false, false, false, false, false, false] rfl rfl (by kernel_rfl) (fun _ _ _ h => h) (Or.inl ⟨by rfl, ?_⟩) ?_ ?_
            rotate_left
            · intro w'
              go_simp
              with_reducible rfl
            rotate_left
            · simp only [Act.put, List.setIfInBounds_toArray, List.set_cons_zero, List.set_cons_succ, i64_w, i32_w]
              rfl
            refine pure_ (i := 5) (N := some 120) (v := ?_) (a' := ?_) #[false, true, false, true, true, true, false, false, false, false, false] rfl rfl (by kernel_rfl) (fun _ _ _ h => h) (Or.inl ⟨by rfl, ?_⟩) ?_ ?_
            rotate_left
            · intro w'
              go_simp
              with_reducible rfl
            rotate_left
            · simp only [Act.put, List.setIfInBounds_toArray, List.set_cons_zero, List.set_cons_succ, i64_w, i32_w]
              rfl
            refine pure_ (i := 6) (N := some 121) (v := ?_) (a' := ?_) #[false, true, false, true, true, true, true, false, false, false, false] rfl rfl (by kernel_rfl) (fun _ _ _ h => h) (Or.inl ⟨by rfl, ?_⟩) ?_ ?_
            rotate_left
            · intro w'
              go_simp
              with_reducible rfl
            rotate_left
            · simp only [Act.put, List.setIfInBounds_toArray, List.set_cons_zero, List.set_cons_succ, i64_w, i32_w]
              rfl
            refine take_ (i := 7) (N := some 122) (v := ?_) (a' := ?_) #[false, true, false, true, true, true, true, true, false, false, false] rfl rfl (by kernel_rfl) (fun _ _ _ h => h) (Or.inl ⟨by rfl, ?_⟩) hHeld ?_ ?_
            rotate_left
            · intro w' s0
              go_simp
              with_reducible rfl
            rotate_left
            · simp only [Act.put, List.setIfInBounds_toArray, List.set_cons_zero, List.set_cons_succ, i64_w, i32_w]
              rfl
            refine join_ (σ := Nat × Value × Nat) 2 #[true, true, true, true, true, true, true, true, true, false, false] (fun s => [(115, .slice (some ⟨s.1, 0, none⟩) 0 0), (117, s.2.1), (123, .slice (some ⟨s.2.2, 0, none⟩) 1 1)]) (fun s w' => w'.ownsRow w4.heap.size 3 1 s.2.1 n qs ∧ Blk w' s.2.2 #[.int .i64 N] 3 ∧ (∀ k, s.2.1.ownBlock = some k → k ≠ s.2.2) ∧ Fr [] w4 w') ?_ ?_
            rotate_left
            · intro hCont
              refine two_ (i := 0) (j := 8) (Ni := some 115) (Nj := some 123) #[true, true, false, true, true, true, true, true, false, false, false] #[false, true, false, true, true, true, true, true, true, false, false] rfl rfl rfl rfl (by kernel_rfl) (by decide) (by decide) (fun K hK => ?_) (fun K hK => ?_)
              · skip
                refine value_ (w1 := w4.drew.alloc (.cells #[] 3)) (v := .slice (some ⟨w4.drew.heap.size, 0, none⟩) 0 0) (by rfl) rfl ?_ ?_
                · first | (go_simp; done) | (go_simp; rfl)
                obtain ⟨wx0, hwx0⟩ : ∃ x, x = w4.drew.alloc (.cells #[] 3) := ⟨_, rfl⟩
                rw [← hwx0]
                have zwx0 : wx0.heap.size = w4.drew.heap.size + 1 := by rw [hwx0]; exact size_alloc _ _
                have fwx0 : Fr [] w4 wx0 := by rw [hwx0]; exact fwx.alloc _
                have o0 : wx0.ownsRow w4.heap.size 3 1 (.slice (some ⟨w4.drew.heap.size, 0, none⟩) 0 0) 0 [] := by rw [hwx0]; exact own_of_blk (Blk.new w4.drew #[] 3) fwx.size rfl (by decide)
                clear hwx0
                refine hK.out _ _ ((HN.out _ fwx0)) (fun hHeld => ?_)
                clear hK K
                refine norm_ (a' := ?_) ?_ ?_
                rotate_left
                · show Act.put _ (some 115) _ = _
                  simp only [Act.put, List.setIfInBounds_toArray, List.set_cons_zero, List.set_cons_succ, i64_w, i32_w]
                  rfl
                refine two_ (i := 2) (j := 8) (Ni := some 117) (Nj := some 123) #[true, true, true, true, true, true, true, true, false, false, false] #[true, true, false, true, true, true, true, true, true, false, false] rfl rfl rfl rfl (by kernel_rfl) (by decide) (by decide) (fun K hK => ?_) (fun K hK => ?_)
                · skip
                  refine step_app (by rfl) (.tmp 115) (.tmp 116) 43 (by rfl) w4.heap.size 3 1 8 EI (.slice (some ⟨w4.drew.heap.size, 0, none⟩) 0 0) 0 [] (by rfl) o0 v8 n qs (by rfl) (HSRC.out.mono fwx0) (by omega) (by omega) fwx0.size ?_
                  intro v1 wx02 o1 hgrow hat
                  have l1 := o1.lt
                  have fg : Fr [w4.drew.heap.size] wx0 wx02 := Fr.of_grown hgrow (fun k hk => .inl (by simpa [Value.ownBlock] using hk.symm))
                  have fwx02 : Fr [] w4 wx02 := fwx0.step fg (fun x hx => .inr (by have := List.mem_singleton.1 hx; have := fwx.size; omega))
                  have zwx02 : wx0.heap.size ≤ wx02.heap.size := fg.size
                  clear fg hgrow o0
                  refine hK.out _ _ ((HN.out _ fwx02)) (fun hHeld => ?_)
                  clear hK K
                  refine norm_ (a' := ?_) ?_ ?_
                  rotate_left
                  · show Act.put _ (some 117) _ = _
                    simp only [Act.put, List.setIfInBounds_toArray, List.set_cons_zero, List.set_cons_succ, i64_w, i32_w]
                    rfl
                  refine one_ (i := 8) (N := some 123) #[true, true, true, true, true, true, true, true, true, false, false] rfl rfl (by kernel_rfl) (by decide) (fun K hK => ?_)
                  refine value_ (w1 := wx02.alloc (.cells #[.int .i64 N] 3)) (v := .slice (some ⟨wx02.heap.size, 0, none⟩) 1 1) (by rfl) rfl ?_ ?_
                  · first | (go_simp; done) | (go_simp; rfl)
                  obtain ⟨wx028, hwx028⟩ : ∃ x, x = wx02.alloc (.cells #[.int .i64 N] 3) := ⟨_, rfl⟩
                  rw [← hwx028]
                  have zwx028 : wx028.heap.size = wx02.heap.size + 1 := by rw [hwx028]; exact size_alloc _ _
                  have fwx028 : Fr [] w4 wx028 := by rw [hwx028]; exact fwx02.alloc _
                  have b8 : Blk wx028 wx02.heap.size #[.int .i64 N] 3 := by rw [hwx028]; exact Blk.new _ _ _
                  have o1 : wx028.ownsRow w4.heap.size 3 1 v1 (0 + n) ([] ++ qs) := by rw [hwx028]; exact o1.alloc _
                  clear hwx028
                  refine hK.out _ _ ((HN.out _ fwx028)) (fun hHeld => ?_)
                  clear hK K
                  refine norm_ (a' := ?_) ?_ ?_
                  rotate_left
                  · show Act.put _ (some 123) _ = _
                    simp only [Act.put, List.setIfInBounds_toArray, List.set_cons_zero, List.set_cons_succ, i64_w, i32_w]
                    rfl
                  exact norm_ (by simp only [putAll, Act.put, List.setIfInBounds_toArray, List.set_cons_zero, List.set_cons_succ]) (hCont (w4.drew.heap.size, v1, wx02.heap.size) _ ⟨by simpa using o1, b8, (fun y hk e => by have e2 : y = wx02.heap.size := e; have := (l1 _ hk).2; omega), fwx028⟩)
                · skip
                  refine value_ (w1 := wx0.alloc (.cells #[.int .i64 N] 3)) (v := .slice (some ⟨wx0.heap.size, 0, none⟩) 1 1) (by rfl) rfl ?_ ?_
                  · first | (go_simp; done) | (go_simp; rfl)
                  obtain ⟨wx08, hwx08⟩ : ∃ x, x = wx0.alloc (.cells #[.int .i64 N] 3) := ⟨_, rfl⟩
                  rw [← hwx08]
                  have zwx08 : wx08.heap.size = wx0.heap.size + 1 := by rw [hwx08]; exact size_alloc _ _
                  have fwx08 : Fr [] w4 wx08 := by rw [hwx08]; exact fwx0.alloc _
                  have b8 : Blk wx08 wx0.heap.size #[.int .i64 N] 3 := by rw [hwx08]; exact Blk.new _ _ _
                  have o0 : wx08.ownsRow w4.heap.size 3 1 (.slice (some ⟨w4.drew.heap.size, 0, none⟩) 0 0) 0 [] := by rw [hwx08]; exact o0.alloc _
                  clear hwx08
                  refine hK.out _ _ ((HN.out _ fwx08)) (fun hHeld => ?_)
                  clear hK K
                  refine norm_ (a' := ?_) ?_ ?_
                  rotate_left
                  · show Act.put _ (some 123) _ = _
                    simp only [Act.put, List.setIfInBounds_toArray, List.set_cons_zero, List.set_cons_succ, i64_w, i32_w]
                    rfl
                  refine one_ (i := 2) (N := some 117) #[true, true, true, true, true, true, true, true, true, false, false] rfl rfl (by kernel_rfl) (by decide) (fun K hK => ?_)
                  refine step_app (by rfl) (.tmp 115) (.tmp 116) 43 (by rfl) w4.heap.size 3 1 8 EI (.slice (some ⟨w4.drew.heap.size, 0, none⟩) 0 0) 0 [] (by rfl) o0 v8 n qs (by rfl) (HSRC.out.mono fwx08) (by omega) (by omega) fwx08.size ?_
                  intro v1 wx082 o1 hgrow hat
                  have l1 := o1.lt
                  have fg : Fr [w4.drew.heap.size] wx08 wx082 := Fr.of_grown hgrow (fun k hk => .inl (by simpa [Value.ownBlock] using hk.symm))
                  have fwx082 : Fr [] w4 wx082 := fwx08.step fg (fun x hx => .inr (by have := List.mem_singleton.1 hx; have := fwx.size; omega))
                  have zwx082 : wx08.heap.size ≤ wx082.heap.size := fg.size
                  have b8 : Blk wx082 wx0.heap.size #[.int .i64 N] 3 := b8.keep fg (by simp; omega)
                  clear fg hgrow o0
                  refine hK.out _ _ ((HN.out _ fwx082)) (fun hHeld => ?_)
                  clear hK K
                  refine norm_ (a' := ?_) ?_ ?_
                  rotate_left
                  · show Act.put _ (some 117) _ = _
                    simp only [Act.put, List.setIfInBounds_toArray, List.set_cons_zero, List.set_cons_succ, i64_w, i32_w]
                    rfl
                  exact norm_ (by simp only [putAll, Act.put, List.setIfInBounds_toArray, List.set_cons_zero, List.set_cons_succ]) (hCont (w4.drew.heap.size, v1, wx0.heap.size) _ ⟨by simpa using o1, b8, (fun y hk e => by subst e; rcases hat with h | h; (rw [h] at hk; have h2 : w4.drew.heap.size = wx0.heap.size := Option.some.inj hk; omega); (rw [h] at hk; have h2 : wx08.heap.size = wx0.heap.size := Option.some.inj hk; omega)), fwx082⟩)
              · skip
                refine value_ (w1 := w4.drew.alloc (.cells #[.int .i64 N] 3)) (v := .slice (some ⟨w4.drew.heap.size, 0, none⟩) 1 1) (by rfl) rfl ?_ ?_
                · first | (go_simp; done) | (go_simp; rfl)
                obtain ⟨wx8, hwx8⟩ : ∃ x, x = w4.drew.alloc (.cells #[.int .i64 N] 3) := ⟨_, rfl⟩
                rw [← hwx8]
                have zwx8 : wx8.heap.size = w4.drew.heap.size + 1 := by rw [hwx8]; exact size_alloc _ _
                have fwx8 : Fr [] w4 wx8 := by rw [hwx8]; exact fwx.alloc _
                have b8 : Blk wx8 w4.drew.heap.size #[.int .i64 N] 3 := by rw [hwx8]; exact Blk.new _ _ _
                clear hwx8
                refine hK.out _ _ ((HN.out _ fwx8)) (fun hHeld => ?_)
                clear hK K
                refine norm_ (a' := ?_) ?_ ?_
                rotate_left
                · show Act.put _ (some 123) _ = _
                  simp only [Act.put, List.setIfInBounds_toArray, List.set_cons_zero, List.set_cons_succ, i64_w, i32_w]
                  rfl
                refine one_ (i := 0) (N := some 115) #[true, true, false, true, true, true, true, true, true, false, false] rfl rfl (by kernel_rfl) (by decide) (fun K hK => ?_)
                refine value_ (w1 := wx8.alloc (.cells #[] 3)) (v := .slice (some ⟨wx8.heap.size, 0, none⟩) 0 0) (by rfl) rfl ?_ ?_
                · first | (go_simp; done) | (go_simp; rfl)
                obtain ⟨wx80, hwx80⟩ : ∃ x, x = wx8.alloc (.cells #[] 3) := ⟨_, rfl⟩
                rw [← hwx80]
                have zwx80 : wx80.heap.size = wx8.heap.size + 1 := by rw [hwx80]; exact size_alloc _ _
                have fwx80 : Fr [] w4 wx80 := by rw [hwx80]; exact fwx8.alloc _
                have o0 : wx80.ownsRow w4.heap.size 3 1 (.slice (some ⟨wx8.heap.size, 0, none⟩) 0 0) 0 [] := by rw [hwx80]; exact own_of_blk (Blk.new wx8 #[] 3) fwx8.size rfl (by decide)
                have b8 : Blk wx80 w4.drew.heap.size #[.int .i64 N] 3 := by rw [hwx80]; exact b8.alloc _
                clear hwx80
                refine hK.out _ _ ((HN.out _ fwx80)) (fun hHeld => ?_)
                clear hK K
                refine norm_ (a' := ?_) ?_ ?_
                rotate_left
                · show Act.put _ (some 115) _ = _
                  simp only [Act.put, List.setIfInBounds_toArray, List.set_cons_zero, List.set_cons_succ, i64_w, i32_w]
                  rfl
                refine one_ (i := 2) (N := some 117) #[true, true, true, true, true, true, true, true, true, false, false] rfl rfl (by kernel_rfl) (by decide) (fun K hK => ?_)
                refine step_app (by rfl) (.tmp 115) (.tmp 116) 43 (by rfl) w4.heap.size 3 1 8 EI (.slice (some ⟨wx8.heap.size, 0, none⟩) 0 0) 0 [] (by rfl) o0 v8 n qs (by rfl) (HSRC.out.mono fwx80) (by omega) (by omega) fwx80.size ?_
                intro v1 wx802 o1 hgrow hat
                have l1 := o1.lt
                have fg : Fr [wx8.heap.size] wx80 wx802 := Fr.of_grown hgrow (fun k hk => .inl (by simpa [Value.ownBlock] using hk.symm))
                have fwx802 : Fr [] w4 wx802 := fwx80.step fg (fun x hx => .inr (by have := List.mem_singleton.1 hx; have := fwx.size; omega))
                have zwx802 : wx80.heap.size ≤ wx802.heap.size := fg.size
                have b8 : Blk wx802 w4.drew.heap.size #[.int .i64 N] 3 := b8.keep fg (by simp; omega)
                clear fg hgrow o0
                refine hK.out _ _ ((HN.out _ fwx802)) (fun hHeld => ?_)
                clear hK K
                refine norm_ (a' := ?_) ?_ ?_
                rotate_left
                · show Act.put _ (some 117) _ = _
                  simp only [Act.put, List.setIfInBounds_toArray, List.set_cons_zero, List.set_cons_succ, i64_w, i32_w]
                  rfl
                exact norm_ (by simp only [putAll, Act.put, List.setIfInBounds_toArray, List.set_cons_zero, List.set_cons_succ]) (hCont (wx8.heap.size, v1, w4.drew.heap.size) _ ⟨by simpa using o1, b8, (fun y hk e => by subst e; rcases hat with h | h; (rw [h] at hk; have h2 : wx8.heap.size = w4.drew.heap.size := Option.some.inj hk; omega); (rw [h] at hk; have h2 : wx80.heap.size = w4.drew.heap.size := Option.some.inj hk; omega)), fwx802⟩)
            rintro ⟨b0, v1, h1⟩ w5 ⟨o1, b8, hne, f5⟩
            have hHeld : w5.cell? { block := (ad.add (k * 2)).block, off := (ad.add (k * 2)).off + 1 } = some (.int .i64 N) := HN.out _ f5
            refine norm_ (a' := ?_) ?_ ?_
            rotate_left
            · simp only [putAll, Act.put, List.setIfInBounds_toArray, List.set_cons_zero, List.set_cons_succ]
              rfl
            refine one_ (i := 9) (N := some 124) #[true, true, true, true, true, true, true, true, true, true, false] rfl rfl (by kernel_rfl) (by decide) (fun K hK => ?_)
            refine step_app (by rfl) (.tmp 117) (.tmp 123) 43 (by rfl) w4.heap.size 3 1 8 EI v1 n qs (by rfl) o1 (.slice (some ⟨h1, 0, none⟩) 1 1) 1 [.int .i64 N] (by rfl) (Src.of_own (own_of_blk (base := 0) b8 (Nat.zero_le _) rfl (by decide)) (by simp [Value.oneCell'])) (by omega) (by omega) f5.size ?_
            intro v2 w6 o2 hgrow hat
            have f6 : Fr [] w4 w6 := f5.step (Fr.of_grown (S := v1.ownBlock.toList) hgrow (fun k hk => .inl (by rw [hk]; simp))) (fun x hx => .inr (o1.lt x (by simpa using hx)).1)
            clear hgrow hat o1 b8 hne f5
            refine hK.out _ _ ((HN.out _ f6)) (fun hHeld => ?_)
            clear hK K
            refine norm_ (a' := ?_) ?_ ?_
            rotate_left
            · show Act.put _ (some 124) _ = _
              simp only [Act.put, List.setIfInBounds_toArray, List.set_cons_zero, List.set_cons_succ, i64_w, i32_w]
              rfl
            refine pure_ (i := 10) (N := some 8) (v := ?_) (a' := ?_) #[true, true, true, true, true, true, true, true, true, true, true] rfl rfl (by kernel_rfl) (fun _ _ _ h => h) (Or.inl ⟨by rfl, ?_⟩) ?_ ?_
            rotate_left
            · intro w'
              go_simp
              with_reducible rfl
            rotate_left
            · simp only [Act.put, List.setIfInBounds_toArray, List.set_cons_zero, List.set_cons_succ, i64_w, i32_w]
              rfl
            refine done_ (by kernel_rfl) ?_
            have HI6 := Lib.hid (HI4.out.keep f6 (by simp) (by simp))
            have HLQ6 := Lib.hid (show (q.map (Value.int .i64) ++ [Value.int .i64 N]).length = n + 1 by simp [HQ.out])
            have HX6 := Lib.hid (show Pl w w6 g b room v2 (q ++ [N]) from ⟨by rw [List.map_append]; exact HI6.out, HF4.out.trans f6, HG.out.1, HG.out.2, Wn.of_own (base := w4.heap.size) (e := 3) (by rw [List.map_append, List.length_append, ← HQ.out, ← hqs]; exact o2) HLT4.out.1 HLT4.out.2⟩)
            clear o2 f6 hqs e2 fwx zwx hHeld
            go_wp2_with fail
            refine (len_int g b room _ _ HI6.out).mono ?_
            rw [HLQ6.out]
            rintro e w7 ⟨rfl, rfl⟩
            have HO6 := Lib.hid HX6
            obtain ⟨A2, c2, hv2, -⟩ := HX6.out.2.2.2.2
            rw [List.length_append, ← HQ.out] at hv2
            have HX7 := Lib.hid (show Pl w w6 g b room (.slice A2 (n + 1) c2) (q ++ [N]) by have h := HX6.out; rw [hv2] at h; exact h)
            subst hv2
            clear HX6 HO6
            go_wp2_with fail
            go_roundw
            case rel => exact ⟨k + 1, q ++ [N], by omega, by rw [List.length_append, ← HQ.out]; simp; omega, by go_num, HX7.out⟩
            case measure => simp [intOf]; omega
      · by_cases hp2 : p = 2
        · subst hp2
          rcases q with _ | ⟨x, q⟩
          · have hn0 : n = 0 := HQ.out
            subst hn0
            clear HLQ HQ
            go_wp2_with fail
            refine (pick_any a HA.out wr).mono ?_
            rw [← HP.out]
            rintro e w3 ⟨rfl, rfl⟩
            go_wp2_with fail
            refine (pop_int_none g b room wr HI.out).mono ?_
            rintro e w4 ⟨rfl, rfl⟩
            go_wp2_with fail
            refine (len_int g b room _ _ HI.out).mono ?_
            rintro e w5 ⟨rfl, rfl⟩
            go_wp2_with fail
            go_roundw
            case rel => exact ⟨k + 1, [], by omega, Nat.zero_le _, by go_num, HI.out, HF.out, HG.out.1, HG.out.2, HW.out⟩
            case measure => simp [intOf]; omega
          · obtain ⟨m, hm⟩ : ∃ m, m = q.length := ⟨_, rfl⟩
            have hn1 : n = m + 1 := by rw [HQ.out, hm]; rfl
            subst hn1
            have HM := Lib.hid hm
            have HLM := Lib.hid (show (q.map (Value.int .i64)).length = m by rw [List.length_map, hm])
            have HLM1 := Lib.hid (show ((x :: q).map (Value.int .i64)).length = m + 1 by rw [List.length_map, List.length_cons, hm])
            obtain ⟨a8, hA8⟩ : ∃ a8, A8 = some a8 := by
              obtain ⟨A, c, h1, _, h2⟩ := HW.out
              obtain ⟨ad', e, _⟩ := h2 (by simp)
              subst e
              simp only [Value.slice.injEq] at h1
              exact ⟨_, h1.1⟩
            subst hA8
            have HW2 := Lib.hid (show Wn wr g b (.slice (some a8) (m + 1) c8) (x :: q) by have h := HW.out; rw [List.length_cons, ← hm] at h; exact h)
            clear HW
            have HWC := Lib.hid (show ∀ W, Wn W g b (.slice (some a8) (m + 1) c8) (x :: q) → W.cell? a8 = some (.int .i64 x) ∧ True from fun W hW => by
              obtain ⟨A, c, h1, _, h2⟩ := hW
              obtain ⟨ad', e, _, _, hc⟩ := h2 (by simp)
              subst e
              simp only [Value.slice.injEq, Option.some.injEq] at h1
              obtain ⟨rfl, _, _⟩ := h1
              exact ⟨hc 0 (by simp), trivial⟩)
            clear HLQ HQ hm
            go_wp2_with fail
            refine (pick_any a HA.out wr).mono ?_
            rw [← HP.out]
            rintro e w3 ⟨rfl, rfl⟩
            go_wp2_with fail
            refine (pop_int_some g b room x (q.map (Value.int .i64)) wr HI.out).mono ?_
            rintro e w4 ⟨rfl, hI4, hF4⟩
            have HI4 := Lib.hid hI4
            have HF4 := Lib.hid (HF.out.step hF4 (by simp; exact HG.out))
            have hw4 := HW2.out.keep hF4
            have d0 := (HWC.out w4 hw4).1
            have HX4 := Lib.hid (show ∀ A c', (A = some (a8.add 1) ∨ m = 0) → m ≤ c' → Pl w w4 g b room (.slice A m c') q from fun A c' hA hc' => ⟨HI4.out, HF4.out, HG.out.1, HG.out.2, by have := Wn.tail (by rw [← HM.out]; exact hw4) c' A (by rw [← HM.out]; exact hA) (by rw [← HM.out]; exact hc'); rw [← HM.out] at this; exact this⟩)
            have hcap : m + 1 ≤ c8 := by
              obtain ⟨A, c, h1, h2, _⟩ := hw4
              simp only [Value.slice.injEq] at h1
              rw [List.length_cons, ← HM.out] at h2
              omega
            clear hF4 hI4 hw4 HI HF HW2 e1 e2
            by_cases hc1 : c8 = 1
            · subst hc1
              obtain rfl : m = 0 := by omega
              go_wp2_with fail
              refine (len_int g b room _ _ HI4.out).mono ?_
              rw [HLM.out]
              rintro e w5 ⟨rfl, rfl⟩
              go_wp2_with fail
              go_roundw
              case rel => exact ⟨k + 1, q, by omega, by rw [← HM.out]; omega, by go_num, HX4.out _ _ (by simp) (Nat.zero_le _)⟩
              case measure => simp [intOf]; omega
            · go_wp2_with fail
              refine (len_int g b room _ _ HI4.out).mono ?_
              rw [HLM.out]
              rintro e w5 ⟨rfl, rfl⟩
              go_wp2_with fail
              go_roundw
              case rel => exact ⟨k + 1, q, by omega, by rw [← HM.out]; omega, by go_num, HX4.out _ _ (.inl rfl) (by omega)⟩
              case measure => simp [intOf]; omega
        · obtain rfl : p = 3 := by omega
          rcases q with _ | ⟨x, q⟩
          · have hn0 : n = 0 := HQ.out
            subst hn0
            clear HLQ HQ
            go_wp2_with fail
            refine (pick_any a HA.out wr).mono ?_
            rw [← HP.out]
            rintro e w3 ⟨rfl, rfl⟩
            go_wp2_with fail
            refine (front_int_none g b room wr HI.out).mono ?_
            rintro e w4 ⟨rfl, rfl⟩
            go_wp2_with fail
            refine (len_int g b room _ _ HI.out).mono ?_
            rintro e w5 ⟨rfl, rfl⟩
            go_wp2_with fail
            go_roundw
            case rel => exact ⟨k + 1, [], by omega, Nat.zero_le _, by go_num, HI.out, HF.out, HG.out.1, HG.out.2, HW.out⟩
            case measure => simp [intOf]; omega
          · obtain ⟨m, hm⟩ : ∃ m, m = q.length := ⟨_, rfl⟩
            have hn1 : n = m + 1 := by rw [HQ.out, hm]; rfl
            subst hn1
            have HM := Lib.hid hm
            have HLM := Lib.hid (show (q.map (Value.int .i64)).length = m by rw [List.length_map, hm])
            have HLM1 := Lib.hid (show ((x :: q).map (Value.int .i64)).length = m + 1 by rw [List.length_map, List.length_cons, hm])
            obtain ⟨a8, hA8⟩ : ∃ a8, A8 = some a8 := by
              obtain ⟨A, c, h1, _, h2⟩ := HW.out
              obtain ⟨ad', e, _⟩ := h2 (by simp)
              subst e
              simp only [Value.slice.injEq] at h1
              exact ⟨_, h1.1⟩
            subst hA8
            have HW2 := Lib.hid (show Wn wr g b (.slice (some a8) (m + 1) c8) (x :: q) by have h := HW.out; rw [List.length_cons, ← hm] at h; exact h)
            clear HW
            have HWC := Lib.hid (show ∀ W, Wn W g b (.slice (some a8) (m + 1) c8) (x :: q) → W.cell? a8 = some (.int .i64 x) ∧ True from fun W hW => by
              obtain ⟨A, c, h1, _, h2⟩ := hW
              obtain ⟨ad', e, _, _, hc⟩ := h2 (by simp)
              subst e
              simp only [Value.slice.injEq, Option.some.injEq] at h1
              obtain ⟨rfl, _, _⟩ := h1
              exact ⟨hc 0 (by simp), trivial⟩)
            clear HLQ HQ hm
            go_wp2_with fail
            refine (pick_any a HA.out wr).mono ?_
            rw [← HP.out]
            rintro e w3 ⟨rfl, rfl⟩
            go_wp2_with fail
            refine (front_int_some g b room x (q.map (Value.int .i64)) wr HI.out).mono ?_
            rintro e w4 ⟨rfl, hd⟩
            have HF4 := Lib.hid (HF.out.trans (Fr.of_drawn hd))
            have hw4 := HW2.out.keep ((Fr.of_drawn hd).only (by simp))
            have HI4 := Lib.hid (HI.out.keep (Fr.of_drawn hd) (by simp) (by simp))
            have d0 := (HWC.out w4 hw4).1
            have HX4 := Lib.hid (show Pl w w4 g b room (.slice (some a8) (m + 1) c8) (x :: q) from ⟨HI4.out, HF4.out, HG.out.1, HG.out.2, hw4⟩)
            clear hd hw4 HI HF HW2 e1 e2
            go_wp2_with fail
            refine (len_int g b room _ _ HI4.out).mono ?_
            rw [HLM1.out]
            rintro e w5 ⟨rfl, rfl⟩
            go_wp2_with fail
            go_roundw
            case rel => exact ⟨k + 1, x :: q, by omega, by rw [List.length_cons, ← HM.out]; omega, by go_num, HX4.out⟩
            case measure => simp [intOf]; omega
    · have HF5 := Lib.hid HX.out.2.1.below0
      go_wp2_with fail
      go_ret
      exact ⟨rfl, HF5.out⟩

theorem plays_any (A1 : Option Addr) (c1 : Nat) (room : Int) (d : List (Int × Int)) (hd : ∀ x ∈ d, (-9223372036854775808 ≤ x.1 ∧ x.1 ≤ 9223372036854775807)) (w : World) (hr : Kd.C Deeds.II w A1 d.length d) :
    Calls Try.prog 5 #[.int .i64 room, .slice A1 d.length c1] w fun e w' => e = .returned (.bool true) ∧ Below w.heap.size w w' := by
  by_cases h : 1 ≤ room ∧ room ≤ 1000
  · obtain ⟨k, rfl⟩ : ∃ k : Nat, room = k := ⟨room.toNat, by omega⟩
    by_cases hl : d.length ≤ 300
    · exact plays_some A1 c1 d hd k w (by omega) hl (Deeds.C_ii hr)
    · exact plays_long A1 c1 d.length k w (by omega) (by omega) hr.2.1
  · exact plays_bad A1 c1 d.length room w h
end Go.Proofs.Ytjkaldnhfenbhaa.Ring
