/- Walks of layer 18's reference: Come, the histogram. -/
import Derived.Test.YtjnjkgoofkgiiaaTallyW4
set_option linter.unusedVariables false
set_option linter.unusedSimpArgs false
namespace Go.Proofs.Ytjnjkgoofkgiiaa.Tally
open Go.RowKit Go.Proofs.YtjnjkgoofkgiiaaW.PrintWords Go.Proofs.YtjnjkgoofkgiiaaW.PrintLast

set_option maxRecDepth 100000 in
set_option maxHeartbeats 4000000 in
theorem come_first3 (key : ByteArray) (v : Int) (hv : I64 v) (w : World) :
    Calls Try.prog 40 #[RowV key ⟨3, 0, 0, 0, 0, false, []⟩ (.slice none 0 0), .int .i64 v] w (Ret key (beginR 3 v) w) := by
  have hlen : ([] : List Int).length ≤ 64 := by simp
  have HBD := Lib.hid (show ∀ x ∈ ([] : List Int), 0 ≤ x ∧ x ≤ 1000 by simp)
  have hbl := bl_le v hv
  obtain ⟨b, hbe⟩ : ∃ b, b = bl v := ⟨_, rfl⟩
  have HBE := Lib.hid hbe
  rw [← hbe] at hbl
  have HAE := Lib.hid (show beginR 3 v = ⟨3, 1, v, v, v, false, bump ([] : List Int) b⟩ by
    unfold beginR
    simp [hbe])
  have HV := Lib.hid hv
  have HEU := Lib.hid EU
  have HO := Lib.hid (show Ow w 0 (.slice none 0 0) ([] : List Int) from Ow.nil _ _)
  obtain ⟨Q, hQ⟩ : ∃ Q, Q = Ret key (beginR 3 v) w := ⟨_, rfl⟩
  have HQ := Lib.hid hQ
  rw [← hQ]
  clear hbe hv hQ
  show Calls Try.prog _ #[.agg #[.string key, .int .i64 3, .int .u64 0, .int .i64 0, .int .i64 0, .int .i64 0, .bool false, .slice none 0 0], .int .i64 v] w _
  go_enter Try.func40, Try.ntmps40
  have F3 := (((Fr.refl [] w).alloc (.cells #[.string key, .int .i64 3, .int .u64 0, .int .i64 0, .int .i64 0, .int .i64 0, .bool false, .slice none 0 0] 49)).alloc (.cells #[.string ⟨#[]⟩, .int .i64 0, .int .u64 0, .int .i64 0, .int .i64 0, .int .i64 0, .bool false, .slice none 0 0] 49)).alloc (.cells #[.string key, .int .i64 3, .int .u64 1, .int .i64 v, .int .i64 v, .int .i64 v, .bool false, .slice none 0 0] 49)
  have B0 := ((Blk.new w #[.string key, .int .i64 3, .int .u64 0, .int .i64 0, .int .i64 0, .int .i64 0, .bool false, .slice none 0 0] 49).alloc (.cells #[.string ⟨#[]⟩, .int .i64 0, .int .u64 0, .int .i64 0, .int .i64 0, .int .i64 0, .bool false, .slice none 0 0] 49)).alloc (.cells #[.string key, .int .i64 3, .int .u64 1, .int .i64 v, .int .i64 v, .int .i64 v, .bool false, .slice none 0 0] 49)
  have BZ := (Blk.new (w.alloc (.cells #[.string key, .int .i64 3, .int .u64 0, .int .i64 0, .int .i64 0, .int .i64 0, .bool false, .slice none 0 0] 49)) #[.string ⟨#[]⟩, .int .i64 0, .int .u64 0, .int .i64 0, .int .i64 0, .int .i64 0, .bool false, .slice none 0 0] 49).alloc (.cells #[.string key, .int .i64 3, .int .u64 1, .int .i64 v, .int .i64 v, .int .i64 v, .bool false, .slice none 0 0] 49)
  have BA := Blk.new ((w.alloc (.cells #[.string key, .int .i64 3, .int .u64 0, .int .i64 0, .int .i64 0, .int .i64 0, .bool false, .slice none 0 0] 49)).alloc (.cells #[.string ⟨#[]⟩, .int .i64 0, .int .u64 0, .int .i64 0, .int .i64 0, .int .i64 0, .bool false, .slice none 0 0] 49)) #[.string key, .int .i64 3, .int .u64 1, .int .i64 v, .int .i64 v, .int .i64 v, .bool false, .slice none 0 0] 49
  simp only [size_alloc] at BZ BA
  have HF := Lib.hid F3
  have HB0 := Lib.hid B0
  have HBZ := Lib.hid BZ
  have HBA := Lib.hid BA
  clear F3 B0 BZ BA
  have F := HF.out
  have BA := HBA.out
  have BZ := HBZ.out
  have B0 := HB0.out
  have HF6 := Lib.hid F
  have HBA6 := Lib.hid BA
  have HBZ6 := Lib.hid BZ
  have HB06 := Lib.hid B0
  have HSRC := Lib.hid ((HO.out.keep0 F).src)
  clear F BA BZ B0
  have hsz := HBA6.out.lt
  go_wp2_with (
    at_builtin
    refine wpList_app (by rfl) _ _ _ (by rfl) (w.heap.size + 1 + 1 + 1) 46 1 8 HEU.out (.slice none 0 0) 0 [] (by rfl) (Ow.nil _ _) (.slice none 0 0) 0 (([] : List Int).map (Value.int .u64)) (by rfl) HSRC.out (by omega) (by omega) (by omega) ?_
    intro v6 w6 ho6 hg6 hat6
    have HO6 := Lib.hid (show Ow w6 (w.heap.size + 1 + 1 + 1) v6 ([] : List Int) by exact ho6)
    have hF6 := Fr.of_grown (S := []) hg6 (fun k hk => by have h2 : (none : Option Nat) = some k := hk; cases h2)
    have BA7 := HBA6.out.keep hF6 (by simp)
    have BZ7 := HBZ6.out.keep hF6 (by simp)
    have HF7 := Lib.hid (HF6.out.trans hF6)
    have B07 := HB06.out.keep hF6 (by simp)
    clear ho6 hg6 hat6 hF6 HF6 HBA6 HBZ6 HB06
    obtain ⟨A6, n6, c6, rfl⟩ := HO6.out.slice
    have HBA7 := Lib.hid BA7
    have HBZ7 := Lib.hid BZ7
    have HB07 := Lib.hid B07
    clear BA7 BZ7 B07
    obtain ⟨x0, x1, x2, x3, x4, x5, x6, x7, y0, y1, y2, y3, y4, y5, y6, y7⟩ := blk8 HBA7.out
    obtain ⟨q0, q1, q2, q3, q4, q5, q6, q7, p0, p1, p2, p3, p4, p5, p6, p7⟩ := blk8 HBZ7.out
    obtain ⟨z0, z1, z2, z3, z4, z5, z6, z7, t0, t1, t2, t3, t4, t5, t6, t7⟩ := blk8 HB07.out)
  refine (PTallyFolds.nogginref18_Bucket.calls 100 v (bl v) _ (ref_bucket v HV.out)).mono ?_
  rw [← HBE.out]
  rintro e w8 ⟨rfl, hd⟩
  have F := (HF7.out.set (b := w.heap.size + 1 + 1) (.inr (by omega)) 7 (.slice A6 n6 c6)).trans (Fr.of_drawn hd)
  have BA := (HBA7.out.put (cs' := #[.string key, .int .i64 3, .int .u64 1, .int .i64 v, .int .i64 v, .int .i64 v, .bool false, .slice A6 n6 c6]) 7 (.slice A6 n6 c6) rfl).keep (Fr.of_drawn hd) (by simp)
  have BZ := (HBZ7.out.far (b := w.heap.size + 1 + 1) (by omega) 7 (.slice A6 n6 c6)).keep (Fr.of_drawn hd) (by simp)
  have O8 := (HO6.out.keep (S := [w.heap.size + 1 + 1]) ((Fr.refl _ w6).set (b := w.heap.size + 1 + 1) (.inl (by simp)) 7 (.slice A6 n6 c6)) (fun x hx h => by have h1 := (HO6.out.lt x h).1; simp at hx; omega)).keep0 (Fr.of_drawn hd)
  have HBA8 := Lib.hid BA
  have HBZ8 := Lib.hid BZ
  have HO8 := Lib.hid O8
  have HF8 := Lib.hid F
  clear hd F BA BZ O8 HF7 HBA7 HBZ7 HO6 HB07 x0 x1 x2 x3 x4 x5 x6 x7 y0 y1 y2 y3 y4 y5 y6 y7 z0 z1 z2 z3 z4 z5 z6 z7 t0 t1 t2 t3 t4 t5 t6 t7 q0 q1 q2 q3 q4 q5 q6 q7 p0 p1 p2 p3 p4 p5 p6 p7
  have HLB := Lib.hid (show ([] : List Int).length ≤ 64 by simp)
  go_wp2_with fail
  go_loopw [78] (fun _ wr => ∃ j A q c, q = ([] : List Int).length + j ∧ ([] : List Int).length + j ≤ max ([] : List Int).length (b + 1) ∧ Blk wr (w.heap.size + 1 + 1) #[.string key, .int .i64 3, .int .u64 1, .int .i64 v, .int .i64 v, .int .i64 v, .bool false, .slice A q c] 49 ∧ Blk wr (w.heap.size + 1) #[.string ⟨#[]⟩, .int .i64 0, .int .u64 0, .int .i64 0, .int .i64 0, .int .i64 0, .bool false, .slice none 0 0] 49 ∧ Ow wr (w.heap.size + 1 + 1 + 1) (.slice A q c) (([] : List Int) ++ List.replicate j 0) ∧ Fr [] w wr) (fun _ wr => b + 1 - lenV ((wr.cell? ⟨w.heap.size + 1 + 1, 7, none⟩).getD undef))
  case atStart => exact ⟨0, A6, n6, c6, by rw [HO8.out.len]; rfl, by omega, HBA8.out, HBZ8.out, by simpa using HO8.out, HF8.out⟩
  case round =>
    obtain ⟨j, A2, q, c2, hm, hj, hB, hZ, hO, hF⟩ := hrel
    clear HBA8 HBZ8 HO8 HF8
    have HB := Lib.hid hB
    have HZ := Lib.hid hZ
    have HO := Lib.hid hO
    have HF := Lib.hid hF
    have HM := Lib.hid hm
    have hml : (([] : List Int) ++ List.replicate j (0 : Int)).length = q := by rw [List.length_append, List.length_replicate]; exact hm.symm
    have HML := Lib.hid hml
    have hmb : q ≤ 200 := by have := HLB.out; have := HM.out; omega
    clear hB hZ hO hF hm hml
    by_cases hlt : q ≤ b
    · have e7 : wr.cell? ⟨w.heap.size + 1 + 1, 7, none⟩ = some (.slice A2 q c2) := HB.out.cell 7
      have HA := Lib.hid (HO.out.alloc (.cells #[.int .u64 0] 46))
      have HS := Lib.hid (src_one wr (.int .u64 0) 46 rfl)
      have hsz := HB.out.lt
      go_wp2_with (
        at_builtin
        refine wpList_app (by rfl) _ _ _ (by rfl) (w.heap.size + 1 + 1 + 1) 46 1 8 HEU.out (.slice A2 q c2) q ((([] : List Int) ++ List.replicate j (0 : Int)).map (Value.int .u64)) (by rfl) (by have h := HA.out; unfold Ow at h; rw [HML.out] at h; exact h) (.slice (some ⟨wr.heap.size, 0, none⟩) 1 1) 1 [.int .u64 0] (by rfl) HS.out (by omega) (by omega) (by rw [size_alloc]; omega) ?_
        intro v3 w3 ho3 hg3 hat3
        have HO3 := Lib.hid (show Ow w3 (w.heap.size + 1 + 1 + 1) v3 (([] : List Int) ++ List.replicate (j + 1) 0) by
          unfold Ow
          rw [List.replicate_succ', ← List.append_assoc, List.length_append, List.map_append, HML.out]
          exact ho3)
        have hgr := Fr.of_grown (S := (Value.slice A2 q c2).ownBlock.toList) hg3 (fun k hk => .inl (by rw [hk]; simp))
        have hnot : ∀ x ∈ (Value.slice A2 q c2).ownBlock.toList, w.heap.size + 1 + 1 + 1 ≤ x := fun x hx => (HA.out.lt x (by simpa using hx)).1
        have HF3 := Lib.hid ((HF.out.alloc _).step hgr (fun x hx => .inr (by have := hnot x hx; omega)))
        have HB3 := Lib.hid ((HB.out.alloc _).keep hgr (fun hx => by have := hnot _ hx; omega))
        have HZ3 := Lib.hid ((HZ.out.alloc _).keep hgr (fun hx => by have := hnot _ hx; omega))
        have hl3 := HO3.out.form
        obtain ⟨A3, c3, rfl⟩ : ∃ A3 c3, v3 = .slice A3 (q + 1) c3 := by
          rcases hl3 with ⟨_, h2⟩ | ⟨g, cap, h3, _⟩
          · have h4 := congrArg List.length h2
            simp at h4
          · exact ⟨_, _, by rw [h3, List.replicate_succ', ← List.append_assoc, List.length_append, HML.out]; rfl⟩
        clear ho3 hg3 hat3 hgr hnot hl3 e7 HA HS
        have f7 := HB3.out.frozen 7
        have e73 := HB3.out.cell 7)
      have HB4 := Lib.hid (HB3.out.put (cs' := #[.string key, .int .i64 3, .int .u64 1, .int .i64 v, .int .i64 v, .int .i64 v, .bool false, .slice A3 (q + 1) c3]) 7 (.slice A3 (q + 1) c3) rfl)
      go_roundw
      case rel => exact ⟨j + 1, A3, q + 1, c3, by have := HM.out; omega, by have := HM.out; omega, HB4.out, HZ3.out.far (b := w.heap.size + 1 + 1) (by omega) 7 _, HO3.out.keep (S := [w.heap.size + 1 + 1]) ((Fr.refl _ w3).set (b := w.heap.size + 1 + 1) (.inl (by simp)) 7 _) (fun x hx h => by have h1 := (HO3.out.lt x h).1; simp at hx; omega), HF3.out.set (b := w.heap.size + 1 + 1) (.inr (by omega)) 7 _⟩
      case measure =>
        rw [HB4.out.cell 7, HB.out.cell 7]
        simp [lenV]
        omega
    · have hmx : ([] : List Int).length + j = max ([] : List Int).length (b + 1) := by have := HM.out; omega
      have HE := Lib.hid (show ([] : List Int) ++ List.replicate j (0 : Int) = ext ([] : List Int) b by
        unfold ext
        congr 2
        omega)
      rw [HE.out] at HO HML
      have HBX := Lib.hid (getD_bd (ext_bd (m := 1000) HBD.out (by decide) b) (by decide) b)
      obtain ⟨x, hx⟩ : ∃ x, x = (ext ([] : List Int) b).getD b 0 := ⟨_, rfl⟩
      have HXX := Lib.hid (show (ext ([] : List Int) b).set b (x + 1) = bump ([] : List Int) b by unfold bump; rw [hx])
      rw [← hx] at HBX
      obtain ⟨u0, u1⟩ := HBX.out
      have HCX := Lib.hid (rcount_f x ⟨u0, by omega⟩)
      have hlt2 : b < q := by omega
      rcases HO.out.form with ⟨_, h2⟩ | ⟨gb, cap, h3, hg0, _, hcap, hcell⟩
      · rw [h2] at HML
        have := HML.out
        simp at this
        omega
      · rw [HML.out] at h3 hcap
        simp only [Value.slice.injEq, true_and] at h3
        obtain ⟨rfl, rfl⟩ := h3
        have h4 := hcell b (by rw [HML.out]; exact hlt2)
        rw [← hx] at h4
        obtain ⟨e2, f2⟩ := h4
        have e1 : wr.cell? ⟨w.heap.size + 1 + 1, 7, none⟩ = some (.slice (some ⟨gb, 0, none⟩) q c2) := HB.out.cell 7
        have HST := Lib.hid (show ∀ N, Ow ((wr.drewN N).setCell ⟨gb, b, none⟩ (.int .u64 (x + 1))) (w.heap.size + 1 + 1 + 1) (.slice (some ⟨gb, 0, none⟩) q c2) (bump ([] : List Int) b) from fun N => by
          rw [← HXX.out]
          have h := HO.out
          rw [← HML.out] at h ⊢
          exact Ow.store (w := wr.drewN N) h b (x + 1) (by rw [HML.out]; exact hlt2))
        clear hcell hx hlt hmx HO HBX
        have hg1 : gb ≠ w.heap.size + 1 + 1 := by omega
        have hg2 : gb ≠ w.heap.size + 1 := by omega
        go_wp2_with fail
        refine start_ (n := 14) (S := fun w' => w'.cell? ⟨w.heap.size + 1 + 1, 7, none⟩ = some (.slice (some ⟨gb, 0, none⟩) q c2) ∧ w'.cell? ⟨gb, b, none⟩ = some (.int .u64 x)) (ds := [13]) #[false, false, false, false, false, false, false, false, false, false, false, false, false, false] (by kernel_rfl) rfl rfl ⟨e1, e2⟩ (fun hHeld => ?_)
        refine pure_ (i := 0) (N := some 89) (v := ?_) (a' := ?_) #[true, false, false, false, false, false, false, false, false, false, false, false, false, false] rfl rfl (by kernel_rfl) (fun _ _ _ h => h) (Or.inl ⟨by rfl, ?_⟩) ?_ ?_
        rotate_left
        · intro w'
          go_simp
          with_reducible rfl
        rotate_left
        · simp only [Act.put, List.setIfInBounds_toArray, List.set_cons_zero, List.set_cons_succ, i64_w, i32_w]
          rfl
        refine pure_ (i := 2) (N := some 91) (v := ?_) (a' := ?_) #[true, false, true, false, false, false, false, false, false, false, false, false, false, false] rfl rfl (by kernel_rfl) (fun _ _ _ h => h) (Or.inl ⟨by rfl, ?_⟩) ?_ ?_
        rotate_left
        · intro w'
          go_simp
          with_reducible rfl
        rotate_left
        · simp only [Act.put, List.setIfInBounds_toArray, List.set_cons_zero, List.set_cons_succ, i64_w, i32_w]
          rfl
        refine pure_ (i := 3) (N := some 92) (v := ?_) (a' := ?_) #[true, false, true, true, false, false, false, false, false, false, false, false, false, false] rfl rfl (by kernel_rfl) (fun _ _ _ h => h) (Or.inl ⟨by rfl, ?_⟩) ?_ ?_
        rotate_left
        · intro w'
          go_simp
          with_reducible rfl
        rotate_left
        · simp only [Act.put, List.setIfInBounds_toArray, List.set_cons_zero, List.set_cons_succ, i64_w, i32_w]
          rfl
        refine pure_ (i := 5) (N := some 94) (v := ?_) (a' := ?_) #[true, false, true, true, false, true, false, false, false, false, false, false, false, false] rfl rfl (by kernel_rfl) (fun _ _ _ h => h) (Or.inl ⟨by rfl, ?_⟩) ?_ ?_
        rotate_left
        · intro w'
          go_simp
          with_reducible rfl
        rotate_left
        · simp only [Act.put, List.setIfInBounds_toArray, List.set_cons_zero, List.set_cons_succ, i64_w, i32_w]
          rfl
        refine take_ (i := 1) (N := some 90) (v := ?_) (a' := ?_) #[true, true, true, true, false, true, false, false, false, false, false, false, false, false] rfl rfl (by kernel_rfl) (fun _ _ _ h => h) (Or.inl ⟨by rfl, ?_⟩) hHeld ?_ ?_
        rotate_left
        · rintro w' ⟨s0, s1⟩
          go_simp
          with_reducible rfl
        rotate_left
        · simp only [Act.put, List.setIfInBounds_toArray, List.set_cons_zero, List.set_cons_succ, i64_w, i32_w]
          rfl
        refine take_ (i := 4) (N := some 93) (v := ?_) (a' := ?_) #[true, true, true, true, true, true, false, false, false, false, false, false, false, false] rfl rfl (by kernel_rfl) (fun _ _ _ h => h) (Or.inl ⟨by rfl, ?_⟩) hHeld ?_ ?_
        rotate_left
        · rintro w' ⟨s0, s1⟩
          go_simp
          with_reducible rfl
        rotate_left
        · simp only [Act.put, List.setIfInBounds_toArray, List.set_cons_zero, List.set_cons_succ, i64_w, i32_w]
          rfl
        refine pure_ (i := 6) (N := some 95) (v := ?_) (a' := ?_) #[true, true, true, true, true, true, true, false, false, false, false, false, false, false] rfl rfl (by kernel_rfl) (fun _ _ _ h => h) (Or.inl ⟨by rfl, ?_⟩) ?_ ?_
        rotate_left
        · intro w'
          go_simp
          with_reducible rfl
        rotate_left
        · simp only [Act.put, List.setIfInBounds_toArray, List.set_cons_zero, List.set_cons_succ, i64_w, i32_w]
          rfl
        refine take_ (i := 7) (N := some 96) (v := ?_) (a' := ?_) #[true, true, true, true, true, true, true, true, false, false, false, false, false, false] rfl rfl (by kernel_rfl) (fun _ _ _ h => h) (Or.inl ⟨by rfl, ?_⟩) hHeld ?_ ?_
        rotate_left
        · rintro w' ⟨s0, s1⟩
          go_simp
          with_reducible rfl
        rotate_left
        · simp only [Act.put, List.setIfInBounds_toArray, List.set_cons_zero, List.set_cons_succ, i64_w, i32_w]
          rfl
        refine one_ (i := 8) (N := some 97) #[true, true, true, true, true, true, true, true, true, false, false, false, false, false] rfl rfl (by kernel_rfl) (by decide) (fun K hK => ?_)
        refine goes_ Try.func60 (by kernel_rfl) rfl #[.int .u64 x, .int .u64 1] (by rfl) rfl rfl (by simp only [List.map_toArray, List.map_cons, List.map_nil]; rfl) ?_
        with_reducible refine (PTallyFolds.nogginref01_Count.calls x 1 (x + 1) false _ HCX.out).mono ?_
        rintro e w9 ⟨rfl, hd⟩
        refine ⟨_, rfl, ?_⟩
        obtain ⟨N, rfl⟩ := hd.out
        clear hd
        refine hK.out _ _ ⟨e1, e2⟩ (fun hHeld => ?_)
        clear hK K
        refine norm_ (a' := ?_) ?_ ?_
        rotate_left
        · show Act.put _ (some 97) _ = _
          simp only [Act.put, List.setIfInBounds_toArray, List.set_cons_zero, List.set_cons_succ, i64_w, i32_w]
          rfl
        refine pure_ (i := 9) (N := some 88) (v := ?_) (a' := ?_) #[true, true, true, true, true, true, true, true, true, true, false, false, false, false] rfl rfl (by kernel_rfl) (fun _ _ _ h => h) (Or.inl ⟨by rfl, ?_⟩) ?_ ?_
        rotate_left
        · intro w'
          go_simp
          with_reducible rfl
        rotate_left
        · simp only [Act.put, List.setIfInBounds_toArray, List.set_cons_zero, List.set_cons_succ, i64_w, i32_w]
          rfl
        refine pure_ (i := 10) (N := some 98) (v := ?_) (a' := ?_) #[true, true, true, true, true, true, true, true, true, true, true, false, false, false] rfl rfl (by kernel_rfl) (fun _ _ _ h => h) (Or.inl ⟨by rfl, ?_⟩) ?_ ?_
        rotate_left
        · intro w'
          go_simp
          with_reducible rfl
        rotate_left
        · simp only [Act.put, List.setIfInBounds_toArray, List.set_cons_zero, List.set_cons_succ, i64_w, i32_w]
          rfl
        refine pure_ (i := 11) (N := some 99) (v := ?_) (a' := ?_) #[true, true, true, true, true, true, true, true, true, true, true, true, false, false] rfl rfl (by kernel_rfl) (fun _ _ _ h => h) (Or.inl ⟨by rfl, ?_⟩) ?_ ?_
        rotate_left
        · intro w'
          go_simp
          with_reducible rfl
        rotate_left
        · simp only [Act.put, List.setIfInBounds_toArray, List.set_cons_zero, List.set_cons_succ, i64_w, i32_w]
          rfl
        refine pure_ (i := 12) (N := some 100) (v := ?_) (a' := ?_) #[true, true, true, true, true, true, true, true, true, true, true, true, true, false] rfl rfl (by kernel_rfl) (fun _ _ _ h => h) (Or.inl ⟨by rfl, ?_⟩) ?_ ?_
        rotate_left
        · intro w'
          go_simp
          with_reducible rfl
        rotate_left
        · simp only [Act.put, List.setIfInBounds_toArray, List.set_cons_zero, List.set_cons_succ, i64_w, i32_w]
          rfl
        refine last_ (i := 13) (N := none) #[true, true, true, true, true, true, true, true, true, true, true, true, true, true] rfl rfl (by kernel_rfl) (by decide) (fun K hK => ?_)
        refine skip_ (w1 := ?_) (by rfl) rfl ?_ ?_
        rotate_left
        · go_simp
          rfl
        refine hK.out _ _ ?_
        clear hK K
        refine done_ (by kernel_rfl) ?_
        have HB9 := Lib.hid ((HB.out.drewN (1 + N)).far (b := gb) hg1.symm b (.int .u64 (x + 1)))
        have HZ9 := Lib.hid ((HZ.out.drewN (1 + N)).far (b := gb) hg2.symm b (.int .u64 (x + 1)))
        have HF9 := Lib.hid ((HF.out.drewN (1 + N)).set (b := gb) (.inr (by omega)) b (.int .u64 (x + 1)))
        have HO9 := Lib.hid (HST.out (1 + N))
        clear HST HB HZ HF e1 e2 f2
        generalize (wr.drewN (1 + N)).setCell ⟨gb, b, none⟩ (.int .u64 (x + 1)) = w9 at HB9 HZ9 HF9 HO9 ⊢
        obtain ⟨x0, x1, x2, x3, x4, x5, x6, x7, y0, y1, y2, y3, y4, y5, y6, y7⟩ := blk8 HB9.out
        obtain ⟨q0, q1, q2, q3, q4, q5, q6, q7, p0, p1, p2, p3, p4, p5, p6, p7⟩ := blk8 HZ9.out
        go_wp2_with fail
        refine ret_row (g := w.heap.size + 1) (cs := #[.string key, .int .i64 3, .int .u64 1, .int .i64 v, .int .i64 v, .int .i64 v, .bool false, .slice (some ⟨gb, 0, none⟩) q c2]) (Blk.fill8 HZ9.out rfl _ _ _ _ _ _ _ _) rfl rfl rfl ?_
        rw [HQ.out, HAE.out]
        refine ⟨.slice (some ⟨gb, 0, none⟩) q c2, rfl, ?_, ?_⟩
        · exact Ow.base (b := w.heap.size + 1 + 1 + 1) (HO9.out.keep (S := [w.heap.size + 1]) (Fr.fill8 (g := w.heap.size + 1) (Fr.refl _ w9) (.inl (by simp)) _ _ _ _ _ _ _ _) (fun x hx h => by have h1 := (HO9.out.lt x h).1; simp at hx; omega)) (by omega)
        · exact Fr.fill8 (g := w.heap.size + 1) HF9.out (.inr (by omega)) _ _ _ _ _ _ _ _

set_option maxRecDepth 100000 in
set_option maxHeartbeats 4000000 in
theorem come_histof (key : ByteArray) (m s le mo : Int) (bs : List Int) (k base : Nat) (A : Option Addr) (c : Nat) (v : Int) (hv : I64 v) (hk : 1 ≤ k ∧ k ≤ 1000) (ho : Ok k ⟨3, m, s, le, mo, false, bs⟩) (hlt : le ≤ v) (hgt : v ≤ mo) (w : World) (hO : Ow w base (.slice A bs.length c) bs) :
    Calls Try.prog 40 #[RowV key ⟨3, m, s, le, mo, false, bs⟩ (.slice A bs.length c), .int .i64 v] w (Ret key (addR ⟨3, m, s, le, mo, false, bs⟩ v) w) := by
  have hm0 : m = (k : Int) := ho.many
  have HCF := Lib.hid (rcount_f m ⟨by omega, by omega⟩)
  have hlen : bs.length ≤ 64 := by have := ho.len; simpa using this
  have HBD := Lib.hid (show ∀ x ∈ bs, 0 ≤ x ∧ x ≤ 1000 from fun x hx => by have := ho.b x (by simpa using hx); omega)
  have hmp : decide ((0 : Int) < m) = true := by simp; omega
  have HAF := Lib.hid (radd_f s v ho.sum hv)
  obtain ⟨s2, hs2⟩ : ∃ s2, s2 = (sadd s v).1 := ⟨_, rfl⟩
  obtain ⟨o2, ho2⟩ : ∃ o2, o2 = (sadd s v).2 := ⟨_, rfl⟩
  rw [show sadd s v = (s2, o2) by rw [hs2, ho2]] at HAF
  have hcl : decide (v < le) = false := by simp; omega
  have hcg : decide (mo < v) = false := by simp; omega
  have hbl := bl_le v hv
  obtain ⟨b, hbe⟩ : ∃ b, b = bl v := ⟨_, rfl⟩
  have HBE := Lib.hid hbe
  rw [← hbe] at hbl
  have HAE := Lib.hid (show addR ⟨3, m, s, le, mo, false, bs⟩ v = ⟨3, (m + 1), s2, le, mo, o2, bump bs b⟩ by
    unfold addR
    have e1 : (if v < le then v else le) = le := by split <;> omega
    have e2 : (if mo < v then v else mo) = mo := by split <;> omega
    simp [e1, e2, hs2, ho2, hbe])
  have HV := Lib.hid hv
  have HEU := Lib.hid EU
  have HO := Lib.hid (show Ow w base (.slice A bs.length c) bs from hO)
  obtain ⟨n, hn⟩ : ∃ n, n = bs.length := ⟨_, rfl⟩
  have HN := Lib.hid hn
  rw [← hn] at HO hlen ⊢
  obtain ⟨Q, hQ⟩ : ∃ Q, Q = Ret key (addR ⟨3, m, s, le, mo, false, bs⟩ v) w := ⟨_, rfl⟩
  have HQ := Lib.hid hQ
  rw [← hQ]
  clear hm0 ho hO hlt hgt hs2 ho2 hbe hv hn hQ
  show Calls Try.prog _ #[.agg #[.string key, .int .i64 3, .int .u64 m, .int .i64 s, .int .i64 le, .int .i64 mo, .bool false, .slice A n c], .int .i64 v] w _
  go_enter Try.func40, Try.ntmps40
  have F3 := (((Fr.refl [] w).alloc (.cells #[.string key, .int .i64 3, .int .u64 m, .int .i64 s, .int .i64 le, .int .i64 mo, .bool false, .slice A n c] 49)).alloc (.cells #[.string ⟨#[]⟩, .int .i64 0, .int .u64 0, .int .i64 0, .int .i64 0, .int .i64 0, .bool false, .slice none 0 0] 49)).alloc (.cells #[.string key, .int .i64 3, .int .u64 1, .int .i64 v, .int .i64 v, .int .i64 v, .bool false, .slice none 0 0] 49)
  have B0 := ((Blk.new w #[.string key, .int .i64 3, .int .u64 m, .int .i64 s, .int .i64 le, .int .i64 mo, .bool false, .slice A n c] 49).alloc (.cells #[.string ⟨#[]⟩, .int .i64 0, .int .u64 0, .int .i64 0, .int .i64 0, .int .i64 0, .bool false, .slice none 0 0] 49)).alloc (.cells #[.string key, .int .i64 3, .int .u64 1, .int .i64 v, .int .i64 v, .int .i64 v, .bool false, .slice none 0 0] 49)
  have BZ := (Blk.new (w.alloc (.cells #[.string key, .int .i64 3, .int .u64 m, .int .i64 s, .int .i64 le, .int .i64 mo, .bool false, .slice A n c] 49)) #[.string ⟨#[]⟩, .int .i64 0, .int .u64 0, .int .i64 0, .int .i64 0, .int .i64 0, .bool false, .slice none 0 0] 49).alloc (.cells #[.string key, .int .i64 3, .int .u64 1, .int .i64 v, .int .i64 v, .int .i64 v, .bool false, .slice none 0 0] 49)
  have BA := Blk.new ((w.alloc (.cells #[.string key, .int .i64 3, .int .u64 m, .int .i64 s, .int .i64 le, .int .i64 mo, .bool false, .slice A n c] 49)).alloc (.cells #[.string ⟨#[]⟩, .int .i64 0, .int .u64 0, .int .i64 0, .int .i64 0, .int .i64 0, .bool false, .slice none 0 0] 49)) #[.string key, .int .i64 3, .int .u64 1, .int .i64 v, .int .i64 v, .int .i64 v, .bool false, .slice none 0 0] 49
  simp only [size_alloc] at BZ BA
  have HF := Lib.hid F3
  have HB0 := Lib.hid B0
  have HBZ := Lib.hid BZ
  have HBA := Lib.hid BA
  clear F3 B0 BZ BA
  go_wp2_with fail
  refine (PTallyFolds.nogginref01_Count.calls m 1 (m + 1) false _ HCF.out).mono ?_
  rintro e w4 ⟨rfl, hd⟩
  have F := HF.out
  have BA := HBA.out
  have B0 := HB0.out
  have BZ := HBZ.out
  replace F := F.trans (Fr.of_drawn hd)
  replace BA := BA.keep (Fr.of_drawn hd) (by simp)
  replace B0 := B0.keep (Fr.of_drawn hd) (by simp)
  replace BZ := BZ.keep (Fr.of_drawn hd) (by simp)
  clear hd HF HB0 HBZ HBA
  have HF := Lib.hid F
  have HB0 := Lib.hid B0
  have HBZ := Lib.hid BZ
  have HBA := Lib.hid BA
  clear F BA B0 BZ
  obtain ⟨x0, x1, x2, x3, x4, x5, x6, x7, y0, y1, y2, y3, y4, y5, y6, y7⟩ := blk8 HBA.out
  obtain ⟨z0, z1, z2, z3, z4, z5, z6, z7, t0, t1, t2, t3, t4, t5, t6, t7⟩ := blk8 HB0.out
  go_wp2_with fail
  refine (PTallyFolds.nogginref01_Add.calls 3 s v s2 o2 _ HAF.out).mono ?_
  rintro e w5 ⟨rfl, hd⟩
  have F := HF.out
  have BA := HBA.out
  have B0 := HB0.out
  have BZ := HBZ.out
  replace F := F.set (b := w.heap.size + 1 + 1) (.inr (by omega)) 2 (.int .u64 (m + 1))
  replace BA := BA.put (cs' := #[.string key, .int .i64 3, .int .u64 (m + 1), .int .i64 v, .int .i64 v, .int .i64 v, .bool false, .slice none 0 0]) 2 (.int .u64 (m + 1)) rfl
  replace B0 := B0.far (b := w.heap.size + 1 + 1) (by omega) 2 (.int .u64 (m + 1))
  replace BZ := BZ.far (b := w.heap.size + 1 + 1) (by omega) 2 (.int .u64 (m + 1))
  replace F := F.set (b := w.heap.size + 1 + 1) (.inr (by omega)) 4 (.int .i64 le)
  replace BA := BA.put (cs' := #[.string key, .int .i64 3, .int .u64 (m + 1), .int .i64 v, .int .i64 le, .int .i64 v, .bool false, .slice none 0 0]) 4 (.int .i64 le) rfl
  replace B0 := B0.far (b := w.heap.size + 1 + 1) (by omega) 4 (.int .i64 le)
  replace BZ := BZ.far (b := w.heap.size + 1 + 1) (by omega) 4 (.int .i64 le)
  replace F := F.set (b := w.heap.size + 1 + 1) (.inr (by omega)) 5 (.int .i64 mo)
  replace BA := BA.put (cs' := #[.string key, .int .i64 3, .int .u64 (m + 1), .int .i64 v, .int .i64 le, .int .i64 mo, .bool false, .slice none 0 0]) 5 (.int .i64 mo) rfl
  replace B0 := B0.far (b := w.heap.size + 1 + 1) (by omega) 5 (.int .i64 mo)
  replace BZ := BZ.far (b := w.heap.size + 1 + 1) (by omega) 5 (.int .i64 mo)
  replace F := F.set (b := w.heap.size + 1 + 1) (.inr (by omega)) 6 (.bool false)
  replace BA := BA.put (cs' := #[.string key, .int .i64 3, .int .u64 (m + 1), .int .i64 v, .int .i64 le, .int .i64 mo, .bool false, .slice none 0 0]) 6 (.bool false) rfl
  replace B0 := B0.far (b := w.heap.size + 1 + 1) (by omega) 6 (.bool false)
  replace BZ := BZ.far (b := w.heap.size + 1 + 1) (by omega) 6 (.bool false)
  replace F := F.trans (Fr.of_drawn hd)
  replace BA := BA.keep (Fr.of_drawn hd) (by simp)
  replace B0 := B0.keep (Fr.of_drawn hd) (by simp)
  replace BZ := BZ.keep (Fr.of_drawn hd) (by simp)
  clear hd HF HB0 HBZ HBA x0 x1 x2 x3 x4 x5 x6 x7 y0 y1 y2 y3 y4 y5 y6 y7 z0 z1 z2 z3 z4 z5 z6 z7 t0 t1 t2 t3 t4 t5 t6 t7
  have HF := Lib.hid F
  have HB0 := Lib.hid B0
  have HBZ := Lib.hid BZ
  have HBA := Lib.hid BA
  clear F BA B0 BZ
  obtain ⟨x0, x1, x2, x3, x4, x5, x6, x7, y0, y1, y2, y3, y4, y5, y6, y7⟩ := blk8 HBA.out
  obtain ⟨z0, z1, z2, z3, z4, z5, z6, z7, t0, t1, t2, t3, t4, t5, t6, t7⟩ := blk8 HB0.out
  have F := HF.out
  have BA := HBA.out
  have BZ := HBZ.out
  have B0 := HB0.out
  replace F := F.set (b := w.heap.size + 1 + 1) (.inr (by omega)) 3 (.int .i64 s2)
  replace BA := BA.put (cs' := #[.string key, .int .i64 3, .int .u64 (m + 1), .int .i64 s2, .int .i64 le, .int .i64 mo, .bool false, .slice none 0 0]) 3 (.int .i64 s2) rfl
  replace BZ := BZ.far (b := w.heap.size + 1 + 1) (by omega) 3 (.int .i64 s2)
  replace B0 := B0.far (b := w.heap.size + 1 + 1) (by omega) 3 (.int .i64 s2)
  replace F := F.set (b := w.heap.size + 1 + 1) (.inr (by omega)) 6 (.bool o2)
  replace BA := BA.put (cs' := #[.string key, .int .i64 3, .int .u64 (m + 1), .int .i64 s2, .int .i64 le, .int .i64 mo, .bool o2, .slice none 0 0]) 6 (.bool o2) rfl
  replace BZ := BZ.far (b := w.heap.size + 1 + 1) (by omega) 6 (.bool o2)
  replace B0 := B0.far (b := w.heap.size + 1 + 1) (by omega) 6 (.bool o2)
  have HF6 := Lib.hid F
  have HBA6 := Lib.hid BA
  have HBZ6 := Lib.hid BZ
  have HB06 := Lib.hid B0
  have HSRC := Lib.hid ((HO.out.keep0 F).src)
  clear F BA BZ B0
  have hsz := HBA6.out.lt
  go_wp2_with (
    at_builtin
    refine wpList_app (by rfl) _ _ _ (by rfl) (w.heap.size + 1 + 1 + 1) 46 1 8 HEU.out (.slice none 0 0) 0 [] (by rfl) (Ow.nil _ _) (.slice A n c) n (bs.map (Value.int .u64)) (by rfl) (by have h := HSRC.out; rw [← HN.out] at h; exact h) (by omega) (by omega) (by omega) ?_
    intro v6 w6 ho6 hg6 hat6
    have HO6 := Lib.hid (show Ow w6 (w.heap.size + 1 + 1 + 1) v6 bs by unfold Ow; rw [← HN.out, ← Nat.zero_add n]; exact ho6)
    have hF6 := Fr.of_grown (S := []) hg6 (fun k hk => by have h2 : (none : Option Nat) = some k := hk; cases h2)
    have BA7 := HBA6.out.keep hF6 (by simp)
    have BZ7 := HBZ6.out.keep hF6 (by simp)
    have HF7 := Lib.hid (HF6.out.trans hF6)
    have B07 := HB06.out.keep hF6 (by simp)
    clear ho6 hg6 hat6 hF6 HF6 HBA6 HBZ6 HB06 x0 x1 x2 x3 x4 x5 x6 x7 y0 y1 y2 y3 y4 y5 y6 y7 z0 z1 z2 z3 z4 z5 z6 z7 t0 t1 t2 t3 t4 t5 t6 t7
    obtain ⟨A6, n6, c6, rfl⟩ := HO6.out.slice
    have HBA7 := Lib.hid BA7
    have HBZ7 := Lib.hid BZ7
    have HB07 := Lib.hid B07
    clear BA7 BZ7 B07
    obtain ⟨x0, x1, x2, x3, x4, x5, x6, x7, y0, y1, y2, y3, y4, y5, y6, y7⟩ := blk8 HBA7.out
    obtain ⟨q0, q1, q2, q3, q4, q5, q6, q7, p0, p1, p2, p3, p4, p5, p6, p7⟩ := blk8 HBZ7.out
    obtain ⟨z0, z1, z2, z3, z4, z5, z6, z7, t0, t1, t2, t3, t4, t5, t6, t7⟩ := blk8 HB07.out)
  refine (PTallyFolds.nogginref18_Bucket.calls 100 v (bl v) _ (ref_bucket v HV.out)).mono ?_
  rw [← HBE.out]
  rintro e w8 ⟨rfl, hd⟩
  have F := (HF7.out.set (b := w.heap.size + 1 + 1) (.inr (by omega)) 7 (.slice A6 n6 c6)).trans (Fr.of_drawn hd)
  have BA := (HBA7.out.put (cs' := #[.string key, .int .i64 3, .int .u64 (m + 1), .int .i64 s2, .int .i64 le, .int .i64 mo, .bool o2, .slice A6 n6 c6]) 7 (.slice A6 n6 c6) rfl).keep (Fr.of_drawn hd) (by simp)
  have BZ := (HBZ7.out.far (b := w.heap.size + 1 + 1) (by omega) 7 (.slice A6 n6 c6)).keep (Fr.of_drawn hd) (by simp)
  have O8 := (HO6.out.keep (S := [w.heap.size + 1 + 1]) ((Fr.refl _ w6).set (b := w.heap.size + 1 + 1) (.inl (by simp)) 7 (.slice A6 n6 c6)) (fun x hx h => by have h1 := (HO6.out.lt x h).1; simp at hx; omega)).keep0 (Fr.of_drawn hd)
  have HBA8 := Lib.hid BA
  have HBZ8 := Lib.hid BZ
  have HO8 := Lib.hid O8
  have HF8 := Lib.hid F
  clear hd F BA BZ O8 HF7 HBA7 HBZ7 HO6 HB07 x0 x1 x2 x3 x4 x5 x6 x7 y0 y1 y2 y3 y4 y5 y6 y7 z0 z1 z2 z3 z4 z5 z6 z7 t0 t1 t2 t3 t4 t5 t6 t7 q0 q1 q2 q3 q4 q5 q6 q7 p0 p1 p2 p3 p4 p5 p6 p7
  have HLB := Lib.hid (show bs.length ≤ 64 by have := HN.out; omega)
  go_wp2_with fail
  go_loopw [78] (fun _ wr => ∃ j A q c, q = bs.length + j ∧ bs.length + j ≤ max bs.length (b + 1) ∧ Blk wr (w.heap.size + 1 + 1) #[.string key, .int .i64 3, .int .u64 (m + 1), .int .i64 s2, .int .i64 le, .int .i64 mo, .bool o2, .slice A q c] 49 ∧ Blk wr (w.heap.size + 1) #[.string ⟨#[]⟩, .int .i64 0, .int .u64 0, .int .i64 0, .int .i64 0, .int .i64 0, .bool false, .slice none 0 0] 49 ∧ Ow wr (w.heap.size + 1 + 1 + 1) (.slice A q c) (bs ++ List.replicate j 0) ∧ Fr [] w wr) (fun _ wr => b + 1 - lenV ((wr.cell? ⟨w.heap.size + 1 + 1, 7, none⟩).getD undef))
  case atStart => exact ⟨0, A6, n6, c6, by rw [HO8.out.len]; rfl, by omega, HBA8.out, HBZ8.out, by simpa using HO8.out, HF8.out⟩
  case round =>
    obtain ⟨j, A2, q, c2, hm, hj, hB, hZ, hO, hF⟩ := hrel
    clear HBA8 HBZ8 HO8 HF8
    have HB := Lib.hid hB
    have HZ := Lib.hid hZ
    have HO := Lib.hid hO
    have HF := Lib.hid hF
    have HM := Lib.hid hm
    have hml : (bs ++ List.replicate j (0 : Int)).length = q := by rw [List.length_append, List.length_replicate]; exact hm.symm
    have HML := Lib.hid hml
    have hmb : q ≤ 200 := by have := HLB.out; have := HM.out; omega
    clear hB hZ hO hF hm hml
    by_cases hlt : q ≤ b
    · have e7 : wr.cell? ⟨w.heap.size + 1 + 1, 7, none⟩ = some (.slice A2 q c2) := HB.out.cell 7
      have HA := Lib.hid (HO.out.alloc (.cells #[.int .u64 0] 46))
      have HS := Lib.hid (src_one wr (.int .u64 0) 46 rfl)
      have hsz := HB.out.lt
      go_wp2_with (
        at_builtin
        refine wpList_app (by rfl) _ _ _ (by rfl) (w.heap.size + 1 + 1 + 1) 46 1 8 HEU.out (.slice A2 q c2) q ((bs ++ List.replicate j (0 : Int)).map (Value.int .u64)) (by rfl) (by have h := HA.out; unfold Ow at h; rw [HML.out] at h; exact h) (.slice (some ⟨wr.heap.size, 0, none⟩) 1 1) 1 [.int .u64 0] (by rfl) HS.out (by omega) (by omega) (by rw [size_alloc]; omega) ?_
        intro v3 w3 ho3 hg3 hat3
        have HO3 := Lib.hid (show Ow w3 (w.heap.size + 1 + 1 + 1) v3 (bs ++ List.replicate (j + 1) 0) by
          unfold Ow
          rw [List.replicate_succ', ← List.append_assoc, List.length_append, List.map_append, HML.out]
          exact ho3)
        have hgr := Fr.of_grown (S := (Value.slice A2 q c2).ownBlock.toList) hg3 (fun k hk => .inl (by rw [hk]; simp))
        have hnot : ∀ x ∈ (Value.slice A2 q c2).ownBlock.toList, w.heap.size + 1 + 1 + 1 ≤ x := fun x hx => (HA.out.lt x (by simpa using hx)).1
        have HF3 := Lib.hid ((HF.out.alloc _).step hgr (fun x hx => .inr (by have := hnot x hx; omega)))
        have HB3 := Lib.hid ((HB.out.alloc _).keep hgr (fun hx => by have := hnot _ hx; omega))
        have HZ3 := Lib.hid ((HZ.out.alloc _).keep hgr (fun hx => by have := hnot _ hx; omega))
        have hl3 := HO3.out.form
        obtain ⟨A3, c3, rfl⟩ : ∃ A3 c3, v3 = .slice A3 (q + 1) c3 := by
          rcases hl3 with ⟨_, h2⟩ | ⟨g, cap, h3, _⟩
          · have h4 := congrArg List.length h2
            simp at h4
          · exact ⟨_, _, by rw [h3, List.replicate_succ', ← List.append_assoc, List.length_append, HML.out]; rfl⟩
        clear ho3 hg3 hat3 hgr hnot hl3 e7 HA HS
        have f7 := HB3.out.frozen 7
        have e73 := HB3.out.cell 7)
      have HB4 := Lib.hid (HB3.out.put (cs' := #[.string key, .int .i64 3, .int .u64 (m + 1), .int .i64 s2, .int .i64 le, .int .i64 mo, .bool o2, .slice A3 (q + 1) c3]) 7 (.slice A3 (q + 1) c3) rfl)
      go_roundw
      case rel => exact ⟨j + 1, A3, q + 1, c3, by have := HM.out; omega, by have := HM.out; omega, HB4.out, HZ3.out.far (b := w.heap.size + 1 + 1) (by omega) 7 _, HO3.out.keep (S := [w.heap.size + 1 + 1]) ((Fr.refl _ w3).set (b := w.heap.size + 1 + 1) (.inl (by simp)) 7 _) (fun x hx h => by have h1 := (HO3.out.lt x h).1; simp at hx; omega), HF3.out.set (b := w.heap.size + 1 + 1) (.inr (by omega)) 7 _⟩
      case measure =>
        rw [HB4.out.cell 7, HB.out.cell 7]
        simp [lenV]
        omega
    · have hmx : bs.length + j = max bs.length (b + 1) := by have := HM.out; omega
      have HE := Lib.hid (show bs ++ List.replicate j (0 : Int) = ext bs b by
        unfold ext
        congr 2
        omega)
      rw [HE.out] at HO HML
      have HBX := Lib.hid (getD_bd (ext_bd (m := 1000) HBD.out (by decide) b) (by decide) b)
      obtain ⟨x, hx⟩ : ∃ x, x = (ext bs b).getD b 0 := ⟨_, rfl⟩
      have HXX := Lib.hid (show (ext bs b).set b (x + 1) = bump bs b by unfold bump; rw [hx])
      rw [← hx] at HBX
      obtain ⟨u0, u1⟩ := HBX.out
      have HCX := Lib.hid (rcount_f x ⟨u0, by omega⟩)
      have hlt2 : b < q := by omega
      rcases HO.out.form with ⟨_, h2⟩ | ⟨gb, cap, h3, hg0, _, hcap, hcell⟩
      · rw [h2] at HML
        have := HML.out
        simp at this
        omega
      · rw [HML.out] at h3 hcap
        simp only [Value.slice.injEq, true_and] at h3
        obtain ⟨rfl, rfl⟩ := h3
        have h4 := hcell b (by rw [HML.out]; exact hlt2)
        rw [← hx] at h4
        obtain ⟨e2, f2⟩ := h4
        have e1 : wr.cell? ⟨w.heap.size + 1 + 1, 7, none⟩ = some (.slice (some ⟨gb, 0, none⟩) q c2) := HB.out.cell 7
        have HST := Lib.hid (show ∀ N, Ow ((wr.drewN N).setCell ⟨gb, b, none⟩ (.int .u64 (x + 1))) (w.heap.size + 1 + 1 + 1) (.slice (some ⟨gb, 0, none⟩) q c2) (bump bs b) from fun N => by
          rw [← HXX.out]
          have h := HO.out
          rw [← HML.out] at h ⊢
          exact Ow.store (w := wr.drewN N) h b (x + 1) (by rw [HML.out]; exact hlt2))
        clear hcell hx hlt hmx HO HBX
        have hg1 : gb ≠ w.heap.size + 1 + 1 := by omega
        have hg2 : gb ≠ w.heap.size + 1 := by omega
        go_wp2_with fail
        refine start_ (n := 14) (S := fun w' => w'.cell? ⟨w.heap.size + 1 + 1, 7, none⟩ = some (.slice (some ⟨gb, 0, none⟩) q c2) ∧ w'.cell? ⟨gb, b, none⟩ = some (.int .u64 x)) (ds := [13]) #[false, false, false, false, false, false, false, false, false, false, false, false, false, false] (by kernel_rfl) rfl rfl ⟨e1, e2⟩ (fun hHeld => ?_)
        refine pure_ (i := 0) (N := some 89) (v := ?_) (a' := ?_) #[true, false, false, false, false, false, false, false, false, false, false, false, false, false] rfl rfl (by kernel_rfl) (fun _ _ _ h => h) (Or.inl ⟨by rfl, ?_⟩) ?_ ?_
        rotate_left
        · intro w'
          go_simp
          with_reducible rfl
        rotate_left
        · simp only [Act.put, List.setIfInBounds_toArray, List.set_cons_zero, List.set_cons_succ, i64_w, i32_w]
          rfl
        refine pure_ (i := 2) (N := some 91) (v := ?_) (a' := ?_) #[true, false, true, false, false, false, false, false, false, false, false, false, false, false] rfl rfl (by kernel_rfl) (fun _ _ _ h => h) (Or.inl ⟨by rfl, ?_⟩) ?_ ?_
        rotate_left
        · intro w'
          go_simp
          with_reducible rfl
        rotate_left
        · simp only [Act.put, List.setIfInBounds_toArray, List.set_cons_zero, List.set_cons_succ, i64_w, i32_w]
          rfl
        refine pure_ (i := 3) (N := some 92) (v := ?_) (a' := ?_) #[true, false, true, true, false, false, false, false, false, false, false, false, false, false] rfl rfl (by kernel_rfl) (fun _ _ _ h => h) (Or.inl ⟨by rfl, ?_⟩) ?_ ?_
        rotate_left
        · intro w'
          go_simp
          with_reducible rfl
        rotate_left
        · simp only [Act.put, List.setIfInBounds_toArray, List.set_cons_zero, List.set_cons_succ, i64_w, i32_w]
          rfl
        refine pure_ (i := 5) (N := some 94) (v := ?_) (a' := ?_) #[true, false, true, true, false, true, false, false, false, false, false, false, false, false] rfl rfl (by kernel_rfl) (fun _ _ _ h => h) (Or.inl ⟨by rfl, ?_⟩) ?_ ?_
        rotate_left
        · intro w'
          go_simp
          with_reducible rfl
        rotate_left
        · simp only [Act.put, List.setIfInBounds_toArray, List.set_cons_zero, List.set_cons_succ, i64_w, i32_w]
          rfl
        refine take_ (i := 1) (N := some 90) (v := ?_) (a' := ?_) #[true, true, true, true, false, true, false, false, false, false, false, false, false, false] rfl rfl (by kernel_rfl) (fun _ _ _ h => h) (Or.inl ⟨by rfl, ?_⟩) hHeld ?_ ?_
        rotate_left
        · rintro w' ⟨s0, s1⟩
          go_simp
          with_reducible rfl
        rotate_left
        · simp only [Act.put, List.setIfInBounds_toArray, List.set_cons_zero, List.set_cons_succ, i64_w, i32_w]
          rfl
        refine take_ (i := 4) (N := some 93) (v := ?_) (a' := ?_) #[true, true, true, true, true, true, false, false, false, false, false, false, false, false] rfl rfl (by kernel_rfl) (fun _ _ _ h => h) (Or.inl ⟨by rfl, ?_⟩) hHeld ?_ ?_
        rotate_left
        · rintro w' ⟨s0, s1⟩
          go_simp
          with_reducible rfl
        rotate_left
        · simp only [Act.put, List.setIfInBounds_toArray, List.set_cons_zero, List.set_cons_succ, i64_w, i32_w]
          rfl
        refine pure_ (i := 6) (N := some 95) (v := ?_) (a' := ?_) #[true, true, true, true, true, true, true, false, false, false, false, false, false, false] rfl rfl (by kernel_rfl) (fun _ _ _ h => h) (Or.inl ⟨by rfl, ?_⟩) ?_ ?_
        rotate_left
        · intro w'
          go_simp
          with_reducible rfl
        rotate_left
        · simp only [Act.put, List.setIfInBounds_toArray, List.set_cons_zero, List.set_cons_succ, i64_w, i32_w]
          rfl
        refine take_ (i := 7) (N := some 96) (v := ?_) (a' := ?_) #[true, true, true, true, true, true, true, true, false, false, false, false, false, false] rfl rfl (by kernel_rfl) (fun _ _ _ h => h) (Or.inl ⟨by rfl, ?_⟩) hHeld ?_ ?_
        rotate_left
        · rintro w' ⟨s0, s1⟩
          go_simp
          with_reducible rfl
        rotate_left
        · simp only [Act.put, List.setIfInBounds_toArray, List.set_cons_zero, List.set_cons_succ, i64_w, i32_w]
          rfl
        refine one_ (i := 8) (N := some 97) #[true, true, true, true, true, true, true, true, true, false, false, false, false, false] rfl rfl (by kernel_rfl) (by decide) (fun K hK => ?_)
        refine goes_ Try.func60 (by kernel_rfl) rfl #[.int .u64 x, .int .u64 1] (by rfl) rfl rfl (by simp only [List.map_toArray, List.map_cons, List.map_nil]; rfl) ?_
        with_reducible refine (PTallyFolds.nogginref01_Count.calls x 1 (x + 1) false _ HCX.out).mono ?_
        rintro e w9 ⟨rfl, hd⟩
        refine ⟨_, rfl, ?_⟩
        obtain ⟨N, rfl⟩ := hd.out
        clear hd
        refine hK.out _ _ ⟨e1, e2⟩ (fun hHeld => ?_)
        clear hK K
        refine norm_ (a' := ?_) ?_ ?_
        rotate_left
        · show Act.put _ (some 97) _ = _
          simp only [Act.put, List.setIfInBounds_toArray, List.set_cons_zero, List.set_cons_succ, i64_w, i32_w]
          rfl
        refine pure_ (i := 9) (N := some 88) (v := ?_) (a' := ?_) #[true, true, true, true, true, true, true, true, true, true, false, false, false, false] rfl rfl (by kernel_rfl) (fun _ _ _ h => h) (Or.inl ⟨by rfl, ?_⟩) ?_ ?_
        rotate_left
        · intro w'
          go_simp
          with_reducible rfl
        rotate_left
        · simp only [Act.put, List.setIfInBounds_toArray, List.set_cons_zero, List.set_cons_succ, i64_w, i32_w]
          rfl
        refine pure_ (i := 10) (N := some 98) (v := ?_) (a' := ?_) #[true, true, true, true, true, true, true, true, true, true, true, false, false, false] rfl rfl (by kernel_rfl) (fun _ _ _ h => h) (Or.inl ⟨by rfl, ?_⟩) ?_ ?_
        rotate_left
        · intro w'
          go_simp
          with_reducible rfl
        rotate_left
        · simp only [Act.put, List.setIfInBounds_toArray, List.set_cons_zero, List.set_cons_succ, i64_w, i32_w]
          rfl
        refine pure_ (i := 11) (N := some 99) (v := ?_) (a' := ?_) #[true, true, true, true, true, true, true, true, true, true, true, true, false, false] rfl rfl (by kernel_rfl) (fun _ _ _ h => h) (Or.inl ⟨by rfl, ?_⟩) ?_ ?_
        rotate_left
        · intro w'
          go_simp
          with_reducible rfl
        rotate_left
        · simp only [Act.put, List.setIfInBounds_toArray, List.set_cons_zero, List.set_cons_succ, i64_w, i32_w]
          rfl
        refine pure_ (i := 12) (N := some 100) (v := ?_) (a' := ?_) #[true, true, true, true, true, true, true, true, true, true, true, true, true, false] rfl rfl (by kernel_rfl) (fun _ _ _ h => h) (Or.inl ⟨by rfl, ?_⟩) ?_ ?_
        rotate_left
        · intro w'
          go_simp
          with_reducible rfl
        rotate_left
        · simp only [Act.put, List.setIfInBounds_toArray, List.set_cons_zero, List.set_cons_succ, i64_w, i32_w]
          rfl
        refine last_ (i := 13) (N := none) #[true, true, true, true, true, true, true, true, true, true, true, true, true, true] rfl rfl (by kernel_rfl) (by decide) (fun K hK => ?_)
        refine skip_ (w1 := ?_) (by rfl) rfl ?_ ?_
        rotate_left
        · go_simp
          rfl
        refine hK.out _ _ ?_
        clear hK K
        refine done_ (by kernel_rfl) ?_
        have HB9 := Lib.hid ((HB.out.drewN (1 + N)).far (b := gb) hg1.symm b (.int .u64 (x + 1)))
        have HZ9 := Lib.hid ((HZ.out.drewN (1 + N)).far (b := gb) hg2.symm b (.int .u64 (x + 1)))
        have HF9 := Lib.hid ((HF.out.drewN (1 + N)).set (b := gb) (.inr (by omega)) b (.int .u64 (x + 1)))
        have HO9 := Lib.hid (HST.out (1 + N))
        clear HST HB HZ HF e1 e2 f2
        generalize (wr.drewN (1 + N)).setCell ⟨gb, b, none⟩ (.int .u64 (x + 1)) = w9 at HB9 HZ9 HF9 HO9 ⊢
        obtain ⟨x0, x1, x2, x3, x4, x5, x6, x7, y0, y1, y2, y3, y4, y5, y6, y7⟩ := blk8 HB9.out
        obtain ⟨q0, q1, q2, q3, q4, q5, q6, q7, p0, p1, p2, p3, p4, p5, p6, p7⟩ := blk8 HZ9.out
        go_wp2_with fail
        refine ret_row (g := w.heap.size + 1) (cs := #[.string key, .int .i64 3, .int .u64 (m + 1), .int .i64 s2, .int .i64 le, .int .i64 mo, .bool o2, .slice (some ⟨gb, 0, none⟩) q c2]) (Blk.fill8 HZ9.out rfl _ _ _ _ _ _ _ _) rfl rfl rfl ?_
        rw [HQ.out, HAE.out]
        refine ⟨.slice (some ⟨gb, 0, none⟩) q c2, rfl, ?_, ?_⟩
        · exact Ow.base (b := w.heap.size + 1 + 1 + 1) (HO9.out.keep (S := [w.heap.size + 1]) (Fr.fill8 (g := w.heap.size + 1) (Fr.refl _ w9) (.inl (by simp)) _ _ _ _ _ _ _ _) (fun x hx h => by have h1 := (HO9.out.lt x h).1; simp at hx; omega)) (by omega)
        · exact Fr.fill8 (g := w.heap.size + 1) HF9.out (.inr (by omega)) _ _ _ _ _ _ _ _

set_option maxRecDepth 100000 in
set_option maxHeartbeats 4000000 in
theorem come_histot (key : ByteArray) (m s le mo : Int) (bs : List Int) (k base : Nat) (A : Option Addr) (c : Nat) (v : Int) (hv : I64 v) (hk : 1 ≤ k ∧ k ≤ 1000) (ho : Ok k ⟨3, m, s, le, mo, true, bs⟩) (hlt : le ≤ v) (hgt : v ≤ mo) (w : World) (hO : Ow w base (.slice A bs.length c) bs) :
    Calls Try.prog 40 #[RowV key ⟨3, m, s, le, mo, true, bs⟩ (.slice A bs.length c), .int .i64 v] w (Ret key (addR ⟨3, m, s, le, mo, true, bs⟩ v) w) := by
  have hm0 : m = (k : Int) := ho.many
  have HCF := Lib.hid (rcount_f m ⟨by omega, by omega⟩)
  have hlen : bs.length ≤ 64 := by have := ho.len; simpa using this
  have HBD := Lib.hid (show ∀ x ∈ bs, 0 ≤ x ∧ x ≤ 1000 from fun x hx => by have := ho.b x (by simpa using hx); omega)
  have hmp : decide ((0 : Int) < m) = true := by simp; omega
  have HAF := Lib.hid (radd_f s v ho.sum hv)
  obtain ⟨s2, hs2⟩ : ∃ s2, s2 = (sadd s v).1 := ⟨_, rfl⟩
  obtain ⟨o2, ho2⟩ : ∃ o2, o2 = (sadd s v).2 := ⟨_, rfl⟩
  rw [show sadd s v = (s2, o2) by rw [hs2, ho2]] at HAF
  have hcl : decide (v < le) = false := by simp; omega
  have hcg : decide (mo < v) = false := by simp; omega
  have hbl := bl_le v hv
  obtain ⟨b, hbe⟩ : ∃ b, b = bl v := ⟨_, rfl⟩
  have HBE := Lib.hid hbe
  rw [← hbe] at hbl
  have HAE := Lib.hid (show addR ⟨3, m, s, le, mo, true, bs⟩ v = ⟨3, (m + 1), s2, le, mo, true, bump bs b⟩ by
    unfold addR
    have e1 : (if v < le then v else le) = le := by split <;> omega
    have e2 : (if mo < v then v else mo) = mo := by split <;> omega
    simp [e1, e2, hs2, ho2, hbe])
  have HV := Lib.hid hv
  have HEU := Lib.hid EU
  have HO := Lib.hid (show Ow w base (.slice A bs.length c) bs from hO)
  obtain ⟨n, hn⟩ : ∃ n, n = bs.length := ⟨_, rfl⟩
  have HN := Lib.hid hn
  rw [← hn] at HO hlen ⊢
  obtain ⟨Q, hQ⟩ : ∃ Q, Q = Ret key (addR ⟨3, m, s, le, mo, true, bs⟩ v) w := ⟨_, rfl⟩
  have HQ := Lib.hid hQ
  rw [← hQ]
  clear hm0 ho hO hlt hgt hs2 ho2 hbe hv hn hQ
  show Calls Try.prog _ #[.agg #[.string key, .int .i64 3, .int .u64 m, .int .i64 s, .int .i64 le, .int .i64 mo, .bool true, .slice A n c], .int .i64 v] w _
  go_enter Try.func40, Try.ntmps40
  have F3 := (((Fr.refl [] w).alloc (.cells #[.string key, .int .i64 3, .int .u64 m, .int .i64 s, .int .i64 le, .int .i64 mo, .bool true, .slice A n c] 49)).alloc (.cells #[.string ⟨#[]⟩, .int .i64 0, .int .u64 0, .int .i64 0, .int .i64 0, .int .i64 0, .bool false, .slice none 0 0] 49)).alloc (.cells #[.string key, .int .i64 3, .int .u64 1, .int .i64 v, .int .i64 v, .int .i64 v, .bool false, .slice none 0 0] 49)
  have B0 := ((Blk.new w #[.string key, .int .i64 3, .int .u64 m, .int .i64 s, .int .i64 le, .int .i64 mo, .bool true, .slice A n c] 49).alloc (.cells #[.string ⟨#[]⟩, .int .i64 0, .int .u64 0, .int .i64 0, .int .i64 0, .int .i64 0, .bool false, .slice none 0 0] 49)).alloc (.cells #[.string key, .int .i64 3, .int .u64 1, .int .i64 v, .int .i64 v, .int .i64 v, .bool false, .slice none 0 0] 49)
  have BZ := (Blk.new (w.alloc (.cells #[.string key, .int .i64 3, .int .u64 m, .int .i64 s, .int .i64 le, .int .i64 mo, .bool true, .slice A n c] 49)) #[.string ⟨#[]⟩, .int .i64 0, .int .u64 0, .int .i64 0, .int .i64 0, .int .i64 0, .bool false, .slice none 0 0] 49).alloc (.cells #[.string key, .int .i64 3, .int .u64 1, .int .i64 v, .int .i64 v, .int .i64 v, .bool false, .slice none 0 0] 49)
  have BA := Blk.new ((w.alloc (.cells #[.string key, .int .i64 3, .int .u64 m, .int .i64 s, .int .i64 le, .int .i64 mo, .bool true, .slice A n c] 49)).alloc (.cells #[.string ⟨#[]⟩, .int .i64 0, .int .u64 0, .int .i64 0, .int .i64 0, .int .i64 0, .bool false, .slice none 0 0] 49)) #[.string key, .int .i64 3, .int .u64 1, .int .i64 v, .int .i64 v, .int .i64 v, .bool false, .slice none 0 0] 49
  simp only [size_alloc] at BZ BA
  have HF := Lib.hid F3
  have HB0 := Lib.hid B0
  have HBZ := Lib.hid BZ
  have HBA := Lib.hid BA
  clear F3 B0 BZ BA
  go_wp2_with fail
  refine (PTallyFolds.nogginref01_Count.calls m 1 (m + 1) false _ HCF.out).mono ?_
  rintro e w4 ⟨rfl, hd⟩
  have F := HF.out
  have BA := HBA.out
  have B0 := HB0.out
  have BZ := HBZ.out
  replace F := F.trans (Fr.of_drawn hd)
  replace BA := BA.keep (Fr.of_drawn hd) (by simp)
  replace B0 := B0.keep (Fr.of_drawn hd) (by simp)
  replace BZ := BZ.keep (Fr.of_drawn hd) (by simp)
  clear hd HF HB0 HBZ HBA
  have HF := Lib.hid F
  have HB0 := Lib.hid B0
  have HBZ := Lib.hid BZ
  have HBA := Lib.hid BA
  clear F BA B0 BZ
  obtain ⟨x0, x1, x2, x3, x4, x5, x6, x7, y0, y1, y2, y3, y4, y5, y6, y7⟩ := blk8 HBA.out
  obtain ⟨z0, z1, z2, z3, z4, z5, z6, z7, t0, t1, t2, t3, t4, t5, t6, t7⟩ := blk8 HB0.out
  go_wp2_with fail
  refine (PTallyFolds.nogginref01_Add.calls 3 s v s2 o2 _ HAF.out).mono ?_
  rintro e w5 ⟨rfl, hd⟩
  have F := HF.out
  have BA := HBA.out
  have B0 := HB0.out
  have BZ := HBZ.out
  replace F := F.set (b := w.heap.size + 1 + 1) (.inr (by omega)) 2 (.int .u64 (m + 1))
  replace BA := BA.put (cs' := #[.string key, .int .i64 3, .int .u64 (m + 1), .int .i64 v, .int .i64 v, .int .i64 v, .bool false, .slice none 0 0]) 2 (.int .u64 (m + 1)) rfl
  replace B0 := B0.far (b := w.heap.size + 1 + 1) (by omega) 2 (.int .u64 (m + 1))
  replace BZ := BZ.far (b := w.heap.size + 1 + 1) (by omega) 2 (.int .u64 (m + 1))
  replace F := F.set (b := w.heap.size + 1 + 1) (.inr (by omega)) 4 (.int .i64 le)
  replace BA := BA.put (cs' := #[.string key, .int .i64 3, .int .u64 (m + 1), .int .i64 v, .int .i64 le, .int .i64 v, .bool false, .slice none 0 0]) 4 (.int .i64 le) rfl
  replace B0 := B0.far (b := w.heap.size + 1 + 1) (by omega) 4 (.int .i64 le)
  replace BZ := BZ.far (b := w.heap.size + 1 + 1) (by omega) 4 (.int .i64 le)
  replace F := F.set (b := w.heap.size + 1 + 1) (.inr (by omega)) 5 (.int .i64 mo)
  replace BA := BA.put (cs' := #[.string key, .int .i64 3, .int .u64 (m + 1), .int .i64 v, .int .i64 le, .int .i64 mo, .bool false, .slice none 0 0]) 5 (.int .i64 mo) rfl
  replace B0 := B0.far (b := w.heap.size + 1 + 1) (by omega) 5 (.int .i64 mo)
  replace BZ := BZ.far (b := w.heap.size + 1 + 1) (by omega) 5 (.int .i64 mo)
  replace F := F.set (b := w.heap.size + 1 + 1) (.inr (by omega)) 6 (.bool true)
  replace BA := BA.put (cs' := #[.string key, .int .i64 3, .int .u64 (m + 1), .int .i64 v, .int .i64 le, .int .i64 mo, .bool true, .slice none 0 0]) 6 (.bool true) rfl
  replace B0 := B0.far (b := w.heap.size + 1 + 1) (by omega) 6 (.bool true)
  replace BZ := BZ.far (b := w.heap.size + 1 + 1) (by omega) 6 (.bool true)
  replace F := F.trans (Fr.of_drawn hd)
  replace BA := BA.keep (Fr.of_drawn hd) (by simp)
  replace B0 := B0.keep (Fr.of_drawn hd) (by simp)
  replace BZ := BZ.keep (Fr.of_drawn hd) (by simp)
  clear hd HF HB0 HBZ HBA x0 x1 x2 x3 x4 x5 x6 x7 y0 y1 y2 y3 y4 y5 y6 y7 z0 z1 z2 z3 z4 z5 z6 z7 t0 t1 t2 t3 t4 t5 t6 t7
  have HF := Lib.hid F
  have HB0 := Lib.hid B0
  have HBZ := Lib.hid BZ
  have HBA := Lib.hid BA
  clear F BA B0 BZ
  obtain ⟨x0, x1, x2, x3, x4, x5, x6, x7, y0, y1, y2, y3, y4, y5, y6, y7⟩ := blk8 HBA.out
  obtain ⟨z0, z1, z2, z3, z4, z5, z6, z7, t0, t1, t2, t3, t4, t5, t6, t7⟩ := blk8 HB0.out
  have F := HF.out
  have BA := HBA.out
  have BZ := HBZ.out
  have B0 := HB0.out
  replace F := F.set (b := w.heap.size + 1 + 1) (.inr (by omega)) 3 (.int .i64 s2)
  replace BA := BA.put (cs' := #[.string key, .int .i64 3, .int .u64 (m + 1), .int .i64 s2, .int .i64 le, .int .i64 mo, .bool true, .slice none 0 0]) 3 (.int .i64 s2) rfl
  replace BZ := BZ.far (b := w.heap.size + 1 + 1) (by omega) 3 (.int .i64 s2)
  replace B0 := B0.far (b := w.heap.size + 1 + 1) (by omega) 3 (.int .i64 s2)
  replace F := F.set (b := w.heap.size + 1 + 1) (.inr (by omega)) 6 (.bool true)
  replace BA := BA.put (cs' := #[.string key, .int .i64 3, .int .u64 (m + 1), .int .i64 s2, .int .i64 le, .int .i64 mo, .bool true, .slice none 0 0]) 6 (.bool true) rfl
  replace BZ := BZ.far (b := w.heap.size + 1 + 1) (by omega) 6 (.bool true)
  replace B0 := B0.far (b := w.heap.size + 1 + 1) (by omega) 6 (.bool true)
  have HF6 := Lib.hid F
  have HBA6 := Lib.hid BA
  have HBZ6 := Lib.hid BZ
  have HB06 := Lib.hid B0
  have HSRC := Lib.hid ((HO.out.keep0 F).src)
  clear F BA BZ B0
  have hsz := HBA6.out.lt
  go_wp2_with (
    at_builtin
    refine wpList_app (by rfl) _ _ _ (by rfl) (w.heap.size + 1 + 1 + 1) 46 1 8 HEU.out (.slice none 0 0) 0 [] (by rfl) (Ow.nil _ _) (.slice A n c) n (bs.map (Value.int .u64)) (by rfl) (by have h := HSRC.out; rw [← HN.out] at h; exact h) (by omega) (by omega) (by omega) ?_
    intro v6 w6 ho6 hg6 hat6
    have HO6 := Lib.hid (show Ow w6 (w.heap.size + 1 + 1 + 1) v6 bs by unfold Ow; rw [← HN.out, ← Nat.zero_add n]; exact ho6)
    have hF6 := Fr.of_grown (S := []) hg6 (fun k hk => by have h2 : (none : Option Nat) = some k := hk; cases h2)
    have BA7 := HBA6.out.keep hF6 (by simp)
    have BZ7 := HBZ6.out.keep hF6 (by simp)
    have HF7 := Lib.hid (HF6.out.trans hF6)
    have B07 := HB06.out.keep hF6 (by simp)
    clear ho6 hg6 hat6 hF6 HF6 HBA6 HBZ6 HB06 x0 x1 x2 x3 x4 x5 x6 x7 y0 y1 y2 y3 y4 y5 y6 y7 z0 z1 z2 z3 z4 z5 z6 z7 t0 t1 t2 t3 t4 t5 t6 t7
    obtain ⟨A6, n6, c6, rfl⟩ := HO6.out.slice
    have HBA7 := Lib.hid BA7
    have HBZ7 := Lib.hid BZ7
    have HB07 := Lib.hid B07
    clear BA7 BZ7 B07
    obtain ⟨x0, x1, x2, x3, x4, x5, x6, x7, y0, y1, y2, y3, y4, y5, y6, y7⟩ := blk8 HBA7.out
    obtain ⟨q0, q1, q2, q3, q4, q5, q6, q7, p0, p1, p2, p3, p4, p5, p6, p7⟩ := blk8 HBZ7.out
    obtain ⟨z0, z1, z2, z3, z4, z5, z6, z7, t0, t1, t2, t3, t4, t5, t6, t7⟩ := blk8 HB07.out)
  refine (PTallyFolds.nogginref18_Bucket.calls 100 v (bl v) _ (ref_bucket v HV.out)).mono ?_
  rw [← HBE.out]
  rintro e w8 ⟨rfl, hd⟩
  have F := (HF7.out.set (b := w.heap.size + 1 + 1) (.inr (by omega)) 7 (.slice A6 n6 c6)).trans (Fr.of_drawn hd)
  have BA := (HBA7.out.put (cs' := #[.string key, .int .i64 3, .int .u64 (m + 1), .int .i64 s2, .int .i64 le, .int .i64 mo, .bool true, .slice A6 n6 c6]) 7 (.slice A6 n6 c6) rfl).keep (Fr.of_drawn hd) (by simp)
  have BZ := (HBZ7.out.far (b := w.heap.size + 1 + 1) (by omega) 7 (.slice A6 n6 c6)).keep (Fr.of_drawn hd) (by simp)
  have O8 := (HO6.out.keep (S := [w.heap.size + 1 + 1]) ((Fr.refl _ w6).set (b := w.heap.size + 1 + 1) (.inl (by simp)) 7 (.slice A6 n6 c6)) (fun x hx h => by have h1 := (HO6.out.lt x h).1; simp at hx; omega)).keep0 (Fr.of_drawn hd)
  have HBA8 := Lib.hid BA
  have HBZ8 := Lib.hid BZ
  have HO8 := Lib.hid O8
  have HF8 := Lib.hid F
  clear hd F BA BZ O8 HF7 HBA7 HBZ7 HO6 HB07 x0 x1 x2 x3 x4 x5 x6 x7 y0 y1 y2 y3 y4 y5 y6 y7 z0 z1 z2 z3 z4 z5 z6 z7 t0 t1 t2 t3 t4 t5 t6 t7 q0 q1 q2 q3 q4 q5 q6 q7 p0 p1 p2 p3 p4 p5 p6 p7
  have HLB := Lib.hid (show bs.length ≤ 64 by have := HN.out; omega)
  go_wp2_with fail
  go_loopw [78] (fun _ wr => ∃ j A q c, q = bs.length + j ∧ bs.length + j ≤ max bs.length (b + 1) ∧ Blk wr (w.heap.size + 1 + 1) #[.string key, .int .i64 3, .int .u64 (m + 1), .int .i64 s2, .int .i64 le, .int .i64 mo, .bool true, .slice A q c] 49 ∧ Blk wr (w.heap.size + 1) #[.string ⟨#[]⟩, .int .i64 0, .int .u64 0, .int .i64 0, .int .i64 0, .int .i64 0, .bool false, .slice none 0 0] 49 ∧ Ow wr (w.heap.size + 1 + 1 + 1) (.slice A q c) (bs ++ List.replicate j 0) ∧ Fr [] w wr) (fun _ wr => b + 1 - lenV ((wr.cell? ⟨w.heap.size + 1 + 1, 7, none⟩).getD undef))
  case atStart => exact ⟨0, A6, n6, c6, by rw [HO8.out.len]; rfl, by omega, HBA8.out, HBZ8.out, by simpa using HO8.out, HF8.out⟩
  case round =>
    obtain ⟨j, A2, q, c2, hm, hj, hB, hZ, hO, hF⟩ := hrel
    clear HBA8 HBZ8 HO8 HF8
    have HB := Lib.hid hB
    have HZ := Lib.hid hZ
    have HO := Lib.hid hO
    have HF := Lib.hid hF
    have HM := Lib.hid hm
    have hml : (bs ++ List.replicate j (0 : Int)).length = q := by rw [List.length_append, List.length_replicate]; exact hm.symm
    have HML := Lib.hid hml
    have hmb : q ≤ 200 := by have := HLB.out; have := HM.out; omega
    clear hB hZ hO hF hm hml
    by_cases hlt : q ≤ b
    · have e7 : wr.cell? ⟨w.heap.size + 1 + 1, 7, none⟩ = some (.slice A2 q c2) := HB.out.cell 7
      have HA := Lib.hid (HO.out.alloc (.cells #[.int .u64 0] 46))
      have HS := Lib.hid (src_one wr (.int .u64 0) 46 rfl)
      have hsz := HB.out.lt
      go_wp2_with (
        at_builtin
        refine wpList_app (by rfl) _ _ _ (by rfl) (w.heap.size + 1 + 1 + 1) 46 1 8 HEU.out (.slice A2 q c2) q ((bs ++ List.replicate j (0 : Int)).map (Value.int .u64)) (by rfl) (by have h := HA.out; unfold Ow at h; rw [HML.out] at h; exact h) (.slice (some ⟨wr.heap.size, 0, none⟩) 1 1) 1 [.int .u64 0] (by rfl) HS.out (by omega) (by omega) (by rw [size_alloc]; omega) ?_
        intro v3 w3 ho3 hg3 hat3
        have HO3 := Lib.hid (show Ow w3 (w.heap.size + 1 + 1 + 1) v3 (bs ++ List.replicate (j + 1) 0) by
          unfold Ow
          rw [List.replicate_succ', ← List.append_assoc, List.length_append, List.map_append, HML.out]
          exact ho3)
        have hgr := Fr.of_grown (S := (Value.slice A2 q c2).ownBlock.toList) hg3 (fun k hk => .inl (by rw [hk]; simp))
        have hnot : ∀ x ∈ (Value.slice A2 q c2).ownBlock.toList, w.heap.size + 1 + 1 + 1 ≤ x := fun x hx => (HA.out.lt x (by simpa using hx)).1
        have HF3 := Lib.hid ((HF.out.alloc _).step hgr (fun x hx => .inr (by have := hnot x hx; omega)))
        have HB3 := Lib.hid ((HB.out.alloc _).keep hgr (fun hx => by have := hnot _ hx; omega))
        have HZ3 := Lib.hid ((HZ.out.alloc _).keep hgr (fun hx => by have := hnot _ hx; omega))
        have hl3 := HO3.out.form
        obtain ⟨A3, c3, rfl⟩ : ∃ A3 c3, v3 = .slice A3 (q + 1) c3 := by
          rcases hl3 with ⟨_, h2⟩ | ⟨g, cap, h3, _⟩
          · have h4 := congrArg List.length h2
            simp at h4
          · exact ⟨_, _, by rw [h3, List.replicate_succ', ← List.append_assoc, List.length_append, HML.out]; rfl⟩
        clear ho3 hg3 hat3 hgr hnot hl3 e7 HA HS
        have f7 := HB3.out.frozen 7
        have e73 := HB3.out.cell 7)
      have HB4 := Lib.hid (HB3.out.put (cs' := #[.string key, .int .i64 3, .int .u64 (m + 1), .int .i64 s2, .int .i64 le, .int .i64 mo, .bool true, .slice A3 (q + 1) c3]) 7 (.slice A3 (q + 1) c3) rfl)
      go_roundw
      case rel => exact ⟨j + 1, A3, q + 1, c3, by have := HM.out; omega, by have := HM.out; omega, HB4.out, HZ3.out.far (b := w.heap.size + 1 + 1) (by omega) 7 _, HO3.out.keep (S := [w.heap.size + 1 + 1]) ((Fr.refl _ w3).set (b := w.heap.size + 1 + 1) (.inl (by simp)) 7 _) (fun x hx h => by have h1 := (HO3.out.lt x h).1; simp at hx; omega), HF3.out.set (b := w.heap.size + 1 + 1) (.inr (by omega)) 7 _⟩
      case measure =>
        rw [HB4.out.cell 7, HB.out.cell 7]
        simp [lenV]
        omega
    · have hmx : bs.length + j = max bs.length (b + 1) := by have := HM.out; omega
      have HE := Lib.hid (show bs ++ List.replicate j (0 : Int) = ext bs b by
        unfold ext
        congr 2
        omega)
      rw [HE.out] at HO HML
      have HBX := Lib.hid (getD_bd (ext_bd (m := 1000) HBD.out (by decide) b) (by decide) b)
      obtain ⟨x, hx⟩ : ∃ x, x = (ext bs b).getD b 0 := ⟨_, rfl⟩
      have HXX := Lib.hid (show (ext bs b).set b (x + 1) = bump bs b by unfold bump; rw [hx])
      rw [← hx] at HBX
      obtain ⟨u0, u1⟩ := HBX.out
      have HCX := Lib.hid (rcount_f x ⟨u0, by omega⟩)
      have hlt2 : b < q := by omega
      rcases HO.out.form with ⟨_, h2⟩ | ⟨gb, cap, h3, hg0, _, hcap, hcell⟩
      · rw [h2] at HML
        have := HML.out
        simp at this
        omega
      · rw [HML.out] at h3 hcap
        simp only [Value.slice.injEq, true_and] at h3
        obtain ⟨rfl, rfl⟩ := h3
        have h4 := hcell b (by rw [HML.out]; exact hlt2)
        rw [← hx] at h4
        obtain ⟨e2, f2⟩ := h4
        have e1 : wr.cell? ⟨w.heap.size + 1 + 1, 7, none⟩ = some (.slice (some ⟨gb, 0, none⟩) q c2) := HB.out.cell 7
        have HST := Lib.hid (show ∀ N, Ow ((wr.drewN N).setCell ⟨gb, b, none⟩ (.int .u64 (x + 1))) (w.heap.size + 1 + 1 + 1) (.slice (some ⟨gb, 0, none⟩) q c2) (bump bs b) from fun N => by
          rw [← HXX.out]
          have h := HO.out
          rw [← HML.out] at h ⊢
          exact Ow.store (w := wr.drewN N) h b (x + 1) (by rw [HML.out]; exact hlt2))
        clear hcell hx hlt hmx HO HBX
        have hg1 : gb ≠ w.heap.size + 1 + 1 := by omega
        have hg2 : gb ≠ w.heap.size + 1 := by omega
        go_wp2_with fail
        refine start_ (n := 14) (S := fun w' => w'.cell? ⟨w.heap.size + 1 + 1, 7, none⟩ = some (.slice (some ⟨gb, 0, none⟩) q c2) ∧ w'.cell? ⟨gb, b, none⟩ = some (.int .u64 x)) (ds := [13]) #[false, false, false, false, false, false, false, false, false, false, false, false, false, false] (by kernel_rfl) rfl rfl ⟨e1, e2⟩ (fun hHeld => ?_)
        refine pure_ (i := 0) (N := some 89) (v := ?_) (a' := ?_) #[true, false, false, false, false, false, false, false, false, false, false, false, false, false] rfl rfl (by kernel_rfl) (fun _ _ _ h => h) (Or.inl ⟨by rfl, ?_⟩) ?_ ?_
        rotate_left
        · intro w'
          go_simp
          with_reducible rfl
        rotate_left
        · simp only [Act.put, List.setIfInBounds_toArray, List.set_cons_zero, List.set_cons_succ, i64_w, i32_w]
          rfl
        refine pure_ (i := 2) (N := some 91) (v := ?_) (a' := ?_) #[true, false, true, false, false, false, false, false, false, false, false, false, false, false] rfl rfl (by kernel_rfl) (fun _ _ _ h => h) (Or.inl ⟨by rfl, ?_⟩) ?_ ?_
        rotate_left
        · intro w'
          go_simp
          with_reducible rfl
        rotate_left
        · simp only [Act.put, List.setIfInBounds_toArray, List.set_cons_zero, List.set_cons_succ, i64_w, i32_w]
          rfl
        refine pure_ (i := 3) (N := some 92) (v := ?_) (a' := ?_) #[true, false, true, true, false, false, false, false, false, false, false, false, false, false] rfl rfl (by kernel_rfl) (fun _ _ _ h => h) (Or.inl ⟨by rfl, ?_⟩) ?_ ?_
        rotate_left
        · intro w'
          go_simp
          with_reducible rfl
        rotate_left
        · simp only [Act.put, List.setIfInBounds_toArray, List.set_cons_zero, List.set_cons_succ, i64_w, i32_w]
          rfl
        refine pure_ (i := 5) (N := some 94) (v := ?_) (a' := ?_) #[true, false, true, true, false, true, false, false, false, false, false, false, false, false] rfl rfl (by kernel_rfl) (fun _ _ _ h => h) (Or.inl ⟨by rfl, ?_⟩) ?_ ?_
        rotate_left
        · intro w'
          go_simp
          with_reducible rfl
        rotate_left
        · simp only [Act.put, List.setIfInBounds_toArray, List.set_cons_zero, List.set_cons_succ, i64_w, i32_w]
          rfl
        refine take_ (i := 1) (N := some 90) (v := ?_) (a' := ?_) #[true, true, true, true, false, true, false, false, false, false, false, false, false, false] rfl rfl (by kernel_rfl) (fun _ _ _ h => h) (Or.inl ⟨by rfl, ?_⟩) hHeld ?_ ?_
        rotate_left
        · rintro w' ⟨s0, s1⟩
          go_simp
          with_reducible rfl
        rotate_left
        · simp only [Act.put, List.setIfInBounds_toArray, List.set_cons_zero, List.set_cons_succ, i64_w, i32_w]
          rfl
        refine take_ (i := 4) (N := some 93) (v := ?_) (a' := ?_) #[true, true, true, true, true, true, false, false, false, false, false, false, false, false] rfl rfl (by kernel_rfl) (fun _ _ _ h => h) (Or.inl ⟨by rfl, ?_⟩) hHeld ?_ ?_
        rotate_left
        · rintro w' ⟨s0, s1⟩
          go_simp
          with_reducible rfl
        rotate_left
        · simp only [Act.put, List.setIfInBounds_toArray, List.set_cons_zero, List.set_cons_succ, i64_w, i32_w]
          rfl
        refine pure_ (i := 6) (N := some 95) (v := ?_) (a' := ?_) #[true, true, true, true, true, true, true, false, false, false, false, false, false, false] rfl rfl (by kernel_rfl) (fun _ _ _ h => h) (Or.inl ⟨by rfl, ?_⟩) ?_ ?_
        rotate_left
        · intro w'
          go_simp
          with_reducible rfl
        rotate_left
        · simp only [Act.put, List.setIfInBounds_toArray, List.set_cons_zero, List.set_cons_succ, i64_w, i32_w]
          rfl
        refine take_ (i := 7) (N := some 96) (v := ?_) (a' := ?_) #[true, true, true, true, true, true, true, true, false, false, false, false, false, false] rfl rfl (by kernel_rfl) (fun _ _ _ h => h) (Or.inl ⟨by rfl, ?_⟩) hHeld ?_ ?_
        rotate_left
        · rintro w' ⟨s0, s1⟩
          go_simp
          with_reducible rfl
        rotate_left
        · simp only [Act.put, List.setIfInBounds_toArray, List.set_cons_zero, List.set_cons_succ, i64_w, i32_w]
          rfl
        refine one_ (i := 8) (N := some 97) #[true, true, true, true, true, true, true, true, true, false, false, false, false, false] rfl rfl (by kernel_rfl) (by decide) (fun K hK => ?_)
        refine goes_ Try.func60 (by kernel_rfl) rfl #[.int .u64 x, .int .u64 1] (by rfl) rfl rfl (by simp only [List.map_toArray, List.map_cons, List.map_nil]; rfl) ?_
        with_reducible refine (PTallyFolds.nogginref01_Count.calls x 1 (x + 1) false _ HCX.out).mono ?_
        rintro e w9 ⟨rfl, hd⟩
        refine ⟨_, rfl, ?_⟩
        obtain ⟨N, rfl⟩ := hd.out
        clear hd
        refine hK.out _ _ ⟨e1, e2⟩ (fun hHeld => ?_)
        clear hK K
        refine norm_ (a' := ?_) ?_ ?_
        rotate_left
        · show Act.put _ (some 97) _ = _
          simp only [Act.put, List.setIfInBounds_toArray, List.set_cons_zero, List.set_cons_succ, i64_w, i32_w]
          rfl
        refine pure_ (i := 9) (N := some 88) (v := ?_) (a' := ?_) #[true, true, true, true, true, true, true, true, true, true, false, false, false, false] rfl rfl (by kernel_rfl) (fun _ _ _ h => h) (Or.inl ⟨by rfl, ?_⟩) ?_ ?_
        rotate_left
        · intro w'
          go_simp
          with_reducible rfl
        rotate_left
        · simp only [Act.put, List.setIfInBounds_toArray, List.set_cons_zero, List.set_cons_succ, i64_w, i32_w]
          rfl
        refine pure_ (i := 10) (N := some 98) (v := ?_) (a' := ?_) #[true, true, true, true, true, true, true, true, true, true, true, false, false, false] rfl rfl (by kernel_rfl) (fun _ _ _ h => h) (Or.inl ⟨by rfl, ?_⟩) ?_ ?_
        rotate_left
        · intro w'
          go_simp
          with_reducible rfl
        rotate_left
        · simp only [Act.put, List.setIfInBounds_toArray, List.set_cons_zero, List.set_cons_succ, i64_w, i32_w]
          rfl
        refine pure_ (i := 11) (N := some 99) (v := ?_) (a' := ?_) #[true, true, true, true, true, true, true, true, true, true, true, true, false, false] rfl rfl (by kernel_rfl) (fun _ _ _ h => h) (Or.inl ⟨by rfl, ?_⟩) ?_ ?_
        rotate_left
        · intro w'
          go_simp
          with_reducible rfl
        rotate_left
        · simp only [Act.put, List.setIfInBounds_toArray, List.set_cons_zero, List.set_cons_succ, i64_w, i32_w]
          rfl
        refine pure_ (i := 12) (N := some 100) (v := ?_) (a' := ?_) #[true, true, true, true, true, true, true, true, true, true, true, true, true, false] rfl rfl (by kernel_rfl) (fun _ _ _ h => h) (Or.inl ⟨by rfl, ?_⟩) ?_ ?_
        rotate_left
        · intro w'
          go_simp
          with_reducible rfl
        rotate_left
        · simp only [Act.put, List.setIfInBounds_toArray, List.set_cons_zero, List.set_cons_succ, i64_w, i32_w]
          rfl
        refine last_ (i := 13) (N := none) #[true, true, true, true, true, true, true, true, true, true, true, true, true, true] rfl rfl (by kernel_rfl) (by decide) (fun K hK => ?_)
        refine skip_ (w1 := ?_) (by rfl) rfl ?_ ?_
        rotate_left
        · go_simp
          rfl
        refine hK.out _ _ ?_
        clear hK K
        refine done_ (by kernel_rfl) ?_
        have HB9 := Lib.hid ((HB.out.drewN (1 + N)).far (b := gb) hg1.symm b (.int .u64 (x + 1)))
        have HZ9 := Lib.hid ((HZ.out.drewN (1 + N)).far (b := gb) hg2.symm b (.int .u64 (x + 1)))
        have HF9 := Lib.hid ((HF.out.drewN (1 + N)).set (b := gb) (.inr (by omega)) b (.int .u64 (x + 1)))
        have HO9 := Lib.hid (HST.out (1 + N))
        clear HST HB HZ HF e1 e2 f2
        generalize (wr.drewN (1 + N)).setCell ⟨gb, b, none⟩ (.int .u64 (x + 1)) = w9 at HB9 HZ9 HF9 HO9 ⊢
        obtain ⟨x0, x1, x2, x3, x4, x5, x6, x7, y0, y1, y2, y3, y4, y5, y6, y7⟩ := blk8 HB9.out
        obtain ⟨q0, q1, q2, q3, q4, q5, q6, q7, p0, p1, p2, p3, p4, p5, p6, p7⟩ := blk8 HZ9.out
        go_wp2_with fail
        refine ret_row (g := w.heap.size + 1) (cs := #[.string key, .int .i64 3, .int .u64 (m + 1), .int .i64 s2, .int .i64 le, .int .i64 mo, .bool true, .slice (some ⟨gb, 0, none⟩) q c2]) (Blk.fill8 HZ9.out rfl _ _ _ _ _ _ _ _) rfl rfl rfl ?_
        rw [HQ.out, HAE.out]
        refine ⟨.slice (some ⟨gb, 0, none⟩) q c2, rfl, ?_, ?_⟩
        · exact Ow.base (b := w.heap.size + 1 + 1 + 1) (HO9.out.keep (S := [w.heap.size + 1]) (Fr.fill8 (g := w.heap.size + 1) (Fr.refl _ w9) (.inl (by simp)) _ _ _ _ _ _ _ _) (fun x hx h => by have h1 := (HO9.out.lt x h).1; simp at hx; omega)) (by omega)
        · exact Fr.fill8 (g := w.heap.size + 1) HF9.out (.inr (by omega)) _ _ _ _ _ _ _ _

set_option maxRecDepth 100000 in
set_option maxHeartbeats 4000000 in
theorem come_histofG (key : ByteArray) (m s le mo : Int) (bs : List Int) (k base : Nat) (A : Option Addr) (c : Nat) (v : Int) (hv : I64 v) (hk : 1 ≤ k ∧ k ≤ 1000) (ho : Ok k ⟨3, m, s, le, mo, false, bs⟩) (hlt : le ≤ v) (hgt : mo < v) (w : World) (hO : Ow w base (.slice A bs.length c) bs) :
    Calls Try.prog 40 #[RowV key ⟨3, m, s, le, mo, false, bs⟩ (.slice A bs.length c), .int .i64 v] w (Ret key (addR ⟨3, m, s, le, mo, false, bs⟩ v) w) := by
  have hm0 : m = (k : Int) := ho.many
  have HCF := Lib.hid (rcount_f m ⟨by omega, by omega⟩)
  have hlen : bs.length ≤ 64 := by have := ho.len; simpa using this
  have HBD := Lib.hid (show ∀ x ∈ bs, 0 ≤ x ∧ x ≤ 1000 from fun x hx => by have := ho.b x (by simpa using hx); omega)
  have hmp : decide ((0 : Int) < m) = true := by simp; omega
  have HAF := Lib.hid (radd_f s v ho.sum hv)
  obtain ⟨s2, hs2⟩ : ∃ s2, s2 = (sadd s v).1 := ⟨_, rfl⟩
  obtain ⟨o2, ho2⟩ : ∃ o2, o2 = (sadd s v).2 := ⟨_, rfl⟩
  rw [show sadd s v = (s2, o2) by rw [hs2, ho2]] at HAF
  have hcl : decide (v < le) = false := by simp; omega
  have hcg : decide (mo < v) = true := by simp; omega
  have hbl := bl_le v hv
  obtain ⟨b, hbe⟩ : ∃ b, b = bl v := ⟨_, rfl⟩
  have HBE := Lib.hid hbe
  rw [← hbe] at hbl
  have HAE := Lib.hid (show addR ⟨3, m, s, le, mo, false, bs⟩ v = ⟨3, (m + 1), s2, le, v, o2, bump bs b⟩ by
    unfold addR
    have e1 : (if v < le then v else le) = le := by split <;> omega
    have e2 : (if mo < v then v else mo) = v := by split <;> omega
    simp [e1, e2, hs2, ho2, hbe])
  have HV := Lib.hid hv
  have HEU := Lib.hid EU
  have HO := Lib.hid (show Ow w base (.slice A bs.length c) bs from hO)
  obtain ⟨n, hn⟩ : ∃ n, n = bs.length := ⟨_, rfl⟩
  have HN := Lib.hid hn
  rw [← hn] at HO hlen ⊢
  obtain ⟨Q, hQ⟩ : ∃ Q, Q = Ret key (addR ⟨3, m, s, le, mo, false, bs⟩ v) w := ⟨_, rfl⟩
  have HQ := Lib.hid hQ
  rw [← hQ]
  clear hm0 ho hO hlt hgt hs2 ho2 hbe hv hn hQ
  show Calls Try.prog _ #[.agg #[.string key, .int .i64 3, .int .u64 m, .int .i64 s, .int .i64 le, .int .i64 mo, .bool false, .slice A n c], .int .i64 v] w _
  go_enter Try.func40, Try.ntmps40
  have F3 := (((Fr.refl [] w).alloc (.cells #[.string key, .int .i64 3, .int .u64 m, .int .i64 s, .int .i64 le, .int .i64 mo, .bool false, .slice A n c] 49)).alloc (.cells #[.string ⟨#[]⟩, .int .i64 0, .int .u64 0, .int .i64 0, .int .i64 0, .int .i64 0, .bool false, .slice none 0 0] 49)).alloc (.cells #[.string key, .int .i64 3, .int .u64 1, .int .i64 v, .int .i64 v, .int .i64 v, .bool false, .slice none 0 0] 49)
  have B0 := ((Blk.new w #[.string key, .int .i64 3, .int .u64 m, .int .i64 s, .int .i64 le, .int .i64 mo, .bool false, .slice A n c] 49).alloc (.cells #[.string ⟨#[]⟩, .int .i64 0, .int .u64 0, .int .i64 0, .int .i64 0, .int .i64 0, .bool false, .slice none 0 0] 49)).alloc (.cells #[.string key, .int .i64 3, .int .u64 1, .int .i64 v, .int .i64 v, .int .i64 v, .bool false, .slice none 0 0] 49)
  have BZ := (Blk.new (w.alloc (.cells #[.string key, .int .i64 3, .int .u64 m, .int .i64 s, .int .i64 le, .int .i64 mo, .bool false, .slice A n c] 49)) #[.string ⟨#[]⟩, .int .i64 0, .int .u64 0, .int .i64 0, .int .i64 0, .int .i64 0, .bool false, .slice none 0 0] 49).alloc (.cells #[.string key, .int .i64 3, .int .u64 1, .int .i64 v, .int .i64 v, .int .i64 v, .bool false, .slice none 0 0] 49)
  have BA := Blk.new ((w.alloc (.cells #[.string key, .int .i64 3, .int .u64 m, .int .i64 s, .int .i64 le, .int .i64 mo, .bool false, .slice A n c] 49)).alloc (.cells #[.string ⟨#[]⟩, .int .i64 0, .int .u64 0, .int .i64 0, .int .i64 0, .int .i64 0, .bool false, .slice none 0 0] 49)) #[.string key, .int .i64 3, .int .u64 1, .int .i64 v, .int .i64 v, .int .i64 v, .bool false, .slice none 0 0] 49
  simp only [size_alloc] at BZ BA
  have HF := Lib.hid F3
  have HB0 := Lib.hid B0
  have HBZ := Lib.hid BZ
  have HBA := Lib.hid BA
  clear F3 B0 BZ BA
  go_wp2_with fail
  refine (PTallyFolds.nogginref01_Count.calls m 1 (m + 1) false _ HCF.out).mono ?_
  rintro e w4 ⟨rfl, hd⟩
  have F := HF.out
  have BA := HBA.out
  have B0 := HB0.out
  have BZ := HBZ.out
  replace F := F.trans (Fr.of_drawn hd)
  replace BA := BA.keep (Fr.of_drawn hd) (by simp)
  replace B0 := B0.keep (Fr.of_drawn hd) (by simp)
  replace BZ := BZ.keep (Fr.of_drawn hd) (by simp)
  clear hd HF HB0 HBZ HBA
  have HF := Lib.hid F
  have HB0 := Lib.hid B0
  have HBZ := Lib.hid BZ
  have HBA := Lib.hid BA
  clear F BA B0 BZ
  obtain ⟨x0, x1, x2, x3, x4, x5, x6, x7, y0, y1, y2, y3, y4, y5, y6, y7⟩ := blk8 HBA.out
  obtain ⟨z0, z1, z2, z3, z4, z5, z6, z7, t0, t1, t2, t3, t4, t5, t6, t7⟩ := blk8 HB0.out
  go_wp2_with fail
  refine (PTallyFolds.nogginref01_Add.calls 3 s v s2 o2 _ HAF.out).mono ?_
  rintro e w5 ⟨rfl, hd⟩
  have F := HF.out
  have BA := HBA.out
  have B0 := HB0.out
  have BZ := HBZ.out
  replace F := F.set (b := w.heap.size + 1 + 1) (.inr (by omega)) 2 (.int .u64 (m + 1))
  replace BA := BA.put (cs' := #[.string key, .int .i64 3, .int .u64 (m + 1), .int .i64 v, .int .i64 v, .int .i64 v, .bool false, .slice none 0 0]) 2 (.int .u64 (m + 1)) rfl
  replace B0 := B0.far (b := w.heap.size + 1 + 1) (by omega) 2 (.int .u64 (m + 1))
  replace BZ := BZ.far (b := w.heap.size + 1 + 1) (by omega) 2 (.int .u64 (m + 1))
  replace F := F.set (b := w.heap.size + 1 + 1) (.inr (by omega)) 4 (.int .i64 le)
  replace BA := BA.put (cs' := #[.string key, .int .i64 3, .int .u64 (m + 1), .int .i64 v, .int .i64 le, .int .i64 v, .bool false, .slice none 0 0]) 4 (.int .i64 le) rfl
  replace B0 := B0.far (b := w.heap.size + 1 + 1) (by omega) 4 (.int .i64 le)
  replace BZ := BZ.far (b := w.heap.size + 1 + 1) (by omega) 4 (.int .i64 le)
  replace F := F.set (b := w.heap.size + 1 + 1) (.inr (by omega)) 5 (.int .i64 mo)
  replace BA := BA.put (cs' := #[.string key, .int .i64 3, .int .u64 (m + 1), .int .i64 v, .int .i64 le, .int .i64 mo, .bool false, .slice none 0 0]) 5 (.int .i64 mo) rfl
  replace B0 := B0.far (b := w.heap.size + 1 + 1) (by omega) 5 (.int .i64 mo)
  replace BZ := BZ.far (b := w.heap.size + 1 + 1) (by omega) 5 (.int .i64 mo)
  replace F := F.set (b := w.heap.size + 1 + 1) (.inr (by omega)) 6 (.bool false)
  replace BA := BA.put (cs' := #[.string key, .int .i64 3, .int .u64 (m + 1), .int .i64 v, .int .i64 le, .int .i64 mo, .bool false, .slice none 0 0]) 6 (.bool false) rfl
  replace B0 := B0.far (b := w.heap.size + 1 + 1) (by omega) 6 (.bool false)
  replace BZ := BZ.far (b := w.heap.size + 1 + 1) (by omega) 6 (.bool false)
  replace F := F.set (b := w.heap.size + 1 + 1) (.inr (by omega)) 5 (.int .i64 v)
  replace BA := BA.put (cs' := #[.string key, .int .i64 3, .int .u64 (m + 1), .int .i64 v, .int .i64 le, .int .i64 v, .bool false, .slice none 0 0]) 5 (.int .i64 v) rfl
  replace B0 := B0.far (b := w.heap.size + 1 + 1) (by omega) 5 (.int .i64 v)
  replace BZ := BZ.far (b := w.heap.size + 1 + 1) (by omega) 5 (.int .i64 v)
  replace F := F.trans (Fr.of_drawn hd)
  replace BA := BA.keep (Fr.of_drawn hd) (by simp)
  replace B0 := B0.keep (Fr.of_drawn hd) (by simp)
  replace BZ := BZ.keep (Fr.of_drawn hd) (by simp)
  clear hd HF HB0 HBZ HBA x0 x1 x2 x3 x4 x5 x6 x7 y0 y1 y2 y3 y4 y5 y6 y7 z0 z1 z2 z3 z4 z5 z6 z7 t0 t1 t2 t3 t4 t5 t6 t7
  have HF := Lib.hid F
  have HB0 := Lib.hid B0
  have HBZ := Lib.hid BZ
  have HBA := Lib.hid BA
  clear F BA B0 BZ
  obtain ⟨x0, x1, x2, x3, x4, x5, x6, x7, y0, y1, y2, y3, y4, y5, y6, y7⟩ := blk8 HBA.out
  obtain ⟨z0, z1, z2, z3, z4, z5, z6, z7, t0, t1, t2, t3, t4, t5, t6, t7⟩ := blk8 HB0.out
  have F := HF.out
  have BA := HBA.out
  have BZ := HBZ.out
  have B0 := HB0.out
  replace F := F.set (b := w.heap.size + 1 + 1) (.inr (by omega)) 3 (.int .i64 s2)
  replace BA := BA.put (cs' := #[.string key, .int .i64 3, .int .u64 (m + 1), .int .i64 s2, .int .i64 le, .int .i64 v, .bool false, .slice none 0 0]) 3 (.int .i64 s2) rfl
  replace BZ := BZ.far (b := w.heap.size + 1 + 1) (by omega) 3 (.int .i64 s2)
  replace B0 := B0.far (b := w.heap.size + 1 + 1) (by omega) 3 (.int .i64 s2)
  replace F := F.set (b := w.heap.size + 1 + 1) (.inr (by omega)) 6 (.bool o2)
  replace BA := BA.put (cs' := #[.string key, .int .i64 3, .int .u64 (m + 1), .int .i64 s2, .int .i64 le, .int .i64 v, .bool o2, .slice none 0 0]) 6 (.bool o2) rfl
  replace BZ := BZ.far (b := w.heap.size + 1 + 1) (by omega) 6 (.bool o2)
  replace B0 := B0.far (b := w.heap.size + 1 + 1) (by omega) 6 (.bool o2)
  have HF6 := Lib.hid F
  have HBA6 := Lib.hid BA
  have HBZ6 := Lib.hid BZ
  have HB06 := Lib.hid B0
  have HSRC := Lib.hid ((HO.out.keep0 F).src)
  clear F BA BZ B0
  have hsz := HBA6.out.lt
  go_wp2_with (
    at_builtin
    refine wpList_app (by rfl) _ _ _ (by rfl) (w.heap.size + 1 + 1 + 1) 46 1 8 HEU.out (.slice none 0 0) 0 [] (by rfl) (Ow.nil _ _) (.slice A n c) n (bs.map (Value.int .u64)) (by rfl) (by have h := HSRC.out; rw [← HN.out] at h; exact h) (by omega) (by omega) (by omega) ?_
    intro v6 w6 ho6 hg6 hat6
    have HO6 := Lib.hid (show Ow w6 (w.heap.size + 1 + 1 + 1) v6 bs by unfold Ow; rw [← HN.out, ← Nat.zero_add n]; exact ho6)
    have hF6 := Fr.of_grown (S := []) hg6 (fun k hk => by have h2 : (none : Option Nat) = some k := hk; cases h2)
    have BA7 := HBA6.out.keep hF6 (by simp)
    have BZ7 := HBZ6.out.keep hF6 (by simp)
    have HF7 := Lib.hid (HF6.out.trans hF6)
    have B07 := HB06.out.keep hF6 (by simp)
    clear ho6 hg6 hat6 hF6 HF6 HBA6 HBZ6 HB06 x0 x1 x2 x3 x4 x5 x6 x7 y0 y1 y2 y3 y4 y5 y6 y7 z0 z1 z2 z3 z4 z5 z6 z7 t0 t1 t2 t3 t4 t5 t6 t7
    obtain ⟨A6, n6, c6, rfl⟩ := HO6.out.slice
    have HBA7 := Lib.hid BA7
    have HBZ7 := Lib.hid BZ7
    have HB07 := Lib.hid B07
    clear BA7 BZ7 B07
    obtain ⟨x0, x1, x2, x3, x4, x5, x6, x7, y0, y1, y2, y3, y4, y5, y6, y7⟩ := blk8 HBA7.out
    obtain ⟨q0, q1, q2, q3, q4, q5, q6, q7, p0, p1, p2, p3, p4, p5, p6, p7⟩ := blk8 HBZ7.out
    obtain ⟨z0, z1, z2, z3, z4, z5, z6, z7, t0, t1, t2, t3, t4, t5, t6, t7⟩ := blk8 HB07.out)
  refine (PTallyFolds.nogginref18_Bucket.calls 100 v (bl v) _ (ref_bucket v HV.out)).mono ?_
  rw [← HBE.out]
  rintro e w8 ⟨rfl, hd⟩
  have F := (HF7.out.set (b := w.heap.size + 1 + 1) (.inr (by omega)) 7 (.slice A6 n6 c6)).trans (Fr.of_drawn hd)
  have BA := (HBA7.out.put (cs' := #[.string key, .int .i64 3, .int .u64 (m + 1), .int .i64 s2, .int .i64 le, .int .i64 v, .bool o2, .slice A6 n6 c6]) 7 (.slice A6 n6 c6) rfl).keep (Fr.of_drawn hd) (by simp)
  have BZ := (HBZ7.out.far (b := w.heap.size + 1 + 1) (by omega) 7 (.slice A6 n6 c6)).keep (Fr.of_drawn hd) (by simp)
  have O8 := (HO6.out.keep (S := [w.heap.size + 1 + 1]) ((Fr.refl _ w6).set (b := w.heap.size + 1 + 1) (.inl (by simp)) 7 (.slice A6 n6 c6)) (fun x hx h => by have h1 := (HO6.out.lt x h).1; simp at hx; omega)).keep0 (Fr.of_drawn hd)
  have HBA8 := Lib.hid BA
  have HBZ8 := Lib.hid BZ
  have HO8 := Lib.hid O8
  have HF8 := Lib.hid F
  clear hd F BA BZ O8 HF7 HBA7 HBZ7 HO6 HB07 x0 x1 x2 x3 x4 x5 x6 x7 y0 y1 y2 y3 y4 y5 y6 y7 z0 z1 z2 z3 z4 z5 z6 z7 t0 t1 t2 t3 t4 t5 t6 t7 q0 q1 q2 q3 q4 q5 q6 q7 p0 p1 p2 p3 p4 p5 p6 p7
  have HLB := Lib.hid (show bs.length ≤ 64 by have := HN.out; omega)
  go_wp2_with fail
  go_loopw [78] (fun _ wr => ∃ j A q c, q = bs.length + j ∧ bs.length + j ≤ max bs.length (b + 1) ∧ Blk wr (w.heap.size + 1 + 1) #[.string key, .int .i64 3, .int .u64 (m + 1), .int .i64 s2, .int .i64 le, .int .i64 v, .bool o2, .slice A q c] 49 ∧ Blk wr (w.heap.size + 1) #[.string ⟨#[]⟩, .int .i64 0, .int .u64 0, .int .i64 0, .int .i64 0, .int .i64 0, .bool false, .slice none 0 0] 49 ∧ Ow wr (w.heap.size + 1 + 1 + 1) (.slice A q c) (bs ++ List.replicate j 0) ∧ Fr [] w wr) (fun _ wr => b + 1 - lenV ((wr.cell? ⟨w.heap.size + 1 + 1, 7, none⟩).getD undef))
  case atStart => exact ⟨0, A6, n6, c6, by rw [HO8.out.len]; rfl, by omega, HBA8.out, HBZ8.out, by simpa using HO8.out, HF8.out⟩
  case round =>
    obtain ⟨j, A2, q, c2, hm, hj, hB, hZ, hO, hF⟩ := hrel
    clear HBA8 HBZ8 HO8 HF8
    have HB := Lib.hid hB
    have HZ := Lib.hid hZ
    have HO := Lib.hid hO
    have HF := Lib.hid hF
    have HM := Lib.hid hm
    have hml : (bs ++ List.replicate j (0 : Int)).length = q := by rw [List.length_append, List.length_replicate]; exact hm.symm
    have HML := Lib.hid hml
    have hmb : q ≤ 200 := by have := HLB.out; have := HM.out; omega
    clear hB hZ hO hF hm hml
    by_cases hlt : q ≤ b
    · have e7 : wr.cell? ⟨w.heap.size + 1 + 1, 7, none⟩ = some (.slice A2 q c2) := HB.out.cell 7
      have HA := Lib.hid (HO.out.alloc (.cells #[.int .u64 0] 46))
      have HS := Lib.hid (src_one wr (.int .u64 0) 46 rfl)
      have hsz := HB.out.lt
      go_wp2_with (
        at_builtin
        refine wpList_app (by rfl) _ _ _ (by rfl) (w.heap.size + 1 + 1 + 1) 46 1 8 HEU.out (.slice A2 q c2) q ((bs ++ List.replicate j (0 : Int)).map (Value.int .u64)) (by rfl) (by have h := HA.out; unfold Ow at h; rw [HML.out] at h; exact h) (.slice (some ⟨wr.heap.size, 0, none⟩) 1 1) 1 [.int .u64 0] (by rfl) HS.out (by omega) (by omega) (by rw [size_alloc]; omega) ?_
        intro v3 w3 ho3 hg3 hat3
        have HO3 := Lib.hid (show Ow w3 (w.heap.size + 1 + 1 + 1) v3 (bs ++ List.replicate (j + 1) 0) by
          unfold Ow
          rw [List.replicate_succ', ← List.append_assoc, List.length_append, List.map_append, HML.out]
          exact ho3)
        have hgr := Fr.of_grown (S := (Value.slice A2 q c2).ownBlock.toList) hg3 (fun k hk => .inl (by rw [hk]; simp))
        have hnot : ∀ x ∈ (Value.slice A2 q c2).ownBlock.toList, w.heap.size + 1 + 1 + 1 ≤ x := fun x hx => (HA.out.lt x (by simpa using hx)).1
        have HF3 := Lib.hid ((HF.out.alloc _).step hgr (fun x hx => .inr (by have := hnot x hx; omega)))
        have HB3 := Lib.hid ((HB.out.alloc _).keep hgr (fun hx => by have := hnot _ hx; omega))
        have HZ3 := Lib.hid ((HZ.out.alloc _).keep hgr (fun hx => by have := hnot _ hx; omega))
        have hl3 := HO3.out.form
        obtain ⟨A3, c3, rfl⟩ : ∃ A3 c3, v3 = .slice A3 (q + 1) c3 := by
          rcases hl3 with ⟨_, h2⟩ | ⟨g, cap, h3, _⟩
          · have h4 := congrArg List.length h2
            simp at h4
          · exact ⟨_, _, by rw [h3, List.replicate_succ', ← List.append_assoc, List.length_append, HML.out]; rfl⟩
        clear ho3 hg3 hat3 hgr hnot hl3 e7 HA HS
        have f7 := HB3.out.frozen 7
        have e73 := HB3.out.cell 7)
      have HB4 := Lib.hid (HB3.out.put (cs' := #[.string key, .int .i64 3, .int .u64 (m + 1), .int .i64 s2, .int .i64 le, .int .i64 v, .bool o2, .slice A3 (q + 1) c3]) 7 (.slice A3 (q + 1) c3) rfl)
      go_roundw
      case rel => exact ⟨j + 1, A3, q + 1, c3, by have := HM.out; omega, by have := HM.out; omega, HB4.out, HZ3.out.far (b := w.heap.size + 1 + 1) (by omega) 7 _, HO3.out.keep (S := [w.heap.size + 1 + 1]) ((Fr.refl _ w3).set (b := w.heap.size + 1 + 1) (.inl (by simp)) 7 _) (fun x hx h => by have h1 := (HO3.out.lt x h).1; simp at hx; omega), HF3.out.set (b := w.heap.size + 1 + 1) (.inr (by omega)) 7 _⟩
      case measure =>
        rw [HB4.out.cell 7, HB.out.cell 7]
        simp [lenV]
        omega
    · have hmx : bs.length + j = max bs.length (b + 1) := by have := HM.out; omega
      have HE := Lib.hid (show bs ++ List.replicate j (0 : Int) = ext bs b by
        unfold ext
        congr 2
        omega)
      rw [HE.out] at HO HML
      have HBX := Lib.hid (getD_bd (ext_bd (m := 1000) HBD.out (by decide) b) (by decide) b)
      obtain ⟨x, hx⟩ : ∃ x, x = (ext bs b).getD b 0 := ⟨_, rfl⟩
      have HXX := Lib.hid (show (ext bs b).set b (x + 1) = bump bs b by unfold bump; rw [hx])
      rw [← hx] at HBX
      obtain ⟨u0, u1⟩ := HBX.out
      have HCX := Lib.hid (rcount_f x ⟨u0, by omega⟩)
      have hlt2 : b < q := by omega
      rcases HO.out.form with ⟨_, h2⟩ | ⟨gb, cap, h3, hg0, _, hcap, hcell⟩
      · rw [h2] at HML
        have := HML.out
        simp at this
        omega
      · rw [HML.out] at h3 hcap
        simp only [Value.slice.injEq, true_and] at h3
        obtain ⟨rfl, rfl⟩ := h3
        have h4 := hcell b (by rw [HML.out]; exact hlt2)
        rw [← hx] at h4
        obtain ⟨e2, f2⟩ := h4
        have e1 : wr.cell? ⟨w.heap.size + 1 + 1, 7, none⟩ = some (.slice (some ⟨gb, 0, none⟩) q c2) := HB.out.cell 7
        have HST := Lib.hid (show ∀ N, Ow ((wr.drewN N).setCell ⟨gb, b, none⟩ (.int .u64 (x + 1))) (w.heap.size + 1 + 1 + 1) (.slice (some ⟨gb, 0, none⟩) q c2) (bump bs b) from fun N => by
          rw [← HXX.out]
          have h := HO.out
          rw [← HML.out] at h ⊢
          exact Ow.store (w := wr.drewN N) h b (x + 1) (by rw [HML.out]; exact hlt2))
        clear hcell hx hlt hmx HO HBX
        have hg1 : gb ≠ w.heap.size + 1 + 1 := by omega
        have hg2 : gb ≠ w.heap.size + 1 := by omega
        go_wp2_with fail
        refine start_ (n := 14) (S := fun w' => w'.cell? ⟨w.heap.size + 1 + 1, 7, none⟩ = some (.slice (some ⟨gb, 0, none⟩) q c2) ∧ w'.cell? ⟨gb, b, none⟩ = some (.int .u64 x)) (ds := [13]) #[false, false, false, false, false, false, false, false, false, false, false, false, false, false] (by kernel_rfl) rfl rfl ⟨e1, e2⟩ (fun hHeld => ?_)
        refine pure_ (i := 0) (N := some 89) (v := ?_) (a' := ?_) #[true, false, false, false, false, false, false, false, false, false, false, false, false, false] rfl rfl (by kernel_rfl) (fun _ _ _ h => h) (Or.inl ⟨by rfl, ?_⟩) ?_ ?_
        rotate_left
        · intro w'
          go_simp
          with_reducible rfl
        rotate_left
        · simp only [Act.put, List.setIfInBounds_toArray, List.set_cons_zero, List.set_cons_succ, i64_w, i32_w]
          rfl
        refine pure_ (i := 2) (N := some 91) (v := ?_) (a' := ?_) #[true, false, true, false, false, false, false, false, false, false, false, false, false, false] rfl rfl (by kernel_rfl) (fun _ _ _ h => h) (Or.inl ⟨by rfl, ?_⟩) ?_ ?_
        rotate_left
        · intro w'
          go_simp
          with_reducible rfl
        rotate_left
        · simp only [Act.put, List.setIfInBounds_toArray, List.set_cons_zero, List.set_cons_succ, i64_w, i32_w]
          rfl
        refine pure_ (i := 3) (N := some 92) (v := ?_) (a' := ?_) #[true, false, true, true, false, false, false, false, false, false, false, false, false, false] rfl rfl (by kernel_rfl) (fun _ _ _ h => h) (Or.inl ⟨by rfl, ?_⟩) ?_ ?_
        rotate_left
        · intro w'
          go_simp
          with_reducible rfl
        rotate_left
        · simp only [Act.put, List.setIfInBounds_toArray, List.set_cons_zero, List.set_cons_succ, i64_w, i32_w]
          rfl
        refine pure_ (i := 5) (N := some 94) (v := ?_) (a' := ?_) #[true, false, true, true, false, true, false, false, false, false, false, false, false, false] rfl rfl (by kernel_rfl) (fun _ _ _ h => h) (Or.inl ⟨by rfl, ?_⟩) ?_ ?_
        rotate_left
        · intro w'
          go_simp
          with_reducible rfl
        rotate_left
        · simp only [Act.put, List.setIfInBounds_toArray, List.set_cons_zero, List.set_cons_succ, i64_w, i32_w]
          rfl
        refine take_ (i := 1) (N := some 90) (v := ?_) (a' := ?_) #[true, true, true, true, false, true, false, false, false, false, false, false, false, false] rfl rfl (by kernel_rfl) (fun _ _ _ h => h) (Or.inl ⟨by rfl, ?_⟩) hHeld ?_ ?_
        rotate_left
        · rintro w' ⟨s0, s1⟩
          go_simp
          with_reducible rfl
        rotate_left
        · simp only [Act.put, List.setIfInBounds_toArray, List.set_cons_zero, List.set_cons_succ, i64_w, i32_w]
          rfl
        refine take_ (i := 4) (N := some 93) (v := ?_) (a' := ?_) #[true, true, true, true, true, true, false, false, false, false, false, false, false, false] rfl rfl (by kernel_rfl) (fun _ _ _ h => h) (Or.inl ⟨by rfl, ?_⟩) hHeld ?_ ?_
        rotate_left
        · rintro w' ⟨s0, s1⟩
          go_simp
          with_reducible rfl
        rotate_left
        · simp only [Act.put, List.setIfInBounds_toArray, List.set_cons_zero, List.set_cons_succ, i64_w, i32_w]
          rfl
        refine pure_ (i := 6) (N := some 95) (v := ?_) (a' := ?_) #[true, true, true, true, true, true, true, false, false, false, false, false, false, false] rfl rfl (by kernel_rfl) (fun _ _ _ h => h) (Or.inl ⟨by rfl, ?_⟩) ?_ ?_
        rotate_left
        · intro w'
          go_simp
          with_reducible rfl
        rotate_left
        · simp only [Act.put, List.setIfInBounds_toArray, List.set_cons_zero, List.set_cons_succ, i64_w, i32_w]
          rfl
        refine take_ (i := 7) (N := some 96) (v := ?_) (a' := ?_) #[true, true, true, true, true, true, true, true, false, false, false, false, false, false] rfl rfl (by kernel_rfl) (fun _ _ _ h => h) (Or.inl ⟨by rfl, ?_⟩) hHeld ?_ ?_
        rotate_left
        · rintro w' ⟨s0, s1⟩
          go_simp
          with_reducible rfl
        rotate_left
        · simp only [Act.put, List.setIfInBounds_toArray, List.set_cons_zero, List.set_cons_succ, i64_w, i32_w]
          rfl
        refine one_ (i := 8) (N := some 97) #[true, true, true, true, true, true, true, true, true, false, false, false, false, false] rfl rfl (by kernel_rfl) (by decide) (fun K hK => ?_)
        refine goes_ Try.func60 (by kernel_rfl) rfl #[.int .u64 x, .int .u64 1] (by rfl) rfl rfl (by simp only [List.map_toArray, List.map_cons, List.map_nil]; rfl) ?_
        with_reducible refine (PTallyFolds.nogginref01_Count.calls x 1 (x + 1) false _ HCX.out).mono ?_
        rintro e w9 ⟨rfl, hd⟩
        refine ⟨_, rfl, ?_⟩
        obtain ⟨N, rfl⟩ := hd.out
        clear hd
        refine hK.out _ _ ⟨e1, e2⟩ (fun hHeld => ?_)
        clear hK K
        refine norm_ (a' := ?_) ?_ ?_
        rotate_left
        · show Act.put _ (some 97) _ = _
          simp only [Act.put, List.setIfInBounds_toArray, List.set_cons_zero, List.set_cons_succ, i64_w, i32_w]
          rfl
        refine pure_ (i := 9) (N := some 88) (v := ?_) (a' := ?_) #[true, true, true, true, true, true, true, true, true, true, false, false, false, false] rfl rfl (by kernel_rfl) (fun _ _ _ h => h) (Or.inl ⟨by rfl, ?_⟩) ?_ ?_
        rotate_left
        · intro w'
          go_simp
          with_reducible rfl
        rotate_left
        · simp only [Act.put, List.setIfInBounds_toArray, List.set_cons_zero, List.set_cons_succ, i64_w, i32_w]
          rfl
        refine pure_ (i := 10) (N := some 98) (v := ?_) (a' := ?_) #[true, true, true, true, true, true, true, true, true, true, true, false, false, false] rfl rfl (by kernel_rfl) (fun _ _ _ h => h) (Or.inl ⟨by rfl, ?_⟩) ?_ ?_
        rotate_left
        · intro w'
          go_simp
          with_reducible rfl
        rotate_left
        · simp only [Act.put, List.setIfInBounds_toArray, List.set_cons_zero, List.set_cons_succ, i64_w, i32_w]
          rfl
        refine pure_ (i := 11) (N := some 99) (v := ?_) (a' := ?_) #[true, true, true, true, true, true, true, true, true, true, true, true, false, false] rfl rfl (by kernel_rfl) (fun _ _ _ h => h) (Or.inl ⟨by rfl, ?_⟩) ?_ ?_
        rotate_left
        · intro w'
          go_simp
          with_reducible rfl
        rotate_left
        · simp only [Act.put, List.setIfInBounds_toArray, List.set_cons_zero, List.set_cons_succ, i64_w, i32_w]
          rfl
        refine pure_ (i := 12) (N := some 100) (v := ?_) (a' := ?_) #[true, true, true, true, true, true, true, true, true, true, true, true, true, false] rfl rfl (by kernel_rfl) (fun _ _ _ h => h) (Or.inl ⟨by rfl, ?_⟩) ?_ ?_
        rotate_left
        · intro w'
          go_simp
          with_reducible rfl
        rotate_left
        · simp only [Act.put, List.setIfInBounds_toArray, List.set_cons_zero, List.set_cons_succ, i64_w, i32_w]
          rfl
        refine last_ (i := 13) (N := none) #[true, true, true, true, true, true, true, true, true, true, true, true, true, true] rfl rfl (by kernel_rfl) (by decide) (fun K hK => ?_)
        refine skip_ (w1 := ?_) (by rfl) rfl ?_ ?_
        rotate_left
        · go_simp
          rfl
        refine hK.out _ _ ?_
        clear hK K
        refine done_ (by kernel_rfl) ?_
        have HB9 := Lib.hid ((HB.out.drewN (1 + N)).far (b := gb) hg1.symm b (.int .u64 (x + 1)))
        have HZ9 := Lib.hid ((HZ.out.drewN (1 + N)).far (b := gb) hg2.symm b (.int .u64 (x + 1)))
        have HF9 := Lib.hid ((HF.out.drewN (1 + N)).set (b := gb) (.inr (by omega)) b (.int .u64 (x + 1)))
        have HO9 := Lib.hid (HST.out (1 + N))
        clear HST HB HZ HF e1 e2 f2
        generalize (wr.drewN (1 + N)).setCell ⟨gb, b, none⟩ (.int .u64 (x + 1)) = w9 at HB9 HZ9 HF9 HO9 ⊢
        obtain ⟨x0, x1, x2, x3, x4, x5, x6, x7, y0, y1, y2, y3, y4, y5, y6, y7⟩ := blk8 HB9.out
        obtain ⟨q0, q1, q2, q3, q4, q5, q6, q7, p0, p1, p2, p3, p4, p5, p6, p7⟩ := blk8 HZ9.out
        go_wp2_with fail
        refine ret_row (g := w.heap.size + 1) (cs := #[.string key, .int .i64 3, .int .u64 (m + 1), .int .i64 s2, .int .i64 le, .int .i64 v, .bool o2, .slice (some ⟨gb, 0, none⟩) q c2]) (Blk.fill8 HZ9.out rfl _ _ _ _ _ _ _ _) rfl rfl rfl ?_
        rw [HQ.out, HAE.out]
        refine ⟨.slice (some ⟨gb, 0, none⟩) q c2, rfl, ?_, ?_⟩
        · exact Ow.base (b := w.heap.size + 1 + 1 + 1) (HO9.out.keep (S := [w.heap.size + 1]) (Fr.fill8 (g := w.heap.size + 1) (Fr.refl _ w9) (.inl (by simp)) _ _ _ _ _ _ _ _) (fun x hx h => by have h1 := (HO9.out.lt x h).1; simp at hx; omega)) (by omega)
        · exact Fr.fill8 (g := w.heap.size + 1) HF9.out (.inr (by omega)) _ _ _ _ _ _ _ _

set_option maxRecDepth 100000 in
set_option maxHeartbeats 4000000 in
theorem come_histotG (key : ByteArray) (m s le mo : Int) (bs : List Int) (k base : Nat) (A : Option Addr) (c : Nat) (v : Int) (hv : I64 v) (hk : 1 ≤ k ∧ k ≤ 1000) (ho : Ok k ⟨3, m, s, le, mo, true, bs⟩) (hlt : le ≤ v) (hgt : mo < v) (w : World) (hO : Ow w base (.slice A bs.length c) bs) :
    Calls Try.prog 40 #[RowV key ⟨3, m, s, le, mo, true, bs⟩ (.slice A bs.length c), .int .i64 v] w (Ret key (addR ⟨3, m, s, le, mo, true, bs⟩ v) w) := by
  have hm0 : m = (k : Int) := ho.many
  have HCF := Lib.hid (rcount_f m ⟨by omega, by omega⟩)
  have hlen : bs.length ≤ 64 := by have := ho.len; simpa using this
  have HBD := Lib.hid (show ∀ x ∈ bs, 0 ≤ x ∧ x ≤ 1000 from fun x hx => by have := ho.b x (by simpa using hx); omega)
  have hmp : decide ((0 : Int) < m) = true := by simp; omega
  have HAF := Lib.hid (radd_f s v ho.sum hv)
  obtain ⟨s2, hs2⟩ : ∃ s2, s2 = (sadd s v).1 := ⟨_, rfl⟩
  obtain ⟨o2, ho2⟩ : ∃ o2, o2 = (sadd s v).2 := ⟨_, rfl⟩
  rw [show sadd s v = (s2, o2) by rw [hs2, ho2]] at HAF
  have hcl : decide (v < le) = false := by simp; omega
  have hcg : decide (mo < v) = true := by simp; omega
  have hbl := bl_le v hv
  obtain ⟨b, hbe⟩ : ∃ b, b = bl v := ⟨_, rfl⟩
  have HBE := Lib.hid hbe
  rw [← hbe] at hbl
  have HAE := Lib.hid (show addR ⟨3, m, s, le, mo, true, bs⟩ v = ⟨3, (m + 1), s2, le, v, true, bump bs b⟩ by
    unfold addR
    have e1 : (if v < le then v else le) = le := by split <;> omega
    have e2 : (if mo < v then v else mo) = v := by split <;> omega
    simp [e1, e2, hs2, ho2, hbe])
  have HV := Lib.hid hv
  have HEU := Lib.hid EU
  have HO := Lib.hid (show Ow w base (.slice A bs.length c) bs from hO)
  obtain ⟨n, hn⟩ : ∃ n, n = bs.length := ⟨_, rfl⟩
  have HN := Lib.hid hn
  rw [← hn] at HO hlen ⊢
  obtain ⟨Q, hQ⟩ : ∃ Q, Q = Ret key (addR ⟨3, m, s, le, mo, true, bs⟩ v) w := ⟨_, rfl⟩
  have HQ := Lib.hid hQ
  rw [← hQ]
  clear hm0 ho hO hlt hgt hs2 ho2 hbe hv hn hQ
  show Calls Try.prog _ #[.agg #[.string key, .int .i64 3, .int .u64 m, .int .i64 s, .int .i64 le, .int .i64 mo, .bool true, .slice A n c], .int .i64 v] w _
  go_enter Try.func40, Try.ntmps40
  have F3 := (((Fr.refl [] w).alloc (.cells #[.string key, .int .i64 3, .int .u64 m, .int .i64 s, .int .i64 le, .int .i64 mo, .bool true, .slice A n c] 49)).alloc (.cells #[.string ⟨#[]⟩, .int .i64 0, .int .u64 0, .int .i64 0, .int .i64 0, .int .i64 0, .bool false, .slice none 0 0] 49)).alloc (.cells #[.string key, .int .i64 3, .int .u64 1, .int .i64 v, .int .i64 v, .int .i64 v, .bool false, .slice none 0 0] 49)
  have B0 := ((Blk.new w #[.string key, .int .i64 3, .int .u64 m, .int .i64 s, .int .i64 le, .int .i64 mo, .bool true, .slice A n c] 49).alloc (.cells #[.string ⟨#[]⟩, .int .i64 0, .int .u64 0, .int .i64 0, .int .i64 0, .int .i64 0, .bool false, .slice none 0 0] 49)).alloc (.cells #[.string key, .int .i64 3, .int .u64 1, .int .i64 v, .int .i64 v, .int .i64 v, .bool false, .slice none 0 0] 49)
  have BZ := (Blk.new (w.alloc (.cells #[.string key, .int .i64 3, .int .u64 m, .int .i64 s, .int .i64 le, .int .i64 mo, .bool true, .slice A n c] 49)) #[.string ⟨#[]⟩, .int .i64 0, .int .u64 0, .int .i64 0, .int .i64 0, .int .i64 0, .bool false, .slice none 0 0] 49).alloc (.cells #[.string key, .int .i64 3, .int .u64 1, .int .i64 v, .int .i64 v, .int .i64 v, .bool false, .slice none 0 0] 49)
  have BA := Blk.new ((w.alloc (.cells #[.string key, .int .i64 3, .int .u64 m, .int .i64 s, .int .i64 le, .int .i64 mo, .bool true, .slice A n c] 49)).alloc (.cells #[.string ⟨#[]⟩, .int .i64 0, .int .u64 0, .int .i64 0, .int .i64 0, .int .i64 0, .bool false, .slice none 0 0] 49)) #[.string key, .int .i64 3, .int .u64 1, .int .i64 v, .int .i64 v, .int .i64 v, .bool false, .slice none 0 0] 49
  simp only [size_alloc] at BZ BA
  have HF := Lib.hid F3
  have HB0 := Lib.hid B0
  have HBZ := Lib.hid BZ
  have HBA := Lib.hid BA
  clear F3 B0 BZ BA
  go_wp2_with fail
  refine (PTallyFolds.nogginref01_Count.calls m 1 (m + 1) false _ HCF.out).mono ?_
  rintro e w4 ⟨rfl, hd⟩
  have F := HF.out
  have BA := HBA.out
  have B0 := HB0.out
  have BZ := HBZ.out
  replace F := F.trans (Fr.of_drawn hd)
  replace BA := BA.keep (Fr.of_drawn hd) (by simp)
  replace B0 := B0.keep (Fr.of_drawn hd) (by simp)
  replace BZ := BZ.keep (Fr.of_drawn hd) (by simp)
  clear hd HF HB0 HBZ HBA
  have HF := Lib.hid F
  have HB0 := Lib.hid B0
  have HBZ := Lib.hid BZ
  have HBA := Lib.hid BA
  clear F BA B0 BZ
  obtain ⟨x0, x1, x2, x3, x4, x5, x6, x7, y0, y1, y2, y3, y4, y5, y6, y7⟩ := blk8 HBA.out
  obtain ⟨z0, z1, z2, z3, z4, z5, z6, z7, t0, t1, t2, t3, t4, t5, t6, t7⟩ := blk8 HB0.out
  go_wp2_with fail
  refine (PTallyFolds.nogginref01_Add.calls 3 s v s2 o2 _ HAF.out).mono ?_
  rintro e w5 ⟨rfl, hd⟩
  have F := HF.out
  have BA := HBA.out
  have B0 := HB0.out
  have BZ := HBZ.out
  replace F := F.set (b := w.heap.size + 1 + 1) (.inr (by omega)) 2 (.int .u64 (m + 1))
  replace BA := BA.put (cs' := #[.string key, .int .i64 3, .int .u64 (m + 1), .int .i64 v, .int .i64 v, .int .i64 v, .bool false, .slice none 0 0]) 2 (.int .u64 (m + 1)) rfl
  replace B0 := B0.far (b := w.heap.size + 1 + 1) (by omega) 2 (.int .u64 (m + 1))
  replace BZ := BZ.far (b := w.heap.size + 1 + 1) (by omega) 2 (.int .u64 (m + 1))
  replace F := F.set (b := w.heap.size + 1 + 1) (.inr (by omega)) 4 (.int .i64 le)
  replace BA := BA.put (cs' := #[.string key, .int .i64 3, .int .u64 (m + 1), .int .i64 v, .int .i64 le, .int .i64 v, .bool false, .slice none 0 0]) 4 (.int .i64 le) rfl
  replace B0 := B0.far (b := w.heap.size + 1 + 1) (by omega) 4 (.int .i64 le)
  replace BZ := BZ.far (b := w.heap.size + 1 + 1) (by omega) 4 (.int .i64 le)
  replace F := F.set (b := w.heap.size + 1 + 1) (.inr (by omega)) 5 (.int .i64 mo)
  replace BA := BA.put (cs' := #[.string key, .int .i64 3, .int .u64 (m + 1), .int .i64 v, .int .i64 le, .int .i64 mo, .bool false, .slice none 0 0]) 5 (.int .i64 mo) rfl
  replace B0 := B0.far (b := w.heap.size + 1 + 1) (by omega) 5 (.int .i64 mo)
  replace BZ := BZ.far (b := w.heap.size + 1 + 1) (by omega) 5 (.int .i64 mo)
  replace F := F.set (b := w.heap.size + 1 + 1) (.inr (by omega)) 6 (.bool true)
  replace BA := BA.put (cs' := #[.string key, .int .i64 3, .int .u64 (m + 1), .int .i64 v, .int .i64 le, .int .i64 mo, .bool true, .slice none 0 0]) 6 (.bool true) rfl
  replace B0 := B0.far (b := w.heap.size + 1 + 1) (by omega) 6 (.bool true)
  replace BZ := BZ.far (b := w.heap.size + 1 + 1) (by omega) 6 (.bool true)
  replace F := F.set (b := w.heap.size + 1 + 1) (.inr (by omega)) 5 (.int .i64 v)
  replace BA := BA.put (cs' := #[.string key, .int .i64 3, .int .u64 (m + 1), .int .i64 v, .int .i64 le, .int .i64 v, .bool true, .slice none 0 0]) 5 (.int .i64 v) rfl
  replace B0 := B0.far (b := w.heap.size + 1 + 1) (by omega) 5 (.int .i64 v)
  replace BZ := BZ.far (b := w.heap.size + 1 + 1) (by omega) 5 (.int .i64 v)
  replace F := F.trans (Fr.of_drawn hd)
  replace BA := BA.keep (Fr.of_drawn hd) (by simp)
  replace B0 := B0.keep (Fr.of_drawn hd) (by simp)
  replace BZ := BZ.keep (Fr.of_drawn hd) (by simp)
  clear hd HF HB0 HBZ HBA x0 x1 x2 x3 x4 x5 x6 x7 y0 y1 y2 y3 y4 y5 y6 y7 z0 z1 z2 z3 z4 z5 z6 z7 t0 t1 t2 t3 t4 t5 t6 t7
  have HF := Lib.hid F
  have HB0 := Lib.hid B0
  have HBZ := Lib.hid BZ
  have HBA := Lib.hid BA
  clear F BA B0 BZ
  obtain ⟨x0, x1, x2, x3, x4, x5, x6, x7, y0, y1, y2, y3, y4, y5, y6, y7⟩ := blk8 HBA.out
  obtain ⟨z0, z1, z2, z3, z4, z5, z6, z7, t0, t1, t2, t3, t4, t5, t6, t7⟩ := blk8 HB0.out
  have F := HF.out
  have BA := HBA.out
  have BZ := HBZ.out
  have B0 := HB0.out
  replace F := F.set (b := w.heap.size + 1 + 1) (.inr (by omega)) 3 (.int .i64 s2)
  replace BA := BA.put (cs' := #[.string key, .int .i64 3, .int .u64 (m + 1), .int .i64 s2, .int .i64 le, .int .i64 v, .bool true, .slice none 0 0]) 3 (.int .i64 s2) rfl
  replace BZ := BZ.far (b := w.heap.size + 1 + 1) (by omega) 3 (.int .i64 s2)
  replace B0 := B0.far (b := w.heap.size + 1 + 1) (by omega) 3 (.int .i64 s2)
  replace F := F.set (b := w.heap.size + 1 + 1) (.inr (by omega)) 6 (.bool true)
  replace BA := BA.put (cs' := #[.string key, .int .i64 3, .int .u64 (m + 1), .int .i64 s2, .int .i64 le, .int .i64 v, .bool true, .slice none 0 0]) 6 (.bool true) rfl
  replace BZ := BZ.far (b := w.heap.size + 1 + 1) (by omega) 6 (.bool true)
  replace B0 := B0.far (b := w.heap.size + 1 + 1) (by omega) 6 (.bool true)
  have HF6 := Lib.hid F
  have HBA6 := Lib.hid BA
  have HBZ6 := Lib.hid BZ
  have HB06 := Lib.hid B0
  have HSRC := Lib.hid ((HO.out.keep0 F).src)
  clear F BA BZ B0
  have hsz := HBA6.out.lt
  go_wp2_with (
    at_builtin
    refine wpList_app (by rfl) _ _ _ (by rfl) (w.heap.size + 1 + 1 + 1) 46 1 8 HEU.out (.slice none 0 0) 0 [] (by rfl) (Ow.nil _ _) (.slice A n c) n (bs.map (Value.int .u64)) (by rfl) (by have h := HSRC.out; rw [← HN.out] at h; exact h) (by omega) (by omega) (by omega) ?_
    intro v6 w6 ho6 hg6 hat6
    have HO6 := Lib.hid (show Ow w6 (w.heap.size + 1 + 1 + 1) v6 bs by unfold Ow; rw [← HN.out, ← Nat.zero_add n]; exact ho6)
    have hF6 := Fr.of_grown (S := []) hg6 (fun k hk => by have h2 : (none : Option Nat) = some k := hk; cases h2)
    have BA7 := HBA6.out.keep hF6 (by simp)
    have BZ7 := HBZ6.out.keep hF6 (by simp)
    have HF7 := Lib.hid (HF6.out.trans hF6)
    have B07 := HB06.out.keep hF6 (by simp)
    clear ho6 hg6 hat6 hF6 HF6 HBA6 HBZ6 HB06 x0 x1 x2 x3 x4 x5 x6 x7 y0 y1 y2 y3 y4 y5 y6 y7 z0 z1 z2 z3 z4 z5 z6 z7 t0 t1 t2 t3 t4 t5 t6 t7
    obtain ⟨A6, n6, c6, rfl⟩ := HO6.out.slice
    have HBA7 := Lib.hid BA7
    have HBZ7 := Lib.hid BZ7
    have HB07 := Lib.hid B07
    clear BA7 BZ7 B07
    obtain ⟨x0, x1, x2, x3, x4, x5, x6, x7, y0, y1, y2, y3, y4, y5, y6, y7⟩ := blk8 HBA7.out
    obtain ⟨q0, q1, q2, q3, q4, q5, q6, q7, p0, p1, p2, p3, p4, p5, p6, p7⟩ := blk8 HBZ7.out
    obtain ⟨z0, z1, z2, z3, z4, z5, z6, z7, t0, t1, t2, t3, t4, t5, t6, t7⟩ := blk8 HB07.out)
  refine (PTallyFolds.nogginref18_Bucket.calls 100 v (bl v) _ (ref_bucket v HV.out)).mono ?_
  rw [← HBE.out]
  rintro e w8 ⟨rfl, hd⟩
  have F := (HF7.out.set (b := w.heap.size + 1 + 1) (.inr (by omega)) 7 (.slice A6 n6 c6)).trans (Fr.of_drawn hd)
  have BA := (HBA7.out.put (cs' := #[.string key, .int .i64 3, .int .u64 (m + 1), .int .i64 s2, .int .i64 le, .int .i64 v, .bool true, .slice A6 n6 c6]) 7 (.slice A6 n6 c6) rfl).keep (Fr.of_drawn hd) (by simp)
  have BZ := (HBZ7.out.far (b := w.heap.size + 1 + 1) (by omega) 7 (.slice A6 n6 c6)).keep (Fr.of_drawn hd) (by simp)
  have O8 := (HO6.out.keep (S := [w.heap.size + 1 + 1]) ((Fr.refl _ w6).set (b := w.heap.size + 1 + 1) (.inl (by simp)) 7 (.slice A6 n6 c6)) (fun x hx h => by have h1 := (HO6.out.lt x h).1; simp at hx; omega)).keep0 (Fr.of_drawn hd)
  have HBA8 := Lib.hid BA
  have HBZ8 := Lib.hid BZ
  have HO8 := Lib.hid O8
  have HF8 := Lib.hid F
  clear hd F BA BZ O8 HF7 HBA7 HBZ7 HO6 HB07 x0 x1 x2 x3 x4 x5 x6 x7 y0 y1 y2 y3 y4 y5 y6 y7 z0 z1 z2 z3 z4 z5 z6 z7 t0 t1 t2 t3 t4 t5 t6 t7 q0 q1 q2 q3 q4 q5 q6 q7 p0 p1 p2 p3 p4 p5 p6 p7
  have HLB := Lib.hid (show bs.length ≤ 64 by have := HN.out; omega)
  go_wp2_with fail
  go_loopw [78] (fun _ wr => ∃ j A q c, q = bs.length + j ∧ bs.length + j ≤ max bs.length (b + 1) ∧ Blk wr (w.heap.size + 1 + 1) #[.string key, .int .i64 3, .int .u64 (m + 1), .int .i64 s2, .int .i64 le, .int .i64 v, .bool true, .slice A q c] 49 ∧ Blk wr (w.heap.size + 1) #[.string ⟨#[]⟩, .int .i64 0, .int .u64 0, .int .i64 0, .int .i64 0, .int .i64 0, .bool false, .slice none 0 0] 49 ∧ Ow wr (w.heap.size + 1 + 1 + 1) (.slice A q c) (bs ++ List.replicate j 0) ∧ Fr [] w wr) (fun _ wr => b + 1 - lenV ((wr.cell? ⟨w.heap.size + 1 + 1, 7, none⟩).getD undef))
  case atStart => exact ⟨0, A6, n6, c6, by rw [HO8.out.len]; rfl, by omega, HBA8.out, HBZ8.out, by simpa using HO8.out, HF8.out⟩
  case round =>
    obtain ⟨j, A2, q, c2, hm, hj, hB, hZ, hO, hF⟩ := hrel
    clear HBA8 HBZ8 HO8 HF8
    have HB := Lib.hid hB
    have HZ := Lib.hid hZ
    have HO := Lib.hid hO
    have HF := Lib.hid hF
    have HM := Lib.hid hm
    have hml : (bs ++ List.replicate j (0 : Int)).length = q := by rw [List.length_append, List.length_replicate]; exact hm.symm
    have HML := Lib.hid hml
    have hmb : q ≤ 200 := by have := HLB.out; have := HM.out; omega
    clear hB hZ hO hF hm hml
    by_cases hlt : q ≤ b
    · have e7 : wr.cell? ⟨w.heap.size + 1 + 1, 7, none⟩ = some (.slice A2 q c2) := HB.out.cell 7
      have HA := Lib.hid (HO.out.alloc (.cells #[.int .u64 0] 46))
      have HS := Lib.hid (src_one wr (.int .u64 0) 46 rfl)
      have hsz := HB.out.lt
      go_wp2_with (
        at_builtin
        refine wpList_app (by rfl) _ _ _ (by rfl) (w.heap.size + 1 + 1 + 1) 46 1 8 HEU.out (.slice A2 q c2) q ((bs ++ List.replicate j (0 : Int)).map (Value.int .u64)) (by rfl) (by have h := HA.out; unfold Ow at h; rw [HML.out] at h; exact h) (.slice (some ⟨wr.heap.size, 0, none⟩) 1 1) 1 [.int .u64 0] (by rfl) HS.out (by omega) (by omega) (by rw [size_alloc]; omega) ?_
        intro v3 w3 ho3 hg3 hat3
        have HO3 := Lib.hid (show Ow w3 (w.heap.size + 1 + 1 + 1) v3 (bs ++ List.replicate (j + 1) 0) by
          unfold Ow
          rw [List.replicate_succ', ← List.append_assoc, List.length_append, List.map_append, HML.out]
          exact ho3)
        have hgr := Fr.of_grown (S := (Value.slice A2 q c2).ownBlock.toList) hg3 (fun k hk => .inl (by rw [hk]; simp))
        have hnot : ∀ x ∈ (Value.slice A2 q c2).ownBlock.toList, w.heap.size + 1 + 1 + 1 ≤ x := fun x hx => (HA.out.lt x (by simpa using hx)).1
        have HF3 := Lib.hid ((HF.out.alloc _).step hgr (fun x hx => .inr (by have := hnot x hx; omega)))
        have HB3 := Lib.hid ((HB.out.alloc _).keep hgr (fun hx => by have := hnot _ hx; omega))
        have HZ3 := Lib.hid ((HZ.out.alloc _).keep hgr (fun hx => by have := hnot _ hx; omega))
        have hl3 := HO3.out.form
        obtain ⟨A3, c3, rfl⟩ : ∃ A3 c3, v3 = .slice A3 (q + 1) c3 := by
          rcases hl3 with ⟨_, h2⟩ | ⟨g, cap, h3, _⟩
          · have h4 := congrArg List.length h2
            simp at h4
          · exact ⟨_, _, by rw [h3, List.replicate_succ', ← List.append_assoc, List.length_append, HML.out]; rfl⟩
        clear ho3 hg3 hat3 hgr hnot hl3 e7 HA HS
        have f7 := HB3.out.frozen 7
        have e73 := HB3.out.cell 7)
      have HB4 := Lib.hid (HB3.out.put (cs' := #[.string key, .int .i64 3, .int .u64 (m + 1), .int .i64 s2, .int .i64 le, .int .i64 v, .bool true, .slice A3 (q + 1) c3]) 7 (.slice A3 (q + 1) c3) rfl)
      go_roundw
      case rel => exact ⟨j + 1, A3, q + 1, c3, by have := HM.out; omega, by have := HM.out; omega, HB4.out, HZ3.out.far (b := w.heap.size + 1 + 1) (by omega) 7 _, HO3.out.keep (S := [w.heap.size + 1 + 1]) ((Fr.refl _ w3).set (b := w.heap.size + 1 + 1) (.inl (by simp)) 7 _) (fun x hx h => by have h1 := (HO3.out.lt x h).1; simp at hx; omega), HF3.out.set (b := w.heap.size + 1 + 1) (.inr (by omega)) 7 _⟩
      case measure =>
        rw [HB4.out.cell 7, HB.out.cell 7]
        simp [lenV]
        omega
    · have hmx : bs.length + j = max bs.length (b + 1) := by have := HM.out; omega
      have HE := Lib.hid (show bs ++ List.replicate j (0 : Int) = ext bs b by
        unfold ext
        congr 2
        omega)
      rw [HE.out] at HO HML
      have HBX := Lib.hid (getD_bd (ext_bd (m := 1000) HBD.out (by decide) b) (by decide) b)
      obtain ⟨x, hx⟩ : ∃ x, x = (ext bs b).getD b 0 := ⟨_, rfl⟩
      have HXX := Lib.hid (show (ext bs b).set b (x + 1) = bump bs b by unfold bump; rw [hx])
      rw [← hx] at HBX
      obtain ⟨u0, u1⟩ := HBX.out
      have HCX := Lib.hid (rcount_f x ⟨u0, by omega⟩)
      have hlt2 : b < q := by omega
      rcases HO.out.form with ⟨_, h2⟩ | ⟨gb, cap, h3, hg0, _, hcap, hcell⟩
      · rw [h2] at HML
        have := HML.out
        simp at this
        omega
      · rw [HML.out] at h3 hcap
        simp only [Value.slice.injEq, true_and] at h3
        obtain ⟨rfl, rfl⟩ := h3
        have h4 := hcell b (by rw [HML.out]; exact hlt2)
        rw [← hx] at h4
        obtain ⟨e2, f2⟩ := h4
        have e1 : wr.cell? ⟨w.heap.size + 1 + 1, 7, none⟩ = some (.slice (some ⟨gb, 0, none⟩) q c2) := HB.out.cell 7
        have HST := Lib.hid (show ∀ N, Ow ((wr.drewN N).setCell ⟨gb, b, none⟩ (.int .u64 (x + 1))) (w.heap.size + 1 + 1 + 1) (.slice (some ⟨gb, 0, none⟩) q c2) (bump bs b) from fun N => by
          rw [← HXX.out]
          have h := HO.out
          rw [← HML.out] at h ⊢
          exact Ow.store (w := wr.drewN N) h b (x + 1) (by rw [HML.out]; exact hlt2))
        clear hcell hx hlt hmx HO HBX
        have hg1 : gb ≠ w.heap.size + 1 + 1 := by omega
        have hg2 : gb ≠ w.heap.size + 1 := by omega
        go_wp2_with fail
        refine start_ (n := 14) (S := fun w' => w'.cell? ⟨w.heap.size + 1 + 1, 7, none⟩ = some (.slice (some ⟨gb, 0, none⟩) q c2) ∧ w'.cell? ⟨gb, b, none⟩ = some (.int .u64 x)) (ds := [13]) #[false, false, false, false, false, false, false, false, false, false, false, false, false, false] (by kernel_rfl) rfl rfl ⟨e1, e2⟩ (fun hHeld => ?_)
        refine pure_ (i := 0) (N := some 89) (v := ?_) (a' := ?_) #[true, false, false, false, false, false, false, false, false, false, false, false, false, false] rfl rfl (by kernel_rfl) (fun _ _ _ h => h) (Or.inl ⟨by rfl, ?_⟩) ?_ ?_
        rotate_left
        · intro w'
          go_simp
          with_reducible rfl
        rotate_left
        · simp only [Act.put, List.setIfInBounds_toArray, List.set_cons_zero, List.set_cons_succ, i64_w, i32_w]
          rfl
        refine pure_ (i := 2) (N := some 91) (v := ?_) (a' := ?_) #[true, false, true, false, false, false, false, false, false, false, false, false, false, false] rfl rfl (by kernel_rfl) (fun _ _ _ h => h) (Or.inl ⟨by rfl, ?_⟩) ?_ ?_
        rotate_left
        · intro w'
          go_simp
          with_reducible rfl
        rotate_left
        · simp only [Act.put, List.setIfInBounds_toArray, List.set_cons_zero, List.set_cons_succ, i64_w, i32_w]
          rfl
        refine pure_ (i := 3) (N := some 92) (v := ?_) (a' := ?_) #[true, false, true, true, false, false, false, false, false, false, false, false, false, false] rfl rfl (by kernel_rfl) (fun _ _ _ h => h) (Or.inl ⟨by rfl, ?_⟩) ?_ ?_
        rotate_left
        · intro w'
          go_simp
          with_reducible rfl
        rotate_left
        · simp only [Act.put, List.setIfInBounds_toArray, List.set_cons_zero, List.set_cons_succ, i64_w, i32_w]
          rfl
        refine pure_ (i := 5) (N := some 94) (v := ?_) (a' := ?_) #[true, false, true, true, false, true, false, false, false, false, false, false, false, false] rfl rfl (by kernel_rfl) (fun _ _ _ h => h) (Or.inl ⟨by rfl, ?_⟩) ?_ ?_
        rotate_left
        · intro w'
          go_simp
          with_reducible rfl
        rotate_left
        · simp only [Act.put, List.setIfInBounds_toArray, List.set_cons_zero, List.set_cons_succ, i64_w, i32_w]
          rfl
        refine take_ (i := 1) (N := some 90) (v := ?_) (a' := ?_) #[true, true, true, true, false, true, false, false, false, false, false, false, false, false] rfl rfl (by kernel_rfl) (fun _ _ _ h => h) (Or.inl ⟨by rfl, ?_⟩) hHeld ?_ ?_
        rotate_left
        · rintro w' ⟨s0, s1⟩
          go_simp
          with_reducible rfl
        rotate_left
        · simp only [Act.put, List.setIfInBounds_toArray, List.set_cons_zero, List.set_cons_succ, i64_w, i32_w]
          rfl
        refine take_ (i := 4) (N := some 93) (v := ?_) (a' := ?_) #[true, true, true, true, true, true, false, false, false, false, false, false, false, false] rfl rfl (by kernel_rfl) (fun _ _ _ h => h) (Or.inl ⟨by rfl, ?_⟩) hHeld ?_ ?_
        rotate_left
        · rintro w' ⟨s0, s1⟩
          go_simp
          with_reducible rfl
        rotate_left
        · simp only [Act.put, List.setIfInBounds_toArray, List.set_cons_zero, List.set_cons_succ, i64_w, i32_w]
          rfl
        refine pure_ (i := 6) (N := some 95) (v := ?_) (a' := ?_) #[true, true, true, true, true, true, true, false, false, false, false, false, false, false] rfl rfl (by kernel_rfl) (fun _ _ _ h => h) (Or.inl ⟨by rfl, ?_⟩) ?_ ?_
        rotate_left
        · intro w'
          go_simp
          with_reducible rfl
        rotate_left
        · simp only [Act.put, List.setIfInBounds_toArray, List.set_cons_zero, List.set_cons_succ, i64_w, i32_w]
          rfl
        refine take_ (i := 7) (N := some 96) (v := ?_) (a' := ?_) #[true, true, true, true, true, true, true, true, false, false, false, false, false, false] rfl rfl (by kernel_rfl) (fun _ _ _ h => h) (Or.inl ⟨by rfl, ?_⟩) hHeld ?_ ?_
        rotate_left
        · rintro w' ⟨s0, s1⟩
          go_simp
          with_reducible rfl
        rotate_left
        · simp only [Act.put, List.setIfInBounds_toArray, List.set_cons_zero, List.set_cons_succ, i64_w, i32_w]
          rfl
        refine one_ (i := 8) (N := some 97) #[true, true, true, true, true, true, true, true, true, false, false, false, false, false] rfl rfl (by kernel_rfl) (by decide) (fun K hK => ?_)
        refine goes_ Try.func60 (by kernel_rfl) rfl #[.int .u64 x, .int .u64 1] (by rfl) rfl rfl (by simp only [List.map_toArray, List.map_cons, List.map_nil]; rfl) ?_
        with_reducible refine (PTallyFolds.nogginref01_Count.calls x 1 (x + 1) false _ HCX.out).mono ?_
        rintro e w9 ⟨rfl, hd⟩
        refine ⟨_, rfl, ?_⟩
        obtain ⟨N, rfl⟩ := hd.out
        clear hd
        refine hK.out _ _ ⟨e1, e2⟩ (fun hHeld => ?_)
        clear hK K
        refine norm_ (a' := ?_) ?_ ?_
        rotate_left
        · show Act.put _ (some 97) _ = _
          simp only [Act.put, List.setIfInBounds_toArray, List.set_cons_zero, List.set_cons_succ, i64_w, i32_w]
          rfl
        refine pure_ (i := 9) (N := some 88) (v := ?_) (a' := ?_) #[true, true, true, true, true, true, true, true, true, true, false, false, false, false] rfl rfl (by kernel_rfl) (fun _ _ _ h => h) (Or.inl ⟨by rfl, ?_⟩) ?_ ?_
        rotate_left
        · intro w'
          go_simp
          with_reducible rfl
        rotate_left
        · simp only [Act.put, List.setIfInBounds_toArray, List.set_cons_zero, List.set_cons_succ, i64_w, i32_w]
          rfl
        refine pure_ (i := 10) (N := some 98) (v := ?_) (a' := ?_) #[true, true, true, true, true, true, true, true, true, true, true, false, false, false] rfl rfl (by kernel_rfl) (fun _ _ _ h => h) (Or.inl ⟨by rfl, ?_⟩) ?_ ?_
        rotate_left
        · intro w'
          go_simp
          with_reducible rfl
        rotate_left
        · simp only [Act.put, List.setIfInBounds_toArray, List.set_cons_zero, List.set_cons_succ, i64_w, i32_w]
          rfl
        refine pure_ (i := 11) (N := some 99) (v := ?_) (a' := ?_) #[true, true, true, true, true, true, true, true, true, true, true, true, false, false] rfl rfl (by kernel_rfl) (fun _ _ _ h => h) (Or.inl ⟨by rfl, ?_⟩) ?_ ?_
        rotate_left
        · intro w'
          go_simp
          with_reducible rfl
        rotate_left
        · simp only [Act.put, List.setIfInBounds_toArray, List.set_cons_zero, List.set_cons_succ, i64_w, i32_w]
          rfl
        refine pure_ (i := 12) (N := some 100) (v := ?_) (a' := ?_) #[true, true, true, true, true, true, true, true, true, true, true, true, true, false] rfl rfl (by kernel_rfl) (fun _ _ _ h => h) (Or.inl ⟨by rfl, ?_⟩) ?_ ?_
        rotate_left
        · intro w'
          go_simp
          with_reducible rfl
        rotate_left
        · simp only [Act.put, List.setIfInBounds_toArray, List.set_cons_zero, List.set_cons_succ, i64_w, i32_w]
          rfl
        refine last_ (i := 13) (N := none) #[true, true, true, true, true, true, true, true, true, true, true, true, true, true] rfl rfl (by kernel_rfl) (by decide) (fun K hK => ?_)
        refine skip_ (w1 := ?_) (by rfl) rfl ?_ ?_
        rotate_left
        · go_simp
          rfl
        refine hK.out _ _ ?_
        clear hK K
        refine done_ (by kernel_rfl) ?_
        have HB9 := Lib.hid ((HB.out.drewN (1 + N)).far (b := gb) hg1.symm b (.int .u64 (x + 1)))
        have HZ9 := Lib.hid ((HZ.out.drewN (1 + N)).far (b := gb) hg2.symm b (.int .u64 (x + 1)))
        have HF9 := Lib.hid ((HF.out.drewN (1 + N)).set (b := gb) (.inr (by omega)) b (.int .u64 (x + 1)))
        have HO9 := Lib.hid (HST.out (1 + N))
        clear HST HB HZ HF e1 e2 f2
        generalize (wr.drewN (1 + N)).setCell ⟨gb, b, none⟩ (.int .u64 (x + 1)) = w9 at HB9 HZ9 HF9 HO9 ⊢
        obtain ⟨x0, x1, x2, x3, x4, x5, x6, x7, y0, y1, y2, y3, y4, y5, y6, y7⟩ := blk8 HB9.out
        obtain ⟨q0, q1, q2, q3, q4, q5, q6, q7, p0, p1, p2, p3, p4, p5, p6, p7⟩ := blk8 HZ9.out
        go_wp2_with fail
        refine ret_row (g := w.heap.size + 1) (cs := #[.string key, .int .i64 3, .int .u64 (m + 1), .int .i64 s2, .int .i64 le, .int .i64 v, .bool true, .slice (some ⟨gb, 0, none⟩) q c2]) (Blk.fill8 HZ9.out rfl _ _ _ _ _ _ _ _) rfl rfl rfl ?_
        rw [HQ.out, HAE.out]
        refine ⟨.slice (some ⟨gb, 0, none⟩) q c2, rfl, ?_, ?_⟩
        · exact Ow.base (b := w.heap.size + 1 + 1 + 1) (HO9.out.keep (S := [w.heap.size + 1]) (Fr.fill8 (g := w.heap.size + 1) (Fr.refl _ w9) (.inl (by simp)) _ _ _ _ _ _ _ _) (fun x hx h => by have h1 := (HO9.out.lt x h).1; simp at hx; omega)) (by omega)
        · exact Fr.fill8 (g := w.heap.size + 1) HF9.out (.inr (by omega)) _ _ _ _ _ _ _ _

set_option maxRecDepth 100000 in
set_option maxHeartbeats 4000000 in
theorem come_histofL (key : ByteArray) (m s le mo : Int) (bs : List Int) (k base : Nat) (A : Option Addr) (c : Nat) (v : Int) (hv : I64 v) (hk : 1 ≤ k ∧ k ≤ 1000) (ho : Ok k ⟨3, m, s, le, mo, false, bs⟩) (hlt : v < le) (hgt : v ≤ mo) (w : World) (hO : Ow w base (.slice A bs.length c) bs) :
    Calls Try.prog 40 #[RowV key ⟨3, m, s, le, mo, false, bs⟩ (.slice A bs.length c), .int .i64 v] w (Ret key (addR ⟨3, m, s, le, mo, false, bs⟩ v) w) := by
  have hm0 : m = (k : Int) := ho.many
  have HCF := Lib.hid (rcount_f m ⟨by omega, by omega⟩)
  have hlen : bs.length ≤ 64 := by have := ho.len; simpa using this
  have HBD := Lib.hid (show ∀ x ∈ bs, 0 ≤ x ∧ x ≤ 1000 from fun x hx => by have := ho.b x (by simpa using hx); omega)
  have hmp : decide ((0 : Int) < m) = true := by simp; omega
  have HAF := Lib.hid (radd_f s v ho.sum hv)
  obtain ⟨s2, hs2⟩ : ∃ s2, s2 = (sadd s v).1 := ⟨_, rfl⟩
  obtain ⟨o2, ho2⟩ : ∃ o2, o2 = (sadd s v).2 := ⟨_, rfl⟩
  rw [show sadd s v = (s2, o2) by rw [hs2, ho2]] at HAF
  have hcl : decide (v < le) = true := by simp; omega
  have hcg : decide (mo < v) = false := by simp; omega
  have hbl := bl_le v hv
  obtain ⟨b, hbe⟩ : ∃ b, b = bl v := ⟨_, rfl⟩
  have HBE := Lib.hid hbe
  rw [← hbe] at hbl
  have HAE := Lib.hid (show addR ⟨3, m, s, le, mo, false, bs⟩ v = ⟨3, (m + 1), s2, v, mo, o2, bump bs b⟩ by
    unfold addR
    have e1 : (if v < le then v else le) = v := by split <;> omega
    have e2 : (if mo < v then v else mo) = mo := by split <;> omega
    simp [e1, e2, hs2, ho2, hbe])
  have HV := Lib.hid hv
  have HEU := Lib.hid EU
  have HO := Lib.hid (show Ow w base (.slice A bs.length c) bs from hO)
  obtain ⟨n, hn⟩ : ∃ n, n = bs.length := ⟨_, rfl⟩
  have HN := Lib.hid hn
  rw [← hn] at HO hlen ⊢
  obtain ⟨Q, hQ⟩ : ∃ Q, Q = Ret key (addR ⟨3, m, s, le, mo, false, bs⟩ v) w := ⟨_, rfl⟩
  have HQ := Lib.hid hQ
  rw [← hQ]
  clear hm0 ho hO hlt hgt hs2 ho2 hbe hv hn hQ
  show Calls Try.prog _ #[.agg #[.string key, .int .i64 3, .int .u64 m, .int .i64 s, .int .i64 le, .int .i64 mo, .bool false, .slice A n c], .int .i64 v] w _
  go_enter Try.func40, Try.ntmps40
  have F3 := (((Fr.refl [] w).alloc (.cells #[.string key, .int .i64 3, .int .u64 m, .int .i64 s, .int .i64 le, .int .i64 mo, .bool false, .slice A n c] 49)).alloc (.cells #[.string ⟨#[]⟩, .int .i64 0, .int .u64 0, .int .i64 0, .int .i64 0, .int .i64 0, .bool false, .slice none 0 0] 49)).alloc (.cells #[.string key, .int .i64 3, .int .u64 1, .int .i64 v, .int .i64 v, .int .i64 v, .bool false, .slice none 0 0] 49)
  have B0 := ((Blk.new w #[.string key, .int .i64 3, .int .u64 m, .int .i64 s, .int .i64 le, .int .i64 mo, .bool false, .slice A n c] 49).alloc (.cells #[.string ⟨#[]⟩, .int .i64 0, .int .u64 0, .int .i64 0, .int .i64 0, .int .i64 0, .bool false, .slice none 0 0] 49)).alloc (.cells #[.string key, .int .i64 3, .int .u64 1, .int .i64 v, .int .i64 v, .int .i64 v, .bool false, .slice none 0 0] 49)
  have BZ := (Blk.new (w.alloc (.cells #[.string key, .int .i64 3, .int .u64 m, .int .i64 s, .int .i64 le, .int .i64 mo, .bool false, .slice A n c] 49)) #[.string ⟨#[]⟩, .int .i64 0, .int .u64 0, .int .i64 0, .int .i64 0, .int .i64 0, .bool false, .slice none 0 0] 49).alloc (.cells #[.string key, .int .i64 3, .int .u64 1, .int .i64 v, .int .i64 v, .int .i64 v, .bool false, .slice none 0 0] 49)
  have BA := Blk.new ((w.alloc (.cells #[.string key, .int .i64 3, .int .u64 m, .int .i64 s, .int .i64 le, .int .i64 mo, .bool false, .slice A n c] 49)).alloc (.cells #[.string ⟨#[]⟩, .int .i64 0, .int .u64 0, .int .i64 0, .int .i64 0, .int .i64 0, .bool false, .slice none 0 0] 49)) #[.string key, .int .i64 3, .int .u64 1, .int .i64 v, .int .i64 v, .int .i64 v, .bool false, .slice none 0 0] 49
  simp only [size_alloc] at BZ BA
  have HF := Lib.hid F3
  have HB0 := Lib.hid B0
  have HBZ := Lib.hid BZ
  have HBA := Lib.hid BA
  clear F3 B0 BZ BA
  go_wp2_with fail
  refine (PTallyFolds.nogginref01_Count.calls m 1 (m + 1) false _ HCF.out).mono ?_
  rintro e w4 ⟨rfl, hd⟩
  have F := HF.out
  have BA := HBA.out
  have B0 := HB0.out
  have BZ := HBZ.out
  replace F := F.trans (Fr.of_drawn hd)
  replace BA := BA.keep (Fr.of_drawn hd) (by simp)
  replace B0 := B0.keep (Fr.of_drawn hd) (by simp)
  replace BZ := BZ.keep (Fr.of_drawn hd) (by simp)
  clear hd HF HB0 HBZ HBA
  have HF := Lib.hid F
  have HB0 := Lib.hid B0
  have HBZ := Lib.hid BZ
  have HBA := Lib.hid BA
  clear F BA B0 BZ
  obtain ⟨x0, x1, x2, x3, x4, x5, x6, x7, y0, y1, y2, y3, y4, y5, y6, y7⟩ := blk8 HBA.out
  obtain ⟨z0, z1, z2, z3, z4, z5, z6, z7, t0, t1, t2, t3, t4, t5, t6, t7⟩ := blk8 HB0.out
  go_wp2_with fail
  refine (PTallyFolds.nogginref01_Add.calls 3 s v s2 o2 _ HAF.out).mono ?_
  rintro e w5 ⟨rfl, hd⟩
  have F := HF.out
  have BA := HBA.out
  have B0 := HB0.out
  have BZ := HBZ.out
  replace F := F.set (b := w.heap.size + 1 + 1) (.inr (by omega)) 2 (.int .u64 (m + 1))
  replace BA := BA.put (cs' := #[.string key, .int .i64 3, .int .u64 (m + 1), .int .i64 v, .int .i64 v, .int .i64 v, .bool false, .slice none 0 0]) 2 (.int .u64 (m + 1)) rfl
  replace B0 := B0.far (b := w.heap.size + 1 + 1) (by omega) 2 (.int .u64 (m + 1))
  replace BZ := BZ.far (b := w.heap.size + 1 + 1) (by omega) 2 (.int .u64 (m + 1))
  replace F := F.set (b := w.heap.size + 1 + 1) (.inr (by omega)) 4 (.int .i64 le)
  replace BA := BA.put (cs' := #[.string key, .int .i64 3, .int .u64 (m + 1), .int .i64 v, .int .i64 le, .int .i64 v, .bool false, .slice none 0 0]) 4 (.int .i64 le) rfl
  replace B0 := B0.far (b := w.heap.size + 1 + 1) (by omega) 4 (.int .i64 le)
  replace BZ := BZ.far (b := w.heap.size + 1 + 1) (by omega) 4 (.int .i64 le)
  replace F := F.set (b := w.heap.size + 1 + 1) (.inr (by omega)) 5 (.int .i64 mo)
  replace BA := BA.put (cs' := #[.string key, .int .i64 3, .int .u64 (m + 1), .int .i64 v, .int .i64 le, .int .i64 mo, .bool false, .slice none 0 0]) 5 (.int .i64 mo) rfl
  replace B0 := B0.far (b := w.heap.size + 1 + 1) (by omega) 5 (.int .i64 mo)
  replace BZ := BZ.far (b := w.heap.size + 1 + 1) (by omega) 5 (.int .i64 mo)
  replace F := F.set (b := w.heap.size + 1 + 1) (.inr (by omega)) 6 (.bool false)
  replace BA := BA.put (cs' := #[.string key, .int .i64 3, .int .u64 (m + 1), .int .i64 v, .int .i64 le, .int .i64 mo, .bool false, .slice none 0 0]) 6 (.bool false) rfl
  replace B0 := B0.far (b := w.heap.size + 1 + 1) (by omega) 6 (.bool false)
  replace BZ := BZ.far (b := w.heap.size + 1 + 1) (by omega) 6 (.bool false)
  replace F := F.set (b := w.heap.size + 1 + 1) (.inr (by omega)) 4 (.int .i64 v)
  replace BA := BA.put (cs' := #[.string key, .int .i64 3, .int .u64 (m + 1), .int .i64 v, .int .i64 v, .int .i64 mo, .bool false, .slice none 0 0]) 4 (.int .i64 v) rfl
  replace B0 := B0.far (b := w.heap.size + 1 + 1) (by omega) 4 (.int .i64 v)
  replace BZ := BZ.far (b := w.heap.size + 1 + 1) (by omega) 4 (.int .i64 v)
  replace F := F.trans (Fr.of_drawn hd)
  replace BA := BA.keep (Fr.of_drawn hd) (by simp)
  replace B0 := B0.keep (Fr.of_drawn hd) (by simp)
  replace BZ := BZ.keep (Fr.of_drawn hd) (by simp)
  clear hd HF HB0 HBZ HBA x0 x1 x2 x3 x4 x5 x6 x7 y0 y1 y2 y3 y4 y5 y6 y7 z0 z1 z2 z3 z4 z5 z6 z7 t0 t1 t2 t3 t4 t5 t6 t7
  have HF := Lib.hid F
  have HB0 := Lib.hid B0
  have HBZ := Lib.hid BZ
  have HBA := Lib.hid BA
  clear F BA B0 BZ
  obtain ⟨x0, x1, x2, x3, x4, x5, x6, x7, y0, y1, y2, y3, y4, y5, y6, y7⟩ := blk8 HBA.out
  obtain ⟨z0, z1, z2, z3, z4, z5, z6, z7, t0, t1, t2, t3, t4, t5, t6, t7⟩ := blk8 HB0.out
  have F := HF.out
  have BA := HBA.out
  have BZ := HBZ.out
  have B0 := HB0.out
  replace F := F.set (b := w.heap.size + 1 + 1) (.inr (by omega)) 3 (.int .i64 s2)
  replace BA := BA.put (cs' := #[.string key, .int .i64 3, .int .u64 (m + 1), .int .i64 s2, .int .i64 v, .int .i64 mo, .bool false, .slice none 0 0]) 3 (.int .i64 s2) rfl
  replace BZ := BZ.far (b := w.heap.size + 1 + 1) (by omega) 3 (.int .i64 s2)
  replace B0 := B0.far (b := w.heap.size + 1 + 1) (by omega) 3 (.int .i64 s2)
  replace F := F.set (b := w.heap.size + 1 + 1) (.inr (by omega)) 6 (.bool o2)
  replace BA := BA.put (cs' := #[.string key, .int .i64 3, .int .u64 (m + 1), .int .i64 s2, .int .i64 v, .int .i64 mo, .bool o2, .slice none 0 0]) 6 (.bool o2) rfl
  replace BZ := BZ.far (b := w.heap.size + 1 + 1) (by omega) 6 (.bool o2)
  replace B0 := B0.far (b := w.heap.size + 1 + 1) (by omega) 6 (.bool o2)
  have HF6 := Lib.hid F
  have HBA6 := Lib.hid BA
  have HBZ6 := Lib.hid BZ
  have HB06 := Lib.hid B0
  have HSRC := Lib.hid ((HO.out.keep0 F).src)
  clear F BA BZ B0
  have hsz := HBA6.out.lt
  go_wp2_with (
    at_builtin
    refine wpList_app (by rfl) _ _ _ (by rfl) (w.heap.size + 1 + 1 + 1) 46 1 8 HEU.out (.slice none 0 0) 0 [] (by rfl) (Ow.nil _ _) (.slice A n c) n (bs.map (Value.int .u64)) (by rfl) (by have h := HSRC.out; rw [← HN.out] at h; exact h) (by omega) (by omega) (by omega) ?_
    intro v6 w6 ho6 hg6 hat6
    have HO6 := Lib.hid (show Ow w6 (w.heap.size + 1 + 1 + 1) v6 bs by unfold Ow; rw [← HN.out, ← Nat.zero_add n]; exact ho6)
    have hF6 := Fr.of_grown (S := []) hg6 (fun k hk => by have h2 : (none : Option Nat) = some k := hk; cases h2)
    have BA7 := HBA6.out.keep hF6 (by simp)
    have BZ7 := HBZ6.out.keep hF6 (by simp)
    have HF7 := Lib.hid (HF6.out.trans hF6)
    have B07 := HB06.out.keep hF6 (by simp)
    clear ho6 hg6 hat6 hF6 HF6 HBA6 HBZ6 HB06 x0 x1 x2 x3 x4 x5 x6 x7 y0 y1 y2 y3 y4 y5 y6 y7 z0 z1 z2 z3 z4 z5 z6 z7 t0 t1 t2 t3 t4 t5 t6 t7
    obtain ⟨A6, n6, c6, rfl⟩ := HO6.out.slice
    have HBA7 := Lib.hid BA7
    have HBZ7 := Lib.hid BZ7
    have HB07 := Lib.hid B07
    clear BA7 BZ7 B07
    obtain ⟨x0, x1, x2, x3, x4, x5, x6, x7, y0, y1, y2, y3, y4, y5, y6, y7⟩ := blk8 HBA7.out
    obtain ⟨q0, q1, q2, q3, q4, q5, q6, q7, p0, p1, p2, p3, p4, p5, p6, p7⟩ := blk8 HBZ7.out
    obtain ⟨z0, z1, z2, z3, z4, z5, z6, z7, t0, t1, t2, t3, t4, t5, t6, t7⟩ := blk8 HB07.out)
  refine (PTallyFolds.nogginref18_Bucket.calls 100 v (bl v) _ (ref_bucket v HV.out)).mono ?_
  rw [← HBE.out]
  rintro e w8 ⟨rfl, hd⟩
  have F := (HF7.out.set (b := w.heap.size + 1 + 1) (.inr (by omega)) 7 (.slice A6 n6 c6)).trans (Fr.of_drawn hd)
  have BA := (HBA7.out.put (cs' := #[.string key, .int .i64 3, .int .u64 (m + 1), .int .i64 s2, .int .i64 v, .int .i64 mo, .bool o2, .slice A6 n6 c6]) 7 (.slice A6 n6 c6) rfl).keep (Fr.of_drawn hd) (by simp)
  have BZ := (HBZ7.out.far (b := w.heap.size + 1 + 1) (by omega) 7 (.slice A6 n6 c6)).keep (Fr.of_drawn hd) (by simp)
  have O8 := (HO6.out.keep (S := [w.heap.size + 1 + 1]) ((Fr.refl _ w6).set (b := w.heap.size + 1 + 1) (.inl (by simp)) 7 (.slice A6 n6 c6)) (fun x hx h => by have h1 := (HO6.out.lt x h).1; simp at hx; omega)).keep0 (Fr.of_drawn hd)
  have HBA8 := Lib.hid BA
  have HBZ8 := Lib.hid BZ
  have HO8 := Lib.hid O8
  have HF8 := Lib.hid F
  clear hd F BA BZ O8 HF7 HBA7 HBZ7 HO6 HB07 x0 x1 x2 x3 x4 x5 x6 x7 y0 y1 y2 y3 y4 y5 y6 y7 z0 z1 z2 z3 z4 z5 z6 z7 t0 t1 t2 t3 t4 t5 t6 t7 q0 q1 q2 q3 q4 q5 q6 q7 p0 p1 p2 p3 p4 p5 p6 p7
  have HLB := Lib.hid (show bs.length ≤ 64 by have := HN.out; omega)
  go_wp2_with fail
  go_loopw [78] (fun _ wr => ∃ j A q c, q = bs.length + j ∧ bs.length + j ≤ max bs.length (b + 1) ∧ Blk wr (w.heap.size + 1 + 1) #[.string key, .int .i64 3, .int .u64 (m + 1), .int .i64 s2, .int .i64 v, .int .i64 mo, .bool o2, .slice A q c] 49 ∧ Blk wr (w.heap.size + 1) #[.string ⟨#[]⟩, .int .i64 0, .int .u64 0, .int .i64 0, .int .i64 0, .int .i64 0, .bool false, .slice none 0 0] 49 ∧ Ow wr (w.heap.size + 1 + 1 + 1) (.slice A q c) (bs ++ List.replicate j 0) ∧ Fr [] w wr) (fun _ wr => b + 1 - lenV ((wr.cell? ⟨w.heap.size + 1 + 1, 7, none⟩).getD undef))
  case atStart => exact ⟨0, A6, n6, c6, by rw [HO8.out.len]; rfl, by omega, HBA8.out, HBZ8.out, by simpa using HO8.out, HF8.out⟩
  case round =>
    obtain ⟨j, A2, q, c2, hm, hj, hB, hZ, hO, hF⟩ := hrel
    clear HBA8 HBZ8 HO8 HF8
    have HB := Lib.hid hB
    have HZ := Lib.hid hZ
    have HO := Lib.hid hO
    have HF := Lib.hid hF
    have HM := Lib.hid hm
    have hml : (bs ++ List.replicate j (0 : Int)).length = q := by rw [List.length_append, List.length_replicate]; exact hm.symm
    have HML := Lib.hid hml
    have hmb : q ≤ 200 := by have := HLB.out; have := HM.out; omega
    clear hB hZ hO hF hm hml
    by_cases hlt : q ≤ b
    · have e7 : wr.cell? ⟨w.heap.size + 1 + 1, 7, none⟩ = some (.slice A2 q c2) := HB.out.cell 7
      have HA := Lib.hid (HO.out.alloc (.cells #[.int .u64 0] 46))
      have HS := Lib.hid (src_one wr (.int .u64 0) 46 rfl)
      have hsz := HB.out.lt
      go_wp2_with (
        at_builtin
        refine wpList_app (by rfl) _ _ _ (by rfl) (w.heap.size + 1 + 1 + 1) 46 1 8 HEU.out (.slice A2 q c2) q ((bs ++ List.replicate j (0 : Int)).map (Value.int .u64)) (by rfl) (by have h := HA.out; unfold Ow at h; rw [HML.out] at h; exact h) (.slice (some ⟨wr.heap.size, 0, none⟩) 1 1) 1 [.int .u64 0] (by rfl) HS.out (by omega) (by omega) (by rw [size_alloc]; omega) ?_
        intro v3 w3 ho3 hg3 hat3
        have HO3 := Lib.hid (show Ow w3 (w.heap.size + 1 + 1 + 1) v3 (bs ++ List.replicate (j + 1) 0) by
          unfold Ow
          rw [List.replicate_succ', ← List.append_assoc, List.length_append, List.map_append, HML.out]
          exact ho3)
        have hgr := Fr.of_grown (S := (Value.slice A2 q c2).ownBlock.toList) hg3 (fun k hk => .inl (by rw [hk]; simp))
        have hnot : ∀ x ∈ (Value.slice A2 q c2).ownBlock.toList, w.heap.size + 1 + 1 + 1 ≤ x := fun x hx => (HA.out.lt x (by simpa using hx)).1
        have HF3 := Lib.hid ((HF.out.alloc _).step hgr (fun x hx => .inr (by have := hnot x hx; omega)))
        have HB3 := Lib.hid ((HB.out.alloc _).keep hgr (fun hx => by have := hnot _ hx; omega))
        have HZ3 := Lib.hid ((HZ.out.alloc _).keep hgr (fun hx => by have := hnot _ hx; omega))
        have hl3 := HO3.out.form
        obtain ⟨A3, c3, rfl⟩ : ∃ A3 c3, v3 = .slice A3 (q + 1) c3 := by
          rcases hl3 with ⟨_, h2⟩ | ⟨g, cap, h3, _⟩
          · have h4 := congrArg List.length h2
            simp at h4
          · exact ⟨_, _, by rw [h3, List.replicate_succ', ← List.append_assoc, List.length_append, HML.out]; rfl⟩
        clear ho3 hg3 hat3 hgr hnot hl3 e7 HA HS
        have f7 := HB3.out.frozen 7
        have e73 := HB3.out.cell 7)
      have HB4 := Lib.hid (HB3.out.put (cs' := #[.string key, .int .i64 3, .int .u64 (m + 1), .int .i64 s2, .int .i64 v, .int .i64 mo, .bool o2, .slice A3 (q + 1) c3]) 7 (.slice A3 (q + 1) c3) rfl)
      go_roundw
      case rel => exact ⟨j + 1, A3, q + 1, c3, by have := HM.out; omega, by have := HM.out; omega, HB4.out, HZ3.out.far (b := w.heap.size + 1 + 1) (by omega) 7 _, HO3.out.keep (S := [w.heap.size + 1 + 1]) ((Fr.refl _ w3).set (b := w.heap.size + 1 + 1) (.inl (by simp)) 7 _) (fun x hx h => by have h1 := (HO3.out.lt x h).1; simp at hx; omega), HF3.out.set (b := w.heap.size + 1 + 1) (.inr (by omega)) 7 _⟩
      case measure =>
        rw [HB4.out.cell 7, HB.out.cell 7]
        simp [lenV]
        omega
    · have hmx : bs.length + j = max bs.length (b + 1) := by have := HM.out; omega
      have HE := Lib.hid (show bs ++ List.replicate j (0 : Int) = ext bs b by
        unfold ext
        congr 2
        omega)
      rw [HE.out] at HO HML
      have HBX := Lib.hid (getD_bd (ext_bd (m := 1000) HBD.out (by decide) b) (by decide) b)
      obtain ⟨x, hx⟩ : ∃ x, x = (ext bs b).getD b 0 := ⟨_, rfl⟩
      have HXX := Lib.hid (show (ext bs b).set b (x + 1) = bump bs b by unfold bump; rw [hx])
      rw [← hx] at HBX
      obtain ⟨u0, u1⟩ := HBX.out
      have HCX := Lib.hid (rcount_f x ⟨u0, by omega⟩)
      have hlt2 : b < q := by omega
      rcases HO.out.form with ⟨_, h2⟩ | ⟨gb, cap, h3, hg0, _, hcap, hcell⟩
      · rw [h2] at HML
        have := HML.out
        simp at this
        omega
      · rw [HML.out] at h3 hcap
        simp only [Value.slice.injEq, true_and] at h3
        obtain ⟨rfl, rfl⟩ := h3
        have h4 := hcell b (by rw [HML.out]; exact hlt2)
        rw [← hx] at h4
        obtain ⟨e2, f2⟩ := h4
        have e1 : wr.cell? ⟨w.heap.size + 1 + 1, 7, none⟩ = some (.slice (some ⟨gb, 0, none⟩) q c2) := HB.out.cell 7
        have HST := Lib.hid (show ∀ N, Ow ((wr.drewN N).setCell ⟨gb, b, none⟩ (.int .u64 (x + 1))) (w.heap.size + 1 + 1 + 1) (.slice (some ⟨gb, 0, none⟩) q c2) (bump bs b) from fun N => by
          rw [← HXX.out]
          have h := HO.out
          rw [← HML.out] at h ⊢
          exact Ow.store (w := wr.drewN N) h b (x + 1) (by rw [HML.out]; exact hlt2))
        clear hcell hx hlt hmx HO HBX
        have hg1 : gb ≠ w.heap.size + 1 + 1 := by omega
        have hg2 : gb ≠ w.heap.size + 1 := by omega
        go_wp2_with fail
        refine start_ (n := 14) (S := fun w' => w'.cell? ⟨w.heap.size + 1 + 1, 7, none⟩ = some (.slice (some ⟨gb, 0, none⟩) q c2) ∧ w'.cell? ⟨gb, b, none⟩ = some (.int .u64 x)) (ds := [13]) #[false, false, false, false, false, false, false, false, false, false, false, false, false, false] (by kernel_rfl) rfl rfl ⟨e1, e2⟩ (fun hHeld => ?_)
        refine pure_ (i := 0) (N := some 89) (v := ?_) (a' := ?_) #[true, false, false, false, false, false, false, false, false, false, false, false, false, false] rfl rfl (by kernel_rfl) (fun _ _ _ h => h) (Or.inl ⟨by rfl, ?_⟩) ?_ ?_
        rotate_left
        · intro w'
          go_simp
          with_reducible rfl
        rotate_left
        · simp only [Act.put, List.setIfInBounds_toArray, List.set_cons_zero, List.set_cons_succ, i64_w, i32_w]
          rfl
        refine pure_ (i := 2) (N := some 91) (v := ?_) (a' := ?_) #[true, false, true, false, false, false, false, false, false, false, false, false, false, false] rfl rfl (by kernel_rfl) (fun _ _ _ h => h) (Or.inl ⟨by rfl, ?_⟩) ?_ ?_
        rotate_left
        · intro w'
          go_simp
          with_reducible rfl
        rotate_left
        · simp only [Act.put, List.setIfInBounds_toArray, List.set_cons_zero, List.set_cons_succ, i64_w, i32_w]
          rfl
        refine pure_ (i := 3) (N := some 92) (v := ?_) (a' := ?_) #[true, false, true, true, false, false, false, false, false, false, false, false, false, false] rfl rfl (by kernel_rfl) (fun _ _ _ h => h) (Or.inl ⟨by rfl, ?_⟩) ?_ ?_
        rotate_left
        · intro w'
          go_simp
          with_reducible rfl
        rotate_left
        · simp only [Act.put, List.setIfInBounds_toArray, List.set_cons_zero, List.set_cons_succ, i64_w, i32_w]
          rfl
        refine pure_ (i := 5) (N := some 94) (v := ?_) (a' := ?_) #[true, false, true, true, false, true, false, false, false, false, false, false, false, false] rfl rfl (by kernel_rfl) (fun _ _ _ h => h) (Or.inl ⟨by rfl, ?_⟩) ?_ ?_
        rotate_left
        · intro w'
          go_simp
          with_reducible rfl
        rotate_left
        · simp only [Act.put, List.setIfInBounds_toArray, List.set_cons_zero, List.set_cons_succ, i64_w, i32_w]
          rfl
        refine take_ (i := 1) (N := some 90) (v := ?_) (a' := ?_) #[true, true, true, true, false, true, false, false, false, false, false, false, false, false] rfl rfl (by kernel_rfl) (fun _ _ _ h => h) (Or.inl ⟨by rfl, ?_⟩) hHeld ?_ ?_
        rotate_left
        · rintro w' ⟨s0, s1⟩
          go_simp
          with_reducible rfl
        rotate_left
        · simp only [Act.put, List.setIfInBounds_toArray, List.set_cons_zero, List.set_cons_succ, i64_w, i32_w]
          rfl
        refine take_ (i := 4) (N := some 93) (v := ?_) (a' := ?_) #[true, true, true, true, true, true, false, false, false, false, false, false, false, false] rfl rfl (by kernel_rfl) (fun _ _ _ h => h) (Or.inl ⟨by rfl, ?_⟩) hHeld ?_ ?_
        rotate_left
        · rintro w' ⟨s0, s1⟩
          go_simp
          with_reducible rfl
        rotate_left
        · simp only [Act.put, List.setIfInBounds_toArray, List.set_cons_zero, List.set_cons_succ, i64_w, i32_w]
          rfl
        refine pure_ (i := 6) (N := some 95) (v := ?_) (a' := ?_) #[true, true, true, true, true, true, true, false, false, false, false, false, false, false] rfl rfl (by kernel_rfl) (fun _ _ _ h => h) (Or.inl ⟨by rfl, ?_⟩) ?_ ?_
        rotate_left
        · intro w'
          go_simp
          with_reducible rfl
        rotate_left
        · simp only [Act.put, List.setIfInBounds_toArray, List.set_cons_zero, List.set_cons_succ, i64_w, i32_w]
          rfl
        refine take_ (i := 7) (N := some 96) (v := ?_) (a' := ?_) #[true, true, true, true, true, true, true, true, false, false, false, false, false, false] rfl rfl (by kernel_rfl) (fun _ _ _ h => h) (Or.inl ⟨by rfl, ?_⟩) hHeld ?_ ?_
        rotate_left
        · rintro w' ⟨s0, s1⟩
          go_simp
          with_reducible rfl
        rotate_left
        · simp only [Act.put, List.setIfInBounds_toArray, List.set_cons_zero, List.set_cons_succ, i64_w, i32_w]
          rfl
        refine one_ (i := 8) (N := some 97) #[true, true, true, true, true, true, true, true, true, false, false, false, false, false] rfl rfl (by kernel_rfl) (by decide) (fun K hK => ?_)
        refine goes_ Try.func60 (by kernel_rfl) rfl #[.int .u64 x, .int .u64 1] (by rfl) rfl rfl (by simp only [List.map_toArray, List.map_cons, List.map_nil]; rfl) ?_
        with_reducible refine (PTallyFolds.nogginref01_Count.calls x 1 (x + 1) false _ HCX.out).mono ?_
        rintro e w9 ⟨rfl, hd⟩
        refine ⟨_, rfl, ?_⟩
        obtain ⟨N, rfl⟩ := hd.out
        clear hd
        refine hK.out _ _ ⟨e1, e2⟩ (fun hHeld => ?_)
        clear hK K
        refine norm_ (a' := ?_) ?_ ?_
        rotate_left
        · show Act.put _ (some 97) _ = _
          simp only [Act.put, List.setIfInBounds_toArray, List.set_cons_zero, List.set_cons_succ, i64_w, i32_w]
          rfl
        refine pure_ (i := 9) (N := some 88) (v := ?_) (a' := ?_) #[true, true, true, true, true, true, true, true, true, true, false, false, false, false] rfl rfl (by kernel_rfl) (fun _ _ _ h => h) (Or.inl ⟨by rfl, ?_⟩) ?_ ?_
        rotate_left
        · intro w'
          go_simp
          with_reducible rfl
        rotate_left
        · simp only [Act.put, List.setIfInBounds_toArray, List.set_cons_zero, List.set_cons_succ, i64_w, i32_w]
          rfl
        refine pure_ (i := 10) (N := some 98) (v := ?_) (a' := ?_) #[true, true, true, true, true, true, true, true, true, true, true, false, false, false] rfl rfl (by kernel_rfl) (fun _ _ _ h => h) (Or.inl ⟨by rfl, ?_⟩) ?_ ?_
        rotate_left
        · intro w'
          go_simp
          with_reducible rfl
        rotate_left
        · simp only [Act.put, List.setIfInBounds_toArray, List.set_cons_zero, List.set_cons_succ, i64_w, i32_w]
          rfl
        refine pure_ (i := 11) (N := some 99) (v := ?_) (a' := ?_) #[true, true, true, true, true, true, true, true, true, true, true, true, false, false] rfl rfl (by kernel_rfl) (fun _ _ _ h => h) (Or.inl ⟨by rfl, ?_⟩) ?_ ?_
        rotate_left
        · intro w'
          go_simp
          with_reducible rfl
        rotate_left
        · simp only [Act.put, List.setIfInBounds_toArray, List.set_cons_zero, List.set_cons_succ, i64_w, i32_w]
          rfl
        refine pure_ (i := 12) (N := some 100) (v := ?_) (a' := ?_) #[true, true, true, true, true, true, true, true, true, true, true, true, true, false] rfl rfl (by kernel_rfl) (fun _ _ _ h => h) (Or.inl ⟨by rfl, ?_⟩) ?_ ?_
        rotate_left
        · intro w'
          go_simp
          with_reducible rfl
        rotate_left
        · simp only [Act.put, List.setIfInBounds_toArray, List.set_cons_zero, List.set_cons_succ, i64_w, i32_w]
          rfl
        refine last_ (i := 13) (N := none) #[true, true, true, true, true, true, true, true, true, true, true, true, true, true] rfl rfl (by kernel_rfl) (by decide) (fun K hK => ?_)
        refine skip_ (w1 := ?_) (by rfl) rfl ?_ ?_
        rotate_left
        · go_simp
          rfl
        refine hK.out _ _ ?_
        clear hK K
        refine done_ (by kernel_rfl) ?_
        have HB9 := Lib.hid ((HB.out.drewN (1 + N)).far (b := gb) hg1.symm b (.int .u64 (x + 1)))
        have HZ9 := Lib.hid ((HZ.out.drewN (1 + N)).far (b := gb) hg2.symm b (.int .u64 (x + 1)))
        have HF9 := Lib.hid ((HF.out.drewN (1 + N)).set (b := gb) (.inr (by omega)) b (.int .u64 (x + 1)))
        have HO9 := Lib.hid (HST.out (1 + N))
        clear HST HB HZ HF e1 e2 f2
        generalize (wr.drewN (1 + N)).setCell ⟨gb, b, none⟩ (.int .u64 (x + 1)) = w9 at HB9 HZ9 HF9 HO9 ⊢
        obtain ⟨x0, x1, x2, x3, x4, x5, x6, x7, y0, y1, y2, y3, y4, y5, y6, y7⟩ := blk8 HB9.out
        obtain ⟨q0, q1, q2, q3, q4, q5, q6, q7, p0, p1, p2, p3, p4, p5, p6, p7⟩ := blk8 HZ9.out
        go_wp2_with fail
        refine ret_row (g := w.heap.size + 1) (cs := #[.string key, .int .i64 3, .int .u64 (m + 1), .int .i64 s2, .int .i64 v, .int .i64 mo, .bool o2, .slice (some ⟨gb, 0, none⟩) q c2]) (Blk.fill8 HZ9.out rfl _ _ _ _ _ _ _ _) rfl rfl rfl ?_
        rw [HQ.out, HAE.out]
        refine ⟨.slice (some ⟨gb, 0, none⟩) q c2, rfl, ?_, ?_⟩
        · exact Ow.base (b := w.heap.size + 1 + 1 + 1) (HO9.out.keep (S := [w.heap.size + 1]) (Fr.fill8 (g := w.heap.size + 1) (Fr.refl _ w9) (.inl (by simp)) _ _ _ _ _ _ _ _) (fun x hx h => by have h1 := (HO9.out.lt x h).1; simp at hx; omega)) (by omega)
        · exact Fr.fill8 (g := w.heap.size + 1) HF9.out (.inr (by omega)) _ _ _ _ _ _ _ _

set_option maxRecDepth 100000 in
set_option maxHeartbeats 4000000 in
theorem come_histotL (key : ByteArray) (m s le mo : Int) (bs : List Int) (k base : Nat) (A : Option Addr) (c : Nat) (v : Int) (hv : I64 v) (hk : 1 ≤ k ∧ k ≤ 1000) (ho : Ok k ⟨3, m, s, le, mo, true, bs⟩) (hlt : v < le) (hgt : v ≤ mo) (w : World) (hO : Ow w base (.slice A bs.length c) bs) :
    Calls Try.prog 40 #[RowV key ⟨3, m, s, le, mo, true, bs⟩ (.slice A bs.length c), .int .i64 v] w (Ret key (addR ⟨3, m, s, le, mo, true, bs⟩ v) w) := by
  have hm0 : m = (k : Int) := ho.many
  have HCF := Lib.hid (rcount_f m ⟨by omega, by omega⟩)
  have hlen : bs.length ≤ 64 := by have := ho.len; simpa using this
  have HBD := Lib.hid (show ∀ x ∈ bs, 0 ≤ x ∧ x ≤ 1000 from fun x hx => by have := ho.b x (by simpa using hx); omega)
  have hmp : decide ((0 : Int) < m) = true := by simp; omega
  have HAF := Lib.hid (radd_f s v ho.sum hv)
  obtain ⟨s2, hs2⟩ : ∃ s2, s2 = (sadd s v).1 := ⟨_, rfl⟩
  obtain ⟨o2, ho2⟩ : ∃ o2, o2 = (sadd s v).2 := ⟨_, rfl⟩
  rw [show sadd s v = (s2, o2) by rw [hs2, ho2]] at HAF
  have hcl : decide (v < le) = true := by simp; omega
  have hcg : decide (mo < v) = false := by simp; omega
  have hbl := bl_le v hv
  obtain ⟨b, hbe⟩ : ∃ b, b = bl v := ⟨_, rfl⟩
  have HBE := Lib.hid hbe
  rw [← hbe] at hbl
  have HAE := Lib.hid (show addR ⟨3, m, s, le, mo, true, bs⟩ v = ⟨3, (m + 1), s2, v, mo, true, bump bs b⟩ by
    unfold addR
    have e1 : (if v < le then v else le) = v := by split <;> omega
    have e2 : (if mo < v then v else mo) = mo := by split <;> omega
    simp [e1, e2, hs2, ho2, hbe])
  have HV := Lib.hid hv
  have HEU := Lib.hid EU
  have HO := Lib.hid (show Ow w base (.slice A bs.length c) bs from hO)
  obtain ⟨n, hn⟩ : ∃ n, n = bs.length := ⟨_, rfl⟩
  have HN := Lib.hid hn
  rw [← hn] at HO hlen ⊢
  obtain ⟨Q, hQ⟩ : ∃ Q, Q = Ret key (addR ⟨3, m, s, le, mo, true, bs⟩ v) w := ⟨_, rfl⟩
  have HQ := Lib.hid hQ
  rw [← hQ]
  clear hm0 ho hO hlt hgt hs2 ho2 hbe hv hn hQ
  show Calls Try.prog _ #[.agg #[.string key, .int .i64 3, .int .u64 m, .int .i64 s, .int .i64 le, .int .i64 mo, .bool true, .slice A n c], .int .i64 v] w _
  go_enter Try.func40, Try.ntmps40
  have F3 := (((Fr.refl [] w).alloc (.cells #[.string key, .int .i64 3, .int .u64 m, .int .i64 s, .int .i64 le, .int .i64 mo, .bool true, .slice A n c] 49)).alloc (.cells #[.string ⟨#[]⟩, .int .i64 0, .int .u64 0, .int .i64 0, .int .i64 0, .int .i64 0, .bool false, .slice none 0 0] 49)).alloc (.cells #[.string key, .int .i64 3, .int .u64 1, .int .i64 v, .int .i64 v, .int .i64 v, .bool false, .slice none 0 0] 49)
  have B0 := ((Blk.new w #[.string key, .int .i64 3, .int .u64 m, .int .i64 s, .int .i64 le, .int .i64 mo, .bool true, .slice A n c] 49).alloc (.cells #[.string ⟨#[]⟩, .int .i64 0, .int .u64 0, .int .i64 0, .int .i64 0, .int .i64 0, .bool false, .slice none 0 0] 49)).alloc (.cells #[.string key, .int .i64 3, .int .u64 1, .int .i64 v, .int .i64 v, .int .i64 v, .bool false, .slice none 0 0] 49)
  have BZ := (Blk.new (w.alloc (.cells #[.string key, .int .i64 3, .int .u64 m, .int .i64 s, .int .i64 le, .int .i64 mo, .bool true, .slice A n c] 49)) #[.string ⟨#[]⟩, .int .i64 0, .int .u64 0, .int .i64 0, .int .i64 0, .int .i64 0, .bool false, .slice none 0 0] 49).alloc (.cells #[.string key, .int .i64 3, .int .u64 1, .int .i64 v, .int .i64 v, .int .i64 v, .bool false, .slice none 0 0] 49)
  have BA := Blk.new ((w.alloc (.cells #[.string key, .int .i64 3, .int .u64 m, .int .i64 s, .int .i64 le, .int .i64 mo, .bool true, .slice A n c] 49)).alloc (.cells #[.string ⟨#[]⟩, .int .i64 0, .int .u64 0, .int .i64 0, .int .i64 0, .int .i64 0, .bool false, .slice none 0 0] 49)) #[.string key, .int .i64 3, .int .u64 1, .int .i64 v, .int .i64 v, .int .i64 v, .bool false, .slice none 0 0] 49
  simp only [size_alloc] at BZ BA
  have HF := Lib.hid F3
  have HB0 := Lib.hid B0
  have HBZ := Lib.hid BZ
  have HBA := Lib.hid BA
  clear F3 B0 BZ BA
  go_wp2_with fail
  refine (PTallyFolds.nogginref01_Count.calls m 1 (m + 1) false _ HCF.out).mono ?_
  rintro e w4 ⟨rfl, hd⟩
  have F := HF.out
  have BA := HBA.out
  have B0 := HB0.out
  have BZ := HBZ.out
  replace F := F.trans (Fr.of_drawn hd)
  replace BA := BA.keep (Fr.of_drawn hd) (by simp)
  replace B0 := B0.keep (Fr.of_drawn hd) (by simp)
  replace BZ := BZ.keep (Fr.of_drawn hd) (by simp)
  clear hd HF HB0 HBZ HBA
  have HF := Lib.hid F
  have HB0 := Lib.hid B0
  have HBZ := Lib.hid BZ
  have HBA := Lib.hid BA
  clear F BA B0 BZ
  obtain ⟨x0, x1, x2, x3, x4, x5, x6, x7, y0, y1, y2, y3, y4, y5, y6, y7⟩ := blk8 HBA.out
  obtain ⟨z0, z1, z2, z3, z4, z5, z6, z7, t0, t1, t2, t3, t4, t5, t6, t7⟩ := blk8 HB0.out
  go_wp2_with fail
  refine (PTallyFolds.nogginref01_Add.calls 3 s v s2 o2 _ HAF.out).mono ?_
  rintro e w5 ⟨rfl, hd⟩
  have F := HF.out
  have BA := HBA.out
  have B0 := HB0.out
  have BZ := HBZ.out
  replace F := F.set (b := w.heap.size + 1 + 1) (.inr (by omega)) 2 (.int .u64 (m + 1))
  replace BA := BA.put (cs' := #[.string key, .int .i64 3, .int .u64 (m + 1), .int .i64 v, .int .i64 v, .int .i64 v, .bool false, .slice none 0 0]) 2 (.int .u64 (m + 1)) rfl
  replace B0 := B0.far (b := w.heap.size + 1 + 1) (by omega) 2 (.int .u64 (m + 1))
  replace BZ := BZ.far (b := w.heap.size + 1 + 1) (by omega) 2 (.int .u64 (m + 1))
  replace F := F.set (b := w.heap.size + 1 + 1) (.inr (by omega)) 4 (.int .i64 le)
  replace BA := BA.put (cs' := #[.string key, .int .i64 3, .int .u64 (m + 1), .int .i64 v, .int .i64 le, .int .i64 v, .bool false, .slice none 0 0]) 4 (.int .i64 le) rfl
  replace B0 := B0.far (b := w.heap.size + 1 + 1) (by omega) 4 (.int .i64 le)
  replace BZ := BZ.far (b := w.heap.size + 1 + 1) (by omega) 4 (.int .i64 le)
  replace F := F.set (b := w.heap.size + 1 + 1) (.inr (by omega)) 5 (.int .i64 mo)
  replace BA := BA.put (cs' := #[.string key, .int .i64 3, .int .u64 (m + 1), .int .i64 v, .int .i64 le, .int .i64 mo, .bool false, .slice none 0 0]) 5 (.int .i64 mo) rfl
  replace B0 := B0.far (b := w.heap.size + 1 + 1) (by omega) 5 (.int .i64 mo)
  replace BZ := BZ.far (b := w.heap.size + 1 + 1) (by omega) 5 (.int .i64 mo)
  replace F := F.set (b := w.heap.size + 1 + 1) (.inr (by omega)) 6 (.bool true)
  replace BA := BA.put (cs' := #[.string key, .int .i64 3, .int .u64 (m + 1), .int .i64 v, .int .i64 le, .int .i64 mo, .bool true, .slice none 0 0]) 6 (.bool true) rfl
  replace B0 := B0.far (b := w.heap.size + 1 + 1) (by omega) 6 (.bool true)
  replace BZ := BZ.far (b := w.heap.size + 1 + 1) (by omega) 6 (.bool true)
  replace F := F.set (b := w.heap.size + 1 + 1) (.inr (by omega)) 4 (.int .i64 v)
  replace BA := BA.put (cs' := #[.string key, .int .i64 3, .int .u64 (m + 1), .int .i64 v, .int .i64 v, .int .i64 mo, .bool true, .slice none 0 0]) 4 (.int .i64 v) rfl
  replace B0 := B0.far (b := w.heap.size + 1 + 1) (by omega) 4 (.int .i64 v)
  replace BZ := BZ.far (b := w.heap.size + 1 + 1) (by omega) 4 (.int .i64 v)
  replace F := F.trans (Fr.of_drawn hd)
  replace BA := BA.keep (Fr.of_drawn hd) (by simp)
  replace B0 := B0.keep (Fr.of_drawn hd) (by simp)
  replace BZ := BZ.keep (Fr.of_drawn hd) (by simp)
  clear hd HF HB0 HBZ HBA x0 x1 x2 x3 x4 x5 x6 x7 y0 y1 y2 y3 y4 y5 y6 y7 z0 z1 z2 z3 z4 z5 z6 z7 t0 t1 t2 t3 t4 t5 t6 t7
  have HF := Lib.hid F
  have HB0 := Lib.hid B0
  have HBZ := Lib.hid BZ
  have HBA := Lib.hid BA
  clear F BA B0 BZ
  obtain ⟨x0, x1, x2, x3, x4, x5, x6, x7, y0, y1, y2, y3, y4, y5, y6, y7⟩ := blk8 HBA.out
  obtain ⟨z0, z1, z2, z3, z4, z5, z6, z7, t0, t1, t2, t3, t4, t5, t6, t7⟩ := blk8 HB0.out
  have F := HF.out
  have BA := HBA.out
  have BZ := HBZ.out
  have B0 := HB0.out
  replace F := F.set (b := w.heap.size + 1 + 1) (.inr (by omega)) 3 (.int .i64 s2)
  replace BA := BA.put (cs' := #[.string key, .int .i64 3, .int .u64 (m + 1), .int .i64 s2, .int .i64 v, .int .i64 mo, .bool true, .slice none 0 0]) 3 (.int .i64 s2) rfl
  replace BZ := BZ.far (b := w.heap.size + 1 + 1) (by omega) 3 (.int .i64 s2)
  replace B0 := B0.far (b := w.heap.size + 1 + 1) (by omega) 3 (.int .i64 s2)
  replace F := F.set (b := w.heap.size + 1 + 1) (.inr (by omega)) 6 (.bool true)
  replace BA := BA.put (cs' := #[.string key, .int .i64 3, .int .u64 (m + 1), .int .i64 s2, .int .i64 v, .int .i64 mo, .bool true, .slice none 0 0]) 6 (.bool true) rfl
  replace BZ := BZ.far (b := w.heap.size + 1 + 1) (by omega) 6 (.bool true)
  replace B0 := B0.far (b := w.heap.size + 1 + 1) (by omega) 6 (.bool true)
  have HF6 := Lib.hid F
  have HBA6 := Lib.hid BA
  have HBZ6 := Lib.hid BZ
  have HB06 := Lib.hid B0
  have HSRC := Lib.hid ((HO.out.keep0 F).src)
  clear F BA BZ B0
  have hsz := HBA6.out.lt
  go_wp2_with (
    at_builtin
    refine wpList_app (by rfl) _ _ _ (by rfl) (w.heap.size + 1 + 1 + 1) 46 1 8 HEU.out (.slice none 0 0) 0 [] (by rfl) (Ow.nil _ _) (.slice A n c) n (bs.map (Value.int .u64)) (by rfl) (by have h := HSRC.out; rw [← HN.out] at h; exact h) (by omega) (by omega) (by omega) ?_
    intro v6 w6 ho6 hg6 hat6
    have HO6 := Lib.hid (show Ow w6 (w.heap.size + 1 + 1 + 1) v6 bs by unfold Ow; rw [← HN.out, ← Nat.zero_add n]; exact ho6)
    have hF6 := Fr.of_grown (S := []) hg6 (fun k hk => by have h2 : (none : Option Nat) = some k := hk; cases h2)
    have BA7 := HBA6.out.keep hF6 (by simp)
    have BZ7 := HBZ6.out.keep hF6 (by simp)
    have HF7 := Lib.hid (HF6.out.trans hF6)
    have B07 := HB06.out.keep hF6 (by simp)
    clear ho6 hg6 hat6 hF6 HF6 HBA6 HBZ6 HB06 x0 x1 x2 x3 x4 x5 x6 x7 y0 y1 y2 y3 y4 y5 y6 y7 z0 z1 z2 z3 z4 z5 z6 z7 t0 t1 t2 t3 t4 t5 t6 t7
    obtain ⟨A6, n6, c6, rfl⟩ := HO6.out.slice
    have HBA7 := Lib.hid BA7
    have HBZ7 := Lib.hid BZ7
    have HB07 := Lib.hid B07
    clear BA7 BZ7 B07
    obtain ⟨x0, x1, x2, x3, x4, x5, x6, x7, y0, y1, y2, y3, y4, y5, y6, y7⟩ := blk8 HBA7.out
    obtain ⟨q0, q1, q2, q3, q4, q5, q6, q7, p0, p1, p2, p3, p4, p5, p6, p7⟩ := blk8 HBZ7.out
    obtain ⟨z0, z1, z2, z3, z4, z5, z6, z7, t0, t1, t2, t3, t4, t5, t6, t7⟩ := blk8 HB07.out)
  refine (PTallyFolds.nogginref18_Bucket.calls 100 v (bl v) _ (ref_bucket v HV.out)).mono ?_
  rw [← HBE.out]
  rintro e w8 ⟨rfl, hd⟩
  have F := (HF7.out.set (b := w.heap.size + 1 + 1) (.inr (by omega)) 7 (.slice A6 n6 c6)).trans (Fr.of_drawn hd)
  have BA := (HBA7.out.put (cs' := #[.string key, .int .i64 3, .int .u64 (m + 1), .int .i64 s2, .int .i64 v, .int .i64 mo, .bool true, .slice A6 n6 c6]) 7 (.slice A6 n6 c6) rfl).keep (Fr.of_drawn hd) (by simp)
  have BZ := (HBZ7.out.far (b := w.heap.size + 1 + 1) (by omega) 7 (.slice A6 n6 c6)).keep (Fr.of_drawn hd) (by simp)
  have O8 := (HO6.out.keep (S := [w.heap.size + 1 + 1]) ((Fr.refl _ w6).set (b := w.heap.size + 1 + 1) (.inl (by simp)) 7 (.slice A6 n6 c6)) (fun x hx h => by have h1 := (HO6.out.lt x h).1; simp at hx; omega)).keep0 (Fr.of_drawn hd)
  have HBA8 := Lib.hid BA
  have HBZ8 := Lib.hid BZ
  have HO8 := Lib.hid O8
  have HF8 := Lib.hid F
  clear hd F BA BZ O8 HF7 HBA7 HBZ7 HO6 HB07 x0 x1 x2 x3 x4 x5 x6 x7 y0 y1 y2 y3 y4 y5 y6 y7 z0 z1 z2 z3 z4 z5 z6 z7 t0 t1 t2 t3 t4 t5 t6 t7 q0 q1 q2 q3 q4 q5 q6 q7 p0 p1 p2 p3 p4 p5 p6 p7
  have HLB := Lib.hid (show bs.length ≤ 64 by have := HN.out; omega)
  go_wp2_with fail
  go_loopw [78] (fun _ wr => ∃ j A q c, q = bs.length + j ∧ bs.length + j ≤ max bs.length (b + 1) ∧ Blk wr (w.heap.size + 1 + 1) #[.string key, .int .i64 3, .int .u64 (m + 1), .int .i64 s2, .int .i64 v, .int .i64 mo, .bool true, .slice A q c] 49 ∧ Blk wr (w.heap.size + 1) #[.string ⟨#[]⟩, .int .i64 0, .int .u64 0, .int .i64 0, .int .i64 0, .int .i64 0, .bool false, .slice none 0 0] 49 ∧ Ow wr (w.heap.size + 1 + 1 + 1) (.slice A q c) (bs ++ List.replicate j 0) ∧ Fr [] w wr) (fun _ wr => b + 1 - lenV ((wr.cell? ⟨w.heap.size + 1 + 1, 7, none⟩).getD undef))
  case atStart => exact ⟨0, A6, n6, c6, by rw [HO8.out.len]; rfl, by omega, HBA8.out, HBZ8.out, by simpa using HO8.out, HF8.out⟩
  case round =>
    obtain ⟨j, A2, q, c2, hm, hj, hB, hZ, hO, hF⟩ := hrel
    clear HBA8 HBZ8 HO8 HF8
    have HB := Lib.hid hB
    have HZ := Lib.hid hZ
    have HO := Lib.hid hO
    have HF := Lib.hid hF
    have HM := Lib.hid hm
    have hml : (bs ++ List.replicate j (0 : Int)).length = q := by rw [List.length_append, List.length_replicate]; exact hm.symm
    have HML := Lib.hid hml
    have hmb : q ≤ 200 := by have := HLB.out; have := HM.out; omega
    clear hB hZ hO hF hm hml
    by_cases hlt : q ≤ b
    · have e7 : wr.cell? ⟨w.heap.size + 1 + 1, 7, none⟩ = some (.slice A2 q c2) := HB.out.cell 7
      have HA := Lib.hid (HO.out.alloc (.cells #[.int .u64 0] 46))
      have HS := Lib.hid (src_one wr (.int .u64 0) 46 rfl)
      have hsz := HB.out.lt
      go_wp2_with (
        at_builtin
        refine wpList_app (by rfl) _ _ _ (by rfl) (w.heap.size + 1 + 1 + 1) 46 1 8 HEU.out (.slice A2 q c2) q ((bs ++ List.replicate j (0 : Int)).map (Value.int .u64)) (by rfl) (by have h := HA.out; unfold Ow at h; rw [HML.out] at h; exact h) (.slice (some ⟨wr.heap.size, 0, none⟩) 1 1) 1 [.int .u64 0] (by rfl) HS.out (by omega) (by omega) (by rw [size_alloc]; omega) ?_
        intro v3 w3 ho3 hg3 hat3
        have HO3 := Lib.hid (show Ow w3 (w.heap.size + 1 + 1 + 1) v3 (bs ++ List.replicate (j + 1) 0) by
          unfold Ow
          rw [List.replicate_succ', ← List.append_assoc, List.length_append, List.map_append, HML.out]
          exact ho3)
        have hgr := Fr.of_grown (S := (Value.slice A2 q c2).ownBlock.toList) hg3 (fun k hk => .inl (by rw [hk]; simp))
        have hnot : ∀ x ∈ (Value.slice A2 q c2).ownBlock.toList, w.heap.size + 1 + 1 + 1 ≤ x := fun x hx => (HA.out.lt x (by simpa using hx)).1
        have HF3 := Lib.hid ((HF.out.alloc _).step hgr (fun x hx => .inr (by have := hnot x hx; omega)))
        have HB3 := Lib.hid ((HB.out.alloc _).keep hgr (fun hx => by have := hnot _ hx; omega))
        have HZ3 := Lib.hid ((HZ.out.alloc _).keep hgr (fun hx => by have := hnot _ hx; omega))
        have hl3 := HO3.out.form
        obtain ⟨A3, c3, rfl⟩ : ∃ A3 c3, v3 = .slice A3 (q + 1) c3 := by
          rcases hl3 with ⟨_, h2⟩ | ⟨g, cap, h3, _⟩
          · have h4 := congrArg List.length h2
            simp at h4
          · exact ⟨_, _, by rw [h3, List.replicate_succ', ← List.append_assoc, List.length_append, HML.out]; rfl⟩
        clear ho3 hg3 hat3 hgr hnot hl3 e7 HA HS
        have f7 := HB3.out.frozen 7
        have e73 := HB3.out.cell 7)
      have HB4 := Lib.hid (HB3.out.put (cs' := #[.string key, .int .i64 3, .int .u64 (m + 1), .int .i64 s2, .int .i64 v, .int .i64 mo, .bool true, .slice A3 (q + 1) c3]) 7 (.slice A3 (q + 1) c3) rfl)
      go_roundw
      case rel => exact ⟨j + 1, A3, q + 1, c3, by have := HM.out; omega, by have := HM.out; omega, HB4.out, HZ3.out.far (b := w.heap.size + 1 + 1) (by omega) 7 _, HO3.out.keep (S := [w.heap.size + 1 + 1]) ((Fr.refl _ w3).set (b := w.heap.size + 1 + 1) (.inl (by simp)) 7 _) (fun x hx h => by have h1 := (HO3.out.lt x h).1; simp at hx; omega), HF3.out.set (b := w.heap.size + 1 + 1) (.inr (by omega)) 7 _⟩
      case measure =>
        rw [HB4.out.cell 7, HB.out.cell 7]
        simp [lenV]
        omega
    · have hmx : bs.length + j = max bs.length (b + 1) := by have := HM.out; omega
      have HE := Lib.hid (show bs ++ List.replicate j (0 : Int) = ext bs b by
        unfold ext
        congr 2
        omega)
      rw [HE.out] at HO HML
      have HBX := Lib.hid (getD_bd (ext_bd (m := 1000) HBD.out (by decide) b) (by decide) b)
      obtain ⟨x, hx⟩ : ∃ x, x = (ext bs b).getD b 0 := ⟨_, rfl⟩
      have HXX := Lib.hid (show (ext bs b).set b (x + 1) = bump bs b by unfold bump; rw [hx])
      rw [← hx] at HBX
      obtain ⟨u0, u1⟩ := HBX.out
      have HCX := Lib.hid (rcount_f x ⟨u0, by omega⟩)
      have hlt2 : b < q := by omega
      rcases HO.out.form with ⟨_, h2⟩ | ⟨gb, cap, h3, hg0, _, hcap, hcell⟩
      · rw [h2] at HML
        have := HML.out
        simp at this
        omega
      · rw [HML.out] at h3 hcap
        simp only [Value.slice.injEq, true_and] at h3
        obtain ⟨rfl, rfl⟩ := h3
        have h4 := hcell b (by rw [HML.out]; exact hlt2)
        rw [← hx] at h4
        obtain ⟨e2, f2⟩ := h4
        have e1 : wr.cell? ⟨w.heap.size + 1 + 1, 7, none⟩ = some (.slice (some ⟨gb, 0, none⟩) q c2) := HB.out.cell 7
        have HST := Lib.hid (show ∀ N, Ow ((wr.drewN N).setCell ⟨gb, b, none⟩ (.int .u64 (x + 1))) (w.heap.size + 1 + 1 + 1) (.slice (some ⟨gb, 0, none⟩) q c2) (bump bs b) from fun N => by
          rw [← HXX.out]
          have h := HO.out
          rw [← HML.out] at h ⊢
          exact Ow.store (w := wr.drewN N) h b (x + 1) (by rw [HML.out]; exact hlt2))
        clear hcell hx hlt hmx HO HBX
        have hg1 : gb ≠ w.heap.size + 1 + 1 := by omega
        have hg2 : gb ≠ w.heap.size + 1 := by omega
        go_wp2_with fail
        refine start_ (n := 14) (S := fun w' => w'.cell? ⟨w.heap.size + 1 + 1, 7, none⟩ = some (.slice (some ⟨gb, 0, none⟩) q c2) ∧ w'.cell? ⟨gb, b, none⟩ = some (.int .u64 x)) (ds := [13]) #[false, false, false, false, false, false, false, false, false, false, false, false, false, false] (by kernel_rfl) rfl rfl ⟨e1, e2⟩ (fun hHeld => ?_)
        refine pure_ (i := 0) (N := some 89) (v := ?_) (a' := ?_) #[true, false, false, false, false, false, false, false, false, false, false, false, false, false] rfl rfl (by kernel_rfl) (fun _ _ _ h => h) (Or.inl ⟨by rfl, ?_⟩) ?_ ?_
        rotate_left
        · intro w'
          go_simp
          with_reducible rfl
        rotate_left
        · simp only [Act.put, List.setIfInBounds_toArray, List.set_cons_zero, List.set_cons_succ, i64_w, i32_w]
          rfl
        refine pure_ (i := 2) (N := some 91) (v := ?_) (a' := ?_) #[true, false, true, false, false, false, false, false, false, false, false, false, false, false] rfl rfl (by kernel_rfl) (fun _ _ _ h => h) (Or.inl ⟨by rfl, ?_⟩) ?_ ?_
        rotate_left
        · intro w'
          go_simp
          with_reducible rfl
        rotate_left
        · simp only [Act.put, List.setIfInBounds_toArray, List.set_cons_zero, List.set_cons_succ, i64_w, i32_w]
          rfl
        refine pure_ (i := 3) (N := some 92) (v := ?_) (a' := ?_) #[true, false, true, true, false, false, false, false, false, false, false, false, false, false] rfl rfl (by kernel_rfl) (fun _ _ _ h => h) (Or.inl ⟨by rfl, ?_⟩) ?_ ?_
        rotate_left
        · intro w'
          go_simp
          with_reducible rfl
        rotate_left
        · simp only [Act.put, List.setIfInBounds_toArray, List.set_cons_zero, List.set_cons_succ, i64_w, i32_w]
          rfl
        refine pure_ (i := 5) (N := some 94) (v := ?_) (a' := ?_) #[true, false, true, true, false, true, false, false, false, false, false, false, false, false] rfl rfl (by kernel_rfl) (fun _ _ _ h => h) (Or.inl ⟨by rfl, ?_⟩) ?_ ?_
        rotate_left
        · intro w'
          go_simp
          with_reducible rfl
        rotate_left
        · simp only [Act.put, List.setIfInBounds_toArray, List.set_cons_zero, List.set_cons_succ, i64_w, i32_w]
          rfl
        refine take_ (i := 1) (N := some 90) (v := ?_) (a' := ?_) #[true, true, true, true, false, true, false, false, false, false, false, false, false, false] rfl rfl (by kernel_rfl) (fun _ _ _ h => h) (Or.inl ⟨by rfl, ?_⟩) hHeld ?_ ?_
        rotate_left
        · rintro w' ⟨s0, s1⟩
          go_simp
          with_reducible rfl
        rotate_left
        · simp only [Act.put, List.setIfInBounds_toArray, List.set_cons_zero, List.set_cons_succ, i64_w, i32_w]
          rfl
        refine take_ (i := 4) (N := some 93) (v := ?_) (a' := ?_) #[true, true, true, true, true, true, false, false, false, false, false, false, false, false] rfl rfl (by kernel_rfl) (fun _ _ _ h => h) (Or.inl ⟨by rfl, ?_⟩) hHeld ?_ ?_
        rotate_left
        · rintro w' ⟨s0, s1⟩
          go_simp
          with_reducible rfl
        rotate_left
        · simp only [Act.put, List.setIfInBounds_toArray, List.set_cons_zero, List.set_cons_succ, i64_w, i32_w]
          rfl
        refine pure_ (i := 6) (N := some 95) (v := ?_) (a' := ?_) #[true, true, true, true, true, true, true, false, false, false, false, false, false, false] rfl rfl (by kernel_rfl) (fun _ _ _ h => h) (Or.inl ⟨by rfl, ?_⟩) ?_ ?_
        rotate_left
        · intro w'
          go_simp
          with_reducible rfl
        rotate_left
        · simp only [Act.put, List.setIfInBounds_toArray, List.set_cons_zero, List.set_cons_succ, i64_w, i32_w]
          rfl
        refine take_ (i := 7) (N := some 96) (v := ?_) (a' := ?_) #[true, true, true, true, true, true, true, true, false, false, false, false, false, false] rfl rfl (by kernel_rfl) (fun _ _ _ h => h) (Or.inl ⟨by rfl, ?_⟩) hHeld ?_ ?_
        rotate_left
        · rintro w' ⟨s0, s1⟩
          go_simp
          with_reducible rfl
        rotate_left
        · simp only [Act.put, List.setIfInBounds_toArray, List.set_cons_zero, List.set_cons_succ, i64_w, i32_w]
          rfl
        refine one_ (i := 8) (N := some 97) #[true, true, true, true, true, true, true, true, true, false, false, false, false, false] rfl rfl (by kernel_rfl) (by decide) (fun K hK => ?_)
        refine goes_ Try.func60 (by kernel_rfl) rfl #[.int .u64 x, .int .u64 1] (by rfl) rfl rfl (by simp only [List.map_toArray, List.map_cons, List.map_nil]; rfl) ?_
        with_reducible refine (PTallyFolds.nogginref01_Count.calls x 1 (x + 1) false _ HCX.out).mono ?_
        rintro e w9 ⟨rfl, hd⟩
        refine ⟨_, rfl, ?_⟩
        obtain ⟨N, rfl⟩ := hd.out
        clear hd
        refine hK.out _ _ ⟨e1, e2⟩ (fun hHeld => ?_)
        clear hK K
        refine norm_ (a' := ?_) ?_ ?_
        rotate_left
        · show Act.put _ (some 97) _ = _
          simp only [Act.put, List.setIfInBounds_toArray, List.set_cons_zero, List.set_cons_succ, i64_w, i32_w]
          rfl
        refine pure_ (i := 9) (N := some 88) (v := ?_) (a' := ?_) #[true, true, true, true, true, true, true, true, true, true, false, false, false, false] rfl rfl (by kernel_rfl) (fun _ _ _ h => h) (Or.inl ⟨by rfl, ?_⟩) ?_ ?_
        rotate_left
        · intro w'
          go_simp
          with_reducible rfl
        rotate_left
        · simp only [Act.put, List.setIfInBounds_toArray, List.set_cons_zero, List.set_cons_succ, i64_w, i32_w]
          rfl
        refine pure_ (i := 10) (N := some 98) (v := ?_) (a' := ?_) #[true, true, true, true, true, true, true, true, true, true, true, false, false, false] rfl rfl (by kernel_rfl) (fun _ _ _ h => h) (Or.inl ⟨by rfl, ?_⟩) ?_ ?_
        rotate_left
        · intro w'
          go_simp
          with_reducible rfl
        rotate_left
        · simp only [Act.put, List.setIfInBounds_toArray, List.set_cons_zero, List.set_cons_succ, i64_w, i32_w]
          rfl
        refine pure_ (i := 11) (N := some 99) (v := ?_) (a' := ?_) #[true, true, true, true, true, true, true, true, true, true, true, true, false, false] rfl rfl (by kernel_rfl) (fun _ _ _ h => h) (Or.inl ⟨by rfl, ?_⟩) ?_ ?_
        rotate_left
        · intro w'
          go_simp
          with_reducible rfl
        rotate_left
        · simp only [Act.put, List.setIfInBounds_toArray, List.set_cons_zero, List.set_cons_succ, i64_w, i32_w]
          rfl
        refine pure_ (i := 12) (N := some 100) (v := ?_) (a' := ?_) #[true, true, true, true, true, true, true, true, true, true, true, true, true, false] rfl rfl (by kernel_rfl) (fun _ _ _ h => h) (Or.inl ⟨by rfl, ?_⟩) ?_ ?_
        rotate_left
        · intro w'
          go_simp
          with_reducible rfl
        rotate_left
        · simp only [Act.put, List.setIfInBounds_toArray, List.set_cons_zero, List.set_cons_succ, i64_w, i32_w]
          rfl
        refine last_ (i := 13) (N := none) #[true, true, true, true, true, true, true, true, true, true, true, true, true, true] rfl rfl (by kernel_rfl) (by decide) (fun K hK => ?_)
        refine skip_ (w1 := ?_) (by rfl) rfl ?_ ?_
        rotate_left
        · go_simp
          rfl
        refine hK.out _ _ ?_
        clear hK K
        refine done_ (by kernel_rfl) ?_
        have HB9 := Lib.hid ((HB.out.drewN (1 + N)).far (b := gb) hg1.symm b (.int .u64 (x + 1)))
        have HZ9 := Lib.hid ((HZ.out.drewN (1 + N)).far (b := gb) hg2.symm b (.int .u64 (x + 1)))
        have HF9 := Lib.hid ((HF.out.drewN (1 + N)).set (b := gb) (.inr (by omega)) b (.int .u64 (x + 1)))
        have HO9 := Lib.hid (HST.out (1 + N))
        clear HST HB HZ HF e1 e2 f2
        generalize (wr.drewN (1 + N)).setCell ⟨gb, b, none⟩ (.int .u64 (x + 1)) = w9 at HB9 HZ9 HF9 HO9 ⊢
        obtain ⟨x0, x1, x2, x3, x4, x5, x6, x7, y0, y1, y2, y3, y4, y5, y6, y7⟩ := blk8 HB9.out
        obtain ⟨q0, q1, q2, q3, q4, q5, q6, q7, p0, p1, p2, p3, p4, p5, p6, p7⟩ := blk8 HZ9.out
        go_wp2_with fail
        refine ret_row (g := w.heap.size + 1) (cs := #[.string key, .int .i64 3, .int .u64 (m + 1), .int .i64 s2, .int .i64 v, .int .i64 mo, .bool true, .slice (some ⟨gb, 0, none⟩) q c2]) (Blk.fill8 HZ9.out rfl _ _ _ _ _ _ _ _) rfl rfl rfl ?_
        rw [HQ.out, HAE.out]
        refine ⟨.slice (some ⟨gb, 0, none⟩) q c2, rfl, ?_, ?_⟩
        · exact Ow.base (b := w.heap.size + 1 + 1 + 1) (HO9.out.keep (S := [w.heap.size + 1]) (Fr.fill8 (g := w.heap.size + 1) (Fr.refl _ w9) (.inl (by simp)) _ _ _ _ _ _ _ _) (fun x hx h => by have h1 := (HO9.out.lt x h).1; simp at hx; omega)) (by omega)
        · exact Fr.fill8 (g := w.heap.size + 1) HF9.out (.inr (by omega)) _ _ _ _ _ _ _ _

set_option maxRecDepth 100000 in
set_option maxHeartbeats 4000000 in
theorem come_histofLG (key : ByteArray) (m s le mo : Int) (bs : List Int) (k base : Nat) (A : Option Addr) (c : Nat) (v : Int) (hv : I64 v) (hk : 1 ≤ k ∧ k ≤ 1000) (ho : Ok k ⟨3, m, s, le, mo, false, bs⟩) (hlt : v < le) (hgt : mo < v) (w : World) (hO : Ow w base (.slice A bs.length c) bs) :
    Calls Try.prog 40 #[RowV key ⟨3, m, s, le, mo, false, bs⟩ (.slice A bs.length c), .int .i64 v] w (Ret key (addR ⟨3, m, s, le, mo, false, bs⟩ v) w) := by
  have hm0 : m = (k : Int) := ho.many
  have HCF := Lib.hid (rcount_f m ⟨by omega, by omega⟩)
  have hlen : bs.length ≤ 64 := by have := ho.len; simpa using this
  have HBD := Lib.hid (show ∀ x ∈ bs, 0 ≤ x ∧ x ≤ 1000 from fun x hx => by have := ho.b x (by simpa using hx); omega)
  have hmp : decide ((0 : Int) < m) = true := by simp; omega
  have HAF := Lib.hid (radd_f s v ho.sum hv)
  obtain ⟨s2, hs2⟩ : ∃ s2, s2 = (sadd s v).1 := ⟨_, rfl⟩
  obtain ⟨o2, ho2⟩ : ∃ o2, o2 = (sadd s v).2 := ⟨_, rfl⟩
  rw [show sadd s v = (s2, o2) by rw [hs2, ho2]] at HAF
  have hcl : decide (v < le) = true := by simp; omega
  have hcg : decide (mo < v) = true := by simp; omega
  have hbl := bl_le v hv
  obtain ⟨b, hbe⟩ : ∃ b, b = bl v := ⟨_, rfl⟩
  have HBE := Lib.hid hbe
  rw [← hbe] at hbl
  have HAE := Lib.hid (show addR ⟨3, m, s, le, mo, false, bs⟩ v = ⟨3, (m + 1), s2, v, v, o2, bump bs b⟩ by
    unfold addR
    have e1 : (if v < le then v else le) = v := by split <;> omega
    have e2 : (if mo < v then v else mo) = v := by split <;> omega
    simp [e1, e2, hs2, ho2, hbe])
  have HV := Lib.hid hv
  have HEU := Lib.hid EU
  have HO := Lib.hid (show Ow w base (.slice A bs.length c) bs from hO)
  obtain ⟨n, hn⟩ : ∃ n, n = bs.length := ⟨_, rfl⟩
  have HN := Lib.hid hn
  rw [← hn] at HO hlen ⊢
  obtain ⟨Q, hQ⟩ : ∃ Q, Q = Ret key (addR ⟨3, m, s, le, mo, false, bs⟩ v) w := ⟨_, rfl⟩
  have HQ := Lib.hid hQ
  rw [← hQ]
  clear hm0 ho hO hlt hgt hs2 ho2 hbe hv hn hQ
  show Calls Try.prog _ #[.agg #[.string key, .int .i64 3, .int .u64 m, .int .i64 s, .int .i64 le, .int .i64 mo, .bool false, .slice A n c], .int .i64 v] w _
  go_enter Try.func40, Try.ntmps40
  have F3 := (((Fr.refl [] w).alloc (.cells #[.string key, .int .i64 3, .int .u64 m, .int .i64 s, .int .i64 le, .int .i64 mo, .bool false, .slice A n c] 49)).alloc (.cells #[.string ⟨#[]⟩, .int .i64 0, .int .u64 0, .int .i64 0, .int .i64 0, .int .i64 0, .bool false, .slice none 0 0] 49)).alloc (.cells #[.string key, .int .i64 3, .int .u64 1, .int .i64 v, .int .i64 v, .int .i64 v, .bool false, .slice none 0 0] 49)
  have B0 := ((Blk.new w #[.string key, .int .i64 3, .int .u64 m, .int .i64 s, .int .i64 le, .int .i64 mo, .bool false, .slice A n c] 49).alloc (.cells #[.string ⟨#[]⟩, .int .i64 0, .int .u64 0, .int .i64 0, .int .i64 0, .int .i64 0, .bool false, .slice none 0 0] 49)).alloc (.cells #[.string key, .int .i64 3, .int .u64 1, .int .i64 v, .int .i64 v, .int .i64 v, .bool false, .slice none 0 0] 49)
  have BZ := (Blk.new (w.alloc (.cells #[.string key, .int .i64 3, .int .u64 m, .int .i64 s, .int .i64 le, .int .i64 mo, .bool false, .slice A n c] 49)) #[.string ⟨#[]⟩, .int .i64 0, .int .u64 0, .int .i64 0, .int .i64 0, .int .i64 0, .bool false, .slice none 0 0] 49).alloc (.cells #[.string key, .int .i64 3, .int .u64 1, .int .i64 v, .int .i64 v, .int .i64 v, .bool false, .slice none 0 0] 49)
  have BA := Blk.new ((w.alloc (.cells #[.string key, .int .i64 3, .int .u64 m, .int .i64 s, .int .i64 le, .int .i64 mo, .bool false, .slice A n c] 49)).alloc (.cells #[.string ⟨#[]⟩, .int .i64 0, .int .u64 0, .int .i64 0, .int .i64 0, .int .i64 0, .bool false, .slice none 0 0] 49)) #[.string key, .int .i64 3, .int .u64 1, .int .i64 v, .int .i64 v, .int .i64 v, .bool false, .slice none 0 0] 49
  simp only [size_alloc] at BZ BA
  have HF := Lib.hid F3
  have HB0 := Lib.hid B0
  have HBZ := Lib.hid BZ
  have HBA := Lib.hid BA
  clear F3 B0 BZ BA
  go_wp2_with fail
  refine (PTallyFolds.nogginref01_Count.calls m 1 (m + 1) false _ HCF.out).mono ?_
  rintro e w4 ⟨rfl, hd⟩
  have F := HF.out
  have BA := HBA.out
  have B0 := HB0.out
  have BZ := HBZ.out
  replace F := F.trans (Fr.of_drawn hd)
  replace BA := BA.keep (Fr.of_drawn hd) (by simp)
  replace B0 := B0.keep (Fr.of_drawn hd) (by simp)
  replace BZ := BZ.keep (Fr.of_drawn hd) (by simp)
  clear hd HF HB0 HBZ HBA
  have HF := Lib.hid F
  have HB0 := Lib.hid B0
  have HBZ := Lib.hid BZ
  have HBA := Lib.hid BA
  clear F BA B0 BZ
  obtain ⟨x0, x1, x2, x3, x4, x5, x6, x7, y0, y1, y2, y3, y4, y5, y6, y7⟩ := blk8 HBA.out
  obtain ⟨z0, z1, z2, z3, z4, z5, z6, z7, t0, t1, t2, t3, t4, t5, t6, t7⟩ := blk8 HB0.out
  go_wp2_with fail
  refine (PTallyFolds.nogginref01_Add.calls 3 s v s2 o2 _ HAF.out).mono ?_
  rintro e w5 ⟨rfl, hd⟩
  have F := HF.out
  have BA := HBA.out
  have B0 := HB0.out
  have BZ := HBZ.out
  replace F := F.set (b := w.heap.size + 1 + 1) (.inr (by omega)) 2 (.int .u64 (m + 1))
  replace BA := BA.put (cs' := #[.string key, .int .i64 3, .int .u64 (m + 1), .int .i64 v, .int .i64 v, .int .i64 v, .bool false, .slice none 0 0]) 2 (.int .u64 (m + 1)) rfl
  replace B0 := B0.far (b := w.heap.size + 1 + 1) (by omega) 2 (.int .u64 (m + 1))
  replace BZ := BZ.far (b := w.heap.size + 1 + 1) (by omega) 2 (.int .u64 (m + 1))
  replace F := F.set (b := w.heap.size + 1 + 1) (.inr (by omega)) 4 (.int .i64 le)
  replace BA := BA.put (cs' := #[.string key, .int .i64 3, .int .u64 (m + 1), .int .i64 v, .int .i64 le, .int .i64 v, .bool false, .slice none 0 0]) 4 (.int .i64 le) rfl
  replace B0 := B0.far (b := w.heap.size + 1 + 1) (by omega) 4 (.int .i64 le)
  replace BZ := BZ.far (b := w.heap.size + 1 + 1) (by omega) 4 (.int .i64 le)
  replace F := F.set (b := w.heap.size + 1 + 1) (.inr (by omega)) 5 (.int .i64 mo)
  replace BA := BA.put (cs' := #[.string key, .int .i64 3, .int .u64 (m + 1), .int .i64 v, .int .i64 le, .int .i64 mo, .bool false, .slice none 0 0]) 5 (.int .i64 mo) rfl
  replace B0 := B0.far (b := w.heap.size + 1 + 1) (by omega) 5 (.int .i64 mo)
  replace BZ := BZ.far (b := w.heap.size + 1 + 1) (by omega) 5 (.int .i64 mo)
  replace F := F.set (b := w.heap.size + 1 + 1) (.inr (by omega)) 6 (.bool false)
  replace BA := BA.put (cs' := #[.string key, .int .i64 3, .int .u64 (m + 1), .int .i64 v, .int .i64 le, .int .i64 mo, .bool false, .slice none 0 0]) 6 (.bool false) rfl
  replace B0 := B0.far (b := w.heap.size + 1 + 1) (by omega) 6 (.bool false)
  replace BZ := BZ.far (b := w.heap.size + 1 + 1) (by omega) 6 (.bool false)
  replace F := F.set (b := w.heap.size + 1 + 1) (.inr (by omega)) 4 (.int .i64 v)
  replace BA := BA.put (cs' := #[.string key, .int .i64 3, .int .u64 (m + 1), .int .i64 v, .int .i64 v, .int .i64 mo, .bool false, .slice none 0 0]) 4 (.int .i64 v) rfl
  replace B0 := B0.far (b := w.heap.size + 1 + 1) (by omega) 4 (.int .i64 v)
  replace BZ := BZ.far (b := w.heap.size + 1 + 1) (by omega) 4 (.int .i64 v)
  replace F := F.set (b := w.heap.size + 1 + 1) (.inr (by omega)) 5 (.int .i64 v)
  replace BA := BA.put (cs' := #[.string key, .int .i64 3, .int .u64 (m + 1), .int .i64 v, .int .i64 v, .int .i64 v, .bool false, .slice none 0 0]) 5 (.int .i64 v) rfl
  replace B0 := B0.far (b := w.heap.size + 1 + 1) (by omega) 5 (.int .i64 v)
  replace BZ := BZ.far (b := w.heap.size + 1 + 1) (by omega) 5 (.int .i64 v)
  replace F := F.trans (Fr.of_drawn hd)
  replace BA := BA.keep (Fr.of_drawn hd) (by simp)
  replace B0 := B0.keep (Fr.of_drawn hd) (by simp)
  replace BZ := BZ.keep (Fr.of_drawn hd) (by simp)
  clear hd HF HB0 HBZ HBA x0 x1 x2 x3 x4 x5 x6 x7 y0 y1 y2 y3 y4 y5 y6 y7 z0 z1 z2 z3 z4 z5 z6 z7 t0 t1 t2 t3 t4 t5 t6 t7
  have HF := Lib.hid F
  have HB0 := Lib.hid B0
  have HBZ := Lib.hid BZ
  have HBA := Lib.hid BA
  clear F BA B0 BZ
  obtain ⟨x0, x1, x2, x3, x4, x5, x6, x7, y0, y1, y2, y3, y4, y5, y6, y7⟩ := blk8 HBA.out
  obtain ⟨z0, z1, z2, z3, z4, z5, z6, z7, t0, t1, t2, t3, t4, t5, t6, t7⟩ := blk8 HB0.out
  have F := HF.out
  have BA := HBA.out
  have BZ := HBZ.out
  have B0 := HB0.out
  replace F := F.set (b := w.heap.size + 1 + 1) (.inr (by omega)) 3 (.int .i64 s2)
  replace BA := BA.put (cs' := #[.string key, .int .i64 3, .int .u64 (m + 1), .int .i64 s2, .int .i64 v, .int .i64 v, .bool false, .slice none 0 0]) 3 (.int .i64 s2) rfl
  replace BZ := BZ.far (b := w.heap.size + 1 + 1) (by omega) 3 (.int .i64 s2)
  replace B0 := B0.far (b := w.heap.size + 1 + 1) (by omega) 3 (.int .i64 s2)
  replace F := F.set (b := w.heap.size + 1 + 1) (.inr (by omega)) 6 (.bool o2)
  replace BA := BA.put (cs' := #[.string key, .int .i64 3, .int .u64 (m + 1), .int .i64 s2, .int .i64 v, .int .i64 v, .bool o2, .slice none 0 0]) 6 (.bool o2) rfl
  replace BZ := BZ.far (b := w.heap.size + 1 + 1) (by omega) 6 (.bool o2)
  replace B0 := B0.far (b := w.heap.size + 1 + 1) (by omega) 6 (.bool o2)
  have HF6 := Lib.hid F
  have HBA6 := Lib.hid BA
  have HBZ6 := Lib.hid BZ
  have HB06 := Lib.hid B0
  have HSRC := Lib.hid ((HO.out.keep0 F).src)
  clear F BA BZ B0
  have hsz := HBA6.out.lt
  go_wp2_with (
    at_builtin
    refine wpList_app (by rfl) _ _ _ (by rfl) (w.heap.size + 1 + 1 + 1) 46 1 8 HEU.out (.slice none 0 0) 0 [] (by rfl) (Ow.nil _ _) (.slice A n c) n (bs.map (Value.int .u64)) (by rfl) (by have h := HSRC.out; rw [← HN.out] at h; exact h) (by omega) (by omega) (by omega) ?_
    intro v6 w6 ho6 hg6 hat6
    have HO6 := Lib.hid (show Ow w6 (w.heap.size + 1 + 1 + 1) v6 bs by unfold Ow; rw [← HN.out, ← Nat.zero_add n]; exact ho6)
    have hF6 := Fr.of_grown (S := []) hg6 (fun k hk => by have h2 : (none : Option Nat) = some k := hk; cases h2)
    have BA7 := HBA6.out.keep hF6 (by simp)
    have BZ7 := HBZ6.out.keep hF6 (by simp)
    have HF7 := Lib.hid (HF6.out.trans hF6)
    have B07 := HB06.out.keep hF6 (by simp)
    clear ho6 hg6 hat6 hF6 HF6 HBA6 HBZ6 HB06 x0 x1 x2 x3 x4 x5 x6 x7 y0 y1 y2 y3 y4 y5 y6 y7 z0 z1 z2 z3 z4 z5 z6 z7 t0 t1 t2 t3 t4 t5 t6 t7
    obtain ⟨A6, n6, c6, rfl⟩ := HO6.out.slice
    have HBA7 := Lib.hid BA7
    have HBZ7 := Lib.hid BZ7
    have HB07 := Lib.hid B07
    clear BA7 BZ7 B07
    obtain ⟨x0, x1, x2, x3, x4, x5, x6, x7, y0, y1, y2, y3, y4, y5, y6, y7⟩ := blk8 HBA7.out
    obtain ⟨q0, q1, q2, q3, q4, q5, q6, q7, p0, p1, p2, p3, p4, p5, p6, p7⟩ := blk8 HBZ7.out
    obtain ⟨z0, z1, z2, z3, z4, z5, z6, z7, t0, t1, t2, t3, t4, t5, t6, t7⟩ := blk8 HB07.out)
  refine (PTallyFolds.nogginref18_Bucket.calls 100 v (bl v) _ (ref_bucket v HV.out)).mono ?_
  rw [← HBE.out]
  rintro e w8 ⟨rfl, hd⟩
  have F := (HF7.out.set (b := w.heap.size + 1 + 1) (.inr (by omega)) 7 (.slice A6 n6 c6)).trans (Fr.of_drawn hd)
  have BA := (HBA7.out.put (cs' := #[.string key, .int .i64 3, .int .u64 (m + 1), .int .i64 s2, .int .i64 v, .int .i64 v, .bool o2, .slice A6 n6 c6]) 7 (.slice A6 n6 c6) rfl).keep (Fr.of_drawn hd) (by simp)
  have BZ := (HBZ7.out.far (b := w.heap.size + 1 + 1) (by omega) 7 (.slice A6 n6 c6)).keep (Fr.of_drawn hd) (by simp)
  have O8 := (HO6.out.keep (S := [w.heap.size + 1 + 1]) ((Fr.refl _ w6).set (b := w.heap.size + 1 + 1) (.inl (by simp)) 7 (.slice A6 n6 c6)) (fun x hx h => by have h1 := (HO6.out.lt x h).1; simp at hx; omega)).keep0 (Fr.of_drawn hd)
  have HBA8 := Lib.hid BA
  have HBZ8 := Lib.hid BZ
  have HO8 := Lib.hid O8
  have HF8 := Lib.hid F
  clear hd F BA BZ O8 HF7 HBA7 HBZ7 HO6 HB07 x0 x1 x2 x3 x4 x5 x6 x7 y0 y1 y2 y3 y4 y5 y6 y7 z0 z1 z2 z3 z4 z5 z6 z7 t0 t1 t2 t3 t4 t5 t6 t7 q0 q1 q2 q3 q4 q5 q6 q7 p0 p1 p2 p3 p4 p5 p6 p7
  have HLB := Lib.hid (show bs.length ≤ 64 by have := HN.out; omega)
  go_wp2_with fail
  go_loopw [78] (fun _ wr => ∃ j A q c, q = bs.length + j ∧ bs.length + j ≤ max bs.length (b + 1) ∧ Blk wr (w.heap.size + 1 + 1) #[.string key, .int .i64 3, .int .u64 (m + 1), .int .i64 s2, .int .i64 v, .int .i64 v, .bool o2, .slice A q c] 49 ∧ Blk wr (w.heap.size + 1) #[.string ⟨#[]⟩, .int .i64 0, .int .u64 0, .int .i64 0, .int .i64 0, .int .i64 0, .bool false, .slice none 0 0] 49 ∧ Ow wr (w.heap.size + 1 + 1 + 1) (.slice A q c) (bs ++ List.replicate j 0) ∧ Fr [] w wr) (fun _ wr => b + 1 - lenV ((wr.cell? ⟨w.heap.size + 1 + 1, 7, none⟩).getD undef))
  case atStart => exact ⟨0, A6, n6, c6, by rw [HO8.out.len]; rfl, by omega, HBA8.out, HBZ8.out, by simpa using HO8.out, HF8.out⟩
  case round =>
    obtain ⟨j, A2, q, c2, hm, hj, hB, hZ, hO, hF⟩ := hrel
    clear HBA8 HBZ8 HO8 HF8
    have HB := Lib.hid hB
    have HZ := Lib.hid hZ
    have HO := Lib.hid hO
    have HF := Lib.hid hF
    have HM := Lib.hid hm
    have hml : (bs ++ List.replicate j (0 : Int)).length = q := by rw [List.length_append, List.length_replicate]; exact hm.symm
    have HML := Lib.hid hml
    have hmb : q ≤ 200 := by have := HLB.out; have := HM.out; omega
    clear hB hZ hO hF hm hml
    by_cases hlt : q ≤ b
    · have e7 : wr.cell? ⟨w.heap.size + 1 + 1, 7, none⟩ = some (.slice A2 q c2) := HB.out.cell 7
      have HA := Lib.hid (HO.out.alloc (.cells #[.int .u64 0] 46))
      have HS := Lib.hid (src_one wr (.int .u64 0) 46 rfl)
      have hsz := HB.out.lt
      go_wp2_with (
        at_builtin
        refine wpList_app (by rfl) _ _ _ (by rfl) (w.heap.size + 1 + 1 + 1) 46 1 8 HEU.out (.slice A2 q c2) q ((bs ++ List.replicate j (0 : Int)).map (Value.int .u64)) (by rfl) (by have h := HA.out; unfold Ow at h; rw [HML.out] at h; exact h) (.slice (some ⟨wr.heap.size, 0, none⟩) 1 1) 1 [.int .u64 0] (by rfl) HS.out (by omega) (by omega) (by rw [size_alloc]; omega) ?_
        intro v3 w3 ho3 hg3 hat3
        have HO3 := Lib.hid (show Ow w3 (w.heap.size + 1 + 1 + 1) v3 (bs ++ List.replicate (j + 1) 0) by
          unfold Ow
          rw [List.replicate_succ', ← List.append_assoc, List.length_append, List.map_append, HML.out]
          exact ho3)
        have hgr := Fr.of_grown (S := (Value.slice A2 q c2).ownBlock.toList) hg3 (fun k hk => .inl (by rw [hk]; simp))
        have hnot : ∀ x ∈ (Value.slice A2 q c2).ownBlock.toList, w.heap.size + 1 + 1 + 1 ≤ x := fun x hx => (HA.out.lt x (by simpa using hx)).1
        have HF3 := Lib.hid ((HF.out.alloc _).step hgr (fun x hx => .inr (by have := hnot x hx; omega)))
        have HB3 := Lib.hid ((HB.out.alloc _).keep hgr (fun hx => by have := hnot _ hx; omega))
        have HZ3 := Lib.hid ((HZ.out.alloc _).keep hgr (fun hx => by have := hnot _ hx; omega))
        have hl3 := HO3.out.form
        obtain ⟨A3, c3, rfl⟩ : ∃ A3 c3, v3 = .slice A3 (q + 1) c3 := by
          rcases hl3 with ⟨_, h2⟩ | ⟨g, cap, h3, _⟩
          · have h4 := congrArg List.length h2
            simp at h4
          · exact ⟨_, _, by rw [h3, List.replicate_succ', ← List.append_assoc, List.length_append, HML.out]; rfl⟩
        clear ho3 hg3 hat3 hgr hnot hl3 e7 HA HS
        have f7 := HB3.out.frozen 7
        have e73 := HB3.out.cell 7)
      have HB4 := Lib.hid (HB3.out.put (cs' := #[.string key, .int .i64 3, .int .u64 (m + 1), .int .i64 s2, .int .i64 v, .int .i64 v, .bool o2, .slice A3 (q + 1) c3]) 7 (.slice A3 (q + 1) c3) rfl)
      go_roundw
      case rel => exact ⟨j + 1, A3, q + 1, c3, by have := HM.out; omega, by have := HM.out; omega, HB4.out, HZ3.out.far (b := w.heap.size + 1 + 1) (by omega) 7 _, HO3.out.keep (S := [w.heap.size + 1 + 1]) ((Fr.refl _ w3).set (b := w.heap.size + 1 + 1) (.inl (by simp)) 7 _) (fun x hx h => by have h1 := (HO3.out.lt x h).1; simp at hx; omega), HF3.out.set (b := w.heap.size + 1 + 1) (.inr (by omega)) 7 _⟩
      case measure =>
        rw [HB4.out.cell 7, HB.out.cell 7]
        simp [lenV]
        omega
    · have hmx : bs.length + j = max bs.length (b + 1) := by have := HM.out; omega
      have HE := Lib.hid (show bs ++ List.replicate j (0 : Int) = ext bs b by
        unfold ext
        congr 2
        omega)
      rw [HE.out] at HO HML
      have HBX := Lib.hid (getD_bd (ext_bd (m := 1000) HBD.out (by decide) b) (by decide) b)
      obtain ⟨x, hx⟩ : ∃ x, x = (ext bs b).getD b 0 := ⟨_, rfl⟩
      have HXX := Lib.hid (show (ext bs b).set b (x + 1) = bump bs b by unfold bump; rw [hx])
      rw [← hx] at HBX
      obtain ⟨u0, u1⟩ := HBX.out
      have HCX := Lib.hid (rcount_f x ⟨u0, by omega⟩)
      have hlt2 : b < q := by omega
      rcases HO.out.form with ⟨_, h2⟩ | ⟨gb, cap, h3, hg0, _, hcap, hcell⟩
      · rw [h2] at HML
        have := HML.out
        simp at this
        omega
      · rw [HML.out] at h3 hcap
        simp only [Value.slice.injEq, true_and] at h3
        obtain ⟨rfl, rfl⟩ := h3
        have h4 := hcell b (by rw [HML.out]; exact hlt2)
        rw [← hx] at h4
        obtain ⟨e2, f2⟩ := h4
        have e1 : wr.cell? ⟨w.heap.size + 1 + 1, 7, none⟩ = some (.slice (some ⟨gb, 0, none⟩) q c2) := HB.out.cell 7
        have HST := Lib.hid (show ∀ N, Ow ((wr.drewN N).setCell ⟨gb, b, none⟩ (.int .u64 (x + 1))) (w.heap.size + 1 + 1 + 1) (.slice (some ⟨gb, 0, none⟩) q c2) (bump bs b) from fun N => by
          rw [← HXX.out]
          have h := HO.out
          rw [← HML.out] at h ⊢
          exact Ow.store (w := wr.drewN N) h b (x + 1) (by rw [HML.out]; exact hlt2))
        clear hcell hx hlt hmx HO HBX
        have hg1 : gb ≠ w.heap.size + 1 + 1 := by omega
        have hg2 : gb ≠ w.heap.size + 1 := by omega
        go_wp2_with fail
        refine start_ (n := 14) (S := fun w' => w'.cell? ⟨w.heap.size + 1 + 1, 7, none⟩ = some (.slice (some ⟨gb, 0, none⟩) q c2) ∧ w'.cell? ⟨gb, b, none⟩ = some (.int .u64 x)) (ds := [13]) #[false, false, false, false, false, false, false, false, false, false, false, false, false, false] (by kernel_rfl) rfl rfl ⟨e1, e2⟩ (fun hHeld => ?_)
        refine pure_ (i := 0) (N := some 89) (v := ?_) (a' := ?_) #[true, false, false, false, false, false, false, false, false, false, false, false, false, false] rfl rfl (by kernel_rfl) (fun _ _ _ h => h) (Or.inl ⟨by rfl, ?_⟩) ?_ ?_
        rotate_left
        · intro w'
          go_simp
          with_reducible rfl
        rotate_left
        · simp only [Act.put, List.setIfInBounds_toArray, List.set_cons_zero, List.set_cons_succ, i64_w, i32_w]
          rfl
        refine pure_ (i := 2) (N := some 91) (v := ?_) (a' := ?_) #[true, false, true, false, false, false, false, false, false, false, false, false, false, false] rfl rfl (by kernel_rfl) (fun _ _ _ h => h) (Or.inl ⟨by rfl, ?_⟩) ?_ ?_
        rotate_left
        · intro w'
          go_simp
          with_reducible rfl
        rotate_left
        · simp only [Act.put, List.setIfInBounds_toArray, List.set_cons_zero, List.set_cons_succ, i64_w, i32_w]
          rfl
        refine pure_ (i := 3) (N := some 92) (v := ?_) (a' := ?_) #[true, false, true, true, false, false, false, false, false, false, false, false, false, false] rfl rfl (by kernel_rfl) (fun _ _ _ h => h) (Or.inl ⟨by rfl, ?_⟩) ?_ ?_
        rotate_left
        · intro w'
          go_simp
          with_reducible rfl
        rotate_left
        · simp only [Act.put, List.setIfInBounds_toArray, List.set_cons_zero, List.set_cons_succ, i64_w, i32_w]
          rfl
        refine pure_ (i := 5) (N := some 94) (v := ?_) (a' := ?_) #[true, false, true, true, false, true, false, false, false, false, false, false, false, false] rfl rfl (by kernel_rfl) (fun _ _ _ h => h) (Or.inl ⟨by rfl, ?_⟩) ?_ ?_
        rotate_left
        · intro w'
          go_simp
          with_reducible rfl
        rotate_left
        · simp only [Act.put, List.setIfInBounds_toArray, List.set_cons_zero, List.set_cons_succ, i64_w, i32_w]
          rfl
        refine take_ (i := 1) (N := some 90) (v := ?_) (a' := ?_) #[true, true, true, true, false, true, false, false, false, false, false, false, false, false] rfl rfl (by kernel_rfl) (fun _ _ _ h => h) (Or.inl ⟨by rfl, ?_⟩) hHeld ?_ ?_
        rotate_left
        · rintro w' ⟨s0, s1⟩
          go_simp
          with_reducible rfl
        rotate_left
        · simp only [Act.put, List.setIfInBounds_toArray, List.set_cons_zero, List.set_cons_succ, i64_w, i32_w]
          rfl
        refine take_ (i := 4) (N := some 93) (v := ?_) (a' := ?_) #[true, true, true, true, true, true, false, false, false, false, false, false, false, false] rfl rfl (by kernel_rfl) (fun _ _ _ h => h) (Or.inl ⟨by rfl, ?_⟩) hHeld ?_ ?_
        rotate_left
        · rintro w' ⟨s0, s1⟩
          go_simp
          with_reducible rfl
        rotate_left
        · simp only [Act.put, List.setIfInBounds_toArray, List.set_cons_zero, List.set_cons_succ, i64_w, i32_w]
          rfl
        refine pure_ (i := 6) (N := some 95) (v := ?_) (a' := ?_) #[true, true, true, true, true, true, true, false, false, false, false, false, false, false] rfl rfl (by kernel_rfl) (fun _ _ _ h => h) (Or.inl ⟨by rfl, ?_⟩) ?_ ?_
        rotate_left
        · intro w'
          go_simp
          with_reducible rfl
        rotate_left
        · simp only [Act.put, List.setIfInBounds_toArray, List.set_cons_zero, List.set_cons_succ, i64_w, i32_w]
          rfl
        refine take_ (i := 7) (N := some 96) (v := ?_) (a' := ?_) #[true, true, true, true, true, true, true, true, false, false, false, false, false, false] rfl rfl (by kernel_rfl) (fun _ _ _ h => h) (Or.inl ⟨by rfl, ?_⟩) hHeld ?_ ?_
        rotate_left
        · rintro w' ⟨s0, s1⟩
          go_simp
          with_reducible rfl
        rotate_left
        · simp only [Act.put, List.setIfInBounds_toArray, List.set_cons_zero, List.set_cons_succ, i64_w, i32_w]
          rfl
        refine one_ (i := 8) (N := some 97) #[true, true, true, true, true, true, true, true, true, false, false, false, false, false] rfl rfl (by kernel_rfl) (by decide) (fun K hK => ?_)
        refine goes_ Try.func60 (by kernel_rfl) rfl #[.int .u64 x, .int .u64 1] (by rfl) rfl rfl (by simp only [List.map_toArray, List.map_cons, List.map_nil]; rfl) ?_
        with_reducible refine (PTallyFolds.nogginref01_Count.calls x 1 (x + 1) false _ HCX.out).mono ?_
        rintro e w9 ⟨rfl, hd⟩
        refine ⟨_, rfl, ?_⟩
        obtain ⟨N, rfl⟩ := hd.out
        clear hd
        refine hK.out _ _ ⟨e1, e2⟩ (fun hHeld => ?_)
        clear hK K
        refine norm_ (a' := ?_) ?_ ?_
        rotate_left
        · show Act.put _ (some 97) _ = _
          simp only [Act.put, List.setIfInBounds_toArray, List.set_cons_zero, List.set_cons_succ, i64_w, i32_w]
          rfl
        refine pure_ (i := 9) (N := some 88) (v := ?_) (a' := ?_) #[true, true, true, true, true, true, true, true, true, true, false, false, false, false] rfl rfl (by kernel_rfl) (fun _ _ _ h => h) (Or.inl ⟨by rfl, ?_⟩) ?_ ?_
        rotate_left
        · intro w'
          go_simp
          with_reducible rfl
        rotate_left
        · simp only [Act.put, List.setIfInBounds_toArray, List.set_cons_zero, List.set_cons_succ, i64_w, i32_w]
          rfl
        refine pure_ (i := 10) (N := some 98) (v := ?_) (a' := ?_) #[true, true, true, true, true, true, true, true, true, true, true, false, false, false] rfl rfl (by kernel_rfl) (fun _ _ _ h => h) (Or.inl ⟨by rfl, ?_⟩) ?_ ?_
        rotate_left
        · intro w'
          go_simp
          with_reducible rfl
        rotate_left
        · simp only [Act.put, List.setIfInBounds_toArray, List.set_cons_zero, List.set_cons_succ, i64_w, i32_w]
          rfl
        refine pure_ (i := 11) (N := some 99) (v := ?_) (a' := ?_) #[true, true, true, true, true, true, true, true, true, true, true, true, false, false] rfl rfl (by kernel_rfl) (fun _ _ _ h => h) (Or.inl ⟨by rfl, ?_⟩) ?_ ?_
        rotate_left
        · intro w'
          go_simp
          with_reducible rfl
        rotate_left
        · simp only [Act.put, List.setIfInBounds_toArray, List.set_cons_zero, List.set_cons_succ, i64_w, i32_w]
          rfl
        refine pure_ (i := 12) (N := some 100) (v := ?_) (a' := ?_) #[true, true, true, true, true, true, true, true, true, true, true, true, true, false] rfl rfl (by kernel_rfl) (fun _ _ _ h => h) (Or.inl ⟨by rfl, ?_⟩) ?_ ?_
        rotate_left
        · intro w'
          go_simp
          with_reducible rfl
        rotate_left
        · simp only [Act.put, List.setIfInBounds_toArray, List.set_cons_zero, List.set_cons_succ, i64_w, i32_w]
          rfl
        refine last_ (i := 13) (N := none) #[true, true, true, true, true, true, true, true, true, true, true, true, true, true] rfl rfl (by kernel_rfl) (by decide) (fun K hK => ?_)
        refine skip_ (w1 := ?_) (by rfl) rfl ?_ ?_
        rotate_left
        · go_simp
          rfl
        refine hK.out _ _ ?_
        clear hK K
        refine done_ (by kernel_rfl) ?_
        have HB9 := Lib.hid ((HB.out.drewN (1 + N)).far (b := gb) hg1.symm b (.int .u64 (x + 1)))
        have HZ9 := Lib.hid ((HZ.out.drewN (1 + N)).far (b := gb) hg2.symm b (.int .u64 (x + 1)))
        have HF9 := Lib.hid ((HF.out.drewN (1 + N)).set (b := gb) (.inr (by omega)) b (.int .u64 (x + 1)))
        have HO9 := Lib.hid (HST.out (1 + N))
        clear HST HB HZ HF e1 e2 f2
        generalize (wr.drewN (1 + N)).setCell ⟨gb, b, none⟩ (.int .u64 (x + 1)) = w9 at HB9 HZ9 HF9 HO9 ⊢
        obtain ⟨x0, x1, x2, x3, x4, x5, x6, x7, y0, y1, y2, y3, y4, y5, y6, y7⟩ := blk8 HB9.out
        obtain ⟨q0, q1, q2, q3, q4, q5, q6, q7, p0, p1, p2, p3, p4, p5, p6, p7⟩ := blk8 HZ9.out
        go_wp2_with fail
        refine ret_row (g := w.heap.size + 1) (cs := #[.string key, .int .i64 3, .int .u64 (m + 1), .int .i64 s2, .int .i64 v, .int .i64 v, .bool o2, .slice (some ⟨gb, 0, none⟩) q c2]) (Blk.fill8 HZ9.out rfl _ _ _ _ _ _ _ _) rfl rfl rfl ?_
        rw [HQ.out, HAE.out]
        refine ⟨.slice (some ⟨gb, 0, none⟩) q c2, rfl, ?_, ?_⟩
        · exact Ow.base (b := w.heap.size + 1 + 1 + 1) (HO9.out.keep (S := [w.heap.size + 1]) (Fr.fill8 (g := w.heap.size + 1) (Fr.refl _ w9) (.inl (by simp)) _ _ _ _ _ _ _ _) (fun x hx h => by have h1 := (HO9.out.lt x h).1; simp at hx; omega)) (by omega)
        · exact Fr.fill8 (g := w.heap.size + 1) HF9.out (.inr (by omega)) _ _ _ _ _ _ _ _

set_option maxRecDepth 100000 in
set_option maxHeartbeats 4000000 in
theorem come_histotLG (key : ByteArray) (m s le mo : Int) (bs : List Int) (k base : Nat) (A : Option Addr) (c : Nat) (v : Int) (hv : I64 v) (hk : 1 ≤ k ∧ k ≤ 1000) (ho : Ok k ⟨3, m, s, le, mo, true, bs⟩) (hlt : v < le) (hgt : mo < v) (w : World) (hO : Ow w base (.slice A bs.length c) bs) :
    Calls Try.prog 40 #[RowV key ⟨3, m, s, le, mo, true, bs⟩ (.slice A bs.length c), .int .i64 v] w (Ret key (addR ⟨3, m, s, le, mo, true, bs⟩ v) w) := by
  have hm0 : m = (k : Int) := ho.many
  have HCF := Lib.hid (rcount_f m ⟨by omega, by omega⟩)
  have hlen : bs.length ≤ 64 := by have := ho.len; simpa using this
  have HBD := Lib.hid (show ∀ x ∈ bs, 0 ≤ x ∧ x ≤ 1000 from fun x hx => by have := ho.b x (by simpa using hx); omega)
  have hmp : decide ((0 : Int) < m) = true := by simp; omega
  have HAF := Lib.hid (radd_f s v ho.sum hv)
  obtain ⟨s2, hs2⟩ : ∃ s2, s2 = (sadd s v).1 := ⟨_, rfl⟩
  obtain ⟨o2, ho2⟩ : ∃ o2, o2 = (sadd s v).2 := ⟨_, rfl⟩
  rw [show sadd s v = (s2, o2) by rw [hs2, ho2]] at HAF
  have hcl : decide (v < le) = true := by simp; omega
  have hcg : decide (mo < v) = true := by simp; omega
  have hbl := bl_le v hv
  obtain ⟨b, hbe⟩ : ∃ b, b = bl v := ⟨_, rfl⟩
  have HBE := Lib.hid hbe
  rw [← hbe] at hbl
  have HAE := Lib.hid (show addR ⟨3, m, s, le, mo, true, bs⟩ v = ⟨3, (m + 1), s2, v, v, true, bump bs b⟩ by
    unfold addR
    have e1 : (if v < le then v else le) = v := by split <;> omega
    have e2 : (if mo < v then v else mo) = v := by split <;> omega
    simp [e1, e2, hs2, ho2, hbe])
  have HV := Lib.hid hv
  have HEU := Lib.hid EU
  have HO := Lib.hid (show Ow w base (.slice A bs.length c) bs from hO)
  obtain ⟨n, hn⟩ : ∃ n, n = bs.length := ⟨_, rfl⟩
  have HN := Lib.hid hn
  rw [← hn] at HO hlen ⊢
  obtain ⟨Q, hQ⟩ : ∃ Q, Q = Ret key (addR ⟨3, m, s, le, mo, true, bs⟩ v) w := ⟨_, rfl⟩
  have HQ := Lib.hid hQ
  rw [← hQ]
  clear hm0 ho hO hlt hgt hs2 ho2 hbe hv hn hQ
  show Calls Try.prog _ #[.agg #[.string key, .int .i64 3, .int .u64 m, .int .i64 s, .int .i64 le, .int .i64 mo, .bool true, .slice A n c], .int .i64 v] w _
  go_enter Try.func40, Try.ntmps40
  have F3 := (((Fr.refl [] w).alloc (.cells #[.string key, .int .i64 3, .int .u64 m, .int .i64 s, .int .i64 le, .int .i64 mo, .bool true, .slice A n c] 49)).alloc (.cells #[.string ⟨#[]⟩, .int .i64 0, .int .u64 0, .int .i64 0, .int .i64 0, .int .i64 0, .bool false, .slice none 0 0] 49)).alloc (.cells #[.string key, .int .i64 3, .int .u64 1, .int .i64 v, .int .i64 v, .int .i64 v, .bool false, .slice none 0 0] 49)
  have B0 := ((Blk.new w #[.string key, .int .i64 3, .int .u64 m, .int .i64 s, .int .i64 le, .int .i64 mo, .bool true, .slice A n c] 49).alloc (.cells #[.string ⟨#[]⟩, .int .i64 0, .int .u64 0, .int .i64 0, .int .i64 0, .int .i64 0, .bool false, .slice none 0 0] 49)).alloc (.cells #[.string key, .int .i64 3, .int .u64 1, .int .i64 v, .int .i64 v, .int .i64 v, .bool false, .slice none 0 0] 49)
  have BZ := (Blk.new (w.alloc (.cells #[.string key, .int .i64 3, .int .u64 m, .int .i64 s, .int .i64 le, .int .i64 mo, .bool true, .slice A n c] 49)) #[.string ⟨#[]⟩, .int .i64 0, .int .u64 0, .int .i64 0, .int .i64 0, .int .i64 0, .bool false, .slice none 0 0] 49).alloc (.cells #[.string key, .int .i64 3, .int .u64 1, .int .i64 v, .int .i64 v, .int .i64 v, .bool false, .slice none 0 0] 49)
  have BA := Blk.new ((w.alloc (.cells #[.string key, .int .i64 3, .int .u64 m, .int .i64 s, .int .i64 le, .int .i64 mo, .bool true, .slice A n c] 49)).alloc (.cells #[.string ⟨#[]⟩, .int .i64 0, .int .u64 0, .int .i64 0, .int .i64 0, .int .i64 0, .bool false, .slice none 0 0] 49)) #[.string key, .int .i64 3, .int .u64 1, .int .i64 v, .int .i64 v, .int .i64 v, .bool false, .slice none 0 0] 49
  simp only [size_alloc] at BZ BA
  have HF := Lib.hid F3
  have HB0 := Lib.hid B0
  have HBZ := Lib.hid BZ
  have HBA := Lib.hid BA
  clear F3 B0 BZ BA
  go_wp2_with fail
  refine (PTallyFolds.nogginref01_Count.calls m 1 (m + 1) false _ HCF.out).mono ?_
  rintro e w4 ⟨rfl, hd⟩
  have F := HF.out
  have BA := HBA.out
  have B0 := HB0.out
  have BZ := HBZ.out
  replace F := F.trans (Fr.of_drawn hd)
  replace BA := BA.keep (Fr.of_drawn hd) (by simp)
  replace B0 := B0.keep (Fr.of_drawn hd) (by simp)
  replace BZ := BZ.keep (Fr.of_drawn hd) (by simp)
  clear hd HF HB0 HBZ HBA
  have HF := Lib.hid F
  have HB0 := Lib.hid B0
  have HBZ := Lib.hid BZ
  have HBA := Lib.hid BA
  clear F BA B0 BZ
  obtain ⟨x0, x1, x2, x3, x4, x5, x6, x7, y0, y1, y2, y3, y4, y5, y6, y7⟩ := blk8 HBA.out
  obtain ⟨z0, z1, z2, z3, z4, z5, z6, z7, t0, t1, t2, t3, t4, t5, t6, t7⟩ := blk8 HB0.out
  go_wp2_with fail
  refine (PTallyFolds.nogginref01_Add.calls 3 s v s2 o2 _ HAF.out).mono ?_
  rintro e w5 ⟨rfl, hd⟩
  have F := HF.out
  have BA := HBA.out
  have B0 := HB0.out
  have BZ := HBZ.out
  replace F := F.set (b := w.heap.size + 1 + 1) (.inr (by omega)) 2 (.int .u64 (m + 1))
  replace BA := BA.put (cs' := #[.string key, .int .i64 3, .int .u64 (m + 1), .int .i64 v, .int .i64 v, .int .i64 v, .bool false, .slice none 0 0]) 2 (.int .u64 (m + 1)) rfl
  replace B0 := B0.far (b := w.heap.size + 1 + 1) (by omega) 2 (.int .u64 (m + 1))
  replace BZ := BZ.far (b := w.heap.size + 1 + 1) (by omega) 2 (.int .u64 (m + 1))
  replace F := F.set (b := w.heap.size + 1 + 1) (.inr (by omega)) 4 (.int .i64 le)
  replace BA := BA.put (cs' := #[.string key, .int .i64 3, .int .u64 (m + 1), .int .i64 v, .int .i64 le, .int .i64 v, .bool false, .slice none 0 0]) 4 (.int .i64 le) rfl
  replace B0 := B0.far (b := w.heap.size + 1 + 1) (by omega) 4 (.int .i64 le)
  replace BZ := BZ.far (b := w.heap.size + 1 + 1) (by omega) 4 (.int .i64 le)
  replace F := F.set (b := w.heap.size + 1 + 1) (.inr (by omega)) 5 (.int .i64 mo)
  replace BA := BA.put (cs' := #[.string key, .int .i64 3, .int .u64 (m + 1), .int .i64 v, .int .i64 le, .int .i64 mo, .bool false, .slice none 0 0]) 5 (.int .i64 mo) rfl
  replace B0 := B0.far (b := w.heap.size + 1 + 1) (by omega) 5 (.int .i64 mo)
  replace BZ := BZ.far (b := w.heap.size + 1 + 1) (by omega) 5 (.int .i64 mo)
  replace F := F.set (b := w.heap.size + 1 + 1) (.inr (by omega)) 6 (.bool true)
  replace BA := BA.put (cs' := #[.string key, .int .i64 3, .int .u64 (m + 1), .int .i64 v, .int .i64 le, .int .i64 mo, .bool true, .slice none 0 0]) 6 (.bool true) rfl
  replace B0 := B0.far (b := w.heap.size + 1 + 1) (by omega) 6 (.bool true)
  replace BZ := BZ.far (b := w.heap.size + 1 + 1) (by omega) 6 (.bool true)
  replace F := F.set (b := w.heap.size + 1 + 1) (.inr (by omega)) 4 (.int .i64 v)
  replace BA := BA.put (cs' := #[.string key, .int .i64 3, .int .u64 (m + 1), .int .i64 v, .int .i64 v, .int .i64 mo, .bool true, .slice none 0 0]) 4 (.int .i64 v) rfl
  replace B0 := B0.far (b := w.heap.size + 1 + 1) (by omega) 4 (.int .i64 v)
  replace BZ := BZ.far (b := w.heap.size + 1 + 1) (by omega) 4 (.int .i64 v)
  replace F := F.set (b := w.heap.size + 1 + 1) (.inr (by omega)) 5 (.int .i64 v)
  replace BA := BA.put (cs' := #[.string key, .int .i64 3, .int .u64 (m + 1), .int .i64 v, .int .i64 v, .int .i64 v, .bool true, .slice none 0 0]) 5 (.int .i64 v) rfl
  replace B0 := B0.far (b := w.heap.size + 1 + 1) (by omega) 5 (.int .i64 v)
  replace BZ := BZ.far (b := w.heap.size + 1 + 1) (by omega) 5 (.int .i64 v)
  replace F := F.trans (Fr.of_drawn hd)
  replace BA := BA.keep (Fr.of_drawn hd) (by simp)
  replace B0 := B0.keep (Fr.of_drawn hd) (by simp)
  replace BZ := BZ.keep (Fr.of_drawn hd) (by simp)
  clear hd HF HB0 HBZ HBA x0 x1 x2 x3 x4 x5 x6 x7 y0 y1 y2 y3 y4 y5 y6 y7 z0 z1 z2 z3 z4 z5 z6 z7 t0 t1 t2 t3 t4 t5 t6 t7
  have HF := Lib.hid F
  have HB0 := Lib.hid B0
  have HBZ := Lib.hid BZ
  have HBA := Lib.hid BA
  clear F BA B0 BZ
  obtain ⟨x0, x1, x2, x3, x4, x5, x6, x7, y0, y1, y2, y3, y4, y5, y6, y7⟩ := blk8 HBA.out
  obtain ⟨z0, z1, z2, z3, z4, z5, z6, z7, t0, t1, t2, t3, t4, t5, t6, t7⟩ := blk8 HB0.out
  have F := HF.out
  have BA := HBA.out
  have BZ := HBZ.out
  have B0 := HB0.out
  replace F := F.set (b := w.heap.size + 1 + 1) (.inr (by omega)) 3 (.int .i64 s2)
  replace BA := BA.put (cs' := #[.string key, .int .i64 3, .int .u64 (m + 1), .int .i64 s2, .int .i64 v, .int .i64 v, .bool true, .slice none 0 0]) 3 (.int .i64 s2) rfl
  replace BZ := BZ.far (b := w.heap.size + 1 + 1) (by omega) 3 (.int .i64 s2)
  replace B0 := B0.far (b := w.heap.size + 1 + 1) (by omega) 3 (.int .i64 s2)
  replace F := F.set (b := w.heap.size + 1 + 1) (.inr (by omega)) 6 (.bool true)
  replace BA := BA.put (cs' := #[.string key, .int .i64 3, .int .u64 (m + 1), .int .i64 s2, .int .i64 v, .int .i64 v, .bool true, .slice none 0 0]) 6 (.bool true) rfl
  replace BZ := BZ.far (b := w.heap.size + 1 + 1) (by omega) 6 (.bool true)
  replace B0 := B0.far (b := w.heap.size + 1 + 1) (by omega) 6 (.bool true)
  have HF6 := Lib.hid F
  have HBA6 := Lib.hid BA
  have HBZ6 := Lib.hid BZ
  have HB06 := Lib.hid B0
  have HSRC := Lib.hid ((HO.out.keep0 F).src)
  clear F BA BZ B0
  have hsz := HBA6.out.lt
  go_wp2_with (
    at_builtin
    refine wpList_app (by rfl) _ _ _ (by rfl) (w.heap.size + 1 + 1 + 1) 46 1 8 HEU.out (.slice none 0 0) 0 [] (by rfl) (Ow.nil _ _) (.slice A n c) n (bs.map (Value.int .u64)) (by rfl) (by have h := HSRC.out; rw [← HN.out] at h; exact h) (by omega) (by omega) (by omega) ?_
    intro v6 w6 ho6 hg6 hat6
    have HO6 := Lib.hid (show Ow w6 (w.heap.size + 1 + 1 + 1) v6 bs by unfold Ow; rw [← HN.out, ← Nat.zero_add n]; exact ho6)
    have hF6 := Fr.of_grown (S := []) hg6 (fun k hk => by have h2 : (none : Option Nat) = some k := hk; cases h2)
    have BA7 := HBA6.out.keep hF6 (by simp)
    have BZ7 := HBZ6.out.keep hF6 (by simp)
    have HF7 := Lib.hid (HF6.out.trans hF6)
    have B07 := HB06.out.keep hF6 (by simp)
    clear ho6 hg6 hat6 hF6 HF6 HBA6 HBZ6 HB06 x0 x1 x2 x3 x4 x5 x6 x7 y0 y1 y2 y3 y4 y5 y6 y7 z0 z1 z2 z3 z4 z5 z6 z7 t0 t1 t2 t3 t4 t5 t6 t7
    obtain ⟨A6, n6, c6, rfl⟩ := HO6.out.slice
    have HBA7 := Lib.hid BA7
    have HBZ7 := Lib.hid BZ7
    have HB07 := Lib.hid B07
    clear BA7 BZ7 B07
    obtain ⟨x0, x1, x2, x3, x4, x5, x6, x7, y0, y1, y2, y3, y4, y5, y6, y7⟩ := blk8 HBA7.out
    obtain ⟨q0, q1, q2, q3, q4, q5, q6, q7, p0, p1, p2, p3, p4, p5, p6, p7⟩ := blk8 HBZ7.out
    obtain ⟨z0, z1, z2, z3, z4, z5, z6, z7, t0, t1, t2, t3, t4, t5, t6, t7⟩ := blk8 HB07.out)
  refine (PTallyFolds.nogginref18_Bucket.calls 100 v (bl v) _ (ref_bucket v HV.out)).mono ?_
  rw [← HBE.out]
  rintro e w8 ⟨rfl, hd⟩
  have F := (HF7.out.set (b := w.heap.size + 1 + 1) (.inr (by omega)) 7 (.slice A6 n6 c6)).trans (Fr.of_drawn hd)
  have BA := (HBA7.out.put (cs' := #[.string key, .int .i64 3, .int .u64 (m + 1), .int .i64 s2, .int .i64 v, .int .i64 v, .bool true, .slice A6 n6 c6]) 7 (.slice A6 n6 c6) rfl).keep (Fr.of_drawn hd) (by simp)
  have BZ := (HBZ7.out.far (b := w.heap.size + 1 + 1) (by omega) 7 (.slice A6 n6 c6)).keep (Fr.of_drawn hd) (by simp)
  have O8 := (HO6.out.keep (S := [w.heap.size + 1 + 1]) ((Fr.refl _ w6).set (b := w.heap.size + 1 + 1) (.inl (by simp)) 7 (.slice A6 n6 c6)) (fun x hx h => by have h1 := (HO6.out.lt x h).1; simp at hx; omega)).keep0 (Fr.of_drawn hd)
  have HBA8 := Lib.hid BA
  have HBZ8 := Lib.hid BZ
  have HO8 := Lib.hid O8
  have HF8 := Lib.hid F
  clear hd F BA BZ O8 HF7 HBA7 HBZ7 HO6 HB07 x0 x1 x2 x3 x4 x5 x6 x7 y0 y1 y2 y3 y4 y5 y6 y7 z0 z1 z2 z3 z4 z5 z6 z7 t0 t1 t2 t3 t4 t5 t6 t7 q0 q1 q2 q3 q4 q5 q6 q7 p0 p1 p2 p3 p4 p5 p6 p7
  have HLB := Lib.hid (show bs.length ≤ 64 by have := HN.out; omega)
  go_wp2_with fail
  go_loopw [78] (fun _ wr => ∃ j A q c, q = bs.length + j ∧ bs.length + j ≤ max bs.length (b + 1) ∧ Blk wr (w.heap.size + 1 + 1) #[.string key, .int .i64 3, .int .u64 (m + 1), .int .i64 s2, .int .i64 v, .int .i64 v, .bool true, .slice A q c] 49 ∧ Blk wr (w.heap.size + 1) #[.string ⟨#[]⟩, .int .i64 0, .int .u64 0, .int .i64 0, .int .i64 0, .int .i64 0, .bool false, .slice none 0 0] 49 ∧ Ow wr (w.heap.size + 1 + 1 + 1) (.slice A q c) (bs ++ List.replicate j 0) ∧ Fr [] w wr) (fun _ wr => b + 1 - lenV ((wr.cell? ⟨w.heap.size + 1 + 1, 7, none⟩).getD undef))
  case atStart => exact ⟨0, A6, n6, c6, by rw [HO8.out.len]; rfl, by omega, HBA8.out, HBZ8.out, by simpa using HO8.out, HF8.out⟩
  case round =>
    obtain ⟨j, A2, q, c2, hm, hj, hB, hZ, hO, hF⟩ := hrel
    clear HBA8 HBZ8 HO8 HF8
    have HB := Lib.hid hB
    have HZ := Lib.hid hZ
    have HO := Lib.hid hO
    have HF := Lib.hid hF
    have HM := Lib.hid hm
    have hml : (bs ++ List.replicate j (0 : Int)).length = q := by rw [List.length_append, List.length_replicate]; exact hm.symm
    have HML := Lib.hid hml
    have hmb : q ≤ 200 := by have := HLB.out; have := HM.out; omega
    clear hB hZ hO hF hm hml
    by_cases hlt : q ≤ b
    · have e7 : wr.cell? ⟨w.heap.size + 1 + 1, 7, none⟩ = some (.slice A2 q c2) := HB.out.cell 7
      have HA := Lib.hid (HO.out.alloc (.cells #[.int .u64 0] 46))
      have HS := Lib.hid (src_one wr (.int .u64 0) 46 rfl)
      have hsz := HB.out.lt
      go_wp2_with (
        at_builtin
        refine wpList_app (by rfl) _ _ _ (by rfl) (w.heap.size + 1 + 1 + 1) 46 1 8 HEU.out (.slice A2 q c2) q ((bs ++ List.replicate j (0 : Int)).map (Value.int .u64)) (by rfl) (by have h := HA.out; unfold Ow at h; rw [HML.out] at h; exact h) (.slice (some ⟨wr.heap.size, 0, none⟩) 1 1) 1 [.int .u64 0] (by rfl) HS.out (by omega) (by omega) (by rw [size_alloc]; omega) ?_
        intro v3 w3 ho3 hg3 hat3
        have HO3 := Lib.hid (show Ow w3 (w.heap.size + 1 + 1 + 1) v3 (bs ++ List.replicate (j + 1) 0) by
          unfold Ow
          rw [List.replicate_succ', ← List.append_assoc, List.length_append, List.map_append, HML.out]
          exact ho3)
        have hgr := Fr.of_grown (S := (Value.slice A2 q c2).ownBlock.toList) hg3 (fun k hk => .inl (by rw [hk]; simp))
        have hnot : ∀ x ∈ (Value.slice A2 q c2).ownBlock.toList, w.heap.size + 1 + 1 + 1 ≤ x := fun x hx => (HA.out.lt x (by simpa using hx)).1
        have HF3 := Lib.hid ((HF.out.alloc _).step hgr (fun x hx => .inr (by have := hnot x hx; omega)))
        have HB3 := Lib.hid ((HB.out.alloc _).keep hgr (fun hx => by have := hnot _ hx; omega))
        have HZ3 := Lib.hid ((HZ.out.alloc _).keep hgr (fun hx => by have := hnot _ hx; omega))
        have hl3 := HO3.out.form
        obtain ⟨A3, c3, rfl⟩ : ∃ A3 c3, v3 = .slice A3 (q + 1) c3 := by
          rcases hl3 with ⟨_, h2⟩ | ⟨g, cap, h3, _⟩
          · have h4 := congrArg List.length h2
            simp at h4
          · exact ⟨_, _, by rw [h3, List.replicate_succ', ← List.append_assoc, List.length_append, HML.out]; rfl⟩
        clear ho3 hg3 hat3 hgr hnot hl3 e7 HA HS
        have f7 := HB3.out.frozen 7
        have e73 := HB3.out.cell 7)
      have HB4 := Lib.hid (HB3.out.put (cs' := #[.string key, .int .i64 3, .int .u64 (m + 1), .int .i64 s2, .int .i64 v, .int .i64 v, .bool true, .slice A3 (q + 1) c3]) 7 (.slice A3 (q + 1) c3) rfl)
      go_roundw
      case rel => exact ⟨j + 1, A3, q + 1, c3, by have := HM.out; omega, by have := HM.out; omega, HB4.out, HZ3.out.far (b := w.heap.size + 1 + 1) (by omega) 7 _, HO3.out.keep (S := [w.heap.size + 1 + 1]) ((Fr.refl _ w3).set (b := w.heap.size + 1 + 1) (.inl (by simp)) 7 _) (fun x hx h => by have h1 := (HO3.out.lt x h).1; simp at hx; omega), HF3.out.set (b := w.heap.size + 1 + 1) (.inr (by omega)) 7 _⟩
      case measure =>
        rw [HB4.out.cell 7, HB.out.cell 7]
        simp [lenV]
        omega
    · have hmx : bs.length + j = max bs.length (b + 1) := by have := HM.out; omega
      have HE := Lib.hid (show bs ++ List.replicate j (0 : Int) = ext bs b by
        unfold ext
        congr 2
        omega)
      rw [HE.out] at HO HML
      have HBX := Lib.hid (getD_bd (ext_bd (m := 1000) HBD.out (by decide) b) (by decide) b)
      obtain ⟨x, hx⟩ : ∃ x, x = (ext bs b).getD b 0 := ⟨_, rfl⟩
      have HXX := Lib.hid (show (ext bs b).set b (x + 1) = bump bs b by unfold bump; rw [hx])
      rw [← hx] at HBX
      obtain ⟨u0, u1⟩ := HBX.out
      have HCX := Lib.hid (rcount_f x ⟨u0, by omega⟩)
      have hlt2 : b < q := by omega
      rcases HO.out.form with ⟨_, h2⟩ | ⟨gb, cap, h3, hg0, _, hcap, hcell⟩
      · rw [h2] at HML
        have := HML.out
        simp at this
        omega
      · rw [HML.out] at h3 hcap
        simp only [Value.slice.injEq, true_and] at h3
        obtain ⟨rfl, rfl⟩ := h3
        have h4 := hcell b (by rw [HML.out]; exact hlt2)
        rw [← hx] at h4
        obtain ⟨e2, f2⟩ := h4
        have e1 : wr.cell? ⟨w.heap.size + 1 + 1, 7, none⟩ = some (.slice (some ⟨gb, 0, none⟩) q c2) := HB.out.cell 7
        have HST := Lib.hid (show ∀ N, Ow ((wr.drewN N).setCell ⟨gb, b, none⟩ (.int .u64 (x + 1))) (w.heap.size + 1 + 1 + 1) (.slice (some ⟨gb, 0, none⟩) q c2) (bump bs b) from fun N => by
          rw [← HXX.out]
          have h := HO.out
          rw [← HML.out] at h ⊢
          exact Ow.store (w := wr.drewN N) h b (x + 1) (by rw [HML.out]; exact hlt2))
        clear hcell hx hlt hmx HO HBX
        have hg1 : gb ≠ w.heap.size + 1 + 1 := by omega
        have hg2 : gb ≠ w.heap.size + 1 := by omega
        go_wp2_with fail
        refine start_ (n := 14) (S := fun w' => w'.cell? ⟨w.heap.size + 1 + 1, 7, none⟩ = some (.slice (some ⟨gb, 0, none⟩) q c2) ∧ w'.cell? ⟨gb, b, none⟩ = some (.int .u64 x)) (ds := [13]) #[false, false, false, false, false, false, false, false, false, false, false, false, false, false] (by kernel_rfl) rfl rfl ⟨e1, e2⟩ (fun hHeld => ?_)
        refine pure_ (i := 0) (N := some 89) (v := ?_) (a' := ?_) #[true, false, false, false, false, false, false, false, false, false, false, false, false, false] rfl rfl (by kernel_rfl) (fun _ _ _ h => h) (Or.inl ⟨by rfl, ?_⟩) ?_ ?_
        rotate_left
        · intro w'
          go_simp
          with_reducible rfl
        rotate_left
        · simp only [Act.put, List.setIfInBounds_toArray, List.set_cons_zero, List.set_cons_succ, i64_w, i32_w]
          rfl
        refine pure_ (i := 2) (N := some 91) (v := ?_) (a' := ?_) #[true, false, true, false, false, false, false, false, false, false, false, false, false, false] rfl rfl (by kernel_rfl) (fun _ _ _ h => h) (Or.inl ⟨by rfl, ?_⟩) ?_ ?_
        rotate_left
        · intro w'
          go_simp
          with_reducible rfl
        rotate_left
        · simp only [Act.put, List.setIfInBounds_toArray, List.set_cons_zero, List.set_cons_succ, i64_w, i32_w]
          rfl
        refine pure_ (i := 3) (N := some 92) (v := ?_) (a' := ?_) #[true, false, true, true, false, false, false, false, false, false, false, false, false, false] rfl rfl (by kernel_rfl) (fun _ _ _ h => h) (Or.inl ⟨by rfl, ?_⟩) ?_ ?_
        rotate_left
        · intro w'
          go_simp
          with_reducible rfl
        rotate_left
        · simp only [Act.put, List.setIfInBounds_toArray, List.set_cons_zero, List.set_cons_succ, i64_w, i32_w]
          rfl
        refine pure_ (i := 5) (N := some 94) (v := ?_) (a' := ?_) #[true, false, true, true, false, true, false, false, false, false, false, false, false, false] rfl rfl (by kernel_rfl) (fun _ _ _ h => h) (Or.inl ⟨by rfl, ?_⟩) ?_ ?_
        rotate_left
        · intro w'
          go_simp
          with_reducible rfl
        rotate_left
        · simp only [Act.put, List.setIfInBounds_toArray, List.set_cons_zero, List.set_cons_succ, i64_w, i32_w]
          rfl
        refine take_ (i := 1) (N := some 90) (v := ?_) (a' := ?_) #[true, true, true, true, false, true, false, false, false, false, false, false, false, false] rfl rfl (by kernel_rfl) (fun _ _ _ h => h) (Or.inl ⟨by rfl, ?_⟩) hHeld ?_ ?_
        rotate_left
        · rintro w' ⟨s0, s1⟩
          go_simp
          with_reducible rfl
        rotate_left
        · simp only [Act.put, List.setIfInBounds_toArray, List.set_cons_zero, List.set_cons_succ, i64_w, i32_w]
          rfl
        refine take_ (i := 4) (N := some 93) (v := ?_) (a' := ?_) #[true, true, true, true, true, true, false, false, false, false, false, false, false, false] rfl rfl (by kernel_rfl) (fun _ _ _ h => h) (Or.inl ⟨by rfl, ?_⟩) hHeld ?_ ?_
        rotate_left
        · rintro w' ⟨s0, s1⟩
          go_simp
          with_reducible rfl
        rotate_left
        · simp only [Act.put, List.setIfInBounds_toArray, List.set_cons_zero, List.set_cons_succ, i64_w, i32_w]
          rfl
        refine pure_ (i := 6) (N := some 95) (v := ?_) (a' := ?_) #[true, true, true, true, true, true, true, false, false, false, false, false, false, false] rfl rfl (by kernel_rfl) (fun _ _ _ h => h) (Or.inl ⟨by rfl, ?_⟩) ?_ ?_
        rotate_left
        · intro w'
          go_simp
          with_reducible rfl
        rotate_left
        · simp only [Act.put, List.setIfInBounds_toArray, List.set_cons_zero, List.set_cons_succ, i64_w, i32_w]
          rfl
        refine take_ (i := 7) (N := some 96) (v := ?_) (a' := ?_) #[true, true, true, true, true, true, true, true, false, false, false, false, false, false] rfl rfl (by kernel_rfl) (fun _ _ _ h => h) (Or.inl ⟨by rfl, ?_⟩) hHeld ?_ ?_
        rotate_left
        · rintro w' ⟨s0, s1⟩
          go_simp
          with_reducible rfl
        rotate_left
        · simp only [Act.put, List.setIfInBounds_toArray, List.set_cons_zero, List.set_cons_succ, i64_w, i32_w]
          rfl
        refine one_ (i := 8) (N := some 97) #[true, true, true, true, true, true, true, true, true, false, false, false, false, false] rfl rfl (by kernel_rfl) (by decide) (fun K hK => ?_)
        refine goes_ Try.func60 (by kernel_rfl) rfl #[.int .u64 x, .int .u64 1] (by rfl) rfl rfl (by simp only [List.map_toArray, List.map_cons, List.map_nil]; rfl) ?_
        with_reducible refine (PTallyFolds.nogginref01_Count.calls x 1 (x + 1) false _ HCX.out).mono ?_
        rintro e w9 ⟨rfl, hd⟩
        refine ⟨_, rfl, ?_⟩
        obtain ⟨N, rfl⟩ := hd.out
        clear hd
        refine hK.out _ _ ⟨e1, e2⟩ (fun hHeld => ?_)
        clear hK K
        refine norm_ (a' := ?_) ?_ ?_
        rotate_left
        · show Act.put _ (some 97) _ = _
          simp only [Act.put, List.setIfInBounds_toArray, List.set_cons_zero, List.set_cons_succ, i64_w, i32_w]
          rfl
        refine pure_ (i := 9) (N := some 88) (v := ?_) (a' := ?_) #[true, true, true, true, true, true, true, true, true, true, false, false, false, false] rfl rfl (by kernel_rfl) (fun _ _ _ h => h) (Or.inl ⟨by rfl, ?_⟩) ?_ ?_
        rotate_left
        · intro w'
          go_simp
          with_reducible rfl
        rotate_left
        · simp only [Act.put, List.setIfInBounds_toArray, List.set_cons_zero, List.set_cons_succ, i64_w, i32_w]
          rfl
        refine pure_ (i := 10) (N := some 98) (v := ?_) (a' := ?_) #[true, true, true, true, true, true, true, true, true, true, true, false, false, false] rfl rfl (by kernel_rfl) (fun _ _ _ h => h) (Or.inl ⟨by rfl, ?_⟩) ?_ ?_
        rotate_left
        · intro w'
          go_simp
          with_reducible rfl
        rotate_left
        · simp only [Act.put, List.setIfInBounds_toArray, List.set_cons_zero, List.set_cons_succ, i64_w, i32_w]
          rfl
        refine pure_ (i := 11) (N := some 99) (v := ?_) (a' := ?_) #[true, true, true, true, true, true, true, true, true, true, true, true, false, false] rfl rfl (by kernel_rfl) (fun _ _ _ h => h) (Or.inl ⟨by rfl, ?_⟩) ?_ ?_
        rotate_left
        · intro w'
          go_simp
          with_reducible rfl
        rotate_left
        · simp only [Act.put, List.setIfInBounds_toArray, List.set_cons_zero, List.set_cons_succ, i64_w, i32_w]
          rfl
        refine pure_ (i := 12) (N := some 100) (v := ?_) (a' := ?_) #[true, true, true, true, true, true, true, true, true, true, true, true, true, false] rfl rfl (by kernel_rfl) (fun _ _ _ h => h) (Or.inl ⟨by rfl, ?_⟩) ?_ ?_
        rotate_left
        · intro w'
          go_simp
          with_reducible rfl
        rotate_left
        · simp only [Act.put, List.setIfInBounds_toArray, List.set_cons_zero, List.set_cons_succ, i64_w, i32_w]
          rfl
        refine last_ (i := 13) (N := none) #[true, true, true, true, true, true, true, true, true, true, true, true, true, true] rfl rfl (by kernel_rfl) (by decide) (fun K hK => ?_)
        refine skip_ (w1 := ?_) (by rfl) rfl ?_ ?_
        rotate_left
        · go_simp
          rfl
        refine hK.out _ _ ?_
        clear hK K
        refine done_ (by kernel_rfl) ?_
        have HB9 := Lib.hid ((HB.out.drewN (1 + N)).far (b := gb) hg1.symm b (.int .u64 (x + 1)))
        have HZ9 := Lib.hid ((HZ.out.drewN (1 + N)).far (b := gb) hg2.symm b (.int .u64 (x + 1)))
        have HF9 := Lib.hid ((HF.out.drewN (1 + N)).set (b := gb) (.inr (by omega)) b (.int .u64 (x + 1)))
        have HO9 := Lib.hid (HST.out (1 + N))
        clear HST HB HZ HF e1 e2 f2
        generalize (wr.drewN (1 + N)).setCell ⟨gb, b, none⟩ (.int .u64 (x + 1)) = w9 at HB9 HZ9 HF9 HO9 ⊢
        obtain ⟨x0, x1, x2, x3, x4, x5, x6, x7, y0, y1, y2, y3, y4, y5, y6, y7⟩ := blk8 HB9.out
        obtain ⟨q0, q1, q2, q3, q4, q5, q6, q7, p0, p1, p2, p3, p4, p5, p6, p7⟩ := blk8 HZ9.out
        go_wp2_with fail
        refine ret_row (g := w.heap.size + 1) (cs := #[.string key, .int .i64 3, .int .u64 (m + 1), .int .i64 s2, .int .i64 v, .int .i64 v, .bool true, .slice (some ⟨gb, 0, none⟩) q c2]) (Blk.fill8 HZ9.out rfl _ _ _ _ _ _ _ _) rfl rfl rfl ?_
        rw [HQ.out, HAE.out]
        refine ⟨.slice (some ⟨gb, 0, none⟩) q c2, rfl, ?_, ?_⟩
        · exact Ow.base (b := w.heap.size + 1 + 1 + 1) (HO9.out.keep (S := [w.heap.size + 1]) (Fr.fill8 (g := w.heap.size + 1) (Fr.refl _ w9) (.inl (by simp)) _ _ _ _ _ _ _ _) (fun x hx h => by have h1 := (HO9.out.lt x h).1; simp at hx; omega)) (by omega)
        · exact Fr.fill8 (g := w.heap.size + 1) HF9.out (.inr (by omega)) _ _ _ _ _ _ _ _

end Go.Proofs.Ytjnjkgoofkgiiaa.Tally
