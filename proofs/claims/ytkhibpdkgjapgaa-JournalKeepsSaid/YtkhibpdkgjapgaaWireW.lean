/- Layer 6's walks: how numbers, whole numbers and texts are written. -/
import Derived.Test.YtkhibpdkgjapgaaWireBits
import Derived.Test.YtkhibpdkgjapgaaProg
set_option linter.unusedVariables false
set_option linter.unusedSimpArgs false
namespace Go.Proofs.Ytkhibpdkgjapgaa.Wire
open Go Go.RowKit Go.Proofs.Ytkhibpdkgjapgaa Go.Proofs.Ytkhibpdkgjapgaa.Eng Go.Proofs.YtkhibpdkgjapgaaW.PrintWords
theorem byt : BT Try.prog 22 5 9 := ⟨by kernel_rfl, by kernel_rfl, by kernel_rfl⟩
theorem et_b : ET Try.prog 22 5 1 1 := by
  obtain ⟨i, h1, h2, h3, h4⟩ := info_parts (P := Try.prog) (e := 5) (z := .int .u8 0) (size := 1) (bytes := 1) (by kernel_rfl)
  exact ⟨by kernel_rfl, ⟨i, _, h1, h2, h3, h4, rfl⟩, by decide⟩
theorem hz_b : ∃ i, Try.prog.info? 5 = some i ∧ i.zero = some (.int .u8 0) := by
  obtain ⟨i, h1, h2, h3, h4⟩ := info_parts (P := Try.prog) (e := 5) (z := .int .u8 0) (size := 1) (bytes := 1) (by kernel_rfl)
  exact ⟨i, h1, h2⟩
set_option maxRecDepth 100000 in
set_option maxHeartbeats 400000 in
theorem num_w (m : Nat) (A : Option Addr) (n c : Nat) (l : List UInt8) (FB : List Nat) (w : World) (HV : VX cB 1 w FB A l) (hn : l.length = n) (hlen : l.length ≤ 1000000000) (hm : m < 18446744073709551616) :
    Calls Try.prog 46 #[.slice A n c, .int .u64 (m : Int)] w fun e w' => ∃ b cap, e = .returned (.slice (some ⟨b, 0, none⟩) (l ++ enc m).length cap) ∧ RowB w' b 5 1 cap ((l ++ enc m).map cB) ∧ Fr [] w w' ∧ w.heap.size ≤ b := by
  have HA := Fr.refl [] w
  refine enter (N := 24) Try.func46 (c := _) rfl (by kernel_rfl) (by kernel_rfl) (e := [(0, .slice A n c), (1, .int .u64 (m : Int))]) (by kernel_rfl) ?_
  refine WE.seq ?_
  -- R0 wire.go:13
  refine WE.region ?_
  refine WO.run 1 0 [(4, .slice none 0 0)] (by kernel_rfl) (by kernel_rfl) ?_
  refine WO.done (by kernel_rfl) ?_
  refine WQ.keep [0, 1, 4] (e' := [(0, .slice A n c), (1, .int .u64 (m : Int)), (4, .slice none 0 0)]) (by kernel_rfl) ?_
  refine WQ.thenN ?_
  refine WE.seq ?_
  -- R1 wire.go:14
  refine WE.region ?_
  refine WO.bx (SQ.E 0 (by kernel_rfl)) 6 #[] 5 (fun g => .slice (some ⟨g, 0, none⟩) 0 0) (by kernel_rfl) (fun _ _ => trivial) ?_
  intro g1 w2 HB4 F3 le5 _
  have nin_g1_FB : g1 ∉ FB := new_nin HV.lt le5
  have ge_HA_g1 := Nat.le_trans HA.size le5
  have HV := HV.keep F3 (fun _ _ => nin0 _)
  have HA := Fr.step0 HA F3
  refine WO.run 1 1 [(7, .slice A n c)] (by kernel_rfl) (by kernel_rfl) ?_
  have HR11 := RowB.of_blk (n := 0) HB4 (List.map cB []) rfl rfl (cB_len _) (cB_one _) (by omega)
  refine WO.appRow (SQ.E 2 (by kernel_rfl)) 8 (n := 0) (m := n) (ys := List.map cB l) et_b HR11 ((List.length_map _).trans ((rfl : List.length ([] : List UInt8) = 0))) (by rw [List.length_map] <;> first | rfl | omega | (simp <;> omega)) (HV.srcN hn (cB_len _) (cB_one _) c) (cB_len _) (cB_one _) (by kernel_rfl) (by omega) (by omega) (fun _ _ => trivial) ?_
  intro b6 cap7 w8 HR9 F10 hb12
  have nin_b6_FB : b6 ∉ FB := hb12.elim (fun h => h ▸ nin_g1_FB) (fun h => new_nin HV.lt h)
  have in_HA_b6 : b6 ∈ [] ∨ (World.heap w).size ≤ b6 := hb12.elim (fun h => Or.inr (h ▸ ge_HA_g1)) (fun h => Or.inr (Nat.le_trans HA.size h))
  have HV := HV.keep F10 (djB nin_g1_FB)
  have HA := Fr.step HA F10 (inSR ge_HA_g1 inS0)
  have HR9 : RowB w8 b6 5 1 cap7 ((([] : List UInt8) ++ l).map cB) := by rw [List.map_append]; exact HR9
  refine WO.run 1 3 [(5, .slice (some ⟨b6, 0, none⟩) (0 + n) cap7)] (by kernel_rfl) (by kernel_rfl) ?_
  refine WO.done (by kernel_rfl) ?_
  refine WQ.keep [0, 1, 4, 5] (e' := [(0, .slice A n c), (1, .int .u64 (m : Int)), (4, .slice none 0 0), (5, .slice (some ⟨b6, 0, none⟩) (0 + n) cap7)]) (by kernel_rfl) ?_
  refine WQ.thenN ?_
  refine WE.seq ?_
  refine WE.block ?_
  have hq0 : 0 + n = (([] : List UInt8) ++ l).length := by simp [hn]
  refine WE.env (e' := [(0, .slice A n c), (1, .int .u64 (m : Int)), (4, .slice none 0 0), (5, .slice (some ⟨b6, 0, none⟩) ((([] : List UInt8) ++ l).length) cap7)]) (by rw [hq0]) ?_
  refine WE.loop (α := Nat × List UInt8 × Nat × Nat) (E := fun ⟨k, q, b, cap⟩ => [(1, .int .u64 (k : Int)), (5, .slice (some ⟨b, 0, none⟩) q.length cap)]) (I := fun ⟨k, q, b, cap⟩ wr => q ++ enc k = l ++ enc m ∧ k ≤ m ∧ RowB wr b 5 1 cap (q.map cB) ∧ Fr [] w wr ∧ w.heap.size ≤ b) (m := fun ⟨k, q, b, cap⟩ => k) (m, (([] : List UInt8) ++ l), b6, cap7) [1, 5] (by kernel_rfl) ?_ ?_
  · exact ⟨by simp, Nat.le_refl _, HR9, HA, in_HA_b6.resolve_left (by simp)⟩
  rintro ⟨k, q, b, cap⟩ wr ⟨hq, hkm, HR, HA, ge_HA_b⟩
  dsimp only at hq hkm HR ⊢
  have hql := congrArg List.length hq
  rw [List.length_append, List.length_append] at hql
  have hek := enc_pos k
  have hem := enc_len64 m hm
  refine WE.seq ?_
  refine WE.seq ?_
  -- R2 wire.go:15
  refine WE.region ?_
  refine WO.run 1 0 [(9, .int .u64 (k : Int))] (by kernel_rfl) (by kernel_rfl) ?_
  refine WO.one (SQ.F 1 (by kernel_rfl)) 10 (.bool (decide (((k : Int) : Int) ≥ (128 : Int)))) (by kernel_rfl) ?_
  refine WO.topP (((k : Int) : Int) ≥ (128 : Int)) ?_ ?_
  · intro h13
    refine WO.done (by kernel_rfl) ?_
    refine WQ.keep [1, 5, 10] (e' := [(1, .int .u64 (k : Int)), (5, .slice (some ⟨b, 0, none⟩) q.length cap), (10, .bool true)]) (by kernel_rfl) ?_
    refine WQ.thenN ?_
    refine WE.condT (by kernel_rfl) ?_
    refine WE.skip ?_
    refine WQ.thenN ?_
    refine WE.seq ?_
    refine WE.block ?_
    -- R4 wire.go:16
    refine WE.region ?_
    refine WO.run 2 0 [(14, .int .u64 (k : Int)), (13, .slice (some ⟨b, 0, none⟩) q.length cap)] (by kernel_rfl) (by kernel_rfl) ?_
    refine WO.one (SQ.F 2 (by kernel_rfl)) 15 (.int .u8 (IntKind.u8.wrap (k : Int))) (by kernel_rfl) ?_
    refine WO.top (v' := .int .u8 ((k % 256 : Nat) : Int)) (congrArg (Value.int .u8) (wrap8 k)) ?_
    refine WO.one (SQ.F 3 (by kernel_rfl)) 16 (.int .u8 (iOr .u8 ((k % 256 : Nat) : Int) (128 : Int))) (by kernel_rfl) ?_
    refine WO.top (v' := .int .u8 ((by8 (k % 128 + 128)).toNat : Int)) (congrArg (Value.int .u8) (or8 k)) ?_
    refine WO.bx (SQ.E 4 (by kernel_rfl)) 17 #[.int .u8 ((by8 (k % 128 + 128)).toNat : Int)] 5 (fun g => .slice (some ⟨g, 0, none⟩) 1 1) (by kernel_rfl) (fun _ _ => trivial) ?_
    intro g14 w15 HB17 F16 le18 _
    have ne_b_g14 : b ≠ g14 := Nat.ne_of_lt (Nat.lt_of_lt_of_le HR.lt le18)
    have ge_HA_g14 := Nat.le_trans HA.size le18
    have HR := RowB.keep HR F16 (nin0 _)
    have HA := Fr.step0 HA F16
    refine WO.appRow (SQ.E 5 (by kernel_rfl)) 18 (n := q.length) (m := 1) (ys := List.map cB ([(by8 (k % 128 + 128))])) et_b HR ((List.length_map _).trans (rfl)) (by rw [List.length_map] <;> first | rfl | omega | (simp <;> omega)) (RowB.src (RowB.of_blk (n := 1) HB17 (List.map cB [(by8 (k % 128 + 128))]) rfl rfl (cB_len _) (cB_one _) (by omega))) (cB_len _) (cB_one _) (by kernel_rfl) (by omega) (by omega) (fun _ _ => trivial) ?_
    intro b19 cap20 w21 HR22 F23 hb24
    have ne_g14_b19 : g14 ≠ b19 := hb24.elim (fun h => h ▸ (Ne.symm ne_b_g14)) (fun h => Nat.ne_of_lt (Nat.lt_of_lt_of_le HB17.lt h))
    have in_HA_b19 : b19 ∈ [] ∨ (World.heap w).size ≤ b19 := hb24.elim (fun h => Or.inr (h ▸ ge_HA_b)) (fun h => Or.inr (Nat.le_trans HA.size h))
    have HB17 := Blk.keep HB17 F23 (ninC (Ne.symm ne_b_g14) (nin0 _))
    have HA := Fr.step HA F23 (inSR ge_HA_b inS0)
    have HR22 : RowB w21 b19 5 1 cap20 ((q ++ [(by8 (k % 128 + 128))]).map cB) := by rw [List.map_append]; exact HR22
    refine WO.run 1 6 [(5, .slice (some ⟨b19, 0, none⟩) (q.length + 1) cap20)] (by kernel_rfl) (by kernel_rfl) ?_
    refine WO.done (by kernel_rfl) ?_
    refine WQ.keep [1, 5, 10] (e' := [(1, .int .u64 (k : Int)), (5, .slice (some ⟨b19, 0, none⟩) (q.length + 1) cap20), (10, .bool true)]) (by kernel_rfl) ?_
    refine WQ.blkN ?_
    refine WQ.thenN ?_
    have hq1 : q.length + 1 = (q ++ [(by8 (k % 128 + 128))]).length := by simp
    refine WE.env (e' := [(1, .int .u64 (k : Int)), (5, .slice (some ⟨b19, 0, none⟩) ((q ++ [(by8 (k % 128 + 128))]).length) cap20), (10, .bool true)]) (by rw [hq1]) ?_
    -- R3 wire.go:15
    refine WE.region ?_
    refine WO.run 1 0 [(11, .int .u64 (k : Int))] (by kernel_rfl) (by kernel_rfl) ?_
    refine WO.one (SQ.F 1 (by kernel_rfl)) 12 (.int .u64 (iShr .u64 (k : Int) (7 : Int))) (by kernel_rfl) ?_
    refine WO.top (v' := .int .u64 ((k / 128 : Nat) : Int)) (congrArg (Value.int .u64) (shr7 k)) ?_
    refine WO.run 1 2 [(1, .int .u64 ((k / 128 : Nat) : Int))] (by kernel_rfl) (by kernel_rfl) ?_
    refine WO.done (by kernel_rfl) ?_
    refine WQ.keep [1, 5, 10] (e' := [(1, .int .u64 ((k / 128 : Nat) : Int)), (5, .slice (some ⟨b19, 0, none⟩) ((q ++ [(by8 (k % 128 + 128))]).length) cap20), (10, .bool true)]) (by kernel_rfl) ?_
    refine WQ.round ?_
    intro a_ ha_
    refine ⟨(k / 128, (q ++ [(by8 (k % 128 + 128))]), b19, cap20), ?_, ha_.keep [1, 5] (by kernel_rfl), ?_⟩
    · show k / 128 < k; omega
    · exact ⟨by rw [← hq, enc_hi (by omega : ¬ k < 128), List.append_assoc]; rfl, by show k / 128 ≤ m; omega, HR22, HA, in_HA_b19.resolve_left (by simp)⟩
  · intro h13
    refine WO.done (by kernel_rfl) ?_
    refine WQ.keep [1, 5, 10] (e' := [(1, .int .u64 (k : Int)), (5, .slice (some ⟨b, 0, none⟩) q.length cap), (10, .bool false)]) (by kernel_rfl) ?_
    refine WQ.thenN ?_
    refine WE.condF (by kernel_rfl) ?_
    refine WE.exit ?_
    refine WQ.thenE ?_
    refine WQ.thenE ?_
    refine WQ.blkE ?_
    refine WQ.thenN ?_
    refine WE.seq ?_
    -- R5 wire.go:18
    refine WE.region ?_
    refine WO.run 2 0 [(20, .int .u64 (k : Int)), (19, .slice (some ⟨b, 0, none⟩) q.length cap)] (by kernel_rfl) (by kernel_rfl) ?_
    refine WO.one (SQ.F 2 (by kernel_rfl)) 21 (.int .u8 (IntKind.u8.wrap (k : Int))) (by kernel_rfl) ?_
    refine WO.top (v' := .int .u8 ((by8 k).toNat : Int)) (congrArg (Value.int .u8) (by rw [by8_toNat (by omega)]; exact IntWalk.u8_in _ (by omega))) ?_
    refine WO.bx (SQ.E 3 (by kernel_rfl)) 22 #[.int .u8 ((by8 k).toNat : Int)] 5 (fun g => .slice (some ⟨g, 0, none⟩) 1 1) (by kernel_rfl) (fun _ _ => trivial) ?_
    intro g25 w26 HB28 F27 le29 _
    have ne_b_g25 : b ≠ g25 := Nat.ne_of_lt (Nat.lt_of_lt_of_le HR.lt le29)
    have ge_HA_g25 := Nat.le_trans HA.size le29
    have HR := RowB.keep HR F27 (nin0 _)
    have HA := Fr.step0 HA F27
    refine WO.appRow (SQ.E 4 (by kernel_rfl)) 23 (n := q.length) (m := 1) (ys := List.map cB ([(by8 k)])) et_b HR ((List.length_map _).trans (rfl)) (by rw [List.length_map] <;> first | rfl | omega | (simp <;> omega)) (RowB.src (RowB.of_blk (n := 1) HB28 (List.map cB [(by8 k)]) rfl rfl (cB_len _) (cB_one _) (by omega))) (cB_len _) (cB_one _) (by kernel_rfl) (by omega) (by omega) (fun _ _ => trivial) ?_
    intro b30 cap31 w32 HR33 F34 hb35
    have ne_g25_b30 : g25 ≠ b30 := hb35.elim (fun h => h ▸ (Ne.symm ne_b_g25)) (fun h => Nat.ne_of_lt (Nat.lt_of_lt_of_le HB28.lt h))
    have in_HA_b30 : b30 ∈ [] ∨ (World.heap w).size ≤ b30 := hb35.elim (fun h => Or.inr (h ▸ ge_HA_b)) (fun h => Or.inr (Nat.le_trans HA.size h))
    have HB28 := Blk.keep HB28 F34 (ninC (Ne.symm ne_b_g25) (nin0 _))
    have HA := Fr.step HA F34 (inSR ge_HA_b inS0)
    have HR33 : RowB w32 b30 5 1 cap31 ((q ++ [(by8 k)]).map cB) := by rw [List.map_append]; exact HR33
    refine WO.run 1 5 [(4, .slice (some ⟨b30, 0, none⟩) (q.length + 1) cap31)] (by kernel_rfl) (by kernel_rfl) ?_
    refine WO.done (by kernel_rfl) ?_
    refine WQ.keep [1, 4, 5, 10] (e' := [(1, .int .u64 (k : Int)), (4, .slice (some ⟨b30, 0, none⟩) (q.length + 1) cap31), (5, .slice (some ⟨b, 0, none⟩) q.length cap), (10, .bool false)]) (by kernel_rfl) ?_
    refine WQ.thenN ?_
    refine WE.ret ?_
    refine WQ.ret (v := .slice (some ⟨b30, 0, none⟩) (q.length + 1) cap31) (by kernel_rfl) ?_
    have hfin : (q ++ [(by8 k)]) = l ++ enc m := by rw [← hq, enc_lo (by omega : k < 128)]
    refine ⟨b30, cap31, ?_, by rw [← hfin]; exact HR33, HA, in_HA_b30.resolve_left (by simp)⟩
    rw [← hfin]; simp


set_option maxRecDepth 100000 in
set_option maxHeartbeats 400000 in
theorem text_w (s : ByteArray) (A : Option Addr) (n c : Nat) (l : List UInt8) (FB : List Nat) (w : World) (HV : VX cB 1 w FB A l) (hn : l.length = n) (hlen : l.length ≤ 1000000000) (hs : s.size ≤ 1000000000) :
    Calls Try.prog 40 #[.slice A n c, .string s] w fun e w' => ∃ b cap, e = .returned (.slice (some ⟨b, 0, none⟩) (l ++ encT (bs s)).length cap) ∧ RowB w' b 5 1 cap ((l ++ encT (bs s)).map cB) ∧ Fr [] w w' ∧ w.heap.size ≤ b := by
  have hel := enc_len64 s.size (by omega)
  have HA := Fr.refl [] w
  refine enter (N := 12) Try.func40 (c := _) rfl (by kernel_rfl) (by kernel_rfl) (e := [(0, .slice A n c), (1, .string s)]) (by kernel_rfl) ?_
  refine WE.seq ?_
  -- R0 wire.go:25
  refine WE.region ?_
  refine WO.run 1 0 [(4, .slice none 0 0)] (by kernel_rfl) (by kernel_rfl) ?_
  refine WO.done (by kernel_rfl) ?_
  refine WQ.keep [0, 1, 4] (e' := [(0, .slice A n c), (1, .string s), (4, .slice none 0 0)]) (by kernel_rfl) ?_
  refine WQ.thenN ?_
  refine WE.seq ?_
  -- R1 wire.go:25
  refine WE.region ?_
  refine WO.run 3 0 [(7, .int .i64 (s.size : Int)), (6, .string s), (5, .slice A n c)] (by kernel_rfl) (by kernel_rfl) ?_
  refine WO.one (SQ.F 3 (by kernel_rfl)) 8 (.int .u64 (IntKind.u64.wrap (s.size : Int))) (by kernel_rfl) ?_
  refine WO.top (v' := .int .u64 (s.size : Int)) (wrap_u64 rfl (by omega)) ?_
  refine WO.call (SQ.E 4 (by kernel_rfl)) 9 (by kernel_rfl) (num_w s.size A n c l FB _ HV hn hlen (by omega)) ?_
  rintro _ w1 ⟨b3, cap4, rfl, HR5, F2, le6⟩
  refine ⟨_, rfl, trivial, ?_⟩
  have nin_b3_FB : b3 ∉ FB := new_nin HV.lt le6
  have ge_HA_b3 := Nat.le_trans HA.size le6
  have HV := HV.keep F2 (fun _ _ => nin0 _)
  have HA := Fr.step0 HA F2
  refine WO.run 1 5 [(10, .string s)] (by kernel_rfl) (by kernel_rfl) ?_
  obtain ⟨F7, hF7⟩ : ∃ F_, F_ = [b3] := ⟨_, rfl⟩
  have HO8 : OwnX 5 1 w1 F7 (.slice (some ⟨b3, 0, none⟩) ((l ++ enc s.size).length) cap4) ((l ++ enc s.size).map cB) := by rw [hF7]; exact OwnX.row HR5 ((List.length_map _).trans ((rfl : List.length (l ++ enc s.size) = _)))
  have dj_F7_FB : ∀ y ∈ F7, y ∉ FB := by rw [hF7]; intro y hy; rw [List.mem_singleton.1 hy]; exact nin_b3_FB
  have ge_HA_F7 : ∀ y ∈ F7, (World.heap w).size ≤ y := by rw [hF7]; intro y hy; rw [List.mem_singleton.1 hy]; exact ge_HA_b3
  refine WO.appS (SQ.E 6 (by kernel_rfl)) 11 (s := s) (q := l ++ enc s.size) byt et_b hz_b HO8 (by kernel_rfl) (by simp only [str_size, List.length_append] at *; omega) (fun _ _ => trivial) ?_
  intro v9 w10 G11 HO12 F13 hg14
  have dj_G11_FB : ∀ y ∈ G11, y ∉ FB := grow_dj hg14 dj_F7_FB HV.lt
  have ge_HA_G11 : ∀ y ∈ G11, (World.heap w).size ≤ y := grow_ge hg14 ge_HA_F7 HA.size
  have HV := HV.keep F13 (dj_symm dj_F7_FB)
  have HA := Fr.step HA F13 (inF ge_HA_F7)
  obtain ⟨A15, cap16, rfl⟩ := HO12.sliceN (List.length_map _)
  refine WO.run 1 7 [(4, .slice A15 ((l ++ enc s.size ++ bs s).length) cap16)] (by kernel_rfl) (by kernel_rfl) ?_
  refine WO.done (by kernel_rfl) ?_
  refine WQ.keep [0, 1, 4] (e' := [(0, .slice A n c), (1, .string s), (4, .slice A15 ((l ++ enc s.size ++ bs s).length) cap16)]) (by kernel_rfl) ?_
  refine WQ.thenN ?_
  refine WE.ret ?_
  refine WQ.ret (v := .slice A15 ((l ++ enc s.size ++ bs s).length) cap16) (by kernel_rfl) ?_
  have hpos := enc_pos s.size
  obtain ⟨bb, hF, hA, hR⟩ := HO12.pos (by simp; omega)
  subst hA
  refine ⟨bb, _, by rw [show l ++ encT (bs s) = (l ++ enc s.size ++ bs s) from by simp [encT, bs_len]], ?_, HA, ge_HA_G11 bb (by rw [hF]; simp)⟩
  rw [show l ++ encT (bs s) = (l ++ enc s.size ++ bs s) from by simp [encT, bs_len]]; exact hR



end Go.Proofs.Ytkhibpdkgjapgaa.Wire
