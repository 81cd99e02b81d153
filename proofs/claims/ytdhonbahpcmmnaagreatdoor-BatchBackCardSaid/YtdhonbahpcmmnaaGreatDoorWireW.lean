/- Layer 6's walks: how numbers, whole numbers and texts are written. -/
import Derived.Test.YtdhonbahpcmmnaaGreatDoorWireBits
import Derived.Test.YtdhonbahpcmmnaaGreatDoorProg
import Derived.Test.YtdhonbahpcmmnaaGreatDoorEngC
set_option linter.unusedVariables false
set_option linter.unusedSimpArgs false
namespace Go.Proofs.YtdhonbahpcmmnaaGreatDoor.Wire
open Go Go.RowKit Go.Proofs.YtdhonbahpcmmnaaGreatDoor Go.Proofs.YtdhonbahpcmmnaaGreatDoor.Eng Go.Proofs.YtdhonbahpcmmnaaGreatDoorW.PrintWords
theorem byt : BT Tryz.prog 27 5 9 := ⟨by kernel_rfl, by kernel_rfl, by kernel_rfl⟩
theorem et_b : ET Tryz.prog 27 5 1 1 := by
  obtain ⟨i, h1, h2, h3, h4⟩ := info_parts (P := Tryz.prog) (e := 5) (z := .int .u8 0) (size := 1) (bytes := 1) (by kernel_rfl)
  exact ⟨by kernel_rfl, ⟨i, _, h1, h2, h3, h4, rfl⟩, by decide⟩
theorem hz_b : ∃ i, Tryz.prog.info? 5 = some i ∧ i.zero = some (.int .u8 0) := by
  obtain ⟨i, h1, h2, h3, h4⟩ := info_parts (P := Tryz.prog) (e := 5) (z := .int .u8 0) (size := 1) (bytes := 1) (by kernel_rfl)
  exact ⟨i, h1, h2⟩
set_option maxRecDepth 100000 in
set_option maxHeartbeats 400000 in
theorem num_w (m : Nat) (A : Option Addr) (n c : Nat) (l : List UInt8) (FB : List Nat) (w : World) (HV : VX cB 1 w FB A l) (hn : l.length = n) (hlen : l.length ≤ 1000000000) (hm : m < 18446744073709551616) :
    Calls Tryz.prog 33 #[.slice A n c, .int .u64 (m : Int)] w fun e w' => ∃ b cap, e = .returned (.slice (some ⟨b, 0, none⟩) (l ++ enc m).length cap) ∧ RowB w' b 5 1 cap ((l ++ enc m).map cB) ∧ Fr [] w w' ∧ w.heap.size ≤ b := by
 have HA := Fr.refl [] w
 refine Zen (N := 24) Tryz.func33 (c := _) [(0, .slice A n c), (1, .int .u64 (m : Int))] <| Zsg <| Zr 1 [(4, .slice none 0 0)] <| Zdn <| Zsg <| Zb 6 #[] 5 (fun g => .slice (some ⟨g, 0, none⟩) 0 0) ?_
 intro g1 w2 HB4 F3 le5 _
 have ge_HA_g1 := Nat.le_trans HA.size le5
 refine Zr 1 [(7, .slice A n c)] ?_
 have HR11 := RowB.of_blk (n := 0) HB4 (List.map cB []) rfl rfl (cB_len _) (cB_one _) (by omega)
 have HV := HV.keep F3 dj0
 refine Zar (n := 0) (m := n) (ys := List.map cB l) 8 et_b HR11 ((List.length_map _).trans ((rfl : List.length ([] : List UInt8) = 0))) (by rw [List.length_map] <;> first | rfl | omega | (simp <;> omega)) (HV.srcN hn (cB_len _) (cB_one _) c) (cB_len _) (cB_one _) (by omega) (by omega) ?_
 intro b6 cap7 w8 HR9 F10 hb12
 have HA := HA.step0 F3
 have in_HA_b6 : b6 ∈ [] ∨ (World.heap w).size ≤ b6 := hb12.elim (fun h => Or.inr (h ▸ ge_HA_g1)) (fun h => Or.inr (Nat.le_trans HA.size h))
 have HR9 : RowB w8 b6 5 1 cap7 ((([] : List UInt8) ++ l).map cB) := by rw [List.map_append]; exact HR9
 refine Zr 1 [(5, .slice (some ⟨b6, 0, none⟩) (0 + n) cap7)] <| Zd <| WQ.keep [0, 1, 4, 5] (e' := [(0, .slice A n c), (1, .int .u64 (m : Int)), (4, .slice none 0 0), (5, .slice (some ⟨b6, 0, none⟩) (0 + n) cap7)]) (by kernel_rfl) <| Zn <| Zq <| WE.block ?_
 have hq0 : 0 + n = (([] : List UInt8) ++ l).length := by simp [hn]
 refine WE.env (e' := [(0, .slice A n c), (1, .int .u64 (m : Int)), (4, .slice none 0 0), (5, .slice (some ⟨b6, 0, none⟩) ((([] : List UInt8) ++ l).length) cap7)]) (by rw [hq0]) <| WE.loop (α := Nat × List UInt8 × Nat × Nat) (E := fun ⟨k, q, b, cap⟩ => [(1, .int .u64 (k : Int)), (5, .slice (some ⟨b, 0, none⟩) q.length cap)]) (I := fun ⟨k, q, b, cap⟩ wr => q ++ enc k = l ++ enc m ∧ k ≤ m ∧ RowB wr b 5 1 cap (q.map cB) ∧ Fr [] w wr ∧ w.heap.size ≤ b) (m := fun ⟨k, q, b, cap⟩ => k) (m, (([] : List UInt8) ++ l), b6, cap7) [1, 5] (by kernel_rfl) ?_ ?_
 ·
  have HA := HA.step F10 (inSR ge_HA_g1 inS0)
  exact ⟨by simp, Nat.le_refl _, HR9, HA, in_HA_b6.resolve_left (by simp)⟩
 rintro ⟨k, q, b, cap⟩ wr ⟨hq, hkm, HR, HA, ge_HA_b⟩
 dsimp only at hq hkm HR ⊢
 have hql := congrArg List.length hq
 rw [List.length_append, List.length_append] at hql
 have hek := enc_pos k
 have hem := enc_len64 m hm
 refine Zq <| Zsg <| Zr 1 [(9, .int .u64 (k : Int))] <| ZoP 10 (((k : Int) : Int) ≥ (128 : Int)) ?_ ?_
 ·
  intro h13
  refine Zdn <| ZT <| Zk <| Zq <| WE.block <| WE.region <| Zr 2 [(14, .int .u64 (k : Int)), (13, .slice (some ⟨b, 0, none⟩) q.length cap)] <| Zo 15 (.int .u8 (IntKind.u8.wrap (k : Int))) <| WO.top (v' := .int .u8 ((k % 256 : Nat) : Int)) (congrArg (Value.int .u8) (wrap8 k)) <| Zo 16 (.int .u8 (iOr .u8 ((k % 256 : Nat) : Int) (128 : Int))) <| WO.top (v' := .int .u8 ((by8 (k % 128 + 128)).toNat : Int)) (congrArg (Value.int .u8) (or8 k)) <| Zb 17 #[.int .u8 ((by8 (k % 128 + 128)).toNat : Int)] 5 (fun g => .slice (some ⟨g, 0, none⟩) 1 1) ?_
  intro g14 w15 HB17 F16 le18 _
  have HR := HR.k F16
  refine Zar (n := q.length) (m := 1) (ys := List.map cB ([(by8 (k % 128 + 128))])) 18 et_b HR ((List.length_map _).trans (rfl)) (by rw [List.length_map] <;> first | rfl | omega | (simp <;> omega)) (RowB.src (RowB.of_blk (n := 1) HB17 (List.map cB [(by8 (k % 128 + 128))]) rfl rfl (cB_len _) (cB_one _) (by omega))) (cB_len _) (cB_one _) (by omega) (by omega) ?_
  intro b19 cap20 w21 HR22 F23 hb24
  have HA := HA.step0 F16
  have in_HA_b19 : b19 ∈ [] ∨ (World.heap w).size ≤ b19 := hb24.elim (fun h => Or.inr (h ▸ ge_HA_b)) (fun h => Or.inr (Nat.le_trans HA.size h))
  have HR22 : RowB w21 b19 5 1 cap20 ((q ++ [(by8 (k % 128 + 128))]).map cB) := by rw [List.map_append]; exact HR22
  refine Zr 1 [(5, .slice (some ⟨b19, 0, none⟩) (q.length + 1) cap20)] <| Zd <| WQ.keep [1, 5, 10] (e' := [(1, .int .u64 (k : Int)), (5, .slice (some ⟨b19, 0, none⟩) (q.length + 1) cap20), (10, .bool true)]) (by kernel_rfl) <| WQ.blkN <| Zn ?_
  have hq1 : q.length + 1 = (q ++ [(by8 (k % 128 + 128))]).length := by simp
  refine WE.env (e' := [(1, .int .u64 (k : Int)), (5, .slice (some ⟨b19, 0, none⟩) ((q ++ [(by8 (k % 128 + 128))]).length) cap20), (10, .bool true)]) (by rw [hq1]) <| WE.region <| Zr 1 [(11, .int .u64 (k : Int))] <| Zo 12 (.int .u64 (iShr .u64 (k : Int) (7 : Int))) <| WO.top (v' := .int .u64 ((k / 128 : Nat) : Int)) (congrArg (Value.int .u64) (shr7 k)) <| Zr 1 [(1, .int .u64 ((k / 128 : Nat) : Int))] <| Zd <| WQ.round ?_
  intro a_ ha_
  refine ⟨(k / 128, (q ++ [(by8 (k % 128 + 128))]), b19, cap20), ?_, ha_.keep [1, 5] (by kernel_rfl), ?_⟩
  ·
   show k / 128 < k; omega
  ·
   have HA := HA.step F23 (inSR ge_HA_b inS0)
   exact ⟨by rw [← hq, enc_hi (by omega : ¬ k < 128), List.append_assoc]; rfl, by show k / 128 ≤ m; omega, HR22, HA, in_HA_b19.resolve_left (by simp)⟩
 intro h13
 refine Zdn <| ZF <| WE.exit <| WQ.thenE <| WQ.thenE <| WQ.blkE <| Zn <| Zsg <| Zr 2 [(20, .int .u64 (k : Int)), (19, .slice (some ⟨b, 0, none⟩) q.length cap)] <| Zo 21 (.int .u8 (IntKind.u8.wrap (k : Int))) <| WO.top (v' := .int .u8 ((by8 k).toNat : Int)) (congrArg (Value.int .u8) (by rw [by8_toNat (by omega)]; exact IntWalk.u8_in _ (by omega))) <| Zb 22 #[.int .u8 ((by8 k).toNat : Int)] 5 (fun g => .slice (some ⟨g, 0, none⟩) 1 1) ?_
 intro g25 w26 HB28 F27 le29 _
 have HR := HR.k F27
 refine Zar (n := q.length) (m := 1) (ys := List.map cB ([(by8 k)])) 23 et_b HR ((List.length_map _).trans (rfl)) (by rw [List.length_map] <;> first | rfl | omega | (simp <;> omega)) (RowB.src (RowB.of_blk (n := 1) HB28 (List.map cB [(by8 k)]) rfl rfl (cB_len _) (cB_one _) (by omega))) (cB_len _) (cB_one _) (by omega) (by omega) ?_
 intro b30 cap31 w32 HR33 F34 hb35
 have HA := HA.step0 F27
 have in_HA_b30 : b30 ∈ [] ∨ (World.heap w).size ≤ b30 := hb35.elim (fun h => Or.inr (h ▸ ge_HA_b)) (fun h => Or.inr (Nat.le_trans HA.size h))
 have HR33 : RowB w32 b30 5 1 cap31 ((q ++ [(by8 k)]).map cB) := by rw [List.map_append]; exact HR33
 refine Zr 1 [(4, .slice (some ⟨b30, 0, none⟩) (q.length + 1) cap31)] <| Zdn <| WE.ret <| ZR (.slice (some ⟨b30, 0, none⟩) (q.length + 1) cap31) ?_
 have hfin : (q ++ [(by8 k)]) = l ++ enc m := by rw [← hq, enc_lo (by omega : k < 128)]
 have HA := HA.step F34 (inSR ge_HA_b inS0)
 refine ⟨b30, cap31, ?_, by rw [← hfin]; exact HR33, HA, in_HA_b30.resolve_left (by simp)⟩
 rw [← hfin]; simp
set_option maxRecDepth 100000 in
set_option maxHeartbeats 400000 in
theorem whole_w (z : Int) (A : Option Addr) (n c : Nat) (l : List UInt8) (FB : List Nat) (w : World) (HV : VX cB 1 w FB A l) (hn : l.length = n) (hlen : l.length ≤ 1000000000) (hw : -9223372036854775808 ≤ z ∧ z ≤ 9223372036854775807) :
    Calls Tryz.prog 35 #[.slice A n c, .int .i64 z] w fun e w' => ∃ b cap, e = .returned (.slice (some ⟨b, 0, none⟩) (l ++ enc (zig z)).length cap) ∧ RowB w' b 5 1 cap ((l ++ enc (zig z)).map cB) ∧ Fr [] w w' ∧ w.heap.size ≤ b := by
 have HA := Fr.refl [] w
 refine Zen (N := 14) Tryz.func35 (c := _) [(0, .slice A n c), (1, J z)] <| Zsg <| Zr 1 [(4, .slice none 0 0)] <| Zdn <| Zsg <| Zr 2 [(6, J z), (5, .slice A n c)] <| Zo 7 (.int .u64 (IntKind.u64.wrap z)) <| WO.top (v' := .int .u64 (IntKind.u64.wrap z)) (rfl) <| Zr 3 [(10, J (iShr .i64 z (63 : Int))), (9, J z), (8, .int .u64 (iShl .u64 (IntKind.u64.wrap z) (1 : Int)))] <| Zo 11 (.int .u64 (IntKind.u64.wrap (iShr .i64 z (63 : Int)))) <| WO.top (v' := .int .u64 (IntKind.u64.wrap (iShr .i64 z (63 : Int)))) (rfl) <| Zo 12 (.int .u64 (iXor .u64 (iShl .u64 (IntKind.u64.wrap z) (1 : Int)) (IntKind.u64.wrap (iShr .i64 z (63 : Int))))) <| WO.top (v' := .int .u64 ((zig z : Nat) : Int)) (congrArg (Value.int .u64) (zigX z hw)) <| Zc 13 (num_w (zig z) A n c l FB _ HV hn hlen (zig_lt hw)) ?_
 rintro _ w1 ⟨b3, cap4, rfl, HR5, F2, le6⟩
 refine ⟨_, rfl, trivial, ?_⟩
 have ge_HA_b3 := Nat.le_trans HA.size le6
 have HA := HA.step0 F2
 refine Zr 1 [(4, .slice (some ⟨b3, 0, none⟩) ((l ++ enc (zig z)).length) cap4)] <| Zdn <| WE.ret <| ZR (.slice (some ⟨b3, 0, none⟩) ((l ++ enc (zig z)).length) cap4) ?_
 exact ⟨b3, cap4, rfl, HR5, HA, ge_HA_b3⟩
set_option maxRecDepth 100000 in
set_option maxHeartbeats 400000 in
theorem text_w (s : ByteArray) (A : Option Addr) (n c : Nat) (l : List UInt8) (FB : List Nat) (w : World) (HV : VX cB 1 w FB A l) (hn : l.length = n) (hlen : l.length ≤ 1000000000) (hs : s.size ≤ 1000000000) :
    Calls Tryz.prog 34 #[.slice A n c, .string s] w fun e w' => ∃ b cap, e = .returned (.slice (some ⟨b, 0, none⟩) (l ++ encT (bs s)).length cap) ∧ RowB w' b 5 1 cap ((l ++ encT (bs s)).map cB) ∧ Fr [] w w' ∧ w.heap.size ≤ b := by
 have hel := enc_len64 s.size (by omega)
 have HA := Fr.refl [] w
 refine Zen (N := 12) Tryz.func34 (c := _) [(0, .slice A n c), (1, .string s)] <| Zsg <| Zr 1 [(4, .slice none 0 0)] <| Zdn <| Zsg <| Zr 3 [(7, J (s.size : Int)), (6, .string s), (5, .slice A n c)] <| Zwur 8 (s.size : Int) (s.size : Int) <| Zc 9 (num_w s.size A n c l FB _ HV hn hlen (by omega)) ?_
 rintro _ w1 ⟨b3, cap4, rfl, HR5, F2, le6⟩
 refine ⟨_, rfl, trivial, ?_⟩
 have ge_HA_b3 := Nat.le_trans HA.size le6
 refine Zr 1 [(10, .string s)] ?_
 obtain ⟨F7, hF7⟩ : ∃ F_, F_ = [b3] := ⟨_, rfl⟩
 have HO8 : OwnX 5 1 w1 F7 (.slice (some ⟨b3, 0, none⟩) ((l ++ enc s.size).length) cap4) ((l ++ enc s.size).map cB) := by rw [hF7]; exact OwnX.row HR5 ((List.length_map _).trans ((rfl : List.length (l ++ enc s.size) = _)))
 have ge_HA_F7 := sgG hF7 ge_HA_b3
 refine Zas (s := s) (q := l ++ enc s.size) 11 byt et_b hz_b HO8 (by simp only [str_size, List.length_append] at *; omega) ?_
 intro v9 w10 G11 HO12 F13 hg14
 have HA := HA.step0 F2
 have ge_HA_G11 := grow_ge hg14 ge_HA_F7 HA.size
 obtain ⟨A15, cap16, rfl⟩ := HO12.sliceN (List.length_map _)
 refine Zr 1 [(4, .slice A15 ((l ++ enc s.size ++ bs s).length) cap16)] <| Zdn <| WE.ret <| ZR (.slice A15 ((l ++ enc s.size ++ bs s).length) cap16) ?_
 have hpos := enc_pos s.size
 obtain ⟨bb, hF, hA, hR⟩ := HO12.pos (by simp; omega)
 subst hA
 have HA := HA.step F13 (inF ge_HA_F7)
 refine ⟨bb, _, by rw [show l ++ encT (bs s) = (l ++ enc s.size ++ bs s) from by simp [encT, bs_len]], ?_, HA, ge_HA_G11 bb (by rw [hF]; simp)⟩
 rw [show l ++ encT (bs s) = (l ++ enc s.size ++ bs s) from by simp [encT, bs_len]]; exact hR
set_option maxRecDepth 100000 in
set_option maxHeartbeats 400000 in
theorem num_m (m : Nat) (w : World) (hm : m < 18446744073709551616) :
    Calls Tryz.prog 38 #[.int .u64 (m : Int)] w fun e w' => ∃ b cap, e = .returned (.slice (some ⟨b, 0, none⟩) (enc m).length cap) ∧ RowB w' b 5 1 cap ((enc m).map cB) ∧ Fr [] w w' ∧ w.heap.size ≤ b := by
 induction m using Nat.strongRecOn generalizing w with
 | _ m ih =>
 have hpos := enc_len64 (m / 128) (by omega)
 have HA := Fr.refl [] w
 refine Zen (N := 17) Tryz.func38 (c := _) [(0, .int .u64 (m : Int))] <| Zsg <| Zr 1 [(2, .slice none 0 0)] <| Zdn <| Zq <| Zsg <| Zr 1 [(3, .int .u64 (m : Int))] <| ZoP 4 (((m : Int) : Int) < (128 : Int)) ?_ ?_
 ·
  intro h1
  refine Zdn <| ZT <| Zsg <| Zr 1 [(5, .int .u64 (m : Int))] <| Zo 6 (.int .u8 (IntKind.u8.wrap (m : Int))) <| WO.top (v' := .int .u8 ((by8 m).toNat : Int)) (congrArg (Value.int .u8) (by rw [by8_toNat (by omega)]; exact IntWalk.u8_in _ (by omega))) <| Zb 7 #[.int .u8 ((by8 m).toNat : Int)] 5 (fun g => .slice (some ⟨g, 0, none⟩) 1 1) ?_
  intro g2 w3 HB5 F4 le6 _
  have ge_HA_g2 := Nat.le_trans HA.size le6
  refine Zr 1 [(2, .slice (some ⟨g2, 0, none⟩) 1 1)] <| Zdn <| WE.ret <| WQ.thenR <| ZR (.slice (some ⟨g2, 0, none⟩) 1 1) ?_
  have HRx := RowB.of_blk (n := 1) HB5 (List.map cB [by8 m]) rfl rfl (cB_len _) (cB_one _) (by omega)
  rw [enc_lo (n := m) (by omega)]
  have HA := HA.step0 F4
  exact ⟨g2, 1, rfl, HRx, HA, ge_HA_g2⟩
 intro h1
 refine Zdn <| ZF <| Zk <| Zsg <| Zr 1 [(8, .int .u64 (m : Int))] <| Zo 9 (.int .u64 (((m : Int) : Int).tmod 128)) <| WO.top (v' := .int .u64 ((m % 128 : Nat) : Int)) (congrArg (Value.int .u64) (Int.tmod_eq_emod_of_nonneg (by omega))) <| Zwu 10 (((m % 128 : Nat) : Int) + 128) (((m % 128) + 128 : Nat) : Int) <| Zo 11 (.int .u8 (IntKind.u8.wrap (((m % 128) + 128 : Nat) : Int))) <| WO.top (v' := .int .u8 ((by8 (m % 128 + 128)).toNat : Int)) (congrArg (Value.int .u8) (by rw [by8_toNat (by omega)]; exact IntWalk.u8_in _ (by omega))) <| Zb 12 #[.int .u8 ((by8 (m % 128 + 128)).toNat : Int)] 5 (fun g => .slice (some ⟨g, 0, none⟩) 1 1) ?_
 intro g7 w8 HB10 F9 le11 _
 have ge_HA_g7 := Nat.le_trans HA.size le11
 refine Zr 1 [(13, .int .u64 (m : Int))] <| Zo 14 (.int .u64 (IntKind.u64.wrap (((m : Int) : Int).tdiv 128))) <| WO.top (v' := .int .u64 ((m / 128 : Nat) : Int)) (congrArg (Value.int .u64) (IntWalk.u64_quo _ _ (by omega))) <| Zc 15 (ih (m / 128) (by omega) _ (by omega)) ?_
 rintro _ w12 ⟨b14, cap15, rfl, HR16, F13, le17⟩
 have HB10 := HB10.k F13
 refine ⟨_, rfl, trivial, ?_⟩
 have HR23 := RowB.of_blk (n := 1) HB10 (List.map cB [(by8 (m % 128 + 128))]) rfl rfl (cB_len _) (cB_one _) (by omega)
 refine Zar (n := 1) (m := ((enc (m / 128)).length)) (ys := List.map cB (enc (m / 128))) 16 et_b HR23 ((List.length_map _).trans ((rfl : List.length ([(by8 (m % 128 + 128))] : List UInt8) = 1))) (by rw [List.length_map] <;> first | rfl | omega | (simp <;> omega)) (by have := HR16.src; rw [List.length_map, (rfl : List.length (enc (m / 128)) = _)] at this; exact this) (cB_len _) (cB_one _) (by omega) (by omega) ?_
 intro b18 cap19 w20 HR21 F22 hb24
 have HA := (HA.step0 F9).step0 F13
 have in_HA_b18 : b18 ∈ [] ∨ (World.heap w).size ≤ b18 := hb24.elim (fun h => Or.inr (h ▸ ge_HA_g7)) (fun h => Or.inr (Nat.le_trans HA.size h))
 have HR21 : RowB w20 b18 5 1 cap19 (([(by8 (m % 128 + 128))] ++ enc (m / 128)).map cB) := by rw [List.map_append]; exact HR21
 refine Zr 1 [(2, .slice (some ⟨b18, 0, none⟩) (1 + ((enc (m / 128)).length)) cap19)] <| Zdn <| WE.ret <| ZR (.slice (some ⟨b18, 0, none⟩) (1 + ((enc (m / 128)).length)) cap19) ?_
 rw [enc_hi (n := m) (by omega)]
 have HA := HA.step F22 (inSR ge_HA_g7 inS0)
 exact ⟨b18, cap19, by simp [Nat.add_comm], by have h_ := HR21; rw [List.singleton_append] at h_; exact h_, HA, in_HA_b18.resolve_left (by simp)⟩
set_option maxRecDepth 100000 in
set_option maxHeartbeats 400000 in
theorem whole_m (z : Int) (w : World) (hw : -9223372036854775808 ≤ z ∧ z ≤ 9223372036854775807) :
    Calls Tryz.prog 40 #[.int .i64 z] w fun e w' => ∃ b cap, e = .returned (.slice (some ⟨b, 0, none⟩) (enc (zig z)).length cap) ∧ RowB w' b 5 1 cap ((enc (zig z)).map cB) ∧ Fr [] w w' ∧ w.heap.size ≤ b := by
 have HA := Fr.refl [] w
 refine Zen (N := 15) Tryz.func40 (c := _) [(0, J z)] <| Zsg <| Zr 1 [(2, .slice none 0 0)] <| Zdn <| Zq <| Zsg <| Zr 1 [(3, J z)] <| ZoP 4 ((z : Int) < 0) ?_ ?_
 ·
  intro h1
  refine Zdn <| ZT <| Zsg <| Zr 1 [(5, J z)] <| Zw 6 ((-1) - z) ((-1) - z) <| Zwur 7 ((-1) - z) ((-1) - z) <| Zwu 8 (2 * ((-1) - z)) (2 * ((-1) - z)) <| Zo 9 (.int .u64 (IntKind.u64.wrap ((2 * ((-1) - z)) + 1))) <| WO.top (v' := .int .u64 ((zig z : Nat) : Int)) (congrArg (Value.int .u64) (by rw [IntWalk.u64_in _ (by omega)]; unfold zig; rw [if_pos (by omega)]; omega)) <| Zc 10 (num_m (zig z) _ (zig_lt hw)) ?_
  rintro _ w2 ⟨b4, cap5, rfl, HR6, F3, le7⟩
  refine ⟨_, rfl, trivial, ?_⟩
  have ge_HA_b4 := Nat.le_trans HA.size le7
  have HA := HA.step0 F3
  refine Zr 1 [(2, .slice (some ⟨b4, 0, none⟩) ((enc (zig z)).length) cap5)] <| Zdn <| WE.ret <| WQ.thenR <| ZR (.slice (some ⟨b4, 0, none⟩) ((enc (zig z)).length) cap5) ?_
  exact ⟨b4, cap5, rfl, HR6, HA, ge_HA_b4⟩
 intro h1
 refine Zdn <| ZF <| Zk <| Zsg <| Zr 1 [(11, J z)] <| Zwur 12 z z <| Zo 13 (.int .u64 (IntKind.u64.wrap (2 * z))) <| WO.top (v' := .int .u64 ((zig z : Nat) : Int)) (congrArg (Value.int .u64) (by rw [IntWalk.u64_in _ (by omega)]; unfold zig; rw [if_neg (by omega)]; omega)) <| Zc 14 (num_m (zig z) _ (zig_lt hw)) ?_
 rintro _ w8 ⟨b10, cap11, rfl, HR12, F9, le13⟩
 refine ⟨_, rfl, trivial, ?_⟩
 have ge_HA_b10 := Nat.le_trans HA.size le13
 have HA := HA.step0 F9
 refine Zr 1 [(2, .slice (some ⟨b10, 0, none⟩) ((enc (zig z)).length) cap11)] <| Zdn <| WE.ret <| ZR (.slice (some ⟨b10, 0, none⟩) ((enc (zig z)).length) cap11) ?_
 exact ⟨b10, cap11, rfl, HR12, HA, ge_HA_b10⟩
set_option maxRecDepth 100000 in
set_option maxHeartbeats 400000 in
theorem text_m (s : ByteArray) (w : World) (hs : s.size ≤ 1000000000) :
    Calls Tryz.prog 39 #[.string s] w fun e w' => ∃ b cap, e = .returned (.slice (some ⟨b, 0, none⟩) (encT (bs s)).length cap) ∧ RowB w' b 5 1 cap ((encT (bs s)).map cB) ∧ Fr [] w w' ∧ w.heap.size ≤ b := by
 have hpos := enc_len64 s.size (by omega)
 have HA := Fr.refl [] w
 refine Zen (N := 10) Tryz.func39 (c := _) [(0, .string s)] <| Zsg <| Zr 1 [(2, .slice none 0 0)] <| Zdn <| Zsg <| Zr 2 [(4, J (s.size : Int)), (3, .string s)] <| Zwur 5 (s.size : Int) (s.size : Int) <| Zc 6 (num_m s.size _ (by omega)) ?_
 rintro _ w1 ⟨b3, cap4, rfl, HR5, F2, le6⟩
 refine ⟨_, rfl, trivial, ?_⟩
 have ge_HA_b3 := Nat.le_trans HA.size le6
 refine Zr 1 [(7, .string s)] <| Zy (s := s) 8 byt ?_
 intro g7 cap8 w9 HV10 hc11 F12 le13 _
 obtain ⟨F14, hF14⟩ : ∃ F_, F_ = [g7] := ⟨_, rfl⟩
 rw [← hF14] at HV10
 have HR5 := HR5.k F12
 refine Zar (n := ((enc s.size).length)) (m := s.size) (ys := List.map cB (bs s)) 9 et_b HR5 ((List.length_map _).trans ((rfl : List.length (enc s.size) = _))) (by rw [List.length_map] <;> first | rfl | omega | (simp <;> omega)) (HV10.srcN (rfl : List.length (bs s) = s.size) (cB_len _) (cB_one _) cap8) (cB_len _) (cB_one _) (by omega) (by omega) ?_
 intro b15 cap16 w17 HR18 F19 hb20
 have HA := (HA.step0 F2).step0 F12
 have in_HA_b15 : b15 ∈ [] ∨ (World.heap w).size ≤ b15 := hb20.elim (fun h => Or.inr (h ▸ ge_HA_b3)) (fun h => Or.inr (Nat.le_trans HA.size h))
 have HR18 : RowB w17 b15 5 1 cap16 ((enc s.size ++ (bs s)).map cB) := by rw [List.map_append]; exact HR18
 have HA := HA.step F19 (inSR ge_HA_b3 inS0)
 refine Zr 1 [(2, .slice (some ⟨b15, 0, none⟩) ((enc s.size).length + s.size) cap16)] <| Zdn <| WE.ret <| ZR (.slice (some ⟨b15, 0, none⟩) ((enc s.size).length + s.size) cap16) ?_
 exact ⟨b15, cap16, by simp [encT, bs_len], by have h_ := HR18; rw [show encT (bs s) = enc s.size ++ bs s from rfl]; exact h_, HA, in_HA_b15.resolve_left (by simp)⟩
end Go.Proofs.YtdhonbahpcmmnaaGreatDoor.Wire
