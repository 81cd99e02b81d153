/- Layer 7, own, over resources: batches without rows. -/
import Derived.Test.YtjfgmdkdcnfdoaaGreatDoorFJ5
set_option linter.unusedVariables false
set_option linter.unusedSimpArgs false
namespace Go.Proofs.YtjfgmdkdcnfdoaaGreatDoor.Jrn
open Go Go.RowKit Go.Proofs.YtjfgmdkdcnfdoaaGreatDoor Go.Proofs.YtjfgmdkdcnfdoaaGreatDoor.Eng Go.Proofs.YtjfgmdkdcnfdoaaGreatDoor.Eng.Sep Go.Proofs.YtjfgmdkdcnfdoaaGreatDoorW.PrintWords
open Go.Proofs.YtjfgmdkdcnfdoaaGreatDoor.Disk
open Go.Proofs.YtjfgmdkdcnfdoaaGreatDoor.Wire (enc encT rText)
def rRd (g : Nat) (A' : Option Addr) (n c : Nat) (s : Wire.St) : Res where
 P F w := Wire.Rd 421 w g (.slice A' n c) s ∧ F = [g]
 lt h y hy := by
  rw [h.2] at hy
  rw [List.mem_singleton.1 hy]
  exact h.1.lt
 keep h k hn := ⟨h.1.keep k (hn g (by rw [h.2]; exact List.mem_singleton.2 rfl)), h.2⟩
 b := none
 hb e := by cases e
theorem read_rd (A' : Option Addr) (n c : Nat) : Ct Tryz.prog 237 #[.slice A' n c] [] [] (fun (_ : Nat) => True) (fun g => (.pointer (some ⟨g, 0, none⟩), [rRd g A' n c ⟨0, false⟩])) := (read_ct A' n c).entO fun g hg => ⟨g, trivial, rfl, fun w xu h hU => by
 obtain ⟨F, rfl⟩ := one_of h
 obtain ⟨hB, hF⟩ := hU.one
 exact ⟨[(rRd g A' n c ⟨0, false⟩, F)], rfl, Up.of (r := rRd ..) ⟨Wire.Rd.ok (p := 0) hB, hF⟩, fun y hy => foot_one.2 (foot_one.1 hy)⟩⟩
theorem rnum_e (g : Nat) (A' : Option Addr) (n c : Nat) (l : List UInt8) (z : Wire.St) {z' : Wire.St} {m : Nat} (hn : l.length = n) (hc : n ≤ c) (hl : l.length ≤ 1000000000) (hz : z.ok l) (hm : Wire.rNum l z = (m, z')) : Ct Tryz.prog 280 #[.pointer (some ⟨g, 0, none⟩)] [rV cB 1 A' l] [rRd g A' n c z] (fun (_ : Unit) => True) (fun _ => (.int .u64 (m : Int), [rRd g A' n c z'])) := fun w xu xr hu hr hU => by
 obtain ⟨G, rfl⟩ := one_of hu
 obtain ⟨F, rfl⟩ := one_of hr
 obtain ⟨hB, rfl⟩ := hU.left.one
 have hd := hU.cross _ (List.mem_singleton.2 rfl) _ (List.mem_singleton.2 rfl) g (by simp)
 have h := Wire.rnum_any g z A' n c l F w hU.right.one hn hc hl hd hB hz
 rw [hm] at h
 exact h.mono fun e w' ⟨he, h2, hF⟩ => ⟨(), [(rRd g A' n c z', [g])], trivial, he, rfl, Up.of (r := rRd ..) ⟨h2, rfl⟩, hF.only fun y hy => .inl (foot_one.2 hy), fun y hy => .inl (foot_one.2 (foot_one.1 hy))⟩
theorem rend_e (g : Nat) (A' : Option Addr) (n c : Nat) (l : List UInt8) (hn : l.length = n) : Ct Tryz.prog 240 #[.pointer (some ⟨g, 0, none⟩)] [] [rRd g A' n c ⟨l.length, false⟩] (fun (_ : Unit) => True) (fun _ => (.nilIface, [])) := fun w xu xr hu hr hU => by
 obtain ⟨G, rfl⟩ := one_of hu
 obtain rfl := List.map_eq_nil_iff.1 hr
 obtain ⟨hB, rfl⟩ := hU.left.one
 refine (Wire.rend_any g ⟨l.length, false⟩ A' n c l w hn hB).mono fun e w' ⟨he, h2, hF⟩ => ?_
 rw [Wire.rEnd_eq (Nat.lt_irrefl _)] at he
 rcases he with ⟨_, he⟩ | ⟨h3, _⟩
 ·
  exact ⟨(), [], trivial, he, rfl, Up.nil _, hF.only fun y hy => .inl (foot_one.2 hy), fun y hy => by simp [Sep.mem_foot] at hy⟩
 ·
  cases h3
theorem num_ct (m : Nat) (A' : Option Addr) (n c : Nat) (l : List UInt8) (hn : l.length = n) (hl : l.length ≤ 1000000000) (hm : m < 18446744073709551616) : Ct Tryz.prog 187 #[.slice A' n c, .int .u64 (m : Int)] [rV cB 1 A' l] [] (fun (a : Nat × Nat) => (l ++ enc m).length ≤ a.2) (fun a => (.slice (some ⟨a.1, 0, none⟩) (l ++ enc m).length a.2, [rV cB 1 (some ⟨a.1, 0, none⟩) (l ++ enc m)])) := fun w xu xr hu hr hU => by
 obtain rfl := List.map_eq_nil_iff.1 hu
 obtain ⟨F, rfl⟩ := one_of hr
 refine (Wire.num_w m A' n c l F w hU.right.one hn hl hm).mono fun e w' ⟨b, cap, he, h1, h2, h3⟩ => ?_
 have hle := h1.le
 rw [List.length_map] at hle
 exact ⟨(b, cap), [(rV cB 1 (some ⟨b, 0, none⟩) (l ++ enc m), [b])], hle, he, rfl, Up.of (r := rV ..) (VX.of_row h1), h2, fun y hy => .inr (by rw [List.mem_singleton.1 (foot_one.1 hy)]; exact h3)⟩
def encB (s t : Nat) : List UInt8 := (([] ++ enc s) ++ enc t) ++ enc 0
theorem encB_eq (s t : Nat) : encB s t = enc s ++ (enc t ++ enc 0) := by simp [encB]
theorem encB_len {s t : Nat} (hs : s ≤ 2147483647) (ht : t ≤ 1099511627776) : 3 ≤ (encB s t).length ∧ (encB s t).length ≤ 30 := by
 have h1 := Wire.enc_len64 s (by omega)
 have h2 := Wire.enc_len64 t (by omega)
 have h3 := Wire.enc_len64 0 (by omega)
 have h4 := Wire.enc_pos s
 have h5 := Wire.enc_pos t
 have h6 := Wire.enc_pos 0
 rw [encB_eq, List.length_append, List.length_append]
 omega
theorem rb0_ok (s t : Nat) : Wire.St.ok (encB s t) ⟨0, false⟩ := Nat.zero_le _
theorem rb1_ok (s t : Nat) : Wire.St.ok (encB s t) ⟨(enc s).length, false⟩ := by
 show (enc s).length ≤ (encB s t).length
 rw [encB_eq, List.length_append]
 omega
theorem rb2_ok (s t : Nat) : Wire.St.ok (encB s t) ⟨(enc s ++ enc t).length, false⟩ := by
 show (enc s ++ enc t).length ≤ (encB s t).length
 rw [encB_eq, List.length_append, List.length_append, List.length_append]
 omega
theorem rb0 {s t : Nat} (hs : s ≤ 2147483647) (ht : t ≤ 1099511627776) : Wire.rNum (encB s t) ⟨0, false⟩ = (s, ⟨(enc s).length, false⟩) := by
 have := Wire.rNum_enc (a := []) (r := enc t ++ enc 0) (n := s) (by omega)
 rw [encB_eq]
 simpa using this
theorem rb1 {s t : Nat} (hs : s ≤ 2147483647) (ht : t ≤ 1099511627776) : Wire.rNum (encB s t) ⟨(enc s).length, false⟩ = (t, ⟨(enc s ++ enc t).length, false⟩) := by
 rw [encB_eq]
 exact Wire.rNum_enc (a := enc s) (r := enc 0) (n := t) (by omega)
theorem rb2 {s t : Nat} (hs : s ≤ 2147483647) (ht : t ≤ 1099511627776) : Wire.rNum (encB s t) ⟨(enc s ++ enc t).length, false⟩ = (0, ⟨(encB s t).length, false⟩) := by
 have := Wire.rNum_enc (a := enc s ++ enc t) (r := []) (n := 0) (by omega)
 rw [List.append_nil] at this
 have e : encB s t = enc s ++ enc t ++ enc 0 := by simp [encB]
 rw [e]
 exact this
set_option maxRecDepth 100000 in
set_option maxHeartbeats 400000 in
theorem may_0 (s t : Nat) (hs : s ≤ 2147483647) (ht : t ≤ 1099511627776) :
  Ct Tryz.prog 186 #[.agg #[.int .i64 (s : Int), .int .i64 (t : Int), .slice none 0 0]] [] [] (fun (_ : Unit) => True) (fun _ => (.bool true, [])) := by
 refine Ct.mk fun w T_ H => ?_
 refine enter (N := 69) Tryz.func186 (c := _) rfl (by kernel_rfl) (by kernel_rfl) (e := [(0, .agg #[.int .i64 (s : Int), .int .i64 (t : Int), .slice none 0 0])]) (by kernel_rfl) ?_
 refine WE.seq ?_
 refine WE.region ?_
 refine Sb H 1 #[.int .i64 (s : Int), .int .i64 (t : Int), .slice none 0 0] 42 (fun g => .pointer (some ⟨g, 0, none⟩)) ?_
 intro g1 w H
 refine WO.run 1 1 [(2, .bool false)] (by kernel_rfl) (by kernel_rfl) ?_
 refine WO.done (by kernel_rfl) ?_
 refine WQ.keep [1, 2] (e' := [(1, .pointer (some ⟨g1, 0, none⟩)), (2, .bool false)]) (by kernel_rfl) ?_
 refine WQ.thenN ?_
 refine WE.seq ?_
 refine WE.seq ?_
 refine WE.region ?_
 refine WO.run 1 0 [(6, .pointer (some ⟨g1, 0, none⟩))] (by kernel_rfl) (by kernel_rfl) ?_
 refine WO.ld (SQ.S 1 (by kernel_rfl)) 7 (.int .i64 (s : Int)) (by kernel_rfl) (H.cell 0 0) ?_
 refine WO.one (SQ.F 2 (by kernel_rfl)) 8 (.bool (decide (((s : Int) : Int) < (0 : Int)))) (by kernel_rfl) ?_
 refine WO.topPF (((s : Int) : Int) < (0 : Int)) (by omega) ?_
 refine WO.run 2 3 [(10, .pointer (some ⟨g1, 0, none⟩)), (9, .bool false)] (by kernel_rfl) (by kernel_rfl) ?_
 refine WO.ld (SQ.S 5 (by kernel_rfl)) 11 (.int .i64 (s : Int)) (by kernel_rfl) (H.cell 0 0) ?_
 refine WO.one (SQ.F 6 (by kernel_rfl)) 12 (.bool (decide (((s : Int) : Int) > (2147483647 : Int)))) (by kernel_rfl) ?_
 refine WO.topPF (((s : Int) : Int) > (2147483647 : Int)) (by omega) ?_
 refine WO.run 3 7 [(15, .pointer (some ⟨g1, 1, none⟩)), (14, .bool false), (13, .bool false)] (by kernel_rfl) (by kernel_rfl) ?_
 refine WO.ld (SQ.S 10 (by kernel_rfl)) 16 (.int .i64 (t : Int)) (by kernel_rfl) (H.cell 0 1) ?_
 refine WO.one (SQ.F 11 (by kernel_rfl)) 17 (.bool (decide (((t : Int) : Int) < (0 : Int)))) (by kernel_rfl) ?_
 refine WO.topPF (((t : Int) : Int) < (0 : Int)) (by omega) ?_
 refine WO.run 3 12 [(20, .pointer (some ⟨g1, 1, none⟩)), (19, .bool false), (18, .bool false)] (by kernel_rfl) (by kernel_rfl) ?_
 refine WO.ld (SQ.S 15 (by kernel_rfl)) 21 (.int .i64 (t : Int)) (by kernel_rfl) (H.cell 0 1) ?_
 refine WO.one (SQ.F 16 (by kernel_rfl)) 22 (.bool (decide (((t : Int) : Int) > (1099511627776 : Int)))) (by kernel_rfl) ?_
 refine WO.topPF (((t : Int) : Int) > (1099511627776 : Int)) (by omega) ?_
 refine WO.run 3 17 [(25, .pointer (some ⟨g1, 2, none⟩)), (24, .bool false), (23, .bool false)] (by kernel_rfl) (by kernel_rfl) ?_
 refine WO.ld (SQ.S 20 (by kernel_rfl)) 26 (.slice none 0 0) (by kernel_rfl) (H.cell 0 2) ?_
 refine WO.run 3 21 [(29, .bool false), (28, .bool false), (27, .int .i64 0)] (by kernel_rfl) (by kernel_rfl) ?_
 refine WO.done (by kernel_rfl) ?_
 refine WQ.keep [1, 2, 29] (e' := [(1, .pointer (some ⟨g1, 0, none⟩)), (2, .bool false), (29, .bool false)]) (by kernel_rfl) ?_
 refine WQ.thenN ?_
 refine WE.condF (by kernel_rfl) ?_
 refine WE.skip ?_
 refine WQ.thenN ?_
 refine WE.seq ?_
 refine WE.seq ?_
 refine WE.region ?_
 refine WO.run 1 0 [(30, .pointer (some ⟨g1, 2, none⟩))] (by kernel_rfl) (by kernel_rfl) ?_
 refine WO.ld (SQ.S 1 (by kernel_rfl)) 31 (.slice none 0 0) (by kernel_rfl) (H.cell 0 2) ?_
 refine WO.run 2 2 [(33, .int .i64 0), (32, .int .i64 0)] (by kernel_rfl) (by kernel_rfl) ?_
 refine WO.done (by kernel_rfl) ?_
 refine WQ.keep [1, 2, 31, 32, 33] (e' := [(1, .pointer (some ⟨g1, 0, none⟩)), (2, .bool false), (31, .slice none 0 0), (32, .int .i64 0), (33, .int .i64 0)]) (by kernel_rfl) ?_
 refine WQ.thenN ?_
 refine WE.block ?_
 refine WE.unroll ?_
 refine WL.go ?_
 refine WE.seq ?_
 refine WE.region ?_
 refine WO.run 1 0 [(34, .bool false)] (by kernel_rfl) (by kernel_rfl) ?_
 refine WO.done (by kernel_rfl) ?_
 refine WQ.keep [1, 2, 31, 32, 33, 34] (e' := [(1, .pointer (some ⟨g1, 0, none⟩)), (2, .bool false), (31, .slice none 0 0), (32, .int .i64 0), (33, .int .i64 0), (34, .bool false)]) (by kernel_rfl) ?_
 refine WQ.thenN ?_
 refine WE.seq ?_
 refine WE.condF (by kernel_rfl) ?_
 refine WE.exit ?_
 refine WQ.thenE ?_
 refine WQ.thenE ?_
 refine WQ.blkE ?_
 refine WQ.thenN ?_
 refine WE.seq ?_
 refine WE.region ?_
 refine WO.run 1 0 [(2, .bool true)] (by kernel_rfl) (by kernel_rfl) ?_
 refine WO.done (by kernel_rfl) ?_
 refine WQ.keep [2] (e' := [(2, .bool true)]) (by kernel_rfl) ?_
 refine WQ.thenN ?_
 refine WE.ret ?_
 refine WQ.ret (v := .bool true) (by kernel_rfl) ?_
 exact H.leaf () [] trivial
set_option maxRecDepth 100000 in
set_option maxHeartbeats 400000 in
theorem small_e (g : Nat) (A : Option Addr) (n c : Nat) (l : List UInt8) (z z' : Wire.St) (m most : Nat) (hn : l.length = n) (hnc : n ≤ c) (hlen : l.length ≤ 1000000000) (hz : z.ok l) (hm : Wire.rNum l z = (m, z')) (hmm : m ≤ most) (hmo : most ≤ 9223372036854775807) :
  Ct Tryz.prog 238 #[.pointer (some ⟨g, 0, none⟩), .int .u64 (most : Int)] [rV cB 1 A l] [rRd g A n c z] (fun (_ : Unit) => True) (fun _ => (.int .i64 (m : Int), [rRd g A n c z'])) := by
 refine Ct.mk fun w T_ H => ?_
 refine enter (N := 13) Tryz.func238 (c := _) rfl (by kernel_rfl) (by kernel_rfl) (e := [(0, .pointer (some ⟨g, 0, none⟩)), (1, .int .u64 (most : Int))]) (by kernel_rfl) ?_
 refine WE.seq ?_
 refine WE.region ?_
 refine WO.run 1 0 [(4, .int .i64 0)] (by kernel_rfl) (by kernel_rfl) ?_
 refine WO.done (by kernel_rfl) ?_
 refine WQ.keep [0, 1, 4] (e' := [(0, .pointer (some ⟨g, 0, none⟩)), (1, .int .u64 (most : Int)), (4, .int .i64 0)]) (by kernel_rfl) ?_
 refine WQ.thenN ?_
 refine WE.seq ?_
 refine WE.region ?_
 refine WO.run 1 0 [(6, .pointer (some ⟨g, 0, none⟩))] (by kernel_rfl) (by kernel_rfl) ?_
 refine Sc H 7 (rnum_e g A n c l z hn hnc hlen hz hm) [0] [0] ?_
 rintro ⟨⟩ w _ H
 refine WO.run 1 2 [(5, .int .u64 (m : Int))] (by kernel_rfl) (by kernel_rfl) ?_
 refine WO.done (by kernel_rfl) ?_
 refine WQ.keep [1, 4, 5] (e' := [(1, .int .u64 (most : Int)), (4, .int .i64 0), (5, .int .u64 (m : Int))]) (by kernel_rfl) ?_
 refine WQ.thenN ?_
 refine WE.seq ?_
 refine WE.seq ?_
 refine WE.region ?_
 refine WO.run 2 0 [(9, .int .u64 (most : Int)), (8, .int .u64 (m : Int))] (by kernel_rfl) (by kernel_rfl) ?_
 refine WO.one (SQ.F 2 (by kernel_rfl)) 10 (.bool (decide (((m : Int) : Int) > (most : Int)))) (by kernel_rfl) ?_
 refine WO.topPF (((m : Int) : Int) > (most : Int)) (by omega) ?_
 refine WO.done (by kernel_rfl) ?_
 refine WQ.keep [4, 5, 10] (e' := [(4, .int .i64 0), (5, .int .u64 (m : Int)), (10, .bool false)]) (by kernel_rfl) ?_
 refine WQ.thenN ?_
 refine WE.condF (by kernel_rfl) ?_
 refine WE.skip ?_
 refine WQ.thenN ?_
 refine WE.seq ?_
 refine WE.region ?_
 refine WO.run 1 0 [(11, .int .u64 (m : Int))] (by kernel_rfl) (by kernel_rfl) ?_
 refine WO.one (SQ.F 1 (by kernel_rfl)) 12 (.int .i64 (IntKind.i64.wrap (m : Int))) (by kernel_rfl) ?_
 refine WO.top (v' := .int .i64 (m : Int)) (wrap_i64 rfl (by omega)) ?_
 refine WO.run 1 2 [(4, .int .i64 (m : Int))] (by kernel_rfl) (by kernel_rfl) ?_
 refine WO.done (by kernel_rfl) ?_
 refine WQ.keep [4] (e' := [(4, .int .i64 (m : Int))]) (by kernel_rfl) ?_
 refine WQ.thenN ?_
 refine WE.ret ?_
 refine WQ.ret (v := .int .i64 (m : Int)) (by kernel_rfl) ?_
 exact H.leaf () [0] trivial
set_option maxRecDepth 100000 in
set_option maxHeartbeats 400000 in
theorem bput_0 (s t : Nat) (hs : s ≤ 2147483647) (ht : t ≤ 1099511627776) :
  Ct Tryz.prog 108 #[.agg #[.int .i64 (s : Int), .int .i64 (t : Int), .slice none 0 0]] [] [] (fun (a : Option Addr × Nat) => (encB s t).length ≤ a.2) (fun a => (.tuple #[.slice a.1 (encB s t).length a.2, .nilIface], [rV cB 1 a.1 (encB s t)])) := by
 refine Ct.mk fun w T_ H => ?_
 have h1_ := Wire.enc_len64 s (by omega)
 have h2_ := Wire.enc_len64 t (by omega)
 have h3_ := Wire.enc_len64 0 (by omega)
 refine enter (N := 95) Tryz.func108 (c := _) rfl (by kernel_rfl) (by kernel_rfl) (e := [(0, .agg #[.int .i64 (s : Int), .int .i64 (t : Int), .slice none 0 0])]) (by kernel_rfl) ?_
 refine WE.seq ?_
 refine WE.region ?_
 refine Sb H 1 #[.int .i64 (s : Int), .int .i64 (t : Int), .slice none 0 0] 42 (fun g => .pointer (some ⟨g, 0, none⟩)) ?_
 intro g1 w H
 refine WO.run 2 1 [(3, .nilIface), (2, .slice none 0 0)] (by kernel_rfl) (by kernel_rfl) ?_
 refine WO.done (by kernel_rfl) ?_
 refine WQ.keep [1, 2, 3] (e' := [(1, .pointer (some ⟨g1, 0, none⟩)), (2, .slice none 0 0), (3, .nilIface)]) (by kernel_rfl) ?_
 refine WQ.thenN ?_
 refine WE.seq ?_
 refine WE.seq ?_
 refine WE.region ?_
 refine SlA H 0 0 14 [.int .i64 (s : Int), .int .i64 (t : Int), .slice none 0 0] ?_
 refine Sc H 15 (may_0 s t hs ht) [] [] ?_
 rintro ⟨⟩ w _ H
 refine WO.run 1 2 [(16, .bool false)] (by kernel_rfl) (by kernel_rfl) ?_
 refine WO.done (by kernel_rfl) ?_
 refine WQ.keep [1, 2, 3, 16] (e' := [(1, .pointer (some ⟨g1, 0, none⟩)), (2, .slice none 0 0), (3, .nilIface), (16, .bool false)]) (by kernel_rfl) ?_
 refine WQ.thenN ?_
 refine WE.condF (by kernel_rfl) ?_
 refine WE.skip ?_
 refine WQ.thenN ?_
 refine WE.seq ?_
 refine WE.region ?_
 refine WO.run 1 0 [(4, .slice none 0 0)] (by kernel_rfl) (by kernel_rfl) ?_
 refine WO.done (by kernel_rfl) ?_
 refine WQ.keep [1, 2, 3, 4] (e' := [(1, .pointer (some ⟨g1, 0, none⟩)), (2, .slice none 0 0), (3, .nilIface), (4, .slice none 0 0)]) (by kernel_rfl) ?_
 refine WQ.thenN ?_
 refine WE.seq ?_
 refine WE.seq ?_
 refine WE.region ?_
 refine WO.run 1 0 [(18, .pointer (some ⟨g1, 0, none⟩))] (by kernel_rfl) (by kernel_rfl) ?_
 refine WO.ld (SQ.S 1 (by kernel_rfl)) 19 (.int .i64 (s : Int)) (by kernel_rfl) (H.cell 0 0) ?_
 refine WO.one (SQ.F 2 (by kernel_rfl)) 20 (.int .u64 (IntKind.u64.wrap (s : Int))) (by kernel_rfl) ?_
 refine WO.top (v' := .int .u64 (s : Int)) (wrap_u64 rfl (by omega)) ?_
 refine WO.run 1 3 [(21, .pointer (some ⟨g1, 1, none⟩))] (by kernel_rfl) (by kernel_rfl) ?_
 refine WO.ld (SQ.S 4 (by kernel_rfl)) 22 (.int .i64 (t : Int)) (by kernel_rfl) (H.cell 0 1) ?_
 refine WO.one (SQ.F 5 (by kernel_rfl)) 23 (.int .u64 (IntKind.u64.wrap (t : Int))) (by kernel_rfl) ?_
 refine WO.top (v' := .int .u64 (t : Int)) (wrap_u64 rfl (by omega)) ?_
 refine WO.run 1 6 [(24, .pointer (some ⟨g1, 2, none⟩))] (by kernel_rfl) (by kernel_rfl) ?_
 refine WO.ld (SQ.S 7 (by kernel_rfl)) 25 (.slice none 0 0) (by kernel_rfl) (H.cell 0 2) ?_
 refine WO.run 1 8 [(26, .int .i64 0)] (by kernel_rfl) (by kernel_rfl) ?_
 refine WO.one (SQ.F 9 (by kernel_rfl)) 27 (.int .u64 0) (by kernel_rfl) ?_
 refine Sb H 28 #[.int .u64 (s : Int), .int .u64 (t : Int), .int .u64 0] 126 (fun g => .slice (some ⟨g, 0, none⟩) 3 3) ?_
 intro g2 w H
 refine WO.run 2 11 [(30, .int .i64 0), (29, .int .i64 3)] (by kernel_rfl) (by kernel_rfl) ?_
 refine WO.done (by kernel_rfl) ?_
 refine WQ.keep [1, 2, 3, 4, 28, 29, 30] (e' := [(1, .pointer (some ⟨g1, 0, none⟩)), (2, .slice none 0 0), (3, .nilIface), (4, .slice none 0 0), (28, .slice (some ⟨g2, 0, none⟩) 3 3), (29, .int .i64 3), (30, .int .i64 0)]) (by kernel_rfl) ?_
 refine WQ.thenN ?_
 refine WE.block ?_
 refine WE.unroll ?_
 refine WL.go ?_
 refine WE.seq ?_
 refine WE.region ?_
 refine WO.run 1 0 [(31, .bool true)] (by kernel_rfl) (by kernel_rfl) ?_
 refine WO.done (by kernel_rfl) ?_
 refine WQ.keep [1, 2, 3, 4, 28, 29, 30, 31] (e' := [(1, .pointer (some ⟨g1, 0, none⟩)), (2, .slice none 0 0), (3, .nilIface), (4, .slice none 0 0), (28, .slice (some ⟨g2, 0, none⟩) 3 3), (29, .int .i64 3), (30, .int .i64 0), (31, .bool true)]) (by kernel_rfl) ?_
 refine WQ.thenN ?_
 refine WE.seq ?_
 refine WE.condT (by kernel_rfl) ?_
 refine WE.skip ?_
 refine WQ.thenN ?_
 refine WE.seq ?_
 refine WE.block ?_
 refine WE.seq ?_
 refine WE.region ?_
 refine WO.ixB (SQ.F 0 (by kernel_rfl)) 32 0 g2 0 3 1 0 (by kernel_rfl) (by omega) (by omega) (by omega) ?_
 refine WO.ld (SQ.S 1 (by kernel_rfl)) 33 (.int .u64 (s : Int)) (by kernel_rfl) (H.cell 0 0) ?_
 refine WO.run 1 2 [(6, .int .u64 (s : Int))] (by kernel_rfl) (by kernel_rfl) ?_
 refine WO.done (by kernel_rfl) ?_
 refine WQ.keep [1, 2, 3, 4, 6, 28, 29, 30, 31] (e' := [(1, .pointer (some ⟨g1, 0, none⟩)), (2, .slice none 0 0), (3, .nilIface), (4, .slice none 0 0), (6, .int .u64 (s : Int)), (28, .slice (some ⟨g2, 0, none⟩) 3 3), (29, .int .i64 3), (30, .int .i64 0), (31, .bool true)]) (by kernel_rfl) ?_
 refine WQ.thenN ?_
 refine WE.region ?_
 refine WO.run 2 0 [(35, .int .u64 (s : Int)), (34, .slice none 0 0)] (by kernel_rfl) (by kernel_rfl) ?_
 replace H := H.add (rV cB 1 none []) (VX.nil _ _)
 refine Sc H 36 (num_ct s none 0 0 []  (by first | rfl | exact (rfl : List.length ([]) = _)) (by simp only [List.length_append, List.length_nil] <;> omega) (by omega)) [] [0] ?_
 rintro ⟨b3, cp4⟩ w hccp4 H
 refine WO.run 1 3 [(4, .slice (some ⟨b3, 0, none⟩) (([] ++ enc s).length) cp4)] (by kernel_rfl) (by kernel_rfl) ?_
 refine WO.done (by kernel_rfl) ?_
 refine WQ.keep [1, 2, 3, 4, 6, 28, 29, 30, 31] (e' := [(1, .pointer (some ⟨g1, 0, none⟩)), (2, .slice none 0 0), (3, .nilIface), (4, .slice (some ⟨b3, 0, none⟩) (([] ++ enc s).length) cp4), (6, .int .u64 (s : Int)), (28, .slice (some ⟨g2, 0, none⟩) 3 3), (29, .int .i64 3), (30, .int .i64 0), (31, .bool true)]) (by kernel_rfl) ?_
 refine WQ.blkN ?_
 refine WQ.thenN ?_
 refine WE.region ?_
 refine WO.run 2 0 [(30, .int .i64 1), (37, .int .i64 1)] (by kernel_rfl) (by kernel_rfl) ?_
 refine WO.done (by kernel_rfl) ?_
 refine WQ.keep [1, 2, 3, 4, 6, 28, 29, 30, 31] (e' := [(1, .pointer (some ⟨g1, 0, none⟩)), (2, .slice none 0 0), (3, .nilIface), (4, .slice (some ⟨b3, 0, none⟩) (([] ++ enc s).length) cp4), (6, .int .u64 (s : Int)), (28, .slice (some ⟨g2, 0, none⟩) 3 3), (29, .int .i64 3), (30, .int .i64 1), (31, .bool true)]) (by kernel_rfl) ?_
 refine WQ.thenL ?_
 refine WL.go ?_
 refine WE.seq ?_
 refine WE.region ?_
 refine WO.run 1 0 [(31, .bool true)] (by kernel_rfl) (by kernel_rfl) ?_
 refine WO.done (by kernel_rfl) ?_
 refine WQ.keep [1, 2, 3, 4, 6, 28, 29, 30, 31] (e' := [(1, .pointer (some ⟨g1, 0, none⟩)), (2, .slice none 0 0), (3, .nilIface), (4, .slice (some ⟨b3, 0, none⟩) (([] ++ enc s).length) cp4), (6, .int .u64 (s : Int)), (28, .slice (some ⟨g2, 0, none⟩) 3 3), (29, .int .i64 3), (30, .int .i64 1), (31, .bool true)]) (by kernel_rfl) ?_
 refine WQ.thenN ?_
 refine WE.seq ?_
 refine WE.condT (by kernel_rfl) ?_
 refine WE.skip ?_
 refine WQ.thenN ?_
 refine WE.seq ?_
 refine WE.block ?_
 refine WE.seq ?_
 refine WE.region ?_
 refine WO.ixB (SQ.F 0 (by kernel_rfl)) 32 1 g2 0 3 1 1 (by kernel_rfl) (by omega) (by omega) (by omega) ?_
 refine WO.ld (SQ.S 1 (by kernel_rfl)) 33 (.int .u64 (t : Int)) (by kernel_rfl) (H.cell 2 1) ?_
 refine WO.run 1 2 [(6, .int .u64 (t : Int))] (by kernel_rfl) (by kernel_rfl) ?_
 refine WO.done (by kernel_rfl) ?_
 refine WQ.keep [1, 2, 3, 4, 6, 28, 29, 30, 31] (e' := [(1, .pointer (some ⟨g1, 0, none⟩)), (2, .slice none 0 0), (3, .nilIface), (4, .slice (some ⟨b3, 0, none⟩) (([] ++ enc s).length) cp4), (6, .int .u64 (t : Int)), (28, .slice (some ⟨g2, 0, none⟩) 3 3), (29, .int .i64 3), (30, .int .i64 1), (31, .bool true)]) (by kernel_rfl) ?_
 refine WQ.thenN ?_
 refine WE.region ?_
 refine WO.run 2 0 [(35, .int .u64 (t : Int)), (34, .slice (some ⟨b3, 0, none⟩) (([] ++ enc s).length) cp4)] (by kernel_rfl) (by kernel_rfl) ?_
 refine Sc H 36 (num_ct t (some ⟨b3, 0, none⟩) (([] ++ enc s).length) cp4 ([] ++ enc s)  (by first | rfl | exact (rfl : ([] ++ enc s).length = _)) (by simp only [List.length_append, List.length_nil] <;> omega) (by omega)) [] [0] ?_
 rintro ⟨b5, cp6⟩ w hccp6 H
 refine WO.run 1 3 [(4, .slice (some ⟨b5, 0, none⟩) ((([] ++ enc s) ++ enc t).length) cp6)] (by kernel_rfl) (by kernel_rfl) ?_
 refine WO.done (by kernel_rfl) ?_
 refine WQ.keep [1, 2, 3, 4, 6, 28, 29, 30, 31] (e' := [(1, .pointer (some ⟨g1, 0, none⟩)), (2, .slice none 0 0), (3, .nilIface), (4, .slice (some ⟨b5, 0, none⟩) ((([] ++ enc s) ++ enc t).length) cp6), (6, .int .u64 (t : Int)), (28, .slice (some ⟨g2, 0, none⟩) 3 3), (29, .int .i64 3), (30, .int .i64 1), (31, .bool true)]) (by kernel_rfl) ?_
 refine WQ.blkN ?_
 refine WQ.thenN ?_
 refine WE.region ?_
 refine WO.run 2 0 [(30, .int .i64 2), (37, .int .i64 2)] (by kernel_rfl) (by kernel_rfl) ?_
 refine WO.done (by kernel_rfl) ?_
 refine WQ.keep [1, 2, 3, 4, 6, 28, 29, 30, 31] (e' := [(1, .pointer (some ⟨g1, 0, none⟩)), (2, .slice none 0 0), (3, .nilIface), (4, .slice (some ⟨b5, 0, none⟩) ((([] ++ enc s) ++ enc t).length) cp6), (6, .int .u64 (t : Int)), (28, .slice (some ⟨g2, 0, none⟩) 3 3), (29, .int .i64 3), (30, .int .i64 2), (31, .bool true)]) (by kernel_rfl) ?_
 refine WQ.thenL ?_
 refine WL.go ?_
 refine WE.seq ?_
 refine WE.region ?_
 refine WO.run 1 0 [(31, .bool true)] (by kernel_rfl) (by kernel_rfl) ?_
 refine WO.done (by kernel_rfl) ?_
 refine WQ.keep [1, 2, 3, 4, 6, 28, 29, 30, 31] (e' := [(1, .pointer (some ⟨g1, 0, none⟩)), (2, .slice none 0 0), (3, .nilIface), (4, .slice (some ⟨b5, 0, none⟩) ((([] ++ enc s) ++ enc t).length) cp6), (6, .int .u64 (t : Int)), (28, .slice (some ⟨g2, 0, none⟩) 3 3), (29, .int .i64 3), (30, .int .i64 2), (31, .bool true)]) (by kernel_rfl) ?_
 refine WQ.thenN ?_
 refine WE.seq ?_
 refine WE.condT (by kernel_rfl) ?_
 refine WE.skip ?_
 refine WQ.thenN ?_
 refine WE.seq ?_
 refine WE.block ?_
 refine WE.seq ?_
 refine WE.region ?_
 refine WO.ixB (SQ.F 0 (by kernel_rfl)) 32 2 g2 0 3 1 2 (by kernel_rfl) (by omega) (by omega) (by omega) ?_
 refine WO.ld (SQ.S 1 (by kernel_rfl)) 33 (.int .u64 0) (by kernel_rfl) (H.cell 3 2) ?_
 refine WO.run 1 2 [(6, .int .u64 0)] (by kernel_rfl) (by kernel_rfl) ?_
 refine WO.done (by kernel_rfl) ?_
 refine WQ.keep [1, 2, 3, 4, 6, 28, 29, 30, 31] (e' := [(1, .pointer (some ⟨g1, 0, none⟩)), (2, .slice none 0 0), (3, .nilIface), (4, .slice (some ⟨b5, 0, none⟩) ((([] ++ enc s) ++ enc t).length) cp6), (6, .int .u64 0), (28, .slice (some ⟨g2, 0, none⟩) 3 3), (29, .int .i64 3), (30, .int .i64 2), (31, .bool true)]) (by kernel_rfl) ?_
 refine WQ.thenN ?_
 refine WE.region ?_
 refine WO.run 2 0 [(35, .int .u64 0), (34, .slice (some ⟨b5, 0, none⟩) ((([] ++ enc s) ++ enc t).length) cp6)] (by kernel_rfl) (by kernel_rfl) ?_
 refine Sc H 36 (num_ct 0 (some ⟨b5, 0, none⟩) ((([] ++ enc s) ++ enc t).length) cp6 (([] ++ enc s) ++ enc t)  (by first | rfl | exact (rfl : (([] ++ enc s) ++ enc t).length = _)) (by simp only [List.length_append, List.length_nil] <;> omega) (by omega)) [] [0] ?_
 rintro ⟨b7, cp8⟩ w hccp8 H
 refine WO.run 1 3 [(4, .slice (some ⟨b7, 0, none⟩) (((([] ++ enc s) ++ enc t) ++ enc 0).length) cp8)] (by kernel_rfl) (by kernel_rfl) ?_
 refine WO.done (by kernel_rfl) ?_
 refine WQ.keep [1, 2, 3, 4, 6, 28, 29, 30, 31] (e' := [(1, .pointer (some ⟨g1, 0, none⟩)), (2, .slice none 0 0), (3, .nilIface), (4, .slice (some ⟨b7, 0, none⟩) (((([] ++ enc s) ++ enc t) ++ enc 0).length) cp8), (6, .int .u64 0), (28, .slice (some ⟨g2, 0, none⟩) 3 3), (29, .int .i64 3), (30, .int .i64 2), (31, .bool true)]) (by kernel_rfl) ?_
 refine WQ.blkN ?_
 refine WQ.thenN ?_
 refine WE.region ?_
 refine WO.run 2 0 [(30, .int .i64 3), (37, .int .i64 3)] (by kernel_rfl) (by kernel_rfl) ?_
 refine WO.done (by kernel_rfl) ?_
 refine WQ.keep [1, 2, 3, 4, 6, 28, 29, 30, 31] (e' := [(1, .pointer (some ⟨g1, 0, none⟩)), (2, .slice none 0 0), (3, .nilIface), (4, .slice (some ⟨b7, 0, none⟩) (((([] ++ enc s) ++ enc t) ++ enc 0).length) cp8), (6, .int .u64 0), (28, .slice (some ⟨g2, 0, none⟩) 3 3), (29, .int .i64 3), (30, .int .i64 3), (31, .bool true)]) (by kernel_rfl) ?_
 refine WQ.thenL ?_
 refine WL.go ?_
 refine WE.seq ?_
 refine WE.region ?_
 refine WO.run 1 0 [(31, .bool false)] (by kernel_rfl) (by kernel_rfl) ?_
 refine WO.done (by kernel_rfl) ?_
 refine WQ.keep [1, 2, 3, 4, 6, 28, 29, 30, 31] (e' := [(1, .pointer (some ⟨g1, 0, none⟩)), (2, .slice none 0 0), (3, .nilIface), (4, .slice (some ⟨b7, 0, none⟩) (((([] ++ enc s) ++ enc t) ++ enc 0).length) cp8), (6, .int .u64 0), (28, .slice (some ⟨g2, 0, none⟩) 3 3), (29, .int .i64 3), (30, .int .i64 3), (31, .bool false)]) (by kernel_rfl) ?_
 refine WQ.thenN ?_
 refine WE.seq ?_
 refine WE.condF (by kernel_rfl) ?_
 refine WE.exit ?_
 refine WQ.thenE ?_
 refine WQ.thenE ?_
 refine WQ.blkE ?_
 refine WQ.thenN ?_
 refine WE.seq ?_
 refine WE.seq ?_
 refine WE.region ?_
 refine WO.run 1 0 [(38, .pointer (some ⟨g1, 2, none⟩))] (by kernel_rfl) (by kernel_rfl) ?_
 refine WO.ld (SQ.S 1 (by kernel_rfl)) 39 (.slice none 0 0) (by kernel_rfl) (H.cell 5 2) ?_
 refine WO.run 2 2 [(41, .int .i64 0), (40, .int .i64 0)] (by kernel_rfl) (by kernel_rfl) ?_
 refine WO.done (by kernel_rfl) ?_
 refine WQ.keep [2, 3, 4, 39, 40, 41] (e' := [(2, .slice none 0 0), (3, .nilIface), (4, .slice (some ⟨b7, 0, none⟩) (((([] ++ enc s) ++ enc t) ++ enc 0).length) cp8), (39, .slice none 0 0), (40, .int .i64 0), (41, .int .i64 0)]) (by kernel_rfl) ?_
 refine WQ.thenN ?_
 refine WE.block ?_
 refine WE.unroll ?_
 refine WL.go ?_
 refine WE.seq ?_
 refine WE.region ?_
 refine WO.run 1 0 [(42, .bool false)] (by kernel_rfl) (by kernel_rfl) ?_
 refine WO.done (by kernel_rfl) ?_
 refine WQ.keep [2, 3, 4, 39, 40, 41, 42] (e' := [(2, .slice none 0 0), (3, .nilIface), (4, .slice (some ⟨b7, 0, none⟩) (((([] ++ enc s) ++ enc t) ++ enc 0).length) cp8), (39, .slice none 0 0), (40, .int .i64 0), (41, .int .i64 0), (42, .bool false)]) (by kernel_rfl) ?_
 refine WQ.thenN ?_
 refine WE.seq ?_
 refine WE.condF (by kernel_rfl) ?_
 refine WE.exit ?_
 refine WQ.thenE ?_
 refine WQ.thenE ?_
 refine WQ.blkE ?_
 refine WQ.thenN ?_
 refine WE.seq ?_
 refine WE.region ?_
 refine WO.run 3 0 [(3, .nilIface), (2, .slice (some ⟨b7, 0, none⟩) (((([] ++ enc s) ++ enc t) ++ enc 0).length) cp8), (94, .slice (some ⟨b7, 0, none⟩) (((([] ++ enc s) ++ enc t) ++ enc 0).length) cp8)] (by kernel_rfl) (by kernel_rfl) ?_
 refine WO.done (by kernel_rfl) ?_
 refine WQ.keep [2, 3] (e' := [(2, .slice (some ⟨b7, 0, none⟩) (((([] ++ enc s) ++ enc t) ++ enc 0).length) cp8), (3, .nilIface)]) (by kernel_rfl) ?_
 refine WQ.thenN ?_
 refine WE.ret ?_
 refine WQ.ret (v := .tuple #[.slice (some ⟨b7, 0, none⟩) (((([] ++ enc s) ++ enc t) ++ enc 0).length) cp8, .nilIface]) (by kernel_rfl) ?_
 exact H.leaf ((some ⟨b7, 0, none⟩), cp8) [0] hccp8
set_option maxRecDepth 100000 in
set_option maxHeartbeats 400000 in
theorem bget_0 (A : Option Addr) (n c s t : Nat) (hn : (encB s t).length = n) (hnc : n ≤ c) (hs : s ≤ 2147483647) (ht : t ≤ 1099511627776) :
  Ct Tryz.prog 180 #[.slice A n c] [rV cB 1 A (encB s t)] [] (fun (_ : Unit) => True) (fun _ => (.tuple #[.agg #[.int .i64 (s : Int), .int .i64 (t : Int), .slice none 0 0], .nilIface], [])) := by
 refine Ct.mk fun w T_ H => ?_
 have hlen : (encB s t).length ≤ 1000000000 := by have := encB_len hs ht; omega
 refine enter (N := 53) Tryz.func180 (c := _) rfl (by kernel_rfl) (by kernel_rfl) (e := [(0, .slice A n c)]) (by kernel_rfl) ?_
 refine WE.seq ?_
 refine WE.region ?_
 refine Sb H 2 #[.int .i64 0, .int .i64 0, .slice none 0 0] 42 (fun g => .pointer (some ⟨g, 0, none⟩)) ?_
 intro g1 w H
 refine WO.run 1 1 [(3, .nilIface)] (by kernel_rfl) (by kernel_rfl) ?_
 refine WO.done (by kernel_rfl) ?_
 refine WQ.keep [0, 2, 3] (e' := [(0, .slice A n c), (2, .pointer (some ⟨g1, 0, none⟩)), (3, .nilIface)]) (by kernel_rfl) ?_
 refine WQ.thenN ?_
 refine WE.seq ?_
 refine WE.region ?_
 refine WO.run 1 0 [(9, .slice A n c)] (by kernel_rfl) (by kernel_rfl) ?_
 refine Sc H 10 (read_rd A n c) [] [] ?_
 rintro g2 w _ H
 refine WO.run 1 2 [(4, .pointer (some ⟨g2, 0, none⟩))] (by kernel_rfl) (by kernel_rfl) ?_
 refine WO.done (by kernel_rfl) ?_
 refine WQ.keep [2, 3, 4] (e' := [(2, .pointer (some ⟨g1, 0, none⟩)), (3, .nilIface), (4, .pointer (some ⟨g2, 0, none⟩))]) (by kernel_rfl) ?_
 refine WQ.thenN ?_
 refine WE.seq ?_
 refine WE.region ?_
 refine WO.run 1 0 [(11, .pointer (some ⟨g2, 0, none⟩))] (by kernel_rfl) (by kernel_rfl) ?_
 refine Sc H 12 (small_e g2 A n c (encB s t) ⟨0, false⟩ ⟨(enc s).length, false⟩ s 2147483647 hn hnc hlen (rb0_ok s t) (rb0 hs ht) (by omega) (by omega)) [0] [1] ?_
 rintro ⟨⟩ w _ H
 refine WO.run 1 2 [(13, .agg #[.int .i64 (s : Int), .int .i64 0, .slice none 0 0])] (by kernel_rfl) (by kernel_rfl) ?_
 refine Sb H 5 #[.int .i64 0, .int .i64 0, .slice none 0 0] 42 (fun g => .pointer (some ⟨g, 0, none⟩)) ?_
 intro g3 w H
 refine Ss H 0 0 #[.int .i64 (s : Int), .int .i64 0, .slice none 0 0] ?_
 intro w H
 refine WO.done (by kernel_rfl) ?_
 refine WQ.keep [2, 3, 4, 5] (e' := [(2, .pointer (some ⟨g1, 0, none⟩)), (3, .nilIface), (4, .pointer (some ⟨g2, 0, none⟩)), (5, .pointer (some ⟨g3, 0, none⟩))]) (by kernel_rfl) ?_
 refine WQ.thenN ?_
 refine WE.seq ?_
 refine WE.region ?_
 refine WO.run 1 0 [(14, .pointer (some ⟨g2, 0, none⟩))] (by kernel_rfl) (by kernel_rfl) ?_
 refine Sc H 15 (small_e g2 A n c (encB s t) ⟨(enc s).length, false⟩ ⟨(enc s ++ enc t).length, false⟩ t 1099511627776 hn hnc hlen (rb1_ok s t) (rb1 hs ht) (by omega) (by omega)) [1] [2] ?_
 rintro ⟨⟩ w _ H
 refine WO.run 1 2 [(16, .pointer (some ⟨g3, 1, none⟩))] (by kernel_rfl) (by kernel_rfl) ?_
 refine Ss H 1 1 #[.int .i64 (s : Int), .int .i64 (t : Int), .slice none 0 0] ?_
 intro w H
 refine WO.done (by kernel_rfl) ?_
 refine WQ.keep [2, 3, 4, 5] (e' := [(2, .pointer (some ⟨g1, 0, none⟩)), (3, .nilIface), (4, .pointer (some ⟨g2, 0, none⟩)), (5, .pointer (some ⟨g3, 0, none⟩))]) (by kernel_rfl) ?_
 refine WQ.thenN ?_
 refine WE.seq ?_
 refine WE.region ?_
 refine WO.run 1 0 [(17, .pointer (some ⟨g2, 0, none⟩))] (by kernel_rfl) (by kernel_rfl) ?_
 refine Sc H 18 (small_e g2 A n c (encB s t) ⟨(enc s ++ enc t).length, false⟩ ⟨(encB s t).length, false⟩ 0 200 hn hnc hlen (rb2_ok s t) (rb2 hs ht) (by omega) (by omega)) [1] [2] ?_
 rintro ⟨⟩ w _ H
 refine WO.run 1 2 [(6, .int .i64 0)] (by kernel_rfl) (by kernel_rfl) ?_
 refine WO.done (by kernel_rfl) ?_
 refine WQ.keep [2, 3, 4, 5, 6] (e' := [(2, .pointer (some ⟨g1, 0, none⟩)), (3, .nilIface), (4, .pointer (some ⟨g2, 0, none⟩)), (5, .pointer (some ⟨g3, 0, none⟩)), (6, .int .i64 0)]) (by kernel_rfl) ?_
 refine WQ.thenN ?_
 refine WE.seq ?_
 refine WE.seq ?_
 refine WE.region ?_
 refine WO.run 2 0 [(20, .int .i64 0), (19, .int .i64 0)] (by kernel_rfl) (by kernel_rfl) ?_
 refine WO.done (by kernel_rfl) ?_
 refine WQ.keep [2, 3, 4, 5, 6, 19, 20] (e' := [(2, .pointer (some ⟨g1, 0, none⟩)), (3, .nilIface), (4, .pointer (some ⟨g2, 0, none⟩)), (5, .pointer (some ⟨g3, 0, none⟩)), (6, .int .i64 0), (19, .int .i64 0), (20, .int .i64 0)]) (by kernel_rfl) ?_
 refine WQ.thenN ?_
 refine WE.block ?_
 refine WE.unroll ?_
 refine WL.go ?_
 refine WE.seq ?_
 refine WE.region ?_
 refine WO.run 1 0 [(21, .bool false)] (by kernel_rfl) (by kernel_rfl) ?_
 refine WO.done (by kernel_rfl) ?_
 refine WQ.keep [2, 3, 4, 5, 6, 19, 20, 21] (e' := [(2, .pointer (some ⟨g1, 0, none⟩)), (3, .nilIface), (4, .pointer (some ⟨g2, 0, none⟩)), (5, .pointer (some ⟨g3, 0, none⟩)), (6, .int .i64 0), (19, .int .i64 0), (20, .int .i64 0), (21, .bool false)]) (by kernel_rfl) ?_
 refine WQ.thenN ?_
 refine WE.seq ?_
 refine WE.condF (by kernel_rfl) ?_
 refine WE.exit ?_
 refine WQ.thenE ?_
 refine WQ.thenE ?_
 refine WQ.blkE ?_
 refine WQ.thenN ?_
 refine WE.seq ?_
 refine WE.seq ?_
 refine WE.region ?_
 refine WO.run 1 0 [(38, .pointer (some ⟨g2, 0, none⟩))] (by kernel_rfl) (by kernel_rfl) ?_
 refine Sc H 39 (rend_e g2 A n c (encB s t) hn) [0] [] ?_
 rintro ⟨⟩ w _ H
 refine WO.run 6 2 [(45, .bool false), (44, .bool false), (43, .bool false), (42, .int .i64 0), (41, .bool false), (40, .bool false)] (by kernel_rfl) (by kernel_rfl) ?_
 refine SlA H 0 0 46 [.int .i64 (s : Int), .int .i64 (t : Int), .slice none 0 0] ?_
 refine Sc H 47 (may_0 s t hs ht) [] [] ?_
 rintro ⟨⟩ w _ H
 refine WO.run 2 10 [(49, .bool false), (48, .bool false)] (by kernel_rfl) (by kernel_rfl) ?_
 refine WO.done (by kernel_rfl) ?_
 refine WQ.keep [2, 3, 5, 49] (e' := [(2, .pointer (some ⟨g1, 0, none⟩)), (3, .nilIface), (5, .pointer (some ⟨g3, 0, none⟩)), (49, .bool false)]) (by kernel_rfl) ?_
 refine WQ.thenN ?_
 refine WE.condF (by kernel_rfl) ?_
 refine WE.skip ?_
 refine WQ.thenN ?_
 refine WE.seq ?_
 refine WE.region ?_
 refine SlA H 0 0 52 [.int .i64 (s : Int), .int .i64 (t : Int), .slice none 0 0] ?_
 refine Ss H 1 0 #[.int .i64 (s : Int), .int .i64 (t : Int), .slice none 0 0] ?_
 intro w H
 refine WO.run 1 2 [(3, .nilIface)] (by kernel_rfl) (by kernel_rfl) ?_
 refine WO.done (by kernel_rfl) ?_
 refine WQ.keep [2, 3] (e' := [(2, .pointer (some ⟨g1, 0, none⟩)), (3, .nilIface)]) (by kernel_rfl) ?_
 refine WQ.thenN ?_
 refine WE.ret ?_
 refine WQ.ret2 (fn := Tryz.f180) (show Tryz.f180.results = #[.cell 2 42, .tmp 3] by kernel_rfl) (show resOk _ _ _ _ (.agg #[.int .i64 (s : Int), .int .i64 (t : Int), .slice none 0 0]) from ⟨by kernel_rfl, ⟨g1, 0, none⟩, by kernel_rfl, ldVarB [.int .i64 (s : Int), .int .i64 (t : Int), .slice none 0 0] (by kernel_rfl) (by kernel_rfl) (by kernel_rfl) (H.blk 0) (by kernel_rfl)⟩) (show resOk _ _ _ _ .nilIface from ⟨by kernel_rfl, by kernel_rfl⟩) ?_
 exact H.leaf () [] trivial
end Go.Proofs.YtjfgmdkdcnfdoaaGreatDoor.Jrn
