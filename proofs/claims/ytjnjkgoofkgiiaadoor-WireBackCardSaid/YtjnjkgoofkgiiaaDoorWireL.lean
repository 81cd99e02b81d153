/- Layer 6's laws. -/
import Derived.Test.YtjnjkgoofkgiiaaDoorWireT
import Derived.Test.YtjnjkgoofkgiiaaDoorErrs
set_option linter.unusedVariables false
set_option linter.unusedSimpArgs false
namespace Go.Proofs.YtjnjkgoofkgiiaaDoor.Wire
open Go Go.RowKit Go.Proofs.YtjnjkgoofkgiiaaDoor Go.Proofs.YtjnjkgoofkgiiaaDoor.Eng Go.Proofs.YtjnjkgoofkgiiaaDoorW.PrintWords
set_option maxRecDepth 100000 in
set_option maxHeartbeats 400000 in
theorem pick_any (x : Int) (w : World) (hx : -9223372036854775808 ≤ x ∧ x ≤ 9223372036854775807) :
    Calls Tryd.prog 14 #[.int .i64 x, .int .i64 3] w fun e w' => ∃ v : Int, e = .returned (.int .i64 v) ∧ Fr [] w w' := by
  have HA := Fr.refl [] w
  refine enter (N := 13) Tryd.func14 (c := _) rfl (by kernel_rfl) (by kernel_rfl) (e := [(0, .int .i64 x), (1, .int .i64 3)]) (by kernel_rfl) ?_
  refine WE.seq ?_
  -- R0 law.go:28
  refine WE.region ?_
  refine WO.run 1 0 [(4, .int .i64 0)] (by kernel_rfl) (by kernel_rfl) ?_
  refine WO.done (by kernel_rfl) ?_
  refine WQ.keep [0, 1, 4] (e' := [(0, .int .i64 x), (1, .int .i64 3), (4, .int .i64 0)]) (by kernel_rfl) ?_
  refine WQ.thenN ?_
  refine WE.seq ?_
  refine WE.seq ?_
  -- R1 law.go:29
  refine WE.region ?_
  refine WO.run 1 0 [(5, .int .i64 x)] (by kernel_rfl) (by kernel_rfl) ?_
  refine WO.one (SQ.F 1 (by kernel_rfl)) 6 (.bool (decide ((x : Int) < 0))) (by kernel_rfl) ?_
  refine WO.topP ((x : Int) < 0) ?_ ?_
  · intro h1
    refine WO.done (by kernel_rfl) ?_
    refine WQ.keep [0, 1, 4, 6] (e' := [(0, .int .i64 x), (1, .int .i64 3), (4, .int .i64 0), (6, .bool true)]) (by kernel_rfl) ?_
    refine WQ.thenN ?_
    refine WE.condT (by kernel_rfl) ?_
    -- R2 law.go:30
    refine WE.region ?_
    refine WO.run 1 0 [(7, .int .i64 x)] (by kernel_rfl) (by kernel_rfl) ?_
    refine WO.one (SQ.F 1 (by kernel_rfl)) 8 (.int .i64 (IntKind.i64.wrap (x + 1))) (by kernel_rfl) ?_
    refine WO.top (v' := .int .i64 (x + 1)) (wrap_i64 (by omega) (by omega)) ?_
    refine WO.one (SQ.F 2 (by kernel_rfl)) 9 (.int .i64 (IntKind.i64.wrap (0 - (x + 1)))) (by kernel_rfl) ?_
    refine WO.top (v' := .int .i64 (0 - (x + 1))) (wrap_i64 (by omega) (by omega)) ?_
    refine WO.run 1 3 [(0, .int .i64 (0 - (x + 1)))] (by kernel_rfl) (by kernel_rfl) ?_
    refine WO.done (by kernel_rfl) ?_
    refine WQ.keep [0, 1, 4, 6] (e' := [(0, .int .i64 (0 - (x + 1))), (1, .int .i64 3), (4, .int .i64 0), (6, .bool true)]) (by kernel_rfl) ?_
    refine WQ.thenN ?_
    refine WE.seq ?_
    -- R3 law.go:32
    refine WE.region ?_
    refine WO.run 4 0 [(4, .int .i64 ((0 - (x + 1) : Int).tmod 3)), (12, .int .i64 ((0 - (x + 1) : Int).tmod 3)), (11, .int .i64 3), (10, .int .i64 (0 - (x + 1)))] (by kernel_rfl) (by kernel_rfl) ?_
    refine WO.done (by kernel_rfl) ?_
    refine WQ.keep [0, 1, 4, 6] (e' := [(0, .int .i64 (0 - (x + 1))), (1, .int .i64 3), (4, .int .i64 ((0 - (x + 1) : Int).tmod 3)), (6, .bool true)]) (by kernel_rfl) ?_
    refine WQ.thenN ?_
    refine WE.ret ?_
    refine WQ.ret (v := .int .i64 ((0 - (x + 1) : Int).tmod 3)) (by kernel_rfl) ?_
    exact ⟨_, rfl, HA⟩
  · intro h1
    refine WO.done (by kernel_rfl) ?_
    refine WQ.keep [0, 1, 4, 6] (e' := [(0, .int .i64 x), (1, .int .i64 3), (4, .int .i64 0), (6, .bool false)]) (by kernel_rfl) ?_
    refine WQ.thenN ?_
    refine WE.condF (by kernel_rfl) ?_
    refine WE.skip ?_
    refine WQ.thenN ?_
    refine WE.seq ?_
    -- R3 law.go:32
    refine WE.region ?_
    refine WO.run 4 0 [(4, .int .i64 ((x : Int).tmod 3)), (12, .int .i64 ((x : Int).tmod 3)), (11, .int .i64 3), (10, .int .i64 x)] (by kernel_rfl) (by kernel_rfl) ?_
    refine WO.done (by kernel_rfl) ?_
    refine WQ.keep [0, 1, 4, 6] (e' := [(0, .int .i64 x), (1, .int .i64 3), (4, .int .i64 ((x : Int).tmod 3)), (6, .bool false)]) (by kernel_rfl) ?_
    refine WQ.thenN ?_
    refine WE.ret ?_
    refine WQ.ret (v := .int .i64 ((x : Int).tmod 3)) (by kernel_rfl) ?_
    exact ⟨_, rfl, HA⟩

set_option maxRecDepth 100000 in
set_option maxHeartbeats 400000 in
theorem up_any (w : World) (HE : Errs.ErrT w) :
    Calls Tryd.prog 6 #[] w fun e w' => e = .returned (.bool true) ∧ Fr [] w w' := by
  have HA := Fr.refl [] w
  refine enter (N := 20) Tryd.func6 (c := _) rfl (by kernel_rfl) (by kernel_rfl) (e := []) (by kernel_rfl) ?_
  refine WE.seq ?_
  -- R0 law.go:18
  refine WE.region ?_
  refine WO.run 1 0 [(0, .bool false)] (by kernel_rfl) (by kernel_rfl) ?_
  refine WO.done (by kernel_rfl) ?_
  refine WQ.thenN ?_
  refine WE.seq ?_
  -- R1 law.go:19
  refine WE.region ?_
  refine WO.call (SQ.E 0 (by kernel_rfl)) 3 (by kernel_rfl) (read_any none 0 0 _) ?_
  rintro _ w1 ⟨g3, rfl, HB4, F2, le5⟩
  refine ⟨_, rfl, trivial, ?_⟩
  have ne_0_g3 : 0 ≠ g3 := Nat.ne_of_lt (Nat.lt_of_lt_of_le HE.lt le5)
  have ge_HA_g3 := Nat.le_trans HA.size le5
  have HE := HE.keep F2 (nin0 _)
  have HA := Fr.step0 HA F2
  refine WO.run 1 1 [(1, .pointer (some ⟨g3, 0, none⟩))] (by kernel_rfl) (by kernel_rfl) ?_
  refine WO.done (by kernel_rfl) ?_
  refine WQ.keep [0, 1] (e' := [(0, .bool false), (1, .pointer (some ⟨g3, 0, none⟩))]) (by kernel_rfl) ?_
  refine WQ.thenN ?_
  refine WE.seq ?_
  refine WE.seq ?_
  -- R2 law.go:20
  refine WE.region ?_
  refine WO.run 2 0 [(5, .bool false), (4, .pointer (some ⟨g3, 0, none⟩))] (by kernel_rfl) (by kernel_rfl) ?_
  refine WO.done (by kernel_rfl) ?_
  refine WQ.keep [0, 1, 5] (e' := [(0, .bool false), (1, .pointer (some ⟨g3, 0, none⟩)), (5, .bool false)]) (by kernel_rfl) ?_
  refine WQ.thenN ?_
  refine WE.condF (by kernel_rfl) ?_
  refine WE.skip ?_
  refine WQ.thenN ?_
  refine WE.seq ?_
  -- R4 law.go:23
  refine WE.region ?_
  refine WO.run 1 0 [(6, .pointer (some ⟨g3, 0, none⟩))] (by kernel_rfl) (by kernel_rfl) ?_
  refine WO.call (SQ.E 1 (by kernel_rfl)) 7 (by kernel_rfl) (rnum_any g3 ⟨0, false⟩ none 0 0 [] [] _ (VX.nil _ _) rfl (Nat.le_refl _) (by simp) (by simp) (Rd.ok HB4) (by simp [St.ok])) ?_
  rintro _ w6 ⟨rfl, HR, F7⟩
  refine ⟨_, rfl, trivial, ?_⟩
  have HE := HE.keep F7 (ninC ne_0_g3 (nin0 _))
  have HA := Fr.step HA F7 (inSR ge_HA_g3 inS0)
  have HR : Rd 54 w6 g3 (.slice none 0 0) ⟨0, true⟩ := HR
  refine WO.run 1 2 [(2, .int .u64 0)] (by kernel_rfl) (by kernel_rfl) ?_
  refine WO.done (by kernel_rfl) ?_
  refine WQ.keep [0, 1, 2, 5] (e' := [(0, .bool false), (1, .pointer (some ⟨g3, 0, none⟩)), (2, .int .u64 0), (5, .bool false)]) (by kernel_rfl) ?_
  refine WQ.thenN ?_
  refine WE.seq ?_
  -- R5 law.go:24
  refine WE.region ?_
  refine WO.call (SQ.E 0 (by kernel_rfl)) 8 (by kernel_rfl) (whole_w (-1) none 0 0 [] [] _ (VX.nil _ _) rfl (by simp) (by decide)) ?_
  rintro _ w8 ⟨b10, cap11, rfl, HR12, F9, le13⟩
  refine ⟨_, rfl, trivial, ?_⟩
  have ne_0_b10 : 0 ≠ b10 := Nat.ne_of_lt (Nat.lt_of_lt_of_le HE.lt le13)
  have ne_g3_b10 : g3 ≠ b10 := Nat.ne_of_lt (Nat.lt_of_lt_of_le HR.lt le13)
  have ge_HA_b10 := Nat.le_trans HA.size le13
  have HE := HE.keep F9 (nin0 _)
  have HR := HR.keep F9 (nin0 _)
  have HA := Fr.step0 HA F9
  refine WO.b2s (v := .slice (some ⟨b10, 0, none⟩) (([] ++ enc (zig (-1))).length) cap11) (SQ.S 1 (by kernel_rfl)) 9 byt ([] ++ enc (zig (-1))) (n := (([] ++ enc (zig (-1))).length)) (by first | rfl | (simp; done) | omega | (simp; omega)) (by kernel_rfl) (same (by have := HR12.src; rw [List.length_map, (rfl : List.length ([] ++ enc (zig (-1))) = _)] at this; exact this)) ?_
  refine WO.one (SQ.F 2 (by kernel_rfl)) 10 (.bool ((str ([] ++ enc (zig (-1)))).toList == (⟨#[1]⟩ : ByteArray).toList)) (by kernel_rfl) ?_
  refine WO.top (v' := .bool (decide ((str ([] ++ enc (zig (-1)))) = (⟨#[1]⟩ : ByteArray)))) (congrArg Value.bool (streq (str ([] ++ enc (zig (-1)))) (⟨#[1]⟩ : ByteArray))) ?_
  refine WO.topPT ((str ([] ++ enc (zig (-1)))) = (⟨#[1]⟩ : ByteArray)) (by rw [show [] ++ enc (zig (-1)) = [1] from by rw [show zig (-1) = 1 from rfl, enc_lo (by decide)]; rfl]; rfl) ?_
  refine WO.run 6 3 [(16, .pointer (some ⟨g3, 0, none⟩)), (15, .bool true), (14, .bool true), (13, .bool true), (12, .int .u64 0), (11, .bool true)] (by kernel_rfl) (by kernel_rfl) ?_
  refine WO.call (SQ.E 9 (by kernel_rfl)) 17 (by kernel_rfl) (rend_any g3 ⟨0, true⟩ none 0 0 [] _ rfl HR) ?_
  rintro _ w14 ⟨⟨hx_, _⟩ | ⟨_, g16, rfl, HB17, le18⟩, HR2, F15⟩
  · cases hx_
  refine ⟨_, rfl, trivial, ?_⟩
  have ne_b10_g16 : b10 ≠ g16 := Nat.ne_of_lt (Nat.lt_of_lt_of_le HR12.lt le18)
  have ne_0_g16 : 0 ≠ g16 := Nat.ne_of_lt (Nat.lt_of_lt_of_le HE.lt le18)
  have ne_g3_g16 : g3 ≠ g16 := Nat.ne_of_lt (Nat.lt_of_lt_of_le HR.lt le18)
  have ge_HA_g16 := Nat.le_trans HA.size le18
  have HR12 := RowB.keep HR12 F15 (ninC (Ne.symm ne_g3_b10) (nin0 _))
  have HE := HE.keep F15 (ninC ne_0_g3 (nin0 _))
  have HA := Fr.step HA F15 (inSR ge_HA_g3 inS0)
  refine WO.call (SQ.E 10 (by kernel_rfl)) 18 (by kernel_rfl) (Errs.law_is g16 (0 : Int) (0 : Int) 2 _ HB17 HE) ?_
  rintro _ w19 ⟨rfl, HB17, F20⟩
  rw [decide_eq_true rfl]
  refine ⟨_, rfl, trivial, ?_⟩
  have HR12 := RowB.keep HR12 F20 (nin0 _)
  have HE := HE.keep F20 (nin0 _)
  have HA := Fr.step0 HA F20
  refine WO.run 2 11 [(0, .bool true), (19, .bool true)] (by kernel_rfl) (by kernel_rfl) ?_
  refine WO.done (by kernel_rfl) ?_
  refine WQ.keep [0, 1, 2, 5] (e' := [(0, .bool true), (1, .pointer (some ⟨g3, 0, none⟩)), (2, .int .u64 0), (5, .bool false)]) (by kernel_rfl) ?_
  refine WQ.thenN ?_
  refine WE.ret ?_
  refine WQ.ret (v := .bool true) (by kernel_rfl) ?_
  exact ⟨rfl, HA⟩

set_option maxRecDepth 100000 in
set_option maxHeartbeats 400000 in
theorem writes_any (m : Nat) (z : Int) (s : ByteArray) (A : Option Addr) (n c : Nat) (l : List UInt8) (FB : List Nat) (w : World) (HV : VX cB 1 w FB A l) (hn : l.length = n) (hm : m < 18446744073709551616) (hz : -9223372036854775808 ≤ z ∧ z ≤ 9223372036854775807) (hsz : s.size ≤ 9223372036854775807) (HE : Errs.ErrT w) :
    Calls Tryd.prog 3 #[.slice A n c, .int .u64 (m : Int), .int .i64 z, .string s] w fun e w' => e = .returned (.bool true) ∧ Fr [] w w' := by
  have hlm := enc_len64 m hm
  have hlz := enc_len64 _ (zig_lt hz)
  have hlt : (encT (bs s)).length ≤ s.size + 20 := by unfold encT; rw [List.length_append, bs_len]; have := enc_len64 s.size (by omega); omega
  have HA := Fr.refl [] w
  refine enter (N := 77) Tryd.func3 (c := _) rfl (by kernel_rfl) (by kernel_rfl) (e := [(0, .slice A n c), (1, .int .u64 (m : Int)), (2, .int .i64 z), (3, .string s)]) (by kernel_rfl) ?_
  refine WE.seq ?_
  -- R0 law.go:36
  refine WE.region ?_
  refine WO.run 1 0 [(8, .bool false)] (by kernel_rfl) (by kernel_rfl) ?_
  refine WO.done (by kernel_rfl) ?_
  refine WQ.keep [0, 1, 2, 3, 8] (e' := [(0, .slice A n c), (1, .int .u64 (m : Int)), (2, .int .i64 z), (3, .string s), (8, .bool false)]) (by kernel_rfl) ?_
  refine WQ.thenN ?_
  refine WE.seq ?_
  -- R1 law.go:37
  refine WE.region ?_
  refine WO.call (SQ.E 0 (by kernel_rfl)) 14 (by kernel_rfl) (up_any _ HE) ?_
  rintro _ w1 ⟨rfl, F2⟩
  refine ⟨_, rfl, trivial, ?_⟩
  have HV := HV.keep F2 (fun _ _ => nin0 _)
  have HE := HE.keep F2 (nin0 _)
  have HA := Fr.step0 HA F2
  refine WO.run 1 1 [(9, .bool true)] (by kernel_rfl) (by kernel_rfl) ?_
  refine WO.done (by kernel_rfl) ?_
  refine WQ.keep [0, 1, 2, 3, 8, 9] (e' := [(0, .slice A n c), (1, .int .u64 (m : Int)), (2, .int .i64 z), (3, .string s), (8, .bool false), (9, .bool true)]) (by kernel_rfl) ?_
  refine WQ.thenN ?_
  refine WE.seq ?_
  refine WE.seq ?_
  -- R2 law.go:38
  refine WE.region ?_
  refine WO.run 2 0 [(16, .int .i64 (n : Int)), (15, .slice A n c)] (by kernel_rfl) (by kernel_rfl) ?_
  refine WO.one (SQ.F 2 (by kernel_rfl)) 17 (.bool (decide (((n : Int) : Int) > (2000 : Int)))) (by kernel_rfl) ?_
  refine WO.topP (((n : Int) : Int) > (2000 : Int)) ?_ ?_
  · intro h3
    refine WO.run 5 3 [(22, .bool true), (21, undef), (20, undef), (19, undef), (18, .bool true)] (by kernel_rfl) (by kernel_rfl) ?_
    refine WO.done (by kernel_rfl) ?_
    refine WQ.keep [0, 1, 2, 3, 8, 9, 22] (e' := [(0, .slice A n c), (1, .int .u64 (m : Int)), (2, .int .i64 z), (3, .string s), (8, .bool false), (9, .bool true), (22, .bool true)]) (by kernel_rfl) ?_
    refine WQ.thenN ?_
    refine WE.condT (by kernel_rfl) ?_
    refine WE.seq ?_
    -- R3 law.go:39
    refine WE.region ?_
    refine WO.run 2 0 [(8, .bool true), (23, .bool true)] (by kernel_rfl) (by kernel_rfl) ?_
    refine WO.done (by kernel_rfl) ?_
    refine WQ.keep [0, 1, 2, 3, 8, 9, 22] (e' := [(0, .slice A n c), (1, .int .u64 (m : Int)), (2, .int .i64 z), (3, .string s), (8, .bool true), (9, .bool true), (22, .bool true)]) (by kernel_rfl) ?_
    refine WQ.thenN ?_
    refine WE.ret ?_
    refine WQ.thenR ?_
    refine WQ.ret (v := .bool true) (by kernel_rfl) ?_
    exact ⟨rfl, HA⟩
  · intro h3
    refine WO.run 3 3 [(20, .int .i64 (s.size : Int)), (19, .string s), (18, .bool false)] (by kernel_rfl) (by kernel_rfl) ?_
    refine WO.one (SQ.F 6 (by kernel_rfl)) 21 (.bool (decide (((s.size : Int) : Int) > (2000 : Int)))) (by kernel_rfl) ?_
    refine WO.topP (((s.size : Int) : Int) > (2000 : Int)) ?_ ?_
    · intro h4
      refine WO.run 1 7 [(22, .bool true)] (by kernel_rfl) (by kernel_rfl) ?_
      refine WO.done (by kernel_rfl) ?_
      refine WQ.keep [0, 1, 2, 3, 8, 9, 22] (e' := [(0, .slice A n c), (1, .int .u64 (m : Int)), (2, .int .i64 z), (3, .string s), (8, .bool false), (9, .bool true), (22, .bool true)]) (by kernel_rfl) ?_
      refine WQ.thenN ?_
      refine WE.condT (by kernel_rfl) ?_
      refine WE.seq ?_
      -- R3 law.go:39
      refine WE.region ?_
      refine WO.run 2 0 [(8, .bool true), (23, .bool true)] (by kernel_rfl) (by kernel_rfl) ?_
      refine WO.done (by kernel_rfl) ?_
      refine WQ.keep [0, 1, 2, 3, 8, 9, 22] (e' := [(0, .slice A n c), (1, .int .u64 (m : Int)), (2, .int .i64 z), (3, .string s), (8, .bool true), (9, .bool true), (22, .bool true)]) (by kernel_rfl) ?_
      refine WQ.thenN ?_
      refine WE.ret ?_
      refine WQ.thenR ?_
      refine WQ.ret (v := .bool true) (by kernel_rfl) ?_
      exact ⟨rfl, HA⟩
    · intro h4
      refine WO.run 1 7 [(22, .bool false)] (by kernel_rfl) (by kernel_rfl) ?_
      refine WO.done (by kernel_rfl) ?_
      refine WQ.keep [0, 1, 2, 3, 8, 9, 22] (e' := [(0, .slice A n c), (1, .int .u64 (m : Int)), (2, .int .i64 z), (3, .string s), (8, .bool false), (9, .bool true), (22, .bool false)]) (by kernel_rfl) ?_
      refine WQ.thenN ?_
      refine WE.condF (by kernel_rfl) ?_
      refine WE.skip ?_
      refine WQ.thenN ?_
      refine WE.seq ?_
      -- R4 law.go:41
      refine WE.region ?_
      refine WO.bx (SQ.E 0 (by kernel_rfl)) 24 #[] 5 (fun g => .slice (some ⟨g, 0, none⟩) 0 0) (by kernel_rfl) (fun _ _ => trivial) ?_
      intro g5 w6 HB8 F7 le9 _
      have nin_g5_FB : g5 ∉ FB := new_nin HV.lt le9
      have ne_0_g5 : 0 ≠ g5 := Nat.ne_of_lt (Nat.lt_of_lt_of_le HE.lt le9)
      have ge_HA_g5 := Nat.le_trans HA.size le9
      have HV := HV.keep F7 (fun _ _ => nin0 _)
      have HE := HE.keep F7 (nin0 _)
      have HA := Fr.step0 HA F7
      refine WO.run 1 1 [(25, .slice A n c)] (by kernel_rfl) (by kernel_rfl) ?_
      have HR15 := RowB.of_blk (n := 0) HB8 (List.map cB []) rfl rfl (cB_len _) (cB_one _) (by omega)
      refine WO.appRow (SQ.E 2 (by kernel_rfl)) 26 (n := 0) (m := n) (ys := List.map cB l) et_b HR15 ((List.length_map _).trans ((rfl : List.length ([] : List UInt8) = 0))) (by rw [List.length_map] <;> first | rfl | omega | (simp <;> omega)) (HV.srcN hn (cB_len _) (cB_one _) c) (cB_len _) (cB_one _) (by kernel_rfl) (by omega) (by omega) (fun _ _ => trivial) ?_
      intro b10 cap11 w12 HR13 F14 hb16
      have nin_b10_FB : b10 ∉ FB := hb16.elim (fun h => h ▸ nin_g5_FB) (fun h => new_nin HV.lt h)
      have ne_0_b10 : 0 ≠ b10 := hb16.elim (fun h => h ▸ ne_0_g5) (fun h => Nat.ne_of_lt (Nat.lt_of_lt_of_le HE.lt h))
      have in_HA_b10 : b10 ∈ [] ∨ (World.heap w).size ≤ b10 := hb16.elim (fun h => Or.inr (h ▸ ge_HA_g5)) (fun h => Or.inr (Nat.le_trans HA.size h))
      have HV := HV.keep F14 (djB nin_g5_FB)
      have HE := HE.keep F14 (ninC ne_0_g5 (nin0 _))
      have HA := Fr.step HA F14 (inSR ge_HA_g5 inS0)
      have HR13 : RowB w12 b10 5 1 cap11 ((([] : List UInt8) ++ l).map cB) := by rw [List.map_append]; exact HR13
      refine WO.run 1 3 [(10, .slice (some ⟨b10, 0, none⟩) (0 + n) cap11)] (by kernel_rfl) (by kernel_rfl) ?_
      refine WO.done (by kernel_rfl) ?_
      refine WQ.keep [0, 1, 2, 3, 8, 9, 10, 22] (e' := [(0, .slice A n c), (1, .int .u64 (m : Int)), (2, .int .i64 z), (3, .string s), (8, .bool false), (9, .bool true), (10, .slice (some ⟨b10, 0, none⟩) (0 + n) cap11), (22, .bool false)]) (by kernel_rfl) ?_
      refine WQ.thenN ?_
      refine WE.seq ?_
      -- R5 law.go:42
      refine WE.region ?_
      refine WO.run 2 0 [(28, .int .u64 (m : Int)), (27, .slice (some ⟨b10, 0, none⟩) (0 + n) cap11)] (by kernel_rfl) (by kernel_rfl) ?_
      refine WO.call (SQ.E 2 (by kernel_rfl)) 29 (by kernel_rfl) (num_w m (some ⟨b10, 0, none⟩) (0 + n) cap11 (([] : List UInt8) ++ l) [b10] _ (VX.of_row HR13) (by simp [hn]) (by simp only [List.length_append, List.length_nil]; omega) hm) ?_
      rintro _ w17 ⟨b19, cap20, rfl, HR21, F18, le22⟩
      refine ⟨_, rfl, trivial, ?_⟩
      have ne_b10_b19 : b10 ≠ b19 := Nat.ne_of_lt (Nat.lt_of_lt_of_le HR13.lt le22)
      have nin_b19_FB : b19 ∉ FB := new_nin HV.lt le22
      have ne_0_b19 : 0 ≠ b19 := Nat.ne_of_lt (Nat.lt_of_lt_of_le HE.lt le22)
      have ge_HA_b19 := Nat.le_trans HA.size le22
      have HR13 := RowB.keep HR13 F18 (nin0 _)
      have HV := HV.keep F18 (fun _ _ => nin0 _)
      have HE := HE.keep F18 (nin0 _)
      have HA := Fr.step0 HA F18
      refine WO.run 1 3 [(11, .slice (some ⟨b19, 0, none⟩) (((([] : List UInt8) ++ l) ++ enc m).length) cap20)] (by kernel_rfl) (by kernel_rfl) ?_
      refine WO.done (by kernel_rfl) ?_
      refine WQ.keep [0, 1, 2, 3, 8, 9, 10, 11, 22] (e' := [(0, .slice A n c), (1, .int .u64 (m : Int)), (2, .int .i64 z), (3, .string s), (8, .bool false), (9, .bool true), (10, .slice (some ⟨b10, 0, none⟩) (0 + n) cap11), (11, .slice (some ⟨b19, 0, none⟩) (((([] : List UInt8) ++ l) ++ enc m).length) cap20), (22, .bool false)]) (by kernel_rfl) ?_
      refine WQ.thenN ?_
      refine WE.seq ?_
      -- R6 law.go:43
      refine WE.region ?_
      refine WO.run 2 0 [(31, .int .i64 z), (30, .slice (some ⟨b10, 0, none⟩) (0 + n) cap11)] (by kernel_rfl) (by kernel_rfl) ?_
      refine WO.call (SQ.E 2 (by kernel_rfl)) 32 (by kernel_rfl) (whole_w z (some ⟨b10, 0, none⟩) (0 + n) cap11 (([] : List UInt8) ++ l) [b10] _ (VX.of_row HR13) (by simp [hn]) (by simp only [List.length_append, List.length_nil]; omega) hz) ?_
      rintro _ w23 ⟨b25, cap26, rfl, HR27, F24, le28⟩
      refine ⟨_, rfl, trivial, ?_⟩
      have ne_b10_b25 : b10 ≠ b25 := Nat.ne_of_lt (Nat.lt_of_lt_of_le HR13.lt le28)
      have ne_b19_b25 : b19 ≠ b25 := Nat.ne_of_lt (Nat.lt_of_lt_of_le HR21.lt le28)
      have nin_b25_FB : b25 ∉ FB := new_nin HV.lt le28
      have ne_0_b25 : 0 ≠ b25 := Nat.ne_of_lt (Nat.lt_of_lt_of_le HE.lt le28)
      have ge_HA_b25 := Nat.le_trans HA.size le28
      have HR13 := RowB.keep HR13 F24 (nin0 _)
      have HR21 := RowB.keep HR21 F24 (nin0 _)
      have HV := HV.keep F24 (fun _ _ => nin0 _)
      have HE := HE.keep F24 (nin0 _)
      have HA := Fr.step0 HA F24
      refine WO.run 1 3 [(12, .slice (some ⟨b25, 0, none⟩) (((([] : List UInt8) ++ l) ++ enc (zig z)).length) cap26)] (by kernel_rfl) (by kernel_rfl) ?_
      refine WO.done (by kernel_rfl) ?_
      refine WQ.keep [0, 1, 2, 3, 8, 9, 10, 11, 12, 22] (e' := [(0, .slice A n c), (1, .int .u64 (m : Int)), (2, .int .i64 z), (3, .string s), (8, .bool false), (9, .bool true), (10, .slice (some ⟨b10, 0, none⟩) (0 + n) cap11), (11, .slice (some ⟨b19, 0, none⟩) (((([] : List UInt8) ++ l) ++ enc m).length) cap20), (12, .slice (some ⟨b25, 0, none⟩) (((([] : List UInt8) ++ l) ++ enc (zig z)).length) cap26), (22, .bool false)]) (by kernel_rfl) ?_
      refine WQ.thenN ?_
      refine WE.seq ?_
      -- R7 law.go:44
      refine WE.region ?_
      refine WO.run 2 0 [(34, .string s), (33, .slice (some ⟨b10, 0, none⟩) (0 + n) cap11)] (by kernel_rfl) (by kernel_rfl) ?_
      refine WO.call (SQ.E 2 (by kernel_rfl)) 35 (by kernel_rfl) (text_w s (some ⟨b10, 0, none⟩) (0 + n) cap11 (([] : List UInt8) ++ l) [b10] _ (VX.of_row HR13) (by simp [hn]) (by simp only [List.length_append, List.length_nil]; omega) (by omega)) ?_
      rintro _ w29 ⟨b31, cap32, rfl, HR33, F30, le34⟩
      refine ⟨_, rfl, trivial, ?_⟩
      have ne_b10_b31 : b10 ≠ b31 := Nat.ne_of_lt (Nat.lt_of_lt_of_le HR13.lt le34)
      have ne_b19_b31 : b19 ≠ b31 := Nat.ne_of_lt (Nat.lt_of_lt_of_le HR21.lt le34)
      have ne_b25_b31 : b25 ≠ b31 := Nat.ne_of_lt (Nat.lt_of_lt_of_le HR27.lt le34)
      have nin_b31_FB : b31 ∉ FB := new_nin HV.lt le34
      have ne_0_b31 : 0 ≠ b31 := Nat.ne_of_lt (Nat.lt_of_lt_of_le HE.lt le34)
      have ge_HA_b31 := Nat.le_trans HA.size le34
      have HR13 := RowB.keep HR13 F30 (nin0 _)
      have HR21 := RowB.keep HR21 F30 (nin0 _)
      have HR27 := RowB.keep HR27 F30 (nin0 _)
      have HV := HV.keep F30 (fun _ _ => nin0 _)
      have HE := HE.keep F30 (nin0 _)
      have HA := Fr.step0 HA F30
      refine WO.run 1 3 [(13, .slice (some ⟨b31, 0, none⟩) (((([] : List UInt8) ++ l) ++ encT (bs s)).length) cap32)] (by kernel_rfl) (by kernel_rfl) ?_
      refine WO.done (by kernel_rfl) ?_
      refine WQ.keep [0, 1, 2, 3, 8, 9, 10, 11, 12, 13, 22] (e' := [(0, .slice A n c), (1, .int .u64 (m : Int)), (2, .int .i64 z), (3, .string s), (8, .bool false), (9, .bool true), (10, .slice (some ⟨b10, 0, none⟩) (0 + n) cap11), (11, .slice (some ⟨b19, 0, none⟩) (((([] : List UInt8) ++ l) ++ enc m).length) cap20), (12, .slice (some ⟨b25, 0, none⟩) (((([] : List UInt8) ++ l) ++ enc (zig z)).length) cap26), (13, .slice (some ⟨b31, 0, none⟩) (((([] : List UInt8) ++ l) ++ encT (bs s)).length) cap32), (22, .bool false)]) (by kernel_rfl) ?_
      refine WQ.thenN ?_
      refine WE.seq ?_
      have hz35 : (World.heap w29).size ≤ (World.heap w29).size := Nat.le_refl _
      have ltz_b10 := HR13.lt
      have ltz_b19 := HR21.lt
      have ltz_b25 := HR27.lt
      have ltz_b31 := HR33.lt
      have ltz_FB := HV.lt
      -- R8* law.go:45
      refine WE.draw [.free, .free, .free, .still, .free, .still, .free, .free, .free, .free, .still, .free, .still, .free, .effR, .effR, .free, .free, .free, .free, .free, .still, .free, .still, .free, .effR, .effR, .free, .free, .free, .free, .free, .still, .free, .still, .free, .effR, .effR, .free, .free, .free, .free] (FrB (World.heap w29).size) (frBR _) (by kernel_rfl) 42 (Array.replicate 42 false) (by kernel_rfl) rfl ?_
      intro w36 F37 _
      have HR13 := RowB.keep HR13 F37 (nin0 _)
      have HR21 := RowB.keep HR21 F37 (nin0 _)
      have HR27 := RowB.keep HR27 F37 (nin0 _)
      have HR33 := RowB.keep HR33 F37 (nin0 _)
      have HV := HV.keep F37 (fun _ _ => nin0 _)
      have HE := HE.keep F37 (nin0 _)
      have hz35 := Nat.le_trans hz35 F37.size
      have HA := Fr.step0 HA F37
      refine WO.one (SA.F (frBR _) (frBT _) _ 0 _ (by kernel_rfl)) 36 (.bool true) (by kernel_rfl) ?_
      refine WO.one (SA.F (frBR _) (frBT _) _ 1 _ (by kernel_rfl)) 37 (.bool true) (by kernel_rfl) ?_
      refine WO.one (SA.F (frBR _) (frBT _) _ 2 _ (by kernel_rfl)) 38 (.slice (some ⟨b10, 0, none⟩) (0 + n) cap11) (by kernel_rfl) ?_
      refine WO.b2s (v := .slice (some ⟨b10, 0, none⟩) (0 + n) cap11) (SA.S (frBR _) (frBT _) _ 3 _ (by kernel_rfl)) 39 byt (([] : List UInt8) ++ l) (n := (0 + n)) (by first | rfl | (simp; done) | omega | (simp; omega)) (by kernel_rfl) (fun _ k_ => (by have := (HR13.keepB k_ ltz_b10).src; rw [List.length_map, (show (([] : List UInt8) ++ l).length = 0 + n by rw [List.length_append, (rfl : List.length ([] : List UInt8) = 0)]; first | rfl | (have := (rfl : List.length ([] : List UInt8) = 0); simp; omega))] at this; exact this)) ?_
      refine WO.one (SA.F (frBR _) (frBT _) _ 4 _ (by kernel_rfl)) 40 (.slice A n c) (by kernel_rfl) ?_
      refine WO.b2s (v := .slice A n c) (SA.S (frBR _) (frBT _) _ 5 _ (by kernel_rfl)) 41 byt l (n := n) hn (by kernel_rfl) (fun _ k_ => ((HV.keepB k_ ltz_FB).srcN hn (cB_len _) (cB_one _) c)) ?_
      refine WO.one (SA.F (frBR _) (frBT _) _ 6 _ (by kernel_rfl)) 42 (.bool ((str (([] : List UInt8) ++ l)).toList == (str l).toList)) (by kernel_rfl) ?_
      refine WO.top (v' := .bool (decide ((str (([] : List UInt8) ++ l)) = (str l)))) (congrArg Value.bool (streq (str (([] : List UInt8) ++ l)) (str l))) ?_
      refine WO.topPT ((str (([] : List UInt8) ++ l)) = (str l)) (by simp [List.append_assoc]) ?_
      refine WO.one (SA.F (frBR _) (frBT _) _ 7 _ (by kernel_rfl)) 43 (.bool true) (by kernel_rfl) ?_
      refine WO.one (SA.F (frBR _) (frBT _) _ 8 _ (by kernel_rfl)) 44 (.bool true) (by kernel_rfl) ?_
      refine WO.one (SA.F (frBR _) (frBT _) _ 9 _ (by kernel_rfl)) 45 (.slice (some ⟨b19, 0, none⟩) (((([] : List UInt8) ++ l) ++ enc m).length) cap20) (by kernel_rfl) ?_
      refine WO.b2s (v := .slice (some ⟨b19, 0, none⟩) (((([] : List UInt8) ++ l) ++ enc m).length) cap20) (SA.S (frBR _) (frBT _) _ 10 _ (by kernel_rfl)) 46 byt ((([] : List UInt8) ++ l) ++ enc m) (n := (((([] : List UInt8) ++ l) ++ enc m).length)) (by first | rfl | (simp; done) | omega | (simp; omega)) (by kernel_rfl) (fun _ k_ => (by have := (HR21.keepB k_ ltz_b19).src; rw [List.length_map, (rfl : List.length ((([] : List UInt8) ++ l) ++ enc m) = _)] at this; exact this)) ?_
      refine WO.one (SA.F (frBR _) (frBT _) _ 11 _ (by kernel_rfl)) 47 (.slice A n c) (by kernel_rfl) ?_
      refine WO.b2s (v := .slice A n c) (SA.S (frBR _) (frBT _) _ 12 _ (by kernel_rfl)) 48 byt l (n := n) hn (by kernel_rfl) (fun _ k_ => ((HV.keepB k_ ltz_FB).srcN hn (cB_len _) (cB_one _) c)) ?_
      refine WO.one (SA.F (frBR _) (frBT _) _ 13 _ (by kernel_rfl)) 49 (.int .u64 (m : Int)) (by kernel_rfl) ?_
      refine WO.call (SA.ER _ 14 _ (by kernel_rfl) rfl) 50 (by kernel_rfl) (num_m m _ hm) ?_
      rintro _ w38 ⟨b40, cap41, rfl, HR42, F39, le43⟩
      refine ⟨_, rfl, (frB_of hz35 (by simp)) _ F39, ?_⟩
      have ne_b10_b40 : b10 ≠ b40 := Nat.ne_of_lt (Nat.lt_of_lt_of_le HR13.lt le43)
      have ne_b19_b40 : b19 ≠ b40 := Nat.ne_of_lt (Nat.lt_of_lt_of_le HR21.lt le43)
      have ne_b25_b40 : b25 ≠ b40 := Nat.ne_of_lt (Nat.lt_of_lt_of_le HR27.lt le43)
      have ne_b31_b40 : b31 ≠ b40 := Nat.ne_of_lt (Nat.lt_of_lt_of_le HR33.lt le43)
      have nin_b40_FB : b40 ∉ FB := new_nin HV.lt le43
      have ne_0_b40 : 0 ≠ b40 := Nat.ne_of_lt (Nat.lt_of_lt_of_le HE.lt le43)
      have ge_HA_b40 := Nat.le_trans HA.size le43
      have gz_hz35_b40 := Nat.le_trans hz35 le43
      have HR13 := RowB.keep HR13 F39 (nin0 _)
      have HR21 := RowB.keep HR21 F39 (nin0 _)
      have HR27 := RowB.keep HR27 F39 (nin0 _)
      have HR33 := RowB.keep HR33 F39 (nin0 _)
      have HV := HV.keep F39 (fun _ _ => nin0 _)
      have HE := HE.keep F39 (nin0 _)
      have hz35 := Nat.le_trans hz35 F39.size
      have HA := Fr.step0 HA F39
      refine WO.b2sE (v := .slice (some ⟨b40, 0, none⟩) ((enc m).length) cap41) (SA.ER _ 15 _ (by kernel_rfl) rfl) 51 byt (enc m) (n := ((enc m).length)) (by first | rfl | (simp; done) | omega | (simp; omega)) (by kernel_rfl) (by have := HR42.src; rw [List.length_map, (rfl : List.length (enc m) = _)] at this; exact this) (frB_of hz35 (by simp)) ?_
      refine WO.cat (SA.F (frBR _) (frBT _) _ 16 _ (by kernel_rfl)) 52 (str l) (str (enc m)) (by kernel_rfl) (by rw [str_size, str_size]; first | omega | (simp only [List.length_append]; omega)) ?_
      refine WO.top (v' := .string (str (l ++ (enc m)))) (congrArg Value.string (str_app _ _)) ?_
      refine WO.one (SA.F (frBR _) (frBT _) _ 17 _ (by kernel_rfl)) 53 (.bool ((str ((([] : List UInt8) ++ l) ++ enc m)).toList == (str (l ++ (enc m))).toList)) (by kernel_rfl) ?_
      refine WO.top (v' := .bool (decide ((str ((([] : List UInt8) ++ l) ++ enc m)) = (str (l ++ (enc m)))))) (congrArg Value.bool (streq (str ((([] : List UInt8) ++ l) ++ enc m)) (str (l ++ (enc m))))) ?_
      refine WO.topPT ((str ((([] : List UInt8) ++ l) ++ enc m)) = (str (l ++ (enc m)))) (by simp [List.append_assoc]) ?_
      refine WO.one (SA.F (frBR _) (frBT _) _ 18 _ (by kernel_rfl)) 54 (.bool true) (by kernel_rfl) ?_
      refine WO.one (SA.F (frBR _) (frBT _) _ 19 _ (by kernel_rfl)) 55 (.bool true) (by kernel_rfl) ?_
      refine WO.one (SA.F (frBR _) (frBT _) _ 20 _ (by kernel_rfl)) 56 (.slice (some ⟨b25, 0, none⟩) (((([] : List UInt8) ++ l) ++ enc (zig z)).length) cap26) (by kernel_rfl) ?_
      refine WO.b2s (v := .slice (some ⟨b25, 0, none⟩) (((([] : List UInt8) ++ l) ++ enc (zig z)).length) cap26) (SA.S (frBR _) (frBT _) _ 21 _ (by kernel_rfl)) 57 byt ((([] : List UInt8) ++ l) ++ enc (zig z)) (n := (((([] : List UInt8) ++ l) ++ enc (zig z)).length)) (by first | rfl | (simp; done) | omega | (simp; omega)) (by kernel_rfl) (fun _ k_ => (by have := (HR27.keepB k_ ltz_b25).src; rw [List.length_map, (rfl : List.length ((([] : List UInt8) ++ l) ++ enc (zig z)) = _)] at this; exact this)) ?_
      refine WO.one (SA.F (frBR _) (frBT _) _ 22 _ (by kernel_rfl)) 58 (.slice A n c) (by kernel_rfl) ?_
      refine WO.b2s (v := .slice A n c) (SA.S (frBR _) (frBT _) _ 23 _ (by kernel_rfl)) 59 byt l (n := n) hn (by kernel_rfl) (fun _ k_ => ((HV.keepB k_ ltz_FB).srcN hn (cB_len _) (cB_one _) c)) ?_
      refine WO.one (SA.F (frBR _) (frBT _) _ 24 _ (by kernel_rfl)) 60 (.int .i64 z) (by kernel_rfl) ?_
      refine WO.call (SA.ER _ 25 _ (by kernel_rfl) rfl) 61 (by kernel_rfl) (whole_m z _ hz) ?_
      rintro _ w44 ⟨b46, cap47, rfl, HR48, F45, le49⟩
      refine ⟨_, rfl, (frB_of hz35 (by simp)) _ F45, ?_⟩
      have ne_b10_b46 : b10 ≠ b46 := Nat.ne_of_lt (Nat.lt_of_lt_of_le HR13.lt le49)
      have ne_b19_b46 : b19 ≠ b46 := Nat.ne_of_lt (Nat.lt_of_lt_of_le HR21.lt le49)
      have ne_b25_b46 : b25 ≠ b46 := Nat.ne_of_lt (Nat.lt_of_lt_of_le HR27.lt le49)
      have ne_b31_b46 : b31 ≠ b46 := Nat.ne_of_lt (Nat.lt_of_lt_of_le HR33.lt le49)
      have ne_b40_b46 : b40 ≠ b46 := Nat.ne_of_lt (Nat.lt_of_lt_of_le HR42.lt le49)
      have nin_b46_FB : b46 ∉ FB := new_nin HV.lt le49
      have ne_0_b46 : 0 ≠ b46 := Nat.ne_of_lt (Nat.lt_of_lt_of_le HE.lt le49)
      have ge_HA_b46 := Nat.le_trans HA.size le49
      have gz_hz35_b46 := Nat.le_trans hz35 le49
      have HR13 := RowB.keep HR13 F45 (nin0 _)
      have HR21 := RowB.keep HR21 F45 (nin0 _)
      have HR27 := RowB.keep HR27 F45 (nin0 _)
      have HR33 := RowB.keep HR33 F45 (nin0 _)
      have HR42 := RowB.keep HR42 F45 (nin0 _)
      have HV := HV.keep F45 (fun _ _ => nin0 _)
      have HE := HE.keep F45 (nin0 _)
      have hz35 := Nat.le_trans hz35 F45.size
      have HA := Fr.step0 HA F45
      refine WO.b2sE (v := .slice (some ⟨b46, 0, none⟩) ((enc (zig z)).length) cap47) (SA.ER _ 26 _ (by kernel_rfl) rfl) 62 byt (enc (zig z)) (n := ((enc (zig z)).length)) (by first | rfl | (simp; done) | omega | (simp; omega)) (by kernel_rfl) (by have := HR48.src; rw [List.length_map, (rfl : List.length (enc (zig z)) = _)] at this; exact this) (frB_of hz35 (by simp)) ?_
      refine WO.cat (SA.F (frBR _) (frBT _) _ 27 _ (by kernel_rfl)) 63 (str l) (str (enc (zig z))) (by kernel_rfl) (by rw [str_size, str_size]; first | omega | (simp only [List.length_append]; omega)) ?_
      refine WO.top (v' := .string (str (l ++ (enc (zig z))))) (congrArg Value.string (str_app _ _)) ?_
      refine WO.one (SA.F (frBR _) (frBT _) _ 28 _ (by kernel_rfl)) 64 (.bool ((str ((([] : List UInt8) ++ l) ++ enc (zig z))).toList == (str (l ++ (enc (zig z)))).toList)) (by kernel_rfl) ?_
      refine WO.top (v' := .bool (decide ((str ((([] : List UInt8) ++ l) ++ enc (zig z))) = (str (l ++ (enc (zig z))))))) (congrArg Value.bool (streq (str ((([] : List UInt8) ++ l) ++ enc (zig z))) (str (l ++ (enc (zig z)))))) ?_
      refine WO.topPT ((str ((([] : List UInt8) ++ l) ++ enc (zig z))) = (str (l ++ (enc (zig z))))) (by simp [List.append_assoc]) ?_
      refine WO.one (SA.F (frBR _) (frBT _) _ 29 _ (by kernel_rfl)) 65 (.bool true) (by kernel_rfl) ?_
      refine WO.one (SA.F (frBR _) (frBT _) _ 30 _ (by kernel_rfl)) 66 (.bool true) (by kernel_rfl) ?_
      refine WO.one (SA.F (frBR _) (frBT _) _ 31 _ (by kernel_rfl)) 67 (.slice (some ⟨b31, 0, none⟩) (((([] : List UInt8) ++ l) ++ encT (bs s)).length) cap32) (by kernel_rfl) ?_
      refine WO.b2s (v := .slice (some ⟨b31, 0, none⟩) (((([] : List UInt8) ++ l) ++ encT (bs s)).length) cap32) (SA.S (frBR _) (frBT _) _ 32 _ (by kernel_rfl)) 68 byt ((([] : List UInt8) ++ l) ++ encT (bs s)) (n := (((([] : List UInt8) ++ l) ++ encT (bs s)).length)) (by first | rfl | (simp; done) | omega | (simp; omega)) (by kernel_rfl) (fun _ k_ => (by have := (HR33.keepB k_ ltz_b31).src; rw [List.length_map, (rfl : List.length ((([] : List UInt8) ++ l) ++ encT (bs s)) = _)] at this; exact this)) ?_
      refine WO.one (SA.F (frBR _) (frBT _) _ 33 _ (by kernel_rfl)) 69 (.slice A n c) (by kernel_rfl) ?_
      refine WO.b2s (v := .slice A n c) (SA.S (frBR _) (frBT _) _ 34 _ (by kernel_rfl)) 70 byt l (n := n) hn (by kernel_rfl) (fun _ k_ => ((HV.keepB k_ ltz_FB).srcN hn (cB_len _) (cB_one _) c)) ?_
      refine WO.one (SA.F (frBR _) (frBT _) _ 35 _ (by kernel_rfl)) 71 (.string s) (by kernel_rfl) ?_
      refine WO.call (SA.ER _ 36 _ (by kernel_rfl) rfl) 72 (by kernel_rfl) (text_m s _ (by omega)) ?_
      rintro _ w50 ⟨b52, cap53, rfl, HR54, F51, le55⟩
      refine ⟨_, rfl, (frB_of hz35 (by simp)) _ F51, ?_⟩
      have ne_b10_b52 : b10 ≠ b52 := Nat.ne_of_lt (Nat.lt_of_lt_of_le HR13.lt le55)
      have ne_b19_b52 : b19 ≠ b52 := Nat.ne_of_lt (Nat.lt_of_lt_of_le HR21.lt le55)
      have ne_b25_b52 : b25 ≠ b52 := Nat.ne_of_lt (Nat.lt_of_lt_of_le HR27.lt le55)
      have ne_b31_b52 : b31 ≠ b52 := Nat.ne_of_lt (Nat.lt_of_lt_of_le HR33.lt le55)
      have ne_b40_b52 : b40 ≠ b52 := Nat.ne_of_lt (Nat.lt_of_lt_of_le HR42.lt le55)
      have ne_b46_b52 : b46 ≠ b52 := Nat.ne_of_lt (Nat.lt_of_lt_of_le HR48.lt le55)
      have nin_b52_FB : b52 ∉ FB := new_nin HV.lt le55
      have ne_0_b52 : 0 ≠ b52 := Nat.ne_of_lt (Nat.lt_of_lt_of_le HE.lt le55)
      have ge_HA_b52 := Nat.le_trans HA.size le55
      have gz_hz35_b52 := Nat.le_trans hz35 le55
      have HR13 := RowB.keep HR13 F51 (nin0 _)
      have HR21 := RowB.keep HR21 F51 (nin0 _)
      have HR27 := RowB.keep HR27 F51 (nin0 _)
      have HR33 := RowB.keep HR33 F51 (nin0 _)
      have HR42 := RowB.keep HR42 F51 (nin0 _)
      have HR48 := RowB.keep HR48 F51 (nin0 _)
      have HV := HV.keep F51 (fun _ _ => nin0 _)
      have HE := HE.keep F51 (nin0 _)
      have hz35 := Nat.le_trans hz35 F51.size
      have HA := Fr.step0 HA F51
      refine WO.b2sE (v := .slice (some ⟨b52, 0, none⟩) ((encT (bs s)).length) cap53) (SA.ER _ 37 _ (by kernel_rfl) rfl) 73 byt (encT (bs s)) (n := ((encT (bs s)).length)) (by first | rfl | (simp; done) | omega | (simp; omega)) (by kernel_rfl) (by have := HR54.src; rw [List.length_map, (rfl : List.length (encT (bs s)) = _)] at this; exact this) (frB_of hz35 (by simp)) ?_
      refine WO.cat (SA.F (frBR _) (frBT _) _ 38 _ (by kernel_rfl)) 74 (str l) (str (encT (bs s))) (by kernel_rfl) (by rw [str_size, str_size]; first | omega | (simp only [List.length_append]; omega)) ?_
      refine WO.top (v' := .string (str (l ++ (encT (bs s))))) (congrArg Value.string (str_app _ _)) ?_
      refine WO.one (SA.F (frBR _) (frBT _) _ 39 _ (by kernel_rfl)) 75 (.bool ((str ((([] : List UInt8) ++ l) ++ encT (bs s))).toList == (str (l ++ (encT (bs s)))).toList)) (by kernel_rfl) ?_
      refine WO.top (v' := .bool (decide ((str ((([] : List UInt8) ++ l) ++ encT (bs s))) = (str (l ++ (encT (bs s))))))) (congrArg Value.bool (streq (str ((([] : List UInt8) ++ l) ++ encT (bs s))) (str (l ++ (encT (bs s)))))) ?_
      refine WO.one (SA.F (frBR _) (frBT _) _ 40 _ (by kernel_rfl)) 76 (.bool (decide ((str ((([] : List UInt8) ++ l) ++ encT (bs s))) = (str (l ++ (encT (bs s))))))) (by kernel_rfl) ?_
      refine WO.one (SA.F (frBR _) (frBT _) _ 41 _ (by kernel_rfl)) 8 (.bool (decide ((str ((([] : List UInt8) ++ l) ++ encT (bs s))) = (str (l ++ (encT (bs s))))))) (by kernel_rfl) ?_
      refine WO.doneA (by kernel_rfl) ?_
      refine WQ.keep [0, 1, 2, 3, 8, 9, 10, 11, 12, 13, 22] (e' := [(0, .slice A n c), (1, .int .u64 (m : Int)), (2, .int .i64 z), (3, .string s), (8, .bool (decide ((str ((([] : List UInt8) ++ l) ++ encT (bs s))) = (str (l ++ (encT (bs s))))))), (9, .bool true), (10, .slice (some ⟨b10, 0, none⟩) (0 + n) cap11), (11, .slice (some ⟨b19, 0, none⟩) (((([] : List UInt8) ++ l) ++ enc m).length) cap20), (12, .slice (some ⟨b25, 0, none⟩) (((([] : List UInt8) ++ l) ++ enc (zig z)).length) cap26), (13, .slice (some ⟨b31, 0, none⟩) (((([] : List UInt8) ++ l) ++ encT (bs s)).length) cap32), (22, .bool false)]) (by kernel_rfl) ?_
      refine WQ.thenN ?_
      refine WE.ret ?_
      refine WQ.ret (v := .bool (decide ((str ((([] : List UInt8) ++ l) ++ encT (bs s))) = (str (l ++ (encT (bs s))))))) (by kernel_rfl) ?_
      exact ⟨by rw [decide_eq_true (by simp [List.append_assoc])], HA⟩


/-! ### asks -/
def cK (x : Int × Int) : List Value := [.int .i64 x.1, .int .i64 x.2]
def gK (q : List (Int × Int)) (i : Nat) : Int × Int := q.getD i (0, 0)
theorem gK_some (q : List (Int × Int)) (i : Nat) (h : i < q.length) : q[i]? = some (gK q i) := by
  unfold gK
  rw [List.getD_eq_getElem?_getD, List.getElem?_eq_getElem h]
  rfl
theorem gK_mem (q : List (Int × Int)) (i : Nat) (h : i < q.length) : gK q i ∈ q := List.mem_of_getElem? (gK_some q i h)
theorem cK_len (l : List (Int × Int)) : ∀ x ∈ l.map cK, x.length = 2 := by
  intro x hx
  obtain ⟨b, _, rfl⟩ := List.mem_map.1 hx
  rfl
theorem cK_one (l : List (Int × Int)) : ∀ x ∈ l.map cK, x.all oneB = true := by
  intro x hx
  obtain ⟨b, _, rfl⟩ := List.mem_map.1 hx
  rfl
theorem rWhole_ok {l : List UInt8} {s : St} (h : s.ok l) : (rWhole l s).2.ok l := rNum_ok h
theorem rEnd_idem {l : List UInt8} {s : St} (h : (rEnd l s).bad = true) : rEnd l (rEnd l s) = rEnd l s := by
  have : ∀ t : St, t.bad = true → rEnd l t = t := fun t ht => by
    obtain ⟨p, b⟩ := t
    simp only at ht
    subst ht
    exact rEnd_bad l p
  exact this _ h

set_option maxRecDepth 100000 in
set_option maxHeartbeats 400000 in
theorem reads_any (A : Option Addr) (n c : Nat) (l : List UInt8) (FB : List Nat) (AK : Option Addr) (nk ck : Nat) (qk : List (Int × Int)) (FK : List Nat) (w : World) (HV : VX cB 1 w FB A l) (hn : l.length = n) (hc : n ≤ c) (HK : VX cK 2 w FK AK qk) (hnk : qk.length = nk) (hk : ∀ x ∈ qk, (-9223372036854775808 ≤ x.1 ∧ x.1 ≤ 9223372036854775807) ∧ (-9223372036854775808 ≤ x.2 ∧ x.2 ≤ 9223372036854775807)) (HE : Errs.ErrT w) :
    Calls Tryd.prog 4 #[.slice A n c, .slice AK nk ck] w fun e w' => e = .returned (.bool true) ∧ Fr [] w w' := by
  have ltz_FB := HV.lt
  have ltz_FK := HK.lt
  have HA := Fr.refl [] w
  refine enter (N := 92) Tryd.func4 (c := _) rfl (by kernel_rfl) (by kernel_rfl) (e := [(0, .slice A n c), (1, .slice AK nk ck)]) (by kernel_rfl) ?_
  refine WE.seq ?_
  -- R0 law.go:49
  refine WE.region ?_
  refine WO.run 1 0 [(4, .bool false)] (by kernel_rfl) (by kernel_rfl) ?_
  refine WO.done (by kernel_rfl) ?_
  refine WQ.keep [0, 1, 4] (e' := [(0, .slice A n c), (1, .slice AK nk ck), (4, .bool false)]) (by kernel_rfl) ?_
  refine WQ.thenN ?_
  refine WE.seq ?_
  -- R1 law.go:50
  refine WE.region ?_
  refine WO.call (SQ.E 0 (by kernel_rfl)) 11 (by kernel_rfl) (up_any _ HE) ?_
  rintro _ w1 ⟨rfl, F2⟩
  refine ⟨_, rfl, trivial, ?_⟩
  have HV := HV.keep F2 (fun _ _ => nin0 _)
  have HK := HK.keep F2 (fun _ _ => nin0 _)
  have HE := HE.keep F2 (nin0 _)
  have HA := Fr.step0 HA F2
  refine WO.run 1 1 [(5, .bool true)] (by kernel_rfl) (by kernel_rfl) ?_
  refine WO.done (by kernel_rfl) ?_
  refine WQ.keep [0, 1, 4, 5] (e' := [(0, .slice A n c), (1, .slice AK nk ck), (4, .bool false), (5, .bool true)]) (by kernel_rfl) ?_
  refine WQ.thenN ?_
  refine WE.seq ?_
  refine WE.seq ?_
  -- R2 law.go:51
  refine WE.region ?_
  refine WO.run 2 0 [(13, .int .i64 (n : Int)), (12, .slice A n c)] (by kernel_rfl) (by kernel_rfl) ?_
  refine WO.one (SQ.F 2 (by kernel_rfl)) 14 (.bool (decide (((n : Int) : Int) > (3000 : Int)))) (by kernel_rfl) ?_
  refine WO.topP (((n : Int) : Int) > (3000 : Int)) ?_ ?_
  · intro h3
    refine WO.run 5 3 [(19, .bool true), (18, undef), (17, undef), (16, undef), (15, .bool true)] (by kernel_rfl) (by kernel_rfl) ?_
    refine WO.done (by kernel_rfl) ?_
    refine WQ.keep [0, 1, 4, 5, 19] (e' := [(0, .slice A n c), (1, .slice AK nk ck), (4, .bool false), (5, .bool true), (19, .bool true)]) (by kernel_rfl) ?_
    refine WQ.thenN ?_
    refine WE.condT (by kernel_rfl) ?_
    refine WE.seq ?_
    -- R3 law.go:52
    refine WE.region ?_
    refine WO.run 2 0 [(4, .bool true), (20, .bool true)] (by kernel_rfl) (by kernel_rfl) ?_
    refine WO.done (by kernel_rfl) ?_
    refine WQ.keep [0, 1, 4, 5, 19] (e' := [(0, .slice A n c), (1, .slice AK nk ck), (4, .bool true), (5, .bool true), (19, .bool true)]) (by kernel_rfl) ?_
    refine WQ.thenN ?_
    refine WE.ret ?_
    refine WQ.thenR ?_
    refine WQ.ret (v := .bool true) (by kernel_rfl) ?_
    exact ⟨rfl, HA⟩
  · intro h3
    refine WO.run 3 3 [(17, .int .i64 (nk : Int)), (16, .slice AK nk ck), (15, .bool false)] (by kernel_rfl) (by kernel_rfl) ?_
    refine WO.one (SQ.F 6 (by kernel_rfl)) 18 (.bool (decide (((nk : Int) : Int) > (100 : Int)))) (by kernel_rfl) ?_
    refine WO.topP (((nk : Int) : Int) > (100 : Int)) ?_ ?_
    · intro h4
      refine WO.run 1 7 [(19, .bool true)] (by kernel_rfl) (by kernel_rfl) ?_
      refine WO.done (by kernel_rfl) ?_
      refine WQ.keep [0, 1, 4, 5, 19] (e' := [(0, .slice A n c), (1, .slice AK nk ck), (4, .bool false), (5, .bool true), (19, .bool true)]) (by kernel_rfl) ?_
      refine WQ.thenN ?_
      refine WE.condT (by kernel_rfl) ?_
      refine WE.seq ?_
      -- R3 law.go:52
      refine WE.region ?_
      refine WO.run 2 0 [(4, .bool true), (20, .bool true)] (by kernel_rfl) (by kernel_rfl) ?_
      refine WO.done (by kernel_rfl) ?_
      refine WQ.keep [0, 1, 4, 5, 19] (e' := [(0, .slice A n c), (1, .slice AK nk ck), (4, .bool true), (5, .bool true), (19, .bool true)]) (by kernel_rfl) ?_
      refine WQ.thenN ?_
      refine WE.ret ?_
      refine WQ.thenR ?_
      refine WQ.ret (v := .bool true) (by kernel_rfl) ?_
      exact ⟨rfl, HA⟩
    · intro h4
      refine WO.run 1 7 [(19, .bool false)] (by kernel_rfl) (by kernel_rfl) ?_
      refine WO.done (by kernel_rfl) ?_
      refine WQ.keep [0, 1, 4, 5, 19] (e' := [(0, .slice A n c), (1, .slice AK nk ck), (4, .bool false), (5, .bool true), (19, .bool false)]) (by kernel_rfl) ?_
      refine WQ.thenN ?_
      refine WE.condF (by kernel_rfl) ?_
      refine WE.skip ?_
      refine WQ.thenN ?_
      refine WE.seq ?_
      -- R4 law.go:54
      refine WE.region ?_
      refine WO.run 1 0 [(21, .slice A n c)] (by kernel_rfl) (by kernel_rfl) ?_
      refine WO.call (SQ.E 1 (by kernel_rfl)) 22 (by kernel_rfl) (read_any A n c _) ?_
      rintro _ w5 ⟨g7, rfl, HB8, F6, le9⟩
      refine ⟨_, rfl, trivial, ?_⟩
      have nin_g7_FB : g7 ∉ FB := new_nin HV.lt le9
      have nin_g7_FK : g7 ∉ FK := new_nin HK.lt le9
      have ne_0_g7 : 0 ≠ g7 := Nat.ne_of_lt (Nat.lt_of_lt_of_le HE.lt le9)
      have ge_HA_g7 := Nat.le_trans HA.size le9
      have HV := HV.keep F6 (fun _ _ => nin0 _)
      have HK := HK.keep F6 (fun _ _ => nin0 _)
      have HE := HE.keep F6 (nin0 _)
      have HA := Fr.step0 HA F6
      refine WO.run 1 2 [(6, .pointer (some ⟨g7, 0, none⟩))] (by kernel_rfl) (by kernel_rfl) ?_
      refine WO.done (by kernel_rfl) ?_
      refine WQ.keep [0, 1, 4, 5, 6, 19] (e' := [(0, .slice A n c), (1, .slice AK nk ck), (4, .bool false), (5, .bool true), (6, .pointer (some ⟨g7, 0, none⟩)), (19, .bool false)]) (by kernel_rfl) ?_
      refine WQ.thenN ?_
      refine WE.seq ?_
      refine WE.seq ?_
      -- R5 law.go:55
      refine WE.region ?_
      refine WO.run 2 0 [(24, .bool false), (23, .pointer (some ⟨g7, 0, none⟩))] (by kernel_rfl) (by kernel_rfl) ?_
      refine WO.done (by kernel_rfl) ?_
      refine WQ.keep [0, 1, 4, 5, 6, 19, 24] (e' := [(0, .slice A n c), (1, .slice AK nk ck), (4, .bool false), (5, .bool true), (6, .pointer (some ⟨g7, 0, none⟩)), (19, .bool false), (24, .bool false)]) (by kernel_rfl) ?_
      refine WQ.thenN ?_
      refine WE.condF (by kernel_rfl) ?_
      refine WE.skip ?_
      refine WQ.thenN ?_
      refine WE.seq ?_
      -- R7 law.go:58
      refine WE.region ?_
      refine WO.run 2 0 [(26, .agg #[.slice A n c, .int .i64 0, .bool false, .int .i64 0]), (25, .slice A n c)] (by kernel_rfl) (by kernel_rfl) ?_
      refine WO.bx (SQ.E 2 (by kernel_rfl)) 27 #[.slice A n c, .int .i64 0, .bool false, .int .i64 0] 37 (fun g => .pointer (some ⟨g, 0, none⟩)) (by kernel_rfl) (fun _ _ => trivial) ?_
      intro g10 w11 HB13 F12 le14 _
      have ne_g7_g10 : g7 ≠ g10 := Nat.ne_of_lt (Nat.lt_of_lt_of_le HB8.lt le14)
      have nin_g10_FB : g10 ∉ FB := new_nin HV.lt le14
      have nin_g10_FK : g10 ∉ FK := new_nin HK.lt le14
      have ne_0_g10 : 0 ≠ g10 := Nat.ne_of_lt (Nat.lt_of_lt_of_le HE.lt le14)
      have ge_HA_g10 := Nat.le_trans HA.size le14
      have HB8 := Blk.keep HB8 F12 (nin0 _)
      have HV := HV.keep F12 (fun _ _ => nin0 _)
      have HK := HK.keep F12 (fun _ _ => nin0 _)
      have HE := HE.keep F12 (nin0 _)
      have HA := Fr.step0 HA F12
      refine WO.run 1 3 [(7, .pointer (some ⟨g10, 0, none⟩))] (by kernel_rfl) (by kernel_rfl) ?_
      refine WO.done (by kernel_rfl) ?_
      refine WQ.keep [0, 1, 4, 5, 6, 7, 19, 24] (e' := [(0, .slice A n c), (1, .slice AK nk ck), (4, .bool false), (5, .bool true), (6, .pointer (some ⟨g7, 0, none⟩)), (7, .pointer (some ⟨g10, 0, none⟩)), (19, .bool false), (24, .bool false)]) (by kernel_rfl) ?_
      refine WQ.thenN ?_
      refine WE.seq ?_
      refine WE.seq ?_
      -- R8 law.go:59
      refine WE.region ?_
      refine WO.run 1 0 [(8, .int .i64 0)] (by kernel_rfl) (by kernel_rfl) ?_
      refine WO.done (by kernel_rfl) ?_
      refine WQ.keep [0, 1, 4, 5, 6, 7, 8, 19, 24] (e' := [(0, .slice A n c), (1, .slice AK nk ck), (4, .bool false), (5, .bool true), (6, .pointer (some ⟨g7, 0, none⟩)), (7, .pointer (some ⟨g10, 0, none⟩)), (8, .int .i64 0), (19, .bool false), (24, .bool false)]) (by kernel_rfl) ?_
      refine WQ.thenN ?_
      refine WE.block ?_
      refine WE.loop (α := Nat × St) (E := fun ⟨i, s⟩ => [(0, .slice A n c), (1, .slice AK nk ck), (5, .bool true), (6, .pointer (some ⟨g7, 0, none⟩)), (7, .pointer (some ⟨g10, 0, none⟩)), (8, .int .i64 (i : Int))]) (I := fun ⟨i, s⟩ wr => i ≤ nk ∧ s.ok l ∧ Rd 54 wr g7 (.slice A n c) s ∧ Rd 37 wr g10 (.slice A n c) s ∧ VX cB 1 wr FB A l ∧ VX cK 2 wr FK AK qk ∧ Errs.ErrT wr ∧ Fr [] w wr) (m := fun ⟨i, s⟩ => nk - i) (0, ⟨0, false⟩) [0, 1, 5, 6, 7, 8] (by kernel_rfl) ?_ ?_
      · exact ⟨Nat.zero_le _, Nat.zero_le _, Rd.ok (p := 0) HB8, Rd.ok (p := 0) HB13, HV, HK, HE, HA⟩
      rintro ⟨i, s⟩ wr ⟨hin, hs, HR1, HR2, HV, HK, HE, HA⟩
      dsimp only at hin hs HR1 HR2 ⊢
      refine WE.seq ?_
      refine WE.seq ?_
      -- R9 law.go:59
      refine WE.region ?_
      refine WO.run 3 0 [(30, .int .i64 (nk : Int)), (29, .slice AK nk ck), (28, .int .i64 (i : Int))] (by kernel_rfl) (by kernel_rfl) ?_
      refine WO.one (SQ.F 3 (by kernel_rfl)) 31 (.bool (decide (((i : Int) : Int) < (nk : Int)))) (by kernel_rfl) ?_
      refine WO.topP (((i : Int) : Int) < (nk : Int)) ?_ ?_
      · intro h15
        refine WO.done (by kernel_rfl) ?_
        refine WQ.keep [0, 1, 5, 6, 7, 8, 31] (e' := [(0, .slice A n c), (1, .slice AK nk ck), (5, .bool true), (6, .pointer (some ⟨g7, 0, none⟩)), (7, .pointer (some ⟨g10, 0, none⟩)), (8, .int .i64 (i : Int)), (31, .bool true)]) (by kernel_rfl) ?_
        refine WQ.thenN ?_
        refine WE.condT (by kernel_rfl) ?_
        refine WE.skip ?_
        refine WQ.thenN ?_
        refine WE.seq ?_
        refine WE.block ?_
        refine WE.seq ?_
        -- R11 law.go:60
        refine WE.region ?_
        refine WO.run 2 0 [(35, .int .i64 (i : Int)), (34, .slice AK nk ck)] (by kernel_rfl) (by kernel_rfl) ?_
        obtain ⟨ad16, hA17⟩ := HK.addr (i := i) (by have := hnk; omega)
        refine WO.ixo (SQ.F 2 (by kernel_rfl)) 36 nk 2 i (i : Int) hA17 (by kernel_rfl) rfl (by omega) ?_
        refine WO.run 1 3 [(37, .pointer (some (ad16.add (i * 2))))] (by kernel_rfl) (by kernel_rfl) ?_
        refine WO.ld (SQ.S 4 (by kernel_rfl)) 38 (.int .i64 ((gK qk i).1)) (by kernel_rfl) (same (HK.at0 hA17 (gK_some qk i (by have := hnk; omega)) (by kernel_rfl))) ?_
        refine WO.call (SQ.E 5 (by kernel_rfl)) 39 (by kernel_rfl) (pick_any ((gK qk i).1) _ (hk _ (gK_mem qk i (by omega))).1) ?_
        rintro _ w18 ⟨v20, rfl, F19⟩
        refine ⟨_, rfl, trivial, ?_⟩
        have HV := HV.keep F19 (fun _ _ => nin0 _)
        have HK := HK.keep F19 (fun _ _ => nin0 _)
        have HE := HE.keep F19 (nin0 _)
        have HR1 := HR1.keep F19 (nin0 _)
        have HR2 := HR2.keep F19 (nin0 _)
        have HA := Fr.step0 HA F19
        refine WO.done (by kernel_rfl) ?_
        refine WQ.keep [0, 1, 5, 6, 7, 8, 31, 39] (e' := [(0, .slice A n c), (1, .slice AK nk ck), (5, .bool true), (6, .pointer (some ⟨g7, 0, none⟩)), (7, .pointer (some ⟨g10, 0, none⟩)), (8, .int .i64 (i : Int)), (31, .bool true), (39, .int .i64 v20)]) (by kernel_rfl) ?_
        refine WQ.thenN ?_
        refine WE.block ?_
        refine WE.seq ?_
        -- R14 law.go:61
        refine WE.region ?_
        refine WO.one (SQ.F 0 (by kernel_rfl)) 56 (.bool (decide ((v20 : Int) = 0))) (by kernel_rfl) ?_
        refine WO.topP ((v20 : Int) = 0) ?_ ?_
        · intro h21
          refine WO.run 1 1 [(55, .bool true)] (by kernel_rfl) (by kernel_rfl) ?_
          refine WO.done (by kernel_rfl) ?_
          refine WQ.keep [0, 1, 5, 6, 7, 8, 31, 39, 55] (e' := [(0, .slice A n c), (1, .slice AK nk ck), (5, .bool true), (6, .pointer (some ⟨g7, 0, none⟩)), (7, .pointer (some ⟨g10, 0, none⟩)), (8, .int .i64 (i : Int)), (31, .bool true), (39, .int .i64 v20), (55, .bool true)]) (by kernel_rfl) ?_
          refine WQ.thenN ?_
          refine WE.condT (by kernel_rfl) ?_
          refine WE.seq ?_
          -- R15 law.go:62
          refine WE.region ?_
          refine WO.run 1 0 [(57, .pointer (some ⟨g7, 0, none⟩))] (by kernel_rfl) (by kernel_rfl) ?_
          refine WO.call (SQ.E 1 (by kernel_rfl)) 58 (by kernel_rfl) (rnum_any g7 s  A n c l FB _ HV hn hc (by omega) nin_g7_FB HR1 hs) ?_
          rintro _ w22 ⟨rfl, HRn, F23⟩
          refine ⟨_, rfl, trivial, ?_⟩
          have HV := HV.keep F23 (djB nin_g7_FB)
          have HK := HK.keep F23 (djB nin_g7_FK)
          have HE := HE.keep F23 (ninC ne_0_g7 (nin0 _))
          have HR2 := HR2.keep F23 (ninC (Ne.symm ne_g7_g10) (nin0 _))
          have HA := Fr.step HA F23 (inSR ge_HA_g7 inS0)
          have HR1 := HRn
          refine WO.run 1 2 [(59, .pointer (some ⟨g10, 0, none⟩))] (by kernel_rfl) (by kernel_rfl) ?_
          refine WO.call (SQ.E 3 (by kernel_rfl)) 60 (by kernel_rfl) (mnum_any g10 s  A n c l FB _ HV hn hc (by omega) nin_g10_FB HR2 hs) ?_
          rintro _ w24 ⟨rfl, HRn, F25⟩
          refine ⟨_, rfl, trivial, ?_⟩
          have HV := HV.keep F25 (djB nin_g10_FB)
          have HK := HK.keep F25 (djB nin_g10_FK)
          have HE := HE.keep F25 (ninC ne_0_g10 (nin0 _))
          have HR1 := HR1.keep F25 (ninC ne_g7_g10 (nin0 _))
          have HA := Fr.step HA F25 (inSR ge_HA_g10 inS0)
          have HR2 := HRn
          refine WO.one (SQ.F 4 (by kernel_rfl)) 61 (.bool (!decide ((((rNum l s).1 : Int) : Int) = ((rNum l s).1 : Int)))) (by kernel_rfl) ?_
          refine WO.topNT ((((rNum l s).1 : Int) : Int) = ((rNum l s).1 : Int)) (by rfl) ?_
          refine WO.done (by kernel_rfl) ?_
          refine WQ.keep [0, 1, 5, 6, 7, 8, 31, 39, 55, 61] (e' := [(0, .slice A n c), (1, .slice AK nk ck), (5, .bool true), (6, .pointer (some ⟨g7, 0, none⟩)), (7, .pointer (some ⟨g10, 0, none⟩)), (8, .int .i64 (i : Int)), (31, .bool true), (39, .int .i64 v20), (55, .bool true), (61, .bool false)]) (by kernel_rfl) ?_
          refine WQ.thenN ?_
          refine WE.condF (by kernel_rfl) ?_
          refine WE.skip ?_
          refine WQ.blkN ?_
          refine WQ.blkN ?_
          refine WQ.thenN ?_
          -- R10 law.go:59
          refine WE.region ?_
          refine WO.run 1 0 [(32, .int .i64 (i : Int))] (by kernel_rfl) (by kernel_rfl) ?_
          refine WO.one (SQ.F 1 (by kernel_rfl)) 33 (.int .i64 (IntKind.i64.wrap ((i : Int) + 1))) (by kernel_rfl) ?_
          refine WO.top (v' := .int .i64 ((i + 1 : Nat) : Int)) (wrap_i64 (by omega) (by omega)) ?_
          refine WO.run 1 2 [(8, .int .i64 ((i + 1 : Nat) : Int))] (by kernel_rfl) (by kernel_rfl) ?_
          refine WO.done (by kernel_rfl) ?_
          refine WQ.keep [0, 1, 5, 6, 7, 8, 31, 39, 55, 61] (e' := [(0, .slice A n c), (1, .slice AK nk ck), (5, .bool true), (6, .pointer (some ⟨g7, 0, none⟩)), (7, .pointer (some ⟨g10, 0, none⟩)), (8, .int .i64 ((i + 1 : Nat) : Int)), (31, .bool true), (39, .int .i64 v20), (55, .bool true), (61, .bool false)]) (by kernel_rfl) ?_
          refine WQ.round ?_
          intro a_ ha_
          refine ⟨(i + 1, (rNum l s).2), ?_, ha_.keep [0, 1, 5, 6, 7, 8] (by kernel_rfl), ?_⟩
          · show nk - (i + 1) < nk - i; omega
          · exact ⟨by show i + 1 ≤ nk; omega, rNum_ok hs, HR1, HR2, HV, HK, HE, HA⟩
        · intro h21
          refine WO.run 1 1 [(55, .bool false)] (by kernel_rfl) (by kernel_rfl) ?_
          refine WO.done (by kernel_rfl) ?_
          refine WQ.keep [0, 1, 5, 6, 7, 8, 31, 39, 55] (e' := [(0, .slice A n c), (1, .slice AK nk ck), (5, .bool true), (6, .pointer (some ⟨g7, 0, none⟩)), (7, .pointer (some ⟨g10, 0, none⟩)), (8, .int .i64 (i : Int)), (31, .bool true), (39, .int .i64 v20), (55, .bool false)]) (by kernel_rfl) ?_
          refine WQ.thenN ?_
          refine WE.condF (by kernel_rfl) ?_
          refine WE.seq ?_
          -- R17 law.go:65
          refine WE.region ?_
          refine WO.one (SQ.F 0 (by kernel_rfl)) 63 (.bool (decide ((v20 : Int) = 1))) (by kernel_rfl) ?_
          refine WO.topP ((v20 : Int) = 1) ?_ ?_
          · intro h26
            refine WO.run 1 1 [(62, .bool true)] (by kernel_rfl) (by kernel_rfl) ?_
            refine WO.done (by kernel_rfl) ?_
            refine WQ.keep [0, 1, 5, 6, 7, 8, 31, 39, 55, 62] (e' := [(0, .slice A n c), (1, .slice AK nk ck), (5, .bool true), (6, .pointer (some ⟨g7, 0, none⟩)), (7, .pointer (some ⟨g10, 0, none⟩)), (8, .int .i64 (i : Int)), (31, .bool true), (39, .int .i64 v20), (55, .bool false), (62, .bool true)]) (by kernel_rfl) ?_
            refine WQ.thenN ?_
            refine WE.condT (by kernel_rfl) ?_
            refine WE.seq ?_
            -- R18 law.go:66
            refine WE.region ?_
            refine WO.run 1 0 [(64, .pointer (some ⟨g7, 0, none⟩))] (by kernel_rfl) (by kernel_rfl) ?_
            refine WO.call (SQ.E 1 (by kernel_rfl)) 65 (by kernel_rfl) (rwhole_any g7 s  A n c l FB _ HV hn hc (by omega) nin_g7_FB HR1 hs) ?_
            rintro _ w27 ⟨rfl, HRn, F28⟩
            refine ⟨_, rfl, trivial, ?_⟩
            have HV := HV.keep F28 (djB nin_g7_FB)
            have HK := HK.keep F28 (djB nin_g7_FK)
            have HE := HE.keep F28 (ninC ne_0_g7 (nin0 _))
            have HR2 := HR2.keep F28 (ninC (Ne.symm ne_g7_g10) (nin0 _))
            have HA := Fr.step HA F28 (inSR ge_HA_g7 inS0)
            have HR1 := HRn
            refine WO.run 1 2 [(66, .pointer (some ⟨g10, 0, none⟩))] (by kernel_rfl) (by kernel_rfl) ?_
            refine WO.call (SQ.E 3 (by kernel_rfl)) 67 (by kernel_rfl) (mwhole_any g10 s  A n c l FB _ HV hn hc (by omega) nin_g10_FB HR2 hs) ?_
            rintro _ w29 ⟨rfl, HRn, F30⟩
            refine ⟨_, rfl, trivial, ?_⟩
            have HV := HV.keep F30 (djB nin_g10_FB)
            have HK := HK.keep F30 (djB nin_g10_FK)
            have HE := HE.keep F30 (ninC ne_0_g10 (nin0 _))
            have HR1 := HR1.keep F30 (ninC ne_g7_g10 (nin0 _))
            have HA := Fr.step HA F30 (inSR ge_HA_g10 inS0)
            have HR2 := HRn
            refine WO.one (SQ.F 4 (by kernel_rfl)) 68 (.bool (!decide (((rWhole l s).1 : Int) = ((rWhole l s).1)))) (by kernel_rfl) ?_
            refine WO.topNT (((rWhole l s).1 : Int) = ((rWhole l s).1)) (by rfl) ?_
            refine WO.done (by kernel_rfl) ?_
            refine WQ.keep [0, 1, 5, 6, 7, 8, 31, 39, 55, 62, 68] (e' := [(0, .slice A n c), (1, .slice AK nk ck), (5, .bool true), (6, .pointer (some ⟨g7, 0, none⟩)), (7, .pointer (some ⟨g10, 0, none⟩)), (8, .int .i64 (i : Int)), (31, .bool true), (39, .int .i64 v20), (55, .bool false), (62, .bool true), (68, .bool false)]) (by kernel_rfl) ?_
            refine WQ.thenN ?_
            refine WE.condF (by kernel_rfl) ?_
            refine WE.skip ?_
            refine WQ.blkN ?_
            refine WQ.blkN ?_
            refine WQ.thenN ?_
            -- R10 law.go:59
            refine WE.region ?_
            refine WO.run 1 0 [(32, .int .i64 (i : Int))] (by kernel_rfl) (by kernel_rfl) ?_
            refine WO.one (SQ.F 1 (by kernel_rfl)) 33 (.int .i64 (IntKind.i64.wrap ((i : Int) + 1))) (by kernel_rfl) ?_
            refine WO.top (v' := .int .i64 ((i + 1 : Nat) : Int)) (wrap_i64 (by omega) (by omega)) ?_
            refine WO.run 1 2 [(8, .int .i64 ((i + 1 : Nat) : Int))] (by kernel_rfl) (by kernel_rfl) ?_
            refine WO.done (by kernel_rfl) ?_
            refine WQ.keep [0, 1, 5, 6, 7, 8, 31, 39, 55, 62, 68] (e' := [(0, .slice A n c), (1, .slice AK nk ck), (5, .bool true), (6, .pointer (some ⟨g7, 0, none⟩)), (7, .pointer (some ⟨g10, 0, none⟩)), (8, .int .i64 ((i + 1 : Nat) : Int)), (31, .bool true), (39, .int .i64 v20), (55, .bool false), (62, .bool true), (68, .bool false)]) (by kernel_rfl) ?_
            refine WQ.round ?_
            intro a_ ha_
            refine ⟨(i + 1, (rWhole l s).2), ?_, ha_.keep [0, 1, 5, 6, 7, 8] (by kernel_rfl), ?_⟩
            · show nk - (i + 1) < nk - i; omega
            · exact ⟨by show i + 1 ≤ nk; omega, rWhole_ok hs, HR1, HR2, HV, HK, HE, HA⟩
          · intro h26
            refine WO.run 1 1 [(62, .bool false)] (by kernel_rfl) (by kernel_rfl) ?_
            refine WO.done (by kernel_rfl) ?_
            refine WQ.keep [0, 1, 5, 6, 7, 8, 31, 39, 55, 62] (e' := [(0, .slice A n c), (1, .slice AK nk ck), (5, .bool true), (6, .pointer (some ⟨g7, 0, none⟩)), (7, .pointer (some ⟨g10, 0, none⟩)), (8, .int .i64 (i : Int)), (31, .bool true), (39, .int .i64 v20), (55, .bool false), (62, .bool false)]) (by kernel_rfl) ?_
            refine WQ.thenN ?_
            refine WE.condF (by kernel_rfl) ?_
            refine WE.seq ?_
            have hz31 := HA.size
            have gz_hz31_g7 := ge_HA_g7
            have gz_hz31_g10 := ge_HA_g10
            -- R12* law.go:70
            refine WE.draw [.free, .free, .free, .free, .free, .still, .effR, .free, .free, .free, .free, .free, .still, .eff, .free] (FrB (World.heap w).size) (frBR _) (by kernel_rfl) 15 (Array.replicate 15 false) (by kernel_rfl) rfl ?_
            intro w32 F33 _
            have HV := HV.keep F33 (fun _ _ => nin0 _)
            have HK := HK.keep F33 (fun _ _ => nin0 _)
            have HE := HE.keep F33 (nin0 _)
            have HR1 := HR1.keep F33 (nin0 _)
            have HR2 := HR2.keep F33 (nin0 _)
            have hz31 := Nat.le_trans hz31 F33.size
            have HA := Fr.step0 HA F33
            refine WO.one (SA.F (frBR _) (frBT _) _ 0 _ (by kernel_rfl)) 40 (.pointer (some ⟨g7, 0, none⟩)) (by kernel_rfl) ?_
            refine WO.one (SA.F (frBR _) (frBT _) _ 1 _ (by kernel_rfl)) 41 (.slice AK nk ck) (by kernel_rfl) ?_
            refine WO.one (SA.F (frBR _) (frBT _) _ 2 _ (by kernel_rfl)) 42 (.int .i64 (i : Int)) (by kernel_rfl) ?_
            obtain ⟨ad34, hA35⟩ := HK.addr (i := i) (by have := hnk; omega)
            refine WO.ixo (SA.F (frBR _) (frBT _) _ 3 _ (by kernel_rfl)) 43 nk 2 i (i : Int) hA35 (by kernel_rfl) rfl (by omega) ?_
            refine WO.one (SA.F (frBR _) (frBT _) _ 4 _ (by kernel_rfl)) 44 (.pointer (some ((ad34.add (i * 2)).add 1))) (by kernel_rfl) ?_
            refine WO.ld (SA.S (frBR _) (frBT _) _ 5 _ (by kernel_rfl)) 45 (.int .i64 ((gK qk i).2)) (by kernel_rfl) (fun _ k_ => (HK.keepB k_ ltz_FK).at hA35 (gK_some qk i (by have := hnk; omega)) 1 (by kernel_rfl)) ?_
            refine WO.one (SA.F (frBR _) (frBT _) _ 7 _ (by kernel_rfl)) 47 (.pointer (some ⟨g10, 0, none⟩)) (by kernel_rfl) ?_
            refine WO.one (SA.F (frBR _) (frBT _) _ 8 _ (by kernel_rfl)) 48 (.slice AK nk ck) (by kernel_rfl) ?_
            refine WO.one (SA.F (frBR _) (frBT _) _ 9 _ (by kernel_rfl)) 49 (.int .i64 (i : Int)) (by kernel_rfl) ?_
            obtain ⟨ad36, hA37⟩ := HK.addr (i := i) (by have := hnk; omega)
            refine WO.ixo (SA.F (frBR _) (frBT _) _ 10 _ (by kernel_rfl)) 50 nk 2 i (i : Int) hA37 (by kernel_rfl) rfl (by omega) ?_
            refine WO.one (SA.F (frBR _) (frBT _) _ 11 _ (by kernel_rfl)) 51 (.pointer (some ((ad36.add (i * 2)).add 1))) (by kernel_rfl) ?_
            refine WO.ld (SA.S (frBR _) (frBT _) _ 12 _ (by kernel_rfl)) 52 (.int .i64 ((gK qk i).2)) (by kernel_rfl) (fun _ k_ => (HK.keepB k_ ltz_FK).at hA37 (gK_some qk i (by have := hnk; omega)) 1 (by kernel_rfl)) ?_
            refine WO.call (SA.ER _ 6 _ (by kernel_rfl) rfl) 46 (by kernel_rfl) (rtext_any g7 s (gK qk i).2 A n c l FB _ HV hn hc (by omega) nin_g7_FB HR1 hs (hk _ (gK_mem qk i (by omega))).2) ?_
            rintro _ w38 ⟨rfl, HRn, F39⟩
            refine ⟨_, rfl, (frB_of hz31 (geC gz_hz31_g7 (by simp))) _ F39, ?_⟩
            have HV := HV.keep F39 (djB nin_g7_FB)
            have HK := HK.keep F39 (djB nin_g7_FK)
            have HE := HE.keep F39 (ninC ne_0_g7 (nin0 _))
            have HR2 := HR2.keep F39 (ninC (Ne.symm ne_g7_g10) (nin0 _))
            have hz31 := Nat.le_trans hz31 F39.size
            have HA := Fr.step HA F39 (inSR ge_HA_g7 inS0)
            have HR1 := HRn
            refine WO.call (SA.E _ 13 _ (by kernel_rfl) rfl) 53 (by kernel_rfl) (mtext_any g10 s (gK qk i).2 A n c l FB _ HV hn hc (by omega) nin_g10_FB HR2 hs (hk _ (gK_mem qk i (by omega))).2) ?_
            rintro _ w40 ⟨rfl, HRn, F41⟩
            refine ⟨_, rfl, trivial, ?_⟩
            have HV := HV.keep F41 (djB nin_g10_FB)
            have HK := HK.keep F41 (djB nin_g10_FK)
            have HE := HE.keep F41 (ninC ne_0_g10 (nin0 _))
            have HR1 := HR1.keep F41 (ninC ne_g7_g10 (nin0 _))
            have hz31 := Nat.le_trans hz31 F41.size
            have HA := Fr.step HA F41 (inSR ge_HA_g10 inS0)
            have HR2 := HRn
            refine WO.one (SA.F (frBR _) (frBT _) _ 14 _ (by kernel_rfl)) 54 (.bool (!((str (rText l (gK qk i).2 s).1).toList == (str (rText l (gK qk i).2 s).1).toList))) (by kernel_rfl) ?_
            refine WO.top (v' := .bool (!decide ((str (rText l (gK qk i).2 s).1) = (str (rText l (gK qk i).2 s).1)))) (congrArg Value.bool (congrArg not (streq (str (rText l (gK qk i).2 s).1) (str (rText l (gK qk i).2 s).1)))) ?_
            refine WO.topNT ((str (rText l (gK qk i).2 s).1) = (str (rText l (gK qk i).2 s).1)) (by rfl) ?_
            refine WO.doneA (by kernel_rfl) ?_
            refine WQ.keep [0, 1, 5, 6, 7, 8, 31, 39, 54, 55, 62] (e' := [(0, .slice A n c), (1, .slice AK nk ck), (5, .bool true), (6, .pointer (some ⟨g7, 0, none⟩)), (7, .pointer (some ⟨g10, 0, none⟩)), (8, .int .i64 (i : Int)), (31, .bool true), (39, .int .i64 v20), (54, .bool false), (55, .bool false), (62, .bool false)]) (by kernel_rfl) ?_
            refine WQ.thenN ?_
            refine WE.condF (by kernel_rfl) ?_
            refine WE.skip ?_
            refine WQ.blkN ?_
            refine WQ.blkN ?_
            refine WQ.thenN ?_
            -- R10 law.go:59
            refine WE.region ?_
            refine WO.run 1 0 [(32, .int .i64 (i : Int))] (by kernel_rfl) (by kernel_rfl) ?_
            refine WO.one (SQ.F 1 (by kernel_rfl)) 33 (.int .i64 (IntKind.i64.wrap ((i : Int) + 1))) (by kernel_rfl) ?_
            refine WO.top (v' := .int .i64 ((i + 1 : Nat) : Int)) (wrap_i64 (by omega) (by omega)) ?_
            refine WO.run 1 2 [(8, .int .i64 ((i + 1 : Nat) : Int))] (by kernel_rfl) (by kernel_rfl) ?_
            refine WO.done (by kernel_rfl) ?_
            refine WQ.keep [0, 1, 5, 6, 7, 8, 31, 39, 54, 55, 62] (e' := [(0, .slice A n c), (1, .slice AK nk ck), (5, .bool true), (6, .pointer (some ⟨g7, 0, none⟩)), (7, .pointer (some ⟨g10, 0, none⟩)), (8, .int .i64 ((i + 1 : Nat) : Int)), (31, .bool true), (39, .int .i64 v20), (54, .bool false), (55, .bool false), (62, .bool false)]) (by kernel_rfl) ?_
            refine WQ.round ?_
            intro a_ ha_
            refine ⟨(i + 1, (rText l (gK qk i).2 s).2), ?_, ha_.keep [0, 1, 5, 6, 7, 8] (by kernel_rfl), ?_⟩
            · show nk - (i + 1) < nk - i; omega
            · exact ⟨by show i + 1 ≤ nk; omega, rText_ok hs, HR1, HR2, HV, HK, HE, HA⟩
      · intro h15
        refine WO.done (by kernel_rfl) ?_
        refine WQ.keep [0, 1, 5, 6, 7, 8, 31] (e' := [(0, .slice A n c), (1, .slice AK nk ck), (5, .bool true), (6, .pointer (some ⟨g7, 0, none⟩)), (7, .pointer (some ⟨g10, 0, none⟩)), (8, .int .i64 (i : Int)), (31, .bool false)]) (by kernel_rfl) ?_
        refine WQ.thenN ?_
        refine WE.condF (by kernel_rfl) ?_
        refine WE.exit ?_
        refine WQ.thenE ?_
        refine WQ.thenE ?_
        refine WQ.blkE ?_
        refine WQ.thenN ?_
        refine WE.seq ?_
        -- R20 law.go:75
        refine WE.region ?_
        refine WO.run 1 0 [(69, .pointer (some ⟨g7, 0, none⟩))] (by kernel_rfl) (by kernel_rfl) ?_
        refine WO.call (SQ.E 1 (by kernel_rfl)) 70 (by kernel_rfl) (rend_any g7 s A n c l _ hn HR1) ?_
        rintro _ w42 ⟨⟨hbad, rfl⟩ | ⟨hbad, g44, rfl, HB45, le46⟩, HRn, F43⟩
        · refine ⟨_, rfl, trivial, ?_⟩
          have HV := HV.keep F43 (djB nin_g7_FB)
          have HK := HK.keep F43 (djB nin_g7_FK)
          have HE := HE.keep F43 (ninC ne_0_g7 (nin0 _))
          have HR2 := HR2.keep F43 (ninC (Ne.symm ne_g7_g10) (nin0 _))
          have HA := Fr.step HA F43 (inSR ge_HA_g7 inS0)
          have HR1 := HRn
          refine WO.run 1 2 [(9, .nilIface)] (by kernel_rfl) (by kernel_rfl) ?_
          refine WO.done (by kernel_rfl) ?_
          refine WQ.keep [0, 1, 5, 6, 7, 8, 9, 31] (e' := [(0, .slice A n c), (1, .slice AK nk ck), (5, .bool true), (6, .pointer (some ⟨g7, 0, none⟩)), (7, .pointer (some ⟨g10, 0, none⟩)), (8, .int .i64 (i : Int)), (9, .nilIface), (31, .bool false)]) (by kernel_rfl) ?_
          refine WQ.thenN ?_
          refine WE.seq ?_
          -- R21 law.go:76
          refine WE.region ?_
          refine WO.run 1 0 [(71, .pointer (some ⟨g10, 0, none⟩))] (by kernel_rfl) (by kernel_rfl) ?_
          refine WO.call (SQ.E 1 (by kernel_rfl)) 72 (by kernel_rfl) (mend_any g10 s A n c l _ hn HR2) ?_
          rintro _ w47 ⟨rfl, HRn, F48⟩
          rw [if_neg (by rw [hbad]; simp)]
          refine ⟨_, rfl, trivial, ?_⟩
          have HV := HV.keep F48 (djB nin_g10_FB)
          have HK := HK.keep F48 (djB nin_g10_FK)
          have HE := HE.keep F48 (ninC ne_0_g10 (nin0 _))
          have HR1 := HR1.keep F48 (ninC ne_g7_g10 (nin0 _))
          have HA := Fr.step HA F48 (inSR ge_HA_g10 inS0)
          refine WO.run 1 2 [(10, .int .i64 (-1))] (by kernel_rfl) (by kernel_rfl) ?_
          refine WO.done (by kernel_rfl) ?_
          refine WQ.keep [0, 1, 5, 6, 7, 8, 9, 10, 31] (e' := [(0, .slice A n c), (1, .slice AK nk ck), (5, .bool true), (6, .pointer (some ⟨g7, 0, none⟩)), (7, .pointer (some ⟨g10, 0, none⟩)), (8, .int .i64 (i : Int)), (9, .nilIface), (10, .int .i64 (-1)), (31, .bool false)]) (by kernel_rfl) ?_
          refine WQ.thenN ?_
          refine WE.seq ?_
          refine WE.seq ?_
          -- R22 law.go:77
          refine WE.region ?_
          refine WO.run 2 0 [(74, .bool false), (73, .int .i64 (-1))] (by kernel_rfl) (by kernel_rfl) ?_
          refine WO.done (by kernel_rfl) ?_
          refine WQ.keep [0, 1, 5, 6, 7, 8, 9, 10, 31, 74] (e' := [(0, .slice A n c), (1, .slice AK nk ck), (5, .bool true), (6, .pointer (some ⟨g7, 0, none⟩)), (7, .pointer (some ⟨g10, 0, none⟩)), (8, .int .i64 (i : Int)), (9, .nilIface), (10, .int .i64 (-1)), (31, .bool false), (74, .bool false)]) (by kernel_rfl) ?_
          refine WQ.thenN ?_
          refine WE.condF (by kernel_rfl) ?_
          refine WE.skip ?_
          refine WQ.thenN ?_
          refine WE.seq ?_
          -- R24 law.go:80
          refine WE.region ?_
          refine WO.run 6 0 [(4, .bool true), (91, .bool true), (90, .bool true), (89, .nilIface), (88, .bool true), (87, .bool true)] (by kernel_rfl) (by kernel_rfl) ?_
          refine WO.done (by kernel_rfl) ?_
          refine WQ.keep [0, 1, 4, 5, 6, 7, 8, 9, 10, 31, 74] (e' := [(0, .slice A n c), (1, .slice AK nk ck), (4, .bool true), (5, .bool true), (6, .pointer (some ⟨g7, 0, none⟩)), (7, .pointer (some ⟨g10, 0, none⟩)), (8, .int .i64 (i : Int)), (9, .nilIface), (10, .int .i64 (-1)), (31, .bool false), (74, .bool false)]) (by kernel_rfl) ?_
          refine WQ.thenN ?_
          refine WE.ret ?_
          refine WQ.ret (v := .bool true) (by kernel_rfl) ?_
          exact ⟨rfl, HA⟩
        · refine ⟨_, rfl, trivial, ?_⟩
          have nin_g44_FB : g44 ∉ FB := new_nin HV.lt le46
          have nin_g44_FK : g44 ∉ FK := new_nin HK.lt le46
          have ne_0_g44 : 0 ≠ g44 := Nat.ne_of_lt (Nat.lt_of_lt_of_le HE.lt le46)
          have ne_g7_g44 : g7 ≠ g44 := Nat.ne_of_lt (Nat.lt_of_lt_of_le HR1.lt le46)
          have ne_g10_g44 : g10 ≠ g44 := Nat.ne_of_lt (Nat.lt_of_lt_of_le HR2.lt le46)
          have ge_HA_g44 := Nat.le_trans HA.size le46
          have HV := HV.keep F43 (djB nin_g7_FB)
          have HK := HK.keep F43 (djB nin_g7_FK)
          have HE := HE.keep F43 (ninC ne_0_g7 (nin0 _))
          have HR2 := HR2.keep F43 (ninC (Ne.symm ne_g7_g10) (nin0 _))
          have HA := Fr.step HA F43 (inSR ge_HA_g7 inS0)
          have HR1 := HRn
          refine WO.run 1 2 [(9, .iface 56 (.pointer (some ⟨g44, 0, none⟩)))] (by kernel_rfl) (by kernel_rfl) ?_
          refine WO.done (by kernel_rfl) ?_
          refine WQ.keep [0, 1, 5, 6, 7, 8, 9, 31] (e' := [(0, .slice A n c), (1, .slice AK nk ck), (5, .bool true), (6, .pointer (some ⟨g7, 0, none⟩)), (7, .pointer (some ⟨g10, 0, none⟩)), (8, .int .i64 (i : Int)), (9, .iface 56 (.pointer (some ⟨g44, 0, none⟩))), (31, .bool false)]) (by kernel_rfl) ?_
          refine WQ.thenN ?_
          refine WE.seq ?_
          -- R21 law.go:76
          refine WE.region ?_
          refine WO.run 1 0 [(71, .pointer (some ⟨g10, 0, none⟩))] (by kernel_rfl) (by kernel_rfl) ?_
          refine WO.call (SQ.E 1 (by kernel_rfl)) 72 (by kernel_rfl) (mend_any g10 s A n c l _ hn HR2) ?_
          rintro _ w49 ⟨rfl, HRn, F50⟩
          rw [if_pos hbad]
          refine ⟨_, rfl, trivial, ?_⟩
          have HB45 := Blk.keep HB45 F50 (ninC (Ne.symm ne_g10_g44) (nin0 _))
          have HV := HV.keep F50 (djB nin_g10_FB)
          have HK := HK.keep F50 (djB nin_g10_FK)
          have HE := HE.keep F50 (ninC ne_0_g10 (nin0 _))
          have HR1 := HR1.keep F50 (ninC ne_g7_g10 (nin0 _))
          have HA := Fr.step HA F50 (inSR ge_HA_g10 inS0)
          refine WO.run 1 2 [(10, .int .i64 (((rEnd l s).p : Nat) : Int))] (by kernel_rfl) (by kernel_rfl) ?_
          refine WO.done (by kernel_rfl) ?_
          refine WQ.keep [0, 1, 5, 6, 7, 8, 9, 10, 31] (e' := [(0, .slice A n c), (1, .slice AK nk ck), (5, .bool true), (6, .pointer (some ⟨g7, 0, none⟩)), (7, .pointer (some ⟨g10, 0, none⟩)), (8, .int .i64 (i : Int)), (9, .iface 56 (.pointer (some ⟨g44, 0, none⟩))), (10, .int .i64 (((rEnd l s).p : Nat) : Int)), (31, .bool false)]) (by kernel_rfl) ?_
          refine WQ.thenN ?_
          refine WE.seq ?_
          refine WE.seq ?_
          -- R22 law.go:77
          refine WE.region ?_
          refine WO.run 1 0 [(73, .int .i64 (((rEnd l s).p : Nat) : Int))] (by kernel_rfl) (by kernel_rfl) ?_
          refine WO.one (SQ.F 1 (by kernel_rfl)) 74 (.bool (decide ((((rEnd l s).p : Int) : Int) ≥ (0 : Int)))) (by kernel_rfl) ?_
          refine WO.topPT ((((rEnd l s).p : Int) : Int) ≥ (0 : Int)) (by omega) ?_
          refine WO.done (by kernel_rfl) ?_
          refine WQ.keep [0, 1, 5, 6, 7, 8, 9, 10, 31, 74] (e' := [(0, .slice A n c), (1, .slice AK nk ck), (5, .bool true), (6, .pointer (some ⟨g7, 0, none⟩)), (7, .pointer (some ⟨g10, 0, none⟩)), (8, .int .i64 (i : Int)), (9, .iface 56 (.pointer (some ⟨g44, 0, none⟩))), (10, .int .i64 (((rEnd l s).p : Nat) : Int)), (31, .bool false), (74, .bool true)]) (by kernel_rfl) ?_
          refine WQ.thenN ?_
          refine WE.condT (by kernel_rfl) ?_
          refine WE.seq ?_
          -- R23 law.go:78
          refine WE.region ?_
          refine WO.run 4 0 [(78, .int .i64 (((rEnd l s).p : Nat) : Int)), (77, .iface 56 (.pointer (some ⟨g44, 0, none⟩))), (76, .bool true), (75, .bool true)] (by kernel_rfl) (by kernel_rfl) ?_
          refine WO.call (SQ.E 4 (by kernel_rfl)) 79 (by kernel_rfl) (Errs.law_is g44 ((((rEnd l s).p : Nat) : Int) : Int) ((((rEnd l s).p : Nat) : Int) : Int) 2 _ HB45 HE) ?_
          rintro _ w51 ⟨rfl, HB45, F52⟩
          rw [decide_eq_true rfl]
          refine ⟨_, rfl, trivial, ?_⟩
          have HV := HV.keep F52 (fun _ _ => nin0 _)
          have HK := HK.keep F52 (fun _ _ => nin0 _)
          have HE := HE.keep F52 (nin0 _)
          have HR1 := HR1.keep F52 (nin0 _)
          have HA := Fr.step0 HA F52
          refine WO.run 3 5 [(82, .pointer (some ⟨g7, 0, none⟩)), (81, .bool true), (80, .bool true)] (by kernel_rfl) (by kernel_rfl) ?_
          refine WO.call (SQ.E 8 (by kernel_rfl)) 83 (by kernel_rfl) (rend_any g7 (rEnd l s) A n c l _ hn HR1) ?_
          rintro _ w53 ⟨hx_, HRn, F54⟩
          rw [rEnd_idem hbad] at hx_ HRn
          rcases hx_ with ⟨hx_, _⟩ | ⟨_, g55, rfl, HB56, le57⟩
          · rw [hbad] at hx_; cases hx_
          refine ⟨_, rfl, trivial, ?_⟩
          have ne_g44_g55 : g44 ≠ g55 := Nat.ne_of_lt (Nat.lt_of_lt_of_le HB45.lt le57)
          have nin_g55_FB : g55 ∉ FB := new_nin HV.lt le57
          have nin_g55_FK : g55 ∉ FK := new_nin HK.lt le57
          have ne_0_g55 : 0 ≠ g55 := Nat.ne_of_lt (Nat.lt_of_lt_of_le HE.lt le57)
          have ne_g7_g55 : g7 ≠ g55 := Nat.ne_of_lt (Nat.lt_of_lt_of_le HR1.lt le57)
          have ge_HA_g55 := Nat.le_trans HA.size le57
          have HB45 := Blk.keep HB45 F54 (ninC (Ne.symm ne_g7_g44) (nin0 _))
          have HV := HV.keep F54 (djB nin_g7_FB)
          have HK := HK.keep F54 (djB nin_g7_FK)
          have HE := HE.keep F54 (ninC ne_0_g7 (nin0 _))
          have HA := Fr.step HA F54 (inSR ge_HA_g7 inS0)
          have HR1 := HRn
          refine WO.run 1 9 [(84, .int .i64 (((rEnd l s).p : Nat) : Int))] (by kernel_rfl) (by kernel_rfl) ?_
          refine WO.call (SQ.E 10 (by kernel_rfl)) 85 (by kernel_rfl) (Errs.law_is g55 ((((rEnd l s).p : Nat) : Int) : Int) ((((rEnd l s).p : Nat) : Int) : Int) 2 _ HB56 HE) ?_
          rintro _ w58 ⟨rfl, HB56, F59⟩
          rw [decide_eq_true rfl]
          refine ⟨_, rfl, trivial, ?_⟩
          have HB45 := Blk.keep HB45 F59 (nin0 _)
          have HV := HV.keep F59 (fun _ _ => nin0 _)
          have HK := HK.keep F59 (fun _ _ => nin0 _)
          have HE := HE.keep F59 (nin0 _)
          have HR1 := HR1.keep F59 (nin0 _)
          have HA := Fr.step0 HA F59
          refine WO.run 2 11 [(4, .bool true), (86, .bool true)] (by kernel_rfl) (by kernel_rfl) ?_
          refine WO.done (by kernel_rfl) ?_
          refine WQ.keep [0, 1, 4, 5, 6, 7, 8, 9, 10, 31, 74] (e' := [(0, .slice A n c), (1, .slice AK nk ck), (4, .bool true), (5, .bool true), (6, .pointer (some ⟨g7, 0, none⟩)), (7, .pointer (some ⟨g10, 0, none⟩)), (8, .int .i64 (i : Int)), (9, .iface 56 (.pointer (some ⟨g44, 0, none⟩))), (10, .int .i64 (((rEnd l s).p : Nat) : Int)), (31, .bool false), (74, .bool true)]) (by kernel_rfl) ?_
          refine WQ.thenN ?_
          refine WE.ret ?_
          refine WQ.thenR ?_
          refine WQ.ret (v := .bool true) (by kernel_rfl) ?_
          exact ⟨rfl, HA⟩

set_option maxRecDepth 100000 in
set_option maxHeartbeats 400000 in
theorem back_any (m0 : Nat) (z : Int) (s : ByteArray) (m1 : Nat) (w : World) (hm0 : m0 < 18446744073709551616) (hz : -9223372036854775808 ≤ z ∧ z ≤ 9223372036854775807) (hsz : s.size ≤ 9223372036854775807) (hm1 : m1 < 18446744073709551616) (HE : Errs.ErrT w) :
    Calls Tryd.prog 5 #[.int .u64 (m0 : Int), .int .i64 z, .string s, .int .u64 (m1 : Int)] w fun e w' => e = .returned (.bool true) ∧ Fr [] w w' := by
  have hl0 := enc_len64 m0 hm0
  have hl1 := enc_len64 m1 hm1
  have hlz := enc_len64 _ (zig_lt hz)
  have hlt : (encT (bs s)).length ≤ s.size + 20 := by unfold encT; rw [List.length_append, bs_len]; have := enc_len64 s.size (by omega); omega
  obtain ⟨L, hL⟩ : ∃ L, L = [] ++ enc m0 ++ enc (zig z) ++ encT (bs s) ++ enc m1 := ⟨_, rfl⟩
  have hLn : L.length = (enc m0).length + (enc (zig z)).length + (encT (bs s)).length + (enc m1).length := by rw [hL]; simp only [List.length_append, List.length_nil]; omega
  have e1 : rNum L ⟨0, false⟩ = (m0, ⟨(enc m0).length, false⟩) := by have := rNum_enc (a := []) (r := enc (zig z) ++ (encT (bs s) ++ enc m1)) hm0; simpa [hL, List.append_assoc] using this
  have e2 : rWhole L ⟨(enc m0).length, false⟩ = (z, ⟨(enc m0 ++ enc (zig z)).length, false⟩) := by have := rWhole_enc (a := enc m0) (r := encT (bs s) ++ enc m1) hz; simpa [hL, List.append_assoc] using this
  have e3 : s.size ≤ 1000000 → rText L (s.size : Int) ⟨(enc m0 ++ enc (zig z)).length, false⟩ = (bs s, ⟨(enc m0 ++ enc (zig z) ++ encT (bs s)).length, false⟩) := fun h => by have := rText_enc (a := enc m0 ++ enc (zig z)) (r := enc m1) (s := bs s) (most := (s.size : Int)) (by rw [bs_len]; omega) (by rw [bs_len]; omega); simpa [hL, List.append_assoc] using this
  have e4 : rNum L ⟨(enc m0 ++ enc (zig z) ++ encT (bs s)).length, false⟩ = (m1, ⟨L.length, false⟩) := by have := rNum_enc (a := enc m0 ++ enc (zig z) ++ encT (bs s)) (r := []) hm1; simpa [hL, List.append_assoc] using this
  have ok0 : St.ok L ⟨0, false⟩ := Nat.zero_le _
  have ok1 : St.ok L ⟨(enc m0).length, false⟩ := by unfold St.ok; simp only; omega
  have ok2 : St.ok L ⟨(enc m0 ++ enc (zig z)).length, false⟩ := by unfold St.ok; simp only [List.length_append]; omega
  have ok3 : St.ok L ⟨(enc m0 ++ enc (zig z) ++ encT (bs s)).length, false⟩ := by unfold St.ok; simp only [List.length_append]; omega
  have HA := Fr.refl [] w
  refine enter (N := 69) Tryd.func5 (c := _) rfl (by kernel_rfl) (by kernel_rfl) (e := [(0, .int .u64 (m0 : Int)), (1, .int .i64 z), (2, .string s), (3, .int .u64 (m1 : Int))]) (by kernel_rfl) ?_
  refine WE.seq ?_
  -- R0 law.go:84
  refine WE.region ?_
  refine WO.run 1 0 [(8, .bool false)] (by kernel_rfl) (by kernel_rfl) ?_
  refine WO.done (by kernel_rfl) ?_
  refine WQ.keep [0, 1, 2, 3, 8] (e' := [(0, .int .u64 (m0 : Int)), (1, .int .i64 z), (2, .string s), (3, .int .u64 (m1 : Int)), (8, .bool false)]) (by kernel_rfl) ?_
  refine WQ.thenN ?_
  refine WE.seq ?_
  -- R1 law.go:85
  refine WE.region ?_
  refine WO.call (SQ.E 0 (by kernel_rfl)) 16 (by kernel_rfl) (up_any _ HE) ?_
  rintro _ w1 ⟨rfl, F2⟩
  refine ⟨_, rfl, trivial, ?_⟩
  have HE := HE.keep F2 (nin0 _)
  have HA := Fr.step0 HA F2
  refine WO.run 1 1 [(9, .bool true)] (by kernel_rfl) (by kernel_rfl) ?_
  refine WO.done (by kernel_rfl) ?_
  refine WQ.keep [0, 1, 2, 3, 8, 9] (e' := [(0, .int .u64 (m0 : Int)), (1, .int .i64 z), (2, .string s), (3, .int .u64 (m1 : Int)), (8, .bool false), (9, .bool true)]) (by kernel_rfl) ?_
  refine WQ.thenN ?_
  refine WE.seq ?_
  refine WE.seq ?_
  -- R2 law.go:86
  refine WE.region ?_
  refine WO.run 2 0 [(18, .int .i64 (s.size : Int)), (17, .string s)] (by kernel_rfl) (by kernel_rfl) ?_
  refine WO.one (SQ.F 2 (by kernel_rfl)) 19 (.bool (decide (((s.size : Int) : Int) > (2000 : Int)))) (by kernel_rfl) ?_
  refine WO.topP (((s.size : Int) : Int) > (2000 : Int)) ?_ ?_
  · intro h3
    refine WO.done (by kernel_rfl) ?_
    refine WQ.keep [0, 1, 2, 3, 8, 9, 19] (e' := [(0, .int .u64 (m0 : Int)), (1, .int .i64 z), (2, .string s), (3, .int .u64 (m1 : Int)), (8, .bool false), (9, .bool true), (19, .bool true)]) (by kernel_rfl) ?_
    refine WQ.thenN ?_
    refine WE.condT (by kernel_rfl) ?_
    refine WE.seq ?_
    -- R3 law.go:87
    refine WE.region ?_
    refine WO.run 2 0 [(8, .bool true), (20, .bool true)] (by kernel_rfl) (by kernel_rfl) ?_
    refine WO.done (by kernel_rfl) ?_
    refine WQ.keep [0, 1, 2, 3, 8, 9, 19] (e' := [(0, .int .u64 (m0 : Int)), (1, .int .i64 z), (2, .string s), (3, .int .u64 (m1 : Int)), (8, .bool true), (9, .bool true), (19, .bool true)]) (by kernel_rfl) ?_
    refine WQ.thenN ?_
    refine WE.ret ?_
    refine WQ.thenR ?_
    refine WQ.ret (v := .bool true) (by kernel_rfl) ?_
    exact ⟨rfl, HA⟩
  · intro h3
    refine WO.done (by kernel_rfl) ?_
    refine WQ.keep [0, 1, 2, 3, 8, 9, 19] (e' := [(0, .int .u64 (m0 : Int)), (1, .int .i64 z), (2, .string s), (3, .int .u64 (m1 : Int)), (8, .bool false), (9, .bool true), (19, .bool false)]) (by kernel_rfl) ?_
    refine WQ.thenN ?_
    refine WE.condF (by kernel_rfl) ?_
    refine WE.skip ?_
    refine WQ.thenN ?_
    refine WE.seq ?_
    have hLl : L.length ≤ 1000000000 := by omega
    have e3 := e3 (by omega)
    -- R4 law.go:89
    refine WE.region ?_
    refine WO.run 1 0 [(21, .int .u64 (m0 : Int))] (by kernel_rfl) (by kernel_rfl) ?_
    refine WO.call (SQ.E 1 (by kernel_rfl)) 22 (by kernel_rfl) (num_w m0 none 0 0 [] [] _ (VX.nil _ _) rfl (by simp) hm0) ?_
    rintro _ w4 ⟨b6, cap7, rfl, HR8, F5, le9⟩
    refine ⟨_, rfl, trivial, ?_⟩
    have ne_0_b6 : 0 ≠ b6 := Nat.ne_of_lt (Nat.lt_of_lt_of_le HE.lt le9)
    have ge_HA_b6 := Nat.le_trans HA.size le9
    have HE := HE.keep F5 (nin0 _)
    have HA := Fr.step0 HA F5
    refine WO.run 1 2 [(23, .int .i64 z)] (by kernel_rfl) (by kernel_rfl) ?_
    refine WO.call (SQ.E 3 (by kernel_rfl)) 24 (by kernel_rfl) (whole_w z (some ⟨b6, 0, none⟩) (([] ++ enc m0).length) cap7 ([] ++ enc m0) [b6] _ (VX.of_row HR8) rfl (by simp only [List.length_append, List.length_nil]; omega) hz) ?_
    rintro _ w10 ⟨b12, cap13, rfl, HR14, F11, le15⟩
    refine ⟨_, rfl, trivial, ?_⟩
    have ne_b6_b12 : b6 ≠ b12 := Nat.ne_of_lt (Nat.lt_of_lt_of_le HR8.lt le15)
    have ne_0_b12 : 0 ≠ b12 := Nat.ne_of_lt (Nat.lt_of_lt_of_le HE.lt le15)
    have ge_HA_b12 := Nat.le_trans HA.size le15
    have HR8 := RowB.keep HR8 F11 (nin0 _)
    have HE := HE.keep F11 (nin0 _)
    have HA := Fr.step0 HA F11
    refine WO.run 1 4 [(25, .string s)] (by kernel_rfl) (by kernel_rfl) ?_
    refine WO.call (SQ.E 5 (by kernel_rfl)) 26 (by kernel_rfl) (text_w s (some ⟨b12, 0, none⟩) (([] ++ enc m0 ++ enc (zig z)).length) cap13 ([] ++ enc m0 ++ enc (zig z)) [b12] _ (VX.of_row HR14) rfl (by simp only [List.length_append, List.length_nil]; omega) (by omega)) ?_
    rintro _ w16 ⟨b18, cap19, rfl, HR20, F17, le21⟩
    refine ⟨_, rfl, trivial, ?_⟩
    have ne_b6_b18 : b6 ≠ b18 := Nat.ne_of_lt (Nat.lt_of_lt_of_le HR8.lt le21)
    have ne_b12_b18 : b12 ≠ b18 := Nat.ne_of_lt (Nat.lt_of_lt_of_le HR14.lt le21)
    have ne_0_b18 : 0 ≠ b18 := Nat.ne_of_lt (Nat.lt_of_lt_of_le HE.lt le21)
    have ge_HA_b18 := Nat.le_trans HA.size le21
    have HR8 := RowB.keep HR8 F17 (nin0 _)
    have HR14 := RowB.keep HR14 F17 (nin0 _)
    have HE := HE.keep F17 (nin0 _)
    have HA := Fr.step0 HA F17
    refine WO.run 1 6 [(27, .int .u64 (m1 : Int))] (by kernel_rfl) (by kernel_rfl) ?_
    refine WO.call (SQ.E 7 (by kernel_rfl)) 28 (by kernel_rfl) (num_w m1 (some ⟨b18, 0, none⟩) (([] ++ enc m0 ++ enc (zig z) ++ encT (bs s)).length) cap19 ([] ++ enc m0 ++ enc (zig z) ++ encT (bs s)) [b18] _ (VX.of_row HR20) rfl (by simp only [List.length_append, List.length_nil]; omega) hm1) ?_
    rintro _ w22 ⟨b24, cap25, rfl, HR26, F23, le27⟩
    rw [← hL] at HR26 ⊢
    refine ⟨_, rfl, trivial, ?_⟩
    have ne_b6_b24 : b6 ≠ b24 := Nat.ne_of_lt (Nat.lt_of_lt_of_le HR8.lt le27)
    have ne_b12_b24 : b12 ≠ b24 := Nat.ne_of_lt (Nat.lt_of_lt_of_le HR14.lt le27)
    have ne_b18_b24 : b18 ≠ b24 := Nat.ne_of_lt (Nat.lt_of_lt_of_le HR20.lt le27)
    have ne_0_b24 : 0 ≠ b24 := Nat.ne_of_lt (Nat.lt_of_lt_of_le HE.lt le27)
    have ge_HA_b24 := Nat.le_trans HA.size le27
    have HR8 := RowB.keep HR8 F23 (nin0 _)
    have HR14 := RowB.keep HR14 F23 (nin0 _)
    have HR20 := RowB.keep HR20 F23 (nin0 _)
    have HE := HE.keep F23 (nin0 _)
    have HA := Fr.step0 HA F23
    refine WO.run 1 8 [(10, .slice (some ⟨b24, 0, none⟩) L.length cap25)] (by kernel_rfl) (by kernel_rfl) ?_
    refine WO.done (by kernel_rfl) ?_
    refine WQ.keep [0, 1, 2, 3, 8, 9, 10, 19] (e' := [(0, .int .u64 (m0 : Int)), (1, .int .i64 z), (2, .string s), (3, .int .u64 (m1 : Int)), (8, .bool false), (9, .bool true), (10, .slice (some ⟨b24, 0, none⟩) L.length cap25), (19, .bool false)]) (by kernel_rfl) ?_
    refine WQ.thenN ?_
    refine WE.seq ?_
    -- R5 law.go:90
    refine WE.region ?_
    refine WO.run 1 0 [(29, .slice (some ⟨b24, 0, none⟩) L.length cap25)] (by kernel_rfl) (by kernel_rfl) ?_
    refine WO.call (SQ.E 1 (by kernel_rfl)) 30 (by kernel_rfl) (read_any (some ⟨b24, 0, none⟩) L.length cap25 _) ?_
    rintro _ w28 ⟨g30, rfl, HB31, F29, le32⟩
    refine ⟨_, rfl, trivial, ?_⟩
    have ne_b24_g30 : b24 ≠ g30 := Nat.ne_of_lt (Nat.lt_of_lt_of_le HR26.lt le32)
    have ne_0_g30 : 0 ≠ g30 := Nat.ne_of_lt (Nat.lt_of_lt_of_le HE.lt le32)
    have ge_HA_g30 := Nat.le_trans HA.size le32
    have HR26 := RowB.keep HR26 F29 (nin0 _)
    have HE := HE.keep F29 (nin0 _)
    have HA := Fr.step0 HA F29
    refine WO.run 1 2 [(11, .pointer (some ⟨g30, 0, none⟩))] (by kernel_rfl) (by kernel_rfl) ?_
    refine WO.done (by kernel_rfl) ?_
    refine WQ.keep [0, 1, 2, 3, 8, 9, 10, 11, 19] (e' := [(0, .int .u64 (m0 : Int)), (1, .int .i64 z), (2, .string s), (3, .int .u64 (m1 : Int)), (8, .bool false), (9, .bool true), (10, .slice (some ⟨b24, 0, none⟩) L.length cap25), (11, .pointer (some ⟨g30, 0, none⟩)), (19, .bool false)]) (by kernel_rfl) ?_
    refine WQ.thenN ?_
    refine WE.seq ?_
    refine WE.seq ?_
    -- R6 law.go:91
    refine WE.region ?_
    refine WO.run 2 0 [(32, .bool false), (31, .pointer (some ⟨g30, 0, none⟩))] (by kernel_rfl) (by kernel_rfl) ?_
    refine WO.done (by kernel_rfl) ?_
    refine WQ.keep [0, 1, 2, 3, 8, 9, 10, 11, 19, 32] (e' := [(0, .int .u64 (m0 : Int)), (1, .int .i64 z), (2, .string s), (3, .int .u64 (m1 : Int)), (8, .bool false), (9, .bool true), (10, .slice (some ⟨b24, 0, none⟩) L.length cap25), (11, .pointer (some ⟨g30, 0, none⟩)), (19, .bool false), (32, .bool false)]) (by kernel_rfl) ?_
    refine WQ.thenN ?_
    refine WE.condF (by kernel_rfl) ?_
    refine WE.skip ?_
    refine WQ.thenN ?_
    refine WE.seq ?_
    -- R8 law.go:94
    refine WE.region ?_
    refine WO.run 1 0 [(33, .pointer (some ⟨g30, 0, none⟩))] (by kernel_rfl) (by kernel_rfl) ?_
    have HRd := Rd.ok (p := 0) HB31
    have hg_ : g30 ∉ [b24] := by simpa using (Ne.symm ne_b24_g30)
    refine WO.call (SQ.E 1 (by kernel_rfl)) 34 (by kernel_rfl) (rnum_any g30 (⟨0, false⟩) (some ⟨b24, 0, none⟩) L.length cap25 L [b24] _ (VX.of_row HR26) rfl (by have := HR26.le; rwa [List.length_map] at this) hLl hg_ HRd ok0) ?_
    rintro _ w33 ⟨rfl, HRn, F34⟩
    rw [e1] at HRn ⊢
    refine ⟨_, rfl, trivial, ?_⟩
    have HR26 := RowB.keep HR26 F34 (ninC ne_b24_g30 (nin0 _))
    have HE := HE.keep F34 (ninC ne_0_g30 (nin0 _))
    have HA := Fr.step HA F34 (inSR ge_HA_g30 inS0)
    have HRd := HRn
    refine WO.run 1 2 [(12, .int .u64 (m0 : Int))] (by kernel_rfl) (by kernel_rfl) ?_
    refine WO.done (by kernel_rfl) ?_
    refine WQ.keep [0, 1, 2, 3, 8, 9, 10, 11, 12, 19, 32] (e' := [(0, .int .u64 (m0 : Int)), (1, .int .i64 z), (2, .string s), (3, .int .u64 (m1 : Int)), (8, .bool false), (9, .bool true), (10, .slice (some ⟨b24, 0, none⟩) L.length cap25), (11, .pointer (some ⟨g30, 0, none⟩)), (12, .int .u64 (m0 : Int)), (19, .bool false), (32, .bool false)]) (by kernel_rfl) ?_
    refine WQ.thenN ?_
    refine WE.seq ?_
    -- R9 law.go:95
    refine WE.region ?_
    refine WO.run 1 0 [(35, .pointer (some ⟨g30, 0, none⟩))] (by kernel_rfl) (by kernel_rfl) ?_
    refine WO.call (SQ.E 1 (by kernel_rfl)) 36 (by kernel_rfl) (rwhole_any g30 (⟨(enc m0).length, false⟩) (some ⟨b24, 0, none⟩) L.length cap25 L [b24] _ (VX.of_row HR26) rfl (by have := HR26.le; rwa [List.length_map] at this) hLl hg_ HRd ok1) ?_
    rintro _ w35 ⟨rfl, HRn, F36⟩
    rw [e2] at HRn ⊢
    refine ⟨_, rfl, trivial, ?_⟩
    have HR26 := RowB.keep HR26 F36 (ninC ne_b24_g30 (nin0 _))
    have HE := HE.keep F36 (ninC ne_0_g30 (nin0 _))
    have HA := Fr.step HA F36 (inSR ge_HA_g30 inS0)
    have HRd := HRn
    refine WO.run 1 2 [(13, .int .i64 z)] (by kernel_rfl) (by kernel_rfl) ?_
    refine WO.done (by kernel_rfl) ?_
    refine WQ.keep [0, 1, 2, 3, 8, 9, 10, 11, 12, 13, 19, 32] (e' := [(0, .int .u64 (m0 : Int)), (1, .int .i64 z), (2, .string s), (3, .int .u64 (m1 : Int)), (8, .bool false), (9, .bool true), (10, .slice (some ⟨b24, 0, none⟩) L.length cap25), (11, .pointer (some ⟨g30, 0, none⟩)), (12, .int .u64 (m0 : Int)), (13, .int .i64 z), (19, .bool false), (32, .bool false)]) (by kernel_rfl) ?_
    refine WQ.thenN ?_
    refine WE.seq ?_
    -- R10 law.go:96
    refine WE.region ?_
    refine WO.run 3 0 [(39, .int .i64 (s.size : Int)), (38, .string s), (37, .pointer (some ⟨g30, 0, none⟩))] (by kernel_rfl) (by kernel_rfl) ?_
    refine WO.call (SQ.E 3 (by kernel_rfl)) 40 (by kernel_rfl) (rtext_any g30 (⟨(enc m0 ++ enc (zig z)).length, false⟩) (s.size : Int) (some ⟨b24, 0, none⟩) L.length cap25 L [b24] _ (VX.of_row HR26) rfl (by have := HR26.le; rwa [List.length_map] at this) hLl hg_ HRd ok2 (by omega)) ?_
    rintro _ w37 ⟨rfl, HRn, F38⟩
    rw [e3] at HRn ⊢
    refine ⟨_, rfl, trivial, ?_⟩
    have HR26 := RowB.keep HR26 F38 (ninC ne_b24_g30 (nin0 _))
    have HE := HE.keep F38 (ninC ne_0_g30 (nin0 _))
    have HA := Fr.step HA F38 (inSR ge_HA_g30 inS0)
    have HRd := HRn
    refine WO.run 1 4 [(14, .string (str (bs s)))] (by kernel_rfl) (by kernel_rfl) ?_
    refine WO.done (by kernel_rfl) ?_
    refine WQ.keep [0, 1, 2, 3, 8, 9, 10, 11, 12, 13, 14, 19, 32] (e' := [(0, .int .u64 (m0 : Int)), (1, .int .i64 z), (2, .string s), (3, .int .u64 (m1 : Int)), (8, .bool false), (9, .bool true), (10, .slice (some ⟨b24, 0, none⟩) L.length cap25), (11, .pointer (some ⟨g30, 0, none⟩)), (12, .int .u64 (m0 : Int)), (13, .int .i64 z), (14, .string (str (bs s))), (19, .bool false), (32, .bool false)]) (by kernel_rfl) ?_
    refine WQ.thenN ?_
    refine WE.seq ?_
    -- R11 law.go:97
    refine WE.region ?_
    refine WO.run 1 0 [(41, .pointer (some ⟨g30, 0, none⟩))] (by kernel_rfl) (by kernel_rfl) ?_
    refine WO.call (SQ.E 1 (by kernel_rfl)) 42 (by kernel_rfl) (rnum_any g30 (⟨(enc m0 ++ enc (zig z) ++ encT (bs s)).length, false⟩) (some ⟨b24, 0, none⟩) L.length cap25 L [b24] _ (VX.of_row HR26) rfl (by have := HR26.le; rwa [List.length_map] at this) hLl hg_ HRd ok3) ?_
    rintro _ w39 ⟨rfl, HRn, F40⟩
    rw [e4] at HRn ⊢
    refine ⟨_, rfl, trivial, ?_⟩
    have HR26 := RowB.keep HR26 F40 (ninC ne_b24_g30 (nin0 _))
    have HE := HE.keep F40 (ninC ne_0_g30 (nin0 _))
    have HA := Fr.step HA F40 (inSR ge_HA_g30 inS0)
    have HRd := HRn
    refine WO.run 1 2 [(15, .int .u64 (m1 : Int))] (by kernel_rfl) (by kernel_rfl) ?_
    refine WO.done (by kernel_rfl) ?_
    refine WQ.keep [0, 1, 2, 3, 8, 9, 10, 11, 12, 13, 14, 15, 19, 32] (e' := [(0, .int .u64 (m0 : Int)), (1, .int .i64 z), (2, .string s), (3, .int .u64 (m1 : Int)), (8, .bool false), (9, .bool true), (10, .slice (some ⟨b24, 0, none⟩) L.length cap25), (11, .pointer (some ⟨g30, 0, none⟩)), (12, .int .u64 (m0 : Int)), (13, .int .i64 z), (14, .string (str (bs s))), (15, .int .u64 (m1 : Int)), (19, .bool false), (32, .bool false)]) (by kernel_rfl) ?_
    refine WQ.thenN ?_
    refine WE.seq ?_
    -- R12 law.go:98
    refine WE.region ?_
    refine WO.run 4 0 [(46, .int .u64 (m0 : Int)), (45, .int .u64 (m0 : Int)), (44, .bool true), (43, .bool true)] (by kernel_rfl) (by kernel_rfl) ?_
    refine WO.one (SQ.F 4 (by kernel_rfl)) 47 (.bool (decide (((m0 : Int) : Int) = (m0 : Int)))) (by kernel_rfl) ?_
    refine WO.topPT (((m0 : Int) : Int) = (m0 : Int)) (by rfl) ?_
    refine WO.run 4 5 [(51, .int .i64 z), (50, .int .i64 z), (49, .bool true), (48, .bool true)] (by kernel_rfl) (by kernel_rfl) ?_
    refine WO.one (SQ.F 9 (by kernel_rfl)) 52 (.bool (decide ((z : Int) = z))) (by kernel_rfl) ?_
    refine WO.topPT ((z : Int) = z) (by rfl) ?_
    refine WO.run 4 10 [(56, .string s), (55, .string (str (bs s))), (54, .bool true), (53, .bool true)] (by kernel_rfl) (by kernel_rfl) ?_
    refine WO.one (SQ.F 14 (by kernel_rfl)) 57 (.bool ((str (bs s)).toList == s.toList)) (by kernel_rfl) ?_
    refine WO.top (v' := .bool (decide ((str (bs s)) = s))) (congrArg Value.bool (streq (str (bs s)) s)) ?_
    refine WO.topPT ((str (bs s)) = s) (by exact str_bs s) ?_
    refine WO.run 4 15 [(61, .int .u64 (m1 : Int)), (60, .int .u64 (m1 : Int)), (59, .bool true), (58, .bool true)] (by kernel_rfl) (by kernel_rfl) ?_
    refine WO.one (SQ.F 19 (by kernel_rfl)) 62 (.bool (decide (((m1 : Int) : Int) = (m1 : Int)))) (by kernel_rfl) ?_
    refine WO.topPT (((m1 : Int) : Int) = (m1 : Int)) (by rfl) ?_
    refine WO.run 3 20 [(65, .pointer (some ⟨g30, 0, none⟩)), (64, .bool true), (63, .bool true)] (by kernel_rfl) (by kernel_rfl) ?_
    refine WO.call (SQ.E 23 (by kernel_rfl)) 66 (by kernel_rfl) (rend_any g30 ⟨L.length, false⟩ (some ⟨b24, 0, none⟩) L.length cap25 L _ rfl HRd) ?_
    rintro _ w41 ⟨hx_, HRn, F42⟩
    rw [rEnd_eq (Nat.lt_irrefl _)] at hx_
    rcases hx_ with ⟨_, rfl⟩ | ⟨hx_, _⟩
    case inr => cases hx_
    refine ⟨_, rfl, trivial, ?_⟩
    have HR26 := RowB.keep HR26 F42 (ninC ne_b24_g30 (nin0 _))
    have HE := HE.keep F42 (ninC ne_0_g30 (nin0 _))
    have HA := Fr.step HA F42 (inSR ge_HA_g30 inS0)
    refine WO.run 3 24 [(8, .bool true), (68, .bool true), (67, .bool true)] (by kernel_rfl) (by kernel_rfl) ?_
    refine WO.done (by kernel_rfl) ?_
    refine WQ.keep [0, 1, 2, 3, 8, 9, 10, 11, 12, 13, 14, 15, 19, 32] (e' := [(0, .int .u64 (m0 : Int)), (1, .int .i64 z), (2, .string s), (3, .int .u64 (m1 : Int)), (8, .bool true), (9, .bool true), (10, .slice (some ⟨b24, 0, none⟩) L.length cap25), (11, .pointer (some ⟨g30, 0, none⟩)), (12, .int .u64 (m0 : Int)), (13, .int .i64 z), (14, .string (str (bs s))), (15, .int .u64 (m1 : Int)), (19, .bool false), (32, .bool false)]) (by kernel_rfl) ?_
    refine WQ.thenN ?_
    refine WE.ret ?_
    refine WQ.ret (v := .bool true) (by kernel_rfl) ?_
    exact ⟨rfl, HA⟩
end Go.Proofs.YtjnjkgoofkgiiaaDoor.Wire
