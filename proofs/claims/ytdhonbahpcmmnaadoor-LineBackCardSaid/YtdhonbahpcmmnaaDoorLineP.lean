/- Layer 4's walks: the document's Head, Number, Print. -/
import Derived.Test.YtdhonbahpcmmnaaDoorLineW
set_option linter.unusedVariables false
set_option linter.unusedSimpArgs false
namespace Go.Proofs.YtdhonbahpcmmnaaDoor.Line
open Go Go.RowKit Go.Proofs.YtdhonbahpcmmnaaDoor Go.Proofs.YtdhonbahpcmmnaaDoor.Eng Go.Proofs.YtdhonbahpcmmnaaDoorW.PrintWords
def dig (n : Nat) : UInt8 := UInt8.ofNat (48 + n)
theorem dig_u8 (n : Nat) (h : n < 10) : IntKind.u8.wrap ((48 + n : Nat) : Int) = ((dig n).toNat : Int) := by
 unfold dig
 rw [UInt8.toNat_ofNat']
 show (((48 + n : Nat) : Int)) % 256 = _
 omega
theorem digs_lo {n : Nat} (h : n < 10) : digs n = [dig (n % 10)] := by
 rw [digs, dif_pos h]
 unfold dig
 rw [Nat.mod_eq_of_lt h]
theorem digs_hi {n : Nat} (h : ¬ n < 10) : digs n = digs (n / 10) ++ [dig (n % 10)] := by
 rw [digs, dif_neg h]
 rfl
theorem digs_len : ∀ (k n : Nat), n < 10 ^ (k + 1) → (digs n).length ≤ k + 1
 | 0, n, h => by
  rw [digs_lo (by simpa using h)]
  simp
 | k + 1, n, h => by
  by_cases hn : n < 10
  ·
   rw [digs_lo hn]
   simp
  ·
   rw [digs_hi hn, List.length_append]
   have := digs_len k (n / 10) (by rw [Nat.pow_succ] at h; omega)
   simp only [List.length_cons, List.length_nil]
   omega
theorem num_len (z : Int) (h : -9223372036854775808 ≤ z ∧ z ≤ 9223372036854775807) : (numT z).length ≤ 21 := by
 unfold numT
 split
 ·
  have := digs_len 19 z.natAbs (by omega)
  simp only [List.length_cons]
  omega
 ·
  have := digs_len 19 z.toNat (by omega)
  omega
def tagT (t : L × L) : L := 44 :: t.1 ++ (61 :: t.2)
def hd (ev : Ev) (i : Nat) : L := ev.name ++ ((ev.tags.take i).map tagT).flatten
theorem hd_0 (ev : Ev) : hd ev 0 = ev.name := by simp [hd]
theorem hd_s (ev : Ev) (i : Nat) (h : i < ev.tags.length) : hd ev (i + 1) = hd ev i ++ (44 :: (gT ev.tags i).1 ++ (61 :: (gT ev.tags i).2)) := by
 unfold hd
 rw [List.take_add_one, gT_some ev.tags i h]
 simp [tagT]
theorem hd_all (ev : Ev) : hd ev ev.tags.length = headT ev := by
 unfold hd headT
 rw [List.take_length]
 rfl
theorem few_n {ev : Ev} (h : fewE ev = true) : ev.tags.length ≤ 20 ∧ ev.name.length ≤ 100 := by
 unfold fewE at h
 simp only [Bool.and_eq_true, decide_eq_true_eq] at h
 omega
theorem few_tag {ev : Ev} (h : fewE ev = true) (i : Nat) (hi : i < ev.tags.length) : (gT ev.tags i).1.length ≤ 100 ∧ (gT ev.tags i).2.length ≤ 100 := by
 unfold fewE at h
 simp only [Bool.and_eq_true] at h
 have := all_gT.1 h.1.1 i hi
 simpa using this
theorem hd_len {ev : Ev} (h : fewE ev = true) : ∀ i, i ≤ ev.tags.length → (hd ev i).length ≤ 100 + i * 202
 | 0, _ => by
  rw [hd_0]
  have := few_n h
  omega
 | i + 1, hi => by
  have h1 := hd_len h i (by omega)
  have h2 := few_tag h i (by omega)
  rw [hd_s ev i (by omega)]
  simp only [List.length_append, List.length_cons]
  omega
theorem head_len {ev : Ev} (h : fewE ev = true) : (headT ev).length ≤ 5000 := by
 have h1 := hd_len h ev.tags.length (Nat.le_refl _)
 have h2 := few_n h
 rw [hd_all] at h1
 omega
theorem letter_eq {k : Int} (h : 1 ≤ k ∧ k ≤ 3) : (([99, 103, 104] : List UInt8).take k.toNat).drop (k - 1).toNat = letter k := by
 have : k = 1 ∨ k = 2 ∨ k = 3 := by omega
 rcases this with rfl | rfl | rfl <;> rfl
set_option maxRecDepth 100000 in
set_option maxHeartbeats 400000 in
theorem digs_f (n : Nat) (w : World) (hn : n < 18446744073709551616) :
  Calls Tryd.prog 67 #[.int .u64 (n : Int)] w fun e w' => e = .returned (.string (str (digs n))) ∧ Fr [] w w' := by
 induction n using Nat.strongRecOn generalizing w with
 | _ n ih =>
 have hdl := digs_len 19 (n / 10) (by omega)
 have HA := Fr.refl [] w
 refine enter (N := 18) Tryd.func67 (c := _) rfl (by kernel_rfl) (by kernel_rfl) (e := [(0, .int .u64 (n : Int))]) (by kernel_rfl) ?_
 refine WE.seq ?_
 refine WE.region ?_
 refine WO.run 1 0 [(2, .string (⟨#[]⟩))] (by kernel_rfl) (by kernel_rfl) ?_
 refine WO.done (by kernel_rfl) ?_
 refine WQ.keep [0, 2] (e' := [(0, .int .u64 (n : Int)), (2, .string (⟨#[]⟩))]) (by kernel_rfl) ?_
 refine WQ.thenN ?_
 refine WE.seq ?_
 refine WE.region ?_
 refine WO.run 1 0 [(4, .int .u64 (n : Int))] (by kernel_rfl) (by kernel_rfl) ?_
 refine WO.one (SQ.F 1 (by kernel_rfl)) 5 (.int .u64 (((n : Int) : Int).tmod 10)) (by kernel_rfl) ?_
 refine WO.top (v' := .int .u64 ((n % 10 : Nat) : Int)) (congrArg (Value.int .u64) (Int.tmod_eq_emod_of_nonneg (by omega))) ?_
 refine WO.one (SQ.F 2 (by kernel_rfl)) 6 (.int .u64 (IntKind.u64.wrap (48 + ((n % 10 : Nat) : Int)))) (by kernel_rfl) ?_
 refine WO.top (v' := .int .u64 ((48 + (n % 10) : Nat) : Int)) (wrap_u64 (by omega) (by omega)) ?_
 refine WO.one (SQ.F 3 (by kernel_rfl)) 7 (.int .u8 (IntKind.u8.wrap ((48 + (n % 10) : Nat) : Int))) (by kernel_rfl) ?_
 refine WO.top (v' := .int .u8 ((dig (n % 10)).toNat : Int)) (congrArg (Value.int .u8) (dig_u8 _ (by omega))) ?_
 refine WO.bx (SQ.E 4 (by kernel_rfl)) 8 #[.int .u8 ((dig (n % 10)).toNat : Int)] 5 (fun g => .slice (some ⟨g, 0, none⟩) 1 1) (by kernel_rfl) (fun _ _ => trivial) ?_
 intro g1 w2 HB4 F3 le5 _
 have ge_HA_g1 := Nat.le_trans HA.size le5
 have HA := Fr.step0 HA F3
 refine WO.b2s (v := .slice (some ⟨g1, 0, none⟩) 1 1) (SQ.S 5 (by kernel_rfl)) 9 byt ([(dig (n % 10))]) (n := 1) (by first | rfl | (simp; done) | omega | (simp; omega)) (by kernel_rfl) (same (RowB.src (RowB.of_blk (n := 1) HB4 (List.map cB [(dig (n % 10))]) rfl rfl (cB_len _) (cB_one _) (by omega)))) ?_
 refine WO.run 1 6 [(3, .string (str ([(dig (n % 10))])))] (by kernel_rfl) (by kernel_rfl) ?_
 refine WO.done (by kernel_rfl) ?_
 refine WQ.keep [0, 2, 3] (e' := [(0, .int .u64 (n : Int)), (2, .string (⟨#[]⟩)), (3, .string (str ([(dig (n % 10))])))]) (by kernel_rfl) ?_
 refine WQ.thenN ?_
 refine WE.seq ?_
 refine WE.seq ?_
 refine WE.region ?_
 refine WO.run 1 0 [(10, .int .u64 (n : Int))] (by kernel_rfl) (by kernel_rfl) ?_
 refine WO.one (SQ.F 1 (by kernel_rfl)) 11 (.bool (decide (((n : Int) : Int) < (10 : Int)))) (by kernel_rfl) ?_
 refine WO.topP (((n : Int) : Int) < (10 : Int)) ?_ ?_
 ·
  intro h6
  refine WO.done (by kernel_rfl) ?_
  refine WQ.keep [0, 2, 3, 11] (e' := [(0, .int .u64 (n : Int)), (2, .string (⟨#[]⟩)), (3, .string (str ([(dig (n % 10))]))), (11, .bool true)]) (by kernel_rfl) ?_
  refine WQ.thenN ?_
  refine WE.condT (by kernel_rfl) ?_
  refine WE.seq ?_
  refine WE.region ?_
  refine WO.run 2 0 [(2, .string (str ([(dig (n % 10))]))), (12, .string (str ([(dig (n % 10))])))] (by kernel_rfl) (by kernel_rfl) ?_
  refine WO.done (by kernel_rfl) ?_
  refine WQ.keep [0, 2, 3, 11] (e' := [(0, .int .u64 (n : Int)), (2, .string (str ([(dig (n % 10))]))), (3, .string (str ([(dig (n % 10))]))), (11, .bool true)]) (by kernel_rfl) ?_
  refine WQ.thenN ?_
  refine WE.ret ?_
  refine WQ.thenR ?_
  refine WQ.ret (v := .string (str ([(dig (n % 10))]))) (by kernel_rfl) ?_
  exact ⟨by rw [digs_lo (n := n) (by omega)], HA⟩
 intro h6
 refine WO.done (by kernel_rfl) ?_
 refine WQ.keep [0, 2, 3, 11] (e' := [(0, .int .u64 (n : Int)), (2, .string (⟨#[]⟩)), (3, .string (str ([(dig (n % 10))]))), (11, .bool false)]) (by kernel_rfl) ?_
 refine WQ.thenN ?_
 refine WE.condF (by kernel_rfl) ?_
 refine WE.skip ?_
 refine WQ.thenN ?_
 refine WE.seq ?_
 refine WE.region ?_
 refine WO.run 1 0 [(13, .int .u64 (n : Int))] (by kernel_rfl) (by kernel_rfl) ?_
 refine WO.one (SQ.F 1 (by kernel_rfl)) 14 (.int .u64 (IntKind.u64.wrap (((n : Int) : Int).tdiv 10))) (by kernel_rfl) ?_
 refine WO.top (v' := .int .u64 ((n / 10 : Nat) : Int)) (congrArg (Value.int .u64) (IntWalk.u64_quo _ _ (by omega))) ?_
 refine WO.call (SQ.E 2 (by kernel_rfl)) 15 (by kernel_rfl) (ih (n / 10) (by omega) _ (by omega)) ?_
 rintro _ w7 ⟨rfl, F8⟩
 refine ⟨_, rfl, trivial, ?_⟩
 have HB4 := Blk.keep HB4 F8 (nin0 _)
 have HA := Fr.step0 HA F8
 refine WO.run 1 3 [(16, .string (str ([(dig (n % 10))])))] (by kernel_rfl) (by kernel_rfl) ?_
 refine WO.cat (SQ.F 4 (by kernel_rfl)) 17 (str (digs (n / 10))) (str ([(dig (n % 10))])) (by kernel_rfl) (by simp only [str_size, List.length_cons, List.length_nil]; omega) ?_
 refine WO.top (v' := .string (str ((digs (n / 10)) ++ ([(dig (n % 10))])))) (congrArg Value.string (str_app _ _)) ?_
 refine WO.run 1 5 [(2, .string (str ((digs (n / 10)) ++ ([(dig (n % 10))]))))] (by kernel_rfl) (by kernel_rfl) ?_
 refine WO.done (by kernel_rfl) ?_
 refine WQ.keep [0, 2, 3, 11] (e' := [(0, .int .u64 (n : Int)), (2, .string (str ((digs (n / 10)) ++ ([(dig (n % 10))])))), (3, .string (str ([(dig (n % 10))]))), (11, .bool false)]) (by kernel_rfl) ?_
 refine WQ.thenN ?_
 refine WE.ret ?_
 refine WQ.ret (v := .string (str ((digs (n / 10)) ++ ([(dig (n % 10))])))) (by kernel_rfl) ?_
 exact ⟨by rw [digs_hi (n := n) (by omega)], HA⟩
set_option maxRecDepth 100000 in
set_option maxHeartbeats 400000 in
theorem num_f (z : Int) (w : World) (hz : -9223372036854775808 ≤ z ∧ z ≤ 9223372036854775807) :
  Calls Tryd.prog 49 #[.int .i64 z] w fun e w' => e = .returned (.string (str (numT z))) ∧ Fr [] w w' := by
 have HA := Fr.refl [] w
 refine enter (N := 13) Tryd.func49 (c := _) rfl (by kernel_rfl) (by kernel_rfl) (e := [(0, .int .i64 z)]) (by kernel_rfl) ?_
 refine WE.seq ?_
 refine WE.region ?_
 refine WO.run 1 0 [(2, .string (⟨#[]⟩))] (by kernel_rfl) (by kernel_rfl) ?_
 refine WO.done (by kernel_rfl) ?_
 refine WQ.keep [0, 2] (e' := [(0, .int .i64 z), (2, .string (⟨#[]⟩))]) (by kernel_rfl) ?_
 refine WQ.thenN ?_
 refine WE.seq ?_
 refine WE.seq ?_
 refine WE.region ?_
 refine WO.run 1 0 [(3, .int .i64 z)] (by kernel_rfl) (by kernel_rfl) ?_
 refine WO.one (SQ.F 1 (by kernel_rfl)) 4 (.bool (decide ((z : Int) < 0))) (by kernel_rfl) ?_
 refine WO.topP ((z : Int) < 0) ?_ ?_
 ·
  intro h1
  refine WO.done (by kernel_rfl) ?_
  refine WQ.keep [0, 2, 4] (e' := [(0, .int .i64 z), (2, .string (⟨#[]⟩)), (4, .bool true)]) (by kernel_rfl) ?_
  refine WQ.thenN ?_
  refine WE.condT (by kernel_rfl) ?_
  refine WE.seq ?_
  refine WE.region ?_
  refine WO.run 1 0 [(5, .int .i64 z)] (by kernel_rfl) (by kernel_rfl) ?_
  refine WO.one (SQ.F 1 (by kernel_rfl)) 6 (.int .u64 (IntKind.u64.wrap z)) (by kernel_rfl) ?_
  refine WO.top (v' := .int .u64 (z + 18446744073709551616)) (congrArg (Value.int .u64) (by show z % 18446744073709551616 = _; omega)) ?_
  refine WO.one (SQ.F 2 (by kernel_rfl)) 7 (.int .u64 (IntKind.u64.wrap (0 - (z + 18446744073709551616)))) (by kernel_rfl) ?_
  refine WO.top (v' := .int .u64 ((z.natAbs : Nat) : Int)) (congrArg (Value.int .u64) (by show (0 - (z + 18446744073709551616)) % 18446744073709551616 = _; omega)) ?_
  refine WO.call (SQ.E 3 (by kernel_rfl)) 8 (by kernel_rfl) (digs_f z.natAbs _ (by omega)) ?_
  rintro _ w2 ⟨rfl, F3⟩
  refine ⟨_, rfl, trivial, ?_⟩
  have HA := Fr.step0 HA F3
  refine WO.cat (SQ.F 4 (by kernel_rfl)) 9 (str ([45] : List UInt8)) (str (digs z.natAbs)) (by kernel_rfl) (by have := digs_len 19 z.natAbs (by omega); simp only [str_size, List.length_cons, List.length_nil]; omega) ?_
  refine WO.top (v' := .string (str (([45] : List UInt8) ++ (digs z.natAbs)))) (congrArg Value.string (str_app _ _)) ?_
  refine WO.run 1 5 [(2, .string (str (([45] : List UInt8) ++ (digs z.natAbs))))] (by kernel_rfl) (by kernel_rfl) ?_
  refine WO.done (by kernel_rfl) ?_
  refine WQ.keep [0, 2, 4] (e' := [(0, .int .i64 z), (2, .string (str (([45] : List UInt8) ++ (digs z.natAbs)))), (4, .bool true)]) (by kernel_rfl) ?_
  refine WQ.thenN ?_
  refine WE.ret ?_
  refine WQ.thenR ?_
  refine WQ.ret (v := .string (str (([45] : List UInt8) ++ (digs z.natAbs)))) (by kernel_rfl) ?_
  exact ⟨by unfold numT; first | (rw [if_pos (by omega)]; rfl) | (rw [if_neg (by omega)]), HA⟩
 intro h1
 refine WO.done (by kernel_rfl) ?_
 refine WQ.keep [0, 2, 4] (e' := [(0, .int .i64 z), (2, .string (⟨#[]⟩)), (4, .bool false)]) (by kernel_rfl) ?_
 refine WQ.thenN ?_
 refine WE.condF (by kernel_rfl) ?_
 refine WE.skip ?_
 refine WQ.thenN ?_
 refine WE.seq ?_
 refine WE.region ?_
 refine WO.run 1 0 [(10, .int .i64 z)] (by kernel_rfl) (by kernel_rfl) ?_
 refine WO.one (SQ.F 1 (by kernel_rfl)) 11 (.int .u64 (IntKind.u64.wrap z)) (by kernel_rfl) ?_
 refine WO.top (v' := .int .u64 ((z.toNat : Nat) : Int)) (congrArg (Value.int .u64) (by show z % 18446744073709551616 = _; omega)) ?_
 refine WO.call (SQ.E 2 (by kernel_rfl)) 12 (by kernel_rfl) (digs_f z.toNat _ (by omega)) ?_
 rintro _ w4 ⟨rfl, F5⟩
 refine ⟨_, rfl, trivial, ?_⟩
 have HA := Fr.step0 HA F5
 refine WO.run 1 3 [(2, .string (str (digs z.toNat)))] (by kernel_rfl) (by kernel_rfl) ?_
 refine WO.done (by kernel_rfl) ?_
 refine WQ.keep [0, 2, 4] (e' := [(0, .int .i64 z), (2, .string (str (digs z.toNat))), (4, .bool false)]) (by kernel_rfl) ?_
 refine WQ.thenN ?_
 refine WE.ret ?_
 refine WQ.ret (v := .string (str (digs z.toNat))) (by kernel_rfl) ?_
 exact ⟨by unfold numT; first | (rw [if_pos (by omega)]; rfl) | (rw [if_neg (by omega)]), HA⟩
set_option maxRecDepth 100000 in
set_option maxHeartbeats 400000 in
theorem head_f (ev : Ev) (A : Option Addr) (n cp : Nat) (F : List Nat) (w : World) (HT : VX cT 2 w F A ev.tags) (hn : ev.tags.length = n) (hnn : n ≤ 9223372036854775807) (hfew : fewE ev = true) :
  Calls Tryd.prog 32 #[.agg #[.string (str ev.name), .slice A n cp, .int .i64 ev.kind, .int .i64 ev.value, .int .i64 ev.time]] w fun e w' => e = .returned (.string (str (headT ev))) ∧ Fr [] w w' := by
 have HA := Fr.refl [] w
 refine enter (N := 32) Tryd.func32 (c := _) rfl (by kernel_rfl) (by kernel_rfl) (e := [(0, .agg #[.string (str ev.name), .slice A n cp, .int .i64 ev.kind, .int .i64 ev.value, .int .i64 ev.time])]) (by kernel_rfl) ?_
 refine WE.seq ?_
 refine WE.region ?_
 refine WO.bx (SQ.E 0 (by kernel_rfl)) 1 #[.string (str ev.name), .slice A n cp, .int .i64 ev.kind, .int .i64 ev.value, .int .i64 ev.time] 25 (fun g => .pointer (some ⟨g, 0, none⟩)) (by kernel_rfl) (fun _ _ => trivial) ?_
 intro g1 w2 HB4 F3 le5 _
 have nin_g1_F : g1 ∉ F := new_nin HT.lt le5
 have ge_HA_g1 := Nat.le_trans HA.size le5
 have HT := HT.keep F3 (fun _ _ => nin0 _)
 have HA := Fr.step0 HA F3
 refine WO.run 1 1 [(2, .string (⟨#[]⟩))] (by kernel_rfl) (by kernel_rfl) ?_
 refine WO.done (by kernel_rfl) ?_
 refine WQ.keep [0, 1, 2] (e' := [(0, .agg #[.string (str ev.name), .slice A n cp, .int .i64 ev.kind, .int .i64 ev.value, .int .i64 ev.time]), (1, .pointer (some ⟨g1, 0, none⟩)), (2, .string (⟨#[]⟩))]) (by kernel_rfl) ?_
 refine WQ.thenN ?_
 refine WE.seq ?_
 refine WE.region ?_
 refine WO.run 1 0 [(5, .pointer (some ⟨g1, 0, none⟩))] (by kernel_rfl) (by kernel_rfl) ?_
 refine WO.ld (SQ.S 1 (by kernel_rfl)) 6 (.string (str ev.name)) (by kernel_rfl) (same (HB4.at 0 (by kernel_rfl))) ?_
 refine WO.run 1 2 [(3, .string (str ev.name))] (by kernel_rfl) (by kernel_rfl) ?_
 refine WO.done (by kernel_rfl) ?_
 refine WQ.keep [0, 1, 2, 3] (e' := [(0, .agg #[.string (str ev.name), .slice A n cp, .int .i64 ev.kind, .int .i64 ev.value, .int .i64 ev.time]), (1, .pointer (some ⟨g1, 0, none⟩)), (2, .string (⟨#[]⟩)), (3, .string (str ev.name))]) (by kernel_rfl) ?_
 refine WQ.thenN ?_
 refine WE.seq ?_
 refine WE.seq ?_
 refine WE.region ?_
 refine WO.run 1 0 [(4, .int .i64 0)] (by kernel_rfl) (by kernel_rfl) ?_
 refine WO.done (by kernel_rfl) ?_
 refine WQ.keep [0, 1, 2, 3, 4] (e' := [(0, .agg #[.string (str ev.name), .slice A n cp, .int .i64 ev.kind, .int .i64 ev.value, .int .i64 ev.time]), (1, .pointer (some ⟨g1, 0, none⟩)), (2, .string (⟨#[]⟩)), (3, .string (str ev.name)), (4, .int .i64 0)]) (by kernel_rfl) ?_
 refine WQ.thenN ?_
 refine WE.block ?_
 refine WE.env (e' := [(0, .agg #[.string (str ev.name), .slice A n cp, .int .i64 ev.kind, .int .i64 ev.value, .int .i64 ev.time]), (1, .pointer (some ⟨g1, 0, none⟩)), (2, .string (⟨#[]⟩)), (3, .string (str (hd ev 0))), (4, .int .i64 0)]) (by rw [hd_0]) ?_
 refine WE.loop (α := Nat) (E := fun i => [(0, .agg #[.string (str ev.name), .slice A n cp, .int .i64 ev.kind, .int .i64 ev.value, .int .i64 ev.time]), (1, .pointer (some ⟨g1, 0, none⟩)), (3, .string (str (hd ev i))), (4, .int .i64 (i : Int))]) (I := fun i wr => i ≤ n ∧ Blk wr g1 #[.string (str ev.name), .slice A n cp, .int .i64 ev.kind, .int .i64 ev.value, .int .i64 ev.time] 25 ∧ VX cT 2 wr F A ev.tags ∧ Fr [] w wr) (m := fun i => n - i) 0 [0, 1, 3, 4] (by kernel_rfl) ?_ ?_
 ·
  exact ⟨Nat.zero_le _, HB4, HT, HA⟩
 rintro i wr ⟨hi, HB, HT, HA⟩
 refine WE.seq ?_
 refine WE.seq ?_
 refine WE.region ?_
 refine WO.run 2 0 [(8, .pointer (some ⟨g1, 1, none⟩)), (7, .int .i64 (i : Int))] (by kernel_rfl) (by kernel_rfl) ?_
 refine WO.ld (SQ.S 2 (by kernel_rfl)) 9 (.slice A n cp) (by kernel_rfl) (same (HB.at 1 (by kernel_rfl))) ?_
 refine WO.run 1 3 [(10, .int .i64 (n : Int))] (by kernel_rfl) (by kernel_rfl) ?_
 refine WO.one (SQ.F 4 (by kernel_rfl)) 11 (.bool (decide (((i : Int) : Int) < (n : Int)))) (by kernel_rfl) ?_
 refine WO.topP (((i : Int) : Int) < (n : Int)) ?_ ?_
 ·
  intro h6
  refine WO.done (by kernel_rfl) ?_
  refine WQ.keep [0, 1, 3, 4, 11] (e' := [(0, .agg #[.string (str ev.name), .slice A n cp, .int .i64 ev.kind, .int .i64 ev.value, .int .i64 ev.time]), (1, .pointer (some ⟨g1, 0, none⟩)), (3, .string (str (hd ev i))), (4, .int .i64 (i : Int)), (11, .bool true)]) (by kernel_rfl) ?_
  refine WQ.thenN ?_
  refine WE.condT (by kernel_rfl) ?_
  refine WE.skip ?_
  refine WQ.thenN ?_
  refine WE.seq ?_
  refine WE.block ?_
  have hhl := hd_len hfew i (by omega)
  obtain ⟨ht1, ht2⟩ := few_tag hfew i (by omega)
  have hn20 := few_n hfew
  refine WE.draw [.free, .free, .free, .still, .free, .free, .free, .still, .free, .free, .free, .still, .free, .free, .free, .still, .free, .free] Same sameR (by kernel_rfl) 18 (Array.replicate 18 false) (by kernel_rfl) rfl ?_
  intro w7 F8 _
  have HB := Blk.keep HB F8 (nin0 _)
  have HT := HT.keep F8 (fun _ _ => nin0 _)
  have HA := Fr.step0 HA F8
  refine WO.one (SA.F sameR sameT _ 0 _ (by kernel_rfl)) 14 (.string (str (hd ev i))) (by kernel_rfl) ?_
  refine WO.cat (SA.F sameR sameT _ 1 _ (by kernel_rfl)) 15 (str (hd ev i)) (str ([44] : List UInt8)) (by kernel_rfl) (by simp only [str_size, List.length_append, List.length_cons, List.length_nil]; omega) ?_
  refine WO.top (v' := .string (str ((hd ev i) ++ ([44] : List UInt8)))) (congrArg Value.string (str_app _ _)) ?_
  refine WO.one (SA.F sameR sameT _ 2 _ (by kernel_rfl)) 16 (.pointer (some ⟨g1, 1, none⟩)) (by kernel_rfl) ?_
  refine WO.ld (SA.S sameR sameT _ 3 _ (by kernel_rfl)) 17 (.slice A n cp) (by kernel_rfl) (same (HB.at 1 (by kernel_rfl))) ?_
  refine WO.one (SA.F sameR sameT _ 4 _ (by kernel_rfl)) 18 (.int .i64 (i : Int)) (by kernel_rfl) ?_
  obtain ⟨ad9, hA10⟩ := HT.addr (i := i) (by have := hn; omega)
  refine WO.ixo (SA.F sameR sameT _ 5 _ (by kernel_rfl)) 19 n 2 i (i : Int) hA10 (by kernel_rfl) rfl (by omega) ?_
  refine WO.one (SA.F sameR sameT _ 6 _ (by kernel_rfl)) 20 (.pointer (some (ad9.add (i * 2)))) (by kernel_rfl) ?_
  refine WO.ld (SA.S sameR sameT _ 7 _ (by kernel_rfl)) 21 (.string (str (gT ev.tags i).1)) (by kernel_rfl) (same (HT.at0 hA10 (gT_some ev.tags i (by have := hn; omega)) (by kernel_rfl))) ?_
  refine WO.cat (SA.F sameR sameT _ 8 _ (by kernel_rfl)) 22 (str ((hd ev i) ++ ([44] : List UInt8))) (str (gT ev.tags i).1) (by kernel_rfl) (by simp only [str_size, List.length_append, List.length_cons, List.length_nil]; omega) ?_
  refine WO.top (v' := .string (str (((hd ev i) ++ ([44] : List UInt8)) ++ (gT ev.tags i).1))) (congrArg Value.string (str_app _ _)) ?_
  refine WO.cat (SA.F sameR sameT _ 9 _ (by kernel_rfl)) 23 (str (((hd ev i) ++ ([44] : List UInt8)) ++ (gT ev.tags i).1)) (str ([61] : List UInt8)) (by kernel_rfl) (by simp only [str_size, List.length_append, List.length_cons, List.length_nil]; omega) ?_
  refine WO.top (v' := .string (str ((((hd ev i) ++ ([44] : List UInt8)) ++ (gT ev.tags i).1) ++ ([61] : List UInt8)))) (congrArg Value.string (str_app _ _)) ?_
  refine WO.one (SA.F sameR sameT _ 10 _ (by kernel_rfl)) 24 (.pointer (some ⟨g1, 1, none⟩)) (by kernel_rfl) ?_
  refine WO.ld (SA.S sameR sameT _ 11 _ (by kernel_rfl)) 25 (.slice A n cp) (by kernel_rfl) (same (HB.at 1 (by kernel_rfl))) ?_
  refine WO.one (SA.F sameR sameT _ 12 _ (by kernel_rfl)) 26 (.int .i64 (i : Int)) (by kernel_rfl) ?_
  obtain ⟨ad11, hA12⟩ := HT.addr (i := i) (by have := hn; omega)
  refine WO.ixo (SA.F sameR sameT _ 13 _ (by kernel_rfl)) 27 n 2 i (i : Int) hA12 (by kernel_rfl) rfl (by omega) ?_
  refine WO.one (SA.F sameR sameT _ 14 _ (by kernel_rfl)) 28 (.pointer (some ((ad11.add (i * 2)).add 1))) (by kernel_rfl) ?_
  refine WO.ld (SA.S sameR sameT _ 15 _ (by kernel_rfl)) 29 (.string (str (gT ev.tags i).2)) (by kernel_rfl) (same (HT.at hA12 (gT_some ev.tags i (by have := hn; omega)) 1 (by kernel_rfl))) ?_
  refine WO.cat (SA.F sameR sameT _ 16 _ (by kernel_rfl)) 30 (str ((((hd ev i) ++ ([44] : List UInt8)) ++ (gT ev.tags i).1) ++ ([61] : List UInt8))) (str (gT ev.tags i).2) (by kernel_rfl) (by simp only [str_size, List.length_append, List.length_cons, List.length_nil]; omega) ?_
  refine WO.top (v' := .string (str (((((hd ev i) ++ ([44] : List UInt8)) ++ (gT ev.tags i).1) ++ ([61] : List UInt8)) ++ (gT ev.tags i).2))) (congrArg Value.string (str_app _ _)) ?_
  refine WO.one (SA.F sameR sameT _ 17 _ (by kernel_rfl)) 3 (.string (str (((((hd ev i) ++ ([44] : List UInt8)) ++ (gT ev.tags i).1) ++ ([61] : List UInt8)) ++ (gT ev.tags i).2))) (by kernel_rfl) ?_
  refine WO.doneA (by kernel_rfl) ?_
  refine WQ.keep [0, 1, 3, 4, 11] (e' := [(0, .agg #[.string (str ev.name), .slice A n cp, .int .i64 ev.kind, .int .i64 ev.value, .int .i64 ev.time]), (1, .pointer (some ⟨g1, 0, none⟩)), (3, .string (str (((((hd ev i) ++ ([44] : List UInt8)) ++ (gT ev.tags i).1) ++ ([61] : List UInt8)) ++ (gT ev.tags i).2))), (4, .int .i64 (i : Int)), (11, .bool true)]) (by kernel_rfl) ?_
  refine WQ.blkN ?_
  refine WQ.thenN ?_
  refine WE.region ?_
  refine WO.run 1 0 [(12, .int .i64 (i : Int))] (by kernel_rfl) (by kernel_rfl) ?_
  refine WO.one (SQ.F 1 (by kernel_rfl)) 13 (.int .i64 (IntKind.i64.wrap ((i : Int) + 1))) (by kernel_rfl) ?_
  refine WO.top (v' := .int .i64 ((i + 1 : Nat) : Int)) (wrap_i64 (by omega) (by omega)) ?_
  refine WO.run 1 2 [(4, .int .i64 ((i + 1 : Nat) : Int))] (by kernel_rfl) (by kernel_rfl) ?_
  refine WO.done (by kernel_rfl) ?_
  refine WQ.keep [0, 1, 3, 4, 11] (e' := [(0, .agg #[.string (str ev.name), .slice A n cp, .int .i64 ev.kind, .int .i64 ev.value, .int .i64 ev.time]), (1, .pointer (some ⟨g1, 0, none⟩)), (3, .string (str (((((hd ev i) ++ ([44] : List UInt8)) ++ (gT ev.tags i).1) ++ ([61] : List UInt8)) ++ (gT ev.tags i).2))), (4, .int .i64 ((i + 1 : Nat) : Int)), (11, .bool true)]) (by kernel_rfl) ?_
  refine WQ.env (e' := [(0, .agg #[.string (str ev.name), .slice A n cp, .int .i64 ev.kind, .int .i64 ev.value, .int .i64 ev.time]), (1, .pointer (some ⟨g1, 0, none⟩)), (3, .string (str (hd ev (i + 1)))), (4, .int .i64 ((i + 1 : Nat) : Int)), (11, .bool true)]) (by rw [hd_s ev i (by omega)]; simp only [List.append_assoc, List.cons_append, List.nil_append, List.singleton_append]) ?_
  refine WQ.round ?_
  intro a_ ha_
  refine ⟨i + 1, ?_, ha_.keep [0, 1, 3, 4] (by kernel_rfl), ?_⟩
  ·
   omega
  ·
   exact ⟨by omega, HB, HT, HA⟩
 intro h6
 refine WO.done (by kernel_rfl) ?_
 refine WQ.keep [0, 1, 3, 4, 11] (e' := [(0, .agg #[.string (str ev.name), .slice A n cp, .int .i64 ev.kind, .int .i64 ev.value, .int .i64 ev.time]), (1, .pointer (some ⟨g1, 0, none⟩)), (3, .string (str (hd ev i))), (4, .int .i64 (i : Int)), (11, .bool false)]) (by kernel_rfl) ?_
 refine WQ.thenN ?_
 refine WE.condF (by kernel_rfl) ?_
 refine WE.exit ?_
 refine WQ.thenE ?_
 refine WQ.thenE ?_
 refine WQ.blkE ?_
 refine WQ.thenN ?_
 refine WE.seq ?_
 refine WE.region ?_
 refine WO.run 2 0 [(2, .string (str (hd ev i))), (31, .string (str (hd ev i)))] (by kernel_rfl) (by kernel_rfl) ?_
 refine WO.done (by kernel_rfl) ?_
 refine WQ.keep [0, 1, 2, 3, 4, 11] (e' := [(0, .agg #[.string (str ev.name), .slice A n cp, .int .i64 ev.kind, .int .i64 ev.value, .int .i64 ev.time]), (1, .pointer (some ⟨g1, 0, none⟩)), (2, .string (str (hd ev i))), (3, .string (str (hd ev i))), (4, .int .i64 (i : Int)), (11, .bool false)]) (by kernel_rfl) ?_
 refine WQ.thenN ?_
 refine WE.ret ?_
 refine WQ.ret (v := .string (str (hd ev i))) (by kernel_rfl) ?_
 exact ⟨by rw [show i = ev.tags.length by omega, hd_all], HA⟩
set_option maxRecDepth 100000 in
set_option maxHeartbeats 400000 in
theorem print_r (ev : Ev) (A : Option Addr) (n cp : Nat) (F : List Nat) (w : World) (HT : VX cT 2 w F A ev.tags) (hn : ev.tags.length = n) (hnn : n ≤ 9223372036854775807) (hfew : fewE ev = true) (hk : 1 ≤ ev.kind ∧ ev.kind ≤ 3) (hv : -9223372036854775808 ≤ ev.value ∧ ev.value ≤ 9223372036854775807) (ht : -9223372036854775808 ≤ ev.time ∧ ev.time ≤ 9223372036854775807) :
  Calls Tryd.prog 26 #[.agg #[.string (str ev.name), .slice A n cp, .int .i64 ev.kind, .int .i64 ev.value, .int .i64 ev.time]] w fun e w' => e = .returned (.string (str (printT ev))) ∧ Fr [] w w' := by
 have hhl := head_len hfew
 have hnl1 := num_len ev.value hv
 have hnl2 := num_len ev.time ht
 have HA := Fr.refl [] w
 refine enter (N := 25) Tryd.func26 (c := _) rfl (by kernel_rfl) (by kernel_rfl) (e := [(0, .agg #[.string (str ev.name), .slice A n cp, .int .i64 ev.kind, .int .i64 ev.value, .int .i64 ev.time])]) (by kernel_rfl) ?_
 refine WE.seq ?_
 refine WE.region ?_
 refine WO.bx (SQ.E 0 (by kernel_rfl)) 1 #[.string (str ev.name), .slice A n cp, .int .i64 ev.kind, .int .i64 ev.value, .int .i64 ev.time] 25 (fun g => .pointer (some ⟨g, 0, none⟩)) (by kernel_rfl) (fun _ _ => trivial) ?_
 intro g1 w2 HB4 F3 le5 _
 have nin_g1_F : g1 ∉ F := new_nin HT.lt le5
 have ge_HA_g1 := Nat.le_trans HA.size le5
 have HT := HT.keep F3 (fun _ _ => nin0 _)
 have HA := Fr.step0 HA F3
 refine WO.run 1 1 [(2, .string (⟨#[]⟩))] (by kernel_rfl) (by kernel_rfl) ?_
 refine WO.done (by kernel_rfl) ?_
 refine WQ.keep [0, 1, 2] (e' := [(0, .agg #[.string (str ev.name), .slice A n cp, .int .i64 ev.kind, .int .i64 ev.value, .int .i64 ev.time]), (1, .pointer (some ⟨g1, 0, none⟩)), (2, .string (⟨#[]⟩))]) (by kernel_rfl) ?_
 refine WQ.thenN ?_
 refine WE.seq ?_
 refine WE.region ?_
 refine WO.run 1 0 [(3, .string (⟨#[99, 103, 104]⟩))] (by kernel_rfl) (by kernel_rfl) ?_
 refine WO.done (by kernel_rfl) ?_
 refine WQ.keep [0, 1, 2, 3] (e' := [(0, .agg #[.string (str ev.name), .slice A n cp, .int .i64 ev.kind, .int .i64 ev.value, .int .i64 ev.time]), (1, .pointer (some ⟨g1, 0, none⟩)), (2, .string (⟨#[]⟩)), (3, .string (⟨#[99, 103, 104]⟩))]) (by kernel_rfl) ?_
 refine WQ.thenN ?_
 refine WE.seq ?_
 have hz6 : (World.heap w2).size ≤ (World.heap w2).size := Nat.le_refl _
 have ltz_g1 := HB4.lt
 have ltz_F := HT.lt
 refine WE.draw [.still, .effR, .free, .free, .free, .still, .free, .free, .still, .free, .free, .free, .free, .still, .effR, .free, .free, .free, .still, .effR, .free, .free] (FrB (World.heap w2).size) (frBR _) (by kernel_rfl) 22 (Array.replicate 22 false) (by kernel_rfl) rfl ?_
 intro w7 F8 _
 have HB4 := Blk.keep HB4 F8 (nin0 _)
 have HT := HT.keep F8 (fun _ _ => nin0 _)
 have hz6 := Nat.le_trans hz6 F8.size
 have HA := Fr.step0 HA F8
 refine WO.ldB (SA.S (frBR _) (frBT _) _ 0 _ (by kernel_rfl)) 4 [.string (str ev.name), .slice A n cp, .int .i64 ev.kind, .int .i64 ev.value, .int .i64 ev.time] g1 0 (by kernel_rfl) (by kernel_rfl) (fun _ k => HB4.keepB k ltz_g1) (by kernel_rfl) ?_
 refine WO.one (SA.F (frBR _) (frBT _) _ 3 _ (by kernel_rfl)) 7 (.string (⟨#[99, 103, 104]⟩)) (by kernel_rfl) ?_
 refine WO.one (SA.F (frBR _) (frBT _) _ 4 _ (by kernel_rfl)) 8 (.pointer (some ⟨g1, 2, none⟩)) (by kernel_rfl) ?_
 refine WO.ld (SA.S (frBR _) (frBT _) _ 5 _ (by kernel_rfl)) 9 (.int .i64 ev.kind) (by kernel_rfl) (fun _ k => (HB4.keepB k ltz_g1).at 2 (by kernel_rfl)) ?_
 refine WO.one (SA.F (frBR _) (frBT _) _ 6 _ (by kernel_rfl)) 10 (.int .i64 (IntKind.i64.wrap (ev.kind - 1))) (by kernel_rfl) ?_
 refine WO.top (v' := .int .i64 (ev.kind - 1)) (wrap_i64 (by omega) (by omega)) ?_
 refine WO.one (SA.F (frBR _) (frBT _) _ 7 _ (by kernel_rfl)) 11 (.pointer (some ⟨g1, 2, none⟩)) (by kernel_rfl) ?_
 refine WO.ld (SA.S (frBR _) (frBT _) _ 8 _ (by kernel_rfl)) 12 (.int .i64 ev.kind) (by kernel_rfl) (fun _ k => (HB4.keepB k ltz_g1).at 2 (by kernel_rfl)) ?_
 refine WO.slS2 (lo := ev.kind - 1) (hi := ev.kind) (SA.F (frBR _) (frBT _) _ 9 _ (by kernel_rfl)) 13 ((ev.kind - 1).toNat) ev.kind.toNat ([99, 103, 104] : List UInt8) (by kernel_rfl) (by omega) (by omega) (by omega) (by simp only [List.length_cons, List.length_nil]; omega) ?_
 refine WO.one (SA.F (frBR _) (frBT _) _ 12 _ (by kernel_rfl)) 16 (.pointer (some ⟨g1, 3, none⟩)) (by kernel_rfl) ?_
 refine WO.ld (SA.S (frBR _) (frBT _) _ 13 _ (by kernel_rfl)) 17 (.int .i64 ev.value) (by kernel_rfl) (fun _ k => (HB4.keepB k ltz_g1).at 3 (by kernel_rfl)) ?_
 refine WO.one (SA.F (frBR _) (frBT _) _ 17 _ (by kernel_rfl)) 21 (.pointer (some ⟨g1, 4, none⟩)) (by kernel_rfl) ?_
 refine WO.ld (SA.S (frBR _) (frBT _) _ 18 _ (by kernel_rfl)) 22 (.int .i64 ev.time) (by kernel_rfl) (fun _ k => (HB4.keepB k ltz_g1).at 4 (by kernel_rfl)) ?_
 refine WO.call (SA.ER _ 1 _ (by kernel_rfl) rfl) 5 (by kernel_rfl) (head_f ev A n cp F _ HT hn hnn hfew) ?_
 rintro _ w9 ⟨rfl, F10⟩
 refine ⟨_, rfl, (frB_of hz6 (by simp)) _ F10, ?_⟩
 have HB4 := Blk.keep HB4 F10 (nin0 _)
 have HT := HT.keep F10 (fun _ _ => nin0 _)
 have hz6 := Nat.le_trans hz6 F10.size
 have HA := Fr.step0 HA F10
 refine WO.cat (SA.F (frBR _) (frBT _) _ 2 _ (by kernel_rfl)) 6 (str (headT ev)) (str ([32] : List UInt8)) (by kernel_rfl) (by simp only [str_size, List.length_append, List.length_cons, List.length_nil, List.length_drop, List.length_take]; omega) ?_
 refine WO.top (v' := .string (str ((headT ev) ++ ([32] : List UInt8)))) (congrArg Value.string (str_app _ _)) ?_
 refine WO.cat (SA.F (frBR _) (frBT _) _ 10 _ (by kernel_rfl)) 14 (str ((headT ev) ++ ([32] : List UInt8))) (str ((([99, 103, 104] : List UInt8).take ev.kind.toNat).drop ((ev.kind - 1).toNat))) (by kernel_rfl) (by simp only [str_size, List.length_append, List.length_cons, List.length_nil, List.length_drop, List.length_take]; omega) ?_
 refine WO.top (v' := .string (str (((headT ev) ++ ([32] : List UInt8)) ++ ((([99, 103, 104] : List UInt8).take ev.kind.toNat).drop ((ev.kind - 1).toNat))))) (congrArg Value.string (str_app _ _)) ?_
 refine WO.cat (SA.F (frBR _) (frBT _) _ 11 _ (by kernel_rfl)) 15 (str (((headT ev) ++ ([32] : List UInt8)) ++ ((([99, 103, 104] : List UInt8).take ev.kind.toNat).drop ((ev.kind - 1).toNat)))) (str ([32] : List UInt8)) (by kernel_rfl) (by simp only [str_size, List.length_append, List.length_cons, List.length_nil, List.length_drop, List.length_take]; omega) ?_
 refine WO.top (v' := .string (str ((((headT ev) ++ ([32] : List UInt8)) ++ ((([99, 103, 104] : List UInt8).take ev.kind.toNat).drop ((ev.kind - 1).toNat))) ++ ([32] : List UInt8)))) (congrArg Value.string (str_app _ _)) ?_
 refine WO.call (SA.ER _ 14 _ (by kernel_rfl) rfl) 18 (by kernel_rfl) (num_f ev.value _ (by omega)) ?_
 rintro _ w11 ⟨rfl, F12⟩
 refine ⟨_, rfl, (frB_of hz6 (by simp)) _ F12, ?_⟩
 have HB4 := Blk.keep HB4 F12 (nin0 _)
 have HT := HT.keep F12 (fun _ _ => nin0 _)
 have hz6 := Nat.le_trans hz6 F12.size
 have HA := Fr.step0 HA F12
 refine WO.cat (SA.F (frBR _) (frBT _) _ 15 _ (by kernel_rfl)) 19 (str ((((headT ev) ++ ([32] : List UInt8)) ++ ((([99, 103, 104] : List UInt8).take ev.kind.toNat).drop ((ev.kind - 1).toNat))) ++ ([32] : List UInt8))) (str (numT ev.value)) (by kernel_rfl) (by simp only [str_size, List.length_append, List.length_cons, List.length_nil, List.length_drop, List.length_take]; omega) ?_
 refine WO.top (v' := .string (str (((((headT ev) ++ ([32] : List UInt8)) ++ ((([99, 103, 104] : List UInt8).take ev.kind.toNat).drop ((ev.kind - 1).toNat))) ++ ([32] : List UInt8)) ++ (numT ev.value)))) (congrArg Value.string (str_app _ _)) ?_
 refine WO.cat (SA.F (frBR _) (frBT _) _ 16 _ (by kernel_rfl)) 20 (str (((((headT ev) ++ ([32] : List UInt8)) ++ ((([99, 103, 104] : List UInt8).take ev.kind.toNat).drop ((ev.kind - 1).toNat))) ++ ([32] : List UInt8)) ++ (numT ev.value))) (str ([32] : List UInt8)) (by kernel_rfl) (by simp only [str_size, List.length_append, List.length_cons, List.length_nil, List.length_drop, List.length_take]; omega) ?_
 refine WO.top (v' := .string (str ((((((headT ev) ++ ([32] : List UInt8)) ++ ((([99, 103, 104] : List UInt8).take ev.kind.toNat).drop ((ev.kind - 1).toNat))) ++ ([32] : List UInt8)) ++ (numT ev.value)) ++ ([32] : List UInt8)))) (congrArg Value.string (str_app _ _)) ?_
 refine WO.call (SA.ER _ 19 _ (by kernel_rfl) rfl) 23 (by kernel_rfl) (num_f ev.time _ (by omega)) ?_
 rintro _ w13 ⟨rfl, F14⟩
 refine ⟨_, rfl, (frB_of hz6 (by simp)) _ F14, ?_⟩
 have HB4 := Blk.keep HB4 F14 (nin0 _)
 have HT := HT.keep F14 (fun _ _ => nin0 _)
 have hz6 := Nat.le_trans hz6 F14.size
 have HA := Fr.step0 HA F14
 refine WO.cat (SA.F (frBR _) (frBT _) _ 20 _ (by kernel_rfl)) 24 (str ((((((headT ev) ++ ([32] : List UInt8)) ++ ((([99, 103, 104] : List UInt8).take ev.kind.toNat).drop ((ev.kind - 1).toNat))) ++ ([32] : List UInt8)) ++ (numT ev.value)) ++ ([32] : List UInt8))) (str (numT ev.time)) (by kernel_rfl) (by simp only [str_size, List.length_append, List.length_cons, List.length_nil, List.length_drop, List.length_take]; omega) ?_
 refine WO.top (v' := .string (str (((((((headT ev) ++ ([32] : List UInt8)) ++ ((([99, 103, 104] : List UInt8).take ev.kind.toNat).drop ((ev.kind - 1).toNat))) ++ ([32] : List UInt8)) ++ (numT ev.value)) ++ ([32] : List UInt8)) ++ (numT ev.time)))) (congrArg Value.string (str_app _ _)) ?_
 refine WO.one (SA.F (frBR _) (frBT _) _ 21 _ (by kernel_rfl)) 2 (.string (str (((((((headT ev) ++ ([32] : List UInt8)) ++ ((([99, 103, 104] : List UInt8).take ev.kind.toNat).drop ((ev.kind - 1).toNat))) ++ ([32] : List UInt8)) ++ (numT ev.value)) ++ ([32] : List UInt8)) ++ (numT ev.time)))) (by kernel_rfl) ?_
 refine WO.doneA (by kernel_rfl) ?_
 refine WQ.keep [0, 1, 2, 3] (e' := [(0, .agg #[.string (str ev.name), .slice A n cp, .int .i64 ev.kind, .int .i64 ev.value, .int .i64 ev.time]), (1, .pointer (some ⟨g1, 0, none⟩)), (2, .string (str (((((((headT ev) ++ ([32] : List UInt8)) ++ ((([99, 103, 104] : List UInt8).take ev.kind.toNat).drop ((ev.kind - 1).toNat))) ++ ([32] : List UInt8)) ++ (numT ev.value)) ++ ([32] : List UInt8)) ++ (numT ev.time)))), (3, .string (⟨#[99, 103, 104]⟩))]) (by kernel_rfl) ?_
 refine WQ.thenN ?_
 refine WE.ret ?_
 refine WQ.ret (v := .string (str (((((((headT ev) ++ ([32] : List UInt8)) ++ ((([99, 103, 104] : List UInt8).take ev.kind.toNat).drop ((ev.kind - 1).toNat))) ++ ([32] : List UInt8)) ++ (numT ev.value)) ++ ([32] : List UInt8)) ++ (numT ev.time)))) (by kernel_rfl) ?_
 exact ⟨by rw [letter_eq hk]; unfold printT; simp only [List.append_assoc, List.cons_append, List.nil_append, List.singleton_append], HA⟩
end Go.Proofs.YtdhonbahpcmmnaaDoor.Line
