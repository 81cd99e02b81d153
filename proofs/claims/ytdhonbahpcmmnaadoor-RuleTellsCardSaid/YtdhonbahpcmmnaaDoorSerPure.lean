/- Layer 4's walks: line.Print. -/
import Derived.Test.YtdhonbahpcmmnaaDoorBuild
import Derived.Test.YtdhonbahpcmmnaaDoorLinePure
import Derived.Test.YtdhonbahpcmmnaaDoorChecked
import Derived.WalkKit
import Derived.LaidEql
import Derived.Stop.Asserts
import Derived.RowKitTokens
section
set_option linter.unusedVariables false
set_option linter.unusedSimpArgs false
namespace Go.Proofs.YtdhonbahpcmmnaaDoor.Line
open Go Go.RowKit Go.Proofs.YtdhonbahpcmmnaaDoor Go.Proofs.YtdhonbahpcmmnaaDoor.Eng Go.Proofs.YtdhonbahpcmmnaaDoorW.PrintWords
theorem tab_keep {w w1 : World} {S : List Nat} (h : Lib.TabIs Tryd.prog w "internal/strconv.uint64pow10" .u64 Lib.pow10Tab) (k : Fr S w w1) (hn : 2 ∉ S) : Lib.TabIs Tryd.prog w1 "internal/strconv.uint64pow10" .u64 Lib.pow10Tab := by
 unfold Lib.TabIs World.var? at h ⊢
 rw [show Tryd.prog.globalNamed "internal/strconv.uint64pow10" = some 2 by kernel_rfl] at h ⊢
 simp only [Option.bind_some] at h ⊢
 have hlt : 2 < w.heap.size := by
  rcases Nat.lt_or_ge 2 w.heap.size with h1 | h1
  ·
   exact h1
  ·
   rw [Array.getElem?_eq_none h1] at h
   cases h
 rw [k.block 2 hlt hn]
 exact h
theorem tab_lt {w : World} (h : Lib.TabIs Tryd.prog w "internal/strconv.uint64pow10" .u64 Lib.pow10Tab) : 2 < w.heap.size := by
 unfold Lib.TabIs World.var? at h
 rw [show Tryd.prog.globalNamed "internal/strconv.uint64pow10" = some 2 by kernel_rfl] at h
 simp only [Option.bind_some] at h
 rcases Nat.lt_or_ge 2 w.heap.size with h1 | h1
 ·
  exact h1
 ·
  rw [Array.getElem?_eq_none h1] at h
  cases h
theorem fr_grow {w w1 : World} {k : Nat} {os : Array Obj} (h : w1 = Go.Sort.grow (w.drewN k) os) : Fr [] w w1 := by
 subst h
 refine ⟨rfl, rfl, rfl, ?_, fun i hi _ => ?_⟩
 ·
  show w.heap.size ≤ (w.heap ++ os).size
  simp
 ·
  show (w.heap ++ os)[i]? = w.heap[i]?
  rw [Array.getElem?_append_left hi]
theorem fr_below {w w1 w2 : World} (h : Fr [] w w1) (k : Below w.heap.size w1 w2) : Fr [] w w2 := by
 have h1 := h.below0
 exact Fr.of_below (h1.trans k)
theorem digs_eq : ∀ n, Lib.decDigits n = digs n := fun n => by
 induction n using Nat.strongRecOn with
 | _ n ih =>
  rw [Lib.decDigits, digs]
  by_cases h : n < 10
  ·
   rw [dif_pos h, dif_pos h]
  ·
   rw [dif_neg h, dif_neg h, ih (n / 10) (by omega)]
theorem itoa_str (z : Int) : (⟨(Lib.itoa z).toArray⟩ : ByteArray) = str (numT z) := by
 unfold Lib.itoa numT str
 rw [digs_eq, digs_eq]
theorem hd_s' (ev : Ev) (i : Nat) (h : i < ev.tags.length) : hd ev i ++ (([44] : List UInt8) ++ (gT ev.tags i).1 ++ ([61] : List UInt8) ++ (gT ev.tags i).2) = hd ev (i + 1) := by
 rw [hd_s ev i h]
 simp only [List.append_assoc, List.cons_append, List.nil_append, List.singleton_append]
theorem print_eq {ev : Ev} (hk : 1 ≤ ev.kind ∧ ev.kind ≤ 3) {i : Nat} (hi : i = ev.tags.length) : hd ev i ++ (([32] : List UInt8) ++ (([99, 103, 104] : List UInt8).take ev.kind.toNat).drop (ev.kind - 1).toNat ++ ([32] : List UInt8) ++ numT ev.value ++ ([32] : List UInt8) ++ numT ev.time) = printT ev := by
 subst hi
 rw [letter_eq hk, hd_all]
 unfold printT
 simp only [List.append_assoc, List.cons_append, List.nil_append, List.singleton_append]
set_option maxRecDepth 100000 in
set_option maxHeartbeats 1000000 in
theorem print_l (ev : Ev) (A : Option Addr) (n cp : Nat) (F : List Nat) (w : World) (HT : VX cT 2 w F A ev.tags) (hn : ev.tags.length = n) (hnn : n ≤ 9223372036854775807) (hln : ev.name.length ≤ 9223372036854775807) (hlt : ∀ t ∈ ev.tags, t.1.length ≤ 9223372036854775807 ∧ t.2.length ≤ 9223372036854775807) (hmay : mayE ev = true) (hfew : fewE ev = true) (hk : 1 ≤ ev.kind ∧ ev.kind ≤ 3) (hv : -9223372036854775808 ≤ ev.value ∧ ev.value ≤ 9223372036854775807) (ht : -9223372036854775808 ≤ ev.time ∧ ev.time ≤ 9223372036854775807) (HTab : Lib.TabIs Tryd.prog w "internal/strconv.uint64pow10" .u64 Lib.pow10Tab) (hPF : 2 ∉ F) :
  Calls Tryd.prog 23 #[.agg #[.string (str ev.name), .slice A n cp, .int .i64 ev.kind, .int .i64 ev.value, .int .i64 ev.time]] w fun e w' => e = .returned (.tuple #[.string (str (printT ev)), .nilIface]) ∧ Fr [] w w' := by
 have hnl1 := num_len ev.value hv
 have hnl2 := num_len ev.time ht
 have hn20 := few_n hfew
 have HA := Fr.refl [] w
 refine enter (N := 49) Tryd.func23 (c := _) rfl (by kernel_rfl) (by kernel_rfl) (e := [(0, .agg #[.string (str ev.name), .slice A n cp, .int .i64 ev.kind, .int .i64 ev.value, .int .i64 ev.time])]) (by kernel_rfl) ?_
 refine WE.seq ?_
 refine WE.region ?_
 refine WO.bx (SQ.E 0 (by kernel_rfl)) 1 #[.string (str ev.name), .slice A n cp, .int .i64 ev.kind, .int .i64 ev.value, .int .i64 ev.time] 25 (fun g => .pointer (some ⟨g, 0, none⟩)) (by kernel_rfl) (fun _ _ => trivial) ?_
 intro g1 w2 HB4 F3 le5 _
 have nin_g1_F : g1 ∉ F := new_nin HT.lt le5
 have ne_2_g1 : 2 ≠ g1 := Nat.ne_of_lt (Nat.lt_of_lt_of_le (tab_lt HTab) le5)
 have ge_HA_g1 := Nat.le_trans HA.size le5
 have HT := HT.keep F3 (fun _ _ => nin0 _)
 have HTab := tab_keep HTab F3 (nin0 _)
 have HA := Fr.step0 HA F3
 refine WO.run 2 1 [(3, .nilIface), (2, .string (⟨#[]⟩))] (by kernel_rfl) (by kernel_rfl) ?_
 refine WO.done (by kernel_rfl) ?_
 refine WQ.keep [0, 1, 2, 3] (e' := [(0, .agg #[.string (str ev.name), .slice A n cp, .int .i64 ev.kind, .int .i64 ev.value, .int .i64 ev.time]), (1, .pointer (some ⟨g1, 0, none⟩)), (2, .string (⟨#[]⟩)), (3, .nilIface)]) (by kernel_rfl) ?_
 refine WQ.thenN ?_
 refine WE.seq ?_
 refine WE.seq ?_
 refine WE.region ?_
 refine WO.ldB (SQ.S 0 (by kernel_rfl)) 7 [.string (str ev.name), .slice A n cp, .int .i64 ev.kind, .int .i64 ev.value, .int .i64 ev.time] g1 0 (by kernel_rfl) (by kernel_rfl) (same HB4) (by kernel_rfl) ?_
 refine WO.call (SQ.E 1 (by kernel_rfl)) 8 (by kernel_rfl) (may_l ev A n cp F _ HT hn hnn hln hlt) ?_
 rintro _ w6 ⟨rfl, F7⟩
 rw [hmay]
 refine ⟨_, rfl, trivial, ?_⟩
 have HB4 := Blk.keep HB4 F7 (nin0 _)
 have HT := HT.keep F7 (fun _ _ => nin0 _)
 have HTab := tab_keep HTab F7 (nin0 _)
 have HA := Fr.step0 HA F7
 refine WO.run 1 2 [(9, .bool false)] (by kernel_rfl) (by kernel_rfl) ?_
 refine WO.done (by kernel_rfl) ?_
 refine WQ.keep [0, 1, 2, 3, 9] (e' := [(0, .agg #[.string (str ev.name), .slice A n cp, .int .i64 ev.kind, .int .i64 ev.value, .int .i64 ev.time]), (1, .pointer (some ⟨g1, 0, none⟩)), (2, .string (⟨#[]⟩)), (3, .nilIface), (9, .bool false)]) (by kernel_rfl) ?_
 refine WQ.thenN ?_
 refine WE.condF (by kernel_rfl) ?_
 refine WE.skip ?_
 refine WQ.thenN ?_
 refine WE.seq ?_
 refine WE.region ?_
 refine WO.bx (SQ.E 0 (by kernel_rfl)) 4 #[.pointer none, .slice none 0 0] 79 (fun g => .pointer (some ⟨g, 0, none⟩)) (by kernel_rfl) (fun _ _ => trivial) ?_
 intro g8 w9 HB11 F10 le12 _
 have ne_g1_g8 : g1 ≠ g8 := Nat.ne_of_lt (Nat.lt_of_lt_of_le HB4.lt le12)
 have nin_g8_F : g8 ∉ F := new_nin HT.lt le12
 have ne_2_g8 : 2 ≠ g8 := Nat.ne_of_lt (Nat.lt_of_lt_of_le (tab_lt HTab) le12)
 have ge_HA_g8 := Nat.le_trans HA.size le12
 have HB4 := Blk.keep HB4 F10 (nin0 _)
 have HT := HT.keep F10 (fun _ _ => nin0 _)
 have HTab := tab_keep HTab F10 (nin0 _)
 have HA := Fr.step0 HA F10
 refine WO.done (by kernel_rfl) ?_
 refine WQ.keep [0, 1, 2, 3, 4, 9] (e' := [(0, .agg #[.string (str ev.name), .slice A n cp, .int .i64 ev.kind, .int .i64 ev.value, .int .i64 ev.time]), (1, .pointer (some ⟨g1, 0, none⟩)), (2, .string (⟨#[]⟩)), (3, .nilIface), (4, .pointer (some ⟨g8, 0, none⟩)), (9, .bool false)]) (by kernel_rfl) ?_
 refine WQ.thenN ?_
 refine WE.seq ?_
 refine WE.region ?_
 refine WO.run 1 0 [(11, .pointer (some ⟨g1, 0, none⟩))] (by kernel_rfl) (by kernel_rfl) ?_
 refine WO.ld (SQ.S 1 (by kernel_rfl)) 12 (.string (str ev.name)) (by kernel_rfl) (same (HB4.at 0 (by kernel_rfl))) ?_
 refine WO.call (SQ.E 2 (by kernel_rfl)) 13 (by kernel_rfl) (Build.writeString_f g8 (.pointer none) none 0 [] ev.name [] _ HB11 (.inl rfl) (OwnX.nil _ _ _) (by simp) (by simp only [List.length_append, List.length_cons, List.length_nil]; omega)) ?_
 rintro _ w13 ⟨A15, cap16, F17, rfl, HB18, HO19, F14, hg20, nin21⟩
 refine ⟨_, rfl, trivial, ?_⟩
 rw [List.nil_append] at HB18 HO19
 have nin_g1_F17 : g1 ∉ F17 := grow_nin hg20 (nin0 _) HB4.lt
 have nin_2_F17 : 2 ∉ F17 := grow_nin hg20 (nin0 _) ((tab_lt HTab))
 have dj_F17_F : ∀ y ∈ F17, y ∉ F := grow_dj hg20 (by simp) HT.lt
 have ge_HA_F17 : ∀ y ∈ F17, (World.heap w).size ≤ y := grow_ge hg20 (by simp) HA.size
 have HB4 := Blk.keep HB4 F14 (ninC ne_g1_g8 (nin0 _))
 have HT := HT.keep F14 (djB nin_g8_F)
 have HTab := tab_keep HTab F14 (ninC ne_2_g8 (nin0 _))
 have HA := Fr.step HA F14 (inSR ge_HA_g8 inS0)
 rw [show ev.name = hd ev 0 from (hd_0 ev).symm] at HB18 HO19
 refine WO.done (by kernel_rfl) ?_
 refine WQ.keep [0, 1, 2, 3, 4, 9] (e' := [(0, .agg #[.string (str ev.name), .slice A n cp, .int .i64 ev.kind, .int .i64 ev.value, .int .i64 ev.time]), (1, .pointer (some ⟨g1, 0, none⟩)), (2, .string (⟨#[]⟩)), (3, .nilIface), (4, .pointer (some ⟨g8, 0, none⟩)), (9, .bool false)]) (by kernel_rfl) ?_
 refine WQ.thenN ?_
 refine WE.seq ?_
 refine WE.seq ?_
 refine WE.region ?_
 refine WO.run 1 0 [(14, .pointer (some ⟨g1, 1, none⟩))] (by kernel_rfl) (by kernel_rfl) ?_
 refine WO.ld (SQ.S 1 (by kernel_rfl)) 15 (.slice A n cp) (by kernel_rfl) (same (HB4.at 1 (by kernel_rfl))) ?_
 refine WO.run 2 2 [(17, .int .i64 0), (16, .int .i64 (n : Int))] (by kernel_rfl) (by kernel_rfl) ?_
 refine WO.done (by kernel_rfl) ?_
 refine WQ.keep [0, 1, 2, 3, 4, 9, 15, 16, 17] (e' := [(0, .agg #[.string (str ev.name), .slice A n cp, .int .i64 ev.kind, .int .i64 ev.value, .int .i64 ev.time]), (1, .pointer (some ⟨g1, 0, none⟩)), (2, .string (⟨#[]⟩)), (3, .nilIface), (4, .pointer (some ⟨g8, 0, none⟩)), (9, .bool false), (15, .slice A n cp), (16, .int .i64 (n : Int)), (17, .int .i64 0)]) (by kernel_rfl) ?_
 refine WQ.thenN ?_
 refine WE.block ?_
 refine WE.loop (α := Nat × Option Addr × Nat × List Nat) (E := fun ⟨i, Ab, cb, FO⟩ => [(0, .agg #[.string (str ev.name), .slice A n cp, .int .i64 ev.kind, .int .i64 ev.value, .int .i64 ev.time]), (1, .pointer (some ⟨g1, 0, none⟩)), (2, .string (⟨#[]⟩)), (3, .nilIface), (4, .pointer (some ⟨g8, 0, none⟩)), (9, .bool false), (15, .slice A n cp), (16, .int .i64 (n : Int)), (17, .int .i64 (i : Int))]) (I := fun ⟨i, Ab, cb, FO⟩ wr => i ≤ n ∧ Blk wr g1 #[.string (str ev.name), .slice A n cp, .int .i64 ev.kind, .int .i64 ev.value, .int .i64 ev.time] 25 ∧ Blk wr g8 #[.pointer (some ⟨g8, 0, none⟩), .slice Ab ((hd ev i).length) cb] 79 ∧ OwnX 5 1 wr FO (.slice Ab ((hd ev i).length) cb) ((hd ev i).map cB) ∧ VX cT 2 wr F A ev.tags ∧ Lib.TabIs Tryd.prog wr "internal/strconv.uint64pow10" .u64 Lib.pow10Tab ∧ g8 ∉ FO ∧ g1 ∉ FO ∧ 2 ∉ FO ∧ (∀ y ∈ FO, w.heap.size ≤ y) ∧ (∀ y ∈ FO, y ∉ F) ∧ Fr [] w wr) (m := fun ⟨i, Ab, cb, FO⟩ => n - i) (0, A15, cap16, F17) [0, 1, 2, 3, 4, 9, 15, 16, 17] (by kernel_rfl) ?_ ?_
 ·
  exact ⟨Nat.zero_le _, HB4, HB18, HO19, HT, HTab, nin21, nin_g1_F17, nin_2_F17, ge_HA_F17, dj_F17_F, HA⟩
 rintro ⟨i, Ab, cb, FO⟩ wr ⟨hi, HE, HB, HO, HT, HTab, n1_, n2_, n3_, hgO, hdO, HA⟩
 dsimp only at hi HB HO n1_ n2_ n3_ hgO hdO ⊢
 have hhl := hd_len hfew i (by omega)
 have hn20 := few_n hfew
 refine WE.seq ?_
 refine WE.region ?_
 refine WO.one (SQ.F 0 (by kernel_rfl)) 18 (.bool (decide (((i : Int) : Int) < (n : Int)))) (by kernel_rfl) ?_
 refine WO.topP (((i : Int) : Int) < (n : Int)) ?_ ?_
 ·
  intro h22
  refine WO.done (by kernel_rfl) ?_
  refine WQ.keep [0, 1, 2, 3, 4, 9, 15, 16, 17, 18] (e' := [(0, .agg #[.string (str ev.name), .slice A n cp, .int .i64 ev.kind, .int .i64 ev.value, .int .i64 ev.time]), (1, .pointer (some ⟨g1, 0, none⟩)), (2, .string (⟨#[]⟩)), (3, .nilIface), (4, .pointer (some ⟨g8, 0, none⟩)), (9, .bool false), (15, .slice A n cp), (16, .int .i64 (n : Int)), (17, .int .i64 (i : Int)), (18, .bool true)]) (by kernel_rfl) ?_
  refine WQ.thenN ?_
  refine WE.seq ?_
  refine WE.condT (by kernel_rfl) ?_
  refine WE.skip ?_
  refine WQ.thenN ?_
  refine WE.seq ?_
  refine WE.block ?_
  refine WE.seq ?_
  refine WE.region ?_
  obtain ⟨ad23, hA24⟩ := HT.addr (i := i) (by have := hn; omega)
  refine WO.ixo (SQ.F 0 (by kernel_rfl)) 19 n 2 i (i : Int) hA24 (by kernel_rfl) rfl (by omega) ?_
  refine WO.ldA (ad := (ad23.add (i * 2))) (SQ.S 1 (by kernel_rfl)) 20 [.string (str (gT ev.tags i).1), .string (str (gT ev.tags i).2)] (by kernel_rfl) (by kernel_rfl) (fun _ hw_ _ hj_ => by subst hw_; exact HT.part0 hA24 (gT_some ev.tags i (by have := hn; omega)) [.string (str (gT ev.tags i).1), .string (str (gT ev.tags i).2)] (by kernel_rfl) _ hj_) ?_
  refine WO.bx (SQ.E 2 (by kernel_rfl)) 6 #[.string (⟨#[]⟩), .string (⟨#[]⟩)] 53 (fun g => .pointer (some ⟨g, 0, none⟩)) (by kernel_rfl) (fun _ _ => trivial) ?_
  intro g25 w26 HB28 F27 le29 _
  have ne_g1_g25 : g1 ≠ g25 := Nat.ne_of_lt (Nat.lt_of_lt_of_le HE.lt le29)
  have ne_g8_g25 : g8 ≠ g25 := Nat.ne_of_lt (Nat.lt_of_lt_of_le HB.lt le29)
  have nin_g25_F : g25 ∉ F := new_nin HT.lt le29
  have nin_g25_FO : g25 ∉ FO := new_nin HO.lt le29
  have ne_2_g25 : 2 ≠ g25 := Nat.ne_of_lt (Nat.lt_of_lt_of_le (tab_lt HTab) le29)
  have ge_HA_g25 := Nat.le_trans HA.size le29
  have HE := Blk.keep HE F27 (nin0 _)
  have HB := Blk.keep HB F27 (nin0 _)
  have HT := HT.keep F27 (fun _ _ => nin0 _)
  have HO := HO.keep F27 (fun _ _ => nin0 _)
  have HTab := tab_keep HTab F27 (nin0 _)
  have HA := Fr.step0 HA F27
  refine WO.st (SQ.E 3 (by kernel_rfl)) g25 0 [.string (str (gT ev.tags i).1), .string (str (gT ev.tags i).2)] #[.string (str (gT ev.tags i).1), .string (str (gT ev.tags i).2)] (by kernel_rfl) HB28 (by kernel_rfl) (by kernel_rfl) (fun _ _ => trivial) ?_
  intro w30 HB32 F31 _
  have HE := Blk.keep HE F31 (ninC ne_g1_g25 (nin0 _))
  have HB := Blk.keep HB F31 (ninC ne_g8_g25 (nin0 _))
  have HT := HT.keep F31 (djB nin_g25_F)
  have HO := HO.keep F31 (djB nin_g25_FO)
  have HTab := tab_keep HTab F31 (ninC ne_2_g25 (nin0 _))
  have HA := Fr.step HA F31 (inSR ge_HA_g25 inS0)
  refine WO.done (by kernel_rfl) ?_
  refine WQ.keep [0, 1, 2, 3, 4, 6, 9, 15, 16, 17, 18] (e' := [(0, .agg #[.string (str ev.name), .slice A n cp, .int .i64 ev.kind, .int .i64 ev.value, .int .i64 ev.time]), (1, .pointer (some ⟨g1, 0, none⟩)), (2, .string (⟨#[]⟩)), (3, .nilIface), (4, .pointer (some ⟨g8, 0, none⟩)), (6, .pointer (some ⟨g25, 0, none⟩)), (9, .bool false), (15, .slice A n cp), (16, .int .i64 (n : Int)), (17, .int .i64 (i : Int)), (18, .bool true)]) (by kernel_rfl) ?_
  refine WQ.thenN ?_
  obtain ⟨ht1, ht2⟩ := few_tag hfew i (by omega)
  refine WE.region ?_
  refine WO.run 1 0 [(21, .pointer (some ⟨g25, 0, none⟩))] (by kernel_rfl) (by kernel_rfl) ?_
  refine WO.ld (SQ.S 1 (by kernel_rfl)) 22 (.string (str (gT ev.tags i).1)) (by kernel_rfl) (same (HB32.at 0 (by kernel_rfl))) ?_
  refine WO.cat (SQ.F 2 (by kernel_rfl)) 23 (str ([44] : List UInt8)) (str (gT ev.tags i).1) (by kernel_rfl) (by simp only [str_size, List.length_append, List.length_cons, List.length_nil, List.length_drop, List.length_take]; omega) ?_
  refine WO.top (v' := .string (str (([44] : List UInt8) ++ (gT ev.tags i).1))) (congrArg Value.string (str_app _ _)) ?_
  refine WO.cat (SQ.F 3 (by kernel_rfl)) 24 (str (([44] : List UInt8) ++ (gT ev.tags i).1)) (str ([61] : List UInt8)) (by kernel_rfl) (by simp only [str_size, List.length_append, List.length_cons, List.length_nil, List.length_drop, List.length_take]; omega) ?_
  refine WO.top (v' := .string (str ((([44] : List UInt8) ++ (gT ev.tags i).1) ++ ([61] : List UInt8)))) (congrArg Value.string (str_app _ _)) ?_
  refine WO.run 1 4 [(25, .pointer (some ⟨g25, 1, none⟩))] (by kernel_rfl) (by kernel_rfl) ?_
  refine WO.ld (SQ.S 5 (by kernel_rfl)) 26 (.string (str (gT ev.tags i).2)) (by kernel_rfl) (same (HB32.at 1 (by kernel_rfl))) ?_
  refine WO.cat (SQ.F 6 (by kernel_rfl)) 27 (str ((([44] : List UInt8) ++ (gT ev.tags i).1) ++ ([61] : List UInt8))) (str (gT ev.tags i).2) (by kernel_rfl) (by simp only [str_size, List.length_append, List.length_cons, List.length_nil, List.length_drop, List.length_take]; omega) ?_
  refine WO.top (v' := .string (str (((([44] : List UInt8) ++ (gT ev.tags i).1) ++ ([61] : List UInt8)) ++ (gT ev.tags i).2))) (congrArg Value.string (str_app _ _)) ?_
  refine WO.call (SQ.E 7 (by kernel_rfl)) 28 (by kernel_rfl) (Build.writeString_f g8 (.pointer (some ⟨g8, 0, none⟩)) Ab cb (hd ev i) (((([44] : List UInt8) ++ (gT ev.tags i).1) ++ ([61] : List UInt8)) ++ (gT ev.tags i).2) FO _ HB (.inr rfl) HO n1_ (by simp only [List.length_append, List.length_cons, List.length_nil, List.length_drop, List.length_take]; omega)) ?_
  rintro _ w33 ⟨A35, cap36, F37, rfl, HB38, HO39, F34, hg40, nin41⟩
  refine ⟨_, rfl, trivial, ?_⟩
  obtain ⟨U42, hU42⟩ : ∃ U_, U_ = g8 :: FO := ⟨_, rfl⟩
  have dj_U42_F : ∀ y ∈ U42, y ∉ F := by rw [hU42]; exact fun y hy h_ => (List.mem_cons.1 hy).elim (fun e_ => nin_g8_F (e_ ▸ h_)) (fun e_ => hdO y e_ h_)
  have nin_g1_U42 : g1 ∉ U42 := by rw [hU42]; exact fun h_ => (List.mem_cons.1 h_).elim (fun e_ => ne_g1_g8 e_) n2_
  have nin_g25_U42 : g25 ∉ U42 := by rw [hU42]; exact fun h_ => (List.mem_cons.1 h_).elim (fun e_ => (Ne.symm ne_g8_g25) e_) nin_g25_FO
  have nin_2_U42 : 2 ∉ U42 := by rw [hU42]; exact fun h_ => (List.mem_cons.1 h_).elim (fun e_ => ne_2_g8 e_) n3_
  have ge_HA_U42 : ∀ y ∈ U42, (World.heap w).size ≤ y := by rw [hU42]; exact fun y hy => (List.mem_cons.1 hy).elim (fun e_ => by rw [e_]; exact ge_HA_g8) (hgO y)
  rw [← hU42] at F34
  have nin_g1_F37 : g1 ∉ F37 := grow_nin hg40 n2_ HE.lt
  have nin_g25_F37 : g25 ∉ F37 := grow_nin hg40 nin_g25_FO HB32.lt
  have nin_2_F37 : 2 ∉ F37 := grow_nin hg40 n3_ ((tab_lt HTab))
  have dj_F37_F : ∀ y ∈ F37, y ∉ F := grow_dj hg40 hdO HT.lt
  have ge_HA_F37 : ∀ y ∈ F37, (World.heap w).size ≤ y := grow_ge hg40 hgO HA.size
  have HE := Blk.keep HE F34 nin_g1_U42
  have HB32 := Blk.keep HB32 F34 nin_g25_U42
  have HT := HT.keep F34 (dj_symm dj_U42_F)
  have HTab := tab_keep HTab F34 nin_2_U42
  have HA := Fr.step HA F34 (inF ge_HA_U42)
  rw [show ((hd ev i) ++ (((([44] : List UInt8) ++ (gT ev.tags i).1) ++ ([61] : List UInt8)) ++ (gT ev.tags i).2)) = hd ev (i + 1) from hd_s' ev i (by omega)] at HB38 HO39
  refine WO.done (by kernel_rfl) ?_
  refine WQ.keep [0, 1, 2, 3, 4, 6, 9, 15, 16, 17, 18] (e' := [(0, .agg #[.string (str ev.name), .slice A n cp, .int .i64 ev.kind, .int .i64 ev.value, .int .i64 ev.time]), (1, .pointer (some ⟨g1, 0, none⟩)), (2, .string (⟨#[]⟩)), (3, .nilIface), (4, .pointer (some ⟨g8, 0, none⟩)), (6, .pointer (some ⟨g25, 0, none⟩)), (9, .bool false), (15, .slice A n cp), (16, .int .i64 (n : Int)), (17, .int .i64 (i : Int)), (18, .bool true)]) (by kernel_rfl) ?_
  refine WQ.blkN ?_
  refine WQ.thenN ?_
  refine WE.region ?_
  refine WO.one (SQ.F 0 (by kernel_rfl)) 29 (.int .i64 (IntKind.i64.wrap ((i : Int) + 1))) (by kernel_rfl) ?_
  refine WO.top (v' := .int .i64 ((i + 1 : Nat) : Int)) (wrap_i64 (by omega) (by omega)) ?_
  refine WO.run 1 1 [(17, .int .i64 ((i + 1 : Nat) : Int))] (by kernel_rfl) (by kernel_rfl) ?_
  refine WO.done (by kernel_rfl) ?_
  refine WQ.keep [0, 1, 2, 3, 4, 6, 9, 15, 16, 17, 18] (e' := [(0, .agg #[.string (str ev.name), .slice A n cp, .int .i64 ev.kind, .int .i64 ev.value, .int .i64 ev.time]), (1, .pointer (some ⟨g1, 0, none⟩)), (2, .string (⟨#[]⟩)), (3, .nilIface), (4, .pointer (some ⟨g8, 0, none⟩)), (6, .pointer (some ⟨g25, 0, none⟩)), (9, .bool false), (15, .slice A n cp), (16, .int .i64 (n : Int)), (17, .int .i64 ((i + 1 : Nat) : Int)), (18, .bool true)]) (by kernel_rfl) ?_
  refine WQ.round ?_
  intro a_ ha_
  refine ⟨(i + 1, A35, cap36, F37), ?_, ha_.keep [0, 1, 2, 3, 4, 9, 15, 16, 17] (by kernel_rfl), ?_⟩
  ·
   show n - (i + 1) < n - i; omega
  ·
   exact ⟨by show i + 1 ≤ n; omega, HE, HB38, HO39, HT, HTab, nin41, nin_g1_F37, nin_2_F37, ge_HA_F37, dj_F37_F, HA⟩
 intro h22
 refine WO.done (by kernel_rfl) ?_
 refine WQ.keep [0, 1, 2, 3, 4, 9, 15, 16, 17, 18] (e' := [(0, .agg #[.string (str ev.name), .slice A n cp, .int .i64 ev.kind, .int .i64 ev.value, .int .i64 ev.time]), (1, .pointer (some ⟨g1, 0, none⟩)), (2, .string (⟨#[]⟩)), (3, .nilIface), (4, .pointer (some ⟨g8, 0, none⟩)), (9, .bool false), (15, .slice A n cp), (16, .int .i64 (n : Int)), (17, .int .i64 (i : Int)), (18, .bool false)]) (by kernel_rfl) ?_
 refine WQ.thenN ?_
 refine WE.seq ?_
 refine WE.condF (by kernel_rfl) ?_
 refine WE.exit ?_
 refine WQ.thenE ?_
 refine WQ.thenE ?_
 refine WQ.blkE ?_
 refine WQ.thenN ?_
 refine WE.seq ?_
 have hz43 : (World.heap wr).size ≤ (World.heap wr).size := Nat.le_refl _
 have ltz_g1 := HE.lt
 have ltz_g8 := HB.lt
 have ltz_F := HT.lt
 have ltz_FO := HO.lt
 refine WE.draw [.free, .still, .free, .free, .still, .free, .free, .free, .free, .still, .effR, .free, .free, .free, .still, .effR, .free, .eff] (FrB (World.heap wr).size) (frBR _) (by kernel_rfl) 18 (Array.replicate 18 false) (by kernel_rfl) rfl ?_
 intro w44 F45 _
 have HE := Blk.keep HE F45 (nin0 _)
 have HB := Blk.keep HB F45 (nin0 _)
 have HT := HT.keep F45 (fun _ _ => nin0 _)
 have HO := HO.keep F45 (fun _ _ => nin0 _)
 have HTab := tab_keep HTab F45 (nin0 _)
 have hz43 := Nat.le_trans hz43 F45.size
 have HA := Fr.step0 HA F45
 refine WO.one (SA.F (frBR _) (frBT _) _ 0 _ (by kernel_rfl)) 30 (.pointer (some ⟨g1, 2, none⟩)) (by kernel_rfl) ?_
 refine WO.ld (SA.S (frBR _) (frBT _) _ 1 _ (by kernel_rfl)) 31 (.int .i64 ev.kind) (by kernel_rfl) (fun _ k => (HE.keepB k ltz_g1).at 2 (by kernel_rfl)) ?_
 refine WO.one (SA.F (frBR _) (frBT _) _ 2 _ (by kernel_rfl)) 32 (.int .i64 (IntKind.i64.wrap (ev.kind - 1))) (by kernel_rfl) ?_
 refine WO.top (v' := .int .i64 (ev.kind - 1)) (wrap_i64 (by omega) (by omega)) ?_
 refine WO.one (SA.F (frBR _) (frBT _) _ 3 _ (by kernel_rfl)) 33 (.pointer (some ⟨g1, 2, none⟩)) (by kernel_rfl) ?_
 refine WO.ld (SA.S (frBR _) (frBT _) _ 4 _ (by kernel_rfl)) 34 (.int .i64 ev.kind) (by kernel_rfl) (fun _ k => (HE.keepB k ltz_g1).at 2 (by kernel_rfl)) ?_
 refine WO.slS2 (lo := ev.kind - 1) (hi := ev.kind) (SA.F (frBR _) (frBT _) _ 5 _ (by kernel_rfl)) 35 ((ev.kind - 1).toNat) ev.kind.toNat ([99, 103, 104] : List UInt8) (by kernel_rfl) (by omega) (by omega) (by omega) (by simp only [List.length_cons, List.length_nil]; omega) ?_
 refine WO.cat (SA.F (frBR _) (frBT _) _ 6 _ (by kernel_rfl)) 36 (str ([32] : List UInt8)) (str ((([99, 103, 104] : List UInt8).take ev.kind.toNat).drop ((ev.kind - 1).toNat))) (by kernel_rfl) (by simp only [str_size, List.length_append, List.length_cons, List.length_nil, List.length_drop, List.length_take]; omega) ?_
 refine WO.top (v' := .string (str (([32] : List UInt8) ++ ((([99, 103, 104] : List UInt8).take ev.kind.toNat).drop ((ev.kind - 1).toNat))))) (congrArg Value.string (str_app _ _)) ?_
 refine WO.cat (SA.F (frBR _) (frBT _) _ 7 _ (by kernel_rfl)) 37 (str (([32] : List UInt8) ++ ((([99, 103, 104] : List UInt8).take ev.kind.toNat).drop ((ev.kind - 1).toNat)))) (str ([32] : List UInt8)) (by kernel_rfl) (by simp only [str_size, List.length_append, List.length_cons, List.length_nil, List.length_drop, List.length_take]; omega) ?_
 refine WO.top (v' := .string (str ((([32] : List UInt8) ++ ((([99, 103, 104] : List UInt8).take ev.kind.toNat).drop ((ev.kind - 1).toNat))) ++ ([32] : List UInt8)))) (congrArg Value.string (str_app _ _)) ?_
 refine WO.one (SA.F (frBR _) (frBT _) _ 8 _ (by kernel_rfl)) 38 (.pointer (some ⟨g1, 3, none⟩)) (by kernel_rfl) ?_
 refine WO.ld (SA.S (frBR _) (frBT _) _ 9 _ (by kernel_rfl)) 39 (.int .i64 ev.value) (by kernel_rfl) (fun _ k => (HE.keepB k ltz_g1).at 3 (by kernel_rfl)) ?_
 refine WO.one (SA.F (frBR _) (frBT _) _ 13 _ (by kernel_rfl)) 43 (.pointer (some ⟨g1, 4, none⟩)) (by kernel_rfl) ?_
 refine WO.ld (SA.S (frBR _) (frBT _) _ 14 _ (by kernel_rfl)) 44 (.int .i64 ev.time) (by kernel_rfl) (fun _ k => (HE.keepB k ltz_g1).at 4 (by kernel_rfl)) ?_
 refine WO.call (SA.ER _ 10 _ (by kernel_rfl) rfl) 40 (by kernel_rfl) (Tryd.strconv_FormatInt_10 ev.value (by omega) (by omega) _ HTab) ?_
 rintro _ w46 ⟨rfl, k48, os49, hg50⟩
 have F47 := fr_grow hg50
 rw [itoa_str ev.value]
 refine ⟨_, rfl, (frB_of hz43 (by simp)) _ F47, ?_⟩
 have HE := Blk.keep HE F47 (nin0 _)
 have HB := Blk.keep HB F47 (nin0 _)
 have HT := HT.keep F47 (fun _ _ => nin0 _)
 have HO := HO.keep F47 (fun _ _ => nin0 _)
 have HTab := tab_keep HTab F47 (nin0 _)
 have hz43 := Nat.le_trans hz43 F47.size
 have HA := Fr.step0 HA F47
 refine WO.cat (SA.F (frBR _) (frBT _) _ 11 _ (by kernel_rfl)) 41 (str ((([32] : List UInt8) ++ ((([99, 103, 104] : List UInt8).take ev.kind.toNat).drop ((ev.kind - 1).toNat))) ++ ([32] : List UInt8))) (str (numT ev.value)) (by kernel_rfl) (by simp only [str_size, List.length_append, List.length_cons, List.length_nil, List.length_drop, List.length_take]; omega) ?_
 refine WO.top (v' := .string (str (((([32] : List UInt8) ++ ((([99, 103, 104] : List UInt8).take ev.kind.toNat).drop ((ev.kind - 1).toNat))) ++ ([32] : List UInt8)) ++ (numT ev.value)))) (congrArg Value.string (str_app _ _)) ?_
 refine WO.cat (SA.F (frBR _) (frBT _) _ 12 _ (by kernel_rfl)) 42 (str (((([32] : List UInt8) ++ ((([99, 103, 104] : List UInt8).take ev.kind.toNat).drop ((ev.kind - 1).toNat))) ++ ([32] : List UInt8)) ++ (numT ev.value))) (str ([32] : List UInt8)) (by kernel_rfl) (by simp only [str_size, List.length_append, List.length_cons, List.length_nil, List.length_drop, List.length_take]; omega) ?_
 refine WO.top (v' := .string (str ((((([32] : List UInt8) ++ ((([99, 103, 104] : List UInt8).take ev.kind.toNat).drop ((ev.kind - 1).toNat))) ++ ([32] : List UInt8)) ++ (numT ev.value)) ++ ([32] : List UInt8)))) (congrArg Value.string (str_app _ _)) ?_
 refine WO.call (SA.ER _ 15 _ (by kernel_rfl) rfl) 45 (by kernel_rfl) (Tryd.strconv_FormatInt_10 ev.time (by omega) (by omega) _ HTab) ?_
 rintro _ w51 ⟨rfl, k53, os54, hg55⟩
 have F52 := fr_grow hg55
 rw [itoa_str ev.time]
 refine ⟨_, rfl, (frB_of hz43 (by simp)) _ F52, ?_⟩
 have HE := Blk.keep HE F52 (nin0 _)
 have HB := Blk.keep HB F52 (nin0 _)
 have HT := HT.keep F52 (fun _ _ => nin0 _)
 have HO := HO.keep F52 (fun _ _ => nin0 _)
 have HTab := tab_keep HTab F52 (nin0 _)
 have hz43 := Nat.le_trans hz43 F52.size
 have HA := Fr.step0 HA F52
 refine WO.cat (SA.F (frBR _) (frBT _) _ 16 _ (by kernel_rfl)) 46 (str ((((([32] : List UInt8) ++ ((([99, 103, 104] : List UInt8).take ev.kind.toNat).drop ((ev.kind - 1).toNat))) ++ ([32] : List UInt8)) ++ (numT ev.value)) ++ ([32] : List UInt8))) (str (numT ev.time)) (by kernel_rfl) (by simp only [str_size, List.length_append, List.length_cons, List.length_nil, List.length_drop, List.length_take]; omega) ?_
 refine WO.top (v' := .string (str (((((([32] : List UInt8) ++ ((([99, 103, 104] : List UInt8).take ev.kind.toNat).drop ((ev.kind - 1).toNat))) ++ ([32] : List UInt8)) ++ (numT ev.value)) ++ ([32] : List UInt8)) ++ (numT ev.time)))) (congrArg Value.string (str_app _ _)) ?_
 refine WO.call (SA.E _ 17 _ (by kernel_rfl) rfl) 47 (by kernel_rfl) (Build.writeString_f g8 (.pointer (some ⟨g8, 0, none⟩)) Ab cb (hd ev i) (((((([32] : List UInt8) ++ ((([99, 103, 104] : List UInt8).take ev.kind.toNat).drop ((ev.kind - 1).toNat))) ++ ([32] : List UInt8)) ++ (numT ev.value)) ++ ([32] : List UInt8)) ++ (numT ev.time)) FO _ HB (.inr rfl) HO n1_ (by simp only [List.length_append, List.length_cons, List.length_nil, List.length_drop, List.length_take]; omega)) ?_
 rintro _ w56 ⟨A58, cap59, F60, rfl, HB61, HO62, F57, hg63, nin64⟩
 refine ⟨_, rfl, trivial, ?_⟩
 obtain ⟨U65, hU65⟩ : ∃ U_, U_ = g8 :: FO := ⟨_, rfl⟩
 have dj_U65_F : ∀ y ∈ U65, y ∉ F := by rw [hU65]; exact fun y hy h_ => (List.mem_cons.1 hy).elim (fun e_ => nin_g8_F (e_ ▸ h_)) (fun e_ => hdO y e_ h_)
 have nin_g1_U65 : g1 ∉ U65 := by rw [hU65]; exact fun h_ => (List.mem_cons.1 h_).elim (fun e_ => ne_g1_g8 e_) n2_
 have nin_2_U65 : 2 ∉ U65 := by rw [hU65]; exact fun h_ => (List.mem_cons.1 h_).elim (fun e_ => ne_2_g8 e_) n3_
 have ge_HA_U65 : ∀ y ∈ U65, (World.heap w).size ≤ y := by rw [hU65]; exact fun y hy => (List.mem_cons.1 hy).elim (fun e_ => by rw [e_]; exact ge_HA_g8) (hgO y)
 rw [← hU65] at F57
 have nin_g1_F60 : g1 ∉ F60 := grow_nin hg63 n2_ HE.lt
 have nin_2_F60 : 2 ∉ F60 := grow_nin hg63 n3_ ((tab_lt HTab))
 have dj_F60_F : ∀ y ∈ F60, y ∉ F := grow_dj hg63 hdO HT.lt
 have ge_HA_F60 : ∀ y ∈ F60, (World.heap w).size ≤ y := grow_ge hg63 hgO HA.size
 have HE := Blk.keep HE F57 nin_g1_U65
 have HT := HT.keep F57 (dj_symm dj_U65_F)
 have HTab := tab_keep HTab F57 nin_2_U65
 have hz43 := Nat.le_trans hz43 F57.size
 have HA := Fr.step HA F57 (inF ge_HA_U65)
 rw [show ((hd ev i) ++ (((((([32] : List UInt8) ++ ((([99, 103, 104] : List UInt8).take ev.kind.toNat).drop ((ev.kind - 1).toNat))) ++ ([32] : List UInt8)) ++ (numT ev.value)) ++ ([32] : List UInt8)) ++ (numT ev.time))) = printT ev from print_eq hk (by omega)] at HB61 HO62
 refine WO.doneA (by kernel_rfl) ?_
 refine WQ.keep [0, 1, 2, 3, 4, 9, 15, 16, 17, 18] (e' := [(0, .agg #[.string (str ev.name), .slice A n cp, .int .i64 ev.kind, .int .i64 ev.value, .int .i64 ev.time]), (1, .pointer (some ⟨g1, 0, none⟩)), (2, .string (⟨#[]⟩)), (3, .nilIface), (4, .pointer (some ⟨g8, 0, none⟩)), (9, .bool false), (15, .slice A n cp), (16, .int .i64 (n : Int)), (17, .int .i64 (i : Int)), (18, .bool false)]) (by kernel_rfl) ?_
 refine WQ.thenN ?_
 refine WE.seq ?_
 refine WE.region ?_
 refine WO.call (SQ.E 0 (by kernel_rfl)) 48 (by kernel_rfl) (Build.string_f g8 A58 cap59 (printT ev) F60 (World.heap w).size _ _ HB61 (.inr rfl) HO62 nin64 HA.size ge_HA_g8 ge_HA_F60) ?_
 rintro _ w66 ⟨rfl, bl68⟩
 refine ⟨_, rfl, trivial, ?_⟩
 have HA := fr_below HA bl68
 refine WO.run 2 1 [(3, .nilIface), (2, .string (str (printT ev)))] (by kernel_rfl) (by kernel_rfl) ?_
 refine WO.done (by kernel_rfl) ?_
 refine WQ.keep [0, 1, 2, 3, 4, 9, 15, 16, 17, 18] (e' := [(0, .agg #[.string (str ev.name), .slice A n cp, .int .i64 ev.kind, .int .i64 ev.value, .int .i64 ev.time]), (1, .pointer (some ⟨g1, 0, none⟩)), (2, .string (str (printT ev))), (3, .nilIface), (4, .pointer (some ⟨g8, 0, none⟩)), (9, .bool false), (15, .slice A n cp), (16, .int .i64 (n : Int)), (17, .int .i64 (i : Int)), (18, .bool false)]) (by kernel_rfl) ?_
 refine WQ.thenN ?_
 refine WE.ret ?_
 refine WQ.ret (v := .tuple #[.string (str (printT ev)), .nilIface]) (by kernel_rfl) ?_
 exact ⟨rfl, HA⟩
end Go.Proofs.YtdhonbahpcmmnaaDoor.Line
end
section
set_option linter.unusedVariables false
set_option linter.unusedSimpArgs false
namespace Go.Proofs.YtdhonbahpcmmnaaDoor.Errs
open Go.RowKit Go.Extern.Stop Go.Stop Go.Extern Go.Proofs.YtdhonbahpcmmnaaDoor Go.Proofs.YtdhonbahpcmmnaaDoor.Eng
def ErrT (w : World) : Prop := w.cell? ⟨0, 0, none⟩ = some (.iface 114 (.agg #[.pointer (some ⟨7, 30, none⟩)]))
theorem ErrT.lt {w : World} (h : ErrT w) : 0 < w.heap.size := World.block_lt_of_cell? w _ h
theorem ErrT.keep {w w1 : World} {S : List Nat} (h : ErrT w) (k : Fr S w w1) (hn : 0 ∉ S) : ErrT w1 := by
 unfold ErrT
 rw [World.cell?_of_block (w := w) (w' := w1) (k.block _ h.lt hn)]
 exact h
end Go.Proofs.YtdhonbahpcmmnaaDoor.Errs
end
section
set_option linter.unusedVariables false
set_option linter.unusedSimpArgs false
namespace Go.Proofs.YtdhonbahpcmmnaaDoor.Errs
open Go.RowKit Go.Extern.Stop Go.Stop Go.Extern Go.Proofs.YtdhonbahpcmmnaaDoor Go.Proofs.YtdhonbahpcmmnaaDoor.Eng
section
variable {ι : Type} {ops : Array Oper} {N : Nat} {S : ι → Act → World → Prop} {R : World → World → Prop} {x y : ι} {o : Oper} {e e' : Env} {w : World}
end
end Go.Proofs.YtdhonbahpcmmnaaDoor.Errs
end
section
set_option linter.unusedVariables false
set_option linter.unusedSimpArgs false
namespace Go.Proofs.YtdhonbahpcmmnaaDoor.Line
open Go Go.RowKit Go.Proofs.YtdhonbahpcmmnaaDoor Go.Proofs.YtdhonbahpcmmnaaDoor.Eng Go.Proofs.YtdhonbahpcmmnaaDoorW.PrintWords
theorem few_of {e : Ev} (h : mayE e = true) : fewE e = true := by
 obtain ⟨h1, h2, h3, _⟩ := may_parts h
 unfold fewE
 simp only [Bool.and_eq_true, decide_eq_true_eq]
 refine ⟨⟨List.all_eq_true.2 fun t ht => ?_, ?_⟩, ?_⟩
 ·
  have a := word_len (h1 t ht).1
  have b := word_len (h1 t ht).2
  simp only [Bool.and_eq_true, decide_eq_true_eq]
  omega
 ·
  have := word_len h2
  omega
 ·
  omega
end Go.Proofs.YtdhonbahpcmmnaaDoor.Line
end
section
set_option linter.unusedVariables false
namespace Go.Proofs.YtdhonbahpcmmnaaDoor.Eng
open Go Go.Proofs.YtdhonbahpcmmnaaDoor
def ltS (a b : List UInt8) : Bool := Go.Op.bytesLess a b
theorem toList_str (l : List UInt8) : (str l).toList = l := ByteArray.toList_eq (str l)
theorem lss_str (a b : List UInt8) : Go.Op.bytesLess (str a).toList (str b).toList = ltS a b := by rw [toList_str, toList_str]; rfl
theorem ltS_cons (x y : UInt8) (a b : List UInt8) : ltS (x :: a) (y :: b) = true ↔ x.toNat < y.toNat ∨ (x = y ∧ ltS a b = true) := by
 show (decide (x < y) || (x == y && ltS a b)) = true ↔ _
 simp only [Bool.or_eq_true, Bool.and_eq_true, decide_eq_true_eq, beq_iff_eq]
 exact Iff.rfl
theorem ltS_nil (a : List UInt8) : ltS a [] = false := by cases a <;> rfl
theorem ltS_irrefl : ∀ a : List UInt8, ltS a a = false
 | [] => rfl
 | x :: a => by
  rw [Bool.eq_false_iff]
  intro h
  rcases (ltS_cons x x a a).1 h with h | h
  ·
   omega
  ·
   rw [ltS_irrefl a] at h
   cases h.2
theorem ltS_trans : ∀ a b c : List UInt8, ltS a b = true → ltS b c = true → ltS a c = true
 | _, _, [], _, h => by rw [ltS_nil] at h; cases h
 | _, [], _ :: _, h, _ => by rw [ltS_nil] at h; cases h
 | [], _ :: _, _ :: _, _, _ => rfl
 | x :: a, y :: b, z :: c, h1, h2 => by
  rw [ltS_cons] at h1 h2 ⊢
  rcases h1 with h1 | ⟨rfl, h1⟩
  ·
   rcases h2 with h2 | ⟨rfl, h2⟩
   ·
    exact .inl (by omega)
   ·
    exact .inl h1
  ·
   rcases h2 with h2 | ⟨rfl, h2⟩
   ·
    exact .inl h2
   ·
    exact .inr ⟨rfl, ltS_trans a b c h1 h2⟩
theorem ltS_tri : ∀ a b : List UInt8, ltS a b = false → ltS b a = false → a = b
 | [], [], _, _ => rfl
 | [], _ :: _, h, _ => by cases h
 | _ :: _, [], _, h => by cases h
 | x :: a, y :: b, h1, h2 => by
  rw [Bool.eq_false_iff, ne_eq, ltS_cons] at h1 h2
  have e : x = y := UInt8.toNat_inj.1 (by omega)
  subst e
  rw [ltS_tri a b (by rw [Bool.eq_false_iff]; exact fun h => h1 (.inr ⟨rfl, h⟩)) (by rw [Bool.eq_false_iff]; exact fun h => h2 (.inr ⟨rfl, h⟩))]
theorem ltS_asymm {a b : List UInt8} (h : ltS a b = true) : ltS b a = false := by
 rw [Bool.eq_false_iff]
 intro h2
 have := ltS_trans a b a h h2
 rw [ltS_irrefl] at this
 cases this
theorem gtr_str (a b : List UInt8) : (!(Go.Op.bytesLess (str a).toList (str b).toList || (str a).toList == (str b).toList)) = ltS b a := by
 rw [toList_str, toList_str]
 show (!(ltS a b || a == b)) = ltS b a
 cases h : ltS a b with
 | true => rw [ltS_asymm h]; rfl
 | false =>
  cases h2 : ltS b a with
  | true =>
   have : (a == b) = false := by
    rw [Bool.eq_false_iff]
    intro e
    rw [eq_of_beq e, ltS_irrefl] at h2
    cases h2
   rw [this]; rfl
  | false => rw [ltS_tri a b h h2]; simp
end Go.Proofs.YtdhonbahpcmmnaaDoor.Eng
end
section
set_option maxHeartbeats 400000
set_option linter.unusedVariables false
set_option linter.unusedSimpArgs false
namespace Go.Proofs.YtdhonbahpcmmnaaDoor.Line
open Go Go.RowKit Go.Proofs.YtdhonbahpcmmnaaDoor Go.Proofs.YtdhonbahpcmmnaaDoor.Eng Go.Proofs.YtdhonbahpcmmnaaDoorW.PrintWords
abbrev Tgs := List (L × L)
def Asc (l : Tgs) : Prop := l.Pairwise fun a b => ltS b.1 a.1 = false
def StrA (l : Tgs) : Prop := l.Pairwise fun a b => ltS a.1 b.1 = true
def insK (x : L × L) : Tgs → Tgs
 | [] => [x]
 | y :: l => if ltS y.1 x.1 = true then y :: insK x l else x :: y :: l
def sortK (l : Tgs) : Tgs := l.foldl (fun s x => insK x s) []
def dupA : Tgs → Bool
 | a :: b :: l => decide (a.1 = b.1) || dupA (b :: l)
 | _ => false
def canonE (e : Ev) : Sum Ev Int := if mayE e = false then .inr 1 else if dupA (sortK e.tags) = true then .inr 5 else .inl { e with tags := sortK e.tags }
def keyE (e : Ev) : Sum L Int :=
 match canonE e with
 | .inr c => .inr c
 | .inl c => .inl (headT c)
theorem insK_perm (x : L × L) : ∀ l, (insK x l).Perm (x :: l)
 | [] => List.Perm.refl _
 | y :: l => by
  unfold insK
  split
  ·
   exact ((insK_perm x l).cons y).trans (List.Perm.swap x y l)
  ·
   exact List.Perm.refl _
theorem fold_perm : ∀ (l s : Tgs), (l.foldl (fun s x => insK x s) s).Perm (s ++ l)
 | [], s => by simp
 | x :: l, s => by
  rw [List.foldl_cons]
  refine (fold_perm l (insK x s)).trans ?_
  have h := (insK_perm x s).append_right l
  refine h.trans ?_
  exact (List.perm_middle (a := x) (l₁ := s) (l₂ := l)).symm
theorem sortK_perm (l : Tgs) : (sortK l).Perm l := fold_perm l []
theorem insK_asc {x : L × L} : ∀ {l : Tgs}, Asc l → Asc (insK x l)
 | [], _ => by simp [insK, Asc]
 | y :: l, h => by
  obtain ⟨h1, h2⟩ := List.pairwise_cons.1 h
  unfold insK
  split
  ·
   rename_i hxy
   refine List.pairwise_cons.2 ⟨fun z hz => ?_, insK_asc h2⟩
   rcases List.mem_cons.1 ((insK_perm x l).mem_iff.1 hz) with rfl | hz
   ·
    exact ltS_asymm hxy
   ·
    exact h1 z hz
  ·
   rename_i hxy
   have hxy : ltS y.1 x.1 = false := by simpa using hxy
   refine List.pairwise_cons.2 ⟨fun z hz => ?_, h⟩
   rcases List.mem_cons.1 hz with rfl | hz
   ·
    exact hxy
   ·
    rw [Bool.eq_false_iff]
    intro hzx
    have h3 := h1 z hz
    rw [Bool.eq_false_iff] at h3 hxy
    by_cases hyz : ltS y.1 z.1 = true
    ·
     exact hxy (ltS_trans _ _ _ hyz hzx)
    ·
     have e := ltS_tri _ _ (by simpa using hyz) (by simpa using h3)
     rw [e] at hxy
     exact hxy hzx
theorem fold_asc : ∀ (l : Tgs) {s : Tgs}, Asc s → Asc (l.foldl (fun s x => insK x s) s)
 | [], _, h => h
 | x :: l, _, h => fold_asc l (insK_asc h)
theorem sortK_asc (l : Tgs) : Asc (sortK l) := fold_asc l List.Pairwise.nil
theorem asc_str : ∀ {l : Tgs}, Asc l → dupA l = false → StrA l
 | [], _, _ => List.Pairwise.nil
 | [a], _, _ => by simp [StrA]
 | a :: b :: l, h, hd => by
  obtain ⟨h1, h2⟩ := List.pairwise_cons.1 h
  unfold dupA at hd
  simp only [Bool.or_eq_false_iff, decide_eq_false_iff_not] at hd
  have ih := asc_str h2 hd.2
  refine List.pairwise_cons.2 ⟨fun z hz => ?_, ih⟩
  have hab : ltS a.1 b.1 = true := by
   cases hab : ltS a.1 b.1 with
   | true => rfl
   | false => exact absurd (ltS_tri _ _ hab (h1 b (by simp))) hd.1
  rcases List.mem_cons.1 hz with rfl | hz
  ·
   exact hab
  ·
   exact ltS_trans _ _ _ hab ((List.pairwise_cons.1 ih).1 z hz)
theorem str_dup : ∀ {l : Tgs}, StrA l → dupA l = false
 | [], _ => rfl
 | [a], _ => rfl
 | a :: b :: l, h => by
  obtain ⟨h1, h2⟩ := List.pairwise_cons.1 h
  unfold dupA
  rw [str_dup h2, Bool.or_false, decide_eq_false_iff_not]
  intro e
  have := h1 b (by simp)
  rw [e, ltS_irrefl] at this
  cases this
theorem str_asc {l : Tgs} (h : StrA l) : Asc l := h.imp fun h => ltS_asymm h
theorem str_uniq : ∀ {l m : Tgs}, l.Perm m → StrA l → StrA m → l = m
 | [], m, h, _, _ => (List.nil_perm.1 h).symm
 | a :: l, [], h, _, _ => absurd h.length_eq (by simp)
 | a :: l, b :: m, h, h1, h2 => by
  obtain ⟨a1, a2⟩ := List.pairwise_cons.1 h1
  obtain ⟨b1, b2⟩ := List.pairwise_cons.1 h2
  have e : a = b := by
   rcases List.mem_cons.1 (h.mem_iff.1 (List.mem_cons_self (a := a) (l := l))) with e | ha
   ·
    exact e
   ·
    rcases List.mem_cons.1 (h.mem_iff.2 (List.mem_cons_self (a := b) (l := m))) with e | hb
    ·
     exact e.symm
    ·
     have k1 := a1 b hb
     have k2 := b1 a ha
     rw [ltS_asymm k1] at k2
     cases k2
  subst e
  rw [str_uniq ((List.perm_cons a).1 h) a2 b2]
theorem asc_nodup {l : Tgs} (h : Asc l) : dupA l = false ↔ (l.map Prod.fst).Nodup := by
 constructor
 ·
  intro hd
  have := asc_str h hd
  rw [List.nodup_iff_pairwise_ne, List.pairwise_map]
  refine this.imp fun {a b} hab e => ?_
  rw [e, ltS_irrefl] at hab
  cases hab
 ·
  intro hn
  clear h
  induction l with
  | nil => rfl
  | cons a l ih =>
   rw [List.map_cons, List.nodup_cons] at hn
   cases l with
   | nil => rfl
   | cons b l =>
    unfold dupA
    rw [ih hn.2, Bool.or_false, decide_eq_false_iff_not]
    intro e
    exact hn.1 (by rw [e]; simp)
theorem dup_perm {l m : Tgs} (h : l.Perm m) (h1 : Asc l) (h2 : Asc m) : dupA l = dupA m := by
 have h3 := asc_nodup h1
 have h4 := asc_nodup h2
 have h5 : (l.map Prod.fst).Nodup ↔ (m.map Prod.fst).Nodup := (h.map Prod.fst).nodup_iff
 cases ha : dupA l <;> cases hb : dupA m
 ·
  rfl
 ·
  rw [ha] at h3; rw [hb] at h4
  exact absurd (h4.2 (h5.1 (h3.1 rfl))) (by simp)
 ·
  rw [ha] at h3; rw [hb] at h4
  exact absurd (h3.2 (h5.2 (h4.1 rfl))) (by simp)
 ·
  rfl
theorem canon_of {e : Ev} {ts : Tgs} (hp : ts.Perm e.tags) (ha : Asc ts) (hm : mayE e = true) : canonE e = if dupA ts = true then .inr 5 else .inl { e with tags := ts } := by
 have hq := hp.trans (sortK_perm e.tags).symm
 have hd := dup_perm hq ha (sortK_asc e.tags)
 unfold canonE
 rw [if_neg (by rw [hm]; simp), ← hd]
 cases h : dupA ts with
 | true => rfl
 | false =>
  rw [← str_uniq hq (asc_str ha h) (asc_str (sortK_asc _) (by rw [← hd]; exact h))]
theorem canon_no {e : Ev} (h : mayE e = false) : canonE e = .inr 1 := if_pos h
theorem may_perm {e : Ev} {r : Tgs} (h : r.Perm e.tags) : mayE { e with tags := r } = mayE e := by
 have h1 : r.all (fun t => isWord t.1 && isWord t.2) = e.tags.all (fun t => isWord t.1 && isWord t.2) := by
  rw [Bool.eq_iff_iff, List.all_eq_true, List.all_eq_true]
  exact ⟨fun k x hx => k x (h.mem_iff.2 hx), fun k x hx => k x (h.mem_iff.1 hx)⟩
 unfold mayE
 simp only [h1, h.length_eq]
theorem canon_may {e c : Ev} (h : canonE e = .inl c) : mayE e = true ∧ c = { e with tags := sortK e.tags } ∧ dupA (sortK e.tags) = false ∧ mayE c = true := by
 unfold canonE at h
 by_cases h1 : mayE e = false
 ·
  rw [if_pos h1] at h; cases h
 ·
  rw [if_neg h1] at h
  have h1 : mayE e = true := by simpa using h1
  by_cases h2 : dupA (sortK e.tags) = true
  ·
   rw [if_pos h2] at h; cases h
  ·
   rw [if_neg h2] at h
   injection h with h
   exact ⟨h1, h.symm, by simpa using h2, by rw [← h, may_perm (sortK_perm _)]; exact h1⟩
theorem canon_fix {c : Ev} (hm : mayE c = true) (hs : StrA c.tags) : canonE c = .inl c := by
 rw [canon_of (List.Perm.refl _) (str_asc hs) hm, if_neg (by rw [str_dup hs]; simp)]
theorem index_first : ∀ (a r : L), 32 ∉ a → Lib.index (a ++ 32 :: r) [32] = (a.length : Int)
 | [], r, _ => by simp [Lib.index, List.isPrefixOf]
 | b :: a, r, h => by
  have hb : (32 : UInt8) ≠ b := fun e => h (by rw [e]; simp)
  have ih := index_first a r (fun k => h (by simp [k]))
  rw [List.cons_append, Lib.index]
  have e1 : ([32] : L).isPrefixOf (b :: (a ++ 32 :: r)) = false := by simp [List.isPrefixOf, hb]
  rw [e1, ih]
  have e2 : ((a.length : Int) == -1) = false := by
   rw [Bool.eq_false_iff]
   intro k
   have := eq_of_beq k
   omega
  rw [e2]
  simp
theorem head_no32 {c : Ev} (h : mayE c = true) : (32 : UInt8) ∉ headT c := by
 obtain ⟨h1, h2, h3, _⟩ := may_parts h
 have hw : ∀ w : L, isWord w = true → (32 : UInt8) ∉ w := fun w hw hm => by
  have := word_in hw 32 hm
  cases this
 intro hm
 rw [head_eq] at hm
 rcases List.mem_append.1 hm with hm | hm
 ·
  exact hw _ h2 hm
 ·
  have key : ∀ ts : Tgs, (∀ t ∈ ts, isWord t.1 = true ∧ isWord t.2 = true) → (32 : UInt8) ∉ tagsT ts := by
   intro ts
   induction ts with
   | nil => intro _; simp [tagsT]
   | cons t ts ih =>
    intro hh hm
    rw [tagsT_cons] at hm
    obtain ⟨k1, k2⟩ := hh t (by simp)
    simp only [List.mem_cons, List.mem_append] at hm
    rcases hm with hm | hm | hm | hm | hm
    ·
     cases hm
    ·
     exact hw _ k1 hm
    ·
     cases hm
    ·
     exact hw _ k2 hm
    ·
     exact ih (fun u hu => hh u (by simp [hu])) hm
  exact key _ h1 hm
theorem cut_print {c : Ev} (h : mayE c = true) : Lib.cut (printT c) [32] = (headT c, letter c.kind ++ 32 :: (numT c.value ++ 32 :: numT c.time), true) := by
 unfold Lib.cut printT
 rw [index_first _ _ (head_no32 h)]
 rw [if_pos (by omega)]
 simp [List.drop_append]
end Go.Proofs.YtdhonbahpcmmnaaDoor.Line
end
