/- Layer 5's law SeriesAny. -/
import Derived.Test.YtdhonbahpcmmnaaDoorSerC
set_option linter.unusedVariables false
set_option linter.unusedSimpArgs false
namespace Go.Proofs.YtdhonbahpcmmnaaDoor.Line
open Go Go.RowKit Go.Proofs.YtdhonbahpcmmnaaDoor Go.Proofs.YtdhonbahpcmmnaaDoor.Eng Go.Proofs.YtdhonbahpcmmnaaDoorW.PrintWords
open Go.Proofs
def upEv : Ev := { name := [99, 112, 117], tags := [([98], [49]), ([97], [50])], kind := 2, value := 0, time := 0 }
theorem up_key : keyE upEv = .inl [99, 112, 117, 44, 97, 61, 50, 44, 98, 61, 49] := by rfl
theorem up_of : ofE [99, 112, 117, 44, 98, 61, 49, 44, 97, 61, 50] = none := by
 have hp : parseP ([99, 112, 117, 44, 98, 61, 49, 44, 97, 61, 50] ++ tailT) = .inl (ev0 upEv) := by
  have h : printT (ev0 upEv) = [99, 112, 117, 44, 98, 61, 49, 44, 97, 61, 50] ++ tailT := print_ev0 upEv
  rw [← h]
  exact parse_fwd (by rfl) (by decide)
 exact of_nk (by decide) hp (fun h => by
  have e : keyE (ev0 upEv) = .inl [99, 112, 117, 44, 97, 61, 50, 44, 98, 61, 49] := by rfl
  rw [e] at h
  injection h with h
  exact absurd h (by decide))
def revE (ev : Ev) : Ev := { ev with tags := ev.tags.reverse }
theorem key_canon {e : Ev} {k : L} (h : keyE e = .inl k) : ∃ c, canonE e = .inl c ∧ headT c = k := by
 unfold keyE at h
 cases hc : canonE e with
 | inr c => rw [hc] at h; cases h
 | inl c => rw [hc] at h; injection h with h; exact ⟨c, rfl, h⟩
theorem rev_step {q : Tgs} {n k : Nat} (hn : q.length = n) (h : 0 < k ∧ k ≤ n) : (q.drop k).reverse ++ [gT q (k - 1)] = (q.drop (k - 1)).reverse := by
 have hlt : k - 1 < q.length := by omega
 rw [List.drop_eq_getElem_cons hlt, List.reverse_cons, show k - 1 + 1 = k by omega]
 have : gT q (k - 1) = q[k - 1] := by
  unfold gT
  rw [List.getD_eq_getElem?_getD, List.getElem?_eq_getElem hlt]
  rfl
 rw [this]
set_option maxRecDepth 100000 in
set_option maxHeartbeats 400000 in
theorem up5_any (w : World) (HS : VarI w "strconv.ErrSyntax") (HR : VarI w "strconv.ErrRange") (HTab : Lib.TabIs Tryd.prog w "internal/strconv.uint64pow10" .u64 Lib.pow10Tab) (HM : MaxI w) :
  Calls Tryd.prog 27 #[] w fun e w' => e = .returned (.bool true) ∧ Fr [] w w' := by
 have HA := Fr.refl [] w
 refine enter (N := 28) Tryd.func27 (c := _) rfl (by kernel_rfl) (by kernel_rfl) (e := []) (by kernel_rfl) ?_
 refine WE.seq ?_
 refine WE.region ?_
 refine WO.run 1 0 [(0, .bool false)] (by kernel_rfl) (by kernel_rfl) ?_
 refine WO.done (by kernel_rfl) ?_
 refine WQ.thenN ?_
 refine WE.seq ?_
 refine WE.region ?_
 refine WO.run 2 0 [(7, .agg #[.string (⟨#[97]⟩), .string (⟨#[50]⟩)]), (6, .agg #[.string (⟨#[98]⟩), .string (⟨#[49]⟩)])] (by kernel_rfl) (by kernel_rfl) ?_
 refine WO.bx (SQ.E 2 (by kernel_rfl)) 8 #[.string (⟨#[98]⟩), .string (⟨#[49]⟩), .string (⟨#[97]⟩), .string (⟨#[50]⟩)] 53 (fun g => .slice (some ⟨g, 0, none⟩) 2 2) (by kernel_rfl) (fun _ _ => trivial) ?_
 intro g1 w2 HB4 F3 le5 _
 have ne_3_g1 : 3 ≠ g1 := Nat.ne_of_lt (Nat.lt_of_lt_of_le (var_lt 3 (by kernel_rfl) HS) le5)
 have ne_4_g1 : 4 ≠ g1 := Nat.ne_of_lt (Nat.lt_of_lt_of_le (var_lt 4 (by kernel_rfl) HR) le5)
 have ne_2_g1 : 2 ≠ g1 := Nat.ne_of_lt (Nat.lt_of_lt_of_le (tab_lt HTab) le5)
 have ne_1_g1 : 1 ≠ g1 := Nat.ne_of_lt (Nat.lt_of_lt_of_le (max_lt HM) le5)
 have ge_HA_g1 := Nat.le_trans HA.size le5
 have HS := var_keep 3 (by kernel_rfl) HS F3 (nin0 _)
 have HR := var_keep 4 (by kernel_rfl) HR F3 (nin0 _)
 have HTab := tab_keep HTab F3 (nin0 _)
 have HM := max_keep HM F3 (nin0 _)
 have HA := Fr.step0 HA F3
 refine WO.run 1 3 [(9, .agg #[.string (⟨#[99, 112, 117]⟩), .slice (some ⟨g1, 0, none⟩) 2 2, .int .i64 2, .int .i64 0, .int .i64 0])] (by kernel_rfl) (by kernel_rfl) ?_
 have HVu := VX.of_row (RowB.of_blk (n := 2) HB4 (List.map cT upEv.tags) rfl rfl (cT_len _) (cT_one _) (by omega))
 have nu2 : 2 ∉ [g1] := by simpa using ne_2_g1
 have nu3 : 3 ∉ [g1] := by simpa using ne_3_g1
 have nu4 : 4 ∉ [g1] := by simpa using ne_4_g1
 have nu1 : 1 ∉ [g1] := by simpa using ne_1_g1
 refine WO.call (SQ.E 4 (by kernel_rfl)) 10 (by kernel_rfl) (key_f upEv (some ⟨g1, 0, none⟩) 2 2 [g1] _ HVu rfl (by omega) (by decide) (by decide) (by decide) nu2 nu3 nu4 nu1 HS HR HTab HM) ?_
 intro e_ w6 hr_
 rw [up_key] at hr_
 obtain ⟨rfl, F7⟩ := hr_
 refine ⟨_, rfl, trivial, ?_⟩
 have HB4 := Blk.keep HB4 F7 (nin0 _)
 have HS := var_keep 3 (by kernel_rfl) HS F7 (nin0 _)
 have HR := var_keep 4 (by kernel_rfl) HR F7 (nin0 _)
 have HTab := tab_keep HTab F7 (nin0 _)
 have HM := max_keep HM F7 (nin0 _)
 have HA := Fr.step0 HA F7
 refine WO.run 5 5 [(2, .nilIface), (1, .string (str [99, 112, 117, 44, 97, 61, 50, 44, 98, 61, 49])), (12, .nilIface), (11, .string (str [99, 112, 117, 44, 97, 61, 50, 44, 98, 61, 49])), (5, .tuple #[.string (str [99, 112, 117, 44, 97, 61, 50, 44, 98, 61, 49]), .nilIface])] (by kernel_rfl) (by kernel_rfl) ?_
 refine WO.done (by kernel_rfl) ?_
 refine WQ.keep [0, 1, 2] (e' := [(0, .bool false), (1, .string (str [99, 112, 117, 44, 97, 61, 50, 44, 98, 61, 49])), (2, .nilIface)]) (by kernel_rfl) ?_
 refine WQ.thenN ?_
 refine WE.seq ?_
 refine WE.region ?_
 refine WO.call (SQ.E 0 (by kernel_rfl)) 14 (by kernel_rfl) (of_f [99, 112, 117, 44, 98, 61, 49, 44, 97, 61, 50] _ (by decide) HS HR HTab HM) ?_
 intro e_ w8 hr_
 rw [up_of] at hr_
 obtain ⟨rfl, F9⟩ := hr_
 refine ⟨_, rfl, trivial, ?_⟩
 have HB4 := Blk.keep HB4 F9 (nin0 _)
 have HS := var_keep 3 (by kernel_rfl) HS F9 (nin0 _)
 have HR := var_keep 4 (by kernel_rfl) HR F9 (nin0 _)
 have HTab := tab_keep HTab F9 (nin0 _)
 have HM := max_keep HM F9 (nin0 _)
 have HA := Fr.step0 HA F9
 refine WO.run 3 1 [(16, .iface 35 (.int .i64 2)), (15, .agg #[.string (⟨#[]⟩), .slice none 0 0, .int .i64 0, .int .i64 0, .int .i64 0]), (13, .tuple #[.agg #[.string (⟨#[]⟩), .slice none 0 0, .int .i64 0, .int .i64 0, .int .i64 0], .iface 35 (.int .i64 2)])] (by kernel_rfl) (by kernel_rfl) ?_
 refine WO.bx (SQ.E 4 (by kernel_rfl)) 3 #[.string (⟨#[]⟩), .slice none 0 0, .int .i64 0, .int .i64 0, .int .i64 0] 25 (fun g => .pointer (some ⟨g, 0, none⟩)) (by kernel_rfl) (fun _ _ => trivial) ?_
 intro g10 w11 HB13 F12 le14 _
 have ne_g1_g10 : g1 ≠ g10 := Nat.ne_of_lt (Nat.lt_of_lt_of_le HB4.lt le14)
 have ne_3_g10 : 3 ≠ g10 := Nat.ne_of_lt (Nat.lt_of_lt_of_le (var_lt 3 (by kernel_rfl) HS) le14)
 have ne_4_g10 : 4 ≠ g10 := Nat.ne_of_lt (Nat.lt_of_lt_of_le (var_lt 4 (by kernel_rfl) HR) le14)
 have ne_2_g10 : 2 ≠ g10 := Nat.ne_of_lt (Nat.lt_of_lt_of_le (tab_lt HTab) le14)
 have ne_1_g10 : 1 ≠ g10 := Nat.ne_of_lt (Nat.lt_of_lt_of_le (max_lt HM) le14)
 have ge_HA_g10 := Nat.le_trans HA.size le14
 have HB4 := Blk.keep HB4 F12 (nin0 _)
 have HS := var_keep 3 (by kernel_rfl) HS F12 (nin0 _)
 have HR := var_keep 4 (by kernel_rfl) HR F12 (nin0 _)
 have HTab := tab_keep HTab F12 (nin0 _)
 have HM := max_keep HM F12 (nin0 _)
 have HA := Fr.step0 HA F12
 refine WO.st (SQ.E 5 (by kernel_rfl)) g10 0 [.string (⟨#[]⟩), .slice none 0 0, .int .i64 0, .int .i64 0, .int .i64 0] #[.string (⟨#[]⟩), .slice none 0 0, .int .i64 0, .int .i64 0, .int .i64 0] (by kernel_rfl) HB13 (by kernel_rfl) (by kernel_rfl) (fun _ _ => trivial) ?_
 intro w15 HB17 F16 _
 have HB4 := Blk.keep HB4 F16 (ninC ne_g1_g10 (nin0 _))
 have HS := var_keep 3 (by kernel_rfl) HS F16 (ninC ne_3_g10 (nin0 _))
 have HR := var_keep 4 (by kernel_rfl) HR F16 (ninC ne_4_g10 (nin0 _))
 have HTab := tab_keep HTab F16 (ninC ne_2_g10 (nin0 _))
 have HM := max_keep HM F16 (ninC ne_1_g10 (nin0 _))
 have HA := Fr.step HA F16 (inSR ge_HA_g10 inS0)
 refine WO.run 1 6 [(4, .iface 35 (.int .i64 2))] (by kernel_rfl) (by kernel_rfl) ?_
 refine WO.done (by kernel_rfl) ?_
 refine WQ.keep [0, 1, 2, 4] (e' := [(0, .bool false), (1, .string (str [99, 112, 117, 44, 97, 61, 50, 44, 98, 61, 49])), (2, .nilIface), (4, .iface 35 (.int .i64 2))]) (by kernel_rfl) ?_
 refine WQ.thenN ?_
 refine WE.seq ?_
 refine WE.region ?_
 refine WO.run 4 0 [(20, .string (str [99, 112, 117, 44, 97, 61, 50, 44, 98, 61, 49])), (19, .bool true), (18, .bool true), (17, .nilIface)] (by kernel_rfl) (by kernel_rfl) ?_
 refine WO.one (SQ.F 4 (by kernel_rfl)) 21 (.bool ((str [99, 112, 117, 44, 97, 61, 50, 44, 98, 61, 49]).toList == (⟨#[99, 112, 117, 44, 97, 61, 50, 44, 98, 61, 49]⟩ : ByteArray).toList)) (by kernel_rfl) ?_
 refine WO.top (v' := .bool (decide ((str [99, 112, 117, 44, 97, 61, 50, 44, 98, 61, 49]) = (⟨#[99, 112, 117, 44, 97, 61, 50, 44, 98, 61, 49]⟩ : ByteArray)))) (congrArg Value.bool (streq (str [99, 112, 117, 44, 97, 61, 50, 44, 98, 61, 49]) (⟨#[99, 112, 117, 44, 97, 61, 50, 44, 98, 61, 49]⟩ : ByteArray))) ?_
 refine WO.topPT ((str [99, 112, 117, 44, 97, 61, 50, 44, 98, 61, 49]) = (⟨#[99, 112, 117, 44, 97, 61, 50, 44, 98, 61, 49]⟩ : ByteArray)) (by rfl) ?_
 refine WO.run 7 5 [(0, .bool true), (27, .bool true), (26, .bool true), (25, .iface 35 (.int .i64 2)), (24, .iface 35 (.int .i64 2)), (23, .bool true), (22, .bool true)] (by kernel_rfl) (by kernel_rfl) ?_
 refine WO.done (by kernel_rfl) ?_
 refine WQ.keep [0] (e' := [(0, .bool true)]) (by kernel_rfl) ?_
 refine WQ.thenN ?_
 refine WE.ret ?_
 refine WQ.ret (v := .bool true) (by kernel_rfl) ?_
 exact ⟨rfl, HA⟩
set_option maxRecDepth 100000 in
set_option maxHeartbeats 1000000 in
theorem series_any (ev : Ev) (A : Option Addr) (n cp : Nat) (F : List Nat) (w : World) (HT : VX cT 2 w F A ev.tags) (hn : ev.tags.length = n) (hnn : n ≤ 9223372036854775807) (hln : ev.name.length ≤ 9223372036854775807) (hlt : ∀ t ∈ ev.tags, t.1.length ≤ 9223372036854775807 ∧ t.2.length ≤ 9223372036854775807) (hv : -9223372036854775808 ≤ ev.value ∧ ev.value ≤ 9223372036854775807) (hF2 : 2 ∉ F) (hF3 : 3 ∉ F) (hF4 : 4 ∉ F) (hF1 : 1 ∉ F) (HS : VarI w "strconv.ErrSyntax") (HR : VarI w "strconv.ErrRange") (HTab : Lib.TabIs Tryd.prog w "internal/strconv.uint64pow10" .u64 Lib.pow10Tab) (HM : MaxI w) :
  Calls Tryd.prog 7 #[.agg #[.string (str ev.name), .slice A n cp, .int .i64 ev.kind, .int .i64 ev.value, .int .i64 ev.time]] w fun e w' => e = .returned (.bool true) ∧ Fr [] w w' := by
 have HA := Fr.refl [] w
 refine enter (N := 127) Tryd.func7 (c := _) rfl (by kernel_rfl) (by kernel_rfl) (e := [(0, .agg #[.string (str ev.name), .slice A n cp, .int .i64 ev.kind, .int .i64 ev.value, .int .i64 ev.time])]) (by kernel_rfl) ?_
 refine WE.seq ?_
 refine WE.region ?_
 refine WO.bx (SQ.E 0 (by kernel_rfl)) 1 #[.string (str ev.name), .slice A n cp, .int .i64 ev.kind, .int .i64 ev.value, .int .i64 ev.time] 25 (fun g => .pointer (some ⟨g, 0, none⟩)) (by kernel_rfl) (fun _ _ => trivial) ?_
 intro g1 w2 HB4 F3 le5 _
 have nin_g1_F : g1 ∉ F := new_nin HT.lt le5
 have ne_3_g1 : 3 ≠ g1 := Nat.ne_of_lt (Nat.lt_of_lt_of_le (var_lt 3 (by kernel_rfl) HS) le5)
 have ne_4_g1 : 4 ≠ g1 := Nat.ne_of_lt (Nat.lt_of_lt_of_le (var_lt 4 (by kernel_rfl) HR) le5)
 have ne_2_g1 : 2 ≠ g1 := Nat.ne_of_lt (Nat.lt_of_lt_of_le (tab_lt HTab) le5)
 have ne_1_g1 : 1 ≠ g1 := Nat.ne_of_lt (Nat.lt_of_lt_of_le (max_lt HM) le5)
 have ge_HA_g1 := Nat.le_trans HA.size le5
 have HT := HT.keep F3 (fun _ _ => nin0 _)
 have HS := var_keep 3 (by kernel_rfl) HS F3 (nin0 _)
 have HR := var_keep 4 (by kernel_rfl) HR F3 (nin0 _)
 have HTab := tab_keep HTab F3 (nin0 _)
 have HM := max_keep HM F3 (nin0 _)
 have HA := Fr.step0 HA F3
 refine WO.run 1 1 [(2, .bool false)] (by kernel_rfl) (by kernel_rfl) ?_
 refine WO.done (by kernel_rfl) ?_
 refine WQ.keep [1, 2] (e' := [(1, .pointer (some ⟨g1, 0, none⟩)), (2, .bool false)]) (by kernel_rfl) ?_
 refine WQ.thenN ?_
 refine WE.seq ?_
 refine WE.region ?_
 refine WO.call (SQ.E 0 (by kernel_rfl)) 17 (by kernel_rfl) (up5_any _ HS HR HTab HM) ?_
 rintro _ w6 ⟨rfl, F7⟩
 refine ⟨_, rfl, trivial, ?_⟩
 have HB4 := Blk.keep HB4 F7 (nin0 _)
 have HT := HT.keep F7 (fun _ _ => nin0 _)
 have HS := var_keep 3 (by kernel_rfl) HS F7 (nin0 _)
 have HR := var_keep 4 (by kernel_rfl) HR F7 (nin0 _)
 have HTab := tab_keep HTab F7 (nin0 _)
 have HM := max_keep HM F7 (nin0 _)
 have HA := Fr.step0 HA F7
 refine WO.run 1 1 [(3, .bool true)] (by kernel_rfl) (by kernel_rfl) ?_
 refine WO.done (by kernel_rfl) ?_
 refine WQ.keep [1, 2, 3] (e' := [(1, .pointer (some ⟨g1, 0, none⟩)), (2, .bool false), (3, .bool true)]) (by kernel_rfl) ?_
 refine WQ.thenN ?_
 refine WE.seq ?_
 refine WE.region ?_
 refine WO.ldB (SQ.S 0 (by kernel_rfl)) 18 [.string (str ev.name), .slice A n cp, .int .i64 ev.kind, .int .i64 ev.value, .int .i64 ev.time] g1 0 (by kernel_rfl) (by kernel_rfl) (same HB4) (by kernel_rfl) ?_
 refine WO.call (SQ.E 1 (by kernel_rfl)) 19 (by kernel_rfl) (few_f ev A n cp F _ HT hn hnn hln hlt) ?_
 rintro _ w8 ⟨rfl, F9⟩
 refine ⟨_, rfl, trivial, ?_⟩
 have HB4 := Blk.keep HB4 F9 (nin0 _)
 have HT := HT.keep F9 (fun _ _ => nin0 _)
 have HS := var_keep 3 (by kernel_rfl) HS F9 (nin0 _)
 have HR := var_keep 4 (by kernel_rfl) HR F9 (nin0 _)
 have HTab := tab_keep HTab F9 (nin0 _)
 have HM := max_keep HM F9 (nin0 _)
 have HA := Fr.step0 HA F9
 rcases Bool.eq_false_or_eq_true (fewE ev) with hfew | hfew
 ·
  rw [hfew]
  refine WO.run 1 2 [(4, .bool true)] (by kernel_rfl) (by kernel_rfl) ?_
  refine WO.done (by kernel_rfl) ?_
  refine WQ.keep [1, 2, 3, 4] (e' := [(1, .pointer (some ⟨g1, 0, none⟩)), (2, .bool false), (3, .bool true), (4, .bool true)]) (by kernel_rfl) ?_
  refine WQ.thenN ?_
  refine WE.seq ?_
  refine WE.seq ?_
  refine WE.region ?_
  refine WO.run 2 0 [(21, .bool false), (20, .bool true)] (by kernel_rfl) (by kernel_rfl) ?_
  refine WO.done (by kernel_rfl) ?_
  refine WQ.keep [1, 2, 3, 21] (e' := [(1, .pointer (some ⟨g1, 0, none⟩)), (2, .bool false), (3, .bool true), (21, .bool false)]) (by kernel_rfl) ?_
  refine WQ.thenN ?_
  refine WE.condF (by kernel_rfl) ?_
  refine WE.skip ?_
  refine WQ.thenN ?_
  refine WE.seq ?_
  have hn20 := few_n hfew
  refine WE.region ?_
  refine WO.ldB (SQ.S 0 (by kernel_rfl)) 24 [.string (str ev.name), .slice A n cp, .int .i64 ev.kind, .int .i64 ev.value, .int .i64 ev.time] g1 0 (by kernel_rfl) (by kernel_rfl) (same HB4) (by kernel_rfl) ?_
  cases hk_ : keyE ev
  rotate_left
  ·
   rename_i co
   refine WO.call (SQ.E 1 (by kernel_rfl)) 25 (by kernel_rfl) (key_f ev A n cp F _ HT hn hnn hln hlt hv hF2 hF3 hF4 hF1 HS HR HTab HM) ?_
   intro e_ w10 hr_
   rw [hk_] at hr_
   obtain ⟨rfl, F11⟩ := hr_
   refine ⟨_, rfl, trivial, ?_⟩
   have HB4 := Blk.keep HB4 F11 (nin0 _)
   have HT := HT.keep F11 (fun _ _ => nin0 _)
   have HS := var_keep 3 (by kernel_rfl) HS F11 (nin0 _)
   have HR := var_keep 4 (by kernel_rfl) HR F11 (nin0 _)
   have HTab := tab_keep HTab F11 (nin0 _)
   have HM := max_keep HM F11 (nin0 _)
   have HA := Fr.step0 HA F11
   refine WO.run 5 2 [(6, .iface 35 (.int .i64 co)), (5, .string (⟨#[]⟩)), (27, .iface 35 (.int .i64 co)), (26, .string (⟨#[]⟩)), (23, .tuple #[.string (⟨#[]⟩), .iface 35 (.int .i64 co)])] (by kernel_rfl) (by kernel_rfl) ?_
   refine WO.done (by kernel_rfl) ?_
   refine WQ.keep [1, 2, 3, 5, 6] (e' := [(1, .pointer (some ⟨g1, 0, none⟩)), (2, .bool false), (3, .bool true), (5, .string (⟨#[]⟩)), (6, .iface 35 (.int .i64 co))]) (by kernel_rfl) ?_
   refine WQ.thenN ?_
   refine WE.seq ?_
   refine WE.region ?_
   refine WO.ldB (SQ.S 0 (by kernel_rfl)) 28 [.string (str ev.name), .slice A n cp, .int .i64 ev.kind, .int .i64 ev.value, .int .i64 ev.time] g1 0 (by kernel_rfl) (by kernel_rfl) (same HB4) (by kernel_rfl) ?_
   refine WO.bx (SQ.E 1 (by kernel_rfl)) 7 #[.string (⟨#[]⟩), .slice none 0 0, .int .i64 0, .int .i64 0, .int .i64 0] 25 (fun g => .pointer (some ⟨g, 0, none⟩)) (by kernel_rfl) (fun _ _ => trivial) ?_
   intro g12 w13 HB15 F14 le16 _
   have ne_g1_g12 : g1 ≠ g12 := Nat.ne_of_lt (Nat.lt_of_lt_of_le HB4.lt le16)
   have nin_g12_F : g12 ∉ F := new_nin HT.lt le16
   have ne_3_g12 : 3 ≠ g12 := Nat.ne_of_lt (Nat.lt_of_lt_of_le (var_lt 3 (by kernel_rfl) HS) le16)
   have ne_4_g12 : 4 ≠ g12 := Nat.ne_of_lt (Nat.lt_of_lt_of_le (var_lt 4 (by kernel_rfl) HR) le16)
   have ne_2_g12 : 2 ≠ g12 := Nat.ne_of_lt (Nat.lt_of_lt_of_le (tab_lt HTab) le16)
   have ne_1_g12 : 1 ≠ g12 := Nat.ne_of_lt (Nat.lt_of_lt_of_le (max_lt HM) le16)
   have ge_HA_g12 := Nat.le_trans HA.size le16
   have HB4 := Blk.keep HB4 F14 (nin0 _)
   have HT := HT.keep F14 (fun _ _ => nin0 _)
   have HS := var_keep 3 (by kernel_rfl) HS F14 (nin0 _)
   have HR := var_keep 4 (by kernel_rfl) HR F14 (nin0 _)
   have HTab := tab_keep HTab F14 (nin0 _)
   have HM := max_keep HM F14 (nin0 _)
   have HA := Fr.step0 HA F14
   refine WO.st (SQ.E 2 (by kernel_rfl)) g12 0 [.string (str ev.name), .slice A n cp, .int .i64 ev.kind, .int .i64 ev.value, .int .i64 ev.time] #[.string (str ev.name), .slice A n cp, .int .i64 ev.kind, .int .i64 ev.value, .int .i64 ev.time] (by kernel_rfl) HB15 (by kernel_rfl) (by kernel_rfl) (fun _ _ => trivial) ?_
   intro w17 HB19 F18 _
   have HB4 := Blk.keep HB4 F18 (ninC ne_g1_g12 (nin0 _))
   have HT := HT.keep F18 (djB nin_g12_F)
   have HS := var_keep 3 (by kernel_rfl) HS F18 (ninC ne_3_g12 (nin0 _))
   have HR := var_keep 4 (by kernel_rfl) HR F18 (ninC ne_4_g12 (nin0 _))
   have HTab := tab_keep HTab F18 (ninC ne_2_g12 (nin0 _))
   have HM := max_keep HM F18 (ninC ne_1_g12 (nin0 _))
   have HA := Fr.step HA F18 (inSR ge_HA_g12 inS0)
   refine WO.done (by kernel_rfl) ?_
   refine WQ.keep [1, 2, 3, 5, 6, 7] (e' := [(1, .pointer (some ⟨g1, 0, none⟩)), (2, .bool false), (3, .bool true), (5, .string (⟨#[]⟩)), (6, .iface 35 (.int .i64 co)), (7, .pointer (some ⟨g12, 0, none⟩))]) (by kernel_rfl) ?_
   refine WQ.thenN ?_
   refine WE.seq ?_
   refine WE.region ?_
   refine WO.run 1 0 [(29, .pointer (some ⟨g12, 1, none⟩))] (by kernel_rfl) (by kernel_rfl) ?_
   refine WO.st (SQ.E 1 (by kernel_rfl)) g12 1 [.slice none 0 0] #[.string (str ev.name), .slice none 0 0, .int .i64 ev.kind, .int .i64 ev.value, .int .i64 ev.time] (by kernel_rfl) HB19 (by kernel_rfl) (by kernel_rfl) (fun _ _ => trivial) ?_
   intro w20 HB22 F21 _
   have HB4 := Blk.keep HB4 F21 (ninC ne_g1_g12 (nin0 _))
   have HT := HT.keep F21 (djB nin_g12_F)
   have HS := var_keep 3 (by kernel_rfl) HS F21 (ninC ne_3_g12 (nin0 _))
   have HR := var_keep 4 (by kernel_rfl) HR F21 (ninC ne_4_g12 (nin0 _))
   have HTab := tab_keep HTab F21 (ninC ne_2_g12 (nin0 _))
   have HM := max_keep HM F21 (ninC ne_1_g12 (nin0 _))
   have HA := Fr.step HA F21 (inSR ge_HA_g12 inS0)
   refine WO.done (by kernel_rfl) ?_
   refine WQ.keep [1, 2, 3, 5, 6, 7] (e' := [(1, .pointer (some ⟨g1, 0, none⟩)), (2, .bool false), (3, .bool true), (5, .string (⟨#[]⟩)), (6, .iface 35 (.int .i64 co)), (7, .pointer (some ⟨g12, 0, none⟩))]) (by kernel_rfl) ?_
   refine WQ.thenN ?_
   refine WE.seq ?_
   refine WE.seq ?_
   refine WE.region ?_
   refine WO.run 1 0 [(30, .pointer (some ⟨g1, 1, none⟩))] (by kernel_rfl) (by kernel_rfl) ?_
   refine WO.ld (SQ.S 1 (by kernel_rfl)) 31 (.slice A n cp) (by kernel_rfl) (same (HB4.at 1 (by kernel_rfl))) ?_
   refine WO.run 1 2 [(32, .int .i64 (n : Int))] (by kernel_rfl) (by kernel_rfl) ?_
   refine WO.one (SQ.F 3 (by kernel_rfl)) 33 (.int .i64 (IntKind.i64.wrap ((n : Int) - 1))) (by kernel_rfl) ?_
   refine WO.top (v' := .int .i64 ((n : Int) - 1)) (wrap_i64 (by omega) (by omega)) ?_
   refine WO.run 1 4 [(8, .int .i64 ((n : Int) - 1))] (by kernel_rfl) (by kernel_rfl) ?_
   refine WO.done (by kernel_rfl) ?_
   refine WQ.keep [1, 2, 3, 5, 6, 7, 8] (e' := [(1, .pointer (some ⟨g1, 0, none⟩)), (2, .bool false), (3, .bool true), (5, .string (⟨#[]⟩)), (6, .iface 35 (.int .i64 co)), (7, .pointer (some ⟨g12, 0, none⟩)), (8, .int .i64 ((n : Int) - 1))]) (by kernel_rfl) ?_
   refine WQ.thenN ?_
   refine WE.block ?_
   refine WE.loop (α := Nat × List Nat × Option Addr × Nat × (List (L × L))) (E := fun ⟨kk, FT, At, ct, acc⟩ => [(1, .pointer (some ⟨g1, 0, none⟩)), (2, .bool false), (3, .bool true), (5, .string (⟨#[]⟩)), (6, .iface 35 (.int .i64 co)), (7, .pointer (some ⟨g12, 0, none⟩)), (8, .int .i64 ((kk : Int) - 1))]) (I := fun ⟨kk, FT, At, ct, acc⟩ wr => kk ≤ n ∧ acc = (ev.tags.drop kk).reverse ∧ Blk wr g1 #[.string (str ev.name), .slice A n cp, .int .i64 ev.kind, .int .i64 ev.value, .int .i64 ev.time] 25 ∧ Blk wr g12 #[.string (str ev.name), .slice At acc.length ct, .int .i64 ev.kind, .int .i64 ev.value, .int .i64 ev.time] 25 ∧ VX cT 2 wr F A ev.tags ∧ VarI wr "strconv.ErrSyntax" ∧ VarI wr "strconv.ErrRange" ∧ Lib.TabIs Tryd.prog wr "internal/strconv.uint64pow10" .u64 Lib.pow10Tab ∧ MaxI wr ∧ OwnX 53 2 wr FT (.slice At acc.length ct) (List.map cT acc) ∧ g1 ∉ FT ∧ g12 ∉ FT ∧ 3 ∉ FT ∧ 4 ∉ FT ∧ 2 ∉ FT ∧ 1 ∉ FT ∧ (∀ y ∈ FT, y ∉ F) ∧ (∀ y ∈ FT, (World.heap w).size ≤ y) ∧ Fr [] w wr) (m := fun ⟨kk, FT, At, ct, acc⟩ => kk) (n, [], none, 0, []) [1, 2, 3, 5, 6, 7, 8] (by kernel_rfl) ?_ ?_
   ·
    exact ⟨by omega, by rw [List.drop_of_length_le (by omega)]; rfl, HB4, HB22, HT, HS, HR, HTab, HM, OwnX.nil _ _ _, (by simp), (by simp), (by simp), (by simp), (by simp), (by simp), (by simp), (by simp), HA⟩
   rintro ⟨kk, FT, At, ct, acc⟩ wr ⟨hk_n, hacc, HB4, HB22, HT, HS, HR, HTab, HM, HO_FT, nin_g1_FT, nin_g12_FT, nin_3_FT, nin_4_FT, nin_2_FT, nin_1_FT, dj_FT_F, ge_HA_FT, HA⟩
   have haccl : acc.length = n - kk := by rw [hacc, List.length_reverse, List.length_drop]; omega
   refine WE.seq ?_
   refine WE.seq ?_
   refine WE.region ?_
   refine WO.run 1 0 [(34, .int .i64 ((kk : Int) - 1))] (by kernel_rfl) (by kernel_rfl) ?_
   refine WO.one (SQ.F 1 (by kernel_rfl)) 35 (.bool (decide ((((kk : Int) - 1) : Int) ≥ 0))) (by kernel_rfl) ?_
   refine WO.topP ((((kk : Int) - 1) : Int) ≥ 0) ?_ ?_
   ·
    intro h23
    refine WO.done (by kernel_rfl) ?_
    refine WQ.keep [1, 2, 3, 5, 6, 7, 8, 35] (e' := [(1, .pointer (some ⟨g1, 0, none⟩)), (2, .bool false), (3, .bool true), (5, .string (⟨#[]⟩)), (6, .iface 35 (.int .i64 co)), (7, .pointer (some ⟨g12, 0, none⟩)), (8, .int .i64 ((kk : Int) - 1)), (35, .bool true)]) (by kernel_rfl) ?_
    refine WQ.thenN ?_
    refine WE.condT (by kernel_rfl) ?_
    refine WE.skip ?_
    refine WQ.thenN ?_
    refine WE.seq ?_
    refine WE.block ?_
    refine WE.env (e' := [(1, .pointer (some ⟨g1, 0, none⟩)), (2, .bool false), (3, .bool true), (5, .string (⟨#[]⟩)), (6, .iface 35 (.int .i64 co)), (7, .pointer (some ⟨g12, 0, none⟩)), (8, .int .i64 ((kk - 1 : Nat) : Int)), (35, .bool true)]) (by rw [show ((kk : Int) - 1) = ((kk - 1 : Nat) : Int) by omega]) ?_
    have hz24 : (World.heap wr).size ≤ (World.heap wr).size := Nat.le_refl _
    have ltz_g1 := HB4.lt
    have ltz_g12 := HB22.lt
    have ltz_F := HT.lt
    have ltz_FT := HO_FT.lt
    refine WE.draw [.free, .still, .free, .still, .free, .free, .still, .effR, .eff, .free, .eff] (FrB (World.heap wr).size) (frBR _) (by kernel_rfl) 11 (Array.replicate 11 false) (by kernel_rfl) rfl ?_
    intro w25 F26 _
    have HB4 := Blk.keep HB4 F26 (nin0 _)
    have HB22 := Blk.keep HB22 F26 (nin0 _)
    have HT := HT.keep F26 (fun _ _ => nin0 _)
    have HO_FT := HO_FT.keep F26 (fun _ _ => nin0 _)
    have HS := var_keep 3 (by kernel_rfl) HS F26 (nin0 _)
    have HR := var_keep 4 (by kernel_rfl) HR F26 (nin0 _)
    have HTab := tab_keep HTab F26 (nin0 _)
    have HM := max_keep HM F26 (nin0 _)
    have hz24 := Nat.le_trans hz24 F26.size
    have HA := Fr.step0 HA F26
    refine WO.one (SA.F (frBR _) (frBT _) _ 0 _ (by kernel_rfl)) 38 (.pointer (some ⟨g12, 1, none⟩)) (by kernel_rfl) ?_
    refine WO.ld (SA.S (frBR _) (frBT _) _ 1 _ (by kernel_rfl)) 39 (.slice At acc.length ct) (by kernel_rfl) (fun _ k => (HB22.keepB k ltz_g12).at 1 (by kernel_rfl)) ?_
    refine WO.one (SA.F (frBR _) (frBT _) _ 2 _ (by kernel_rfl)) 40 (.pointer (some ⟨g1, 1, none⟩)) (by kernel_rfl) ?_
    refine WO.ld (SA.S (frBR _) (frBT _) _ 3 _ (by kernel_rfl)) 41 (.slice A n cp) (by kernel_rfl) (fun _ k => (HB4.keepB k ltz_g1).at 1 (by kernel_rfl)) ?_
    refine WO.one (SA.F (frBR _) (frBT _) _ 4 _ (by kernel_rfl)) 42 (.int .i64 ((kk - 1 : Nat) : Int)) (by kernel_rfl) ?_
    obtain ⟨ad27, hA28⟩ := HT.addr (i := kk - 1) (by have := hn; omega)
    refine WO.ixo (SA.F (frBR _) (frBT _) _ 5 _ (by kernel_rfl)) 43 n 2 (kk - 1) ((kk - 1 : Nat) : Int) hA28 (by kernel_rfl) rfl (by omega) ?_
    refine WO.ldA (ad := (ad27.add ((kk - 1) * 2))) (SA.S (frBR _) (frBT _) _ 6 _ (by kernel_rfl)) 44 [.string (str (gT ev.tags (kk - 1)).1), .string (str (gT ev.tags (kk - 1)).2)] (by kernel_rfl) (by kernel_rfl) (fun _ k_ _ hj_ => (HT.keepB k_ ltz_F).part0 hA28 (gT_some ev.tags (kk - 1) (by have := hn; omega)) [.string (str (gT ev.tags (kk - 1)).1), .string (str (gT ev.tags (kk - 1)).2)] (by kernel_rfl) _ hj_) ?_
    refine WO.bx (SA.ER _ 7 _ (by kernel_rfl) rfl) 45 #[.string (str (gT ev.tags (kk - 1)).1), .string (str (gT ev.tags (kk - 1)).2)] 53 (fun g => .slice (some ⟨g, 0, none⟩) 1 1) (by kernel_rfl) (frB_of hz24 (by simp)) ?_
    intro g29 w30 HB32 F31 le33 _
    have ne_g1_g29 : g1 ≠ g29 := Nat.ne_of_lt (Nat.lt_of_lt_of_le HB4.lt le33)
    have ne_g12_g29 : g12 ≠ g29 := Nat.ne_of_lt (Nat.lt_of_lt_of_le HB22.lt le33)
    have nin_g29_F : g29 ∉ F := new_nin HT.lt le33
    have nin_g29_FT : g29 ∉ FT := new_nin HO_FT.lt le33
    have ne_3_g29 : 3 ≠ g29 := Nat.ne_of_lt (Nat.lt_of_lt_of_le (var_lt 3 (by kernel_rfl) HS) le33)
    have ne_4_g29 : 4 ≠ g29 := Nat.ne_of_lt (Nat.lt_of_lt_of_le (var_lt 4 (by kernel_rfl) HR) le33)
    have ne_2_g29 : 2 ≠ g29 := Nat.ne_of_lt (Nat.lt_of_lt_of_le (tab_lt HTab) le33)
    have ne_1_g29 : 1 ≠ g29 := Nat.ne_of_lt (Nat.lt_of_lt_of_le (max_lt HM) le33)
    have ge_HA_g29 := Nat.le_trans HA.size le33
    have gz_hz24_g29 := Nat.le_trans hz24 le33
    have HB4 := Blk.keep HB4 F31 (nin0 _)
    have HB22 := Blk.keep HB22 F31 (nin0 _)
    have HT := HT.keep F31 (fun _ _ => nin0 _)
    have HO_FT := HO_FT.keep F31 (fun _ _ => nin0 _)
    have HS := var_keep 3 (by kernel_rfl) HS F31 (nin0 _)
    have HR := var_keep 4 (by kernel_rfl) HR F31 (nin0 _)
    have HTab := tab_keep HTab F31 (nin0 _)
    have HM := max_keep HM F31 (nin0 _)
    have hz24 := Nat.le_trans hz24 F31.size
    have HA := Fr.step0 HA F31
    refine WO.appX (SA.E _ 8 _ (by kernel_rfl) rfl) 46 (m := 1) (ys := List.map cT ([(gT ev.tags (kk - 1))])) et_t HO_FT (by rw [List.length_map] <;> first | rfl | omega | (simp <;> omega)) (RowB.src (RowB.of_blk (n := 1) HB32 (List.map cT [(gT ev.tags (kk - 1))]) rfl rfl (cT_len _) (cT_one _) (by omega))) (cT_len _) (cT_one _) (by kernel_rfl) (by rw [List.length_map]; first | omega | (simp only [List.length_nil]; omega)) (by rw [List.length_map]; first | omega | (simp only [List.length_nil]; omega)) (fun _ _ => trivial) ?_
    intro v39 w40 G41 HO42 F43 hg44
    rw [← List.map_append] at HO42
    have nin_g1_G41 : g1 ∉ G41 := grow_nin hg44 nin_g1_FT HB4.lt
    have nin_g12_G41 : g12 ∉ G41 := grow_nin hg44 nin_g12_FT HB22.lt
    have nin_g29_G41 : g29 ∉ G41 := grow_nin hg44 nin_g29_FT HB32.lt
    have nin_3_G41 : 3 ∉ G41 := grow_nin hg44 nin_3_FT ((var_lt 3 (by kernel_rfl) HS))
    have nin_4_G41 : 4 ∉ G41 := grow_nin hg44 nin_4_FT ((var_lt 4 (by kernel_rfl) HR))
    have nin_2_G41 : 2 ∉ G41 := grow_nin hg44 nin_2_FT ((tab_lt HTab))
    have nin_1_G41 : 1 ∉ G41 := grow_nin hg44 nin_1_FT ((max_lt HM))
    have dj_G41_F : ∀ y ∈ G41, y ∉ F := grow_dj hg44 dj_FT_F HT.lt
    have ge_HA_G41 : ∀ y ∈ G41, (World.heap w).size ≤ y := grow_ge hg44 ge_HA_FT HA.size
    have HB4 := Blk.keep HB4 F43 nin_g1_FT
    have HB22 := Blk.keep HB22 F43 nin_g12_FT
    have HB32 := Blk.keep HB32 F43 nin_g29_FT
    have HT := HT.keep F43 (dj_symm dj_FT_F)
    have HS := var_keep 3 (by kernel_rfl) HS F43 nin_3_FT
    have HR := var_keep 4 (by kernel_rfl) HR F43 nin_4_FT
    have HTab := tab_keep HTab F43 nin_2_FT
    have HM := max_keep HM F43 nin_1_FT
    have hz24 := Nat.le_trans hz24 F43.size
    have HA := Fr.step HA F43 (inF ge_HA_FT)
    obtain ⟨A45, cap46, rfl⟩ := HO42.sliceN (List.length_map _)
    have := @List.length_append _ acc ([(gT ev.tags (kk - 1))])
    refine WO.one (SA.F (frBR _) (frBT _) _ 9 _ (by kernel_rfl)) 47 (.pointer (some ⟨g12, 1, none⟩)) (by kernel_rfl) ?_
    refine WO.st (SA.E _ 10 _ (by kernel_rfl) rfl) g12 1 [.slice A45 ((acc ++ [(gT ev.tags (kk - 1))]).length) cap46] #[.string (str ev.name), .slice A45 ((acc ++ [(gT ev.tags (kk - 1))]).length) cap46, .int .i64 ev.kind, .int .i64 ev.value, .int .i64 ev.time] (by kernel_rfl) HB22 (by kernel_rfl) (by kernel_rfl) (fun _ _ => trivial) ?_
    intro w47 HB49 F48 _
    have HB4 := Blk.keep HB4 F48 (ninC ne_g1_g12 (nin0 _))
    have HB32 := Blk.keep HB32 F48 (ninC (Ne.symm ne_g12_g29) (nin0 _))
    have HT := HT.keep F48 (djB nin_g12_F)
    have HO42 := HO42.keep F48 (djB nin_g12_G41)
    have HS := var_keep 3 (by kernel_rfl) HS F48 (ninC ne_3_g12 (nin0 _))
    have HR := var_keep 4 (by kernel_rfl) HR F48 (ninC ne_4_g12 (nin0 _))
    have HTab := tab_keep HTab F48 (ninC ne_2_g12 (nin0 _))
    have HM := max_keep HM F48 (ninC ne_1_g12 (nin0 _))
    have hz24 := Nat.le_trans hz24 F48.size
    have HA := Fr.step HA F48 (inSR ge_HA_g12 inS0)
    refine WO.doneA (by kernel_rfl) ?_
    refine WQ.keep [1, 2, 3, 5, 6, 7, 8] (e' := [(1, .pointer (some ⟨g1, 0, none⟩)), (2, .bool false), (3, .bool true), (5, .string (⟨#[]⟩)), (6, .iface 35 (.int .i64 co)), (7, .pointer (some ⟨g12, 0, none⟩)), (8, .int .i64 ((kk - 1 : Nat) : Int))]) (by kernel_rfl) ?_
    refine WQ.blkN ?_
    refine WQ.thenN ?_
    refine WE.region ?_
    refine WO.run 1 0 [(36, .int .i64 ((kk - 1 : Nat) : Int))] (by kernel_rfl) (by kernel_rfl) ?_
    refine WO.one (SQ.F 1 (by kernel_rfl)) 37 (.int .i64 (IntKind.i64.wrap (((kk - 1 : Nat) : Int) - 1))) (by kernel_rfl) ?_
    refine WO.top (v' := .int .i64 (((kk - 1 : Nat) : Int) - 1)) (wrap_i64 (by omega) (by omega)) ?_
    refine WO.run 1 2 [(8, .int .i64 (((kk - 1 : Nat) : Int) - 1))] (by kernel_rfl) (by kernel_rfl) ?_
    refine WO.done (by kernel_rfl) ?_
    refine WQ.keep [1, 2, 3, 5, 6, 7, 8] (e' := [(1, .pointer (some ⟨g1, 0, none⟩)), (2, .bool false), (3, .bool true), (5, .string (⟨#[]⟩)), (6, .iface 35 (.int .i64 co)), (7, .pointer (some ⟨g12, 0, none⟩)), (8, .int .i64 (((kk - 1 : Nat) : Int) - 1))]) (by kernel_rfl) ?_
    refine WQ.round ?_
    intro a_ ha_
    refine ⟨(kk - 1, G41, A45, cap46, (acc ++ [(gT ev.tags (kk - 1))])), ?_, ha_.keep [1, 2, 3, 5, 6, 7, 8] (by kernel_rfl), ?_⟩
    ·
     show kk - 1 < kk; omega
    ·
     exact ⟨by omega, by rw [hacc]; exact rev_step hn (by omega), HB4, HB49, HT, HS, HR, HTab, HM, HO42, nin_g1_G41, nin_g12_G41, nin_3_G41, nin_4_G41, nin_2_G41, nin_1_G41, dj_G41_F, ge_HA_G41, HA⟩
   intro h23
   refine WO.done (by kernel_rfl) ?_
   refine WQ.keep [1, 2, 3, 5, 6, 7, 8, 35] (e' := [(1, .pointer (some ⟨g1, 0, none⟩)), (2, .bool false), (3, .bool true), (5, .string (⟨#[]⟩)), (6, .iface 35 (.int .i64 co)), (7, .pointer (some ⟨g12, 0, none⟩)), (8, .int .i64 ((kk : Int) - 1)), (35, .bool false)]) (by kernel_rfl) ?_
   refine WQ.thenN ?_
   refine WE.condF (by kernel_rfl) ?_
   refine WE.exit ?_
   refine WQ.thenE ?_
   refine WQ.thenE ?_
   refine WQ.blkE ?_
   refine WQ.thenN ?_
   refine WE.seq ?_
   have hk0_ : kk = 0 := by omega
   subst hk0_
   rw [List.drop_zero] at hacc
   have key_rev : keyE (revE ev) = keyE ev := key_perm (List.reverse_perm _)
   have hrt : (revE ev).tags = acc := hacc.symm
   refine WE.region ?_
   refine WO.bx (SQ.E 0 (by kernel_rfl)) 48 #[] 53 (fun g => .slice (some ⟨g, 0, none⟩) 0 0) (by kernel_rfl) (fun _ _ => trivial) ?_
   intro g50 w51 HB53 F52 le54 _
   have ne_g1_g50 : g1 ≠ g50 := Nat.ne_of_lt (Nat.lt_of_lt_of_le HB4.lt le54)
   have ne_g12_g50 : g12 ≠ g50 := Nat.ne_of_lt (Nat.lt_of_lt_of_le HB22.lt le54)
   have nin_g50_F : g50 ∉ F := new_nin HT.lt le54
   have nin_g50_FT : g50 ∉ FT := new_nin HO_FT.lt le54
   have ne_3_g50 : 3 ≠ g50 := Nat.ne_of_lt (Nat.lt_of_lt_of_le (var_lt 3 (by kernel_rfl) HS) le54)
   have ne_4_g50 : 4 ≠ g50 := Nat.ne_of_lt (Nat.lt_of_lt_of_le (var_lt 4 (by kernel_rfl) HR) le54)
   have ne_2_g50 : 2 ≠ g50 := Nat.ne_of_lt (Nat.lt_of_lt_of_le (tab_lt HTab) le54)
   have ne_1_g50 : 1 ≠ g50 := Nat.ne_of_lt (Nat.lt_of_lt_of_le (max_lt HM) le54)
   have ge_HA_g50 := Nat.le_trans HA.size le54
   have HB4 := Blk.keep HB4 F52 (nin0 _)
   have HB22 := Blk.keep HB22 F52 (nin0 _)
   have HT := HT.keep F52 (fun _ _ => nin0 _)
   have HO_FT := HO_FT.keep F52 (fun _ _ => nin0 _)
   have HS := var_keep 3 (by kernel_rfl) HS F52 (nin0 _)
   have HR := var_keep 4 (by kernel_rfl) HR F52 (nin0 _)
   have HTab := tab_keep HTab F52 (nin0 _)
   have HM := max_keep HM F52 (nin0 _)
   have HA := Fr.step0 HA F52
   refine WO.run 1 1 [(49, .pointer (some ⟨g12, 1, none⟩))] (by kernel_rfl) (by kernel_rfl) ?_
   refine WO.ld (SQ.S 2 (by kernel_rfl)) 50 (.slice At acc.length ct) (by kernel_rfl) (same (HB22.at 1 (by kernel_rfl))) ?_
   have HR60 := RowB.of_blk (n := 0) HB53 (List.map cT []) rfl rfl (cT_len _) (cT_one _) (by omega)
   refine WO.appRow (SQ.E 3 (by kernel_rfl)) 51 (n := 0) (m := acc.length) (ys := List.map cT acc) et_t HR60 ((List.length_map _).trans ((rfl : List.length ([] : List (L × L)) = 0))) (by rw [List.length_map] <;> first | rfl | omega | (simp <;> omega)) (HO_FT.srcN (List.length_map _)) (cT_len _) (cT_one _) (by kernel_rfl) (by omega) (by omega) (fun _ _ => trivial) ?_
   intro b55 cap56 w57 HR58 F59 hb61
   have ne_g1_b55 : g1 ≠ b55 := hb61.elim (fun h => h ▸ ne_g1_g50) (fun h => Nat.ne_of_lt (Nat.lt_of_lt_of_le HB4.lt h))
   have ne_g12_b55 : g12 ≠ b55 := hb61.elim (fun h => h ▸ ne_g12_g50) (fun h => Nat.ne_of_lt (Nat.lt_of_lt_of_le HB22.lt h))
   have nin_b55_F : b55 ∉ F := hb61.elim (fun h => h ▸ nin_g50_F) (fun h => new_nin HT.lt h)
   have nin_b55_FT : b55 ∉ FT := hb61.elim (fun h => h ▸ nin_g50_FT) (fun h => new_nin HO_FT.lt h)
   have ne_3_b55 : 3 ≠ b55 := hb61.elim (fun h => h ▸ ne_3_g50) (fun h => Nat.ne_of_lt (Nat.lt_of_lt_of_le (var_lt 3 (by kernel_rfl) HS) h))
   have ne_4_b55 : 4 ≠ b55 := hb61.elim (fun h => h ▸ ne_4_g50) (fun h => Nat.ne_of_lt (Nat.lt_of_lt_of_le (var_lt 4 (by kernel_rfl) HR) h))
   have ne_2_b55 : 2 ≠ b55 := hb61.elim (fun h => h ▸ ne_2_g50) (fun h => Nat.ne_of_lt (Nat.lt_of_lt_of_le (tab_lt HTab) h))
   have ne_1_b55 : 1 ≠ b55 := hb61.elim (fun h => h ▸ ne_1_g50) (fun h => Nat.ne_of_lt (Nat.lt_of_lt_of_le (max_lt HM) h))
   have in_HA_b55 : b55 ∈ [] ∨ (World.heap w).size ≤ b55 := hb61.elim (fun h => Or.inr (h ▸ ge_HA_g50)) (fun h => Or.inr (Nat.le_trans HA.size h))
   have HB4 := Blk.keep HB4 F59 (ninC ne_g1_g50 (nin0 _))
   have HB22 := Blk.keep HB22 F59 (ninC ne_g12_g50 (nin0 _))
   have HT := HT.keep F59 (djB nin_g50_F)
   have HO_FT := HO_FT.keep F59 (djB nin_g50_FT)
   have HS := var_keep 3 (by kernel_rfl) HS F59 (ninC ne_3_g50 (nin0 _))
   have HR := var_keep 4 (by kernel_rfl) HR F59 (ninC ne_4_g50 (nin0 _))
   have HTab := tab_keep HTab F59 (ninC ne_2_g50 (nin0 _))
   have HM := max_keep HM F59 (ninC ne_1_g50 (nin0 _))
   have HA := Fr.step HA F59 (inSR ge_HA_g50 inS0)
   have HR58 : RowB w57 b55 53 2 cap56 ((([] : List (L × L)) ++ acc).map cT) := by rw [List.map_append]; exact HR58
   refine WO.run 1 4 [(9, .slice (some ⟨b55, 0, none⟩) (0 + acc.length) cap56)] (by kernel_rfl) (by kernel_rfl) ?_
   refine WO.done (by kernel_rfl) ?_
   refine WQ.keep [1, 2, 3, 5, 6, 7, 9] (e' := [(1, .pointer (some ⟨g1, 0, none⟩)), (2, .bool false), (3, .bool true), (5, .string (⟨#[]⟩)), (6, .iface 35 (.int .i64 co)), (7, .pointer (some ⟨g12, 0, none⟩)), (9, .slice (some ⟨b55, 0, none⟩) (0 + acc.length) cap56)]) (by kernel_rfl) ?_
   refine WQ.thenN ?_
   refine WE.seq ?_
   refine WE.region ?_
   refine WO.ldB (SQ.S 0 (by kernel_rfl)) 53 [.string (str ev.name), .slice At acc.length ct, .int .i64 ev.kind, .int .i64 ev.value, .int .i64 ev.time] g12 0 (by kernel_rfl) (by kernel_rfl) (same HB22) (by kernel_rfl) ?_
   have HVr := VX.of_own HO_FT
   rw [← hrt] at HVr
   refine WO.call (SQ.E 1 (by kernel_rfl)) 54 (by kernel_rfl) (key_f (revE ev) At acc.length ct FT _ HVr (congrArg List.length hrt) (by omega) hln (fun t h_ => hlt t (by simpa [revE] using h_)) hv nin_2_FT nin_3_FT nin_4_FT nin_1_FT HS HR HTab HM) ?_
   intro e_ w62 hr_
   rw [key_rev, hk_] at hr_
   obtain ⟨rfl, F63⟩ := hr_
   refine ⟨_, rfl, trivial, ?_⟩
   have HB4 := Blk.keep HB4 F63 (nin0 _)
   have HB22 := Blk.keep HB22 F63 (nin0 _)
   have HR58 := RowB.keep HR58 F63 (nin0 _)
   have HT := HT.keep F63 (fun _ _ => nin0 _)
   have HO_FT := HO_FT.keep F63 (fun _ _ => nin0 _)
   have HS := var_keep 3 (by kernel_rfl) HS F63 (nin0 _)
   have HR := var_keep 4 (by kernel_rfl) HR F63 (nin0 _)
   have HTab := tab_keep HTab F63 (nin0 _)
   have HM := max_keep HM F63 (nin0 _)
   have HA := Fr.step0 HA F63
   refine WO.run 5 2 [(11, .iface 35 (.int .i64 co)), (10, .string (⟨#[]⟩)), (56, .iface 35 (.int .i64 co)), (55, .string (⟨#[]⟩)), (52, .tuple #[.string (⟨#[]⟩), .iface 35 (.int .i64 co)])] (by kernel_rfl) (by kernel_rfl) ?_
   refine WO.done (by kernel_rfl) ?_
   refine WQ.keep [1, 2, 3, 5, 6, 7, 9, 10, 11] (e' := [(1, .pointer (some ⟨g1, 0, none⟩)), (2, .bool false), (3, .bool true), (5, .string (⟨#[]⟩)), (6, .iface 35 (.int .i64 co)), (7, .pointer (some ⟨g12, 0, none⟩)), (9, .slice (some ⟨b55, 0, none⟩) (0 + acc.length) cap56), (10, .string (⟨#[]⟩)), (11, .iface 35 (.int .i64 co))]) (by kernel_rfl) ?_
   refine WQ.thenN ?_
   refine WE.seq ?_
   refine WE.seq ?_
   refine WE.region ?_
   refine WO.run 1 0 [(12, .int .i64 0)] (by kernel_rfl) (by kernel_rfl) ?_
   refine WO.done (by kernel_rfl) ?_
   refine WQ.keep [1, 2, 3, 5, 6, 7, 9, 10, 11, 12] (e' := [(1, .pointer (some ⟨g1, 0, none⟩)), (2, .bool false), (3, .bool true), (5, .string (⟨#[]⟩)), (6, .iface 35 (.int .i64 co)), (7, .pointer (some ⟨g12, 0, none⟩)), (9, .slice (some ⟨b55, 0, none⟩) (0 + acc.length) cap56), (10, .string (⟨#[]⟩)), (11, .iface 35 (.int .i64 co)), (12, .int .i64 0)]) (by kernel_rfl) ?_
   refine WQ.thenN ?_
   refine WE.block ?_
   refine WE.loop (α := Nat) (E := fun i => [(1, .pointer (some ⟨g1, 0, none⟩)), (2, .bool false), (3, .bool true), (5, .string (⟨#[]⟩)), (6, .iface 35 (.int .i64 co)), (7, .pointer (some ⟨g12, 0, none⟩)), (9, .slice (some ⟨b55, 0, none⟩) (0 + acc.length) cap56), (10, .string (⟨#[]⟩)), (11, .iface 35 (.int .i64 co)), (12, .int .i64 (i : Int))]) (I := fun i wr => i ≤ acc.length ∧ Blk wr g1 #[.string (str ev.name), .slice A n cp, .int .i64 ev.kind, .int .i64 ev.value, .int .i64 ev.time] 25 ∧ Blk wr g12 #[.string (str ev.name), .slice At acc.length ct, .int .i64 ev.kind, .int .i64 ev.value, .int .i64 ev.time] 25 ∧ RowB wr b55 53 2 cap56 ((([] : List (L × L)) ++ acc).map cT) ∧ VX cT 2 wr F A ev.tags ∧ OwnX 53 2 wr FT (.slice At acc.length ct) (List.map cT acc) ∧ VarI wr "strconv.ErrSyntax" ∧ VarI wr "strconv.ErrRange" ∧ Lib.TabIs Tryd.prog wr "internal/strconv.uint64pow10" .u64 Lib.pow10Tab ∧ MaxI wr ∧ Fr [] w wr) (m := fun i => acc.length - i) 0 [1, 2, 3, 5, 6, 7, 9, 10, 11, 12] (by kernel_rfl) ?_ ?_
   ·
    exact ⟨by omega, HB4, HB22, HR58, HT, HO_FT, HS, HR, HTab, HM, HA⟩
   rintro i wr ⟨hi, HB4, HB22, HR58, HT, HO_FT, HS, HR, HTab, HM, HA⟩
   refine WE.seq ?_
   refine WE.seq ?_
   refine WE.region ?_
   refine WO.run 3 0 [(59, .int .i64 (0 + acc.length : Int)), (58, .slice (some ⟨b55, 0, none⟩) (0 + acc.length) cap56), (57, .int .i64 (i : Int))] (by kernel_rfl) (by kernel_rfl) ?_
   refine WO.one (SQ.F 3 (by kernel_rfl)) 60 (.bool (decide (((i : Int) : Int) < (0 + acc.length : Int)))) (by kernel_rfl) ?_
   refine WO.topP (((i : Int) : Int) < (0 + acc.length : Int)) ?_ ?_
   ·
    intro h64
    refine WO.done (by kernel_rfl) ?_
    refine WQ.keep [1, 2, 3, 5, 6, 7, 9, 10, 11, 12, 60] (e' := [(1, .pointer (some ⟨g1, 0, none⟩)), (2, .bool false), (3, .bool true), (5, .string (⟨#[]⟩)), (6, .iface 35 (.int .i64 co)), (7, .pointer (some ⟨g12, 0, none⟩)), (9, .slice (some ⟨b55, 0, none⟩) (0 + acc.length) cap56), (10, .string (⟨#[]⟩)), (11, .iface 35 (.int .i64 co)), (12, .int .i64 (i : Int)), (60, .bool true)]) (by kernel_rfl) ?_
    refine WQ.thenN ?_
    refine WE.condT (by kernel_rfl) ?_
    refine WE.skip ?_
    refine WQ.thenN ?_
    refine WE.seq ?_
    refine WE.block ?_
    refine WE.seq ?_
    have HVq := VX.of_own HO_FT
    refine WE.draw [.free, .free, .free, .still, .free, .still, .free, .free, .still, .free] Same sameR (by kernel_rfl) 10 (Array.replicate 10 false) (by kernel_rfl) rfl ?_
    intro w65 F66 _
    have HB4 := Blk.keep HB4 F66 (nin0 _)
    have HB22 := Blk.keep HB22 F66 (nin0 _)
    have HR58 := RowB.keep HR58 F66 (nin0 _)
    have HT := HT.keep F66 (fun _ _ => nin0 _)
    have HO_FT := HO_FT.keep F66 (fun _ _ => nin0 _)
    have HVq := HVq.keep F66 (fun _ _ => nin0 _)
    have HS := var_keep 3 (by kernel_rfl) HS F66 (nin0 _)
    have HR := var_keep 4 (by kernel_rfl) HR F66 (nin0 _)
    have HTab := tab_keep HTab F66 (nin0 _)
    have HM := max_keep HM F66 (nin0 _)
    have HA := Fr.step0 HA F66
    refine WO.one (SA.F sameR sameT _ 0 _ (by kernel_rfl)) 63 (.slice (some ⟨b55, 0, none⟩) (0 + acc.length) cap56) (by kernel_rfl) ?_
    refine WO.one (SA.F sameR sameT _ 1 _ (by kernel_rfl)) 64 (.int .i64 (i : Int)) (by kernel_rfl) ?_
    refine WO.ixB (SA.F sameR sameT _ 2 _ (by kernel_rfl)) 65 (i * 2) b55 0 (0 + acc.length) 2 (i : Int) (by kernel_rfl) (by omega) (by omega) (by omega) ?_
    refine WO.ldR (SA.S sameR sameT _ 3 _ (by kernel_rfl)) 66 [.string (str (gT (([] : List (L × L)) ++ acc) i).1), .string (str (gT (([] : List (L × L)) ++ acc) i).2)] b55 i 2 (i * 2) (same HR58) (by rw [List.length_map]; have := (show (([] : List (L × L)) ++ acc).length = 0 + acc.length by rw [List.length_append, (rfl : List.length ([] : List (L × L)) = 0)]; first | rfl | (have := (rfl : List.length ([] : List (L × L)) = 0); simp; omega)); omega) (map_gT (([] : List (L × L)) ++ acc) i (by have := (show (([] : List (L × L)) ++ acc).length = 0 + acc.length by rw [List.length_append, (rfl : List.length ([] : List (L × L)) = 0)]; first | rfl | (have := (rfl : List.length ([] : List (L × L)) = 0); simp; omega)); omega)) rfl (by omega) (by kernel_rfl) (by kernel_rfl) ?_
    refine WO.one (SA.F sameR sameT _ 4 _ (by kernel_rfl)) 67 (.pointer (some ⟨g12, 1, none⟩)) (by kernel_rfl) ?_
    refine WO.ld (SA.S sameR sameT _ 5 _ (by kernel_rfl)) 68 (.slice At acc.length ct) (by kernel_rfl) (same (HB22.at 1 (by kernel_rfl))) ?_
    refine WO.one (SA.F sameR sameT _ 6 _ (by kernel_rfl)) 69 (.int .i64 (i : Int)) (by kernel_rfl) ?_
    obtain ⟨ad67, hA68⟩ := HVq.addr (i := i) (by have := (rfl : acc.length = _); omega)
    refine WO.ixo (SA.F sameR sameT _ 7 _ (by kernel_rfl)) 70 acc.length 2 i (i : Int) hA68 (by kernel_rfl) rfl (by omega) ?_
    refine WO.ldA (ad := (ad67.add (i * 2))) (SA.S sameR sameT _ 8 _ (by kernel_rfl)) 71 [.string (str (gT acc i).1), .string (str (gT acc i).2)] (by kernel_rfl) (by kernel_rfl) (fun _ hw_ _ hj_ => by subst hw_; exact HVq.part0 hA68 (gT_some acc i (by have := (rfl : acc.length = _); omega)) [.string (str (gT acc i).1), .string (str (gT acc i).2)] (by kernel_rfl) _ hj_) ?_
    refine WO.eqS (SA.F sameR sameT _ 9 _ (by kernel_rfl)) 72 true 53 #[.string (str (gT (([] : List (L × L)) ++ acc) i).1), .string (str (gT (([] : List (L × L)) ++ acc) i).2)] #[.string (str (gT acc i).1), .string (str (gT acc i).2)] (b := (str (gT (([] : List (L × L)) ++ acc) i).1).toList == (str (gT acc i).1).toList && ((str (gT (([] : List (L × L)) ++ acc) i).2).toList == (str (gT acc i).2).toList)) (by kernel_rfl) (by kernel_rfl) (fun w_ => eqA53 9998 w_ _ _ _ _) ?_
    refine WO.top (v' := .bool (!((str (gT (([] : List (L × L)) ++ acc) i).1).toList == (str (gT acc i).1).toList && ((str (gT (([] : List (L × L)) ++ acc) i).2).toList == (str (gT acc i).2).toList)))) rfl ?_
    refine WO.top (v' := .bool false) (congrArg Value.bool (by first | rfl | simp | omega)) ?_
    refine WO.doneA (by kernel_rfl) ?_
    refine WQ.keep [1, 2, 3, 5, 6, 7, 9, 10, 11, 12, 72] (e' := [(1, .pointer (some ⟨g1, 0, none⟩)), (2, .bool false), (3, .bool true), (5, .string (⟨#[]⟩)), (6, .iface 35 (.int .i64 co)), (7, .pointer (some ⟨g12, 0, none⟩)), (9, .slice (some ⟨b55, 0, none⟩) (0 + acc.length) cap56), (10, .string (⟨#[]⟩)), (11, .iface 35 (.int .i64 co)), (12, .int .i64 (i : Int)), (72, .bool false)]) (by kernel_rfl) ?_
    refine WQ.thenN ?_
    refine WE.condF (by kernel_rfl) ?_
    refine WE.skip ?_
    refine WQ.blkN ?_
    refine WQ.thenN ?_
    refine WE.region ?_
    refine WO.run 1 0 [(61, .int .i64 (i : Int))] (by kernel_rfl) (by kernel_rfl) ?_
    refine WO.one (SQ.F 1 (by kernel_rfl)) 62 (.int .i64 (IntKind.i64.wrap ((i : Int) + 1))) (by kernel_rfl) ?_
    refine WO.top (v' := .int .i64 ((i + 1 : Nat) : Int)) (wrap_i64 (by omega) (by omega)) ?_
    refine WO.run 1 2 [(12, .int .i64 ((i + 1 : Nat) : Int))] (by kernel_rfl) (by kernel_rfl) ?_
    refine WO.done (by kernel_rfl) ?_
    refine WQ.keep [1, 2, 3, 5, 6, 7, 9, 10, 11, 12] (e' := [(1, .pointer (some ⟨g1, 0, none⟩)), (2, .bool false), (3, .bool true), (5, .string (⟨#[]⟩)), (6, .iface 35 (.int .i64 co)), (7, .pointer (some ⟨g12, 0, none⟩)), (9, .slice (some ⟨b55, 0, none⟩) (0 + acc.length) cap56), (10, .string (⟨#[]⟩)), (11, .iface 35 (.int .i64 co)), (12, .int .i64 ((i + 1 : Nat) : Int))]) (by kernel_rfl) ?_
    refine WQ.round ?_
    intro a_ ha_
    refine ⟨i + 1, ?_, ha_.keep [1, 2, 3, 5, 6, 7, 9, 10, 11, 12] (by kernel_rfl), ?_⟩
    ·
     show acc.length - (i + 1) < acc.length - i; omega
    ·
     exact ⟨by omega, HB4, HB22, HR58, HT, HO_FT, HS, HR, HTab, HM, HA⟩
   intro h64
   refine WO.done (by kernel_rfl) ?_
   refine WQ.keep [1, 2, 3, 5, 6, 7, 9, 10, 11, 12, 60] (e' := [(1, .pointer (some ⟨g1, 0, none⟩)), (2, .bool false), (3, .bool true), (5, .string (⟨#[]⟩)), (6, .iface 35 (.int .i64 co)), (7, .pointer (some ⟨g12, 0, none⟩)), (9, .slice (some ⟨b55, 0, none⟩) (0 + acc.length) cap56), (10, .string (⟨#[]⟩)), (11, .iface 35 (.int .i64 co)), (12, .int .i64 (i : Int)), (60, .bool false)]) (by kernel_rfl) ?_
   refine WQ.thenN ?_
   refine WE.condF (by kernel_rfl) ?_
   refine WE.exit ?_
   refine WQ.thenE ?_
   refine WQ.thenE ?_
   refine WQ.blkE ?_
   refine WQ.thenN ?_
   refine WE.seq ?_
   refine WE.seq ?_
   refine WE.draw [.free, .free, .free, .free, .free, .free, .free, .free, .free, .free] Same sameR (by kernel_rfl) 10 (Array.replicate 10 false) (by kernel_rfl) rfl ?_
   intro w69 F70 _
   have HB4 := Blk.keep HB4 F70 (nin0 _)
   have HB22 := Blk.keep HB22 F70 (nin0 _)
   have HR58 := RowB.keep HR58 F70 (nin0 _)
   have HT := HT.keep F70 (fun _ _ => nin0 _)
   have HO_FT := HO_FT.keep F70 (fun _ _ => nin0 _)
   have HS := var_keep 3 (by kernel_rfl) HS F70 (nin0 _)
   have HR := var_keep 4 (by kernel_rfl) HR F70 (nin0 _)
   have HTab := tab_keep HTab F70 (nin0 _)
   have HM := max_keep HM F70 (nin0 _)
   have HA := Fr.step0 HA F70
   refine WO.one (SA.F sameR sameT _ 0 _ (by kernel_rfl)) 73 (.string (⟨#[]⟩)) (by kernel_rfl) ?_
   refine WO.one (SA.F sameR sameT _ 1 _ (by kernel_rfl)) 74 (.string (⟨#[]⟩)) (by kernel_rfl) ?_
   refine WO.one (SA.F sameR sameT _ 2 _ (by kernel_rfl)) 75 (.bool (!((⟨#[]⟩ : ByteArray).toList == (⟨#[]⟩ : ByteArray).toList))) (by kernel_rfl) ?_
   refine WO.top (v' := .bool (!decide ((⟨#[]⟩ : ByteArray) = (⟨#[]⟩ : ByteArray)))) (congrArg Value.bool (congrArg not (streq (⟨#[]⟩ : ByteArray) (⟨#[]⟩ : ByteArray)))) ?_
   refine WO.topNT ((⟨#[]⟩ : ByteArray) = (⟨#[]⟩ : ByteArray)) (by first | rfl | simp | omega) ?_
   refine WO.one (SA.F sameR sameT _ 3 _ (by kernel_rfl)) 76 (.bool false) (by kernel_rfl) ?_
   refine WO.one (SA.F sameR sameT _ 4 _ (by kernel_rfl)) 77 (.iface 35 (.int .i64 co)) (by kernel_rfl) ?_
   refine WO.one (SA.F sameR sameT _ 5 _ (by kernel_rfl)) 78 (.bool false) (by kernel_rfl) ?_
   refine WO.one (SA.F sameR sameT _ 6 _ (by kernel_rfl)) 79 (.iface 35 (.int .i64 co)) (by kernel_rfl) ?_
   refine WO.one (SA.F sameR sameT _ 7 _ (by kernel_rfl)) 80 (.bool false) (by kernel_rfl) ?_
   refine WO.one (SA.F sameR sameT _ 8 _ (by kernel_rfl)) 81 (.bool false) (by kernel_rfl) ?_
   refine WO.one (SA.F sameR sameT _ 9 _ (by kernel_rfl)) 82 (.bool false) (by kernel_rfl) ?_
   refine WO.doneA (by kernel_rfl) ?_
   refine WQ.keep [1, 2, 3, 5, 6, 82] (e' := [(1, .pointer (some ⟨g1, 0, none⟩)), (2, .bool false), (3, .bool true), (5, .string (⟨#[]⟩)), (6, .iface 35 (.int .i64 co)), (82, .bool false)]) (by kernel_rfl) ?_
   refine WQ.thenN ?_
   refine WE.condF (by kernel_rfl) ?_
   refine WE.skip ?_
   refine WQ.thenN ?_
   refine WE.seq ?_
   refine WE.seq ?_
   refine WE.region ?_
   refine WO.run 2 0 [(84, .bool true), (83, .iface 35 (.int .i64 co))] (by kernel_rfl) (by kernel_rfl) ?_
   refine WO.done (by kernel_rfl) ?_
   refine WQ.keep [1, 2, 3, 5, 84] (e' := [(1, .pointer (some ⟨g1, 0, none⟩)), (2, .bool false), (3, .bool true), (5, .string (⟨#[]⟩)), (84, .bool true)]) (by kernel_rfl) ?_
   refine WQ.thenN ?_
   refine WE.condT (by kernel_rfl) ?_
   refine WE.seq ?_
   refine WE.region ?_
   refine WO.run 2 0 [(2, .bool true), (85, .bool true)] (by kernel_rfl) (by kernel_rfl) ?_
   refine WO.done (by kernel_rfl) ?_
   refine WQ.keep [1, 2, 3, 5] (e' := [(1, .pointer (some ⟨g1, 0, none⟩)), (2, .bool true), (3, .bool true), (5, .string (⟨#[]⟩))]) (by kernel_rfl) ?_
   refine WQ.thenN ?_
   refine WE.ret ?_
   refine WQ.thenR ?_
   refine WQ.ret (v := .bool true) (by kernel_rfl) ?_
   exact ⟨rfl, HA⟩
  ·
   rename_i k
   obtain ⟨cn, hc_, hkc⟩ := key_canon hk_
   obtain ⟨hmy, hce, hnd, hmc⟩ := canon_may hc_
   have hkev0 := key_ev0 hc_
   have hofk := (of_key hc_).2
   have hhl_ := head_le hmc
   rw [hkc] at hkev0 hofk hhl_
   refine WO.call (SQ.E 1 (by kernel_rfl)) 25 (by kernel_rfl) (key_f ev A n cp F _ HT hn hnn hln hlt hv hF2 hF3 hF4 hF1 HS HR HTab HM) ?_
   intro e_ w71 hr_
   rw [hk_] at hr_
   obtain ⟨rfl, F72⟩ := hr_
   refine ⟨_, rfl, trivial, ?_⟩
   have HB4 := Blk.keep HB4 F72 (nin0 _)
   have HT := HT.keep F72 (fun _ _ => nin0 _)
   have HS := var_keep 3 (by kernel_rfl) HS F72 (nin0 _)
   have HR := var_keep 4 (by kernel_rfl) HR F72 (nin0 _)
   have HTab := tab_keep HTab F72 (nin0 _)
   have HM := max_keep HM F72 (nin0 _)
   have HA := Fr.step0 HA F72
   refine WO.run 5 2 [(6, .nilIface), (5, .string (str k)), (27, .nilIface), (26, .string (str k)), (23, .tuple #[.string (str k), .nilIface])] (by kernel_rfl) (by kernel_rfl) ?_
   refine WO.done (by kernel_rfl) ?_
   refine WQ.keep [1, 2, 3, 5, 6] (e' := [(1, .pointer (some ⟨g1, 0, none⟩)), (2, .bool false), (3, .bool true), (5, .string (str k)), (6, .nilIface)]) (by kernel_rfl) ?_
   refine WQ.thenN ?_
   refine WE.seq ?_
   refine WE.region ?_
   refine WO.ldB (SQ.S 0 (by kernel_rfl)) 28 [.string (str ev.name), .slice A n cp, .int .i64 ev.kind, .int .i64 ev.value, .int .i64 ev.time] g1 0 (by kernel_rfl) (by kernel_rfl) (same HB4) (by kernel_rfl) ?_
   refine WO.bx (SQ.E 1 (by kernel_rfl)) 7 #[.string (⟨#[]⟩), .slice none 0 0, .int .i64 0, .int .i64 0, .int .i64 0] 25 (fun g => .pointer (some ⟨g, 0, none⟩)) (by kernel_rfl) (fun _ _ => trivial) ?_
   intro g73 w74 HB76 F75 le77 _
   have ne_g1_g73 : g1 ≠ g73 := Nat.ne_of_lt (Nat.lt_of_lt_of_le HB4.lt le77)
   have nin_g73_F : g73 ∉ F := new_nin HT.lt le77
   have ne_3_g73 : 3 ≠ g73 := Nat.ne_of_lt (Nat.lt_of_lt_of_le (var_lt 3 (by kernel_rfl) HS) le77)
   have ne_4_g73 : 4 ≠ g73 := Nat.ne_of_lt (Nat.lt_of_lt_of_le (var_lt 4 (by kernel_rfl) HR) le77)
   have ne_2_g73 : 2 ≠ g73 := Nat.ne_of_lt (Nat.lt_of_lt_of_le (tab_lt HTab) le77)
   have ne_1_g73 : 1 ≠ g73 := Nat.ne_of_lt (Nat.lt_of_lt_of_le (max_lt HM) le77)
   have ge_HA_g73 := Nat.le_trans HA.size le77
   have HB4 := Blk.keep HB4 F75 (nin0 _)
   have HT := HT.keep F75 (fun _ _ => nin0 _)
   have HS := var_keep 3 (by kernel_rfl) HS F75 (nin0 _)
   have HR := var_keep 4 (by kernel_rfl) HR F75 (nin0 _)
   have HTab := tab_keep HTab F75 (nin0 _)
   have HM := max_keep HM F75 (nin0 _)
   have HA := Fr.step0 HA F75
   refine WO.st (SQ.E 2 (by kernel_rfl)) g73 0 [.string (str ev.name), .slice A n cp, .int .i64 ev.kind, .int .i64 ev.value, .int .i64 ev.time] #[.string (str ev.name), .slice A n cp, .int .i64 ev.kind, .int .i64 ev.value, .int .i64 ev.time] (by kernel_rfl) HB76 (by kernel_rfl) (by kernel_rfl) (fun _ _ => trivial) ?_
   intro w78 HB80 F79 _
   have HB4 := Blk.keep HB4 F79 (ninC ne_g1_g73 (nin0 _))
   have HT := HT.keep F79 (djB nin_g73_F)
   have HS := var_keep 3 (by kernel_rfl) HS F79 (ninC ne_3_g73 (nin0 _))
   have HR := var_keep 4 (by kernel_rfl) HR F79 (ninC ne_4_g73 (nin0 _))
   have HTab := tab_keep HTab F79 (ninC ne_2_g73 (nin0 _))
   have HM := max_keep HM F79 (ninC ne_1_g73 (nin0 _))
   have HA := Fr.step HA F79 (inSR ge_HA_g73 inS0)
   refine WO.done (by kernel_rfl) ?_
   refine WQ.keep [1, 2, 3, 5, 6, 7] (e' := [(1, .pointer (some ⟨g1, 0, none⟩)), (2, .bool false), (3, .bool true), (5, .string (str k)), (6, .nilIface), (7, .pointer (some ⟨g73, 0, none⟩))]) (by kernel_rfl) ?_
   refine WQ.thenN ?_
   refine WE.seq ?_
   refine WE.region ?_
   refine WO.run 1 0 [(29, .pointer (some ⟨g73, 1, none⟩))] (by kernel_rfl) (by kernel_rfl) ?_
   refine WO.st (SQ.E 1 (by kernel_rfl)) g73 1 [.slice none 0 0] #[.string (str ev.name), .slice none 0 0, .int .i64 ev.kind, .int .i64 ev.value, .int .i64 ev.time] (by kernel_rfl) HB80 (by kernel_rfl) (by kernel_rfl) (fun _ _ => trivial) ?_
   intro w81 HB83 F82 _
   have HB4 := Blk.keep HB4 F82 (ninC ne_g1_g73 (nin0 _))
   have HT := HT.keep F82 (djB nin_g73_F)
   have HS := var_keep 3 (by kernel_rfl) HS F82 (ninC ne_3_g73 (nin0 _))
   have HR := var_keep 4 (by kernel_rfl) HR F82 (ninC ne_4_g73 (nin0 _))
   have HTab := tab_keep HTab F82 (ninC ne_2_g73 (nin0 _))
   have HM := max_keep HM F82 (ninC ne_1_g73 (nin0 _))
   have HA := Fr.step HA F82 (inSR ge_HA_g73 inS0)
   refine WO.done (by kernel_rfl) ?_
   refine WQ.keep [1, 2, 3, 5, 6, 7] (e' := [(1, .pointer (some ⟨g1, 0, none⟩)), (2, .bool false), (3, .bool true), (5, .string (str k)), (6, .nilIface), (7, .pointer (some ⟨g73, 0, none⟩))]) (by kernel_rfl) ?_
   refine WQ.thenN ?_
   refine WE.seq ?_
   refine WE.seq ?_
   refine WE.region ?_
   refine WO.run 1 0 [(30, .pointer (some ⟨g1, 1, none⟩))] (by kernel_rfl) (by kernel_rfl) ?_
   refine WO.ld (SQ.S 1 (by kernel_rfl)) 31 (.slice A n cp) (by kernel_rfl) (same (HB4.at 1 (by kernel_rfl))) ?_
   refine WO.run 1 2 [(32, .int .i64 (n : Int))] (by kernel_rfl) (by kernel_rfl) ?_
   refine WO.one (SQ.F 3 (by kernel_rfl)) 33 (.int .i64 (IntKind.i64.wrap ((n : Int) - 1))) (by kernel_rfl) ?_
   refine WO.top (v' := .int .i64 ((n : Int) - 1)) (wrap_i64 (by omega) (by omega)) ?_
   refine WO.run 1 4 [(8, .int .i64 ((n : Int) - 1))] (by kernel_rfl) (by kernel_rfl) ?_
   refine WO.done (by kernel_rfl) ?_
   refine WQ.keep [1, 2, 3, 5, 6, 7, 8] (e' := [(1, .pointer (some ⟨g1, 0, none⟩)), (2, .bool false), (3, .bool true), (5, .string (str k)), (6, .nilIface), (7, .pointer (some ⟨g73, 0, none⟩)), (8, .int .i64 ((n : Int) - 1))]) (by kernel_rfl) ?_
   refine WQ.thenN ?_
   refine WE.block ?_
   refine WE.loop (α := Nat × List Nat × Option Addr × Nat × (List (L × L))) (E := fun ⟨kk, FT, At, ct, acc⟩ => [(1, .pointer (some ⟨g1, 0, none⟩)), (2, .bool false), (3, .bool true), (5, .string (str k)), (6, .nilIface), (7, .pointer (some ⟨g73, 0, none⟩)), (8, .int .i64 ((kk : Int) - 1))]) (I := fun ⟨kk, FT, At, ct, acc⟩ wr => kk ≤ n ∧ acc = (ev.tags.drop kk).reverse ∧ Blk wr g1 #[.string (str ev.name), .slice A n cp, .int .i64 ev.kind, .int .i64 ev.value, .int .i64 ev.time] 25 ∧ Blk wr g73 #[.string (str ev.name), .slice At acc.length ct, .int .i64 ev.kind, .int .i64 ev.value, .int .i64 ev.time] 25 ∧ VX cT 2 wr F A ev.tags ∧ VarI wr "strconv.ErrSyntax" ∧ VarI wr "strconv.ErrRange" ∧ Lib.TabIs Tryd.prog wr "internal/strconv.uint64pow10" .u64 Lib.pow10Tab ∧ MaxI wr ∧ OwnX 53 2 wr FT (.slice At acc.length ct) (List.map cT acc) ∧ g1 ∉ FT ∧ g73 ∉ FT ∧ 3 ∉ FT ∧ 4 ∉ FT ∧ 2 ∉ FT ∧ 1 ∉ FT ∧ (∀ y ∈ FT, y ∉ F) ∧ (∀ y ∈ FT, (World.heap w).size ≤ y) ∧ Fr [] w wr) (m := fun ⟨kk, FT, At, ct, acc⟩ => kk) (n, [], none, 0, []) [1, 2, 3, 5, 6, 7, 8] (by kernel_rfl) ?_ ?_
   ·
    exact ⟨by omega, by rw [List.drop_of_length_le (by omega)]; rfl, HB4, HB83, HT, HS, HR, HTab, HM, OwnX.nil _ _ _, (by simp), (by simp), (by simp), (by simp), (by simp), (by simp), (by simp), (by simp), HA⟩
   rintro ⟨kk, FT, At, ct, acc⟩ wr ⟨hk_n, hacc, HB4, HB83, HT, HS, HR, HTab, HM, HO_FT, nin_g1_FT, nin_g73_FT, nin_3_FT, nin_4_FT, nin_2_FT, nin_1_FT, dj_FT_F, ge_HA_FT, HA⟩
   have haccl : acc.length = n - kk := by rw [hacc, List.length_reverse, List.length_drop]; omega
   refine WE.seq ?_
   refine WE.seq ?_
   refine WE.region ?_
   refine WO.run 1 0 [(34, .int .i64 ((kk : Int) - 1))] (by kernel_rfl) (by kernel_rfl) ?_
   refine WO.one (SQ.F 1 (by kernel_rfl)) 35 (.bool (decide ((((kk : Int) - 1) : Int) ≥ 0))) (by kernel_rfl) ?_
   refine WO.topP ((((kk : Int) - 1) : Int) ≥ 0) ?_ ?_
   ·
    intro h84
    refine WO.done (by kernel_rfl) ?_
    refine WQ.keep [1, 2, 3, 5, 6, 7, 8, 35] (e' := [(1, .pointer (some ⟨g1, 0, none⟩)), (2, .bool false), (3, .bool true), (5, .string (str k)), (6, .nilIface), (7, .pointer (some ⟨g73, 0, none⟩)), (8, .int .i64 ((kk : Int) - 1)), (35, .bool true)]) (by kernel_rfl) ?_
    refine WQ.thenN ?_
    refine WE.condT (by kernel_rfl) ?_
    refine WE.skip ?_
    refine WQ.thenN ?_
    refine WE.seq ?_
    refine WE.block ?_
    refine WE.env (e' := [(1, .pointer (some ⟨g1, 0, none⟩)), (2, .bool false), (3, .bool true), (5, .string (str k)), (6, .nilIface), (7, .pointer (some ⟨g73, 0, none⟩)), (8, .int .i64 ((kk - 1 : Nat) : Int)), (35, .bool true)]) (by rw [show ((kk : Int) - 1) = ((kk - 1 : Nat) : Int) by omega]) ?_
    have hz85 : (World.heap wr).size ≤ (World.heap wr).size := Nat.le_refl _
    have ltz_g1 := HB4.lt
    have ltz_g73 := HB83.lt
    have ltz_F := HT.lt
    have ltz_FT := HO_FT.lt
    refine WE.draw [.free, .still, .free, .still, .free, .free, .still, .effR, .eff, .free, .eff] (FrB (World.heap wr).size) (frBR _) (by kernel_rfl) 11 (Array.replicate 11 false) (by kernel_rfl) rfl ?_
    intro w86 F87 _
    have HB4 := Blk.keep HB4 F87 (nin0 _)
    have HB83 := Blk.keep HB83 F87 (nin0 _)
    have HT := HT.keep F87 (fun _ _ => nin0 _)
    have HO_FT := HO_FT.keep F87 (fun _ _ => nin0 _)
    have HS := var_keep 3 (by kernel_rfl) HS F87 (nin0 _)
    have HR := var_keep 4 (by kernel_rfl) HR F87 (nin0 _)
    have HTab := tab_keep HTab F87 (nin0 _)
    have HM := max_keep HM F87 (nin0 _)
    have hz85 := Nat.le_trans hz85 F87.size
    have HA := Fr.step0 HA F87
    refine WO.one (SA.F (frBR _) (frBT _) _ 0 _ (by kernel_rfl)) 38 (.pointer (some ⟨g73, 1, none⟩)) (by kernel_rfl) ?_
    refine WO.ld (SA.S (frBR _) (frBT _) _ 1 _ (by kernel_rfl)) 39 (.slice At acc.length ct) (by kernel_rfl) (fun _ k => (HB83.keepB k ltz_g73).at 1 (by kernel_rfl)) ?_
    refine WO.one (SA.F (frBR _) (frBT _) _ 2 _ (by kernel_rfl)) 40 (.pointer (some ⟨g1, 1, none⟩)) (by kernel_rfl) ?_
    refine WO.ld (SA.S (frBR _) (frBT _) _ 3 _ (by kernel_rfl)) 41 (.slice A n cp) (by kernel_rfl) (fun _ k => (HB4.keepB k ltz_g1).at 1 (by kernel_rfl)) ?_
    refine WO.one (SA.F (frBR _) (frBT _) _ 4 _ (by kernel_rfl)) 42 (.int .i64 ((kk - 1 : Nat) : Int)) (by kernel_rfl) ?_
    obtain ⟨ad88, hA89⟩ := HT.addr (i := kk - 1) (by have := hn; omega)
    refine WO.ixo (SA.F (frBR _) (frBT _) _ 5 _ (by kernel_rfl)) 43 n 2 (kk - 1) ((kk - 1 : Nat) : Int) hA89 (by kernel_rfl) rfl (by omega) ?_
    refine WO.ldA (ad := (ad88.add ((kk - 1) * 2))) (SA.S (frBR _) (frBT _) _ 6 _ (by kernel_rfl)) 44 [.string (str (gT ev.tags (kk - 1)).1), .string (str (gT ev.tags (kk - 1)).2)] (by kernel_rfl) (by kernel_rfl) (fun _ k_ _ hj_ => (HT.keepB k_ ltz_F).part0 hA89 (gT_some ev.tags (kk - 1) (by have := hn; omega)) [.string (str (gT ev.tags (kk - 1)).1), .string (str (gT ev.tags (kk - 1)).2)] (by kernel_rfl) _ hj_) ?_
    refine WO.bx (SA.ER _ 7 _ (by kernel_rfl) rfl) 45 #[.string (str (gT ev.tags (kk - 1)).1), .string (str (gT ev.tags (kk - 1)).2)] 53 (fun g => .slice (some ⟨g, 0, none⟩) 1 1) (by kernel_rfl) (frB_of hz85 (by simp)) ?_
    intro g90 w91 HB93 F92 le94 _
    have ne_g1_g90 : g1 ≠ g90 := Nat.ne_of_lt (Nat.lt_of_lt_of_le HB4.lt le94)
    have ne_g73_g90 : g73 ≠ g90 := Nat.ne_of_lt (Nat.lt_of_lt_of_le HB83.lt le94)
    have nin_g90_F : g90 ∉ F := new_nin HT.lt le94
    have nin_g90_FT : g90 ∉ FT := new_nin HO_FT.lt le94
    have ne_3_g90 : 3 ≠ g90 := Nat.ne_of_lt (Nat.lt_of_lt_of_le (var_lt 3 (by kernel_rfl) HS) le94)
    have ne_4_g90 : 4 ≠ g90 := Nat.ne_of_lt (Nat.lt_of_lt_of_le (var_lt 4 (by kernel_rfl) HR) le94)
    have ne_2_g90 : 2 ≠ g90 := Nat.ne_of_lt (Nat.lt_of_lt_of_le (tab_lt HTab) le94)
    have ne_1_g90 : 1 ≠ g90 := Nat.ne_of_lt (Nat.lt_of_lt_of_le (max_lt HM) le94)
    have ge_HA_g90 := Nat.le_trans HA.size le94
    have gz_hz85_g90 := Nat.le_trans hz85 le94
    have HB4 := Blk.keep HB4 F92 (nin0 _)
    have HB83 := Blk.keep HB83 F92 (nin0 _)
    have HT := HT.keep F92 (fun _ _ => nin0 _)
    have HO_FT := HO_FT.keep F92 (fun _ _ => nin0 _)
    have HS := var_keep 3 (by kernel_rfl) HS F92 (nin0 _)
    have HR := var_keep 4 (by kernel_rfl) HR F92 (nin0 _)
    have HTab := tab_keep HTab F92 (nin0 _)
    have HM := max_keep HM F92 (nin0 _)
    have hz85 := Nat.le_trans hz85 F92.size
    have HA := Fr.step0 HA F92
    refine WO.appX (SA.E _ 8 _ (by kernel_rfl) rfl) 46 (m := 1) (ys := List.map cT ([(gT ev.tags (kk - 1))])) et_t HO_FT (by rw [List.length_map] <;> first | rfl | omega | (simp <;> omega)) (RowB.src (RowB.of_blk (n := 1) HB93 (List.map cT [(gT ev.tags (kk - 1))]) rfl rfl (cT_len _) (cT_one _) (by omega))) (cT_len _) (cT_one _) (by kernel_rfl) (by rw [List.length_map]; first | omega | (simp only [List.length_nil]; omega)) (by rw [List.length_map]; first | omega | (simp only [List.length_nil]; omega)) (fun _ _ => trivial) ?_
    intro v100 w101 G102 HO103 F104 hg105
    rw [← List.map_append] at HO103
    have nin_g1_G102 : g1 ∉ G102 := grow_nin hg105 nin_g1_FT HB4.lt
    have nin_g73_G102 : g73 ∉ G102 := grow_nin hg105 nin_g73_FT HB83.lt
    have nin_g90_G102 : g90 ∉ G102 := grow_nin hg105 nin_g90_FT HB93.lt
    have nin_3_G102 : 3 ∉ G102 := grow_nin hg105 nin_3_FT ((var_lt 3 (by kernel_rfl) HS))
    have nin_4_G102 : 4 ∉ G102 := grow_nin hg105 nin_4_FT ((var_lt 4 (by kernel_rfl) HR))
    have nin_2_G102 : 2 ∉ G102 := grow_nin hg105 nin_2_FT ((tab_lt HTab))
    have nin_1_G102 : 1 ∉ G102 := grow_nin hg105 nin_1_FT ((max_lt HM))
    have dj_G102_F : ∀ y ∈ G102, y ∉ F := grow_dj hg105 dj_FT_F HT.lt
    have ge_HA_G102 : ∀ y ∈ G102, (World.heap w).size ≤ y := grow_ge hg105 ge_HA_FT HA.size
    have HB4 := Blk.keep HB4 F104 nin_g1_FT
    have HB83 := Blk.keep HB83 F104 nin_g73_FT
    have HB93 := Blk.keep HB93 F104 nin_g90_FT
    have HT := HT.keep F104 (dj_symm dj_FT_F)
    have HS := var_keep 3 (by kernel_rfl) HS F104 nin_3_FT
    have HR := var_keep 4 (by kernel_rfl) HR F104 nin_4_FT
    have HTab := tab_keep HTab F104 nin_2_FT
    have HM := max_keep HM F104 nin_1_FT
    have hz85 := Nat.le_trans hz85 F104.size
    have HA := Fr.step HA F104 (inF ge_HA_FT)
    obtain ⟨A106, cap107, rfl⟩ := HO103.sliceN (List.length_map _)
    have := @List.length_append _ acc ([(gT ev.tags (kk - 1))])
    refine WO.one (SA.F (frBR _) (frBT _) _ 9 _ (by kernel_rfl)) 47 (.pointer (some ⟨g73, 1, none⟩)) (by kernel_rfl) ?_
    refine WO.st (SA.E _ 10 _ (by kernel_rfl) rfl) g73 1 [.slice A106 ((acc ++ [(gT ev.tags (kk - 1))]).length) cap107] #[.string (str ev.name), .slice A106 ((acc ++ [(gT ev.tags (kk - 1))]).length) cap107, .int .i64 ev.kind, .int .i64 ev.value, .int .i64 ev.time] (by kernel_rfl) HB83 (by kernel_rfl) (by kernel_rfl) (fun _ _ => trivial) ?_
    intro w108 HB110 F109 _
    have HB4 := Blk.keep HB4 F109 (ninC ne_g1_g73 (nin0 _))
    have HB93 := Blk.keep HB93 F109 (ninC (Ne.symm ne_g73_g90) (nin0 _))
    have HT := HT.keep F109 (djB nin_g73_F)
    have HO103 := HO103.keep F109 (djB nin_g73_G102)
    have HS := var_keep 3 (by kernel_rfl) HS F109 (ninC ne_3_g73 (nin0 _))
    have HR := var_keep 4 (by kernel_rfl) HR F109 (ninC ne_4_g73 (nin0 _))
    have HTab := tab_keep HTab F109 (ninC ne_2_g73 (nin0 _))
    have HM := max_keep HM F109 (ninC ne_1_g73 (nin0 _))
    have hz85 := Nat.le_trans hz85 F109.size
    have HA := Fr.step HA F109 (inSR ge_HA_g73 inS0)
    refine WO.doneA (by kernel_rfl) ?_
    refine WQ.keep [1, 2, 3, 5, 6, 7, 8] (e' := [(1, .pointer (some ⟨g1, 0, none⟩)), (2, .bool false), (3, .bool true), (5, .string (str k)), (6, .nilIface), (7, .pointer (some ⟨g73, 0, none⟩)), (8, .int .i64 ((kk - 1 : Nat) : Int))]) (by kernel_rfl) ?_
    refine WQ.blkN ?_
    refine WQ.thenN ?_
    refine WE.region ?_
    refine WO.run 1 0 [(36, .int .i64 ((kk - 1 : Nat) : Int))] (by kernel_rfl) (by kernel_rfl) ?_
    refine WO.one (SQ.F 1 (by kernel_rfl)) 37 (.int .i64 (IntKind.i64.wrap (((kk - 1 : Nat) : Int) - 1))) (by kernel_rfl) ?_
    refine WO.top (v' := .int .i64 (((kk - 1 : Nat) : Int) - 1)) (wrap_i64 (by omega) (by omega)) ?_
    refine WO.run 1 2 [(8, .int .i64 (((kk - 1 : Nat) : Int) - 1))] (by kernel_rfl) (by kernel_rfl) ?_
    refine WO.done (by kernel_rfl) ?_
    refine WQ.keep [1, 2, 3, 5, 6, 7, 8] (e' := [(1, .pointer (some ⟨g1, 0, none⟩)), (2, .bool false), (3, .bool true), (5, .string (str k)), (6, .nilIface), (7, .pointer (some ⟨g73, 0, none⟩)), (8, .int .i64 (((kk - 1 : Nat) : Int) - 1))]) (by kernel_rfl) ?_
    refine WQ.round ?_
    intro a_ ha_
    refine ⟨(kk - 1, G102, A106, cap107, (acc ++ [(gT ev.tags (kk - 1))])), ?_, ha_.keep [1, 2, 3, 5, 6, 7, 8] (by kernel_rfl), ?_⟩
    ·
     show kk - 1 < kk; omega
    ·
     exact ⟨by omega, by rw [hacc]; exact rev_step hn (by omega), HB4, HB110, HT, HS, HR, HTab, HM, HO103, nin_g1_G102, nin_g73_G102, nin_3_G102, nin_4_G102, nin_2_G102, nin_1_G102, dj_G102_F, ge_HA_G102, HA⟩
   intro h84
   refine WO.done (by kernel_rfl) ?_
   refine WQ.keep [1, 2, 3, 5, 6, 7, 8, 35] (e' := [(1, .pointer (some ⟨g1, 0, none⟩)), (2, .bool false), (3, .bool true), (5, .string (str k)), (6, .nilIface), (7, .pointer (some ⟨g73, 0, none⟩)), (8, .int .i64 ((kk : Int) - 1)), (35, .bool false)]) (by kernel_rfl) ?_
   refine WQ.thenN ?_
   refine WE.condF (by kernel_rfl) ?_
   refine WE.exit ?_
   refine WQ.thenE ?_
   refine WQ.thenE ?_
   refine WQ.blkE ?_
   refine WQ.thenN ?_
   refine WE.seq ?_
   have hk0_ : kk = 0 := by omega
   subst hk0_
   rw [List.drop_zero] at hacc
   have key_rev : keyE (revE ev) = keyE ev := key_perm (List.reverse_perm _)
   have hrt : (revE ev).tags = acc := hacc.symm
   refine WE.region ?_
   refine WO.bx (SQ.E 0 (by kernel_rfl)) 48 #[] 53 (fun g => .slice (some ⟨g, 0, none⟩) 0 0) (by kernel_rfl) (fun _ _ => trivial) ?_
   intro g111 w112 HB114 F113 le115 _
   have ne_g1_g111 : g1 ≠ g111 := Nat.ne_of_lt (Nat.lt_of_lt_of_le HB4.lt le115)
   have ne_g73_g111 : g73 ≠ g111 := Nat.ne_of_lt (Nat.lt_of_lt_of_le HB83.lt le115)
   have nin_g111_F : g111 ∉ F := new_nin HT.lt le115
   have nin_g111_FT : g111 ∉ FT := new_nin HO_FT.lt le115
   have ne_3_g111 : 3 ≠ g111 := Nat.ne_of_lt (Nat.lt_of_lt_of_le (var_lt 3 (by kernel_rfl) HS) le115)
   have ne_4_g111 : 4 ≠ g111 := Nat.ne_of_lt (Nat.lt_of_lt_of_le (var_lt 4 (by kernel_rfl) HR) le115)
   have ne_2_g111 : 2 ≠ g111 := Nat.ne_of_lt (Nat.lt_of_lt_of_le (tab_lt HTab) le115)
   have ne_1_g111 : 1 ≠ g111 := Nat.ne_of_lt (Nat.lt_of_lt_of_le (max_lt HM) le115)
   have ge_HA_g111 := Nat.le_trans HA.size le115
   have HB4 := Blk.keep HB4 F113 (nin0 _)
   have HB83 := Blk.keep HB83 F113 (nin0 _)
   have HT := HT.keep F113 (fun _ _ => nin0 _)
   have HO_FT := HO_FT.keep F113 (fun _ _ => nin0 _)
   have HS := var_keep 3 (by kernel_rfl) HS F113 (nin0 _)
   have HR := var_keep 4 (by kernel_rfl) HR F113 (nin0 _)
   have HTab := tab_keep HTab F113 (nin0 _)
   have HM := max_keep HM F113 (nin0 _)
   have HA := Fr.step0 HA F113
   refine WO.run 1 1 [(49, .pointer (some ⟨g73, 1, none⟩))] (by kernel_rfl) (by kernel_rfl) ?_
   refine WO.ld (SQ.S 2 (by kernel_rfl)) 50 (.slice At acc.length ct) (by kernel_rfl) (same (HB83.at 1 (by kernel_rfl))) ?_
   have HR121 := RowB.of_blk (n := 0) HB114 (List.map cT []) rfl rfl (cT_len _) (cT_one _) (by omega)
   refine WO.appRow (SQ.E 3 (by kernel_rfl)) 51 (n := 0) (m := acc.length) (ys := List.map cT acc) et_t HR121 ((List.length_map _).trans ((rfl : List.length ([] : List (L × L)) = 0))) (by rw [List.length_map] <;> first | rfl | omega | (simp <;> omega)) (HO_FT.srcN (List.length_map _)) (cT_len _) (cT_one _) (by kernel_rfl) (by omega) (by omega) (fun _ _ => trivial) ?_
   intro b116 cap117 w118 HR119 F120 hb122
   have ne_g1_b116 : g1 ≠ b116 := hb122.elim (fun h => h ▸ ne_g1_g111) (fun h => Nat.ne_of_lt (Nat.lt_of_lt_of_le HB4.lt h))
   have ne_g73_b116 : g73 ≠ b116 := hb122.elim (fun h => h ▸ ne_g73_g111) (fun h => Nat.ne_of_lt (Nat.lt_of_lt_of_le HB83.lt h))
   have nin_b116_F : b116 ∉ F := hb122.elim (fun h => h ▸ nin_g111_F) (fun h => new_nin HT.lt h)
   have nin_b116_FT : b116 ∉ FT := hb122.elim (fun h => h ▸ nin_g111_FT) (fun h => new_nin HO_FT.lt h)
   have ne_3_b116 : 3 ≠ b116 := hb122.elim (fun h => h ▸ ne_3_g111) (fun h => Nat.ne_of_lt (Nat.lt_of_lt_of_le (var_lt 3 (by kernel_rfl) HS) h))
   have ne_4_b116 : 4 ≠ b116 := hb122.elim (fun h => h ▸ ne_4_g111) (fun h => Nat.ne_of_lt (Nat.lt_of_lt_of_le (var_lt 4 (by kernel_rfl) HR) h))
   have ne_2_b116 : 2 ≠ b116 := hb122.elim (fun h => h ▸ ne_2_g111) (fun h => Nat.ne_of_lt (Nat.lt_of_lt_of_le (tab_lt HTab) h))
   have ne_1_b116 : 1 ≠ b116 := hb122.elim (fun h => h ▸ ne_1_g111) (fun h => Nat.ne_of_lt (Nat.lt_of_lt_of_le (max_lt HM) h))
   have in_HA_b116 : b116 ∈ [] ∨ (World.heap w).size ≤ b116 := hb122.elim (fun h => Or.inr (h ▸ ge_HA_g111)) (fun h => Or.inr (Nat.le_trans HA.size h))
   have HB4 := Blk.keep HB4 F120 (ninC ne_g1_g111 (nin0 _))
   have HB83 := Blk.keep HB83 F120 (ninC ne_g73_g111 (nin0 _))
   have HT := HT.keep F120 (djB nin_g111_F)
   have HO_FT := HO_FT.keep F120 (djB nin_g111_FT)
   have HS := var_keep 3 (by kernel_rfl) HS F120 (ninC ne_3_g111 (nin0 _))
   have HR := var_keep 4 (by kernel_rfl) HR F120 (ninC ne_4_g111 (nin0 _))
   have HTab := tab_keep HTab F120 (ninC ne_2_g111 (nin0 _))
   have HM := max_keep HM F120 (ninC ne_1_g111 (nin0 _))
   have HA := Fr.step HA F120 (inSR ge_HA_g111 inS0)
   have HR119 : RowB w118 b116 53 2 cap117 ((([] : List (L × L)) ++ acc).map cT) := by rw [List.map_append]; exact HR119
   refine WO.run 1 4 [(9, .slice (some ⟨b116, 0, none⟩) (0 + acc.length) cap117)] (by kernel_rfl) (by kernel_rfl) ?_
   refine WO.done (by kernel_rfl) ?_
   refine WQ.keep [1, 2, 3, 5, 6, 7, 9] (e' := [(1, .pointer (some ⟨g1, 0, none⟩)), (2, .bool false), (3, .bool true), (5, .string (str k)), (6, .nilIface), (7, .pointer (some ⟨g73, 0, none⟩)), (9, .slice (some ⟨b116, 0, none⟩) (0 + acc.length) cap117)]) (by kernel_rfl) ?_
   refine WQ.thenN ?_
   refine WE.seq ?_
   refine WE.region ?_
   refine WO.ldB (SQ.S 0 (by kernel_rfl)) 53 [.string (str ev.name), .slice At acc.length ct, .int .i64 ev.kind, .int .i64 ev.value, .int .i64 ev.time] g73 0 (by kernel_rfl) (by kernel_rfl) (same HB83) (by kernel_rfl) ?_
   have HVr := VX.of_own HO_FT
   rw [← hrt] at HVr
   refine WO.call (SQ.E 1 (by kernel_rfl)) 54 (by kernel_rfl) (key_f (revE ev) At acc.length ct FT _ HVr (congrArg List.length hrt) (by omega) hln (fun t h_ => hlt t (by simpa [revE] using h_)) hv nin_2_FT nin_3_FT nin_4_FT nin_1_FT HS HR HTab HM) ?_
   intro e_ w123 hr_
   rw [key_rev, hk_] at hr_
   obtain ⟨rfl, F124⟩ := hr_
   refine ⟨_, rfl, trivial, ?_⟩
   have HB4 := Blk.keep HB4 F124 (nin0 _)
   have HB83 := Blk.keep HB83 F124 (nin0 _)
   have HR119 := RowB.keep HR119 F124 (nin0 _)
   have HT := HT.keep F124 (fun _ _ => nin0 _)
   have HO_FT := HO_FT.keep F124 (fun _ _ => nin0 _)
   have HS := var_keep 3 (by kernel_rfl) HS F124 (nin0 _)
   have HR := var_keep 4 (by kernel_rfl) HR F124 (nin0 _)
   have HTab := tab_keep HTab F124 (nin0 _)
   have HM := max_keep HM F124 (nin0 _)
   have HA := Fr.step0 HA F124
   refine WO.run 5 2 [(11, .nilIface), (10, .string (str k)), (56, .nilIface), (55, .string (str k)), (52, .tuple #[.string (str k), .nilIface])] (by kernel_rfl) (by kernel_rfl) ?_
   refine WO.done (by kernel_rfl) ?_
   refine WQ.keep [1, 2, 3, 5, 6, 7, 9, 10, 11] (e' := [(1, .pointer (some ⟨g1, 0, none⟩)), (2, .bool false), (3, .bool true), (5, .string (str k)), (6, .nilIface), (7, .pointer (some ⟨g73, 0, none⟩)), (9, .slice (some ⟨b116, 0, none⟩) (0 + acc.length) cap117), (10, .string (str k)), (11, .nilIface)]) (by kernel_rfl) ?_
   refine WQ.thenN ?_
   refine WE.seq ?_
   refine WE.seq ?_
   refine WE.region ?_
   refine WO.run 1 0 [(12, .int .i64 0)] (by kernel_rfl) (by kernel_rfl) ?_
   refine WO.done (by kernel_rfl) ?_
   refine WQ.keep [1, 2, 3, 5, 6, 7, 9, 10, 11, 12] (e' := [(1, .pointer (some ⟨g1, 0, none⟩)), (2, .bool false), (3, .bool true), (5, .string (str k)), (6, .nilIface), (7, .pointer (some ⟨g73, 0, none⟩)), (9, .slice (some ⟨b116, 0, none⟩) (0 + acc.length) cap117), (10, .string (str k)), (11, .nilIface), (12, .int .i64 0)]) (by kernel_rfl) ?_
   refine WQ.thenN ?_
   refine WE.block ?_
   refine WE.loop (α := Nat) (E := fun i => [(1, .pointer (some ⟨g1, 0, none⟩)), (2, .bool false), (3, .bool true), (5, .string (str k)), (6, .nilIface), (7, .pointer (some ⟨g73, 0, none⟩)), (9, .slice (some ⟨b116, 0, none⟩) (0 + acc.length) cap117), (10, .string (str k)), (11, .nilIface), (12, .int .i64 (i : Int))]) (I := fun i wr => i ≤ acc.length ∧ Blk wr g1 #[.string (str ev.name), .slice A n cp, .int .i64 ev.kind, .int .i64 ev.value, .int .i64 ev.time] 25 ∧ Blk wr g73 #[.string (str ev.name), .slice At acc.length ct, .int .i64 ev.kind, .int .i64 ev.value, .int .i64 ev.time] 25 ∧ RowB wr b116 53 2 cap117 ((([] : List (L × L)) ++ acc).map cT) ∧ VX cT 2 wr F A ev.tags ∧ OwnX 53 2 wr FT (.slice At acc.length ct) (List.map cT acc) ∧ VarI wr "strconv.ErrSyntax" ∧ VarI wr "strconv.ErrRange" ∧ Lib.TabIs Tryd.prog wr "internal/strconv.uint64pow10" .u64 Lib.pow10Tab ∧ MaxI wr ∧ Fr [] w wr) (m := fun i => acc.length - i) 0 [1, 2, 3, 5, 6, 7, 9, 10, 11, 12] (by kernel_rfl) ?_ ?_
   ·
    exact ⟨by omega, HB4, HB83, HR119, HT, HO_FT, HS, HR, HTab, HM, HA⟩
   rintro i wr ⟨hi, HB4, HB83, HR119, HT, HO_FT, HS, HR, HTab, HM, HA⟩
   refine WE.seq ?_
   refine WE.seq ?_
   refine WE.region ?_
   refine WO.run 3 0 [(59, .int .i64 (0 + acc.length : Int)), (58, .slice (some ⟨b116, 0, none⟩) (0 + acc.length) cap117), (57, .int .i64 (i : Int))] (by kernel_rfl) (by kernel_rfl) ?_
   refine WO.one (SQ.F 3 (by kernel_rfl)) 60 (.bool (decide (((i : Int) : Int) < (0 + acc.length : Int)))) (by kernel_rfl) ?_
   refine WO.topP (((i : Int) : Int) < (0 + acc.length : Int)) ?_ ?_
   ·
    intro h125
    refine WO.done (by kernel_rfl) ?_
    refine WQ.keep [1, 2, 3, 5, 6, 7, 9, 10, 11, 12, 60] (e' := [(1, .pointer (some ⟨g1, 0, none⟩)), (2, .bool false), (3, .bool true), (5, .string (str k)), (6, .nilIface), (7, .pointer (some ⟨g73, 0, none⟩)), (9, .slice (some ⟨b116, 0, none⟩) (0 + acc.length) cap117), (10, .string (str k)), (11, .nilIface), (12, .int .i64 (i : Int)), (60, .bool true)]) (by kernel_rfl) ?_
    refine WQ.thenN ?_
    refine WE.condT (by kernel_rfl) ?_
    refine WE.skip ?_
    refine WQ.thenN ?_
    refine WE.seq ?_
    refine WE.block ?_
    refine WE.seq ?_
    have HVq := VX.of_own HO_FT
    refine WE.draw [.free, .free, .free, .still, .free, .still, .free, .free, .still, .free] Same sameR (by kernel_rfl) 10 (Array.replicate 10 false) (by kernel_rfl) rfl ?_
    intro w126 F127 _
    have HB4 := Blk.keep HB4 F127 (nin0 _)
    have HB83 := Blk.keep HB83 F127 (nin0 _)
    have HR119 := RowB.keep HR119 F127 (nin0 _)
    have HT := HT.keep F127 (fun _ _ => nin0 _)
    have HO_FT := HO_FT.keep F127 (fun _ _ => nin0 _)
    have HVq := HVq.keep F127 (fun _ _ => nin0 _)
    have HS := var_keep 3 (by kernel_rfl) HS F127 (nin0 _)
    have HR := var_keep 4 (by kernel_rfl) HR F127 (nin0 _)
    have HTab := tab_keep HTab F127 (nin0 _)
    have HM := max_keep HM F127 (nin0 _)
    have HA := Fr.step0 HA F127
    refine WO.one (SA.F sameR sameT _ 0 _ (by kernel_rfl)) 63 (.slice (some ⟨b116, 0, none⟩) (0 + acc.length) cap117) (by kernel_rfl) ?_
    refine WO.one (SA.F sameR sameT _ 1 _ (by kernel_rfl)) 64 (.int .i64 (i : Int)) (by kernel_rfl) ?_
    refine WO.ixB (SA.F sameR sameT _ 2 _ (by kernel_rfl)) 65 (i * 2) b116 0 (0 + acc.length) 2 (i : Int) (by kernel_rfl) (by omega) (by omega) (by omega) ?_
    refine WO.ldR (SA.S sameR sameT _ 3 _ (by kernel_rfl)) 66 [.string (str (gT (([] : List (L × L)) ++ acc) i).1), .string (str (gT (([] : List (L × L)) ++ acc) i).2)] b116 i 2 (i * 2) (same HR119) (by rw [List.length_map]; have := (show (([] : List (L × L)) ++ acc).length = 0 + acc.length by rw [List.length_append, (rfl : List.length ([] : List (L × L)) = 0)]; first | rfl | (have := (rfl : List.length ([] : List (L × L)) = 0); simp; omega)); omega) (map_gT (([] : List (L × L)) ++ acc) i (by have := (show (([] : List (L × L)) ++ acc).length = 0 + acc.length by rw [List.length_append, (rfl : List.length ([] : List (L × L)) = 0)]; first | rfl | (have := (rfl : List.length ([] : List (L × L)) = 0); simp; omega)); omega)) rfl (by omega) (by kernel_rfl) (by kernel_rfl) ?_
    refine WO.one (SA.F sameR sameT _ 4 _ (by kernel_rfl)) 67 (.pointer (some ⟨g73, 1, none⟩)) (by kernel_rfl) ?_
    refine WO.ld (SA.S sameR sameT _ 5 _ (by kernel_rfl)) 68 (.slice At acc.length ct) (by kernel_rfl) (same (HB83.at 1 (by kernel_rfl))) ?_
    refine WO.one (SA.F sameR sameT _ 6 _ (by kernel_rfl)) 69 (.int .i64 (i : Int)) (by kernel_rfl) ?_
    obtain ⟨ad128, hA129⟩ := HVq.addr (i := i) (by have := (rfl : acc.length = _); omega)
    refine WO.ixo (SA.F sameR sameT _ 7 _ (by kernel_rfl)) 70 acc.length 2 i (i : Int) hA129 (by kernel_rfl) rfl (by omega) ?_
    refine WO.ldA (ad := (ad128.add (i * 2))) (SA.S sameR sameT _ 8 _ (by kernel_rfl)) 71 [.string (str (gT acc i).1), .string (str (gT acc i).2)] (by kernel_rfl) (by kernel_rfl) (fun _ hw_ _ hj_ => by subst hw_; exact HVq.part0 hA129 (gT_some acc i (by have := (rfl : acc.length = _); omega)) [.string (str (gT acc i).1), .string (str (gT acc i).2)] (by kernel_rfl) _ hj_) ?_
    refine WO.eqS (SA.F sameR sameT _ 9 _ (by kernel_rfl)) 72 true 53 #[.string (str (gT (([] : List (L × L)) ++ acc) i).1), .string (str (gT (([] : List (L × L)) ++ acc) i).2)] #[.string (str (gT acc i).1), .string (str (gT acc i).2)] (b := (str (gT (([] : List (L × L)) ++ acc) i).1).toList == (str (gT acc i).1).toList && ((str (gT (([] : List (L × L)) ++ acc) i).2).toList == (str (gT acc i).2).toList)) (by kernel_rfl) (by kernel_rfl) (fun w_ => eqA53 9998 w_ _ _ _ _) ?_
    refine WO.top (v' := .bool (!((str (gT (([] : List (L × L)) ++ acc) i).1).toList == (str (gT acc i).1).toList && ((str (gT (([] : List (L × L)) ++ acc) i).2).toList == (str (gT acc i).2).toList)))) rfl ?_
    refine WO.top (v' := .bool false) (congrArg Value.bool (by first | rfl | simp | omega)) ?_
    refine WO.doneA (by kernel_rfl) ?_
    refine WQ.keep [1, 2, 3, 5, 6, 7, 9, 10, 11, 12, 72] (e' := [(1, .pointer (some ⟨g1, 0, none⟩)), (2, .bool false), (3, .bool true), (5, .string (str k)), (6, .nilIface), (7, .pointer (some ⟨g73, 0, none⟩)), (9, .slice (some ⟨b116, 0, none⟩) (0 + acc.length) cap117), (10, .string (str k)), (11, .nilIface), (12, .int .i64 (i : Int)), (72, .bool false)]) (by kernel_rfl) ?_
    refine WQ.thenN ?_
    refine WE.condF (by kernel_rfl) ?_
    refine WE.skip ?_
    refine WQ.blkN ?_
    refine WQ.thenN ?_
    refine WE.region ?_
    refine WO.run 1 0 [(61, .int .i64 (i : Int))] (by kernel_rfl) (by kernel_rfl) ?_
    refine WO.one (SQ.F 1 (by kernel_rfl)) 62 (.int .i64 (IntKind.i64.wrap ((i : Int) + 1))) (by kernel_rfl) ?_
    refine WO.top (v' := .int .i64 ((i + 1 : Nat) : Int)) (wrap_i64 (by omega) (by omega)) ?_
    refine WO.run 1 2 [(12, .int .i64 ((i + 1 : Nat) : Int))] (by kernel_rfl) (by kernel_rfl) ?_
    refine WO.done (by kernel_rfl) ?_
    refine WQ.keep [1, 2, 3, 5, 6, 7, 9, 10, 11, 12] (e' := [(1, .pointer (some ⟨g1, 0, none⟩)), (2, .bool false), (3, .bool true), (5, .string (str k)), (6, .nilIface), (7, .pointer (some ⟨g73, 0, none⟩)), (9, .slice (some ⟨b116, 0, none⟩) (0 + acc.length) cap117), (10, .string (str k)), (11, .nilIface), (12, .int .i64 ((i + 1 : Nat) : Int))]) (by kernel_rfl) ?_
    refine WQ.round ?_
    intro a_ ha_
    refine ⟨i + 1, ?_, ha_.keep [1, 2, 3, 5, 6, 7, 9, 10, 11, 12] (by kernel_rfl), ?_⟩
    ·
     show acc.length - (i + 1) < acc.length - i; omega
    ·
     exact ⟨by omega, HB4, HB83, HR119, HT, HO_FT, HS, HR, HTab, HM, HA⟩
   intro h125
   refine WO.done (by kernel_rfl) ?_
   refine WQ.keep [1, 2, 3, 5, 6, 7, 9, 10, 11, 12, 60] (e' := [(1, .pointer (some ⟨g1, 0, none⟩)), (2, .bool false), (3, .bool true), (5, .string (str k)), (6, .nilIface), (7, .pointer (some ⟨g73, 0, none⟩)), (9, .slice (some ⟨b116, 0, none⟩) (0 + acc.length) cap117), (10, .string (str k)), (11, .nilIface), (12, .int .i64 (i : Int)), (60, .bool false)]) (by kernel_rfl) ?_
   refine WQ.thenN ?_
   refine WE.condF (by kernel_rfl) ?_
   refine WE.exit ?_
   refine WQ.thenE ?_
   refine WQ.thenE ?_
   refine WQ.blkE ?_
   refine WQ.thenN ?_
   refine WE.seq ?_
   refine WE.seq ?_
   refine WE.draw [.free, .free, .free, .free, .free, .free, .free, .free, .free, .free] Same sameR (by kernel_rfl) 10 (Array.replicate 10 false) (by kernel_rfl) rfl ?_
   intro w130 F131 _
   have HB4 := Blk.keep HB4 F131 (nin0 _)
   have HB83 := Blk.keep HB83 F131 (nin0 _)
   have HR119 := RowB.keep HR119 F131 (nin0 _)
   have HT := HT.keep F131 (fun _ _ => nin0 _)
   have HO_FT := HO_FT.keep F131 (fun _ _ => nin0 _)
   have HS := var_keep 3 (by kernel_rfl) HS F131 (nin0 _)
   have HR := var_keep 4 (by kernel_rfl) HR F131 (nin0 _)
   have HTab := tab_keep HTab F131 (nin0 _)
   have HM := max_keep HM F131 (nin0 _)
   have HA := Fr.step0 HA F131
   refine WO.one (SA.F sameR sameT _ 0 _ (by kernel_rfl)) 73 (.string (str k)) (by kernel_rfl) ?_
   refine WO.one (SA.F sameR sameT _ 1 _ (by kernel_rfl)) 74 (.string (str k)) (by kernel_rfl) ?_
   refine WO.one (SA.F sameR sameT _ 2 _ (by kernel_rfl)) 75 (.bool (!((str k).toList == (str k).toList))) (by kernel_rfl) ?_
   refine WO.top (v' := .bool (!decide ((str k) = (str k)))) (congrArg Value.bool (congrArg not (streq (str k) (str k)))) ?_
   refine WO.topNT ((str k) = (str k)) (by first | rfl | simp | omega) ?_
   refine WO.one (SA.F sameR sameT _ 3 _ (by kernel_rfl)) 76 (.bool false) (by kernel_rfl) ?_
   refine WO.one (SA.F sameR sameT _ 4 _ (by kernel_rfl)) 77 (.nilIface) (by kernel_rfl) ?_
   refine WO.one (SA.F sameR sameT _ 5 _ (by kernel_rfl)) 78 (.bool true) (by kernel_rfl) ?_
   refine WO.one (SA.F sameR sameT _ 6 _ (by kernel_rfl)) 79 (.nilIface) (by kernel_rfl) ?_
   refine WO.one (SA.F sameR sameT _ 7 _ (by kernel_rfl)) 80 (.bool true) (by kernel_rfl) ?_
   refine WO.one (SA.F sameR sameT _ 8 _ (by kernel_rfl)) 81 (.bool false) (by kernel_rfl) ?_
   refine WO.one (SA.F sameR sameT _ 9 _ (by kernel_rfl)) 82 (.bool false) (by kernel_rfl) ?_
   refine WO.doneA (by kernel_rfl) ?_
   refine WQ.keep [1, 2, 3, 5, 6, 82] (e' := [(1, .pointer (some ⟨g1, 0, none⟩)), (2, .bool false), (3, .bool true), (5, .string (str k)), (6, .nilIface), (82, .bool false)]) (by kernel_rfl) ?_
   refine WQ.thenN ?_
   refine WE.condF (by kernel_rfl) ?_
   refine WE.skip ?_
   refine WQ.thenN ?_
   refine WE.seq ?_
   refine WE.seq ?_
   refine WE.region ?_
   refine WO.run 2 0 [(84, .bool false), (83, .nilIface)] (by kernel_rfl) (by kernel_rfl) ?_
   refine WO.done (by kernel_rfl) ?_
   refine WQ.keep [1, 2, 3, 5, 84] (e' := [(1, .pointer (some ⟨g1, 0, none⟩)), (2, .bool false), (3, .bool true), (5, .string (str k)), (84, .bool false)]) (by kernel_rfl) ?_
   refine WQ.thenN ?_
   refine WE.condF (by kernel_rfl) ?_
   refine WE.skip ?_
   refine WQ.thenN ?_
   refine WE.seq ?_
   refine WE.region ?_
   refine WO.run 1 0 [(87, .string (str k))] (by kernel_rfl) (by kernel_rfl) ?_
   refine WO.call (SQ.E 1 (by kernel_rfl)) 88 (by kernel_rfl) (of_f k _ (by omega) HS HR HTab HM) ?_
   intro e_ w132 hr_
   rw [hofk] at hr_
   obtain ⟨A3_, n3_, c3_, F3_, rfl, HT3_, hn3_, hc3_, hg3_, F133⟩ := hr_
   refine ⟨_, rfl, trivial, ?_⟩
   have hn3_ : cn.tags.length = n3_ := hn3_
   have HT3_ : VX cT 2 w132 F3_ A3_ cn.tags := HT3_
   have hg3r_ := fun y hy => Or.inr (a := y ∈ ([] : List Nat)) (hg3_ y hy)
   have nin_g1_F3_ : g1 ∉ F3_ := grow_nin hg3r_ (nin0 _) HB4.lt
   have nin_g73_F3_ : g73 ∉ F3_ := grow_nin hg3r_ (nin0 _) HB83.lt
   have nin_b116_F3_ : b116 ∉ F3_ := grow_nin hg3r_ (nin0 _) HR119.lt
   have nin_3_F3_ : 3 ∉ F3_ := grow_nin hg3r_ (nin0 _) ((var_lt 3 (by kernel_rfl) HS))
   have nin_4_F3_ : 4 ∉ F3_ := grow_nin hg3r_ (nin0 _) ((var_lt 4 (by kernel_rfl) HR))
   have nin_2_F3_ : 2 ∉ F3_ := grow_nin hg3r_ (nin0 _) ((tab_lt HTab))
   have nin_1_F3_ : 1 ∉ F3_ := grow_nin hg3r_ (nin0 _) ((max_lt HM))
   have dj_F3__F : ∀ y ∈ F3_, y ∉ F := grow_dj hg3r_ (by simp) HT.lt
   have dj_F3__FT : ∀ y ∈ F3_, y ∉ FT := grow_dj hg3r_ (by simp) HO_FT.lt
   have ge_HA_F3_ : ∀ y ∈ F3_, (World.heap w).size ≤ y := grow_ge hg3r_ (by simp) HA.size
   have HB4 := Blk.keep HB4 F133 (nin0 _)
   have HB83 := Blk.keep HB83 F133 (nin0 _)
   have HR119 := RowB.keep HR119 F133 (nin0 _)
   have HT := HT.keep F133 (fun _ _ => nin0 _)
   have HO_FT := HO_FT.keep F133 (fun _ _ => nin0 _)
   have HS := var_keep 3 (by kernel_rfl) HS F133 (nin0 _)
   have HR := var_keep 4 (by kernel_rfl) HR F133 (nin0 _)
   have HTab := tab_keep HTab F133 (nin0 _)
   have HM := max_keep HM F133 (nin0 _)
   have HA := Fr.step0 HA F133
   refine WO.run 3 2 [(90, .nilIface), (89, .agg #[.string (str cn.name), .slice A3_ n3_ c3_, .int .i64 0, .int .i64 0, .int .i64 0]), (86, .tuple #[.agg #[.string (str cn.name), .slice A3_ n3_ c3_, .int .i64 0, .int .i64 0, .int .i64 0], .nilIface])] (by kernel_rfl) (by kernel_rfl) ?_
   refine WO.bx (SQ.E 5 (by kernel_rfl)) 13 #[.string (⟨#[]⟩), .slice none 0 0, .int .i64 0, .int .i64 0, .int .i64 0] 25 (fun g => .pointer (some ⟨g, 0, none⟩)) (by kernel_rfl) (fun _ _ => trivial) ?_
   intro g134 w135 HB137 F136 le138 _
   have ne_g1_g134 : g1 ≠ g134 := Nat.ne_of_lt (Nat.lt_of_lt_of_le HB4.lt le138)
   have ne_g73_g134 : g73 ≠ g134 := Nat.ne_of_lt (Nat.lt_of_lt_of_le HB83.lt le138)
   have ne_b116_g134 : b116 ≠ g134 := Nat.ne_of_lt (Nat.lt_of_lt_of_le HR119.lt le138)
   have nin_g134_F : g134 ∉ F := new_nin HT.lt le138
   have nin_g134_FT : g134 ∉ FT := new_nin HO_FT.lt le138
   have nin_g134_F3_ : g134 ∉ F3_ := new_nin HT3_.lt le138
   have ne_3_g134 : 3 ≠ g134 := Nat.ne_of_lt (Nat.lt_of_lt_of_le (var_lt 3 (by kernel_rfl) HS) le138)
   have ne_4_g134 : 4 ≠ g134 := Nat.ne_of_lt (Nat.lt_of_lt_of_le (var_lt 4 (by kernel_rfl) HR) le138)
   have ne_2_g134 : 2 ≠ g134 := Nat.ne_of_lt (Nat.lt_of_lt_of_le (tab_lt HTab) le138)
   have ne_1_g134 : 1 ≠ g134 := Nat.ne_of_lt (Nat.lt_of_lt_of_le (max_lt HM) le138)
   have ge_HA_g134 := Nat.le_trans HA.size le138
   have HB4 := Blk.keep HB4 F136 (nin0 _)
   have HB83 := Blk.keep HB83 F136 (nin0 _)
   have HR119 := RowB.keep HR119 F136 (nin0 _)
   have HT := HT.keep F136 (fun _ _ => nin0 _)
   have HO_FT := HO_FT.keep F136 (fun _ _ => nin0 _)
   have HT3_ := HT3_.keep F136 (fun _ _ => nin0 _)
   have HS := var_keep 3 (by kernel_rfl) HS F136 (nin0 _)
   have HR := var_keep 4 (by kernel_rfl) HR F136 (nin0 _)
   have HTab := tab_keep HTab F136 (nin0 _)
   have HM := max_keep HM F136 (nin0 _)
   have HA := Fr.step0 HA F136
   refine WO.st (SQ.E 6 (by kernel_rfl)) g134 0 [.string (str cn.name), .slice A3_ n3_ c3_, .int .i64 0, .int .i64 0, .int .i64 0] #[.string (str cn.name), .slice A3_ n3_ c3_, .int .i64 0, .int .i64 0, .int .i64 0] (by kernel_rfl) HB137 (by kernel_rfl) (by kernel_rfl) (fun _ _ => trivial) ?_
   intro w139 HB141 F140 _
   have HB4 := Blk.keep HB4 F140 (ninC ne_g1_g134 (nin0 _))
   have HB83 := Blk.keep HB83 F140 (ninC ne_g73_g134 (nin0 _))
   have HR119 := RowB.keep HR119 F140 (ninC ne_b116_g134 (nin0 _))
   have HT := HT.keep F140 (djB nin_g134_F)
   have HO_FT := HO_FT.keep F140 (djB nin_g134_FT)
   have HT3_ := HT3_.keep F140 (djB nin_g134_F3_)
   have HS := var_keep 3 (by kernel_rfl) HS F140 (ninC ne_3_g134 (nin0 _))
   have HR := var_keep 4 (by kernel_rfl) HR F140 (ninC ne_4_g134 (nin0 _))
   have HTab := tab_keep HTab F140 (ninC ne_2_g134 (nin0 _))
   have HM := max_keep HM F140 (ninC ne_1_g134 (nin0 _))
   have HA := Fr.step HA F140 (inSR ge_HA_g134 inS0)
   refine WO.run 1 7 [(14, .nilIface)] (by kernel_rfl) (by kernel_rfl) ?_
   refine WO.done (by kernel_rfl) ?_
   refine WQ.keep [1, 2, 3, 5, 13, 14] (e' := [(1, .pointer (some ⟨g1, 0, none⟩)), (2, .bool false), (3, .bool true), (5, .string (str k)), (13, .pointer (some ⟨g134, 0, none⟩)), (14, .nilIface)]) (by kernel_rfl) ?_
   refine WQ.thenN ?_
   refine WE.seq ?_
   refine WE.region ?_
   refine WO.run 1 0 [(91, .pointer (some ⟨g134, 2, none⟩))] (by kernel_rfl) (by kernel_rfl) ?_
   refine WO.st (SQ.E 1 (by kernel_rfl)) g134 2 [.int .i64 1] #[.string (str cn.name), .slice A3_ n3_ c3_, .int .i64 1, .int .i64 0, .int .i64 0] (by kernel_rfl) HB141 (by kernel_rfl) (by kernel_rfl) (fun _ _ => trivial) ?_
   intro w142 HB144 F143 _
   have HB4 := Blk.keep HB4 F143 (ninC ne_g1_g134 (nin0 _))
   have HB83 := Blk.keep HB83 F143 (ninC ne_g73_g134 (nin0 _))
   have HR119 := RowB.keep HR119 F143 (ninC ne_b116_g134 (nin0 _))
   have HT := HT.keep F143 (djB nin_g134_F)
   have HO_FT := HO_FT.keep F143 (djB nin_g134_FT)
   have HT3_ := HT3_.keep F143 (djB nin_g134_F3_)
   have HS := var_keep 3 (by kernel_rfl) HS F143 (ninC ne_3_g134 (nin0 _))
   have HR := var_keep 4 (by kernel_rfl) HR F143 (ninC ne_4_g134 (nin0 _))
   have HTab := tab_keep HTab F143 (ninC ne_2_g134 (nin0 _))
   have HM := max_keep HM F143 (ninC ne_1_g134 (nin0 _))
   have HA := Fr.step HA F143 (inSR ge_HA_g134 inS0)
   refine WO.done (by kernel_rfl) ?_
   refine WQ.keep [1, 2, 3, 5, 13, 14] (e' := [(1, .pointer (some ⟨g1, 0, none⟩)), (2, .bool false), (3, .bool true), (5, .string (str k)), (13, .pointer (some ⟨g134, 0, none⟩)), (14, .nilIface)]) (by kernel_rfl) ?_
   refine WQ.thenN ?_
   refine WE.seq ?_
   refine WE.region ?_
   refine WO.ldB (SQ.S 0 (by kernel_rfl)) 93 [.string (str cn.name), .slice A3_ n3_ c3_, .int .i64 1, .int .i64 0, .int .i64 0] g134 0 (by kernel_rfl) (by kernel_rfl) (same HB144) (by kernel_rfl) ?_
   obtain ⟨hz1, hz2, hz3, hz4, hz5, hz6⟩ := may_parts hmc
   have hwl_ := word_len hz2
   refine WO.call (SQ.E 1 (by kernel_rfl)) 94 (by kernel_rfl) (key_f (ev0 cn) A3_ n3_ c3_ F3_ _ HT3_ hn3_ (by omega) (show cn.name.length ≤ _ by omega) (fun t h_ => by have a_ := word_len (hz1 t h_).1; have b_ := word_len (hz1 t h_).2; omega) (show -9223372036854775808 ≤ (0 : Int) ∧ (0 : Int) ≤ 9223372036854775807 by decide) nin_2_F3_ nin_3_F3_ nin_4_F3_ nin_1_F3_ HS HR HTab HM) ?_
   intro e_ w145 hr_
   rw [hkev0.1] at hr_
   obtain ⟨rfl, F146⟩ := hr_
   refine ⟨_, rfl, trivial, ?_⟩
   have HB4 := Blk.keep HB4 F146 (nin0 _)
   have HB83 := Blk.keep HB83 F146 (nin0 _)
   have HB144 := Blk.keep HB144 F146 (nin0 _)
   have HR119 := RowB.keep HR119 F146 (nin0 _)
   have HT := HT.keep F146 (fun _ _ => nin0 _)
   have HO_FT := HO_FT.keep F146 (fun _ _ => nin0 _)
   have HT3_ := HT3_.keep F146 (fun _ _ => nin0 _)
   have HS := var_keep 3 (by kernel_rfl) HS F146 (nin0 _)
   have HR := var_keep 4 (by kernel_rfl) HR F146 (nin0 _)
   have HTab := tab_keep HTab F146 (nin0 _)
   have HM := max_keep HM F146 (nin0 _)
   have HA := Fr.step0 HA F146
   refine WO.run 5 2 [(16, .nilIface), (15, .string (str k)), (96, .nilIface), (95, .string (str k)), (92, .tuple #[.string (str k), .nilIface])] (by kernel_rfl) (by kernel_rfl) ?_
   refine WO.done (by kernel_rfl) ?_
   refine WQ.keep [1, 2, 3, 5, 13, 14, 15, 16] (e' := [(1, .pointer (some ⟨g1, 0, none⟩)), (2, .bool false), (3, .bool true), (5, .string (str k)), (13, .pointer (some ⟨g134, 0, none⟩)), (14, .nilIface), (15, .string (str k)), (16, .nilIface)]) (by kernel_rfl) ?_
   refine WQ.thenN ?_
   refine WE.seq ?_
   refine WE.region ?_
   refine WO.run 12 0 [(108, .string (str k)), (107, .string (str k)), (106, .bool true), (105, .bool true), (104, .bool true), (103, .nilIface), (102, .bool true), (101, .bool true), (100, .bool true), (99, .nilIface), (98, .bool true), (97, .bool true)] (by kernel_rfl) (by kernel_rfl) ?_
   refine WO.one (SQ.F 12 (by kernel_rfl)) 109 (.bool ((str k).toList == (str k).toList)) (by kernel_rfl) ?_
   refine WO.top (v' := .bool (decide ((str k) = (str k)))) (congrArg Value.bool (streq (str k) (str k))) ?_
   refine WO.topPT ((str k) = (str k)) (by first | rfl | (rw [hn3_.symm.trans (show cn.tags.length = n by rw [hce]; exact (sortK_perm _).length_eq.trans hn)]) | (rw [hce]) | omega) ?_
   refine WO.run 3 13 [(112, .pointer (some ⟨g134, 0, none⟩)), (111, .bool true), (110, .bool true)] (by kernel_rfl) (by kernel_rfl) ?_
   refine WO.ld (SQ.S 16 (by kernel_rfl)) 113 (.string (str cn.name)) (by kernel_rfl) (same (HB144.at 0 (by kernel_rfl))) ?_
   refine WO.run 1 17 [(114, .pointer (some ⟨g1, 0, none⟩))] (by kernel_rfl) (by kernel_rfl) ?_
   refine WO.ld (SQ.S 18 (by kernel_rfl)) 115 (.string (str ev.name)) (by kernel_rfl) (same (HB4.at 0 (by kernel_rfl))) ?_
   refine WO.one (SQ.F 19 (by kernel_rfl)) 116 (.bool ((str cn.name).toList == (str ev.name).toList)) (by kernel_rfl) ?_
   refine WO.top (v' := .bool (decide ((str cn.name) = (str ev.name)))) (congrArg Value.bool (streq (str cn.name) (str ev.name))) ?_
   refine WO.topPT ((str cn.name) = (str ev.name)) (by first | rfl | (rw [hn3_.symm.trans (show cn.tags.length = n by rw [hce]; exact (sortK_perm _).length_eq.trans hn)]) | (rw [hce]) | omega) ?_
   refine WO.run 3 20 [(119, .pointer (some ⟨g134, 1, none⟩)), (118, .bool true), (117, .bool true)] (by kernel_rfl) (by kernel_rfl) ?_
   refine WO.ld (SQ.S 23 (by kernel_rfl)) 120 (.slice A3_ n3_ c3_) (by kernel_rfl) (same (HB144.at 1 (by kernel_rfl))) ?_
   refine WO.run 2 24 [(122, .pointer (some ⟨g1, 1, none⟩)), (121, .int .i64 (n3_ : Int))] (by kernel_rfl) (by kernel_rfl) ?_
   refine WO.ld (SQ.S 26 (by kernel_rfl)) 123 (.slice A n cp) (by kernel_rfl) (same (HB4.at 1 (by kernel_rfl))) ?_
   refine WO.run 4 27 [(2, .bool (decide (((n3_ : Int) : Int) = (n : Int)))), (126, .bool (decide (((n3_ : Int) : Int) = (n : Int)))), (125, .bool (decide (((n3_ : Int) : Int) = (n : Int)))), (124, .int .i64 (n : Int))] (by kernel_rfl) (by kernel_rfl) ?_
   refine WO.done (by kernel_rfl) ?_
   refine WQ.keep [2] (e' := [(2, .bool (decide (((n3_ : Int) : Int) = (n : Int))))]) (by kernel_rfl) ?_
   refine WQ.thenN ?_
   refine WE.ret ?_
   refine WQ.ret (v := .bool (decide (((n3_ : Int) : Int) = (n : Int)))) (by kernel_rfl) ?_
   exact ⟨by rw [decide_eq_true (by have h_ : cn.tags.length = n := (by rw [hce]; exact (sortK_perm _).length_eq.trans hn); omega)], HA⟩
 ·
  rw [hfew]
  refine WO.run 1 2 [(4, .bool false)] (by kernel_rfl) (by kernel_rfl) ?_
  refine WO.done (by kernel_rfl) ?_
  refine WQ.keep [1, 2, 3, 4] (e' := [(1, .pointer (some ⟨g1, 0, none⟩)), (2, .bool false), (3, .bool true), (4, .bool false)]) (by kernel_rfl) ?_
  refine WQ.thenN ?_
  refine WE.seq ?_
  refine WE.seq ?_
  refine WE.region ?_
  refine WO.run 2 0 [(21, .bool true), (20, .bool false)] (by kernel_rfl) (by kernel_rfl) ?_
  refine WO.done (by kernel_rfl) ?_
  refine WQ.keep [1, 2, 3, 21] (e' := [(1, .pointer (some ⟨g1, 0, none⟩)), (2, .bool false), (3, .bool true), (21, .bool true)]) (by kernel_rfl) ?_
  refine WQ.thenN ?_
  refine WE.condT (by kernel_rfl) ?_
  refine WE.seq ?_
  refine WE.region ?_
  refine WO.run 2 0 [(2, .bool true), (22, .bool true)] (by kernel_rfl) (by kernel_rfl) ?_
  refine WO.done (by kernel_rfl) ?_
  refine WQ.keep [1, 2, 3] (e' := [(1, .pointer (some ⟨g1, 0, none⟩)), (2, .bool true), (3, .bool true)]) (by kernel_rfl) ?_
  refine WQ.thenN ?_
  refine WE.ret ?_
  refine WQ.thenR ?_
  refine WQ.ret (v := .bool true) (by kernel_rfl) ?_
  exact ⟨rfl, HA⟩
end Go.Proofs.YtdhonbahpcmmnaaDoor.Line
