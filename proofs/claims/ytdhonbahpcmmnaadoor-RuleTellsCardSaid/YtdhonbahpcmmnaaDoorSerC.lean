/- Layer 5's walks: Canon, Key, Of. -/
import Derived.Test.YtdhonbahpcmmnaaDoorSerS
set_option linter.unusedVariables false
set_option linter.unusedSimpArgs false
namespace Go.Proofs.YtdhonbahpcmmnaaDoor.Line
open Go Go.RowKit Go.Proofs.YtdhonbahpcmmnaaDoor Go.Proofs.YtdhonbahpcmmnaaDoor.Eng Go.Proofs.YtdhonbahpcmmnaaDoorW.PrintWords
open Go.Proofs
def MaxI (w : World) : Prop := ∃ m, w.cell? ⟨1, 0, none⟩ = some (.int .i64 m)
theorem max_lt {w : World} (h : MaxI w) : 1 < w.heap.size := by
 obtain ⟨m, h⟩ := h
 exact World.block_lt_of_cell? w _ h
theorem max_keep {w w1 : World} {S : List Nat} (h : MaxI w) (k : Fr S w w1) (hn : 1 ∉ S) : MaxI w1 := by
 have hlt := max_lt h
 obtain ⟨m, h⟩ := h
 exact ⟨m, (World.cell?_of_block (w := w) (k.block 1 hlt hn)).trans h⟩
theorem dup_yes : ∀ {q : Tgs} {i : Nat}, 0 < i → i < q.length → (gT q i).1 = (gT q (i - 1)).1 → dupA q = true
 | [], i, _, h, _ => by simp at h
 | [a], i, h0, h, _ => by simp at h; omega
 | a :: b :: q, i, h0, h, he => by
  unfold dupA
  by_cases h1 : i = 1
  ·
   subst h1
   rw [show (decide (a.1 = b.1)) = true from decide_eq_true (Eq.symm he), Bool.true_or]
  ·
   obtain ⟨j, rfl⟩ : ∃ j, i = j + 1 := ⟨i - 1, by omega⟩
   have := dup_yes (q := b :: q) (i := j) (by omega) (by simp at h ⊢; omega) (by
    obtain ⟨k, rfl⟩ : ∃ k, j = k + 1 := ⟨j - 1, by omega⟩
    exact he)
   rw [this, Bool.or_true]
theorem dup_no : ∀ {q : Tgs}, (∀ j, 0 < j → j < q.length → (gT q j).1 ≠ (gT q (j - 1)).1) → dupA q = false
 | [], _ => rfl
 | [a], _ => rfl
 | a :: b :: q, h => by
  unfold dupA
  have h1 := h 1 (by omega) (by simp)
  have ih := dup_no (q := b :: q) (fun j hj hl => by
   have := h (j + 1) (by omega) (by simp at hl ⊢; omega)
   obtain ⟨k, rfl⟩ : ∃ k, j = k + 1 := ⟨j - 1, by omega⟩
   exact this)
  rw [ih, Bool.or_false, decide_eq_false_iff_not]
  exact fun e => h1 e.symm
def ResC (w w' : World) (e : Ending) : Sum Ev Int → Prop
 | .inr c => e = .returned (.tuple #[.agg #[.string (⟨#[]⟩), .slice none 0 0, .int .i64 0, .int .i64 0, .int .i64 0], .iface 35 (.int .i64 c)]) ∧ Fr [] w w'
 | .inl ev => ResL w w' e (.inl ev)
theorem ResC.no {w w' : World} {c : Int} (h : Fr [] w w') : ResC w w' (.returned (.tuple #[.agg #[.string (⟨#[]⟩), .slice none 0 0, .int .i64 0, .int .i64 0, .int .i64 0], .iface 35 (.int .i64 c)])) (.inr c) := ⟨rfl, h⟩
theorem ResC.ok {w w' : World} {ev : Ev} {A : Option Addr} {n cp : Nat} {F : List Nat} (hn : ev.tags.length = n) (hc : n ≤ cp) (hT : VX cT 2 w' F A ev.tags) (hg : ∀ y ∈ F, w.heap.size ≤ y) (h : Fr [] w w') : ResC w w' (.returned (.tuple #[.agg #[.string (str ev.name), .slice A n cp, .int .i64 ev.kind, .int .i64 ev.value, .int .i64 ev.time], .nilIface])) (.inl ev) := ⟨A, n, cp, F, rfl, hT, hn, hc, hg, h⟩
def ResK (w w' : World) (e : Ending) : Sum L Int → Prop
 | .inr c => e = .returned (.tuple #[.string ⟨#[]⟩, .iface 35 (.int .i64 c)]) ∧ Fr [] w w'
 | .inl k => e = .returned (.tuple #[.string (str k), .nilIface]) ∧ Fr [] w w'
theorem cut_f {cn : Ev} (hm : mayE cn = true) (hv : -9223372036854775808 ≤ cn.value ∧ cn.value ≤ 9223372036854775807) (w : World) (HM : MaxI w) :
  Calls Tryd.prog 51 #[.string (str (printT cn)), .string ⟨#[32]⟩] w fun e w' => ∃ R, e = .returned (.tuple #[.string (str (headT cn)), .string R, .bool true]) ∧ Fr [] w w' := by
 obtain ⟨m, hcell⟩ := HM
 have hl := print_len hm hv
 refine (Tryd.strings_Cut (str (printT cn)) ⟨#[32]⟩ m w (by rw [str_size]; omega) hcell).mono ?_
 rintro e w' ⟨rfl, q, rfl⟩
 have hc : Lib.cut (str (printT cn)).data.toList (⟨#[32]⟩ : ByteArray).data.toList = _ := cut_print hm
 rw [hc]
 exact ⟨_, rfl, rfl, rfl, rfl, Nat.le_refl _, fun i hi _ => rfl⟩
set_option maxRecDepth 100000 in
set_option maxHeartbeats 400000 in
theorem clone_t (ad : Addr) (n cp : Nat) (q : List (L × L)) (F : List Nat) (w : World) (HT : VX cT 2 w F (some ad) q) (hn : q.length = n) (hl : n ≤ 1000000) :
  Calls Tryd.prog 68 #[.slice (some ad) n cp] w fun e w' => ∃ b cap, e = .returned (.slice (some ⟨b, 0, none⟩) n cap) ∧ RowB w' b 53 2 cap (q.map cT) ∧ Fr [] w w' ∧ w.heap.size ≤ b := by
 have HA := Fr.refl [] w
 refine enter (N := 8) Tryd.func68 (c := _) rfl (by kernel_rfl) (by kernel_rfl) (e := [(0, .slice (some ad) n cp)]) (by kernel_rfl) ?_
 refine WE.seq ?_
 refine WE.region ?_
 refine WO.run 1 0 [(2, .slice none 0 0)] (by kernel_rfl) (by kernel_rfl) ?_
 refine WO.done (by kernel_rfl) ?_
 refine WQ.keep [0, 2] (e' := [(0, .slice (some ad) n cp), (2, .slice none 0 0)]) (by kernel_rfl) ?_
 refine WQ.thenN ?_
 refine WE.seq ?_
 refine WE.seq ?_
 refine WE.region ?_
 refine WO.run 2 0 [(4, .bool false), (3, .slice (some ad) n cp)] (by kernel_rfl) (by kernel_rfl) ?_
 refine WO.done (by kernel_rfl) ?_
 refine WQ.keep [0, 2, 4] (e' := [(0, .slice (some ad) n cp), (2, .slice none 0 0), (4, .bool false)]) (by kernel_rfl) ?_
 refine WQ.thenN ?_
 refine WE.condF (by kernel_rfl) ?_
 refine WE.skip ?_
 refine WQ.thenN ?_
 refine WE.seq ?_
 refine WE.region ?_
 refine WO.bx (SQ.E 0 (by kernel_rfl)) 5 #[] 53 (fun g => .slice (some ⟨g, 0, none⟩) 0 0) (by kernel_rfl) (fun _ _ => trivial) ?_
 intro g1 w2 HB4 F3 le5 _
 have nin_g1_F : g1 ∉ F := new_nin HT.lt le5
 have ge_HA_g1 := Nat.le_trans HA.size le5
 have HT := HT.keep F3 (fun _ _ => nin0 _)
 have HA := Fr.step0 HA F3
 refine WO.run 1 1 [(6, .slice (some ad) n cp)] (by kernel_rfl) (by kernel_rfl) ?_
 have HR11 := RowB.of_blk (n := 0) HB4 (List.map cT []) rfl rfl (cT_len _) (cT_one _) (by omega)
 refine WO.appRow (SQ.E 2 (by kernel_rfl)) 7 (n := 0) (m := n) (ys := List.map cT q) et_t HR11 ((List.length_map _).trans ((rfl : List.length ([] : List (L × L)) = 0))) (by rw [List.length_map] <;> first | rfl | omega | (simp <;> omega)) (HT.srcN hn (cT_len _) (cT_one _) cp) (cT_len _) (cT_one _) (by kernel_rfl) (by omega) (by omega) (fun _ _ => trivial) ?_
 intro b6 cap7 w8 HR9 F10 hb12
 have nin_b6_F : b6 ∉ F := hb12.elim (fun h => h ▸ nin_g1_F) (fun h => new_nin HT.lt h)
 have in_HA_b6 : b6 ∈ [] ∨ (World.heap w).size ≤ b6 := hb12.elim (fun h => Or.inr (h ▸ ge_HA_g1)) (fun h => Or.inr (Nat.le_trans HA.size h))
 have HT := HT.keep F10 (djB nin_g1_F)
 have HA := Fr.step HA F10 (inSR ge_HA_g1 inS0)
 have HR9 : RowB w8 b6 53 2 cap7 ((([] : List (L × L)) ++ q).map cT) := by rw [List.map_append]; exact HR9
 refine WO.run 1 3 [(2, .slice (some ⟨b6, 0, none⟩) (0 + n) cap7)] (by kernel_rfl) (by kernel_rfl) ?_
 refine WO.done (by kernel_rfl) ?_
 refine WQ.keep [2] (e' := [(2, .slice (some ⟨b6, 0, none⟩) (0 + n) cap7)]) (by kernel_rfl) ?_
 refine WQ.thenN ?_
 refine WE.ret ?_
 refine WQ.ret (v := .slice (some ⟨b6, 0, none⟩) (0 + n) cap7) (by kernel_rfl) ?_
 have h_ := HR9
 rw [List.nil_append] at h_
 exact ⟨b6, cap7, by rw [Nat.zero_add], h_, HA, in_HA_b6.resolve_left (by simp)⟩
set_option maxRecDepth 100000 in
set_option maxHeartbeats 400000 in
theorem clone_nil (cp : Nat) (w : World) :
  Calls Tryd.prog 68 #[.slice none 0 cp] w fun e w' => e = .returned (.slice none 0 0) ∧ Fr [] w w' := by
 have HA := Fr.refl [] w
 refine enter (N := 8) Tryd.func68 (c := _) rfl (by kernel_rfl) (by kernel_rfl) (e := [(0, .slice none 0 cp)]) (by kernel_rfl) ?_
 refine WE.seq ?_
 refine WE.region ?_
 refine WO.run 1 0 [(2, .slice none 0 0)] (by kernel_rfl) (by kernel_rfl) ?_
 refine WO.done (by kernel_rfl) ?_
 refine WQ.keep [0, 2] (e' := [(0, .slice none 0 cp), (2, .slice none 0 0)]) (by kernel_rfl) ?_
 refine WQ.thenN ?_
 refine WE.seq ?_
 refine WE.seq ?_
 refine WE.region ?_
 refine WO.run 2 0 [(4, .bool true), (3, .slice none 0 cp)] (by kernel_rfl) (by kernel_rfl) ?_
 refine WO.done (by kernel_rfl) ?_
 refine WQ.keep [0, 2, 4] (e' := [(0, .slice none 0 cp), (2, .slice none 0 0), (4, .bool true)]) (by kernel_rfl) ?_
 refine WQ.thenN ?_
 refine WE.condT (by kernel_rfl) ?_
 refine WE.seq ?_
 refine WE.region ?_
 refine WO.run 1 0 [(2, .slice none 0 0)] (by kernel_rfl) (by kernel_rfl) ?_
 refine WO.done (by kernel_rfl) ?_
 refine WQ.keep [0, 2] (e' := [(0, .slice none 0 cp), (2, .slice none 0 0)]) (by kernel_rfl) ?_
 refine WQ.thenN ?_
 refine WE.ret ?_
 refine WQ.thenR ?_
 refine WQ.ret (v := .slice none 0 0) (by kernel_rfl) ?_
 exact ⟨rfl, HA⟩
set_option maxRecDepth 100000 in
set_option maxHeartbeats 400000 in
theorem canon_bad (ev : Ev) (A : Option Addr) (n cp : Nat) (F : List Nat) (w : World) (HT : VX cT 2 w F A ev.tags) (hn : ev.tags.length = n) (hnn : n ≤ 9223372036854775807) (hln : ev.name.length ≤ 9223372036854775807) (hlt : ∀ t ∈ ev.tags, t.1.length ≤ 9223372036854775807 ∧ t.2.length ≤ 9223372036854775807) (hmay : mayE ev = false) :
  Calls Tryd.prog 50 #[.agg #[.string (str ev.name), .slice A n cp, .int .i64 ev.kind, .int .i64 ev.value, .int .i64 ev.time]] w fun e w' => e = .returned (.tuple #[.agg #[.string (⟨#[]⟩), .slice none 0 0, .int .i64 0, .int .i64 0, .int .i64 0], .iface 35 (.int .i64 1)]) ∧ Fr [] w w' := by
 have HA := Fr.refl [] w
 refine enter (N := 45) Tryd.func50 (c := _) rfl (by kernel_rfl) (by kernel_rfl) (e := [(0, .agg #[.string (str ev.name), .slice A n cp, .int .i64 ev.kind, .int .i64 ev.value, .int .i64 ev.time])]) (by kernel_rfl) ?_
 refine WE.seq ?_
 refine WE.region ?_
 refine WO.bx (SQ.E 0 (by kernel_rfl)) 1 #[.string (str ev.name), .slice A n cp, .int .i64 ev.kind, .int .i64 ev.value, .int .i64 ev.time] 25 (fun g => .pointer (some ⟨g, 0, none⟩)) (by kernel_rfl) (fun _ _ => trivial) ?_
 intro g1 w2 HB4 F3 le5 _
 have nin_g1_F : g1 ∉ F := new_nin HT.lt le5
 have ge_HA_g1 := Nat.le_trans HA.size le5
 have HT := HT.keep F3 (fun _ _ => nin0 _)
 have HA := Fr.step0 HA F3
 refine WO.bx (SQ.E 1 (by kernel_rfl)) 2 #[.string (⟨#[]⟩), .slice none 0 0, .int .i64 0, .int .i64 0, .int .i64 0] 25 (fun g => .pointer (some ⟨g, 0, none⟩)) (by kernel_rfl) (fun _ _ => trivial) ?_
 intro g6 w7 HB9 F8 le10 _
 have ne_g1_g6 : g1 ≠ g6 := Nat.ne_of_lt (Nat.lt_of_lt_of_le HB4.lt le10)
 have nin_g6_F : g6 ∉ F := new_nin HT.lt le10
 have ge_HA_g6 := Nat.le_trans HA.size le10
 have HB4 := Blk.keep HB4 F8 (nin0 _)
 have HT := HT.keep F8 (fun _ _ => nin0 _)
 have HA := Fr.step0 HA F8
 refine WO.run 1 2 [(3, .nilIface)] (by kernel_rfl) (by kernel_rfl) ?_
 refine WO.done (by kernel_rfl) ?_
 refine WQ.keep [1, 2, 3] (e' := [(1, .pointer (some ⟨g1, 0, none⟩)), (2, .pointer (some ⟨g6, 0, none⟩)), (3, .nilIface)]) (by kernel_rfl) ?_
 refine WQ.thenN ?_
 refine WE.seq ?_
 refine WE.seq ?_
 refine WE.region ?_
 refine WO.ldB (SQ.S 0 (by kernel_rfl)) 5 [.string (str ev.name), .slice A n cp, .int .i64 ev.kind, .int .i64 ev.value, .int .i64 ev.time] g1 0 (by kernel_rfl) (by kernel_rfl) (same HB4) (by kernel_rfl) ?_
 refine WO.call (SQ.E 1 (by kernel_rfl)) 6 (by kernel_rfl) (may_l ev A n cp F _ HT hn hnn hln hlt) ?_
 rintro _ w11 ⟨rfl, F12⟩
 rw [hmay]
 refine ⟨_, rfl, trivial, ?_⟩
 have HB4 := Blk.keep HB4 F12 (nin0 _)
 have HB9 := Blk.keep HB9 F12 (nin0 _)
 have HT := HT.keep F12 (fun _ _ => nin0 _)
 have HA := Fr.step0 HA F12
 refine WO.run 1 2 [(7, .bool true)] (by kernel_rfl) (by kernel_rfl) ?_
 refine WO.done (by kernel_rfl) ?_
 refine WQ.keep [1, 2, 3, 7] (e' := [(1, .pointer (some ⟨g1, 0, none⟩)), (2, .pointer (some ⟨g6, 0, none⟩)), (3, .nilIface), (7, .bool true)]) (by kernel_rfl) ?_
 refine WQ.thenN ?_
 refine WE.condT (by kernel_rfl) ?_
 refine WE.seq ?_
 refine WE.region ?_
 refine WO.run 2 0 [(9, .iface 35 (.int .i64 1)), (8, .agg #[.string (⟨#[]⟩), .slice none 0 0, .int .i64 0, .int .i64 0, .int .i64 0])] (by kernel_rfl) (by kernel_rfl) ?_
 refine WO.st (SQ.E 2 (by kernel_rfl)) g6 0 [.string (⟨#[]⟩), .slice none 0 0, .int .i64 0, .int .i64 0, .int .i64 0] #[.string (⟨#[]⟩), .slice none 0 0, .int .i64 0, .int .i64 0, .int .i64 0] (by kernel_rfl) HB9 (by kernel_rfl) (by kernel_rfl) (fun _ _ => trivial) ?_
 intro w13 HB15 F14 _
 have HB4 := Blk.keep HB4 F14 (ninC ne_g1_g6 (nin0 _))
 have HT := HT.keep F14 (djB nin_g6_F)
 have HA := Fr.step HA F14 (inSR ge_HA_g6 inS0)
 refine WO.run 1 3 [(3, .iface 35 (.int .i64 1))] (by kernel_rfl) (by kernel_rfl) ?_
 refine WO.done (by kernel_rfl) ?_
 refine WQ.keep [1, 2, 3] (e' := [(1, .pointer (some ⟨g1, 0, none⟩)), (2, .pointer (some ⟨g6, 0, none⟩)), (3, .iface 35 (.int .i64 1))]) (by kernel_rfl) ?_
 refine WQ.thenN ?_
 refine WE.ret ?_
 refine WQ.thenR ?_
 refine WQ.ret2 (fn := Tryd.f50) (show Tryd.f50.results = #[.cell 2 25, .tmp 3] by kernel_rfl) (show resOk _ _ _ _ (.agg #[.string (⟨#[]⟩), .slice none 0 0, .int .i64 0, .int .i64 0, .int .i64 0]) from ⟨by kernel_rfl, ⟨g6, 0, none⟩, by kernel_rfl, ldVarB [.string (⟨#[]⟩), .slice none 0 0, .int .i64 0, .int .i64 0, .int .i64 0] (by kernel_rfl) (by kernel_rfl) (by kernel_rfl) HB15 (by kernel_rfl)⟩) (show resOk _ _ _ _ (.iface 35 (.int .i64 1)) from ⟨by kernel_rfl, by kernel_rfl⟩) ?_
 exact ⟨rfl, HA⟩
set_option maxRecDepth 100000 in
set_option maxHeartbeats 400000 in
theorem canon_nil (ev : Ev) (cp : Nat) (F : List Nat) (w : World) (HT : VX cT 2 w F none ev.tags) (hn : ev.tags.length = 0) (hln : ev.name.length ≤ 9223372036854775807) (hlt : ∀ t ∈ ev.tags, t.1.length ≤ 9223372036854775807 ∧ t.2.length ≤ 9223372036854775807) (hmay : mayE ev = true) :
  Calls Tryd.prog 50 #[.agg #[.string (str ev.name), .slice none 0 cp, .int .i64 ev.kind, .int .i64 ev.value, .int .i64 ev.time]] w fun e w' => ResL w w' e (.inl ev) := by
 have hnn : (0 : Nat) ≤ 9223372036854775807 := by omega
 have HA := Fr.refl [] w
 refine enter (N := 45) Tryd.func50 (c := _) rfl (by kernel_rfl) (by kernel_rfl) (e := [(0, .agg #[.string (str ev.name), .slice none 0 cp, .int .i64 ev.kind, .int .i64 ev.value, .int .i64 ev.time])]) (by kernel_rfl) ?_
 refine WE.seq ?_
 refine WE.region ?_
 refine WO.bx (SQ.E 0 (by kernel_rfl)) 1 #[.string (str ev.name), .slice none 0 cp, .int .i64 ev.kind, .int .i64 ev.value, .int .i64 ev.time] 25 (fun g => .pointer (some ⟨g, 0, none⟩)) (by kernel_rfl) (fun _ _ => trivial) ?_
 intro g1 w2 HB4 F3 le5 _
 have nin_g1_F : g1 ∉ F := new_nin HT.lt le5
 have ge_HA_g1 := Nat.le_trans HA.size le5
 have HT := HT.keep F3 (fun _ _ => nin0 _)
 have HA := Fr.step0 HA F3
 refine WO.bx (SQ.E 1 (by kernel_rfl)) 2 #[.string (⟨#[]⟩), .slice none 0 0, .int .i64 0, .int .i64 0, .int .i64 0] 25 (fun g => .pointer (some ⟨g, 0, none⟩)) (by kernel_rfl) (fun _ _ => trivial) ?_
 intro g6 w7 HB9 F8 le10 _
 have ne_g1_g6 : g1 ≠ g6 := Nat.ne_of_lt (Nat.lt_of_lt_of_le HB4.lt le10)
 have nin_g6_F : g6 ∉ F := new_nin HT.lt le10
 have ge_HA_g6 := Nat.le_trans HA.size le10
 have HB4 := Blk.keep HB4 F8 (nin0 _)
 have HT := HT.keep F8 (fun _ _ => nin0 _)
 have HA := Fr.step0 HA F8
 refine WO.run 1 2 [(3, .nilIface)] (by kernel_rfl) (by kernel_rfl) ?_
 refine WO.done (by kernel_rfl) ?_
 refine WQ.keep [1, 2, 3] (e' := [(1, .pointer (some ⟨g1, 0, none⟩)), (2, .pointer (some ⟨g6, 0, none⟩)), (3, .nilIface)]) (by kernel_rfl) ?_
 refine WQ.thenN ?_
 refine WE.seq ?_
 refine WE.seq ?_
 refine WE.region ?_
 refine WO.ldB (SQ.S 0 (by kernel_rfl)) 5 [.string (str ev.name), .slice none 0 cp, .int .i64 ev.kind, .int .i64 ev.value, .int .i64 ev.time] g1 0 (by kernel_rfl) (by kernel_rfl) (same HB4) (by kernel_rfl) ?_
 refine WO.call (SQ.E 1 (by kernel_rfl)) 6 (by kernel_rfl) (may_l ev none 0 cp F _ HT hn hnn hln hlt) ?_
 rintro _ w11 ⟨rfl, F12⟩
 rw [hmay]
 refine ⟨_, rfl, trivial, ?_⟩
 have HB4 := Blk.keep HB4 F12 (nin0 _)
 have HB9 := Blk.keep HB9 F12 (nin0 _)
 have HT := HT.keep F12 (fun _ _ => nin0 _)
 have HA := Fr.step0 HA F12
 refine WO.run 1 2 [(7, .bool false)] (by kernel_rfl) (by kernel_rfl) ?_
 refine WO.done (by kernel_rfl) ?_
 refine WQ.keep [1, 2, 3, 7] (e' := [(1, .pointer (some ⟨g1, 0, none⟩)), (2, .pointer (some ⟨g6, 0, none⟩)), (3, .nilIface), (7, .bool false)]) (by kernel_rfl) ?_
 refine WQ.thenN ?_
 refine WE.condF (by kernel_rfl) ?_
 refine WE.skip ?_
 refine WQ.thenN ?_
 refine WE.seq ?_
 refine WE.region ?_
 refine WO.run 1 0 [(10, .pointer (some ⟨g1, 1, none⟩))] (by kernel_rfl) (by kernel_rfl) ?_
 refine WO.ld (SQ.S 1 (by kernel_rfl)) 11 (.slice none 0 cp) (by kernel_rfl) (same (HB4.at 1 (by kernel_rfl))) ?_
 refine WO.call (SQ.E 2 (by kernel_rfl)) 12 (by kernel_rfl) (clone_nil cp _) ?_
 rintro _ w13 ⟨rfl, F14⟩
 refine ⟨_, rfl, trivial, ?_⟩
 have HB4 := Blk.keep HB4 F14 (nin0 _)
 have HB9 := Blk.keep HB9 F14 (nin0 _)
 have HT := HT.keep F14 (fun _ _ => nin0 _)
 have HA := Fr.step0 HA F14
 refine WO.run 1 3 [(13, .pointer (some ⟨g1, 1, none⟩))] (by kernel_rfl) (by kernel_rfl) ?_
 refine WO.st (SQ.E 4 (by kernel_rfl)) g1 1 [.slice none 0 0] #[.string (str ev.name), .slice none 0 0, .int .i64 ev.kind, .int .i64 ev.value, .int .i64 ev.time] (by kernel_rfl) HB4 (by kernel_rfl) (by kernel_rfl) (fun _ _ => trivial) ?_
 intro w15 HB17 F16 _
 have HB9 := Blk.keep HB9 F16 (ninC (Ne.symm ne_g1_g6) (nin0 _))
 have HT := HT.keep F16 (djB nin_g1_F)
 have HA := Fr.step HA F16 (inSR ge_HA_g1 inS0)
 refine WO.done (by kernel_rfl) ?_
 refine WQ.keep [1, 2, 3] (e' := [(1, .pointer (some ⟨g1, 0, none⟩)), (2, .pointer (some ⟨g6, 0, none⟩)), (3, .nilIface)]) (by kernel_rfl) ?_
 refine WQ.thenN ?_
 refine WE.seq ?_
 refine WE.region ?_
 refine WO.run 1 0 [(14, .pointer (some ⟨g1, 1, none⟩))] (by kernel_rfl) (by kernel_rfl) ?_
 refine WO.ld (SQ.S 1 (by kernel_rfl)) 15 (.slice none 0 0) (by kernel_rfl) (same (HB17.at 1 (by kernel_rfl))) ?_
 refine WO.call (SQ.E 2 (by kernel_rfl)) 16 (by kernel_rfl) (sortf_0 none 0 _) ?_
 rintro _ w18 ⟨rfl, F19⟩
 refine ⟨_, rfl, trivial, ?_⟩
 have HB9 := Blk.keep HB9 F19 (nin0 _)
 have HB17 := Blk.keep HB17 F19 (nin0 _)
 have HT := HT.keep F19 (fun _ _ => nin0 _)
 have HA := Fr.step0 HA F19
 refine WO.done (by kernel_rfl) ?_
 refine WQ.keep [1, 2, 3] (e' := [(1, .pointer (some ⟨g1, 0, none⟩)), (2, .pointer (some ⟨g6, 0, none⟩)), (3, .nilIface)]) (by kernel_rfl) ?_
 refine WQ.thenN ?_
 refine WE.seq ?_
 refine WE.seq ?_
 refine WE.region ?_
 refine WO.run 1 0 [(17, .pointer (some ⟨g1, 1, none⟩))] (by kernel_rfl) (by kernel_rfl) ?_
 refine WO.ld (SQ.S 1 (by kernel_rfl)) 18 (.slice none 0 0) (by kernel_rfl) (same (HB17.at 1 (by kernel_rfl))) ?_
 refine WO.run 2 2 [(20, .int .i64 0), (19, .int .i64 0)] (by kernel_rfl) (by kernel_rfl) ?_
 refine WO.done (by kernel_rfl) ?_
 refine WQ.keep [1, 2, 3, 19, 20] (e' := [(1, .pointer (some ⟨g1, 0, none⟩)), (2, .pointer (some ⟨g6, 0, none⟩)), (3, .nilIface), (19, .int .i64 0), (20, .int .i64 0)]) (by kernel_rfl) ?_
 refine WQ.thenN ?_
 refine WE.block ?_
 refine WE.unroll ?_
 refine WL.go ?_
 refine WE.seq ?_
 refine WE.region ?_
 refine WO.run 1 0 [(21, .bool false)] (by kernel_rfl) (by kernel_rfl) ?_
 refine WO.done (by kernel_rfl) ?_
 refine WQ.keep [1, 2, 3, 19, 20, 21] (e' := [(1, .pointer (some ⟨g1, 0, none⟩)), (2, .pointer (some ⟨g6, 0, none⟩)), (3, .nilIface), (19, .int .i64 0), (20, .int .i64 0), (21, .bool false)]) (by kernel_rfl) ?_
 refine WQ.thenN ?_
 refine WE.seq ?_
 refine WE.condF (by kernel_rfl) ?_
 refine WE.exit ?_
 refine WQ.thenE ?_
 refine WQ.thenE ?_
 refine WQ.blkE ?_
 refine WQ.thenN ?_
 refine WE.seq ?_
 refine WE.region ?_
 refine WO.ldB (SQ.S 0 (by kernel_rfl)) 44 [.string (str ev.name), .slice none 0 0, .int .i64 ev.kind, .int .i64 ev.value, .int .i64 ev.time] g1 0 (by kernel_rfl) (by kernel_rfl) (same HB17) (by kernel_rfl) ?_
 refine WO.st (SQ.E 1 (by kernel_rfl)) g6 0 [.string (str ev.name), .slice none 0 0, .int .i64 ev.kind, .int .i64 ev.value, .int .i64 ev.time] #[.string (str ev.name), .slice none 0 0, .int .i64 ev.kind, .int .i64 ev.value, .int .i64 ev.time] (by kernel_rfl) HB9 (by kernel_rfl) (by kernel_rfl) (fun _ _ => trivial) ?_
 intro w20 HB22 F21 _
 have HB17 := Blk.keep HB17 F21 (ninC ne_g1_g6 (nin0 _))
 have HT := HT.keep F21 (djB nin_g6_F)
 have HA := Fr.step HA F21 (inSR ge_HA_g6 inS0)
 refine WO.run 1 2 [(3, .nilIface)] (by kernel_rfl) (by kernel_rfl) ?_
 refine WO.done (by kernel_rfl) ?_
 refine WQ.keep [2, 3] (e' := [(2, .pointer (some ⟨g6, 0, none⟩)), (3, .nilIface)]) (by kernel_rfl) ?_
 refine WQ.thenN ?_
 refine WE.ret ?_
 refine WQ.ret2 (fn := Tryd.f50) (show Tryd.f50.results = #[.cell 2 25, .tmp 3] by kernel_rfl) (show resOk _ _ _ _ (.agg #[.string (str ev.name), .slice none 0 0, .int .i64 ev.kind, .int .i64 ev.value, .int .i64 ev.time]) from ⟨by kernel_rfl, ⟨g6, 0, none⟩, by kernel_rfl, ldVarB [.string (str ev.name), .slice none 0 0, .int .i64 ev.kind, .int .i64 ev.value, .int .i64 ev.time] (by kernel_rfl) (by kernel_rfl) (by kernel_rfl) HB22 (by kernel_rfl)⟩) (show resOk _ _ _ _ .nilIface from ⟨by kernel_rfl, by kernel_rfl⟩) ?_
 exact ⟨_, 0, _, [], rfl, by rw [List.length_eq_zero_iff.1 hn]; exact VX.nil _ _, hn, Nat.zero_le _, by simp, HA⟩
set_option maxRecDepth 100000 in
set_option maxHeartbeats 400000 in
theorem canon_emp (ev : Ev) (ad : Addr) (cp : Nat) (F : List Nat) (w : World) (HT : VX cT 2 w F (some ad) ev.tags) (hn : ev.tags.length = 0) (hln : ev.name.length ≤ 9223372036854775807) (hlt : ∀ t ∈ ev.tags, t.1.length ≤ 9223372036854775807 ∧ t.2.length ≤ 9223372036854775807) (hmay : mayE ev = true) :
  Calls Tryd.prog 50 #[.agg #[.string (str ev.name), .slice (some ad) 0 cp, .int .i64 ev.kind, .int .i64 ev.value, .int .i64 ev.time]] w fun e w' => ResL w w' e (.inl ev) := by
 have hnn : (0 : Nat) ≤ 9223372036854775807 := by omega
 have HA := Fr.refl [] w
 refine enter (N := 45) Tryd.func50 (c := _) rfl (by kernel_rfl) (by kernel_rfl) (e := [(0, .agg #[.string (str ev.name), .slice (some ad) 0 cp, .int .i64 ev.kind, .int .i64 ev.value, .int .i64 ev.time])]) (by kernel_rfl) ?_
 refine WE.seq ?_
 refine WE.region ?_
 refine WO.bx (SQ.E 0 (by kernel_rfl)) 1 #[.string (str ev.name), .slice (some ad) 0 cp, .int .i64 ev.kind, .int .i64 ev.value, .int .i64 ev.time] 25 (fun g => .pointer (some ⟨g, 0, none⟩)) (by kernel_rfl) (fun _ _ => trivial) ?_
 intro g1 w2 HB4 F3 le5 _
 have nin_g1_F : g1 ∉ F := new_nin HT.lt le5
 have ge_HA_g1 := Nat.le_trans HA.size le5
 have HT := HT.keep F3 (fun _ _ => nin0 _)
 have HA := Fr.step0 HA F3
 refine WO.bx (SQ.E 1 (by kernel_rfl)) 2 #[.string (⟨#[]⟩), .slice none 0 0, .int .i64 0, .int .i64 0, .int .i64 0] 25 (fun g => .pointer (some ⟨g, 0, none⟩)) (by kernel_rfl) (fun _ _ => trivial) ?_
 intro g6 w7 HB9 F8 le10 _
 have ne_g1_g6 : g1 ≠ g6 := Nat.ne_of_lt (Nat.lt_of_lt_of_le HB4.lt le10)
 have nin_g6_F : g6 ∉ F := new_nin HT.lt le10
 have ge_HA_g6 := Nat.le_trans HA.size le10
 have HB4 := Blk.keep HB4 F8 (nin0 _)
 have HT := HT.keep F8 (fun _ _ => nin0 _)
 have HA := Fr.step0 HA F8
 refine WO.run 1 2 [(3, .nilIface)] (by kernel_rfl) (by kernel_rfl) ?_
 refine WO.done (by kernel_rfl) ?_
 refine WQ.keep [1, 2, 3] (e' := [(1, .pointer (some ⟨g1, 0, none⟩)), (2, .pointer (some ⟨g6, 0, none⟩)), (3, .nilIface)]) (by kernel_rfl) ?_
 refine WQ.thenN ?_
 refine WE.seq ?_
 refine WE.seq ?_
 refine WE.region ?_
 refine WO.ldB (SQ.S 0 (by kernel_rfl)) 5 [.string (str ev.name), .slice (some ad) 0 cp, .int .i64 ev.kind, .int .i64 ev.value, .int .i64 ev.time] g1 0 (by kernel_rfl) (by kernel_rfl) (same HB4) (by kernel_rfl) ?_
 refine WO.call (SQ.E 1 (by kernel_rfl)) 6 (by kernel_rfl) (may_l ev (some ad) 0 cp F _ HT hn hnn hln hlt) ?_
 rintro _ w11 ⟨rfl, F12⟩
 rw [hmay]
 refine ⟨_, rfl, trivial, ?_⟩
 have HB4 := Blk.keep HB4 F12 (nin0 _)
 have HB9 := Blk.keep HB9 F12 (nin0 _)
 have HT := HT.keep F12 (fun _ _ => nin0 _)
 have HA := Fr.step0 HA F12
 refine WO.run 1 2 [(7, .bool false)] (by kernel_rfl) (by kernel_rfl) ?_
 refine WO.done (by kernel_rfl) ?_
 refine WQ.keep [1, 2, 3, 7] (e' := [(1, .pointer (some ⟨g1, 0, none⟩)), (2, .pointer (some ⟨g6, 0, none⟩)), (3, .nilIface), (7, .bool false)]) (by kernel_rfl) ?_
 refine WQ.thenN ?_
 refine WE.condF (by kernel_rfl) ?_
 refine WE.skip ?_
 refine WQ.thenN ?_
 refine WE.seq ?_
 refine WE.region ?_
 refine WO.run 1 0 [(10, .pointer (some ⟨g1, 1, none⟩))] (by kernel_rfl) (by kernel_rfl) ?_
 refine WO.ld (SQ.S 1 (by kernel_rfl)) 11 (.slice (some ad) 0 cp) (by kernel_rfl) (same (HB4.at 1 (by kernel_rfl))) ?_
 refine WO.call (SQ.E 2 (by kernel_rfl)) 12 (by kernel_rfl) (clone_t ad 0 cp ev.tags F _ HT hn (by omega)) ?_
 rintro _ w13 ⟨gb, cb, rfl, _, F14, _⟩
 refine ⟨_, rfl, trivial, ?_⟩
 have HB4 := Blk.keep HB4 F14 (nin0 _)
 have HB9 := Blk.keep HB9 F14 (nin0 _)
 have HT := HT.keep F14 (fun _ _ => nin0 _)
 have HA := Fr.step0 HA F14
 refine WO.run 1 3 [(13, .pointer (some ⟨g1, 1, none⟩))] (by kernel_rfl) (by kernel_rfl) ?_
 refine WO.st (SQ.E 4 (by kernel_rfl)) g1 1 [.slice (some ⟨gb, 0, none⟩) 0 cb] #[.string (str ev.name), .slice (some ⟨gb, 0, none⟩) 0 cb, .int .i64 ev.kind, .int .i64 ev.value, .int .i64 ev.time] (by kernel_rfl) HB4 (by kernel_rfl) (by kernel_rfl) (fun _ _ => trivial) ?_
 intro w15 HB17 F16 _
 have HB9 := Blk.keep HB9 F16 (ninC (Ne.symm ne_g1_g6) (nin0 _))
 have HT := HT.keep F16 (djB nin_g1_F)
 have HA := Fr.step HA F16 (inSR ge_HA_g1 inS0)
 refine WO.done (by kernel_rfl) ?_
 refine WQ.keep [1, 2, 3] (e' := [(1, .pointer (some ⟨g1, 0, none⟩)), (2, .pointer (some ⟨g6, 0, none⟩)), (3, .nilIface)]) (by kernel_rfl) ?_
 refine WQ.thenN ?_
 refine WE.seq ?_
 refine WE.region ?_
 refine WO.run 1 0 [(14, .pointer (some ⟨g1, 1, none⟩))] (by kernel_rfl) (by kernel_rfl) ?_
 refine WO.ld (SQ.S 1 (by kernel_rfl)) 15 (.slice (some ⟨gb, 0, none⟩) 0 cb) (by kernel_rfl) (same (HB17.at 1 (by kernel_rfl))) ?_
 refine WO.call (SQ.E 2 (by kernel_rfl)) 16 (by kernel_rfl) (sortf_0 (some ⟨gb, 0, none⟩) cb _) ?_
 rintro _ w18 ⟨rfl, F19⟩
 refine ⟨_, rfl, trivial, ?_⟩
 have HB9 := Blk.keep HB9 F19 (nin0 _)
 have HB17 := Blk.keep HB17 F19 (nin0 _)
 have HT := HT.keep F19 (fun _ _ => nin0 _)
 have HA := Fr.step0 HA F19
 refine WO.done (by kernel_rfl) ?_
 refine WQ.keep [1, 2, 3] (e' := [(1, .pointer (some ⟨g1, 0, none⟩)), (2, .pointer (some ⟨g6, 0, none⟩)), (3, .nilIface)]) (by kernel_rfl) ?_
 refine WQ.thenN ?_
 refine WE.seq ?_
 refine WE.seq ?_
 refine WE.region ?_
 refine WO.run 1 0 [(17, .pointer (some ⟨g1, 1, none⟩))] (by kernel_rfl) (by kernel_rfl) ?_
 refine WO.ld (SQ.S 1 (by kernel_rfl)) 18 (.slice (some ⟨gb, 0, none⟩) 0 cb) (by kernel_rfl) (same (HB17.at 1 (by kernel_rfl))) ?_
 refine WO.run 2 2 [(20, .int .i64 0), (19, .int .i64 0)] (by kernel_rfl) (by kernel_rfl) ?_
 refine WO.done (by kernel_rfl) ?_
 refine WQ.keep [1, 2, 3, 19, 20] (e' := [(1, .pointer (some ⟨g1, 0, none⟩)), (2, .pointer (some ⟨g6, 0, none⟩)), (3, .nilIface), (19, .int .i64 0), (20, .int .i64 0)]) (by kernel_rfl) ?_
 refine WQ.thenN ?_
 refine WE.block ?_
 refine WE.unroll ?_
 refine WL.go ?_
 refine WE.seq ?_
 refine WE.region ?_
 refine WO.run 1 0 [(21, .bool false)] (by kernel_rfl) (by kernel_rfl) ?_
 refine WO.done (by kernel_rfl) ?_
 refine WQ.keep [1, 2, 3, 19, 20, 21] (e' := [(1, .pointer (some ⟨g1, 0, none⟩)), (2, .pointer (some ⟨g6, 0, none⟩)), (3, .nilIface), (19, .int .i64 0), (20, .int .i64 0), (21, .bool false)]) (by kernel_rfl) ?_
 refine WQ.thenN ?_
 refine WE.seq ?_
 refine WE.condF (by kernel_rfl) ?_
 refine WE.exit ?_
 refine WQ.thenE ?_
 refine WQ.thenE ?_
 refine WQ.blkE ?_
 refine WQ.thenN ?_
 refine WE.seq ?_
 refine WE.region ?_
 refine WO.ldB (SQ.S 0 (by kernel_rfl)) 44 [.string (str ev.name), .slice (some ⟨gb, 0, none⟩) 0 cb, .int .i64 ev.kind, .int .i64 ev.value, .int .i64 ev.time] g1 0 (by kernel_rfl) (by kernel_rfl) (same HB17) (by kernel_rfl) ?_
 refine WO.st (SQ.E 1 (by kernel_rfl)) g6 0 [.string (str ev.name), .slice (some ⟨gb, 0, none⟩) 0 cb, .int .i64 ev.kind, .int .i64 ev.value, .int .i64 ev.time] #[.string (str ev.name), .slice (some ⟨gb, 0, none⟩) 0 cb, .int .i64 ev.kind, .int .i64 ev.value, .int .i64 ev.time] (by kernel_rfl) HB9 (by kernel_rfl) (by kernel_rfl) (fun _ _ => trivial) ?_
 intro w20 HB22 F21 _
 have HB17 := Blk.keep HB17 F21 (ninC ne_g1_g6 (nin0 _))
 have HT := HT.keep F21 (djB nin_g6_F)
 have HA := Fr.step HA F21 (inSR ge_HA_g6 inS0)
 refine WO.run 1 2 [(3, .nilIface)] (by kernel_rfl) (by kernel_rfl) ?_
 refine WO.done (by kernel_rfl) ?_
 refine WQ.keep [2, 3] (e' := [(2, .pointer (some ⟨g6, 0, none⟩)), (3, .nilIface)]) (by kernel_rfl) ?_
 refine WQ.thenN ?_
 refine WE.ret ?_
 refine WQ.ret2 (fn := Tryd.f50) (show Tryd.f50.results = #[.cell 2 25, .tmp 3] by kernel_rfl) (show resOk _ _ _ _ (.agg #[.string (str ev.name), .slice (some ⟨gb, 0, none⟩) 0 cb, .int .i64 ev.kind, .int .i64 ev.value, .int .i64 ev.time]) from ⟨by kernel_rfl, ⟨g6, 0, none⟩, by kernel_rfl, ldVarB [.string (str ev.name), .slice (some ⟨gb, 0, none⟩) 0 cb, .int .i64 ev.kind, .int .i64 ev.value, .int .i64 ev.time] (by kernel_rfl) (by kernel_rfl) (by kernel_rfl) HB22 (by kernel_rfl)⟩) (show resOk _ _ _ _ .nilIface from ⟨by kernel_rfl, by kernel_rfl⟩) ?_
 exact ⟨_, 0, _, [], rfl, by rw [List.length_eq_zero_iff.1 hn]; exact VX.nil _ _, hn, Nat.zero_le _, by simp, HA⟩
set_option maxRecDepth 100000 in
set_option maxHeartbeats 1000000 in
theorem canon_some (ev : Ev) (ad : Addr) (n cp : Nat) (F : List Nat) (w : World) (HT : VX cT 2 w F (some ad) ev.tags) (hn : ev.tags.length = n) (h0 : 0 < n) (hln : ev.name.length ≤ 9223372036854775807) (hlt : ∀ t ∈ ev.tags, t.1.length ≤ 9223372036854775807 ∧ t.2.length ≤ 9223372036854775807) (hmay : mayE ev = true) :
  Calls Tryd.prog 50 #[.agg #[.string (str ev.name), .slice (some ad) n cp, .int .i64 ev.kind, .int .i64 ev.value, .int .i64 ev.time]] w fun e w' => ResC w w' e (canonE ev) := by
 have h6_ := (may_parts hmay).2.2.1
 have hnn : n ≤ 9223372036854775807 := by omega
 have HA := Fr.refl [] w
 refine enter (N := 45) Tryd.func50 (c := _) rfl (by kernel_rfl) (by kernel_rfl) (e := [(0, .agg #[.string (str ev.name), .slice (some ad) n cp, .int .i64 ev.kind, .int .i64 ev.value, .int .i64 ev.time])]) (by kernel_rfl) ?_
 refine WE.seq ?_
 refine WE.region ?_
 refine WO.bx (SQ.E 0 (by kernel_rfl)) 1 #[.string (str ev.name), .slice (some ad) n cp, .int .i64 ev.kind, .int .i64 ev.value, .int .i64 ev.time] 25 (fun g => .pointer (some ⟨g, 0, none⟩)) (by kernel_rfl) (fun _ _ => trivial) ?_
 intro g1 w2 HB4 F3 le5 _
 have nin_g1_F : g1 ∉ F := new_nin HT.lt le5
 have ge_HA_g1 := Nat.le_trans HA.size le5
 have HT := HT.keep F3 (fun _ _ => nin0 _)
 have HA := Fr.step0 HA F3
 refine WO.bx (SQ.E 1 (by kernel_rfl)) 2 #[.string (⟨#[]⟩), .slice none 0 0, .int .i64 0, .int .i64 0, .int .i64 0] 25 (fun g => .pointer (some ⟨g, 0, none⟩)) (by kernel_rfl) (fun _ _ => trivial) ?_
 intro g6 w7 HB9 F8 le10 _
 have ne_g1_g6 : g1 ≠ g6 := Nat.ne_of_lt (Nat.lt_of_lt_of_le HB4.lt le10)
 have nin_g6_F : g6 ∉ F := new_nin HT.lt le10
 have ge_HA_g6 := Nat.le_trans HA.size le10
 have HB4 := Blk.keep HB4 F8 (nin0 _)
 have HT := HT.keep F8 (fun _ _ => nin0 _)
 have HA := Fr.step0 HA F8
 refine WO.run 1 2 [(3, .nilIface)] (by kernel_rfl) (by kernel_rfl) ?_
 refine WO.done (by kernel_rfl) ?_
 refine WQ.keep [1, 2, 3] (e' := [(1, .pointer (some ⟨g1, 0, none⟩)), (2, .pointer (some ⟨g6, 0, none⟩)), (3, .nilIface)]) (by kernel_rfl) ?_
 refine WQ.thenN ?_
 refine WE.seq ?_
 refine WE.seq ?_
 refine WE.region ?_
 refine WO.ldB (SQ.S 0 (by kernel_rfl)) 5 [.string (str ev.name), .slice (some ad) n cp, .int .i64 ev.kind, .int .i64 ev.value, .int .i64 ev.time] g1 0 (by kernel_rfl) (by kernel_rfl) (same HB4) (by kernel_rfl) ?_
 refine WO.call (SQ.E 1 (by kernel_rfl)) 6 (by kernel_rfl) (may_l ev (some ad) n cp F _ HT hn hnn hln hlt) ?_
 rintro _ w11 ⟨rfl, F12⟩
 rw [hmay]
 refine ⟨_, rfl, trivial, ?_⟩
 have HB4 := Blk.keep HB4 F12 (nin0 _)
 have HB9 := Blk.keep HB9 F12 (nin0 _)
 have HT := HT.keep F12 (fun _ _ => nin0 _)
 have HA := Fr.step0 HA F12
 refine WO.run 1 2 [(7, .bool false)] (by kernel_rfl) (by kernel_rfl) ?_
 refine WO.done (by kernel_rfl) ?_
 refine WQ.keep [1, 2, 3, 7] (e' := [(1, .pointer (some ⟨g1, 0, none⟩)), (2, .pointer (some ⟨g6, 0, none⟩)), (3, .nilIface), (7, .bool false)]) (by kernel_rfl) ?_
 refine WQ.thenN ?_
 refine WE.condF (by kernel_rfl) ?_
 refine WE.skip ?_
 refine WQ.thenN ?_
 refine WE.seq ?_
 refine WE.region ?_
 refine WO.run 1 0 [(10, .pointer (some ⟨g1, 1, none⟩))] (by kernel_rfl) (by kernel_rfl) ?_
 refine WO.ld (SQ.S 1 (by kernel_rfl)) 11 (.slice (some ad) n cp) (by kernel_rfl) (same (HB4.at 1 (by kernel_rfl))) ?_
 refine WO.call (SQ.E 2 (by kernel_rfl)) 12 (by kernel_rfl) (clone_t ad n cp ev.tags F _ HT hn (by omega)) ?_
 rintro _ w13 ⟨gb, cb, rfl, HR15, F14, ge16⟩
 refine ⟨_, rfl, trivial, ?_⟩
 have ne_g1_gb : g1 ≠ gb := Nat.ne_of_lt (Nat.lt_of_lt_of_le HB4.lt ge16)
 have ne_g6_gb : g6 ≠ gb := Nat.ne_of_lt (Nat.lt_of_lt_of_le HB9.lt ge16)
 have nin_gb_F : gb ∉ F := new_nin HT.lt ge16
 have ge_HA_gb := Nat.le_trans HA.size ge16
 have HB4 := Blk.keep HB4 F14 (nin0 _)
 have HB9 := Blk.keep HB9 F14 (nin0 _)
 have HT := HT.keep F14 (fun _ _ => nin0 _)
 have HA := Fr.step0 HA F14
 refine WO.run 1 3 [(13, .pointer (some ⟨g1, 1, none⟩))] (by kernel_rfl) (by kernel_rfl) ?_
 refine WO.st (SQ.E 4 (by kernel_rfl)) g1 1 [.slice (some ⟨gb, 0, none⟩) n cb] #[.string (str ev.name), .slice (some ⟨gb, 0, none⟩) n cb, .int .i64 ev.kind, .int .i64 ev.value, .int .i64 ev.time] (by kernel_rfl) HB4 (by kernel_rfl) (by kernel_rfl) (fun _ _ => trivial) ?_
 intro w17 HB19 F18 _
 have HB9 := Blk.keep HB9 F18 (ninC (Ne.symm ne_g1_g6) (nin0 _))
 have HR15 := RowB.keep HR15 F18 (ninC (Ne.symm ne_g1_gb) (nin0 _))
 have HT := HT.keep F18 (djB nin_g1_F)
 have HA := Fr.step HA F18 (inSR ge_HA_g1 inS0)
 refine WO.done (by kernel_rfl) ?_
 refine WQ.keep [1, 2, 3] (e' := [(1, .pointer (some ⟨g1, 0, none⟩)), (2, .pointer (some ⟨g6, 0, none⟩)), (3, .nilIface)]) (by kernel_rfl) ?_
 refine WQ.thenN ?_
 refine WE.seq ?_
 refine WE.region ?_
 refine WO.run 1 0 [(14, .pointer (some ⟨g1, 1, none⟩))] (by kernel_rfl) (by kernel_rfl) ?_
 refine WO.ld (SQ.S 1 (by kernel_rfl)) 15 (.slice (some ⟨gb, 0, none⟩) n cb) (by kernel_rfl) (same (HB19.at 1 (by kernel_rfl))) ?_
 refine WO.call (SQ.E 2 (by kernel_rfl)) 16 (by kernel_rfl) (sortf_t gb n cb ev.tags _ HR15 hn h0 (by omega)) ?_
 rintro _ w20 ⟨rfl, q, hpq, hasq, HRq, F21⟩
 have hql : q.length = n := hpq.length_eq.trans hn
 refine ⟨_, rfl, trivial, ?_⟩
 have HB9 := Blk.keep HB9 F21 (ninC ne_g6_gb (nin0 _))
 have HB19 := Blk.keep HB19 F21 (ninC ne_g1_gb (nin0 _))
 have HT := HT.keep F21 (djB nin_gb_F)
 have HA := Fr.step HA F21 (inSR ge_HA_gb inS0)
 refine WO.done (by kernel_rfl) ?_
 refine WQ.keep [1, 2, 3] (e' := [(1, .pointer (some ⟨g1, 0, none⟩)), (2, .pointer (some ⟨g6, 0, none⟩)), (3, .nilIface)]) (by kernel_rfl) ?_
 refine WQ.thenN ?_
 refine WE.seq ?_
 refine WE.seq ?_
 refine WE.region ?_
 refine WO.run 1 0 [(17, .pointer (some ⟨g1, 1, none⟩))] (by kernel_rfl) (by kernel_rfl) ?_
 refine WO.ld (SQ.S 1 (by kernel_rfl)) 18 (.slice (some ⟨gb, 0, none⟩) n cb) (by kernel_rfl) (same (HB19.at 1 (by kernel_rfl))) ?_
 refine WO.run 2 2 [(20, .int .i64 0), (19, .int .i64 (n : Int))] (by kernel_rfl) (by kernel_rfl) ?_
 refine WO.done (by kernel_rfl) ?_
 refine WQ.keep [1, 2, 3, 19, 20] (e' := [(1, .pointer (some ⟨g1, 0, none⟩)), (2, .pointer (some ⟨g6, 0, none⟩)), (3, .nilIface), (19, .int .i64 (n : Int)), (20, .int .i64 0)]) (by kernel_rfl) ?_
 refine WQ.thenN ?_
 refine WE.block ?_
 refine WE.loop (α := Nat) (E := fun i => [(1, .pointer (some ⟨g1, 0, none⟩)), (2, .pointer (some ⟨g6, 0, none⟩)), (3, .nilIface), (19, .int .i64 (n : Int)), (20, .int .i64 (i : Int))]) (I := fun i wr => i ≤ n ∧ (∀ j, 0 < j → j < i → (gT q j).1 ≠ (gT q (j - 1)).1) ∧ Blk wr g6 #[.string (⟨#[]⟩), .slice none 0 0, .int .i64 0, .int .i64 0, .int .i64 0] 25 ∧ Blk wr g1 #[.string (str ev.name), .slice (some ⟨gb, 0, none⟩) n cb, .int .i64 ev.kind, .int .i64 ev.value, .int .i64 ev.time] 25 ∧ RowB wr gb 53 2 cb (q.map cT) ∧ VX cT 2 wr F (some ad) ev.tags ∧ Fr [] w wr) (m := fun i => n - i) 0 [1, 2, 3, 19, 20] (by kernel_rfl) ?_ ?_
 ·
  exact ⟨by omega, by omega, HB9, HB19, HRq, HT, HA⟩
 rintro i wr ⟨hi, hne, HB9, HB19, HRq, HT, HA⟩
 refine WE.seq ?_
 refine WE.region ?_
 refine WO.one (SQ.F 0 (by kernel_rfl)) 21 (.bool (decide (((i : Int) : Int) < (n : Int)))) (by kernel_rfl) ?_
 refine WO.topP (((i : Int) : Int) < (n : Int)) ?_ ?_
 ·
  intro h22
  refine WO.done (by kernel_rfl) ?_
  refine WQ.keep [1, 2, 3, 19, 20, 21] (e' := [(1, .pointer (some ⟨g1, 0, none⟩)), (2, .pointer (some ⟨g6, 0, none⟩)), (3, .nilIface), (19, .int .i64 (n : Int)), (20, .int .i64 (i : Int)), (21, .bool true)]) (by kernel_rfl) ?_
  refine WQ.thenN ?_
  refine WE.seq ?_
  refine WE.condT (by kernel_rfl) ?_
  refine WE.skip ?_
  refine WQ.thenN ?_
  refine WE.seq ?_
  refine WE.block ?_
  refine WE.seq ?_
  refine WE.region ?_
  refine WO.run 2 0 [(4, .int .i64 (i : Int)), (22, .int .i64 (i : Int))] (by kernel_rfl) (by kernel_rfl) ?_
  refine WO.done (by kernel_rfl) ?_
  refine WQ.keep [1, 2, 3, 4, 19, 20] (e' := [(1, .pointer (some ⟨g1, 0, none⟩)), (2, .pointer (some ⟨g6, 0, none⟩)), (3, .nilIface), (4, .int .i64 (i : Int)), (19, .int .i64 (n : Int)), (20, .int .i64 (i : Int))]) (by kernel_rfl) ?_
  refine WQ.thenN ?_
  refine WE.seq ?_
  refine WE.draw [.free, .free, .free, .free, .still, .free, .free, .free, .still, .free, .still, .free, .free, .free, .free, .still, .free, .free] Same sameR (by kernel_rfl) 18 (Array.replicate 18 false) (by kernel_rfl) rfl ?_
  intro w23 F24 _
  have HB9 := Blk.keep HB9 F24 (nin0 _)
  have HB19 := Blk.keep HB19 F24 (nin0 _)
  have HRq := RowB.keep HRq F24 (nin0 _)
  have HT := HT.keep F24 (fun _ _ => nin0 _)
  have HA := Fr.step0 HA F24
  refine WO.one (SA.F sameR sameT _ 0 _ (by kernel_rfl)) 23 (.int .i64 (i : Int)) (by kernel_rfl) ?_
  refine WO.one (SA.F sameR sameT _ 1 _ (by kernel_rfl)) 24 (.bool (decide (((i : Int) : Int) > (0 : Int)))) (by kernel_rfl) ?_
  refine WO.topP (((i : Int) : Int) > (0 : Int)) ?_ ?_
  ·
   intro h25
   refine WO.one (SA.F sameR sameT _ 2 _ (by kernel_rfl)) 25 (.bool true) (by kernel_rfl) ?_
   refine WO.one (SA.F sameR sameT _ 3 _ (by kernel_rfl)) 26 (.pointer (some ⟨g1, 1, none⟩)) (by kernel_rfl) ?_
   refine WO.ld (SA.S sameR sameT _ 4 _ (by kernel_rfl)) 27 (.slice (some ⟨gb, 0, none⟩) n cb) (by kernel_rfl) (same (HB19.at 1 (by kernel_rfl))) ?_
   refine WO.one (SA.F sameR sameT _ 5 _ (by kernel_rfl)) 28 (.int .i64 (i : Int)) (by kernel_rfl) ?_
   refine WO.ixB (SA.F sameR sameT _ 6 _ (by kernel_rfl)) 29 (i * 2) gb 0 n 2 (i : Int) (by kernel_rfl) (by omega) (by omega) (by omega) ?_
   refine WO.one (SA.F sameR sameT _ 7 _ (by kernel_rfl)) 30 (.pointer (some ⟨gb, i * 2, none⟩)) (by kernel_rfl) ?_
   refine WO.ld (SA.S sameR sameT _ 8 _ (by kernel_rfl)) 31 (.string (str (gT q i).1)) (by kernel_rfl) (same (HRq.at i 0 (i * 2) _ (by rw [List.length_map]; have := hql; omega) (by omega) (by rw [(map_gT q i (by have := hql; omega))]; rfl) (by omega))) ?_
   refine WO.one (SA.F sameR sameT _ 9 _ (by kernel_rfl)) 32 (.pointer (some ⟨g1, 1, none⟩)) (by kernel_rfl) ?_
   refine WO.ld (SA.S sameR sameT _ 10 _ (by kernel_rfl)) 33 (.slice (some ⟨gb, 0, none⟩) n cb) (by kernel_rfl) (same (HB19.at 1 (by kernel_rfl))) ?_
   refine WO.one (SA.F sameR sameT _ 11 _ (by kernel_rfl)) 34 (.int .i64 (i : Int)) (by kernel_rfl) ?_
   refine WO.one (SA.F sameR sameT _ 12 _ (by kernel_rfl)) 35 (.int .i64 (IntKind.i64.wrap ((i : Int) - 1))) (by kernel_rfl) ?_
   refine WO.top (v' := .int .i64 ((i - 1 : Nat) : Int)) (wrap_i64 (by omega) (by omega)) ?_
   refine WO.ixB (SA.F sameR sameT _ 13 _ (by kernel_rfl)) 36 ((i - 1) * 2) gb 0 n 2 ((i - 1 : Nat) : Int) (by kernel_rfl) (by omega) (by omega) (by omega) ?_
   refine WO.one (SA.F sameR sameT _ 14 _ (by kernel_rfl)) 37 (.pointer (some ⟨gb, (i - 1) * 2, none⟩)) (by kernel_rfl) ?_
   refine WO.ld (SA.S sameR sameT _ 15 _ (by kernel_rfl)) 38 (.string (str (gT q (i - 1)).1)) (by kernel_rfl) (same (HRq.at (i - 1) 0 ((i - 1) * 2) _ (by rw [List.length_map]; have := hql; omega) (by omega) (by rw [(map_gT q (i - 1) (by have := hql; omega))]; rfl) (by omega))) ?_
   refine WO.one (SA.F sameR sameT _ 16 _ (by kernel_rfl)) 39 (.bool ((str (gT q i).1).toList == (str (gT q (i - 1)).1).toList)) (by kernel_rfl) ?_
   refine WO.top (v' := .bool (decide ((str (gT q i).1) = (str (gT q (i - 1)).1)))) (congrArg Value.bool (streq (str (gT q i).1) (str (gT q (i - 1)).1))) ?_
   refine WO.topP ((str (gT q i).1) = (str (gT q (i - 1)).1)) ?_ ?_
   ·
    intro h26
    refine WO.one (SA.F sameR sameT _ 17 _ (by kernel_rfl)) 40 (.bool true) (by kernel_rfl) ?_
    refine WO.doneA (by kernel_rfl) ?_
    refine WQ.keep [1, 2, 3, 19, 20, 40] (e' := [(1, .pointer (some ⟨g1, 0, none⟩)), (2, .pointer (some ⟨g6, 0, none⟩)), (3, .nilIface), (19, .int .i64 (n : Int)), (20, .int .i64 (i : Int)), (40, .bool true)]) (by kernel_rfl) ?_
    refine WQ.thenN ?_
    refine WE.condT (by kernel_rfl) ?_
    refine WE.seq ?_
    refine WE.region ?_
    refine WO.run 2 0 [(42, .iface 35 (.int .i64 5)), (41, .agg #[.string (⟨#[]⟩), .slice none 0 0, .int .i64 0, .int .i64 0, .int .i64 0])] (by kernel_rfl) (by kernel_rfl) ?_
    refine WO.st (SQ.E 2 (by kernel_rfl)) g6 0 [.string (⟨#[]⟩), .slice none 0 0, .int .i64 0, .int .i64 0, .int .i64 0] #[.string (⟨#[]⟩), .slice none 0 0, .int .i64 0, .int .i64 0, .int .i64 0] (by kernel_rfl) HB9 (by kernel_rfl) (by kernel_rfl) (fun _ _ => trivial) ?_
    intro w27 HB29 F28 _
    have HB19 := Blk.keep HB19 F28 (ninC ne_g1_g6 (nin0 _))
    have HRq := RowB.keep HRq F28 (ninC (Ne.symm ne_g6_gb) (nin0 _))
    have HT := HT.keep F28 (djB nin_g6_F)
    have HA := Fr.step HA F28 (inSR ge_HA_g6 inS0)
    refine WO.run 1 3 [(3, .iface 35 (.int .i64 5))] (by kernel_rfl) (by kernel_rfl) ?_
    refine WO.done (by kernel_rfl) ?_
    refine WQ.keep [1, 2, 3, 19, 20] (e' := [(1, .pointer (some ⟨g1, 0, none⟩)), (2, .pointer (some ⟨g6, 0, none⟩)), (3, .iface 35 (.int .i64 5)), (19, .int .i64 (n : Int)), (20, .int .i64 (i : Int))]) (by kernel_rfl) ?_
    refine WQ.thenN ?_
    refine WE.ret ?_
    refine WQ.blkR ?_
    refine WQ.thenR ?_
    refine WQ.thenR ?_
    refine WQ.blkR ?_
    refine WQ.thenR ?_
    refine WQ.ret2 (fn := Tryd.f50) (show Tryd.f50.results = #[.cell 2 25, .tmp 3] by kernel_rfl) (show resOk _ _ _ _ (.agg #[.string (⟨#[]⟩), .slice none 0 0, .int .i64 0, .int .i64 0, .int .i64 0]) from ⟨by kernel_rfl, ⟨g6, 0, none⟩, by kernel_rfl, ldVarB [.string (⟨#[]⟩), .slice none 0 0, .int .i64 0, .int .i64 0, .int .i64 0] (by kernel_rfl) (by kernel_rfl) (by kernel_rfl) HB29 (by kernel_rfl)⟩) (show resOk _ _ _ _ (.iface 35 (.int .i64 5)) from ⟨by kernel_rfl, by kernel_rfl⟩) ?_
    have hd_ : dupA q = true := dup_yes (i := i) (by omega) (by omega) (str_inj.1 (by assumption))
    rw [canon_of hpq hasq hmay, if_pos hd_]
    exact ResC.no HA
   intro h26
   refine WO.one (SA.F sameR sameT _ 17 _ (by kernel_rfl)) 40 (.bool false) (by kernel_rfl) ?_
   refine WO.doneA (by kernel_rfl) ?_
   refine WQ.keep [1, 2, 3, 19, 20, 40] (e' := [(1, .pointer (some ⟨g1, 0, none⟩)), (2, .pointer (some ⟨g6, 0, none⟩)), (3, .nilIface), (19, .int .i64 (n : Int)), (20, .int .i64 (i : Int)), (40, .bool false)]) (by kernel_rfl) ?_
   refine WQ.thenN ?_
   refine WE.condF (by kernel_rfl) ?_
   refine WE.skip ?_
   refine WQ.blkN ?_
   refine WQ.thenN ?_
   refine WE.region ?_
   refine WO.one (SQ.F 0 (by kernel_rfl)) 43 (.int .i64 (IntKind.i64.wrap ((i : Int) + 1))) (by kernel_rfl) ?_
   refine WO.top (v' := .int .i64 ((i + 1 : Nat) : Int)) (wrap_i64 (by omega) (by omega)) ?_
   refine WO.run 1 1 [(20, .int .i64 ((i + 1 : Nat) : Int))] (by kernel_rfl) (by kernel_rfl) ?_
   refine WO.done (by kernel_rfl) ?_
   refine WQ.keep [1, 2, 3, 19, 20] (e' := [(1, .pointer (some ⟨g1, 0, none⟩)), (2, .pointer (some ⟨g6, 0, none⟩)), (3, .nilIface), (19, .int .i64 (n : Int)), (20, .int .i64 ((i + 1 : Nat) : Int))]) (by kernel_rfl) ?_
   refine WQ.round ?_
   intro a_ ha_
   refine ⟨i + 1, ?_, ha_.keep [1, 2, 3, 19, 20] (by kernel_rfl), ?_⟩
   ·
    show n - (i + 1) < n - i; omega
   ·
    exact ⟨by omega, fun j h1_ h2_ => (Nat.lt_succ_iff_lt_or_eq.1 h2_).elim (hne j h1_) (fun h_ => by subst h_; first | omega | (intro e_; exact absurd (congrArg str e_) (by assumption))), HB9, HB19, HRq, HT, HA⟩
  intro h25
  refine WO.one (SA.F sameR sameT _ 2 _ (by kernel_rfl)) 25 (.bool false) (by kernel_rfl) ?_
  refine WO.off (SA.O sameR sameT _ 3 _ (by kernel_rfl)) 26 (by kernel_rfl) ?_
  refine WO.off (SA.O sameR sameT _ 4 _ (by kernel_rfl)) 27 (by kernel_rfl) ?_
  refine WO.off (SA.O sameR sameT _ 5 _ (by kernel_rfl)) 28 (by kernel_rfl) ?_
  refine WO.off (SA.O sameR sameT _ 6 _ (by kernel_rfl)) 29 (by kernel_rfl) ?_
  refine WO.off (SA.O sameR sameT _ 7 _ (by kernel_rfl)) 30 (by kernel_rfl) ?_
  refine WO.off (SA.O sameR sameT _ 8 _ (by kernel_rfl)) 31 (by kernel_rfl) ?_
  refine WO.off (SA.O sameR sameT _ 9 _ (by kernel_rfl)) 32 (by kernel_rfl) ?_
  refine WO.off (SA.O sameR sameT _ 10 _ (by kernel_rfl)) 33 (by kernel_rfl) ?_
  refine WO.off (SA.O sameR sameT _ 11 _ (by kernel_rfl)) 34 (by kernel_rfl) ?_
  refine WO.off (SA.O sameR sameT _ 12 _ (by kernel_rfl)) 35 (by kernel_rfl) ?_
  refine WO.off (SA.O sameR sameT _ 13 _ (by kernel_rfl)) 36 (by kernel_rfl) ?_
  refine WO.off (SA.O sameR sameT _ 14 _ (by kernel_rfl)) 37 (by kernel_rfl) ?_
  refine WO.off (SA.O sameR sameT _ 15 _ (by kernel_rfl)) 38 (by kernel_rfl) ?_
  refine WO.off (SA.O sameR sameT _ 16 _ (by kernel_rfl)) 39 (by kernel_rfl) ?_
  refine WO.one (SA.F sameR sameT _ 17 _ (by kernel_rfl)) 40 (.bool false) (by kernel_rfl) ?_
  refine WO.doneA (by kernel_rfl) ?_
  refine WQ.keep [1, 2, 3, 19, 20, 40] (e' := [(1, .pointer (some ⟨g1, 0, none⟩)), (2, .pointer (some ⟨g6, 0, none⟩)), (3, .nilIface), (19, .int .i64 (n : Int)), (20, .int .i64 (i : Int)), (40, .bool false)]) (by kernel_rfl) ?_
  refine WQ.thenN ?_
  refine WE.condF (by kernel_rfl) ?_
  refine WE.skip ?_
  refine WQ.blkN ?_
  refine WQ.thenN ?_
  refine WE.region ?_
  refine WO.one (SQ.F 0 (by kernel_rfl)) 43 (.int .i64 (IntKind.i64.wrap ((i : Int) + 1))) (by kernel_rfl) ?_
  refine WO.top (v' := .int .i64 ((i + 1 : Nat) : Int)) (wrap_i64 (by omega) (by omega)) ?_
  refine WO.run 1 1 [(20, .int .i64 ((i + 1 : Nat) : Int))] (by kernel_rfl) (by kernel_rfl) ?_
  refine WO.done (by kernel_rfl) ?_
  refine WQ.keep [1, 2, 3, 19, 20] (e' := [(1, .pointer (some ⟨g1, 0, none⟩)), (2, .pointer (some ⟨g6, 0, none⟩)), (3, .nilIface), (19, .int .i64 (n : Int)), (20, .int .i64 ((i + 1 : Nat) : Int))]) (by kernel_rfl) ?_
  refine WQ.round ?_
  intro a_ ha_
  refine ⟨i + 1, ?_, ha_.keep [1, 2, 3, 19, 20] (by kernel_rfl), ?_⟩
  ·
   show n - (i + 1) < n - i; omega
  ·
   exact ⟨by omega, fun j h1_ h2_ => (Nat.lt_succ_iff_lt_or_eq.1 h2_).elim (hne j h1_) (fun h_ => by subst h_; first | omega | (intro e_; exact absurd (congrArg str e_) (by assumption))), HB9, HB19, HRq, HT, HA⟩
 intro h22
 refine WO.done (by kernel_rfl) ?_
 refine WQ.keep [1, 2, 3, 19, 20, 21] (e' := [(1, .pointer (some ⟨g1, 0, none⟩)), (2, .pointer (some ⟨g6, 0, none⟩)), (3, .nilIface), (19, .int .i64 (n : Int)), (20, .int .i64 (i : Int)), (21, .bool false)]) (by kernel_rfl) ?_
 refine WQ.thenN ?_
 refine WE.seq ?_
 refine WE.condF (by kernel_rfl) ?_
 refine WE.exit ?_
 refine WQ.thenE ?_
 refine WQ.thenE ?_
 refine WQ.blkE ?_
 refine WQ.thenN ?_
 refine WE.seq ?_
 refine WE.region ?_
 refine WO.ldB (SQ.S 0 (by kernel_rfl)) 44 [.string (str ev.name), .slice (some ⟨gb, 0, none⟩) n cb, .int .i64 ev.kind, .int .i64 ev.value, .int .i64 ev.time] g1 0 (by kernel_rfl) (by kernel_rfl) (same HB19) (by kernel_rfl) ?_
 refine WO.st (SQ.E 1 (by kernel_rfl)) g6 0 [.string (str ev.name), .slice (some ⟨gb, 0, none⟩) n cb, .int .i64 ev.kind, .int .i64 ev.value, .int .i64 ev.time] #[.string (str ev.name), .slice (some ⟨gb, 0, none⟩) n cb, .int .i64 ev.kind, .int .i64 ev.value, .int .i64 ev.time] (by kernel_rfl) HB9 (by kernel_rfl) (by kernel_rfl) (fun _ _ => trivial) ?_
 intro w30 HB32 F31 _
 have HB19 := Blk.keep HB19 F31 (ninC ne_g1_g6 (nin0 _))
 have HRq := RowB.keep HRq F31 (ninC (Ne.symm ne_g6_gb) (nin0 _))
 have HT := HT.keep F31 (djB nin_g6_F)
 have HA := Fr.step HA F31 (inSR ge_HA_g6 inS0)
 refine WO.run 1 2 [(3, .nilIface)] (by kernel_rfl) (by kernel_rfl) ?_
 refine WO.done (by kernel_rfl) ?_
 refine WQ.keep [2, 3] (e' := [(2, .pointer (some ⟨g6, 0, none⟩)), (3, .nilIface)]) (by kernel_rfl) ?_
 refine WQ.thenN ?_
 refine WE.ret ?_
 refine WQ.ret2 (fn := Tryd.f50) (show Tryd.f50.results = #[.cell 2 25, .tmp 3] by kernel_rfl) (show resOk _ _ _ _ (.agg #[.string (str ev.name), .slice (some ⟨gb, 0, none⟩) n cb, .int .i64 ev.kind, .int .i64 ev.value, .int .i64 ev.time]) from ⟨by kernel_rfl, ⟨g6, 0, none⟩, by kernel_rfl, ldVarB [.string (str ev.name), .slice (some ⟨gb, 0, none⟩) n cb, .int .i64 ev.kind, .int .i64 ev.value, .int .i64 ev.time] (by kernel_rfl) (by kernel_rfl) (by kernel_rfl) HB32 (by kernel_rfl)⟩) (show resOk _ _ _ _ .nilIface from ⟨by kernel_rfl, by kernel_rfl⟩) ?_
 have hd_ : dupA q = false := dup_no (fun j h1_ h2_ => hne j h1_ (by omega))
 rw [canon_of hpq hasq hmay, if_neg (by rw [hd_]; simp)]
 have hle_ := HRq.le
 rw [List.length_map] at hle_
 exact ResC.ok (ev := { ev with tags := q }) hql (by omega) (VX.of_row HRq) (by intro y hy; rw [List.mem_singleton.1 hy]; exact ge_HA_gb) HA
theorem canon_f (ev : Ev) (A : Option Addr) (n cp : Nat) (F : List Nat) (w : World) (HT : VX cT 2 w F A ev.tags) (hn : ev.tags.length = n) (hnn : n ≤ 9223372036854775807) (hln : ev.name.length ≤ 9223372036854775807) (hlt : ∀ t ∈ ev.tags, t.1.length ≤ 9223372036854775807 ∧ t.2.length ≤ 9223372036854775807) :
  Calls Tryd.prog 50 #[.agg #[.string (str ev.name), .slice A n cp, .int .i64 ev.kind, .int .i64 ev.value, .int .i64 ev.time]] w fun e w' => ResC w w' e (canonE ev) := by
 cases hmay : mayE ev with
 | false =>
  rw [canon_no hmay]
  exact (canon_bad ev A n cp F w HT hn hnn hln hlt hmay).mono fun e w' h => h
 | true =>
  by_cases h0 : 0 < n
  ·
   obtain ⟨ad, rfl⟩ := HT.addr (i := 0) (by omega)
   exact canon_some ev ad n cp F w HT hn h0 hln hlt hmay
  ·
   obtain rfl : n = 0 := by omega
   have he : canonE ev = .inl ev := by
    have ht := List.length_eq_zero_iff.1 hn
    exact canon_fix hmay (by rw [ht]; exact List.Pairwise.nil)
   rw [he]
   cases A with
   | none => exact canon_nil ev cp F w HT hn hln hlt hmay
   | some ad => exact canon_emp ev ad cp F w HT hn hln hlt hmay
set_option maxRecDepth 100000 in
set_option maxHeartbeats 400000 in
theorem key_g (ev : Ev) (A : Option Addr) (n cp : Nat) (F : List Nat) (w : World) (HT : VX cT 2 w F A ev.tags) (hn : ev.tags.length = n) (hnn : n ≤ 9223372036854775807) (hln : ev.name.length ≤ 9223372036854775807) (hlt : ∀ t ∈ ev.tags, t.1.length ≤ 9223372036854775807 ∧ t.2.length ≤ 9223372036854775807) (hv : -9223372036854775808 ≤ ev.value ∧ ev.value ≤ 9223372036854775807) (hF2 : 2 ∉ F) (HTab : Lib.TabIs Tryd.prog w "internal/strconv.uint64pow10" .u64 Lib.pow10Tab) (HM : MaxI w) :
  Calls Tryd.prog 28 #[.agg #[.string (str ev.name), .slice A n cp, .int .i64 ev.kind, .int .i64 ev.value, .int .i64 ev.time]] w fun e w' => ResK w w' e (keyE ev) := by
 have HA := Fr.refl [] w
 refine enter (N := 33) Tryd.func28 (c := _) rfl (by kernel_rfl) (by kernel_rfl) (e := [(0, .agg #[.string (str ev.name), .slice A n cp, .int .i64 ev.kind, .int .i64 ev.value, .int .i64 ev.time])]) (by kernel_rfl) ?_
 refine WE.seq ?_
 refine WE.region ?_
 refine WO.bx (SQ.E 0 (by kernel_rfl)) 1 #[.string (str ev.name), .slice A n cp, .int .i64 ev.kind, .int .i64 ev.value, .int .i64 ev.time] 25 (fun g => .pointer (some ⟨g, 0, none⟩)) (by kernel_rfl) (fun _ _ => trivial) ?_
 intro g1 w2 HB4 F3 le5 _
 have nin_g1_F : g1 ∉ F := new_nin HT.lt le5
 have ne_2_g1 : 2 ≠ g1 := Nat.ne_of_lt (Nat.lt_of_lt_of_le (tab_lt HTab) le5)
 have ne_1_g1 : 1 ≠ g1 := Nat.ne_of_lt (Nat.lt_of_lt_of_le (max_lt HM) le5)
 have ge_HA_g1 := Nat.le_trans HA.size le5
 have HT := HT.keep F3 (fun _ _ => nin0 _)
 have HTab := tab_keep HTab F3 (nin0 _)
 have HM := max_keep HM F3 (nin0 _)
 have HA := Fr.step0 HA F3
 refine WO.run 2 1 [(3, .nilIface), (2, .string (⟨#[]⟩))] (by kernel_rfl) (by kernel_rfl) ?_
 refine WO.done (by kernel_rfl) ?_
 refine WQ.keep [1, 2, 3] (e' := [(1, .pointer (some ⟨g1, 0, none⟩)), (2, .string (⟨#[]⟩)), (3, .nilIface)]) (by kernel_rfl) ?_
 refine WQ.thenN ?_
 refine WE.seq ?_
 refine WE.region ?_
 refine WO.ldB (SQ.S 0 (by kernel_rfl)) 11 [.string (str ev.name), .slice A n cp, .int .i64 ev.kind, .int .i64 ev.value, .int .i64 ev.time] g1 0 (by kernel_rfl) (by kernel_rfl) (same HB4) (by kernel_rfl) ?_
 refine WO.call (SQ.E 1 (by kernel_rfl)) 12 (by kernel_rfl) (canon_f ev A n cp F _ HT hn hnn hln hlt) ?_
 intro e_ w6 hr_
 cases hc_ : canonE ev
 rotate_left
 ·
  rename_i co
  rw [hc_] at hr_
  obtain ⟨rfl, F7⟩ := hr_
  refine ⟨_, rfl, trivial, ?_⟩
  have HB4 := Blk.keep HB4 F7 (nin0 _)
  have HT := HT.keep F7 (fun _ _ => nin0 _)
  have HTab := tab_keep HTab F7 (nin0 _)
  have HM := max_keep HM F7 (nin0 _)
  have HA := Fr.step0 HA F7
  refine WO.run 3 2 [(14, .iface 35 (.int .i64 co)), (13, .agg #[.string (⟨#[]⟩), .slice none 0 0, .int .i64 0, .int .i64 0, .int .i64 0]), (10, .tuple #[.agg #[.string (⟨#[]⟩), .slice none 0 0, .int .i64 0, .int .i64 0, .int .i64 0], .iface 35 (.int .i64 co)])] (by kernel_rfl) (by kernel_rfl) ?_
  refine WO.bx (SQ.E 5 (by kernel_rfl)) 4 #[.string (⟨#[]⟩), .slice none 0 0, .int .i64 0, .int .i64 0, .int .i64 0] 25 (fun g => .pointer (some ⟨g, 0, none⟩)) (by kernel_rfl) (fun _ _ => trivial) ?_
  intro g8 w9 HB11 F10 le12 _
  have ne_g1_g8 : g1 ≠ g8 := Nat.ne_of_lt (Nat.lt_of_lt_of_le HB4.lt le12)
  have nin_g8_F : g8 ∉ F := new_nin HT.lt le12
  have ne_2_g8 : 2 ≠ g8 := Nat.ne_of_lt (Nat.lt_of_lt_of_le (tab_lt HTab) le12)
  have ne_1_g8 : 1 ≠ g8 := Nat.ne_of_lt (Nat.lt_of_lt_of_le (max_lt HM) le12)
  have ge_HA_g8 := Nat.le_trans HA.size le12
  have HB4 := Blk.keep HB4 F10 (nin0 _)
  have HT := HT.keep F10 (fun _ _ => nin0 _)
  have HTab := tab_keep HTab F10 (nin0 _)
  have HM := max_keep HM F10 (nin0 _)
  have HA := Fr.step0 HA F10
  refine WO.st (SQ.E 6 (by kernel_rfl)) g8 0 [.string (⟨#[]⟩), .slice none 0 0, .int .i64 0, .int .i64 0, .int .i64 0] #[.string (⟨#[]⟩), .slice none 0 0, .int .i64 0, .int .i64 0, .int .i64 0] (by kernel_rfl) HB11 (by kernel_rfl) (by kernel_rfl) (fun _ _ => trivial) ?_
  intro w13 HB15 F14 _
  have HB4 := Blk.keep HB4 F14 (ninC ne_g1_g8 (nin0 _))
  have HT := HT.keep F14 (djB nin_g8_F)
  have HTab := tab_keep HTab F14 (ninC ne_2_g8 (nin0 _))
  have HM := max_keep HM F14 (ninC ne_1_g8 (nin0 _))
  have HA := Fr.step HA F14 (inSR ge_HA_g8 inS0)
  refine WO.run 1 7 [(5, .iface 35 (.int .i64 co))] (by kernel_rfl) (by kernel_rfl) ?_
  refine WO.done (by kernel_rfl) ?_
  refine WQ.keep [2, 3, 4, 5] (e' := [(2, .string (⟨#[]⟩)), (3, .nilIface), (4, .pointer (some ⟨g8, 0, none⟩)), (5, .iface 35 (.int .i64 co))]) (by kernel_rfl) ?_
  refine WQ.thenN ?_
  refine WE.seq ?_
  refine WE.seq ?_
  refine WE.region ?_
  refine WO.run 2 0 [(16, .bool true), (15, .iface 35 (.int .i64 co))] (by kernel_rfl) (by kernel_rfl) ?_
  refine WO.done (by kernel_rfl) ?_
  refine WQ.keep [2, 3, 4, 5, 16] (e' := [(2, .string (⟨#[]⟩)), (3, .nilIface), (4, .pointer (some ⟨g8, 0, none⟩)), (5, .iface 35 (.int .i64 co)), (16, .bool true)]) (by kernel_rfl) ?_
  refine WQ.thenN ?_
  refine WE.condT (by kernel_rfl) ?_
  refine WE.seq ?_
  refine WE.region ?_
  refine WO.run 3 0 [(3, .iface 35 (.int .i64 co)), (2, .string (⟨#[]⟩)), (17, .iface 35 (.int .i64 co))] (by kernel_rfl) (by kernel_rfl) ?_
  refine WO.done (by kernel_rfl) ?_
  refine WQ.keep [2, 3, 4, 5] (e' := [(2, .string (⟨#[]⟩)), (3, .iface 35 (.int .i64 co)), (4, .pointer (some ⟨g8, 0, none⟩)), (5, .iface 35 (.int .i64 co))]) (by kernel_rfl) ?_
  refine WQ.thenN ?_
  refine WE.ret ?_
  refine WQ.thenR ?_
  refine WQ.ret (v := .tuple #[.string (⟨#[]⟩), .iface 35 (.int .i64 co)]) (by kernel_rfl) ?_
  rw [show keyE ev = .inr co from by unfold keyE; rw [hc_]]
  exact ⟨rfl, HA⟩
 ·
  rename_i cn
  rw [hc_] at hr_
  obtain ⟨A2_, n2_, c2_, F2_, rfl, HT2_, hn2_, hc2_, hg2_, F7⟩ := hr_
  obtain ⟨hmy, hce, hnd, hmc⟩ := canon_may hc_
  obtain ⟨hy1, hy2, hy3, hy4, hy5, hy6⟩ := may_parts hmc
  have hwl_ := word_len hy2
  have hvl_ : cn.value = ev.value := by rw [hce]
  refine ⟨_, rfl, trivial, ?_⟩
  have hg2r_ := fun y hy => Or.inr (a := y ∈ ([] : List Nat)) (hg2_ y hy)
  have nin_g1_F2_ : g1 ∉ F2_ := grow_nin hg2r_ (nin0 _) HB4.lt
  have nin_2_F2_ : 2 ∉ F2_ := grow_nin hg2r_ (nin0 _) ((tab_lt HTab))
  have nin_1_F2_ : 1 ∉ F2_ := grow_nin hg2r_ (nin0 _) ((max_lt HM))
  have dj_F2__F : ∀ y ∈ F2_, y ∉ F := grow_dj hg2r_ (by simp) HT.lt
  have ge_HA_F2_ : ∀ y ∈ F2_, (World.heap w).size ≤ y := grow_ge hg2r_ (by simp) HA.size
  have HB4 := Blk.keep HB4 F7 (nin0 _)
  have HT := HT.keep F7 (fun _ _ => nin0 _)
  have HTab := tab_keep HTab F7 (nin0 _)
  have HM := max_keep HM F7 (nin0 _)
  have HA := Fr.step0 HA F7
  refine WO.run 3 2 [(14, .nilIface), (13, .agg #[.string (str cn.name), .slice A2_ n2_ c2_, .int .i64 cn.kind, .int .i64 cn.value, .int .i64 cn.time]), (10, .tuple #[.agg #[.string (str cn.name), .slice A2_ n2_ c2_, .int .i64 cn.kind, .int .i64 cn.value, .int .i64 cn.time], .nilIface])] (by kernel_rfl) (by kernel_rfl) ?_
  refine WO.bx (SQ.E 5 (by kernel_rfl)) 4 #[.string (⟨#[]⟩), .slice none 0 0, .int .i64 0, .int .i64 0, .int .i64 0] 25 (fun g => .pointer (some ⟨g, 0, none⟩)) (by kernel_rfl) (fun _ _ => trivial) ?_
  intro g16 w17 HB19 F18 le20 _
  have ne_g1_g16 : g1 ≠ g16 := Nat.ne_of_lt (Nat.lt_of_lt_of_le HB4.lt le20)
  have nin_g16_F : g16 ∉ F := new_nin HT.lt le20
  have nin_g16_F2_ : g16 ∉ F2_ := new_nin HT2_.lt le20
  have ne_2_g16 : 2 ≠ g16 := Nat.ne_of_lt (Nat.lt_of_lt_of_le (tab_lt HTab) le20)
  have ne_1_g16 : 1 ≠ g16 := Nat.ne_of_lt (Nat.lt_of_lt_of_le (max_lt HM) le20)
  have ge_HA_g16 := Nat.le_trans HA.size le20
  have HB4 := Blk.keep HB4 F18 (nin0 _)
  have HT := HT.keep F18 (fun _ _ => nin0 _)
  have HT2_ := HT2_.keep F18 (fun _ _ => nin0 _)
  have HTab := tab_keep HTab F18 (nin0 _)
  have HM := max_keep HM F18 (nin0 _)
  have HA := Fr.step0 HA F18
  refine WO.st (SQ.E 6 (by kernel_rfl)) g16 0 [.string (str cn.name), .slice A2_ n2_ c2_, .int .i64 cn.kind, .int .i64 cn.value, .int .i64 cn.time] #[.string (str cn.name), .slice A2_ n2_ c2_, .int .i64 cn.kind, .int .i64 cn.value, .int .i64 cn.time] (by kernel_rfl) HB19 (by kernel_rfl) (by kernel_rfl) (fun _ _ => trivial) ?_
  intro w21 HB23 F22 _
  have HB4 := Blk.keep HB4 F22 (ninC ne_g1_g16 (nin0 _))
  have HT := HT.keep F22 (djB nin_g16_F)
  have HT2_ := HT2_.keep F22 (djB nin_g16_F2_)
  have HTab := tab_keep HTab F22 (ninC ne_2_g16 (nin0 _))
  have HM := max_keep HM F22 (ninC ne_1_g16 (nin0 _))
  have HA := Fr.step HA F22 (inSR ge_HA_g16 inS0)
  refine WO.run 1 7 [(5, .nilIface)] (by kernel_rfl) (by kernel_rfl) ?_
  refine WO.done (by kernel_rfl) ?_
  refine WQ.keep [2, 3, 4, 5] (e' := [(2, .string (⟨#[]⟩)), (3, .nilIface), (4, .pointer (some ⟨g16, 0, none⟩)), (5, .nilIface)]) (by kernel_rfl) ?_
  refine WQ.thenN ?_
  refine WE.seq ?_
  refine WE.seq ?_
  refine WE.region ?_
  refine WO.run 2 0 [(16, .bool false), (15, .nilIface)] (by kernel_rfl) (by kernel_rfl) ?_
  refine WO.done (by kernel_rfl) ?_
  refine WQ.keep [2, 3, 4, 5, 16] (e' := [(2, .string (⟨#[]⟩)), (3, .nilIface), (4, .pointer (some ⟨g16, 0, none⟩)), (5, .nilIface), (16, .bool false)]) (by kernel_rfl) ?_
  refine WQ.thenN ?_
  refine WE.condF (by kernel_rfl) ?_
  refine WE.skip ?_
  refine WQ.thenN ?_
  refine WE.seq ?_
  refine WE.region ?_
  refine WO.ldB (SQ.S 0 (by kernel_rfl)) 19 [.string (str cn.name), .slice A2_ n2_ c2_, .int .i64 cn.kind, .int .i64 cn.value, .int .i64 cn.time] g16 0 (by kernel_rfl) (by kernel_rfl) (same HB23) (by kernel_rfl) ?_
  refine WO.call (SQ.E 1 (by kernel_rfl)) 20 (by kernel_rfl) (print_l cn A2_ n2_ c2_ F2_ _ HT2_ hn2_ (by omega) (by omega) (fun t h_ => by have a_ := word_len (hy1 t h_).1; have b_ := word_len (hy1 t h_).2; omega) hmc (few_of hmc) hy4 (by omega) (by omega) HTab nin_2_F2_) ?_
  rintro _ w24 ⟨rfl, F25⟩
  refine ⟨_, rfl, trivial, ?_⟩
  have HB4 := Blk.keep HB4 F25 (nin0 _)
  have HB23 := Blk.keep HB23 F25 (nin0 _)
  have HT := HT.keep F25 (fun _ _ => nin0 _)
  have HT2_ := HT2_.keep F25 (fun _ _ => nin0 _)
  have HTab := tab_keep HTab F25 (nin0 _)
  have HM := max_keep HM F25 (nin0 _)
  have HA := Fr.step0 HA F25
  refine WO.run 5 2 [(5, .nilIface), (6, .string (str (printT cn))), (22, .nilIface), (21, .string (str (printT cn))), (18, .tuple #[.string (str (printT cn)), .nilIface])] (by kernel_rfl) (by kernel_rfl) ?_
  refine WO.done (by kernel_rfl) ?_
  refine WQ.keep [2, 3, 5, 6] (e' := [(2, .string (⟨#[]⟩)), (3, .nilIface), (5, .nilIface), (6, .string (str (printT cn)))]) (by kernel_rfl) ?_
  refine WQ.thenN ?_
  refine WE.seq ?_
  refine WE.seq ?_
  refine WE.region ?_
  refine WO.run 2 0 [(24, .bool false), (23, .nilIface)] (by kernel_rfl) (by kernel_rfl) ?_
  refine WO.done (by kernel_rfl) ?_
  refine WQ.keep [2, 3, 5, 6, 24] (e' := [(2, .string (⟨#[]⟩)), (3, .nilIface), (5, .nilIface), (6, .string (str (printT cn))), (24, .bool false)]) (by kernel_rfl) ?_
  refine WQ.thenN ?_
  refine WE.condF (by kernel_rfl) ?_
  refine WE.skip ?_
  refine WQ.thenN ?_
  refine WE.seq ?_
  refine WE.region ?_
  refine WO.run 1 0 [(27, .string (str (printT cn)))] (by kernel_rfl) (by kernel_rfl) ?_
  refine WO.call (SQ.E 1 (by kernel_rfl)) 28 (by kernel_rfl) (cut_f hmc (by omega) _ HM) ?_
  rintro _ w26 ⟨R_, rfl, F27⟩
  refine ⟨_, rfl, trivial, ?_⟩
  have HB4 := Blk.keep HB4 F27 (nin0 _)
  have HB23 := Blk.keep HB23 F27 (nin0 _)
  have HT := HT.keep F27 (fun _ _ => nin0 _)
  have HT2_ := HT2_.keep F27 (fun _ _ => nin0 _)
  have HTab := tab_keep HTab F27 (nin0 _)
  have HM := max_keep HM F27 (nin0 _)
  have HA := Fr.step0 HA F27
  refine WO.run 7 2 [(9, .bool true), (8, .string R_), (7, .string (str (headT cn))), (31, .bool true), (30, .string R_), (29, .string (str (headT cn))), (26, .tuple #[.string (str (headT cn)), .string R_, .bool true])] (by kernel_rfl) (by kernel_rfl) ?_
  refine WO.done (by kernel_rfl) ?_
  refine WQ.keep [2, 3, 7] (e' := [(2, .string (⟨#[]⟩)), (3, .nilIface), (7, .string (str (headT cn)))]) (by kernel_rfl) ?_
  refine WQ.thenN ?_
  refine WE.seq ?_
  refine WE.region ?_
  refine WO.run 3 0 [(3, .nilIface), (2, .string (str (headT cn))), (32, .string (str (headT cn)))] (by kernel_rfl) (by kernel_rfl) ?_
  refine WO.done (by kernel_rfl) ?_
  refine WQ.keep [2, 3] (e' := [(2, .string (str (headT cn))), (3, .nilIface)]) (by kernel_rfl) ?_
  refine WQ.thenN ?_
  refine WE.ret ?_
  refine WQ.ret (v := .tuple #[.string (str (headT cn)), .nilIface]) (by kernel_rfl) ?_
  rw [show keyE ev = .inl (headT cn) from by unfold keyE; rw [hc_]]
  exact ⟨rfl, HA⟩
end Go.Proofs.YtdhonbahpcmmnaaDoor.Line
