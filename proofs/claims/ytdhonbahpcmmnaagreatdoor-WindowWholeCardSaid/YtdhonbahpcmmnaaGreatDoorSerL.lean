/- Layer 5's walks: Canon, Key, Of. -/
import Derived.Test.YtdhonbahpcmmnaaGreatDoorSerS
import Derived.Test.YtdhonbahpcmmnaaGreatDoorEngC
section
set_option linter.unusedVariables false
set_option linter.unusedSimpArgs false
namespace Go.Proofs.YtdhonbahpcmmnaaGreatDoor.Line
open Go Go.RowKit Go.Proofs.YtdhonbahpcmmnaaGreatDoor Go.Proofs.YtdhonbahpcmmnaaGreatDoor.Eng Go.Proofs.YtdhonbahpcmmnaaGreatDoorW.PrintWords
open Go.Proofs
def MaxI (w : World) : Prop := ∃ m, w.cell? ⟨0, 0, none⟩ = some (.int .i64 m)
theorem max_lt {w : World} (h : MaxI w) : 0 < w.heap.size := by
  obtain ⟨m, h⟩ := h
  exact World.block_lt_of_cell? w _ h
theorem max_keep {w w1 : World} {S : List Nat} (h : MaxI w) (k : Fr S w w1) (hn : 0 ∉ S) : MaxI w1 := by
  have hlt := max_lt h
  obtain ⟨m, h⟩ := h
  exact ⟨m, (World.cell?_of_block (w := w) (k.block 0 hlt hn)).trans h⟩
theorem MaxI.k {w w1 : World} (h : MaxI w) (k : Fr [] w w1) : MaxI w1 := max_keep h k (by simp)
theorem dup_yes : ∀ {q : Tgs} {i : Nat}, 0 < i → i < q.length → (gT q i).1 = (gT q (i - 1)).1 → dupA q = true
  | [], i, _, h, _ => by simp at h
  | [a], i, h0, h, _ => by simp at h; omega
  | a :: b :: q, i, h0, h, he => by
    unfold dupA
    by_cases h1 : i = 1
    · subst h1
      rw [show (decide (a.1 = b.1)) = true from decide_eq_true (Eq.symm he), Bool.true_or]
    · obtain ⟨j, rfl⟩ : ∃ j, i = j + 1 := ⟨i - 1, by omega⟩
      have := dup_yes (q := b :: q) (i := j) (by omega) (by simp at h ⊢; omega) (by
        obtain ⟨k, rfl⟩ : ∃ k, j = k + 1 := ⟨j - 1, by omega⟩
        exact he)
      rw [this, Bool.or_true]
theorem dup_no : ∀ {q : Tgs}, (∀ j, 0 < j → j < q.length → (gT q j).1 ≠ (gT q (j - 1)).1) → dupA q = false
  | [], _ => rfl
  | [a], _ => rfl
  | a :: b :: q, h => by
    unfold dupA
    have h1 := h 1 (by omega) (by simp)
    have ih := dup_no (q := b :: q) (fun j hj hl => by
      have := h (j + 1) (by omega) (by simp at hl ⊢; omega)
      obtain ⟨k, rfl⟩ : ∃ k, j = k + 1 := ⟨j - 1, by omega⟩
      exact this)
    rw [ih, Bool.or_false, decide_eq_false_iff_not]
    exact fun e => h1 e.symm
def ResC (w w' : World) (e : Ending) : Sum Ev Int → Prop
  | .inr c => e = .returned (.tuple #[.agg #[.string (⟨#[]⟩), .slice none 0 0, .int .i64 0, .int .i64 0, .int .i64 0], .iface 32 (.int .i64 c)]) ∧ Fr [] w w'
  | .inl ev => ResL w w' e (.inl ev)
theorem ResC.no {w w' : World} {c : Int} (h : Fr [] w w') : ResC w w' (.returned (.tuple #[.agg #[.string (⟨#[]⟩), .slice none 0 0, .int .i64 0, .int .i64 0, .int .i64 0], .iface 32 (.int .i64 c)])) (.inr c) := ⟨rfl, h⟩
theorem ResC.ok {w w' : World} {ev : Ev} {A : Option Addr} {n cp : Nat} {F : List Nat} (hn : ev.tags.length = n) (hc : n ≤ cp) (hT : VX cT 2 w' F A ev.tags) (hg : ∀ y ∈ F, w.heap.size ≤ y) (h : Fr [] w w') : ResC w w' (.returned (.tuple #[.agg #[.string (str ev.name), .slice A n cp, .int .i64 ev.kind, .int .i64 ev.value, .int .i64 ev.time], .nilIface])) (.inl ev) := ⟨A, n, cp, F, rfl, hT, hn, hc, hg, h⟩
def ResK (w w' : World) (e : Ending) : Sum L Int → Prop
  | .inr c => e = .returned (.tuple #[.string ⟨#[]⟩, .iface 32 (.int .i64 c)]) ∧ Fr [] w w'
  | .inl k => e = .returned (.tuple #[.string (str k), .nilIface]) ∧ Fr [] w w'
def ResO (w w' : World) (e : Ending) : Option (L × Tgs) → Prop
  | none => e = .returned (.tuple #[.agg #[.string (⟨#[]⟩), .slice none 0 0, .int .i64 0, .int .i64 0, .int .i64 0], .iface 32 (.int .i64 2)]) ∧ Fr [] w w'
  | some x => ∃ A n cp F, e = .returned (.tuple #[.agg #[.string (str x.1), .slice A n cp, .int .i64 0, .int .i64 0, .int .i64 0], .nilIface]) ∧ VX cT 2 w' F A x.2 ∧ x.2.length = n ∧ n ≤ cp ∧ (∀ y ∈ F, w.heap.size ≤ y) ∧ Fr [] w w'
theorem of_long {k : L} (h : 294 < k.length) : ofE k = none := if_pos h
theorem of_no {k : L} {q : Nat} (h : k.length ≤ 294) (h1 : parseP (k ++ tailT) = .inr q) : ofE k = none := by
  unfold ofE
  rw [if_neg (by omega), h1]
theorem of_nk {k : L} {y : Ev} (h : k.length ≤ 294) (h1 : parseP (k ++ tailT) = .inl y) (h2 : keyE y ≠ .inl k) : ofE k = none := by
  unfold ofE
  rw [if_neg (by omega), h1]
  exact if_neg h2
theorem of_some {k : L} {y : Ev} (h : k.length ≤ 294) (h1 : parseP (k ++ tailT) = .inl y) (h2 : keyE y = .inl k) : ofE k = some (y.name, y.tags) := by
  unfold ofE
  rw [if_neg (by omega), h1]
  exact if_pos h2
theorem cut_f {cn : Ev} (hm : mayE cn = true) (hv : -9223372036854775808 ≤ cn.value ∧ cn.value ≤ 9223372036854775807) (w : World) (HM : MaxI w) :
    Calls Tryz.prog 88 #[.string (str (printT cn)), .string ⟨#[32]⟩] w fun e w' => ∃ R, e = .returned (.tuple #[.string (str (headT cn)), .string R, .bool true]) ∧ Fr [] w w' := by
  obtain ⟨m, hcell⟩ := HM
  have hl := print_len hm hv
  refine (Tryz.strings_Cut (str (printT cn)) ⟨#[32]⟩ m w (by rw [str_size]; omega) hcell).mono ?_
  rintro e w' ⟨rfl, q, rfl⟩
  have hc : Lib.cut (str (printT cn)).data.toList (⟨#[32]⟩ : ByteArray).data.toList = _ := cut_print hm
  rw [hc]
  exact ⟨_, rfl, rfl, rfl, rfl, Nat.le_refl _, fun i hi _ => rfl⟩
set_option maxRecDepth 100000 in
set_option maxHeartbeats 400000 in
theorem clone_t (ad : Addr) (n cp : Nat) (q : List (L × L)) (F : List Nat) (w : World) (HT : VX cT 2 w F (some ad) q) (hn : q.length = n) (hl : n ≤ 1000000) :
    Calls Tryz.prog 116 #[.slice (some ad) n cp] w fun e w' => ∃ b cap, e = .returned (.slice (some ⟨b, 0, none⟩) n cap) ∧ RowB w' b 143 2 cap (q.map cT) ∧ Fr [] w w' ∧ w.heap.size ≤ b := by
 have HA := Fr.refl [] w
 refine Ze Tryz.func116 _ <| Zsg <| Zr 1 <| Zdn <| Zq <| Zsg <| Zr 2 <| Zdn <| ZF <| Zk <| Zsg <| Zb 5 #[] 143 (fun g => .slice (some ⟨g, 0, none⟩) 0 0) ?_
 intro g1 w2 HB4 F3 le5 _
 have ge_HA_g1 := Nat.le_trans HA.size le5
 refine Zr 1 ?_
 have HR11 := RowB.of_blk (n := 0) HB4 (List.map cT []) rfl rfl (cT_len _) (cT_one _) (by omega)
 refine Zar (n := 0) (m := n) (ys := List.map cT q) 7 et_t HR11 ((List.length_map _).trans ((rfl : List.length ([] : List (L × L)) = 0))) ((HT.keep F3 dj0).srcN hn (cT_len _) (cT_one _) cp) (cT_len _) (cT_one _) ?_
 intro b6 cap7 w8 HR9 F10 hb12
 have HA := HA.step0 F3
 have in_HA_b6 : b6 ∈ [] ∨ (World.heap w).size ≤ b6 := hb12.elim (fun h => Or.inr (h ▸ ge_HA_g1)) (fun h => Or.inr (Nat.le_trans HA.size h))
 have HR9 : RowB w8 b6 143 2 cap7 ((([] : List (L × L)) ++ q).map cT) := by rw [List.map_append]; exact HR9
 refine Zr 1 <| Zdn <| WE.ret <| ZR (.slice (some ⟨b6, 0, none⟩) (0 + n) cap7) ?_
 have h_ := HR9
 rw [List.nil_append] at h_
 exact ⟨b6, cap7, by rw [Nat.zero_add], h_, (HA.step F10 (inSR ge_HA_g1 inS0)), in_HA_b6.resolve_left (by simp)⟩
set_option maxRecDepth 100000 in
set_option maxHeartbeats 400000 in
theorem clone_nil (cp : Nat) (w : World) :
    Calls Tryz.prog 116 #[.slice none 0 cp] w fun e w' => e = .returned (.slice none 0 0) ∧ Fr [] w w' := by
 have HA := Fr.refl [] w
 refine Ze Tryz.func116 _ <| Zsg <| Zr 1 <| Zdn <| Zq <| Zsg <| Zr 2 <| Zdn <| ZT <| Zsg <| Zr 1 <| Zdn <| WE.ret <| WQ.thenR <| ZR (.slice none 0 0) ?_
 exact ⟨rfl, HA⟩
set_option maxRecDepth 100000 in
set_option maxHeartbeats 400000 in
theorem canon_bad (ev : Ev) (A : Option Addr) (n cp : Nat) (F : List Nat) (w : World) (HT : VX cT 2 w F A ev.tags) (hn : ev.tags.length = n) (hnn : n ≤ 9223372036854775807) (hln : ev.name.length ≤ 9223372036854775807) (hlt : ∀ t ∈ ev.tags, t.1.length ≤ 9223372036854775807 ∧ t.2.length ≤ 9223372036854775807) (hmay : mayE ev = false) :
    Calls Tryz.prog 86 #[.agg #[.string (str ev.name), .slice A n cp, .int .i64 ev.kind, .int .i64 ev.value, .int .i64 ev.time]] w fun e w' => e = .returned (.tuple #[.agg #[.string (⟨#[]⟩), .slice none 0 0, .int .i64 0, .int .i64 0, .int .i64 0], .iface 32 (.int .i64 1)]) ∧ Fr [] w w' := by
 have HA := Fr.refl [] w
 refine Ze Tryz.func86 _ <| Zsg <| Zb 1 #[.string (str ev.name), .slice A n cp, J ev.kind, J ev.value, J ev.time] 91 (fun g => Pt g 0) ?_
 intro g1 w2 HB4 F3 le5 _
 refine Zb 2 #[.string (⟨#[]⟩), .slice none 0 0, J 0, J 0, J 0] 91 (fun g => Pt g 0) ?_
 intro g6 w7 HB9 F8 le10 _
 have HA := HA.step0 F3
 have ge_HA_g6 := Nat.le_trans HA.size le10
 refine Zr 1 <| Zdn <| Zq <| Zsg <| Zlb 5 [.string (str ev.name), .slice A n cp, J ev.kind, J ev.value, J ev.time] g1 0 (same (HB4.k F8)) <| Zc 6 (may_l ev A n cp F _ ((HT.keep F3 dj0).keep F8 dj0) hn hnn hln hlt) ?_
 rintro _ w11 ⟨rfl, F12⟩
 rw [hmay]
 refine ⟨_, rfl, trivial, Zr 1 <| Zdn <| ZT <| Zsg <| Zr 2 <| Zst g6 0 #[.string (⟨#[]⟩), .slice none 0 0, J 0, J 0, J 0] (HB9.k F12) ?_⟩
 intro w13 HB15 F14 _
 refine Zr 1 <| Zdn <| WE.ret <| WQ.thenR <| WQ.ret2 (fn := Tryz.f86) (show Tryz.f86.results = #[.cell 2 91, .tmp 3] by kernel_rfl) (show resOk _ _ _ _ (.agg #[.string (⟨#[]⟩), .slice none 0 0, J 0, J 0, J 0]) from ⟨by kernel_rfl, ⟨g6, 0, none⟩, by kernel_rfl, ldVarB [.string (⟨#[]⟩), .slice none 0 0, J 0, J 0, J 0] (by kernel_rfl) (by kernel_rfl) (by kernel_rfl) HB15 (by kernel_rfl)⟩) (show resOk _ _ _ _ (.iface 32 (J 1)) from ⟨by kernel_rfl, by kernel_rfl⟩) ?_
 exact ⟨rfl, (((HA.step0 F8).step0 F12).step F14 (inSR ge_HA_g6 inS0))⟩
set_option maxRecDepth 100000 in
set_option maxHeartbeats 400000 in
theorem canon_nil (ev : Ev) (cp : Nat) (F : List Nat) (w : World) (HT : VX cT 2 w F none ev.tags) (hn : ev.tags.length = 0) (hln : ev.name.length ≤ 9223372036854775807) (hlt : ∀ t ∈ ev.tags, t.1.length ≤ 9223372036854775807 ∧ t.2.length ≤ 9223372036854775807) (hmay : mayE ev = true) :
    Calls Tryz.prog 86 #[.agg #[.string (str ev.name), .slice none 0 cp, .int .i64 ev.kind, .int .i64 ev.value, .int .i64 ev.time]] w fun e w' => ResL w w' e (.inl ev) := by
 have hnn : (0 : Nat) ≤ 9223372036854775807 := by omega
 have HA := Fr.refl [] w
 refine Ze Tryz.func86 _ <| Zsg <| Zb 1 #[.string (str ev.name), .slice none 0 cp, J ev.kind, J ev.value, J ev.time] 91 (fun g => Pt g 0) ?_
 intro g1 w2 HB4 F3 le5 _
 have ge_HA_g1 := Nat.le_trans HA.size le5
 refine Zb 2 #[.string (⟨#[]⟩), .slice none 0 0, J 0, J 0, J 0] 91 (fun g => Pt g 0) ?_
 intro g6 w7 HB9 F8 le10 _
 have ne_g1_g6 := ltn HB4.lt le10
 have HA := HA.step0 F3
 have ge_HA_g6 := Nat.le_trans HA.size le10
 have HB4 := HB4.k F8
 refine Zr 1 <| Zdn <| Zq <| Zsg <| Zlb 5 [.string (str ev.name), .slice none 0 cp, J ev.kind, J ev.value, J ev.time] g1 0 (same HB4) <| Zc 6 (may_l ev none 0 cp F _ ((HT.keep F3 dj0).keep F8 dj0) hn hnn hln hlt) ?_
 rintro _ w11 ⟨rfl, F12⟩
 rw [hmay]
 have HB4 := HB4.k F12
 refine ⟨_, rfl, trivial, Zr 1 <| Zdn <| ZF <| Zk <| Zsg <| Zr 1 <| Zl 11 (.slice none 0 cp) (HB4.s 1) <| Zcf 12 (clone_nil cp _) ?_⟩
 intro w13 F14
 refine Zr 1 <| Zst g1 1 #[.string (str ev.name), .slice none 0 0, J ev.kind, J ev.value, J ev.time] (HB4.k F14) ?_
 intro w15 HB17 F16 _
 refine Zdn <| Zsg <| Zr 1 <| Zl 15 (.slice none 0 0) (HB17.s 1) <| Zc 16 (sortf_0 none 0 _) ?_
 rintro _ w18 ⟨rfl, F19⟩
 have HB17 := HB17.k F19
 refine ⟨_, rfl, trivial, Zdn <| Zq <| Zsg <| Zr 1 <| Zl 18 (.slice none 0 0) (HB17.s 1) <| Zr 2 <| Zdn <| WE.block <| WE.unroll <| WL.go <| Zsg <| Zr 1 <| Zdn <| Zq <| ZF <| WE.exit <| WQ.thenE <| WQ.thenE <| WQ.blkE <| Zn <| Zsg <| Zlb 44 [.string (str ev.name), .slice none 0 0, J ev.kind, J ev.value, J ev.time] g1 0 (same HB17) <| Zst g6 0 #[.string (str ev.name), .slice none 0 0, J ev.kind, J ev.value, J ev.time] ((((HB9.k F12).k F14).j F16 (Ne.symm ne_g1_g6)).k F19) ?_⟩
 intro w20 HB22 F21 _
 refine Zr 1 <| Zdn <| WE.ret <| WQ.ret2 (fn := Tryz.f86) (show Tryz.f86.results = #[.cell 2 91, .tmp 3] by kernel_rfl) (show resOk _ _ _ _ (.agg #[.string (str ev.name), .slice none 0 0, J ev.kind, J ev.value, J ev.time]) from ⟨by kernel_rfl, ⟨g6, 0, none⟩, by kernel_rfl, ldVarB [.string (str ev.name), .slice none 0 0, J ev.kind, J ev.value, J ev.time] (by kernel_rfl) (by kernel_rfl) (by kernel_rfl) HB22 (by kernel_rfl)⟩) (show resOk _ _ _ _ .nilIface from ⟨by kernel_rfl, by kernel_rfl⟩) ?_
 exact ⟨_, 0, _, [], rfl, by rw [List.length_eq_zero_iff.1 hn]; exact VX.nil _ _, hn, Nat.zero_le _, by simp, ((((((HA.step0 F8).step0 F12).step0 F14).step F16 (inSR ge_HA_g1 inS0)).step0 F19).step F21 (inSR ge_HA_g6 inS0))⟩
set_option maxRecDepth 100000 in
set_option maxHeartbeats 400000 in
theorem canon_emp (ev : Ev) (ad : Addr) (cp : Nat) (F : List Nat) (w : World) (HT : VX cT 2 w F (some ad) ev.tags) (hn : ev.tags.length = 0) (hln : ev.name.length ≤ 9223372036854775807) (hlt : ∀ t ∈ ev.tags, t.1.length ≤ 9223372036854775807 ∧ t.2.length ≤ 9223372036854775807) (hmay : mayE ev = true) :
    Calls Tryz.prog 86 #[.agg #[.string (str ev.name), .slice (some ad) 0 cp, .int .i64 ev.kind, .int .i64 ev.value, .int .i64 ev.time]] w fun e w' => ResL w w' e (.inl ev) := by
 have hnn : (0 : Nat) ≤ 9223372036854775807 := by omega
 have HA := Fr.refl [] w
 refine Ze Tryz.func86 _ <| Zsg <| Zb 1 #[.string (str ev.name), .slice (some ad) 0 cp, J ev.kind, J ev.value, J ev.time] 91 (fun g => Pt g 0) ?_
 intro g1 w2 HB4 F3 le5 _
 have ge_HA_g1 := Nat.le_trans HA.size le5
 refine Zb 2 #[.string (⟨#[]⟩), .slice none 0 0, J 0, J 0, J 0] 91 (fun g => Pt g 0) ?_
 intro g6 w7 HB9 F8 le10 _
 have ne_g1_g6 := ltn HB4.lt le10
 have HA := HA.step0 F3
 have ge_HA_g6 := Nat.le_trans HA.size le10
 have HB4 := HB4.k F8
 have HT := (HT.keep F3 dj0).keep F8 dj0
 refine Zr 1 <| Zdn <| Zq <| Zsg <| Zlb 5 [.string (str ev.name), .slice (some ad) 0 cp, J ev.kind, J ev.value, J ev.time] g1 0 (same HB4) <| Zc 6 (may_l ev (some ad) 0 cp F _ HT hn hnn hln hlt) ?_
 rintro _ w11 ⟨rfl, F12⟩
 rw [hmay]
 have HB4 := HB4.k F12
 refine ⟨_, rfl, trivial, Zr 1 <| Zdn <| ZF <| Zk <| Zsg <| Zr 1 <| Zl 11 (.slice (some ad) 0 cp) (HB4.s 1) <| Zc 12 (clone_t ad 0 cp ev.tags F _ (HT.keep F12 dj0) hn (by omega)) ?_⟩
 rintro _ w13 ⟨gb, cb, rfl, _, F14, _⟩
 refine ⟨_, rfl, trivial, Zr 1 <| Zst g1 1 #[.string (str ev.name), .slice (some ⟨gb, 0, none⟩) 0 cb, J ev.kind, J ev.value, J ev.time] (HB4.k F14) ?_⟩
 intro w15 HB17 F16 _
 refine Zdn <| Zsg <| Zr 1 <| Zl 15 (.slice (some ⟨gb, 0, none⟩) 0 cb) (HB17.s 1) <| Zc 16 (sortf_0 (some ⟨gb, 0, none⟩) cb _) ?_
 rintro _ w18 ⟨rfl, F19⟩
 have HB17 := HB17.k F19
 refine ⟨_, rfl, trivial, Zdn <| Zq <| Zsg <| Zr 1 <| Zl 18 (.slice (some ⟨gb, 0, none⟩) 0 cb) (HB17.s 1) <| Zr 2 <| Zdn <| WE.block <| WE.unroll <| WL.go <| Zsg <| Zr 1 <| Zdn <| Zq <| ZF <| WE.exit <| WQ.thenE <| WQ.thenE <| WQ.blkE <| Zn <| Zsg <| Zlb 44 [.string (str ev.name), .slice (some ⟨gb, 0, none⟩) 0 cb, J ev.kind, J ev.value, J ev.time] g1 0 (same HB17) <| Zst g6 0 #[.string (str ev.name), .slice (some ⟨gb, 0, none⟩) 0 cb, J ev.kind, J ev.value, J ev.time] ((((HB9.k F12).k F14).j F16 (Ne.symm ne_g1_g6)).k F19) ?_⟩
 intro w20 HB22 F21 _
 refine Zr 1 <| Zdn <| WE.ret <| WQ.ret2 (fn := Tryz.f86) (show Tryz.f86.results = #[.cell 2 91, .tmp 3] by kernel_rfl) (show resOk _ _ _ _ (.agg #[.string (str ev.name), .slice (some ⟨gb, 0, none⟩) 0 cb, J ev.kind, J ev.value, J ev.time]) from ⟨by kernel_rfl, ⟨g6, 0, none⟩, by kernel_rfl, ldVarB [.string (str ev.name), .slice (some ⟨gb, 0, none⟩) 0 cb, J ev.kind, J ev.value, J ev.time] (by kernel_rfl) (by kernel_rfl) (by kernel_rfl) HB22 (by kernel_rfl)⟩) (show resOk _ _ _ _ .nilIface from ⟨by kernel_rfl, by kernel_rfl⟩) ?_
 exact ⟨_, 0, _, [], rfl, by rw [List.length_eq_zero_iff.1 hn]; exact VX.nil _ _, hn, Nat.zero_le _, by simp, ((((((HA.step0 F8).step0 F12).step0 F14).step F16 (inSR ge_HA_g1 inS0)).step0 F19).step F21 (inSR ge_HA_g6 inS0))⟩
set_option maxRecDepth 100000 in
set_option maxHeartbeats 1000000 in
theorem canon_some (ev : Ev) (ad : Addr) (n cp : Nat) (F : List Nat) (w : World) (HT : VX cT 2 w F (some ad) ev.tags) (hn : ev.tags.length = n) (h0 : 0 < n) (hln : ev.name.length ≤ 9223372036854775807) (hlt : ∀ t ∈ ev.tags, t.1.length ≤ 9223372036854775807 ∧ t.2.length ≤ 9223372036854775807) (hmay : mayE ev = true) :
    Calls Tryz.prog 86 #[.agg #[.string (str ev.name), .slice (some ad) n cp, .int .i64 ev.kind, .int .i64 ev.value, .int .i64 ev.time]] w fun e w' => ResC w w' e (canonE ev) := by
 have h6_ := (may_parts hmay).2.2.1
 have hnn : n ≤ 9223372036854775807 := by omega
 have HA := Fr.refl [] w
 refine Ze Tryz.func86 _ <| Zsg <| Zb 1 #[.string (str ev.name), .slice (some ad) n cp, J ev.kind, J ev.value, J ev.time] 91 (fun g => Pt g 0) ?_
 intro g1 w2 HB4 F3 le5 _
 have nin_g1_F := new_nin HT.lt le5
 have ge_HA_g1 := Nat.le_trans HA.size le5
 refine Zb 2 #[.string (⟨#[]⟩), .slice none 0 0, J 0, J 0, J 0] 91 (fun g => Pt g 0) ?_
 intro g6 w7 HB9 F8 le10 _
 have ne_g1_g6 := ltn HB4.lt le10
 have HA := HA.step0 F3
 have ge_HA_g6 := Nat.le_trans HA.size le10
 have HB4 := HB4.k F8
 have HT := (HT.keep F3 dj0).keep F8 dj0
 refine Zr 1 <| Zdn <| Zq <| Zsg <| Zlb 5 [.string (str ev.name), .slice (some ad) n cp, J ev.kind, J ev.value, J ev.time] g1 0 (same HB4) <| Zc 6 (may_l ev (some ad) n cp F _ HT hn hnn hln hlt) ?_
 rintro _ w11 ⟨rfl, F12⟩
 rw [hmay]
 have HB4 := HB4.k F12
 have HT := HT.keep F12 dj0
 refine ⟨_, rfl, trivial, Zr 1 <| Zdn <| ZF <| Zk <| Zsg <| Zr 1 <| Zl 11 (.slice (some ad) n cp) (HB4.s 1) <| Zc 12 (clone_t ad n cp ev.tags F _ HT hn (by omega)) ?_⟩
 rintro _ w13 ⟨gb, cb, rfl, HR15, F14, ge16⟩
 refine ⟨_, rfl, trivial, ?_⟩
 have ne_g1_gb := ltn HB4.lt ge16
 have HB9 := HB9.k F12
 have ne_g6_gb := ltn HB9.lt ge16
 have nin_gb_F := new_nin HT.lt ge16
 have HA := (HA.step0 F8).step0 F12
 have ge_HA_gb := Nat.le_trans HA.size ge16
 refine Zr 1 <| Zst g1 1 #[.string (str ev.name), .slice (some ⟨gb, 0, none⟩) n cb, J ev.kind, J ev.value, J ev.time] (HB4.k F14) ?_
 intro w17 HB19 F18 _
 refine Zdn <| Zsg <| Zr 1 <| Zl 15 (.slice (some ⟨gb, 0, none⟩) n cb) (HB19.s 1) <| Zc 16 (sortf_t gb n cb ev.tags _ (HR15.keep F18 (ninC (Ne.symm ne_g1_gb) (nin0 _))) hn h0 (by omega)) ?_
 rintro _ w20 ⟨rfl, q, hpq, hasq, HRq, F21⟩
 have hql : q.length = n := hpq.length_eq.trans hn
 have HB19 := HB19.j F21 ne_g1_gb
 refine ⟨_, rfl, trivial, Zdn <| Zq <| Zsg <| Zr 1 <| Zl 18 (.slice (some ⟨gb, 0, none⟩) n cb) (HB19.s 1) <| Zr 2 <| Zdn <| WE.block ?_⟩
 refine WE.loop (α := Nat) (E := fun i => [(1, Pt g1 0), (2, Pt g6 0), (3, .nilIface), (19, J (n : Int)), (20, J (i : Int))]) (I := fun i wr => i ≤ n ∧ (∀ j, 0 < j → j < i → (gT q j).1 ≠ (gT q (j - 1)).1) ∧ Blk wr g6 #[.string (⟨#[]⟩), .slice none 0 0, J 0, J 0, J 0] 91 ∧ Blk wr g1 #[.string (str ev.name), .slice (some ⟨gb, 0, none⟩) n cb, J ev.kind, J ev.value, J ev.time] 91 ∧ RowB wr gb 143 2 cb (q.map cT) ∧ VX cT 2 wr F (some ad) ev.tags ∧ Fr [] w wr) (m := fun i => n - i) 0 [1, 2, 3, 19, 20] (by kernel_rfl) ?_ ?_
 ·
  exact ⟨by omega, by omega, (((HB9.k F14).j F18 (Ne.symm ne_g1_g6)).j F21 ne_g6_gb), HB19, HRq, (((HT.keep F14 dj0).keep F18 (djB nin_g1_F)).keep F21 (djB nin_gb_F)), (((HA.step0 F14).step F18 (inSR ge_HA_g1 inS0)).step F21 (inSR ge_HA_gb inS0))⟩
 rintro i wr ⟨hi, hne, HB9, HB19, HRq, HT, HA⟩
 refine Zsg <| ZoP 21 (((i : Int) : Int) < (n : Int)) ?_ ?_
 ·
  intro h22
  refine Zdn <| Zq <| ZT <| Zk <| Zq <| WE.block <| Zsg <| Zr 2 <| Zdn <| Zq <| ZE [4, 8, 10, 15] [] [] 18 ?_
  intro w23 F24 _
  refine Yr0 [0, 1] [(24, .bool (decide (((i : Int) : Int) > (0 : Int)))), (23, J (i : Int))] <| WO.topP (((i : Int) : Int) > (0 : Int)) ?_ ?_
  ·
   intro h25
   have HB19 := HB19.k F24
   have HRq := HRq.k F24
   refine Yq 2 2 <| Yl 4 27 (.slice (some ⟨gb, 0, none⟩) n cb) (HB19.s 1) <| Yq 5 1 <| Yib 6 29 (i * 2) gb 0 n 2 (i : Int) <| Yq 7 1 <| Yl 8 31 (.string (str (gT q i).1)) (same (HRq.at i 0 (i * 2) _ (by rw [List.length_map]; have := hql; omega) (by omega) (by rw [(map_gT q i (by have := hql; omega))]; rfl) (by omega))) <| Yq 9 1 <| Yl 10 33 (.slice (some ⟨gb, 0, none⟩) n cb) (HB19.s 1) <| Yr0 [11, 12] [(35, J (IntKind.i64.wrap ((i : Int) - 1))), (34, J (i : Int))] <| WO.top (v' := J ((i - 1 : Nat) : Int)) (wrap_i64 (by omega) (by omega)) <| Yib 13 36 ((i - 1) * 2) gb 0 n 2 ((i - 1 : Nat) : Int) <| Yq 14 1 <| Yl 15 38 (.string (str (gT q (i - 1)).1)) (same (HRq.at (i - 1) 0 ((i - 1) * 2) _ (by rw [List.length_map]; have := hql; omega) (by omega) (by rw [(map_gT q (i - 1) (by have := hql; omega))]; rfl) (by omega))) <| Yr0 [16] [(39, .bool ((str (gT q i).1).toList == (str (gT q (i - 1)).1).toList))] <| WO.top (v' := .bool (decide ((str (gT q i).1) = (str (gT q (i - 1)).1)))) (congrArg Value.bool (streq (str (gT q i).1) (str (gT q (i - 1)).1))) <| WO.topP ((str (gT q i).1) = (str (gT q (i - 1)).1)) ?_ ?_
   ·
    intro h26
    refine Yq 17 1 <| Ydn <| ZT <| Zsg <| Zr 2 <| Zst g6 0 #[.string (⟨#[]⟩), .slice none 0 0, J 0, J 0, J 0] (HB9.k F24) ?_
    intro w27 HB29 F28 _
    refine Zr 1 <| Zdn <| WE.ret <| WQ.blkR <| WQ.thenR <| WQ.thenR <| WQ.blkR <| WQ.thenR <| WQ.ret2 (fn := Tryz.f86) (show Tryz.f86.results = #[.cell 2 91, .tmp 3] by kernel_rfl) (show resOk _ _ _ _ (.agg #[.string (⟨#[]⟩), .slice none 0 0, J 0, J 0, J 0]) from ⟨by kernel_rfl, ⟨g6, 0, none⟩, by kernel_rfl, ldVarB [.string (⟨#[]⟩), .slice none 0 0, J 0, J 0, J 0] (by kernel_rfl) (by kernel_rfl) (by kernel_rfl) HB29 (by kernel_rfl)⟩) (show resOk _ _ _ _ (.iface 32 (J 5)) from ⟨by kernel_rfl, by kernel_rfl⟩) ?_
    have hd_ : dupA q = true := dup_yes (i := i) (by omega) (by omega) (str_inj.1 (by assumption))
    rw [canon_of hpq hasq hmay, if_pos hd_]
    exact ResC.no ((HA.step0 F24).step F28 (inSR ge_HA_g6 inS0))
   intro h26
   refine Yq 17 1 <| Ydn <| ZF <| WE.skip <| WQ.blkN <| Zn <| WE.region <| Zw 43 ((i : Int) + 1) ((i + 1 : Nat) : Int) <| Zr 1 <| Zd <| WQ.round ?_
   intro a_ ha_
   refine ⟨i + 1, ?_, ha_.keep [1, 2, 3, 19, 20] (by kernel_rfl), ?_⟩
   ·
    show n - (i + 1) < n - i; omega
   ·
    exact ⟨by omega, fun j h1_ h2_ => (Nat.lt_succ_iff_lt_or_eq.1 h2_).elim (hne j h1_) (fun h_ => by subst h_; first | omega | (intro e_; exact absurd (congrArg str e_) (by assumption))), (HB9.k F24), HB19, HRq, (HT.keep F24 dj0), (HA.step0 F24)⟩
  intro h25
  refine Yq 2 16 <| Ydn <| ZF <| WE.skip <| WQ.blkN <| Zn <| WE.region <| Zw 43 ((i : Int) + 1) ((i + 1 : Nat) : Int) <| Zr 1 <| Zd <| WQ.round ?_
  intro a_ ha_
  refine ⟨i + 1, ?_, ha_.keep [1, 2, 3, 19, 20] (by kernel_rfl), ?_⟩
  ·
   show n - (i + 1) < n - i; omega
  ·
   exact ⟨by omega, fun j h1_ h2_ => (Nat.lt_succ_iff_lt_or_eq.1 h2_).elim (hne j h1_) (fun h_ => by subst h_; first | omega | (intro e_; exact absurd (congrArg str e_) (by assumption))), (HB9.k F24), (HB19.k F24), (HRq.k F24), (HT.keep F24 dj0), (HA.step0 F24)⟩
 intro h22
 refine Zdn <| Zq <| ZF <| WE.exit <| WQ.thenE <| WQ.thenE <| WQ.blkE <| Zn <| Zsg <| Zlb 44 [.string (str ev.name), .slice (some ⟨gb, 0, none⟩) n cb, J ev.kind, J ev.value, J ev.time] g1 0 (same HB19) <| Zst g6 0 #[.string (str ev.name), .slice (some ⟨gb, 0, none⟩) n cb, J ev.kind, J ev.value, J ev.time] HB9 ?_
 intro w30 HB32 F31 _
 refine Zr 1 <| Zdn <| WE.ret <| WQ.ret2 (fn := Tryz.f86) (show Tryz.f86.results = #[.cell 2 91, .tmp 3] by kernel_rfl) (show resOk _ _ _ _ (.agg #[.string (str ev.name), .slice (some ⟨gb, 0, none⟩) n cb, J ev.kind, J ev.value, J ev.time]) from ⟨by kernel_rfl, ⟨g6, 0, none⟩, by kernel_rfl, ldVarB [.string (str ev.name), .slice (some ⟨gb, 0, none⟩) n cb, J ev.kind, J ev.value, J ev.time] (by kernel_rfl) (by kernel_rfl) (by kernel_rfl) HB32 (by kernel_rfl)⟩) (show resOk _ _ _ _ .nilIface from ⟨by kernel_rfl, by kernel_rfl⟩) ?_
 have hd_ : dupA q = false := dup_no (fun j h1_ h2_ => hne j h1_ (by omega))
 rw [canon_of hpq hasq hmay, if_neg (by rw [hd_]; simp)]
 have HRq := HRq.keep F31 (ninC (Ne.symm ne_g6_gb) (nin0 _))
 have hle_ := HRq.le
 rw [List.length_map] at hle_
 exact ResC.ok (ev := { ev with tags := q }) hql (by omega) (VX.of_row HRq) (by intro y hy; rw [List.mem_singleton.1 hy]; exact ge_HA_gb) (HA.step F31 (inSR ge_HA_g6 inS0))
theorem canon_f (ev : Ev) (A : Option Addr) (n cp : Nat) (F : List Nat) (w : World) (HT : VX cT 2 w F A ev.tags) (hn : ev.tags.length = n) (hnn : n ≤ 9223372036854775807) (hln : ev.name.length ≤ 9223372036854775807) (hlt : ∀ t ∈ ev.tags, t.1.length ≤ 9223372036854775807 ∧ t.2.length ≤ 9223372036854775807) :
    Calls Tryz.prog 86 #[.agg #[.string (str ev.name), .slice A n cp, .int .i64 ev.kind, .int .i64 ev.value, .int .i64 ev.time]] w fun e w' => ResC w w' e (canonE ev) := by
  cases hmay : mayE ev with
  | false =>
    rw [canon_no hmay]
    exact (canon_bad ev A n cp F w HT hn hnn hln hlt hmay).mono fun e w' h => h
  | true =>
    by_cases h0 : 0 < n
    · obtain ⟨ad, rfl⟩ := HT.addr (i := 0) (by omega)
      exact canon_some ev ad n cp F w HT hn h0 hln hlt hmay
    · obtain rfl : n = 0 := by omega
      have he : canonE ev = .inl ev := by
        have ht := List.length_eq_zero_iff.1 hn
        exact canon_fix hmay (by rw [ht]; exact List.Pairwise.nil)
      rw [he]
      cases A with
      | none => exact canon_nil ev cp F w HT hn hln hlt hmay
      | some ad => exact canon_emp ev ad cp F w HT hn hln hlt hmay
set_option maxRecDepth 100000 in
set_option maxHeartbeats 400000 in
theorem key_g (ev : Ev) (A : Option Addr) (n cp : Nat) (F : List Nat) (w : World) (HT : VX cT 2 w F A ev.tags) (hn : ev.tags.length = n) (hnn : n ≤ 9223372036854775807) (hln : ev.name.length ≤ 9223372036854775807) (hlt : ∀ t ∈ ev.tags, t.1.length ≤ 9223372036854775807 ∧ t.2.length ≤ 9223372036854775807) (hv : -9223372036854775808 ≤ ev.value ∧ ev.value ≤ 9223372036854775807) (hF3 : 3 ∉ F) (HTab : Lib.TabIs Tryz.prog w "internal/strconv.uint64pow10" .u64 Lib.pow10Tab) (HM : MaxI w) :
    Calls Tryz.prog 67 #[.agg #[.string (str ev.name), .slice A n cp, .int .i64 ev.kind, .int .i64 ev.value, .int .i64 ev.time]] w fun e w' => ResK w w' e (keyE ev) := by
 have HA := Fr.refl [] w
 refine Ze Tryz.func67 _ <| Zsg <| Zb 1 #[.string (str ev.name), .slice A n cp, J ev.kind, J ev.value, J ev.time] 91 (fun g => Pt g 0) ?_
 intro g1 w2 HB4 F3 le5 _
 refine Zr 2 <| Zdn <| Zsg <| Zlb 11 [.string (str ev.name), .slice A n cp, J ev.kind, J ev.value, J ev.time] g1 0 (same HB4) <| Zc 12 (canon_f ev A n cp F _ (HT.keep F3 dj0) hn hnn hln hlt) ?_
 intro e_ w6 hr_
 cases hc_ : canonE ev
 rotate_left
 ·
  rename_i co
  rw [hc_] at hr_
  obtain ⟨rfl, F7⟩ := hr_
  refine ⟨_, rfl, trivial, Zr 3 <| Zb 4 #[.string (⟨#[]⟩), .slice none 0 0, J 0, J 0, J 0] 91 (fun g => Pt g 0) ?_⟩
  intro g8 w9 HB11 F10 le12 _
  have HA := (HA.step0 F3).step0 F7
  have ge_HA_g8 := Nat.le_trans HA.size le12
  refine Zst g8 0 #[.string (⟨#[]⟩), .slice none 0 0, J 0, J 0, J 0] HB11 ?_
  intro w13 HB15 F14 _
  refine Zr 1 <| Zdn <| Zq <| Zsg <| Zr 2 <| Zdn <| ZT <| Zsg <| Zr 3 <| Zdn <| WE.ret <| WQ.thenR <| ZR (.tuple #[.string (⟨#[]⟩), .iface 32 (J co)]) ?_
  rw [show keyE ev = .inr co from by unfold keyE; rw [hc_]]
  exact ⟨rfl, ((HA.step0 F10).step F14 (inSR ge_HA_g8 inS0))⟩
 ·
  rename_i cn
  rw [hc_] at hr_
  obtain ⟨A2_, n2_, c2_, F2_, rfl, HT2_, hn2_, hc2_, hg2_, F7⟩ := hr_
  obtain ⟨hmy, hce, hnd, hmc⟩ := canon_may hc_
  obtain ⟨hy1, hy2, hy3, hy4, hy5, hy6⟩ := may_parts hmc
  have hwl_ := word_len hy2
  have hvl_ : cn.value = ev.value := by rw [hce]
  refine ⟨_, rfl, trivial, ?_⟩
  have hg2r_ := fun y hy => Or.inr (a := y ∈ ([] : List Nat)) (hg2_ y hy)
  have HTab := HTab.k F3
  have nin_3_F2_ := grow_nin hg2r_ (nin0 _) ((tab_lt HTab))
  refine Zr 3 <| Zb 4 #[.string (⟨#[]⟩), .slice none 0 0, J 0, J 0, J 0] 91 (fun g => Pt g 0) ?_
  intro g16 w17 HB19 F18 le20 _
  have nin_g16_F2_ := new_nin HT2_.lt le20
  have HTab := HTab.k F7
  have ne_3_g16 : 3 ≠ g16 := Nat.ne_of_lt (Nat.lt_of_lt_of_le (tab_lt HTab) le20)
  have HM := (HM.k F3).k F7
  have ne_0_g16 : 0 ≠ g16 := Nat.ne_of_lt (Nat.lt_of_lt_of_le (max_lt HM) le20)
  have HA := (HA.step0 F3).step0 F7
  have ge_HA_g16 := Nat.le_trans HA.size le20
  refine Zst g16 0 #[.string (str cn.name), .slice A2_ n2_ c2_, J cn.kind, J cn.value, J cn.time] HB19 ?_
  intro w21 HB23 F22 _
  refine Zr 1 <| Zdn <| Zq <| Zsg <| Zr 2 <| Zdn <| ZF <| Zk <| Zsg <| Zlb 19 [.string (str cn.name), .slice A2_ n2_ c2_, J cn.kind, J cn.value, J cn.time] g16 0 (same HB23) <| Zcf 20 (print_l cn A2_ n2_ c2_ F2_ _ ((HT2_.keep F18 dj0).keep F22 (djB nin_g16_F2_)) hn2_ (by omega) (by omega) (fun t h_ => by have a_ := word_len (hy1 t h_).1; have b_ := word_len (hy1 t h_).2; omega) hmc (few_of hmc) hy4 (by omega) (by omega) (tab_keep (HTab.k F18) F22 (ninC ne_3_g16 (nin0 _))) nin_3_F2_) ?_
  intro w24 F25
  refine Zr 5 <| Zdn <| Zq <| Zsg <| Zr 2 <| Zdn <| ZF <| Zk <| Zsg <| Zr 1 <| Zc 28 (cut_f hmc (by omega) _ ((max_keep (HM.k F18) F22 (ninC ne_0_g16 (nin0 _))).k F25)) ?_
  rintro _ w26 ⟨R_, rfl, F27⟩
  refine ⟨_, rfl, trivial, Zr 7 <| Zdn <| Zsg <| Zr 3 <| Zdn <| WE.ret <| ZR (.tuple #[.string (str (headT cn)), .nilIface]) ?_⟩
  rw [show keyE ev = .inl (headT cn) from by unfold keyE; rw [hc_]]
  exact ⟨rfl, ((((HA.step0 F18).step F22 (inSR ge_HA_g16 inS0)).step0 F25).step0 F27)⟩
theorem key_f (ev : Ev) (A : Option Addr) (n cp : Nat) (F : List Nat) (w : World) (HT : VX cT 2 w F A ev.tags) (hn : ev.tags.length = n) (hnn : n ≤ 9223372036854775807) (hln : ev.name.length ≤ 9223372036854775807) (hlt : ∀ t ∈ ev.tags, t.1.length ≤ 9223372036854775807 ∧ t.2.length ≤ 9223372036854775807) (hv : -9223372036854775808 ≤ ev.value ∧ ev.value ≤ 9223372036854775807) (hF3 : 3 ∉ F) (hF1 : 1 ∉ F) (hF2 : 2 ∉ F) (hF0 : 0 ∉ F) (HS : VarI w "strconv.ErrSyntax") (HR : VarI w "strconv.ErrRange") (HTab : Lib.TabIs Tryz.prog w "internal/strconv.uint64pow10" .u64 Lib.pow10Tab) (HM : MaxI w) :
    Calls Tryz.prog 67 #[.agg #[.string (str ev.name), .slice A n cp, .int .i64 ev.kind, .int .i64 ev.value, .int .i64 ev.time]] w fun e w' => ResK w w' e (keyE ev) := key_g ev A n cp F w HT hn hnn hln hlt hv hF3 HTab HM
set_option maxRecDepth 100000 in
set_option maxHeartbeats 400000 in
theorem of_f (k : L) (w : World) (hk : k.length ≤ 100000) (HS : VarI w "strconv.ErrSyntax") (HR : VarI w "strconv.ErrRange") (HTab : Lib.TabIs Tryz.prog w "internal/strconv.uint64pow10" .u64 Lib.pow10Tab) (HM : MaxI w) :
    Calls Tryz.prog 50 #[.string (str k)] w fun e w' => ResO w w' e (ofE k) := by
 have HA := Fr.refl [] w
 refine Ze Tryz.func50 _ <| Zsg <| Zb 2 #[.string (⟨#[]⟩), .slice none 0 0, J 0, J 0, J 0] 91 (fun g => Pt g 0) ?_
 intro g1 w2 HB4 F3 le5 _
 have ge_HA_g1 := Nat.le_trans HA.size le5
 refine Zr 1 <| Zdn <| Zsg <| Zr 1 <| Zct 10 (str k) (str ([32, 99, 32, 48, 32, 48] : List UInt8)) (by simp only [str_size, List.length_cons, List.length_nil]; omega) <| WO.top (v' := .string (str (k ++ ([32, 99, 32, 48, 32, 48] : List UInt8)))) (congrArg Value.string (str_app _ _)) ?_
 have htl_ : (k ++ tailT).length = k.length + 6 := by rw [List.length_append]; rfl
 rcases Nat.lt_or_ge 294 k.length with hL | hL
 ·
  refine Zcf 11 (parse_long (k ++ tailT) _ (by omega) (by omega)) ?_
  intro w6 F7
  refine Zr 3 <| Zb 4 #[.string (⟨#[]⟩), .slice none 0 0, J 0, J 0, J 0] 91 (fun g => Pt g 0) ?_
  intro g8 w9 HB11 F10 le12 _
  have HB4 := HB4.k F7
  have ne_g1_g8 := ltn HB4.lt le12
  have HA := (HA.step0 F3).step0 F7
  have ge_HA_g8 := Nat.le_trans HA.size le12
  refine Zst g8 0 #[.string (⟨#[]⟩), .slice none 0 0, J 0, J 0, J 0] HB11 ?_
  intro w13 HB15 F14 _
  refine Zr 1 <| Zdn <| Zq <| Zsg <| Zr 2 <| Zdn <| ZT <| Zsg <| Zr 2 <| Zst g1 0 #[.string (⟨#[]⟩), .slice none 0 0, J 0, J 0, J 0] ((HB4.k F10).j F14 ne_g1_g8) ?_
  intro w16 HB18 F17 _
  refine Zr 1 <| Zdn <| WE.ret <| WQ.thenR <| WQ.ret2 (fn := Tryz.f50) (show Tryz.f50.results = #[.cell 2 91, .tmp 3] by kernel_rfl) (show resOk _ _ _ _ (.agg #[.string (⟨#[]⟩), .slice none 0 0, J 0, J 0, J 0]) from ⟨by kernel_rfl, ⟨g1, 0, none⟩, by kernel_rfl, ldVarB [.string (⟨#[]⟩), .slice none 0 0, J 0, J 0, J 0] (by kernel_rfl) (by kernel_rfl) (by kernel_rfl) HB18 (by kernel_rfl)⟩) (show resOk _ _ _ _ (.iface 32 (J 2)) from ⟨by kernel_rfl, by kernel_rfl⟩) ?_
  rw [show ofE k = none from of_long hL]
  exact ⟨rfl, (((HA.step0 F10).step F14 (inSR ge_HA_g8 inS0)).step F17 (inSR ge_HA_g1 inS0))⟩
 cases hps_ : parseP (k ++ tailT)
 rotate_left
 ·
  rename_i q
  refine Zc 11 (parse_l (k ++ tailT) _ (by omega) (HS.k F3) (HR.k F3)) ?_
  intro e_ w19 hr_
  rw [hps_] at hr_
  obtain ⟨g21, rfl, HB22, hg23, F20⟩ := hr_
  refine ⟨_, rfl, trivial, Zr 3 <| Zb 4 #[.string (⟨#[]⟩), .slice none 0 0, J 0, J 0, J 0] 91 (fun g => Pt g 0) ?_⟩
  intro g24 w25 HB27 F26 le28 _
  have HB4 := HB4.k F20
  have ne_g1_g24 := ltn HB4.lt le28
  have HA := (HA.step0 F3).step0 F20
  have ge_HA_g24 := Nat.le_trans HA.size le28
  refine Zst g24 0 #[.string (⟨#[]⟩), .slice none 0 0, J 0, J 0, J 0] HB27 ?_
  intro w29 HB31 F30 _
  refine Zr 1 <| Zdn <| Zq <| Zsg <| Zr 2 <| Zdn <| ZT <| Zsg <| Zr 2 <| Zst g1 0 #[.string (⟨#[]⟩), .slice none 0 0, J 0, J 0, J 0] ((HB4.k F26).j F30 ne_g1_g24) ?_
  intro w32 HB34 F33 _
  refine Zr 1 <| Zdn <| WE.ret <| WQ.thenR <| WQ.ret2 (fn := Tryz.f50) (show Tryz.f50.results = #[.cell 2 91, .tmp 3] by kernel_rfl) (show resOk _ _ _ _ (.agg #[.string (⟨#[]⟩), .slice none 0 0, J 0, J 0, J 0]) from ⟨by kernel_rfl, ⟨g1, 0, none⟩, by kernel_rfl, ldVarB [.string (⟨#[]⟩), .slice none 0 0, J 0, J 0, J 0] (by kernel_rfl) (by kernel_rfl) (by kernel_rfl) HB34 (by kernel_rfl)⟩) (show resOk _ _ _ _ (.iface 32 (J 2)) from ⟨by kernel_rfl, by kernel_rfl⟩) ?_
  rw [show ofE k = none from of_no hL hps_]
  exact ⟨rfl, (((HA.step0 F26).step F30 (inSR ge_HA_g24 inS0)).step F33 (inSR ge_HA_g1 inS0))⟩
 ·
  rename_i y
  have HS := HS.k F3
  have HR := HR.k F3
  refine Zc 11 (parse_l (k ++ tailT) _ (by omega) HS HR) ?_
  intro e_ w35 hr_
  rw [hps_] at hr_
  obtain ⟨A1_, n1_, c1_, F1_, rfl, HT1_, hn1_, hc1_, hg1_, F36⟩ := hr_
  refine ⟨_, rfl, trivial, ?_⟩
  have hg1r_ := fun y hy => Or.inr (a := y ∈ ([] : List Nat)) (hg1_ y hy)
  have nin_g1_F1_ := grow_nin hg1r_ (nin0 _) HB4.lt
  have nin_1_F1_ := grow_nin hg1r_ (nin0 _) ((var_lt 1 (by kernel_rfl) HS))
  have nin_2_F1_ := grow_nin hg1r_ (nin0 _) ((var_lt 2 (by kernel_rfl) HR))
  have HTab := HTab.k F3
  have nin_3_F1_ := grow_nin hg1r_ (nin0 _) ((tab_lt HTab))
  have HM := HM.k F3
  have nin_0_F1_ := grow_nin hg1r_ (nin0 _) ((max_lt HM))
  have HA := HA.step0 F3
  have ge_HA_F1_ := grow_ge hg1r_ (by simp) HA.size
  refine Zr 3 <| Zb 4 #[.string (⟨#[]⟩), .slice none 0 0, J 0, J 0, J 0] 91 (fun g => Pt g 0) ?_
  intro g37 w38 HB40 F39 le41 _
  have HB4 := HB4.k F36
  have ne_g1_g37 := ltn HB4.lt le41
  have nin_g37_F1_ := new_nin HT1_.lt le41
  have HS := HS.k F36
  have ne_1_g37 : 1 ≠ g37 := Nat.ne_of_lt (Nat.lt_of_lt_of_le (var_lt 1 (by kernel_rfl) HS) le41)
  have HR := HR.k F36
  have ne_2_g37 : 2 ≠ g37 := Nat.ne_of_lt (Nat.lt_of_lt_of_le (var_lt 2 (by kernel_rfl) HR) le41)
  have HTab := HTab.k F36
  have ne_3_g37 : 3 ≠ g37 := Nat.ne_of_lt (Nat.lt_of_lt_of_le (tab_lt HTab) le41)
  have HM := HM.k F36
  have ne_0_g37 : 0 ≠ g37 := Nat.ne_of_lt (Nat.lt_of_lt_of_le (max_lt HM) le41)
  have HA := HA.step0 F36
  have ge_HA_g37 := Nat.le_trans HA.size le41
  refine Zst g37 0 #[.string (str y.name), .slice A1_ n1_ c1_, J y.kind, J y.value, J y.time] HB40 ?_
  intro w42 HB44 F43 _
  refine Zr 1 <| Zdn <| Zq <| Zsg <| Zr 2 <| Zdn <| ZF <| Zk <| Zq <| Zsg <| Zlb 19 [.string (str y.name), .slice A1_ n1_ c1_, J y.kind, J y.value, J y.time] g37 0 (same HB44) ?_
  obtain ⟨hmy, hpy, hvy1, hvy2⟩ := parse_bwd hps_
  obtain ⟨hy1, hy2, hy3, hy4, hy5, hy6⟩ := may_parts hmy
  have hwl_ := word_len hy2
  have HT1_ := (HT1_.keep F39 dj0).keep F43 (djB nin_g37_F1_)
  refine Zc 20 (key_f y A1_ n1_ c1_ F1_ _ HT1_ hn1_ (by omega) (by omega) (fun t h_ => by have a_ := word_len (hy1 t h_).1; have b_ := word_len (hy1 t h_).2; omega) ⟨hvy1, hvy2⟩ nin_3_F1_ nin_1_F1_ nin_2_F1_ nin_0_F1_ (var_keep 1 (by kernel_rfl) (HS.k F39) F43 (ninC ne_1_g37 (nin0 _))) (var_keep 2 (by kernel_rfl) (HR.k F39) F43 (ninC ne_2_g37 (nin0 _))) (tab_keep (HTab.k F39) F43 (ninC ne_3_g37 (nin0 _))) (max_keep (HM.k F39) F43 (ninC ne_0_g37 (nin0 _)))) ?_
  intro e_ w45 hr_
  have HB4 := (HB4.k F39).j F43 ne_g1_g37
  have HA := (HA.step0 F39).step F43 (inSR ge_HA_g37 inS0)
  cases hk_ : keyE y
  rotate_left
  ·
   rename_i co
   rw [hk_] at hr_
   obtain ⟨rfl, F46⟩ := hr_
   refine ⟨_, rfl, trivial, Zr 5 <| Zdn <| Zsg <| Zr 7 <| Zdn <| ZT <| Zsg <| Zr 2 <| Zst g1 0 #[.string (⟨#[]⟩), .slice none 0 0, J 0, J 0, J 0] (HB4.k F46) ?_⟩
   intro w47 HB49 F48 _
   refine Zr 1 <| Zdn <| WE.ret <| WQ.thenR <| WQ.ret2 (fn := Tryz.f50) (show Tryz.f50.results = #[.cell 2 91, .tmp 3] by kernel_rfl) (show resOk _ _ _ _ (.agg #[.string (⟨#[]⟩), .slice none 0 0, J 0, J 0, J 0]) from ⟨by kernel_rfl, ⟨g1, 0, none⟩, by kernel_rfl, ldVarB [.string (⟨#[]⟩), .slice none 0 0, J 0, J 0, J 0] (by kernel_rfl) (by kernel_rfl) (by kernel_rfl) HB49 (by kernel_rfl)⟩) (show resOk _ _ _ _ (.iface 32 (J 2)) from ⟨by kernel_rfl, by kernel_rfl⟩) ?_
   rw [show ofE k = none from of_nk hL hps_ (by rw [hk_]; simp)]
   exact ⟨rfl, ((HA.step0 F46).step F48 (inSR ge_HA_g1 inS0))⟩
  ·
   rename_i k2
   rw [hk_] at hr_
   obtain ⟨rfl, F46⟩ := hr_
   refine ⟨_, rfl, trivial, Zr 5 <| Zdn <| Zsg <| Zr 5 <| Zo 28 (.bool (!((str k2).toList == (str k).toList))) <| WO.top (v' := .bool (!decide ((str k2) = (str k)))) (congrArg Value.bool (congrArg not (streq (str k2) (str k)))) ?_⟩
   refine WO.topN ((str k2) = (str k)) ?_ ?_
   ·
    intro h50
    have HB44 := HB44.k F46
    refine Zr 1 <| Zdn <| ZF <| Zk <| Zsg <| Zr 1 <| Zl 33 (.string (str y.name)) (HB44.s 0) <| Zr 1 <| Zl 35 (.slice A1_ n1_ c1_) (HB44.s 1) <| Zr 1 <| Zst g1 0 #[.string (str y.name), .slice A1_ n1_ c1_, J 0, J 0, J 0] (HB4.k F46) ?_
    intro w51 HB53 F52 _
    refine Zr 1 <| Zdn <| WE.ret <| WQ.ret2 (fn := Tryz.f50) (show Tryz.f50.results = #[.cell 2 91, .tmp 3] by kernel_rfl) (show resOk _ _ _ _ (.agg #[.string (str y.name), .slice A1_ n1_ c1_, J 0, J 0, J 0]) from ⟨by kernel_rfl, ⟨g1, 0, none⟩, by kernel_rfl, ldVarB [.string (str y.name), .slice A1_ n1_ c1_, J 0, J 0, J 0] (by kernel_rfl) (by kernel_rfl) (by kernel_rfl) HB53 (by kernel_rfl)⟩) (show resOk _ _ _ _ .nilIface from ⟨by kernel_rfl, by kernel_rfl⟩) ?_
    have hke_ : k2 = k := str_inj.1 (by assumption)
    rw [hke_] at hk_
    rw [show ofE k = some (y.name, y.tags) from of_some hL hps_ hk_]
    exact ⟨A1_, n1_, c1_, F1_, rfl, ((HT1_.keep F46 dj0).keep F52 (djB nin_g1_F1_)), hn1_, hc1_, ge_HA_F1_, ((HA.step0 F46).step F52 (inSR ge_HA_g1 inS0))⟩
   intro h50
   refine Zr 1 <| Zdn <| ZT <| Zsg <| Zr 2 <| Zst g1 0 #[.string (⟨#[]⟩), .slice none 0 0, J 0, J 0, J 0] (HB4.k F46) ?_
   intro w54 HB56 F55 _
   refine Zr 1 <| Zdn <| WE.ret <| WQ.thenR <| WQ.ret2 (fn := Tryz.f50) (show Tryz.f50.results = #[.cell 2 91, .tmp 3] by kernel_rfl) (show resOk _ _ _ _ (.agg #[.string (⟨#[]⟩), .slice none 0 0, J 0, J 0, J 0]) from ⟨by kernel_rfl, ⟨g1, 0, none⟩, by kernel_rfl, ldVarB [.string (⟨#[]⟩), .slice none 0 0, J 0, J 0, J 0] (by kernel_rfl) (by kernel_rfl) (by kernel_rfl) HB56 (by kernel_rfl)⟩) (show resOk _ _ _ _ (.iface 32 (J 2)) from ⟨by kernel_rfl, by kernel_rfl⟩) ?_
   rw [show ofE k = none from of_nk hL hps_ (by rw [hk_]; intro e_; injection e_ with e_; exact absurd (congrArg str e_) (by assumption))]
   exact ⟨rfl, ((HA.step0 F46).step F55 (inSR ge_HA_g1 inS0))⟩
end Go.Proofs.YtdhonbahpcmmnaaGreatDoor.Line
end
section
set_option linter.unusedVariables false
set_option linter.unusedSimpArgs false
namespace Go.Proofs.YtdhonbahpcmmnaaGreatDoor.Line
open Go Go.RowKit Go.Proofs.YtdhonbahpcmmnaaGreatDoor Go.Proofs.YtdhonbahpcmmnaaGreatDoor.Eng Go.Proofs.YtdhonbahpcmmnaaGreatDoorW.PrintWords
open Go.Proofs
end Go.Proofs.YtdhonbahpcmmnaaGreatDoor.Line
end
