/- Layer 7's walks: Get. -/
import Derived.Test.YtdhonbahpcmmnaaGreatDoorBatG
import Derived.Test.YtdhonbahpcmmnaaGreatDoorEngC
set_option linter.unusedVariables false
set_option linter.unusedSimpArgs false
namespace Go.Proofs.YtdhonbahpcmmnaaGreatDoor.Bat
open Go Go.RowKit Go.Proofs.YtdhonbahpcmmnaaGreatDoor Go.Proofs.YtdhonbahpcmmnaaGreatDoor.Eng Go.Proofs.YtdhonbahpcmmnaaGreatDoorW.PrintWords
open Go.Proofs
open Go.Proofs.YtdhonbahpcmmnaaGreatDoor.Line
open Go.Proofs.YtdhonbahpcmmnaaGreatDoor.Wire (enc zig unzig encT St rNum rWhole rText rEnd)
theorem EV.nil (w : World) : EV w [] [] := ⟨by simp, by simp⟩
theorem EV.snoc {w : World} {FE F : List Nat} {xs : List RX} {r : Rw} {A : Option Addr} {c : Nat} (h : EV w FE xs) (hv : VX cN 1 w F A r.bk) (hc : r.bk.length ≤ c) : EV w (FE ++ F) (xs ++ [(r, (A, c))]) := by
  refine ⟨fun y hy => (List.mem_append.1 hy).elim (h.1 y) (hv.lt y), fun x hx => ?_⟩
  rcases List.mem_append.1 hx with hx | hx
  · obtain ⟨h1, G, h2, h3⟩ := h.2 x hx
    exact ⟨h1, G, fun y hy => List.mem_append_left _ (h2 y hy), h3⟩
  · obtain rfl := List.mem_singleton.1 hx
    exact ⟨hc, F, fun y hy => List.mem_append_right _ hy, hv⟩
theorem rText_le (l : L) (s : St) : (rText l 300 s).1.length ≤ 300 := by
  unfold rText
  simp only
  split
  · simp
  · split
    · simp
    · simp only [List.length_take]
      omega
theorem readR_key {l : L} {s t : St} {r : Rw} (h : readR l s = some (r, t)) : r.key.length ≤ 300 := by
  unfold readR at h
  simp only at h
  split at h
  · cases h
  · simp only [Option.some.injEq, Prod.mk.injEq] at h
    obtain ⟨rfl, _⟩ := h
    exact rText_le l s
theorem rr0 {l : L} {n : Nat} {s : St} : readRows l n s = (readRows l (n - 0) s).map fun y => (rws [] ++ y.1, y.2) := by
  rw [Nat.sub_zero]
  cases readRows l n s <;> rfl
theorem rrS {l : L} {n i : Nat} {s0 s s' : St} {xs : List RX} {r : Rw} {p : Option Addr × Nat} (h : readRows l n s0 = (readRows l (n - i) s).map fun y => (rws xs ++ y.1, y.2)) (hi : i < n) (hr : readR l s = some (r, s')) : readRows l n s0 = (readRows l (n - (i + 1)) s').map fun y => (rws (xs ++ [(r, p)]) ++ y.1, y.2) := by
  rw [h, show n - i = (n - (i + 1)) + 1 by omega, readRows_next, hr]
  simp only
  cases readRows l (n - (i + 1)) s' with
  | none => rfl
  | some y => simp [rws]
theorem rrN {l : L} {n i : Nat} {s0 s : St} {xs : List RX} (h : readRows l n s0 = (readRows l (n - i) s).map fun y => (rws xs ++ y.1, y.2)) (hi : i < n) (hr : readR l s = none) : readRows l n s0 = none := by
  rw [h, show n - i = (n - (i + 1)) + 1 by omega, readRows_next, hr]
  rfl
theorem rrE {l : L} {n : Nat} {s0 s : St} {xs : List RX} (h : readRows l n s0 = (readRows l (n - n) s).map fun y => (rws xs ++ y.1, y.2)) : readRows l n s0 = some (rws xs, s) := by
  rw [h, Nat.sub_self]
  show some (rws xs ++ [], s) = _
  rw [List.append_nil]
theorem in_snoc {xs : List RX} {r : Rw} {p : Option Addr × Nat} (h : ∀ x ∈ xs, x.1.In ∧ x.1.key.length ≤ 300 ∧ x.1.bk.length ≤ 65) (hr : r.In ∧ r.key.length ≤ 300 ∧ r.bk.length ≤ 65) : ∀ x ∈ xs ++ [(r, p)], x.1.In ∧ x.1.key.length ≤ 300 ∧ x.1.bk.length ≤ 65 := fun x hx => by
  rcases List.mem_append.1 hx with hx | hx
  · exact h x hx
  · obtain rfl := List.mem_singleton.1 hx
    exact hr
def fin2 (l : L) (a b : Nat) : Option (List Rw × St) → Option Bt
  | none => none
  | some (rs, s) => if (rEnd l s).bad = true ∨ mayB ⟨(a : Int), (b : Int), rs⟩ = false then none else some ⟨(a : Int), (b : Int), rs⟩
theorem getP_eq (l : L) : getP l = if 2147483647 < (rNum l ⟨0, false⟩).1 ∨ 1099511627776 < (rNum l (rNum l ⟨0, false⟩).2).1 ∨ 200 < (rNum l (rNum l (rNum l ⟨0, false⟩).2).2).1 then none else fin2 l (rNum l ⟨0, false⟩).1 (rNum l (rNum l ⟨0, false⟩).2).1 (readRows l (rNum l (rNum l (rNum l ⟨0, false⟩).2).2).1 (rNum l (rNum l (rNum l ⟨0, false⟩).2).2).2) := by
  unfold getP
  simp only
  split
  · rfl
  · cases readRows l (rNum l (rNum l (rNum l ⟨0, false⟩).2).2).1 (rNum l (rNum l (rNum l ⟨0, false⟩).2).2).2 <;> rfl
theorem fin2_ok {l : L} {a b : Nat} {rs : List Rw} {s : St} (h1 : (rEnd l s).bad = false) (h2 : mayB ⟨(a : Int), (b : Int), rs⟩ = true) : fin2 l a b (some (rs, s)) = some ⟨(a : Int), (b : Int), rs⟩ := by
  unfold fin2
  dsimp only
  rw [if_neg (by rw [h1, h2]; simp)]
theorem fin2_no {l : L} {a b : Nat} {rs : List Rw} {s : St} (h : (rEnd l s).bad = true ∨ mayB ⟨(a : Int), (b : Int), rs⟩ = false) : fin2 l a b (some (rs, s)) = none := by
  unfold fin2
  dsimp only
  rw [if_pos h]
def ResG (w w' : World) (e : Ending) : Option Bt → Prop
  | none => e = .returned (.tuple #[.agg #[.int .i64 0, .int .i64 0, .slice none 0 0], .iface 32 (.int .i64 2)]) ∧ Fr [] w w'
  | some b => ∃ xs A' c' F' FE', e = .returned (.tuple #[.agg #[.int .i64 b.seq, .int .i64 b.start, .slice A' xs.length c'], .nilIface]) ∧ rws xs = b.rows ∧ xs.length ≤ c' ∧ VX cW 8 w' F' A' xs ∧ EV w' FE' xs ∧ (∀ y ∈ F', y ∉ FE') ∧ (∀ y ∈ F', w.heap.size ≤ y) ∧ (∀ y ∈ FE', w.heap.size ≤ y) ∧ Fr [] w w'
def ResM (w w' : World) (e : Ending) : Option Bt → Prop
  | none => e = .returned (.tuple #[.agg #[.int .i64 0, .int .i64 0, .slice none 0 0], .bool false]) ∧ Fr [] w w'
  | some b => ∃ xs A' c' F' FE', e = .returned (.tuple #[.agg #[.int .i64 b.seq, .int .i64 b.start, .slice A' xs.length c'], .bool true]) ∧ rws xs = b.rows ∧ xs.length ≤ c' ∧ VX cW 8 w' F' A' xs ∧ EV w' FE' xs ∧ (∀ y ∈ F', y ∉ FE') ∧ (∀ y ∈ F', w.heap.size ≤ y) ∧ (∀ y ∈ FE', w.heap.size ≤ y) ∧ Fr [] w w'
set_option maxRecDepth 100000 in
set_option maxHeartbeats 400000 in
theorem get_f (A : Option Addr) (n cp : Nat) (l : L) (FB : List Nat) (w : World) (HV : VX cB 1 w FB A l) (hn : l.length = n) (hc : n ≤ cp) (hlen : l.length ≤ 1000000000) (HS : VarI w "strconv.ErrSyntax") (HR : VarI w "strconv.ErrRange") (HTab : Lib.TabIs Tryz.prog w "internal/strconv.uint64pow10" .u64 Lib.pow10Tab) (HM : MaxI w) :
    Calls Tryz.prog 14 #[.slice A n cp] w fun e w' => ResG w w' e (getP l) := by
 have HA := Fr.refl [] w
 refine Zen (N := 53) Tryz.func14 (c := _) [(0, .slice A n cp)] <| Zsg <| Zb 2 #[J 0, J 0, .slice none 0 0] 24 (fun g => Pt g 0) ?_
 intro g1 w2 HB4 F3 le5 _
 have ge_HA_g1 := Nat.le_trans HA.size le5
 refine Zr 1 [(3, .nilIface)] <| Zdn <| Zsg <| Zr 1 [(9, .slice A n cp)] <| Zc 10 (Wire.read_any A n cp _) ?_
 rintro _ w6 ⟨g, rfl, HBg, F7, leg⟩
 refine ⟨_, rfl, trivial, ?_⟩
 have ne_g1_g := ltn HB4.lt leg
 have HV := HV.keep F3 dj0
 have nin_g_FB := new_nin HV.lt leg
 have HS := HS.k F3
 have ne_1_g : 1 ≠ g := Nat.ne_of_lt (Nat.lt_of_lt_of_le (var_lt 1 (by kernel_rfl) HS) leg)
 have HR := HR.k F3
 have ne_2_g : 2 ≠ g := Nat.ne_of_lt (Nat.lt_of_lt_of_le (var_lt 2 (by kernel_rfl) HR) leg)
 have HTab := HTab.k F3
 have ne_3_g : 3 ≠ g := Nat.ne_of_lt (Nat.lt_of_lt_of_le (tab_lt HTab) leg)
 have HM := HM.k F3
 have ne_0_g : 0 ≠ g := Nat.ne_of_lt (Nat.lt_of_lt_of_le (max_lt HM) leg)
 have HA := HA.step0 F3
 have ge_HA_g := Nat.le_trans HA.size leg
 have HR0 : Wire.Rd 114 w6 g (.slice A n cp) ⟨0, false⟩ := Wire.Rd.ok HBg
 have hg := nin_g_FB
 have ok0_ : St.ok l ⟨0, false⟩ := Nat.zero_le _
 have HV := HV.keep F7 dj0
 refine Zr 1 [(4, Pt g 0)] <| Zdn <| Zsg <| Zr 1 [(11, Pt g 0)] <| Zc 12 (small_f 2147483647 g (⟨0, false⟩) A n cp l FB _ HV hn hc hlen hg HR0 ok0_ (by decide)) ?_
 rintro _ w8 ⟨z11, rfl, hz12, HR10, F9⟩
 refine ⟨_, rfl, trivial, ?_⟩
 obtain ⟨s13, hs13⟩ : ∃ s_, s_ = (rNum l (⟨0, false⟩)).2 := ⟨_, rfl⟩
 rw [← hs13] at HR10
 have ok_s13 : St.ok l s13 := by rw [hs13]; exact Wire.rNum_ok ok0_
 obtain ⟨x14, hx14⟩ : ∃ x_ : Nat, x_ = (rNum l (⟨0, false⟩)).1 := ⟨_, rfl⟩
 rw [← hx14] at hz12
 have lt_x14 : x14 < 18446744073709551616 := by rw [hx14]; exact Wire.rNum_lt _ _
 refine Zr 1 [(13, .agg #[J z11, J 0, .slice none 0 0])] <| Zb 5 #[J 0, J 0, .slice none 0 0] 24 (fun g => Pt g 0) ?_
 intro g15 w16 HB18 F17 le19 _
 have HB4 := (HB4.k F7).j F9 ne_g1_g
 have ne_g1_g15 := ltn HB4.lt le19
 have HV := HV.keep F9 (djB nin_g_FB)
 have nin_g15_FB := new_nin HV.lt le19
 have HS := var_keep 1 (by kernel_rfl) (HS.k F7) F9 (ninC ne_1_g (nin0 _))
 have ne_1_g15 : 1 ≠ g15 := Nat.ne_of_lt (Nat.lt_of_lt_of_le (var_lt 1 (by kernel_rfl) HS) le19)
 have HR := var_keep 2 (by kernel_rfl) (HR.k F7) F9 (ninC ne_2_g (nin0 _))
 have ne_2_g15 : 2 ≠ g15 := Nat.ne_of_lt (Nat.lt_of_lt_of_le (var_lt 2 (by kernel_rfl) HR) le19)
 have HTab := tab_keep (HTab.k F7) F9 (ninC ne_3_g (nin0 _))
 have ne_3_g15 : 3 ≠ g15 := Nat.ne_of_lt (Nat.lt_of_lt_of_le (tab_lt HTab) le19)
 have HM := max_keep (HM.k F7) F9 (ninC ne_0_g (nin0 _))
 have ne_0_g15 : 0 ≠ g15 := Nat.ne_of_lt (Nat.lt_of_lt_of_le (max_lt HM) le19)
 have ne_g_g15 : g ≠ g15 := Nat.ne_of_lt (Nat.lt_of_lt_of_le (Wire.Rd.lt HR10) le19)
 have HA := (HA.step0 F7).step F9 (inSR ge_HA_g inS0)
 have ge_HA_g15 := Nat.le_trans HA.size le19
 have HR10 := Wire.Rd.keep HR10 F17 (nin0 _)
 refine Zs g15 0 [J z11, J 0, .slice none 0 0] #[J z11, J 0, .slice none 0 0] HB18 ?_
 intro w20 HB22 F21 _
 have HR10 := Wire.Rd.keep HR10 F21 (ninC ne_g_g15 (nin0 _))
 have HV := (HV.keep F17 dj0).keep F21 (djB nin_g15_FB)
 refine Zdn <| Zsg <| Zr 1 [(14, Pt g 0)] <| Zc 15 (small_f 1099511627776 g s13 A n cp l FB _ HV hn hc hlen hg HR10 ok_s13 (by decide)) ?_
 rintro _ w23 ⟨z26, rfl, hz27, HR25, F24⟩
 refine ⟨_, rfl, trivial, ?_⟩
 obtain ⟨s28, hs28⟩ : ∃ s_, s_ = (rNum l s13).2 := ⟨_, rfl⟩
 rw [← hs28] at HR25
 have ok_s28 : St.ok l s28 := by rw [hs28]; exact Wire.rNum_ok ok_s13
 obtain ⟨x29, hx29⟩ : ∃ x_ : Nat, x_ = (rNum l s13).1 := ⟨_, rfl⟩
 rw [← hx29] at hz27
 have lt_x29 : x29 < 18446744073709551616 := by rw [hx29]; exact Wire.rNum_lt _ _
 have HB22 := HB22.j F24 (Ne.symm ne_g_g15)
 refine Zr 1 [(16, Pt g15 1)] <| Zs g15 1 [J z26] #[J z11, J z26, .slice none 0 0] HB22 ?_
 intro w30 HB32 F31 _
 have HR25 := Wire.Rd.keep HR25 F31 (ninC ne_g_g15 (nin0 _))
 have HV := (HV.keep F24 (djB nin_g_FB)).keep F31 (djB nin_g15_FB)
 refine Zdn <| Zsg <| Zr 1 [(17, Pt g 0)] <| Zc 18 (small_f 200 g s28 A n cp l FB _ HV hn hc hlen hg HR25 ok_s28 (by decide)) ?_
 rintro _ w33 ⟨z36, rfl, hz37, HR35, F34⟩
 refine ⟨_, rfl, trivial, ?_⟩
 obtain ⟨s38, hs38⟩ : ∃ s_, s_ = (rNum l s28).2 := ⟨_, rfl⟩
 rw [← hs38] at HR35
 have ok_s38 : St.ok l s38 := by rw [hs38]; exact Wire.rNum_ok ok_s28
 obtain ⟨x39, hx39⟩ : ∃ x_ : Nat, x_ = (rNum l s28).1 := ⟨_, rfl⟩
 rw [← hx39] at hz37
 have lt_x39 : x39 < 18446744073709551616 := by rw [hx39]; exact Wire.rNum_lt _ _
 refine Zr 1 [(6, J z36)] <| Zdn <| Zq <| Zsg <| Zr 2 [(20, J 0), (19, J z36)] <| Zdn <| WE.block ?_
 have HRL : Wire.Rd 114 w33 g (.slice A n cp) s38 := HR35
 refine WE.loop (α := Nat × St × List Nat × Option Addr × Nat × List RX × List Nat) (E := fun ⟨i, st, FX, Ax, cx, xs, FE⟩ => [(2, Pt g1 0), (3, .nilIface), (4, Pt g 0), (5, Pt g15 0), (6, J z36), (19, J z36), (20, J (i : Int))]) (I := fun ⟨i, st, FX, Ax, cx, xs, FE⟩ wr => i ≤ x39 ∧ (i = 0 ∨ z36 = (x39 : Int)) ∧ readRows l x39 s38 = (readRows l (x39 - i) st).map (fun y => (rws xs ++ y.1, y.2)) ∧ xs.length = i ∧ St.ok l st ∧ (∀ x ∈ xs, x.1.In ∧ x.1.key.length ≤ 300 ∧ x.1.bk.length ≤ 65) ∧ Blk wr g1 #[J 0, J 0, .slice none 0 0] 24 ∧ Blk wr g15 #[J z11, J z26, .slice Ax xs.length cx] 24 ∧ VX cB 1 wr FB A l ∧ VarI wr "strconv.ErrSyntax" ∧ VarI wr "strconv.ErrRange" ∧ Lib.TabIs Tryz.prog wr "internal/strconv.uint64pow10" .u64 Lib.pow10Tab ∧ MaxI wr ∧ Wire.Rd 114 wr g (.slice A n cp) (st) ∧ OwnX 54 8 wr FX (.slice Ax xs.length cx) (List.map cW xs) ∧ g1 ∉ FX ∧ g15 ∉ FX ∧ 1 ∉ FX ∧ 2 ∉ FX ∧ 3 ∉ FX ∧ 0 ∉ FX ∧ g ∉ FX ∧ (∀ y ∈ FX, y ∉ FB) ∧ (∀ y ∈ FX, (World.heap w).size ≤ y) ∧ EV wr FE xs ∧ g1 ∉ FE ∧ g15 ∉ FE ∧ 1 ∉ FE ∧ 2 ∉ FE ∧ 3 ∉ FE ∧ 0 ∉ FE ∧ g ∉ FE ∧ (∀ y ∈ FE, y ∉ FB) ∧ (∀ y ∈ FE, y ∉ FX) ∧ (∀ y ∈ FE, (World.heap w).size ≤ y) ∧ Fr [] w wr) (m := fun ⟨i, st, FX, Ax, cx, xs, FE⟩ => x39 - i) (0, s38, [], none, 0, [], []) [2, 3, 4, 5, 6, 19, 20] (by kernel_rfl) ?_ ?_
 ·
  have HB4 := ((((HB4.k F17).j F21 ne_g1_g15).j F24 ne_g1_g).j F31 ne_g1_g15).j F34 ne_g1_g
  have HS := var_keep 1 (by kernel_rfl) (var_keep 1 (by kernel_rfl) (var_keep 1 (by kernel_rfl) (var_keep 1 (by kernel_rfl) (HS.k F17) F21 (ninC ne_1_g15 (nin0 _))) F24 (ninC ne_1_g (nin0 _))) F31 (ninC ne_1_g15 (nin0 _))) F34 (ninC ne_1_g (nin0 _))
  have HR := var_keep 2 (by kernel_rfl) (var_keep 2 (by kernel_rfl) (var_keep 2 (by kernel_rfl) (var_keep 2 (by kernel_rfl) (HR.k F17) F21 (ninC ne_2_g15 (nin0 _))) F24 (ninC ne_2_g (nin0 _))) F31 (ninC ne_2_g15 (nin0 _))) F34 (ninC ne_2_g (nin0 _))
  have HTab := tab_keep (tab_keep (tab_keep (tab_keep (HTab.k F17) F21 (ninC ne_3_g15 (nin0 _))) F24 (ninC ne_3_g (nin0 _))) F31 (ninC ne_3_g15 (nin0 _))) F34 (ninC ne_3_g (nin0 _))
  have HM := max_keep (max_keep (max_keep (max_keep (HM.k F17) F21 (ninC ne_0_g15 (nin0 _))) F24 (ninC ne_0_g (nin0 _))) F31 (ninC ne_0_g15 (nin0 _))) F34 (ninC ne_0_g (nin0 _))
  have HA := ((((HA.step0 F17).step F21 (inSR ge_HA_g15 inS0)).step F24 (inSR ge_HA_g inS0)).step F31 (inSR ge_HA_g15 inS0)).step F34 (inSR ge_HA_g inS0)
  have HB32 := HB32.j F34 (Ne.symm ne_g_g15)
  have HV := HV.keep F34 (djB nin_g_FB)
  exact ⟨Nat.zero_le _, .inl rfl, rr0, rfl, ok_s38, by simp, HB4, HB32, HV, HS, HR, HTab, HM, HRL, OwnX.nil _ _ _, (by simp), (by simp), (by simp), (by simp), (by simp), (by simp), (by simp), (by simp), (by simp), EV.nil _, (by simp), (by simp), (by simp), (by simp), (by simp), (by simp), (by simp), (by simp), (by simp), (by simp), HA⟩
 rintro ⟨i, st, FX, Ax, cx, xs, FE⟩ wr ⟨hi, hi0, hrr, hxl, okst, hin, HB4, HB32, HV, HS, HR, HTab, HM, HRL, HO_FX, nin_g1_FX, nin_g15_FX, nin_1_FX, nin_2_FX, nin_3_FX, nin_0_FX, nin_g_FX, dj_FX_FB, ge_HA_FX, HO_FE, nin_g1_FE, nin_g15_FE, nin_1_FE, nin_2_FE, nin_3_FE, nin_0_FE, nin_g_FE, dj_FE_FB, dj_FE_FX, ge_HA_FE, HA⟩
 have hcap_ := own_cap HO_FX (List.length_map _)
 refine Zsg <| ZoP 21 (((i : Int) : Int) < z36) ?_ ?_
 ·
  intro h40
  refine Zdn <| Zq <| ZT <| Zk <| Zq <| WE.block <| Zsg <| Zr 1 [(23, Pt g 0)] ?_
  cases hrd_ : readR l st
  ·
   refine Zc 24 (read_f g st A n cp l FB _ HV hn hc (by omega) hg HRL okst) ?_
   intro e_ w41 hr_
   unfold ResX at hr_
   rw [hrd_] at hr_
   obtain ⟨k_, a_, b_, c_, d_, f_, o_, A_, n_, cp_, rfl, F42⟩ := hr_
   refine ⟨_, rfl, trivial, Zr 3 [(26, .bool false), (25, .agg #[.string k_, J a_, .int .u64 b_, J c_, J d_, J f_, .bool o_, .slice A_ n_ cp_]), (22, .tuple #[.agg #[.string k_, J a_, .int .u64 b_, J c_, J d_, J f_, .bool o_, .slice A_ n_ cp_], .bool false])] <| Zb 7 #[.string (⟨#[]⟩), J 0, .int .u64 0, J 0, J 0, J 0, .bool false, .slice none 0 0] 54 (fun g => Pt g 0) ?_⟩
   intro g43 w44 HB46 F45 le47 _
   have HB4 := HB4.j F42 ne_g1_g
   have ne_g1_g43 := ltn HB4.lt le47
   have HA := HA.step F42 (inSR ge_HA_g inS0)
   have ge_HA_g43 := Nat.le_trans HA.size le47
   refine Zs g43 0 [.string k_, J a_, .int .u64 b_, J c_, J d_, J f_, .bool o_, .slice A_ n_ cp_] #[.string k_, J a_, .int .u64 b_, J c_, J d_, J f_, .bool o_, .slice A_ n_ cp_] HB46 ?_
   intro w48 HB50 F49 _
   have HB4 := (HB4.k F45).j F49 ne_g1_g43
   refine Zr 1 [(8, .bool false)] <| Zdn <| Zq <| Zsg <| Zr 2 [(28, .bool true), (27, .bool false)] <| Zdn <| ZT <| Zsg <| Zr 2 [(30, .iface 32 (J 2)), (29, .agg #[J 0, J 0, .slice none 0 0])] <| Zs g1 0 [J 0, J 0, .slice none 0 0] #[J 0, J 0, .slice none 0 0] HB4 ?_
   intro w51 HB53 F52 _
   refine Zr 1 [(3, .iface 32 (J 2))] <| Zdn <| WE.ret <| WQ.thenR <| WQ.blkR <| WQ.thenR <| WQ.thenR <| WQ.blkR <| WQ.thenR <| WQ.ret2 (fn := Tryz.f14) (show Tryz.f14.results = #[.cell 2 24, .tmp 3] by kernel_rfl) (show resOk _ _ _ _ (.agg #[J 0, J 0, .slice none 0 0]) from ⟨by kernel_rfl, ⟨g1, 0, none⟩, by kernel_rfl, ldVarB [J 0, J 0, .slice none 0 0] (by kernel_rfl) (by kernel_rfl) (by kernel_rfl) HB53 (by kernel_rfl)⟩) (show resOk _ _ _ _ (.iface 32 (J 2)) from ⟨by kernel_rfl, by kernel_rfl⟩) ?_
   have hg_ : getP l = if 2147483647 < x14 ∨ 1099511627776 < x29 ∨ 200 < x39 then none else fin2 l x14 x29 (readRows l x39 s38) := by rw [getP_eq]; simp only [← hx14, ← hs13, ← hx29, ← hs28, ← hx39, ← hs38]
   unfold ResG
   have hno_ : getP l = none := by
    rw [hg_, rrN hrr (by omega) hrd_]
    split <;> rfl
   rw [hno_]
   have HA := ((HA.step0 F45).step F49 (inSR ge_HA_g43 inS0)).step F52 (inSR ge_HA_g1 inS0)
   exact ⟨rfl, HA⟩
  ·
   rename_i y_
   obtain ⟨r_, s_⟩ := y_
   refine Zc 24 (read_f g st A n cp l FB _ HV hn hc (by omega) hg HRL okst) ?_
   intro e_ w54 hr_
   unfold ResX at hr_
   rw [hrd_] at hr_
   obtain ⟨A_, c_, FQ, rfl, HRN, HVQ, hcq_, hgq_, F55⟩ := hr_
   refine ⟨_, rfl, trivial, ?_⟩
   have hgqr_ := fun y hy => Or.inr (a := y ∈ ([] : List Nat)) (hgq_ y hy)
   obtain ⟨_, _, _, _, _, hn65_, hIn_, _, _, hbl_, hok_, _⟩ := readR_some hrd_
   have okst2_ := hok_ okst
   have hky_ := readR_key hrd_
   have hrr2_ := rrS (p := (A_, c_)) hrr (by omega) hrd_
   have hin2_ := in_snoc (p := (A_, c_)) hin ⟨hIn_, hky_, by omega⟩
   have nin_g1_FQ := grow_nin hgqr_ (nin0 _) HB4.lt
   have nin_g15_FQ := grow_nin hgqr_ (nin0 _) HB32.lt
   have nin_1_FQ := grow_nin hgqr_ (nin0 _) ((var_lt 1 (by kernel_rfl) HS))
   have nin_2_FQ := grow_nin hgqr_ (nin0 _) ((var_lt 2 (by kernel_rfl) HR))
   have nin_3_FQ := grow_nin hgqr_ (nin0 _) ((tab_lt HTab))
   have nin_0_FQ := grow_nin hgqr_ (nin0 _) ((max_lt HM))
   have nin_g_FQ := grow_nin hgqr_ (nin0 _) ((Wire.Rd.lt HRL))
   have dj_FQ_FB := grow_dj hgqr_ (by simp) HV.lt
   have dj_FQ_FX := grow_dj hgqr_ (by simp) HO_FX.lt
   have ge_HA_FQ := grow_ge hgqr_ (by simp) HA.size
   refine Zr 3 [(26, .bool true), (25, .agg #[.string (str r_.key), J r_.kind, .int .u64 (r_.many : Int), J r_.sum, J r_.least, J r_.most, .bool r_.over, .slice A_ r_.bk.length c_]), (22, .tuple #[.agg #[.string (str r_.key), J r_.kind, .int .u64 (r_.many : Int), J r_.sum, J r_.least, J r_.most, .bool r_.over, .slice A_ r_.bk.length c_], .bool true])] <| Zb 7 #[.string (⟨#[]⟩), J 0, .int .u64 0, J 0, J 0, J 0, .bool false, .slice none 0 0] 54 (fun g => Pt g 0) ?_
   intro g56 w57 HB59 F58 le60 _
   have HB4 := HB4.j F55 ne_g1_g
   have ne_g1_g56 := ltn HB4.lt le60
   have HB32 := HB32.j F55 (Ne.symm ne_g_g15)
   have ne_g15_g56 := ltn HB32.lt le60
   have HV := HV.keep F55 (djB nin_g_FB)
   have nin_g56_FB := new_nin HV.lt le60
   have HO_FX := HO_FX.keep F55 (djB nin_g_FX)
   have nin_g56_FX := new_nin HO_FX.lt le60
   have HO_FE := HO_FE.keep F55 (djB nin_g_FE)
   have nin_g56_FE := new_nin HO_FE.lt le60
   have nin_g56_FQ := new_nin HVQ.lt le60
   have HS := var_keep 1 (by kernel_rfl) HS F55 (ninC ne_1_g (nin0 _))
   have ne_1_g56 : 1 ≠ g56 := Nat.ne_of_lt (Nat.lt_of_lt_of_le (var_lt 1 (by kernel_rfl) HS) le60)
   have HR := var_keep 2 (by kernel_rfl) HR F55 (ninC ne_2_g (nin0 _))
   have ne_2_g56 : 2 ≠ g56 := Nat.ne_of_lt (Nat.lt_of_lt_of_le (var_lt 2 (by kernel_rfl) HR) le60)
   have HTab := tab_keep HTab F55 (ninC ne_3_g (nin0 _))
   have ne_3_g56 : 3 ≠ g56 := Nat.ne_of_lt (Nat.lt_of_lt_of_le (tab_lt HTab) le60)
   have HM := max_keep HM F55 (ninC ne_0_g (nin0 _))
   have ne_0_g56 : 0 ≠ g56 := Nat.ne_of_lt (Nat.lt_of_lt_of_le (max_lt HM) le60)
   have ne_g_g56 : g ≠ g56 := Nat.ne_of_lt (Nat.lt_of_lt_of_le (Wire.Rd.lt HRN) le60)
   have HA := HA.step F55 (inSR ge_HA_g inS0)
   have ge_HA_g56 := Nat.le_trans HA.size le60
   have HRN := Wire.Rd.keep HRN F58 (nin0 _)
   refine Zs g56 0 [.string (str r_.key), J r_.kind, .int .u64 (r_.many : Int), J r_.sum, J r_.least, J r_.most, .bool r_.over, .slice A_ r_.bk.length c_] #[.string (str r_.key), J r_.kind, .int .u64 (r_.many : Int), J r_.sum, J r_.least, J r_.most, .bool r_.over, .slice A_ r_.bk.length c_] HB59 ?_
   intro w61 HB63 F62 _
   have HRN := Wire.Rd.keep HRN F62 (ninC ne_g_g56 (nin0 _))
   have HB32 := (HB32.k F58).j F62 ne_g15_g56
   refine Zr 1 [(8, .bool true)] <| Zdn <| Zq <| Zsg <| Zr 2 [(28, .bool false), (27, .bool true)] <| Zdn <| ZF <| Zk <| WE.region <| Zr 1 [(31, Pt g15 2)] <| Zl 32 (.slice Ax xs.length cx) (HB32.s 2) <| Zlb 33 [.string (str r_.key), J r_.kind, .int .u64 (r_.many : Int), J r_.sum, J r_.least, J r_.most, .bool r_.over, .slice A_ r_.bk.length c_] g56 0 (same HB63) <| Zb 34 #[.string (str r_.key), J r_.kind, .int .u64 (r_.many : Int), J r_.sum, J r_.least, J r_.most, .bool r_.over, .slice A_ r_.bk.length c_] 54 (fun g => .slice (some ⟨g, 0, none⟩) 1 1) ?_
   intro g64 w65 HB67 F66 le68 _
   have HRN := Wire.Rd.keep HRN F66 (nin0 _)
   have HO_FX := ((HO_FX.keep F58 dj0).keep F62 (djB nin_g56_FX)).keep F66 dj0
   refine Zax (m := 1) (ys := List.map cW ([((r_, (A_, c_)) : RX)])) 35 et_w HO_FX (by rw [List.length_map] <;> first | rfl | omega | (simp <;> omega)) (RowB.src (RowB.of_blk (n := 1) HB67 (List.map cW [((r_, (A_, c_)) : RX)]) rfl rfl (cW_len _) (cW_one _) (by omega))) (cW_len _) (cW_one _) (by rw [List.length_map]; first | omega | (simp only [List.length_nil]; omega) | (simp only [List.length_append, List.length_cons, List.length_nil]; omega)) (by rw [List.length_map]; first | omega | (simp only [List.length_nil]; omega) | (simp only [List.length_append, List.length_cons, List.length_nil]; omega)) ?_
   intro v74 w75 G76 HO77 F78 hg79
   rw [← List.map_append] at HO77
   have HB4 := ((HB4.k F58).j F62 ne_g1_g56).k F66
   have nin_g1_G76 := grow_nin hg79 nin_g1_FX HB4.lt
   have HB32 := HB32.k F66
   have nin_g15_G76 := grow_nin hg79 nin_g15_FX HB32.lt
   have HS := (var_keep 1 (by kernel_rfl) (HS.k F58) F62 (ninC ne_1_g56 (nin0 _))).k F66
   have nin_1_G76 := grow_nin hg79 nin_1_FX ((var_lt 1 (by kernel_rfl) HS))
   have HR := (var_keep 2 (by kernel_rfl) (HR.k F58) F62 (ninC ne_2_g56 (nin0 _))).k F66
   have nin_2_G76 := grow_nin hg79 nin_2_FX ((var_lt 2 (by kernel_rfl) HR))
   have HTab := (tab_keep (HTab.k F58) F62 (ninC ne_3_g56 (nin0 _))).k F66
   have nin_3_G76 := grow_nin hg79 nin_3_FX ((tab_lt HTab))
   have HM := (max_keep (HM.k F58) F62 (ninC ne_0_g56 (nin0 _))).k F66
   have nin_0_G76 := grow_nin hg79 nin_0_FX ((max_lt HM))
   have nin_g_G76 := grow_nin hg79 nin_g_FX ((Wire.Rd.lt HRN))
   have HV := ((HV.keep F58 dj0).keep F62 (djB nin_g56_FB)).keep F66 dj0
   have dj_G76_FB := grow_dj hg79 dj_FX_FB HV.lt
   have HO_FE := ((HO_FE.keep F58 dj0).keep F62 (djB nin_g56_FE)).keep F66 dj0
   have dj_G76_FE := grow_dj hg79 (dj_symm dj_FE_FX) HO_FE.lt
   have HVQ := ((HVQ.keep F58 dj0).keep F62 (djB nin_g56_FQ)).keep F66 dj0
   have dj_G76_FQ := grow_dj hg79 (dj_symm dj_FQ_FX) HVQ.lt
   have HA := ((HA.step0 F58).step F62 (inSR ge_HA_g56 inS0)).step0 F66
   have ge_HA_G76 := grow_ge hg79 ge_HA_FX HA.size
   have HRN := Wire.Rd.keep HRN F78 nin_g_FX
   obtain ⟨A80, cap81, rfl⟩ := HO77.sliceN (List.length_map _)
   have := @List.length_append _ xs ([((r_, (A_, c_)) : RX)])
   have HB32 := HB32.keep F78 nin_g15_FX
   refine Zr 1 [(36, Pt g15 2)] <| Zs g15 2 [.slice A80 ((xs ++ [((r_, (A_, c_)) : RX)]).length) cap81] #[J z11, J z26, .slice A80 ((xs ++ [((r_, (A_, c_)) : RX)]).length) cap81] HB32 ?_
   intro w82 HB84 F83 _
   have HRN := Wire.Rd.keep HRN F83 (ninC ne_g_g15 (nin0 _))
   refine Zd <| WQ.blkN <| Zn ?_
   obtain ⟨FE85, hFE85⟩ : ∃ F_, F_ = FE ++ FQ := ⟨_, rfl⟩
   have HO_FE := (HO_FE.keep F78 dj_FE_FX).keep F83 (djB nin_g15_FE)
   have HVQ := (HVQ.keep F78 dj_FQ_FX).keep F83 (djB nin_g15_FQ)
   have HE86 := HO_FE.snoc HVQ hcq_
   rw [← hFE85] at HE86
   have nin_g1_FE85 : g1 ∉ FE85 := by rw [hFE85]; exact fun h_ => (List.mem_append.1 h_).elim nin_g1_FE nin_g1_FQ
   have nin_g15_FE85 : g15 ∉ FE85 := by rw [hFE85]; exact fun h_ => (List.mem_append.1 h_).elim nin_g15_FE nin_g15_FQ
   have nin_1_FE85 : 1 ∉ FE85 := by rw [hFE85]; exact fun h_ => (List.mem_append.1 h_).elim nin_1_FE nin_1_FQ
   have nin_2_FE85 : 2 ∉ FE85 := by rw [hFE85]; exact fun h_ => (List.mem_append.1 h_).elim nin_2_FE nin_2_FQ
   have nin_3_FE85 : 3 ∉ FE85 := by rw [hFE85]; exact fun h_ => (List.mem_append.1 h_).elim nin_3_FE nin_3_FQ
   have nin_0_FE85 : 0 ∉ FE85 := by rw [hFE85]; exact fun h_ => (List.mem_append.1 h_).elim nin_0_FE nin_0_FQ
   have nin_g_FE85 : g ∉ FE85 := by rw [hFE85]; exact fun h_ => (List.mem_append.1 h_).elim nin_g_FE nin_g_FQ
   have dj_FE85_FB : ∀ y ∈ FE85, y ∉ FB := by rw [hFE85]; exact fun y hy => (List.mem_append.1 hy).elim (dj_FE_FB y) (dj_FQ_FB y)
   have dj_FE85_G76 : ∀ y ∈ FE85, y ∉ G76 := by rw [hFE85]; exact fun y hy => (List.mem_append.1 hy).elim ((dj_symm dj_G76_FE) y) ((dj_symm dj_G76_FQ) y)
   have ge_HA_FE85 : ∀ y ∈ FE85, (World.heap w).size ≤ y := by rw [hFE85]; exact fun y hy => (List.mem_append.1 hy).elim (ge_HA_FE y) (ge_HA_FQ y)
   refine WE.region <| Zw 37 ((i : Int) + 1) ((i + 1 : Nat) : Int) <| Zr 1 [(20, J ((i + 1 : Nat) : Int))] <| Zd ?_
   have HRL := HRN
   refine WQ.round ?_
   intro a_ ha_
   refine ⟨(i + 1, s_, G76, A80, cap81, (xs ++ [((r_, (A_, c_)) : RX)]), FE85), ?_, ha_.keep [2, 3, 4, 5, 6, 19, 20] (by kernel_rfl), ?_⟩
   ·
    show x39 - (i + 1) < x39 - i; omega
   ·
    have HB4 := (HB4.keep F78 nin_g1_FX).j F83 ne_g1_g15
    have HV := (HV.keep F78 (dj_symm dj_FX_FB)).keep F83 (djB nin_g15_FB)
    have HS := var_keep 1 (by kernel_rfl) (var_keep 1 (by kernel_rfl) HS F78 nin_1_FX) F83 (ninC ne_1_g15 (nin0 _))
    have HR := var_keep 2 (by kernel_rfl) (var_keep 2 (by kernel_rfl) HR F78 nin_2_FX) F83 (ninC ne_2_g15 (nin0 _))
    have HTab := tab_keep (tab_keep HTab F78 nin_3_FX) F83 (ninC ne_3_g15 (nin0 _))
    have HM := max_keep (max_keep HM F78 nin_0_FX) F83 (ninC ne_0_g15 (nin0 _))
    have HA := (HA.step F78 (inF ge_HA_FX)).step F83 (inSR ge_HA_g15 inS0)
    have HO77 := HO77.keep F83 (djB nin_g15_G76)
    exact ⟨by omega, by omega, hrr2_, by rw [List.length_append, hxl]; rfl, okst2_, hin2_, HB4, HB84, HV, HS, HR, HTab, HM, HRL, HO77, nin_g1_G76, nin_g15_G76, nin_1_G76, nin_2_G76, nin_3_G76, nin_0_G76, nin_g_G76, dj_G76_FB, ge_HA_G76, HE86, nin_g1_FE85, nin_g15_FE85, nin_1_FE85, nin_2_FE85, nin_3_FE85, nin_0_FE85, nin_g_FE85, dj_FE85_FB, dj_FE85_G76, ge_HA_FE85, HA⟩
 intro h40
 refine Zdn <| Zq <| ZF <| WE.exit <| WQ.thenE <| WQ.thenE <| WQ.blkE <| Zn <| Zq <| Zsg <| Zr 1 [(38, Pt g 0)] <| Zc 39 (Wire.rend_any g st A n cp l _ hn HRL) ?_
 rintro _ w87 ⟨⟨hbad90, rfl⟩ | ⟨hbad90, g2_, rfl, HBe_, leg2_⟩, HR89, F88⟩
 ·
  refine ⟨_, rfl, trivial, Zr 3 [(42, J z36), (41, .bool false), (40, .bool false)] <| Zo 43 (.bool (decide ((z36 : Int) < 0))) ?_⟩
  refine WO.topP ((z36 : Int) < 0) ?_ ?_
  ·
   intro h91
   have HB4 := HB4.j F88 ne_g1_g
   refine Zr 6 [(49, .bool true), (48, undef), (47, undef), (46, undef), (45, .bool true), (44, .bool true)] <| Zdn <| ZT <| Zsg <| Zr 2 [(51, .iface 32 (J 2)), (50, .agg #[J 0, J 0, .slice none 0 0])] <| Zs g1 0 [J 0, J 0, .slice none 0 0] #[J 0, J 0, .slice none 0 0] HB4 ?_
   intro w92 HB94 F93 _
   refine Zr 1 [(3, .iface 32 (J 2))] <| Zdn <| WE.ret <| WQ.thenR <| WQ.ret2 (fn := Tryz.f14) (show Tryz.f14.results = #[.cell 2 24, .tmp 3] by kernel_rfl) (show resOk _ _ _ _ (.agg #[J 0, J 0, .slice none 0 0]) from ⟨by kernel_rfl, ⟨g1, 0, none⟩, by kernel_rfl, ldVarB [J 0, J 0, .slice none 0 0] (by kernel_rfl) (by kernel_rfl) (by kernel_rfl) HB94 (by kernel_rfl)⟩) (show resOk _ _ _ _ (.iface 32 (J 2)) from ⟨by kernel_rfl, by kernel_rfl⟩) ?_
   have hg_ : getP l = if 2147483647 < x14 ∨ 1099511627776 < x29 ∨ 200 < x39 then none else fin2 l x14 x29 (readRows l x39 s38) := by rw [getP_eq]; simp only [← hx14, ← hs13, ← hx29, ← hs28, ← hx39, ← hs38]
   unfold ResG
   have hno_ : getP l = none := by
    rw [hg_]
    split
    · rfl
    · rename_i hq_
      obtain rfl : i = x39 := by omega
      rw [rrE hrr]
      first | exact fin2_no (.inl hbad90) | (exfalso; omega)
   rw [hno_]
   have HA := (HA.step F88 (inSR ge_HA_g inS0)).step F93 (inSR ge_HA_g1 inS0)
   exact ⟨rfl, HA⟩
  intro h91
  have HB32 := HB32.j F88 (Ne.symm ne_g_g15)
  have HO_FX := HO_FX.keep F88 (djB nin_g_FX)
  refine Zr 2 [(45, .bool false), (44, .bool false)] <| Zlb 46 [J z11, J z26, .slice Ax xs.length cx] g15 0 (same HB32) ?_
  have HX97 := VX.of_own HO_FX
  have hxl9_ : xs.length ≤ 200 := by omega
  have HO_FE := HO_FE.keep F88 (djB nin_g_FE)
  have HS := var_keep 1 (by kernel_rfl) HS F88 (ninC ne_1_g (nin0 _))
  have HR := var_keep 2 (by kernel_rfl) HR F88 (ninC ne_2_g (nin0 _))
  have HTab := tab_keep HTab F88 (ninC ne_3_g (nin0 _))
  have HM := max_keep HM F88 (ninC ne_0_g (nin0 _))
  refine Zc 47 (may_l z11 z26 xs Ax xs.length cx FX FE _ HX97 HO_FE rfl (by omega) (fun x hx_ => by have := (hin x hx_).2.1; omega) (fun x hx_ => by have := (hin x hx_).2.2; omega) HS HR HTab HM) ?_
  rintro _ w95 ⟨rfl, F96⟩
  have HB4 := (HB4.j F88 ne_g1_g).k F96
  have HA := (HA.step F88 (inSR ge_HA_g inS0)).step0 F96
  refine ⟨_, rfl, trivial, Zo 48 (.bool (!(mayB (⟨z11, z26, rws xs⟩ : Bt)))) ?_⟩
  refine WO.topNB ((mayB (⟨z11, z26, rws xs⟩ : Bt))) ?_ ?_
  ·
   intro h99
   have HB32 := HB32.k F96
   refine Zr 1 [(49, .bool false)] <| Zdn <| ZF <| Zk <| Zsg <| Zlb 52 [J z11, J z26, .slice Ax xs.length cx] g15 0 (same HB32) <| Zs g1 0 [J z11, J z26, .slice Ax xs.length cx] #[J z11, J z26, .slice Ax xs.length cx] HB4 ?_
   intro w100 HB102 F101 _
   refine Zr 1 [(3, .nilIface)] <| Zdn <| WE.ret <| WQ.ret2 (fn := Tryz.f14) (show Tryz.f14.results = #[.cell 2 24, .tmp 3] by kernel_rfl) (show resOk _ _ _ _ (.agg #[J z11, J z26, .slice Ax xs.length cx]) from ⟨by kernel_rfl, ⟨g1, 0, none⟩, by kernel_rfl, ldVarB [J z11, J z26, .slice Ax xs.length cx] (by kernel_rfl) (by kernel_rfl) (by kernel_rfl) HB102 (by kernel_rfl)⟩) (show resOk _ _ _ _ .nilIface from ⟨by kernel_rfl, by kernel_rfl⟩) ?_
   have hg_ : getP l = if 2147483647 < x14 ∨ 1099511627776 < x29 ∨ 200 < x39 then none else fin2 l x14 x29 (readRows l x39 s38) := by rw [getP_eq]; simp only [← hx14, ← hs13, ← hx29, ← hs28, ← hx39, ← hs38]
   unfold ResG
   have hmi_ := mayB_iff.1 h99
   dsimp only at hmi_
   obtain rfl : z11 = (x14 : Int) := by omega
   obtain rfl : z26 = (x29 : Int) := by omega
   obtain rfl : i = x39 := by omega
   rw [hg_, if_neg (by omega), rrE hrr, fin2_ok hbad90 h99]
   have HO_FX := (HO_FX.keep F96 dj0).keep F101 (djB nin_g1_FX)
   have HO_FE := (HO_FE.keep F96 dj0).keep F101 (djB nin_g1_FE)
   have HA := HA.step F101 (inSR ge_HA_g1 inS0)
   exact ⟨xs, Ax, cx, FX, FE, rfl, rfl, hcap_, VX.of_own HO_FX, HO_FE, (dj_symm dj_FE_FX), ge_HA_FX, ge_HA_FE, HA⟩
  intro h99
  refine Zr 1 [(49, .bool true)] <| Zdn <| ZT <| Zsg <| Zr 2 [(51, .iface 32 (J 2)), (50, .agg #[J 0, J 0, .slice none 0 0])] <| Zs g1 0 [J 0, J 0, .slice none 0 0] #[J 0, J 0, .slice none 0 0] HB4 ?_
  intro w103 HB105 F104 _
  refine Zr 1 [(3, .iface 32 (J 2))] <| Zdn <| WE.ret <| WQ.thenR <| WQ.ret2 (fn := Tryz.f14) (show Tryz.f14.results = #[.cell 2 24, .tmp 3] by kernel_rfl) (show resOk _ _ _ _ (.agg #[J 0, J 0, .slice none 0 0]) from ⟨by kernel_rfl, ⟨g1, 0, none⟩, by kernel_rfl, ldVarB [J 0, J 0, .slice none 0 0] (by kernel_rfl) (by kernel_rfl) (by kernel_rfl) HB105 (by kernel_rfl)⟩) (show resOk _ _ _ _ (.iface 32 (J 2)) from ⟨by kernel_rfl, by kernel_rfl⟩) ?_
  have hg_ : getP l = if 2147483647 < x14 ∨ 1099511627776 < x29 ∨ 200 < x39 then none else fin2 l x14 x29 (readRows l x39 s38) := by rw [getP_eq]; simp only [← hx14, ← hs13, ← hx29, ← hs28, ← hx39, ← hs38]
  unfold ResG
  have hno_ : getP l = none := by
   rw [hg_]
   split
   · rfl
   · rename_i hq_
     obtain rfl : i = x39 := by omega
     rw [rrE hrr]
     obtain rfl : z11 = (x14 : Int) := by omega
     obtain rfl : z26 = (x29 : Int) := by omega
     exact fin2_no (.inr h99)
  rw [hno_]
  have HA := HA.step F104 (inSR ge_HA_g1 inS0)
  exact ⟨rfl, HA⟩
 ·
  have HB4 := HB4.j F88 ne_g1_g
  refine ⟨_, rfl, trivial, Zr 10 [(49, .bool true), (48, undef), (47, undef), (46, undef), (45, .bool true), (44, .bool true), (43, undef), (42, undef), (41, .bool true), (40, .bool true)] <| Zdn <| ZT <| Zsg <| Zr 2 [(51, .iface 32 (J 2)), (50, .agg #[J 0, J 0, .slice none 0 0])] <| Zs g1 0 [J 0, J 0, .slice none 0 0] #[J 0, J 0, .slice none 0 0] HB4 ?_⟩
  intro w106 HB108 F107 _
  refine Zr 1 [(3, .iface 32 (J 2))] <| Zdn <| WE.ret <| WQ.thenR <| WQ.ret2 (fn := Tryz.f14) (show Tryz.f14.results = #[.cell 2 24, .tmp 3] by kernel_rfl) (show resOk _ _ _ _ (.agg #[J 0, J 0, .slice none 0 0]) from ⟨by kernel_rfl, ⟨g1, 0, none⟩, by kernel_rfl, ldVarB [J 0, J 0, .slice none 0 0] (by kernel_rfl) (by kernel_rfl) (by kernel_rfl) HB108 (by kernel_rfl)⟩) (show resOk _ _ _ _ (.iface 32 (J 2)) from ⟨by kernel_rfl, by kernel_rfl⟩) ?_
  have hg_ : getP l = if 2147483647 < x14 ∨ 1099511627776 < x29 ∨ 200 < x39 then none else fin2 l x14 x29 (readRows l x39 s38) := by rw [getP_eq]; simp only [← hx14, ← hs13, ← hx29, ← hs28, ← hx39, ← hs38]
  unfold ResG
  have hno_ : getP l = none := by
   rw [hg_]
   split
   · rfl
   · rename_i hq_
     obtain rfl : i = x39 := by omega
     rw [rrE hrr]
     exact fin2_no (.inl hbad90)
  rw [hno_]
  have HA := (HA.step F88 (inSR ge_HA_g inS0)).step F107 (inSR ge_HA_g1 inS0)
  exact ⟨rfl, HA⟩
set_option maxRecDepth 100000 in
set_option maxHeartbeats 400000 in
theorem mget_f (A : Option Addr) (n cp : Nat) (l : L) (FB : List Nat) (w : World) (HV : VX cB 1 w FB A l) (hn : l.length = n) (hc : n ≤ cp) (hlen : l.length ≤ 1000000000) :
    Calls Tryz.prog 15 #[.slice A n cp] w fun e w' => ResM w w' e (getP l) := by
 have HA := Fr.refl [] w
 refine Zen (N := 117) Tryz.func15 (c := _) [(0, .slice A n cp)] <| Zsg <| Zb 2 #[J 0, J 0, .slice none 0 0] 24 (fun g => Pt g 0) ?_
 intro g1 w2 HB4 F3 le5 _
 have ge_HA_g1 := Nat.le_trans HA.size le5
 refine Zr 1 [(3, .bool false)] <| Zdn <| Zsg <| Zr 2 [(19, .agg #[.slice A n cp, J 0, .bool false, J 0]), (18, .slice A n cp)] <| Zb 20 #[.slice A n cp, J 0, .bool false, J 0] 81 (fun g => Pt g 0) ?_
 intro g w6 HB8 F7 le9 _
 have ne_g1_g := ltn HB4.lt le9
 have HV := HV.keep F3 dj0
 have nin_g_FB := new_nin HV.lt le9
 have HA := HA.step0 F3
 have ge_HA_g := Nat.le_trans HA.size le9
 refine Zr 1 [(4, Pt g 0)] <| Zdn <| Zq ?_
 have HR0 : Wire.Rd 81 w6 g (.slice A n cp) ⟨0, false⟩ := Wire.Rd.ok HB8
 have hg := nin_g_FB
 have ok0_ : St.ok l ⟨0, false⟩ := Nat.zero_le _
 have HV := HV.keep F7 dj0
 refine WE.region <| Zr 1 [(21, Pt g 0)] <| Zc 22 (Wire.mnum_any g (⟨0, false⟩) A n cp l FB _ HV hn hc hlen hg HR0 ok0_) ?_
 rintro _ w10 ⟨rfl, HR12, F11⟩
 refine ⟨_, rfl, trivial, ?_⟩
 obtain ⟨s13, hs13⟩ : ∃ s_, s_ = (rNum l (⟨0, false⟩)).2 := ⟨_, rfl⟩
 rw [← hs13] at HR12
 have ok_s13 : St.ok l s13 := by rw [hs13]; exact Wire.rNum_ok ok0_
 obtain ⟨x14, hx14⟩ : ∃ x_ : Nat, x_ = (rNum l (⟨0, false⟩)).1 := ⟨_, rfl⟩
 rw [← hx14]
 have lt_x14 : x14 < 18446744073709551616 := by rw [hx14]; exact Wire.rNum_lt _ _
 have HV := HV.keep F11 (djB nin_g_FB)
 refine Zr 1 [(5, .int .u64 (x14 : Int))] <| Zdn <| Zsg <| Zr 1 [(23, Pt g 0)] <| Zc 24 (Wire.mnum_any g s13 A n cp l FB _ HV hn hc hlen hg HR12 ok_s13) ?_
 rintro _ w15 ⟨rfl, HR17, F16⟩
 refine ⟨_, rfl, trivial, ?_⟩
 obtain ⟨s18, hs18⟩ : ∃ s_, s_ = (rNum l s13).2 := ⟨_, rfl⟩
 rw [← hs18] at HR17
 have ok_s18 : St.ok l s18 := by rw [hs18]; exact Wire.rNum_ok ok_s13
 obtain ⟨x19, hx19⟩ : ∃ x_ : Nat, x_ = (rNum l s13).1 := ⟨_, rfl⟩
 rw [← hx19]
 have lt_x19 : x19 < 18446744073709551616 := by rw [hx19]; exact Wire.rNum_lt _ _
 have HV := HV.keep F16 (djB nin_g_FB)
 refine Zr 1 [(6, .int .u64 (x19 : Int))] <| Zdn <| Zsg <| Zr 1 [(25, Pt g 0)] <| Zc 26 (Wire.mnum_any g s18 A n cp l FB _ HV hn hc hlen hg HR17 ok_s18) ?_
 rintro _ w20 ⟨rfl, HR22, F21⟩
 refine ⟨_, rfl, trivial, ?_⟩
 obtain ⟨s23, hs23⟩ : ∃ s_, s_ = (rNum l s18).2 := ⟨_, rfl⟩
 rw [← hs23] at HR22
 have ok_s23 : St.ok l s23 := by rw [hs23]; exact Wire.rNum_ok ok_s18
 obtain ⟨x24, hx24⟩ : ∃ x_ : Nat, x_ = (rNum l s18).1 := ⟨_, rfl⟩
 rw [← hx24]
 have lt_x24 : x24 < 18446744073709551616 := by rw [hx24]; exact Wire.rNum_lt _ _
 have HB4 := (((HB4.k F7).j F11 ne_g1_g).j F16 ne_g1_g).j F21 ne_g1_g
 have HA := (((HA.step0 F7).step F11 (inSR ge_HA_g inS0)).step F16 (inSR ge_HA_g inS0)).step F21 (inSR ge_HA_g inS0)
 refine Zr 1 [(7, .int .u64 (x24 : Int))] <| Zdn <| Zq <| Zsg <| Zr 1 [(27, .int .u64 (x14 : Int))] <| ZoP 28 (((x14 : Int) : Int) > (2147483647 : Int)) ?_ ?_
 ·
  intro h25
  refine Zr 8 [(36, .bool true), (35, undef), (34, undef), (33, .bool true), (32, .bool true), (31, undef), (30, undef), (29, .bool true)] <| Zdn <| ZT <| Zsg <| Zr 1 [(37, .agg #[J 0, J 0, .slice none 0 0])] <| Zs g1 0 [J 0, J 0, .slice none 0 0] #[J 0, J 0, .slice none 0 0] HB4 ?_
  intro w26 HB28 F27 _
  have HR22 := Wire.Rd.keep HR22 F27 (ninC (Ne.symm ne_g1_g) (nin0 _))
  refine Zr 1 [(3, .bool false)] <| Zdn <| WE.ret <| WQ.thenR <| WQ.ret2 (fn := Tryz.f15) (show Tryz.f15.results = #[.cell 2 24, .tmp 3] by kernel_rfl) (show resOk _ _ _ _ (.agg #[J 0, J 0, .slice none 0 0]) from ⟨by kernel_rfl, ⟨g1, 0, none⟩, by kernel_rfl, ldVarB [J 0, J 0, .slice none 0 0] (by kernel_rfl) (by kernel_rfl) (by kernel_rfl) HB28 (by kernel_rfl)⟩) (show resOk _ _ _ _ (.bool false) from ⟨by kernel_rfl, by kernel_rfl⟩) ?_
  have hg_ : getP l = if 2147483647 < x14 ∨ 1099511627776 < x19 ∨ 200 < x24 then none else fin2 l x14 x19 (readRows l x24 s23) := by rw [getP_eq]; simp only [← hx14, ← hs13, ← hx19, ← hs18, ← hx24, ← hs23]
  unfold ResM
  rw [hg_, if_pos (by omega)]
  have HA := HA.step F27 (inSR ge_HA_g1 inS0)
  exact ⟨rfl, HA⟩
 intro h25
 refine Zr 2 [(30, .int .u64 (x19 : Int)), (29, .bool false)] <| ZoP 31 (((x19 : Int) : Int) > (1099511627776 : Int)) ?_ ?_
 ·
  intro h29
  refine Zr 5 [(36, .bool true), (35, undef), (34, undef), (33, .bool true), (32, .bool true)] <| Zdn <| ZT <| Zsg <| Zr 1 [(37, .agg #[J 0, J 0, .slice none 0 0])] <| Zs g1 0 [J 0, J 0, .slice none 0 0] #[J 0, J 0, .slice none 0 0] HB4 ?_
  intro w30 HB32 F31 _
  have HR22 := Wire.Rd.keep HR22 F31 (ninC (Ne.symm ne_g1_g) (nin0 _))
  refine Zr 1 [(3, .bool false)] <| Zdn <| WE.ret <| WQ.thenR <| WQ.ret2 (fn := Tryz.f15) (show Tryz.f15.results = #[.cell 2 24, .tmp 3] by kernel_rfl) (show resOk _ _ _ _ (.agg #[J 0, J 0, .slice none 0 0]) from ⟨by kernel_rfl, ⟨g1, 0, none⟩, by kernel_rfl, ldVarB [J 0, J 0, .slice none 0 0] (by kernel_rfl) (by kernel_rfl) (by kernel_rfl) HB32 (by kernel_rfl)⟩) (show resOk _ _ _ _ (.bool false) from ⟨by kernel_rfl, by kernel_rfl⟩) ?_
  have hg_ : getP l = if 2147483647 < x14 ∨ 1099511627776 < x19 ∨ 200 < x24 then none else fin2 l x14 x19 (readRows l x24 s23) := by rw [getP_eq]; simp only [← hx14, ← hs13, ← hx19, ← hs18, ← hx24, ← hs23]
  unfold ResM
  rw [hg_, if_pos (by omega)]
  have HA := HA.step F31 (inSR ge_HA_g1 inS0)
  exact ⟨rfl, HA⟩
 intro h29
 refine Zr 3 [(34, .int .u64 (x24 : Int)), (33, .bool false), (32, .bool false)] <| ZoP 35 (((x24 : Int) : Int) > (200 : Int)) ?_ ?_
 ·
  intro h33
  refine Zr 1 [(36, .bool true)] <| Zdn <| ZT <| Zsg <| Zr 1 [(37, .agg #[J 0, J 0, .slice none 0 0])] <| Zs g1 0 [J 0, J 0, .slice none 0 0] #[J 0, J 0, .slice none 0 0] HB4 ?_
  intro w34 HB36 F35 _
  have HR22 := Wire.Rd.keep HR22 F35 (ninC (Ne.symm ne_g1_g) (nin0 _))
  refine Zr 1 [(3, .bool false)] <| Zdn <| WE.ret <| WQ.thenR <| WQ.ret2 (fn := Tryz.f15) (show Tryz.f15.results = #[.cell 2 24, .tmp 3] by kernel_rfl) (show resOk _ _ _ _ (.agg #[J 0, J 0, .slice none 0 0]) from ⟨by kernel_rfl, ⟨g1, 0, none⟩, by kernel_rfl, ldVarB [J 0, J 0, .slice none 0 0] (by kernel_rfl) (by kernel_rfl) (by kernel_rfl) HB36 (by kernel_rfl)⟩) (show resOk _ _ _ _ (.bool false) from ⟨by kernel_rfl, by kernel_rfl⟩) ?_
  have hg_ : getP l = if 2147483647 < x14 ∨ 1099511627776 < x19 ∨ 200 < x24 then none else fin2 l x14 x19 (readRows l x24 s23) := by rw [getP_eq]; simp only [← hx14, ← hs13, ← hx19, ← hs18, ← hx24, ← hs23]
  unfold ResM
  rw [hg_, if_pos (by omega)]
  have HA := HA.step F35 (inSR ge_HA_g1 inS0)
  exact ⟨rfl, HA⟩
 intro h33
 refine Zr 1 [(36, .bool false)] <| Zdn <| ZF <| Zk <| Zsg <| Zr 1 [(38, .int .u64 (x14 : Int))] <| Zwr 39 (x14 : Int) (x14 : Int) <| Zr 1 [(40, .int .u64 (x19 : Int))] <| Zwr 41 (x19 : Int) (x19 : Int) <| Zr 1 [(42, .agg #[J (x14 : Int), J (x19 : Int), .slice none 0 0])] <| Zb 8 #[J 0, J 0, .slice none 0 0] 24 (fun g => Pt g 0) ?_
 intro g37 w38 HB40 F39 le41 _
 have ne_g1_g37 := ltn HB4.lt le41
 have HV := HV.keep F21 (djB nin_g_FB)
 have nin_g37_FB := new_nin HV.lt le41
 have ne_g_g37 : g ≠ g37 := Nat.ne_of_lt (Nat.lt_of_lt_of_le (Wire.Rd.lt HR22) le41)
 have ge_HA_g37 := Nat.le_trans HA.size le41
 have HR22 := Wire.Rd.keep HR22 F39 (nin0 _)
 refine Zs g37 0 [J (x14 : Int), J (x19 : Int), .slice none 0 0] #[J (x14 : Int), J (x19 : Int), .slice none 0 0] HB40 ?_
 intro w42 HB44 F43 _
 have HR22 := Wire.Rd.keep HR22 F43 (ninC ne_g_g37 (nin0 _))
 refine Zdn <| Zq <| Zsg <| Zr 1 [(9, .int .u64 0)] <| Zdn <| WE.block ?_
 have HRL : Wire.Rd 81 w42 g (.slice A n cp) s23 := HR22
 refine WE.loop (α := Nat × St × List Nat × Option Addr × Nat × List RX × List Nat) (E := fun ⟨i, st, FX, Ax, cx, xs, FE⟩ => [(2, Pt g1 0), (3, .bool false), (4, Pt g 0), (7, .int .u64 (x24 : Int)), (8, Pt g37 0), (9, .int .u64 (i : Int))]) (I := fun ⟨i, st, FX, Ax, cx, xs, FE⟩ wr => i ≤ x24 ∧ readRows l x24 s23 = (readRows l (x24 - i) st).map (fun y => (rws xs ++ y.1, y.2)) ∧ xs.length = i ∧ St.ok l st ∧ (∀ x ∈ xs, x.1.In ∧ x.1.key.length ≤ 300 ∧ x.1.bk.length ≤ 65) ∧ Blk wr g1 #[J 0, J 0, .slice none 0 0] 24 ∧ Blk wr g37 #[J (x14 : Int), J (x19 : Int), .slice Ax xs.length cx] 24 ∧ VX cB 1 wr FB A l ∧ Wire.Rd 81 wr g (.slice A n cp) (st) ∧ OwnX 54 8 wr FX (.slice Ax xs.length cx) (List.map cW xs) ∧ g1 ∉ FX ∧ g37 ∉ FX ∧ g ∉ FX ∧ (∀ y ∈ FX, y ∉ FB) ∧ (∀ y ∈ FX, (World.heap w).size ≤ y) ∧ EV wr FE xs ∧ g1 ∉ FE ∧ g37 ∉ FE ∧ g ∉ FE ∧ (∀ y ∈ FE, y ∉ FB) ∧ (∀ y ∈ FE, y ∉ FX) ∧ (∀ y ∈ FE, (World.heap w).size ≤ y) ∧ Fr [] w wr) (m := fun ⟨i, st, FX, Ax, cx, xs, FE⟩ => x24 - i) (0, s23, [], none, 0, [], []) [2, 3, 4, 7, 8, 9] (by kernel_rfl) ?_ ?_
 ·
  have HB4 := (HB4.k F39).j F43 ne_g1_g37
  have HV := (HV.keep F39 dj0).keep F43 (djB nin_g37_FB)
  have HA := (HA.step0 F39).step F43 (inSR ge_HA_g37 inS0)
  exact ⟨Nat.zero_le _, rr0, rfl, ok_s23, by simp, HB4, HB44, HV, HRL, OwnX.nil _ _ _, (by simp), (by simp), (by simp), (by simp), (by simp), EV.nil _, (by simp), (by simp), (by simp), (by simp), (by simp), (by simp), HA⟩
 rintro ⟨i, st, FX, Ax, cx, xs, FE⟩ wr ⟨hi, hrr, hxl, okst, hin, HB4, HB44, HV, HRL, HO_FX, nin_g1_FX, nin_g37_FX, nin_g_FX, dj_FX_FB, ge_HA_FX, HO_FE, nin_g1_FE, nin_g37_FE, nin_g_FE, dj_FE_FB, dj_FE_FX, ge_HA_FE, HA⟩
 have hcap_ := own_cap HO_FX (List.length_map _)
 refine Zq <| Zsg <| Zr 2 [(44, .int .u64 (x24 : Int)), (43, .int .u64 (i : Int))] <| ZoP 45 (((i : Int) : Int) < (x24 : Int)) ?_ ?_
 ·
  intro h45
  refine Zdn <| ZT <| Zk <| Zq <| WE.block <| Zsg <| Zb 10 #[.string (⟨#[]⟩), J 0, .int .u64 0, J 0, J 0, J 0, .bool false, .slice none 0 0] 54 (fun g => Pt g 0) ?_
  intro g46 w47 HB49 F48 le50 _
  have ne_g1_g46 := ltn HB4.lt le50
  have ne_g37_g46 := ltn HB44.lt le50
  have nin_g46_FB := new_nin HV.lt le50
  have nin_g46_FX := new_nin HO_FX.lt le50
  have nin_g46_FE := new_nin HO_FE.lt le50
  have ne_g_g46 : g ≠ g46 := Nat.ne_of_lt (Nat.lt_of_lt_of_le (Wire.Rd.lt HRL) le50)
  have ge_HA_g46 := Nat.le_trans HA.size le50
  have HRL := Wire.Rd.keep HRL F48 (nin0 _)
  have HV := HV.keep F48 dj0
  refine Zdn <| Zsg <| Zr 1 [(48, Pt g 0)] <| Zc 49 (Wire.mtext_any g st 300 A n cp l FB _ HV hn hc hlen hg HRL okst (by omega)) ?_
  rintro _ w51 ⟨rfl, HR53, F52⟩
  refine ⟨_, rfl, trivial, ?_⟩
  obtain ⟨s54, hs54⟩ : ∃ s_, s_ = (rText l 300 st).2 := ⟨_, rfl⟩
  rw [← hs54] at HR53
  have ok_s54 : St.ok l s54 := by rw [hs54]; exact Wire.rText_ok okst
  obtain ⟨x55, hx55⟩ : ∃ x_ : L, x_ = (rText l 300 st).1 := ⟨_, rfl⟩
  rw [← hx55]
  have HB49 := HB49.j F52 (Ne.symm ne_g_g46)
  refine Zr 1 [(50, Pt g46 0)] <| Zs g46 0 [.string (str x55)] #[.string (str x55), J 0, .int .u64 0, J 0, J 0, J 0, .bool false, .slice none 0 0] HB49 ?_
  intro w56 HB58 F57 _
  have HR53 := Wire.Rd.keep HR53 F57 (ninC ne_g_g46 (nin0 _))
  have HV := (HV.keep F52 (djB nin_g_FB)).keep F57 (djB nin_g46_FB)
  refine Zdn <| Zsg <| Zr 1 [(51, Pt g 0)] <| Zc 52 (Wire.mnum_any g s54 A n cp l FB _ HV hn hc hlen hg HR53 ok_s54) ?_
  rintro _ w59 ⟨rfl, HR61, F60⟩
  refine ⟨_, rfl, trivial, ?_⟩
  obtain ⟨s62, hs62⟩ : ∃ s_, s_ = (rNum l s54).2 := ⟨_, rfl⟩
  rw [← hs62] at HR61
  have ok_s62 : St.ok l s62 := by rw [hs62]; exact Wire.rNum_ok ok_s54
  obtain ⟨x63, hx63⟩ : ∃ x_ : Nat, x_ = (rNum l s54).1 := ⟨_, rfl⟩
  rw [← hx63]
  have lt_x63 : x63 < 18446744073709551616 := by rw [hx63]; exact Wire.rNum_lt _ _
  have HV := HV.keep F60 (djB nin_g_FB)
  refine Zr 1 [(11, .int .u64 (x63 : Int))] <| Zdn <| Zsg <| Zr 1 [(53, Pt g 0)] <| Zc 54 (Wire.mnum_any g s62 A n cp l FB _ HV hn hc hlen hg HR61 ok_s62) ?_
  rintro _ w64 ⟨rfl, HR66, F65⟩
  refine ⟨_, rfl, trivial, ?_⟩
  obtain ⟨s67, hs67⟩ : ∃ s_, s_ = (rNum l s62).2 := ⟨_, rfl⟩
  rw [← hs67] at HR66
  have ok_s67 : St.ok l s67 := by rw [hs67]; exact Wire.rNum_ok ok_s62
  obtain ⟨x68, hx68⟩ : ∃ x_ : Nat, x_ = (rNum l s62).1 := ⟨_, rfl⟩
  rw [← hx68]
  have lt_x68 : x68 < 18446744073709551616 := by rw [hx68]; exact Wire.rNum_lt _ _
  have HB58 := (HB58.j F60 (Ne.symm ne_g_g46)).j F65 (Ne.symm ne_g_g46)
  refine Zr 1 [(55, Pt g46 2)] <| Zs g46 2 [.int .u64 (x68 : Int)] #[.string (str x55), J 0, .int .u64 (x68 : Int), J 0, J 0, J 0, .bool false, .slice none 0 0] HB58 ?_
  intro w69 HB71 F70 _
  have HR66 := Wire.Rd.keep HR66 F70 (ninC ne_g_g46 (nin0 _))
  have HV := (HV.keep F65 (djB nin_g_FB)).keep F70 (djB nin_g46_FB)
  refine Zdn <| Zsg <| Zr 1 [(56, Pt g 0)] <| Zc 57 (Wire.mwhole_any g s67 A n cp l FB _ HV hn hc hlen hg HR66 ok_s67) ?_
  rintro _ w72 ⟨rfl, HR74, F73⟩
  refine ⟨_, rfl, trivial, ?_⟩
  obtain ⟨s75, hs75⟩ : ∃ s_, s_ = (rWhole l s67).2 := ⟨_, rfl⟩
  rw [← hs75] at HR74
  have ok_s75 : St.ok l s75 := by rw [hs75]; exact Wire.rNum_ok ok_s67
  obtain ⟨x76, hx76⟩ : ∃ x_ : Int, x_ = (rWhole l s67).1 := ⟨_, rfl⟩
  rw [← hx76]
  have HB71 := HB71.j F73 (Ne.symm ne_g_g46)
  refine Zr 1 [(58, Pt g46 3)] <| Zs g46 3 [J x76] #[.string (str x55), J 0, .int .u64 (x68 : Int), J x76, J 0, J 0, .bool false, .slice none 0 0] HB71 ?_
  intro w77 HB79 F78 _
  have HR74 := Wire.Rd.keep HR74 F78 (ninC ne_g_g46 (nin0 _))
  have HV := (HV.keep F73 (djB nin_g_FB)).keep F78 (djB nin_g46_FB)
  refine Zdn <| Zsg <| Zr 1 [(59, Pt g 0)] <| Zc 60 (Wire.mwhole_any g s75 A n cp l FB _ HV hn hc hlen hg HR74 ok_s75) ?_
  rintro _ w80 ⟨rfl, HR82, F81⟩
  refine ⟨_, rfl, trivial, ?_⟩
  obtain ⟨s83, hs83⟩ : ∃ s_, s_ = (rWhole l s75).2 := ⟨_, rfl⟩
  rw [← hs83] at HR82
  have ok_s83 : St.ok l s83 := by rw [hs83]; exact Wire.rNum_ok ok_s75
  obtain ⟨x84, hx84⟩ : ∃ x_ : Int, x_ = (rWhole l s75).1 := ⟨_, rfl⟩
  rw [← hx84]
  have HB79 := HB79.j F81 (Ne.symm ne_g_g46)
  refine Zr 1 [(61, Pt g46 4)] <| Zs g46 4 [J x84] #[.string (str x55), J 0, .int .u64 (x68 : Int), J x76, J x84, J 0, .bool false, .slice none 0 0] HB79 ?_
  intro w85 HB87 F86 _
  have HR82 := Wire.Rd.keep HR82 F86 (ninC ne_g_g46 (nin0 _))
  have HV := (HV.keep F81 (djB nin_g_FB)).keep F86 (djB nin_g46_FB)
  refine Zdn <| Zsg <| Zr 1 [(62, Pt g 0)] <| Zc 63 (Wire.mwhole_any g s83 A n cp l FB _ HV hn hc hlen hg HR82 ok_s83) ?_
  rintro _ w88 ⟨rfl, HR90, F89⟩
  refine ⟨_, rfl, trivial, ?_⟩
  obtain ⟨s91, hs91⟩ : ∃ s_, s_ = (rWhole l s83).2 := ⟨_, rfl⟩
  rw [← hs91] at HR90
  have ok_s91 : St.ok l s91 := by rw [hs91]; exact Wire.rNum_ok ok_s83
  obtain ⟨x92, hx92⟩ : ∃ x_ : Int, x_ = (rWhole l s83).1 := ⟨_, rfl⟩
  rw [← hx92]
  have HB87 := HB87.j F89 (Ne.symm ne_g_g46)
  refine Zr 1 [(64, Pt g46 5)] <| Zs g46 5 [J x92] #[.string (str x55), J 0, .int .u64 (x68 : Int), J x76, J x84, J x92, .bool false, .slice none 0 0] HB87 ?_
  intro w93 HB95 F94 _
  have HR90 := Wire.Rd.keep HR90 F94 (ninC ne_g_g46 (nin0 _))
  have HV := (HV.keep F89 (djB nin_g_FB)).keep F94 (djB nin_g46_FB)
  refine Zdn <| Zsg <| Zr 1 [(65, Pt g 0)] <| Zc 66 (Wire.mnum_any g s91 A n cp l FB _ HV hn hc hlen hg HR90 ok_s91) ?_
  rintro _ w96 ⟨rfl, HR98, F97⟩
  refine ⟨_, rfl, trivial, ?_⟩
  obtain ⟨s99, hs99⟩ : ∃ s_, s_ = (rNum l s91).2 := ⟨_, rfl⟩
  rw [← hs99] at HR98
  have ok_s99 : St.ok l s99 := by rw [hs99]; exact Wire.rNum_ok ok_s91
  obtain ⟨x100, hx100⟩ : ∃ x_ : Nat, x_ = (rNum l s91).1 := ⟨_, rfl⟩
  rw [← hx100]
  have lt_x100 : x100 < 18446744073709551616 := by rw [hx100]; exact Wire.rNum_lt _ _
  have HV := HV.keep F97 (djB nin_g_FB)
  refine Zr 1 [(12, .int .u64 (x100 : Int))] <| Zdn <| Zsg <| Zr 1 [(67, Pt g 0)] <| Zc 68 (Wire.mnum_any g s99 A n cp l FB _ HV hn hc hlen hg HR98 ok_s99) ?_
  rintro _ w101 ⟨rfl, HR103, F102⟩
  refine ⟨_, rfl, trivial, ?_⟩
  obtain ⟨s104, hs104⟩ : ∃ s_, s_ = (rNum l s99).2 := ⟨_, rfl⟩
  rw [← hs104] at HR103
  have ok_s104 : St.ok l s104 := by rw [hs104]; exact Wire.rNum_ok ok_s99
  obtain ⟨x105, hx105⟩ : ∃ x_ : Nat, x_ = (rNum l s99).1 := ⟨_, rfl⟩
  rw [← hx105]
  have lt_x105 : x105 < 18446744073709551616 := by rw [hx105]; exact Wire.rNum_lt _ _
  have HB4 := (((((((((((((HB4.k F48).j F52 ne_g1_g).j F57 ne_g1_g46).j F60 ne_g1_g).j F65 ne_g1_g).j F70 ne_g1_g46).j F73 ne_g1_g).j F78 ne_g1_g46).j F81 ne_g1_g).j F86 ne_g1_g46).j F89 ne_g1_g).j F94 ne_g1_g46).j F97 ne_g1_g).j F102 ne_g1_g
  have HA := (((((((((((((HA.step0 F48).step F52 (inSR ge_HA_g inS0)).step F57 (inSR ge_HA_g46 inS0)).step F60 (inSR ge_HA_g inS0)).step F65 (inSR ge_HA_g inS0)).step F70 (inSR ge_HA_g46 inS0)).step F73 (inSR ge_HA_g inS0)).step F78 (inSR ge_HA_g46 inS0)).step F81 (inSR ge_HA_g inS0)).step F86 (inSR ge_HA_g46 inS0)).step F89 (inSR ge_HA_g inS0)).step F94 (inSR ge_HA_g46 inS0)).step F97 (inSR ge_HA_g inS0)).step F102 (inSR ge_HA_g inS0)
  refine Zr 1 [(13, .int .u64 (x105 : Int))] <| Zdn <| Zq <| Zsg <| Zr 1 [(69, .int .u64 (x63 : Int))] <| ZoP 70 (((x63 : Int) : Int) > (3 : Int)) ?_ ?_
  ·
   intro h106
   refine Zr 8 [(78, .bool true), (77, undef), (76, undef), (75, .bool true), (74, .bool true), (73, undef), (72, undef), (71, .bool true)] <| Zdn <| ZT <| Zq ?_
   have hrd_ : readR l st = if 3 < x63 ∨ 1 < x100 ∨ 65 < x105 then none else some ((⟨x55, (x63 : Int), x68, x76, x84, x92, decide (x100 = 1), (readN l x105 s104).1⟩ : Rw), (readN l x105 s104).2) := by unfold readR; simp only [← hx55, ← hs54, ← hx63, ← hs62, ← hx68, ← hs67, ← hx76, ← hs75, ← hx84, ← hs83, ← hx92, ← hs91, ← hx100, ← hs99, ← hx105, ← hs104]
   rw [if_pos (by omega)] at hrd_
   refine WE.region <| Zr 1 [(79, .agg #[J 0, J 0, .slice none 0 0])] <| Zs g1 0 [J 0, J 0, .slice none 0 0] #[J 0, J 0, .slice none 0 0] HB4 ?_
   intro w107 HB109 F108 _
   have HR103 := Wire.Rd.keep HR103 F108 (ninC (Ne.symm ne_g1_g) (nin0 _))
   refine Zr 1 [(3, .bool false)] <| Zdn <| WE.ret <| WQ.thenR <| WQ.blkR <| WQ.thenR <| WQ.thenR <| WQ.blkR <| WQ.thenR <| WQ.ret2 (fn := Tryz.f15) (show Tryz.f15.results = #[.cell 2 24, .tmp 3] by kernel_rfl) (show resOk _ _ _ _ (.agg #[J 0, J 0, .slice none 0 0]) from ⟨by kernel_rfl, ⟨g1, 0, none⟩, by kernel_rfl, ldVarB [J 0, J 0, .slice none 0 0] (by kernel_rfl) (by kernel_rfl) (by kernel_rfl) HB109 (by kernel_rfl)⟩) (show resOk _ _ _ _ (.bool false) from ⟨by kernel_rfl, by kernel_rfl⟩) ?_
   have hg_ : getP l = if 2147483647 < x14 ∨ 1099511627776 < x19 ∨ 200 < x24 then none else fin2 l x14 x19 (readRows l x24 s23) := by rw [getP_eq]; simp only [← hx14, ← hs13, ← hx19, ← hs18, ← hx24, ← hs23]
   unfold ResM
   rw [if_neg (by omega)] at hg_
   rw [hg_, rrN hrr (by omega) hrd_]
   have HA := HA.step F108 (inSR ge_HA_g1 inS0)
   exact ⟨rfl, HA⟩
  intro h106
  refine Zr 2 [(72, .int .u64 (x100 : Int)), (71, .bool false)] <| ZoP 73 (((x100 : Int) : Int) > (1 : Int)) ?_ ?_
  ·
   intro h110
   refine Zr 5 [(78, .bool true), (77, undef), (76, undef), (75, .bool true), (74, .bool true)] <| Zdn <| ZT <| Zq ?_
   have hrd_ : readR l st = if 3 < x63 ∨ 1 < x100 ∨ 65 < x105 then none else some ((⟨x55, (x63 : Int), x68, x76, x84, x92, decide (x100 = 1), (readN l x105 s104).1⟩ : Rw), (readN l x105 s104).2) := by unfold readR; simp only [← hx55, ← hs54, ← hx63, ← hs62, ← hx68, ← hs67, ← hx76, ← hs75, ← hx84, ← hs83, ← hx92, ← hs91, ← hx100, ← hs99, ← hx105, ← hs104]
   rw [if_pos (by omega)] at hrd_
   refine WE.region <| Zr 1 [(79, .agg #[J 0, J 0, .slice none 0 0])] <| Zs g1 0 [J 0, J 0, .slice none 0 0] #[J 0, J 0, .slice none 0 0] HB4 ?_
   intro w111 HB113 F112 _
   have HR103 := Wire.Rd.keep HR103 F112 (ninC (Ne.symm ne_g1_g) (nin0 _))
   refine Zr 1 [(3, .bool false)] <| Zdn <| WE.ret <| WQ.thenR <| WQ.blkR <| WQ.thenR <| WQ.thenR <| WQ.blkR <| WQ.thenR <| WQ.ret2 (fn := Tryz.f15) (show Tryz.f15.results = #[.cell 2 24, .tmp 3] by kernel_rfl) (show resOk _ _ _ _ (.agg #[J 0, J 0, .slice none 0 0]) from ⟨by kernel_rfl, ⟨g1, 0, none⟩, by kernel_rfl, ldVarB [J 0, J 0, .slice none 0 0] (by kernel_rfl) (by kernel_rfl) (by kernel_rfl) HB113 (by kernel_rfl)⟩) (show resOk _ _ _ _ (.bool false) from ⟨by kernel_rfl, by kernel_rfl⟩) ?_
   have hg_ : getP l = if 2147483647 < x14 ∨ 1099511627776 < x19 ∨ 200 < x24 then none else fin2 l x14 x19 (readRows l x24 s23) := by rw [getP_eq]; simp only [← hx14, ← hs13, ← hx19, ← hs18, ← hx24, ← hs23]
   unfold ResM
   rw [if_neg (by omega)] at hg_
   rw [hg_, rrN hrr (by omega) hrd_]
   have HA := HA.step F112 (inSR ge_HA_g1 inS0)
   exact ⟨rfl, HA⟩
  intro h110
  refine Zr 3 [(76, .int .u64 (x105 : Int)), (75, .bool false), (74, .bool false)] <| ZoP 77 (((x105 : Int) : Int) > (65 : Int)) ?_ ?_
  ·
   intro h114
   refine Zr 1 [(78, .bool true)] <| Zdn <| ZT <| Zq ?_
   have hrd_ : readR l st = if 3 < x63 ∨ 1 < x100 ∨ 65 < x105 then none else some ((⟨x55, (x63 : Int), x68, x76, x84, x92, decide (x100 = 1), (readN l x105 s104).1⟩ : Rw), (readN l x105 s104).2) := by unfold readR; simp only [← hx55, ← hs54, ← hx63, ← hs62, ← hx68, ← hs67, ← hx76, ← hs75, ← hx84, ← hs83, ← hx92, ← hs91, ← hx100, ← hs99, ← hx105, ← hs104]
   rw [if_pos (by omega)] at hrd_
   refine WE.region <| Zr 1 [(79, .agg #[J 0, J 0, .slice none 0 0])] <| Zs g1 0 [J 0, J 0, .slice none 0 0] #[J 0, J 0, .slice none 0 0] HB4 ?_
   intro w115 HB117 F116 _
   have HR103 := Wire.Rd.keep HR103 F116 (ninC (Ne.symm ne_g1_g) (nin0 _))
   refine Zr 1 [(3, .bool false)] <| Zdn <| WE.ret <| WQ.thenR <| WQ.blkR <| WQ.thenR <| WQ.thenR <| WQ.blkR <| WQ.thenR <| WQ.ret2 (fn := Tryz.f15) (show Tryz.f15.results = #[.cell 2 24, .tmp 3] by kernel_rfl) (show resOk _ _ _ _ (.agg #[J 0, J 0, .slice none 0 0]) from ⟨by kernel_rfl, ⟨g1, 0, none⟩, by kernel_rfl, ldVarB [J 0, J 0, .slice none 0 0] (by kernel_rfl) (by kernel_rfl) (by kernel_rfl) HB117 (by kernel_rfl)⟩) (show resOk _ _ _ _ (.bool false) from ⟨by kernel_rfl, by kernel_rfl⟩) ?_
   have hg_ : getP l = if 2147483647 < x14 ∨ 1099511627776 < x19 ∨ 200 < x24 then none else fin2 l x14 x19 (readRows l x24 s23) := by rw [getP_eq]; simp only [← hx14, ← hs13, ← hx19, ← hs18, ← hx24, ← hs23]
   unfold ResM
   rw [if_neg (by omega)] at hg_
   rw [hg_, rrN hrr (by omega) hrd_]
   have HA := HA.step F116 (inSR ge_HA_g1 inS0)
   exact ⟨rfl, HA⟩
  intro h114
  have HB95 := (HB95.j F97 (Ne.symm ne_g_g46)).j F102 (Ne.symm ne_g_g46)
  refine Zr 1 [(78, .bool false)] <| Zdn <| ZF <| Zk <| Zsg <| Zr 1 [(80, .int .u64 (x63 : Int))] <| Zwr 81 (x63 : Int) (x63 : Int) <| Zr 1 [(82, Pt g46 1)] <| Zs g46 1 [J (x63 : Int)] #[.string (str x55), J (x63 : Int), .int .u64 (x68 : Int), J x76, J x84, J x92, .bool false, .slice none 0 0] HB95 ?_
  intro w118 HB120 F119 _
  have HR103 := Wire.Rd.keep HR103 F119 (ninC ne_g_g46 (nin0 _))
  refine Zdn <| Zsg <| Zr 1 [(83, .int .u64 (x100 : Int))] <| Zo 84 (.bool (decide (((x100 : Int) : Int) = (1 : Int)))) <| WO.top (v' := .bool (decide (x100 = 1))) (congrArg Value.bool (decide_eq_decide.2 (by omega))) <| Zr 1 [(85, Pt g46 6)] <| Zs g46 6 [.bool (decide (x100 = 1))] #[.string (str x55), J (x63 : Int), .int .u64 (x68 : Int), J x76, J x84, J x92, .bool (decide (x100 = 1)), .slice none 0 0] HB120 ?_
  intro w121 HB123 F122 _
  have HR103 := Wire.Rd.keep HR103 F122 (ninC ne_g_g46 (nin0 _))
  refine Zdn <| Zq <| Zsg <| Zr 1 [(14, .int .u64 0)] <| Zdn <| WE.block ?_
  have HRM : Wire.Rd 81 w121 g (.slice A n cp) (readN l 0 s104).2 := HR103
  refine WE.loop (α := Nat × List Nat × Option Addr × Nat × List Nat) (E := fun ⟨k, FQ, Ab, cb, qb⟩ => [(2, Pt g1 0), (3, .bool false), (4, Pt g 0), (7, .int .u64 (x24 : Int)), (8, Pt g37 0), (9, .int .u64 (i : Int)), (10, Pt g46 0), (13, .int .u64 (x105 : Int)), (14, .int .u64 (k : Int))]) (I := fun ⟨k, FQ, Ab, cb, qb⟩ wr => k ≤ x105 ∧ qb = (readN l k s104).1 ∧ Blk wr g1 #[J 0, J 0, .slice none 0 0] 24 ∧ Blk wr g37 #[J (x14 : Int), J (x19 : Int), .slice Ax xs.length cx] 24 ∧ Blk wr g46 #[.string (str x55), J (x63 : Int), .int .u64 (x68 : Int), J x76, J x84, J x92, .bool (decide (x100 = 1)), .slice Ab qb.length cb] 54 ∧ VX cB 1 wr FB A l ∧ OwnX 54 8 wr FX (.slice Ax xs.length cx) (List.map cW xs) ∧ EV wr FE xs ∧ Wire.Rd 81 wr g (.slice A n cp) ((readN l k s104).2) ∧ OwnX 46 1 wr FQ (.slice Ab qb.length cb) (List.map cN qb) ∧ g1 ∉ FQ ∧ g37 ∉ FQ ∧ g46 ∉ FQ ∧ g ∉ FQ ∧ (∀ y ∈ FQ, y ∉ FB) ∧ (∀ y ∈ FQ, y ∉ FX) ∧ (∀ y ∈ FQ, y ∉ FE) ∧ (∀ y ∈ FQ, (World.heap w).size ≤ y) ∧ Fr [] w wr) (m := fun ⟨k, FQ, Ab, cb, qb⟩ => x105 - k) (0, [], none, 0, []) [2, 3, 4, 7, 8, 9, 10, 13, 14] (by kernel_rfl) ?_ ?_
  ·
   have HB44 := (((((((((((((((HB44.k F48).j F52 (Ne.symm ne_g_g37)).j F57 ne_g37_g46).j F60 (Ne.symm ne_g_g37)).j F65 (Ne.symm ne_g_g37)).j F70 ne_g37_g46).j F73 (Ne.symm ne_g_g37)).j F78 ne_g37_g46).j F81 (Ne.symm ne_g_g37)).j F86 ne_g37_g46).j F89 (Ne.symm ne_g_g37)).j F94 ne_g37_g46).j F97 (Ne.symm ne_g_g37)).j F102 (Ne.symm ne_g_g37)).j F119 ne_g37_g46).j F122 ne_g37_g46
   have HO_FX := (((((((((((((((HO_FX.keep F48 dj0).keep F52 (djB nin_g_FX)).keep F57 (djB nin_g46_FX)).keep F60 (djB nin_g_FX)).keep F65 (djB nin_g_FX)).keep F70 (djB nin_g46_FX)).keep F73 (djB nin_g_FX)).keep F78 (djB nin_g46_FX)).keep F81 (djB nin_g_FX)).keep F86 (djB nin_g46_FX)).keep F89 (djB nin_g_FX)).keep F94 (djB nin_g46_FX)).keep F97 (djB nin_g_FX)).keep F102 (djB nin_g_FX)).keep F119 (djB nin_g46_FX)).keep F122 (djB nin_g46_FX)
   have HO_FE := (((((((((((((((HO_FE.keep F48 dj0).keep F52 (djB nin_g_FE)).keep F57 (djB nin_g46_FE)).keep F60 (djB nin_g_FE)).keep F65 (djB nin_g_FE)).keep F70 (djB nin_g46_FE)).keep F73 (djB nin_g_FE)).keep F78 (djB nin_g46_FE)).keep F81 (djB nin_g_FE)).keep F86 (djB nin_g46_FE)).keep F89 (djB nin_g_FE)).keep F94 (djB nin_g46_FE)).keep F97 (djB nin_g_FE)).keep F102 (djB nin_g_FE)).keep F119 (djB nin_g46_FE)).keep F122 (djB nin_g46_FE)
   have HV := ((HV.keep F102 (djB nin_g_FB)).keep F119 (djB nin_g46_FB)).keep F122 (djB nin_g46_FB)
   have HB4 := (HB4.j F119 ne_g1_g46).j F122 ne_g1_g46
   have HA := (HA.step F119 (inSR ge_HA_g46 inS0)).step F122 (inSR ge_HA_g46 inS0)
   exact ⟨Nat.zero_le _, rfl, HB4, HB44, HB123, HV, HO_FX, HO_FE, HRM, OwnX.nil _ _ _, (by simp), (by simp), (by simp), (by simp), (by simp), (by simp), (by simp), (by simp), HA⟩
  rintro ⟨k, FQ, Ab, cb, qb⟩ wr ⟨hk_, hqb, HB4, HB44, HB123, HV, HO_FX, HO_FE, HRM, HO_FQ, nin_g1_FQ, nin_g37_FQ, nin_g46_FQ, nin_g_FQ, dj_FQ_FB, dj_FQ_FX, dj_FQ_FE, ge_HA_FQ, HA⟩
  have hqbl_ : qb.length = k := by rw [hqb, readN_len]
  have hcq_ := own_cap HO_FQ (List.length_map _)
  refine Zq <| Zsg <| Zr 2 [(87, .int .u64 (x105 : Int)), (86, .int .u64 (k : Int))] <| ZoP 88 (((k : Int) : Int) < (x105 : Int)) ?_ ?_
  ·
   intro h124
   refine Zdn <| ZT <| Zk <| Zq <| WE.block <| Zsg <| Zr 1 [(91, Pt g 0)] <| Zc 92 (Wire.mnum_any g ((readN l k s104).2) A n cp l FB _ HV hn hc hlen hg HRM (readN_ok ok_s104)) ?_
   rintro _ w125 ⟨rfl, HR127, F126⟩
   refine ⟨_, rfl, trivial, ?_⟩
   obtain ⟨s128, hs128⟩ : ∃ s_, s_ = (rNum l ((readN l k s104).2)).2 := ⟨_, rfl⟩
   rw [← hs128] at HR127
   have ok_s128 : St.ok l s128 := by rw [hs128]; exact Wire.rNum_ok (readN_ok ok_s104)
   obtain ⟨x129, hx129⟩ : ∃ x_ : Nat, x_ = (rNum l ((readN l k s104).2)).1 := ⟨_, rfl⟩
   rw [← hx129]
   have lt_x129 : x129 < 18446744073709551616 := by rw [hx129]; exact Wire.rNum_lt _ _
   have HB123 := HB123.j F126 (Ne.symm ne_g_g46)
   refine Zr 1 [(15, .int .u64 (x129 : Int))] <| Zdn <| WE.region <| Zr 1 [(93, Pt g46 7)] <| Zl 94 (.slice Ab qb.length cb) (HB123.s 7) <| Zr 1 [(95, .int .u64 (x129 : Int))] <| Zb 96 #[.int .u64 (x129 : Int)] 46 (fun g => .slice (some ⟨g, 0, none⟩) 1 1) ?_
   intro g130 w131 HB133 F132 le134 _
   have HR127 := Wire.Rd.keep HR127 F132 (nin0 _)
   have HO_FQ := (HO_FQ.keep F126 (djB nin_g_FQ)).keep F132 dj0
   refine Zax (m := 1) (ys := List.map cN ([x129])) 97 et_n HO_FQ (by rw [List.length_map] <;> first | rfl | omega | (simp <;> omega)) (RowB.src (RowB.of_blk (n := 1) HB133 (List.map cN [x129]) rfl rfl (cN_len _) (cN_one _) (by omega))) (cN_len _) (cN_one _) (by rw [List.length_map]; first | omega | (simp only [List.length_nil]; omega) | (simp only [List.length_append, List.length_cons, List.length_nil]; omega)) (by rw [List.length_map]; first | omega | (simp only [List.length_nil]; omega) | (simp only [List.length_append, List.length_cons, List.length_nil]; omega)) ?_
   intro v140 w141 G142 HO143 F144 hg145
   rw [← List.map_append] at HO143
   have HB4 := (HB4.j F126 ne_g1_g).k F132
   have nin_g1_G142 := grow_nin hg145 nin_g1_FQ HB4.lt
   have HB44 := (HB44.j F126 (Ne.symm ne_g_g37)).k F132
   have nin_g37_G142 := grow_nin hg145 nin_g37_FQ HB44.lt
   have HB123 := HB123.k F132
   have nin_g46_G142 := grow_nin hg145 nin_g46_FQ HB123.lt
   have nin_g_G142 := grow_nin hg145 nin_g_FQ ((Wire.Rd.lt HR127))
   have HV := (HV.keep F126 (djB nin_g_FB)).keep F132 dj0
   have dj_G142_FB := grow_dj hg145 dj_FQ_FB HV.lt
   have HO_FX := (HO_FX.keep F126 (djB nin_g_FX)).keep F132 dj0
   have dj_G142_FX := grow_dj hg145 dj_FQ_FX HO_FX.lt
   have HO_FE := (HO_FE.keep F126 (djB nin_g_FE)).keep F132 dj0
   have dj_G142_FE := grow_dj hg145 dj_FQ_FE HO_FE.lt
   have HA := (HA.step F126 (inSR ge_HA_g inS0)).step0 F132
   have ge_HA_G142 := grow_ge hg145 ge_HA_FQ HA.size
   have HR127 := Wire.Rd.keep HR127 F144 nin_g_FQ
   obtain ⟨A146, cap147, rfl⟩ := HO143.sliceN (List.length_map _)
   have := @List.length_append _ qb ([x129])
   have HB123 := HB123.keep F144 nin_g46_FQ
   refine Zr 1 [(98, Pt g46 7)] <| Zs g46 7 [.slice A146 ((qb ++ [x129]).length) cap147] #[.string (str x55), J (x63 : Int), .int .u64 (x68 : Int), J x76, J x84, J x92, .bool (decide (x100 = 1)), .slice A146 ((qb ++ [x129]).length) cap147] HB123 ?_
   intro w148 HB150 F149 _
   have HR127 := Wire.Rd.keep HR127 F149 (ninC ne_g_g46 (nin0 _))
   refine Zd <| WQ.blkN <| Zn <| WE.region <| Zr 1 [(89, .int .u64 (k : Int))] <| Zwu 90 ((k : Int) + 1) ((k + 1 : Nat) : Int) <| Zr 1 [(14, .int .u64 ((k + 1 : Nat) : Int))] <| Zd ?_
   have HRM : Wire.Rd 81 w148 g (.slice A n cp) (readN l (k + 1) s104).2 := by rw [readN_snoc]; rw [← hs128]; exact HR127
   have hqb2_ : (qb ++ [x129]) = (readN l (k + 1) s104).1 := by rw [readN_snoc, ← hx129, hqb]
   refine WQ.round ?_
   intro a_ ha_
   refine ⟨(k + 1, G142, A146, cap147, (qb ++ [x129])), ?_, ha_.keep [2, 3, 4, 7, 8, 9, 10, 13, 14] (by kernel_rfl), ?_⟩
   ·
    show x105 - (k + 1) < x105 - k; omega
   ·
    have HB4 := (HB4.keep F144 nin_g1_FQ).j F149 ne_g1_g46
    have HB44 := (HB44.keep F144 nin_g37_FQ).j F149 ne_g37_g46
    have HV := (HV.keep F144 (dj_symm dj_FQ_FB)).keep F149 (djB nin_g46_FB)
    have HO_FX := (HO_FX.keep F144 (dj_symm dj_FQ_FX)).keep F149 (djB nin_g46_FX)
    have HO_FE := (HO_FE.keep F144 (dj_symm dj_FQ_FE)).keep F149 (djB nin_g46_FE)
    have HA := (HA.step F144 (inF ge_HA_FQ)).step F149 (inSR ge_HA_g46 inS0)
    have HO143 := HO143.keep F149 (djB nin_g46_G142)
    exact ⟨by omega, hqb2_, HB4, HB44, HB150, HV, HO_FX, HO_FE, HRM, HO143, nin_g1_G142, nin_g37_G142, nin_g46_G142, nin_g_G142, dj_G142_FB, dj_G142_FX, dj_G142_FE, ge_HA_G142, HA⟩
  intro h124
  refine Zdn <| ZF <| WE.exit <| WQ.thenE <| WQ.thenE <| WQ.blkE <| Zn ?_
  have hrd_ : readR l st = if 3 < x63 ∨ 1 < x100 ∨ 65 < x105 then none else some ((⟨x55, (x63 : Int), x68, x76, x84, x92, decide (x100 = 1), (readN l x105 s104).1⟩ : Rw), (readN l x105 s104).2) := by unfold readR; simp only [← hx55, ← hs54, ← hx63, ← hs62, ← hx68, ← hs67, ← hx76, ← hs75, ← hx84, ← hs83, ← hx92, ← hs91, ← hx100, ← hs99, ← hx105, ← hs104]
  rw [if_neg (by omega)] at hrd_
  obtain rfl : k = x105 := by omega
  rw [← hqb] at hrd_
  obtain ⟨_, _, _, _, _, hn65_, hIn_, _, _, hbl_, hok_, _⟩ := readR_some hrd_
  have okst2_ := hok_ okst
  have hky_ := readR_key hrd_
  have hrr2_ := rrS (p := (Ab, cb)) hrr (by omega) hrd_
  have hin2_ := in_snoc (p := (Ab, cb)) hin ⟨hIn_, hky_, by omega⟩
  refine WE.region <| Zr 1 [(99, Pt g37 2)] <| Zl 100 (.slice Ax xs.length cx) (HB44.s 2) <| Zlb 101 [.string (str x55), J (x63 : Int), .int .u64 (x68 : Int), J x76, J x84, J x92, .bool (decide (x100 = 1)), .slice Ab qb.length cb] g46 0 (same HB123) <| Zb 102 #[.string (str x55), J (x63 : Int), .int .u64 (x68 : Int), J x76, J x84, J x92, .bool (decide (x100 = 1)), .slice Ab qb.length cb] 54 (fun g => .slice (some ⟨g, 0, none⟩) 1 1) ?_
  intro g151 w152 HB154 F153 le155 _
  have HRM := Wire.Rd.keep HRM F153 (nin0 _)
  have HO_FX := HO_FX.keep F153 dj0
  refine Zax (m := 1) (ys := List.map cW ([(((⟨x55, (x63 : Int), x68, x76, x84, x92, decide (x100 = 1), qb⟩ : Rw), (Ab, cb)) : RX)])) 103 et_w HO_FX (by rw [List.length_map] <;> first | rfl | omega | (simp <;> omega)) (RowB.src (RowB.of_blk (n := 1) HB154 (List.map cW [(((⟨x55, (x63 : Int), x68, x76, x84, x92, decide (x100 = 1), qb⟩ : Rw), (Ab, cb)) : RX)]) rfl rfl (cW_len _) (cW_one _) (by omega))) (cW_len _) (cW_one _) (by rw [List.length_map]; first | omega | (simp only [List.length_nil]; omega) | (simp only [List.length_append, List.length_cons, List.length_nil]; omega)) (by rw [List.length_map]; first | omega | (simp only [List.length_nil]; omega) | (simp only [List.length_append, List.length_cons, List.length_nil]; omega)) ?_
  intro v161 w162 G163 HO164 F165 hg166
  rw [← List.map_append] at HO164
  have HB4 := HB4.k F153
  have nin_g1_G163 := grow_nin hg166 nin_g1_FX HB4.lt
  have HB44 := HB44.k F153
  have nin_g37_G163 := grow_nin hg166 nin_g37_FX HB44.lt
  have nin_g_G163 := grow_nin hg166 nin_g_FX ((Wire.Rd.lt HRM))
  have HV := HV.keep F153 dj0
  have dj_G163_FB := grow_dj hg166 dj_FX_FB HV.lt
  have HO_FE := HO_FE.keep F153 dj0
  have dj_G163_FE := grow_dj hg166 (dj_symm dj_FE_FX) HO_FE.lt
  have HO_FQ := HO_FQ.keep F153 dj0
  have dj_G163_FQ := grow_dj hg166 (dj_symm dj_FQ_FX) HO_FQ.lt
  have HA := HA.step0 F153
  have ge_HA_G163 := grow_ge hg166 ge_HA_FX HA.size
  have HRM := Wire.Rd.keep HRM F165 nin_g_FX
  obtain ⟨A167, cap168, rfl⟩ := HO164.sliceN (List.length_map _)
  have := @List.length_append _ xs ([(((⟨x55, (x63 : Int), x68, x76, x84, x92, decide (x100 = 1), qb⟩ : Rw), (Ab, cb)) : RX)])
  have HB44 := HB44.keep F165 nin_g37_FX
  refine Zr 1 [(104, Pt g37 2)] <| Zs g37 2 [.slice A167 ((xs ++ [(((⟨x55, (x63 : Int), x68, x76, x84, x92, decide (x100 = 1), qb⟩ : Rw), (Ab, cb)) : RX)]).length) cap168] #[J (x14 : Int), J (x19 : Int), .slice A167 ((xs ++ [(((⟨x55, (x63 : Int), x68, x76, x84, x92, decide (x100 = 1), qb⟩ : Rw), (Ab, cb)) : RX)]).length) cap168] HB44 ?_
  intro w169 HB171 F170 _
  have HRM := Wire.Rd.keep HRM F170 (ninC ne_g_g37 (nin0 _))
  refine Zd <| WQ.blkN <| Zn ?_
  obtain ⟨FE172, hFE172⟩ : ∃ F_, F_ = FE ++ FQ := ⟨_, rfl⟩
  have HO_FE := (HO_FE.keep F165 dj_FE_FX).keep F170 (djB nin_g37_FE)
  have HO_FQ := (HO_FQ.keep F165 dj_FQ_FX).keep F170 (djB nin_g37_FQ)
  have HE173 := EV.snoc (r := (⟨x55, (x63 : Int), x68, x76, x84, x92, decide (x100 = 1), qb⟩ : Rw)) HO_FE (VX.of_own HO_FQ) hcq_
  rw [← hFE172] at HE173
  have nin_g1_FE172 : g1 ∉ FE172 := by rw [hFE172]; exact fun h_ => (List.mem_append.1 h_).elim nin_g1_FE nin_g1_FQ
  have nin_g37_FE172 : g37 ∉ FE172 := by rw [hFE172]; exact fun h_ => (List.mem_append.1 h_).elim nin_g37_FE nin_g37_FQ
  have nin_g_FE172 : g ∉ FE172 := by rw [hFE172]; exact fun h_ => (List.mem_append.1 h_).elim nin_g_FE nin_g_FQ
  have dj_FE172_FB : ∀ y ∈ FE172, y ∉ FB := by rw [hFE172]; exact fun y hy => (List.mem_append.1 hy).elim (dj_FE_FB y) (dj_FQ_FB y)
  have dj_FE172_G163 : ∀ y ∈ FE172, y ∉ G163 := by rw [hFE172]; exact fun y hy => (List.mem_append.1 hy).elim ((dj_symm dj_G163_FE) y) ((dj_symm dj_G163_FQ) y)
  have ge_HA_FE172 : ∀ y ∈ FE172, (World.heap w).size ≤ y := by rw [hFE172]; exact fun y hy => (List.mem_append.1 hy).elim (ge_HA_FE y) (ge_HA_FQ y)
  refine WE.region <| Zr 1 [(46, .int .u64 (i : Int))] <| Zwu 47 ((i : Int) + 1) ((i + 1 : Nat) : Int) <| Zr 1 [(9, .int .u64 ((i + 1 : Nat) : Int))] <| Zd ?_
  have HRL := HRM
  refine WQ.round ?_
  intro a_ ha_
  refine ⟨(i + 1, (readN l k s104).2, G163, A167, cap168, (xs ++ [(((⟨x55, (x63 : Int), x68, x76, x84, x92, decide (x100 = 1), qb⟩ : Rw), (Ab, cb)) : RX)]), FE172), ?_, ha_.keep [2, 3, 4, 7, 8, 9] (by kernel_rfl), ?_⟩
  ·
   show x24 - (i + 1) < x24 - i; omega
  ·
   have HB4 := (HB4.keep F165 nin_g1_FX).j F170 ne_g1_g37
   have HV := (HV.keep F165 (dj_symm dj_FX_FB)).keep F170 (djB nin_g37_FB)
   have HA := (HA.step F165 (inF ge_HA_FX)).step F170 (inSR ge_HA_g37 inS0)
   have HO164 := HO164.keep F170 (djB nin_g37_G163)
   exact ⟨by omega, hrr2_, by rw [List.length_append, hxl]; rfl, okst2_, hin2_, HB4, HB171, HV, HRL, HO164, nin_g1_G163, nin_g37_G163, nin_g_G163, dj_G163_FB, ge_HA_G163, HE173, nin_g1_FE172, nin_g37_FE172, nin_g_FE172, dj_FE172_FB, dj_FE172_G163, ge_HA_FE172, HA⟩
 intro h45
 refine Zdn <| ZF <| WE.exit <| WQ.thenE <| WQ.thenE <| WQ.blkE <| Zn <| Zsg <| Zr 1 [(105, Pt g 0)] ?_
 rcases Bool.eq_false_or_eq_true (rEnd l st).bad with hbad | hbad
 ·
  refine Zc 106 (Wire.mend_any g st A n cp l _ hn HRL) ?_
  rintro _ w174 ⟨rfl, HR176, F175⟩
  rw [hbad]
  refine ⟨_, rfl, trivial, ?_⟩
  rw [if_pos rfl]
  have HB44 := HB44.j F175 (Ne.symm ne_g_g37)
  have HO_FX := HO_FX.keep F175 (djB nin_g_FX)
  refine Zr 1 [(16, J ((Wire.rEnd l st).p : Int))] <| Zdn <| Zsg <| Zlb 107 [J (x14 : Int), J (x19 : Int), .slice Ax xs.length cx] g37 0 (same HB44) ?_
  have HX179 := VX.of_own HO_FX
  have hxl9_ : xs.length ≤ 200 := by omega
  have HO_FE := HO_FE.keep F175 (djB nin_g_FE)
  refine Zc 108 (may_r (x14 : Int) (x19 : Int) xs Ax xs.length cx FX FE _ HX179 HO_FE rfl (by omega) (fun x hx_ => by have := (hin x hx_).2.1; omega) (fun x hx_ => by have := (hin x hx_).2.2; omega)) ?_
  rintro _ w177 ⟨rfl, F178⟩
  have HB4 := (HB4.j F175 ne_g1_g).k F178
  have HA := (HA.step F175 (inSR ge_HA_g inS0)).step0 F178
  refine ⟨_, rfl, trivial, Zo 17 (.bool (mayB (⟨(x14 : Int), (x19 : Int), rws xs⟩ : Bt))) ?_⟩
  refine WO.topB (mayB (⟨(x14 : Int), (x19 : Int), rws xs⟩ : Bt)) ?_ ?_
  ·
   intro h181
   refine Zdn <| Zq <| Zsg <| Zr 1 [(109, J ((Wire.rEnd l st).p : Int))] <| ZoPT 110 ((((Wire.rEnd l st).p : Int) : Int) ≥ (0 : Int)) (by omega) <| Zr 4 [(114, .bool true), (113, undef), (112, undef), (111, .bool true)] <| Zdn <| ZT <| Zsg <| Zr 1 [(115, .agg #[J 0, J 0, .slice none 0 0])] <| Zs g1 0 [J 0, J 0, .slice none 0 0] #[J 0, J 0, .slice none 0 0] HB4 ?_
   intro w182 HB184 F183 _
   refine Zr 1 [(3, .bool false)] <| Zdn <| WE.ret <| WQ.thenR <| WQ.ret2 (fn := Tryz.f15) (show Tryz.f15.results = #[.cell 2 24, .tmp 3] by kernel_rfl) (show resOk _ _ _ _ (.agg #[J 0, J 0, .slice none 0 0]) from ⟨by kernel_rfl, ⟨g1, 0, none⟩, by kernel_rfl, ldVarB [J 0, J 0, .slice none 0 0] (by kernel_rfl) (by kernel_rfl) (by kernel_rfl) HB184 (by kernel_rfl)⟩) (show resOk _ _ _ _ (.bool false) from ⟨by kernel_rfl, by kernel_rfl⟩) ?_
   have hg_ : getP l = if 2147483647 < x14 ∨ 1099511627776 < x19 ∨ 200 < x24 then none else fin2 l x14 x19 (readRows l x24 s23) := by rw [getP_eq]; simp only [← hx14, ← hs13, ← hx19, ← hs18, ← hx24, ← hs23]
   unfold ResM
   rw [if_neg (by omega)] at hg_
   obtain rfl : i = x24 := by omega
   rw [hg_, rrE hrr, fin2_no (.inl hbad)]
   have HA := HA.step F183 (inSR ge_HA_g1 inS0)
   exact ⟨rfl, HA⟩
  intro h181
  refine Zdn <| Zq <| Zsg <| Zr 1 [(109, J ((Wire.rEnd l st).p : Int))] <| ZoPT 110 ((((Wire.rEnd l st).p : Int) : Int) ≥ (0 : Int)) (by omega) <| Zr 4 [(114, .bool true), (113, undef), (112, undef), (111, .bool true)] <| Zdn <| ZT <| Zsg <| Zr 1 [(115, .agg #[J 0, J 0, .slice none 0 0])] <| Zs g1 0 [J 0, J 0, .slice none 0 0] #[J 0, J 0, .slice none 0 0] HB4 ?_
  intro w185 HB187 F186 _
  refine Zr 1 [(3, .bool false)] <| Zdn <| WE.ret <| WQ.thenR <| WQ.ret2 (fn := Tryz.f15) (show Tryz.f15.results = #[.cell 2 24, .tmp 3] by kernel_rfl) (show resOk _ _ _ _ (.agg #[J 0, J 0, .slice none 0 0]) from ⟨by kernel_rfl, ⟨g1, 0, none⟩, by kernel_rfl, ldVarB [J 0, J 0, .slice none 0 0] (by kernel_rfl) (by kernel_rfl) (by kernel_rfl) HB187 (by kernel_rfl)⟩) (show resOk _ _ _ _ (.bool false) from ⟨by kernel_rfl, by kernel_rfl⟩) ?_
  have hg_ : getP l = if 2147483647 < x14 ∨ 1099511627776 < x19 ∨ 200 < x24 then none else fin2 l x14 x19 (readRows l x24 s23) := by rw [getP_eq]; simp only [← hx14, ← hs13, ← hx19, ← hs18, ← hx24, ← hs23]
  unfold ResM
  rw [if_neg (by omega)] at hg_
  obtain rfl : i = x24 := by omega
  rw [hg_, rrE hrr, fin2_no (.inl hbad)]
  have HA := HA.step F186 (inSR ge_HA_g1 inS0)
  exact ⟨rfl, HA⟩
 ·
  refine Zc 106 (Wire.mend_any g st A n cp l _ hn HRL) ?_
  rintro _ w188 ⟨rfl, HR190, F189⟩
  rw [hbad]
  refine ⟨_, rfl, trivial, ?_⟩
  rw [if_neg (by simp)]
  have HB44 := HB44.j F189 (Ne.symm ne_g_g37)
  have HO_FX := HO_FX.keep F189 (djB nin_g_FX)
  refine Zr 1 [(16, J (-1))] <| Zdn <| Zsg <| Zlb 107 [J (x14 : Int), J (x19 : Int), .slice Ax xs.length cx] g37 0 (same HB44) ?_
  have HX193 := VX.of_own HO_FX
  have hxl9_ : xs.length ≤ 200 := by omega
  have HO_FE := HO_FE.keep F189 (djB nin_g_FE)
  refine Zc 108 (may_r (x14 : Int) (x19 : Int) xs Ax xs.length cx FX FE _ HX193 HO_FE rfl (by omega) (fun x hx_ => by have := (hin x hx_).2.1; omega) (fun x hx_ => by have := (hin x hx_).2.2; omega)) ?_
  rintro _ w191 ⟨rfl, F192⟩
  have HB4 := (HB4.j F189 ne_g1_g).k F192
  have HA := (HA.step F189 (inSR ge_HA_g inS0)).step0 F192
  refine ⟨_, rfl, trivial, Zo 17 (.bool (mayB (⟨(x14 : Int), (x19 : Int), rws xs⟩ : Bt))) ?_⟩
  refine WO.topB (mayB (⟨(x14 : Int), (x19 : Int), rws xs⟩ : Bt)) ?_ ?_
  ·
   intro h195
   have HB44 := HB44.k F192
   refine Zdn <| Zq <| Zsg <| Zr 6 [(114, .bool false), (113, .bool false), (112, .bool true), (111, .bool false), (110, .bool false), (109, J (-1))] <| Zdn <| ZF <| Zk <| Zsg <| Zlb 116 [J (x14 : Int), J (x19 : Int), .slice Ax xs.length cx] g37 0 (same HB44) <| Zs g1 0 [J (x14 : Int), J (x19 : Int), .slice Ax xs.length cx] #[J (x14 : Int), J (x19 : Int), .slice Ax xs.length cx] HB4 ?_
   intro w196 HB198 F197 _
   refine Zr 1 [(3, .bool true)] <| Zdn <| WE.ret <| WQ.ret2 (fn := Tryz.f15) (show Tryz.f15.results = #[.cell 2 24, .tmp 3] by kernel_rfl) (show resOk _ _ _ _ (.agg #[J (x14 : Int), J (x19 : Int), .slice Ax xs.length cx]) from ⟨by kernel_rfl, ⟨g1, 0, none⟩, by kernel_rfl, ldVarB [J (x14 : Int), J (x19 : Int), .slice Ax xs.length cx] (by kernel_rfl) (by kernel_rfl) (by kernel_rfl) HB198 (by kernel_rfl)⟩) (show resOk _ _ _ _ (.bool true) from ⟨by kernel_rfl, by kernel_rfl⟩) ?_
   have hg_ : getP l = if 2147483647 < x14 ∨ 1099511627776 < x19 ∨ 200 < x24 then none else fin2 l x14 x19 (readRows l x24 s23) := by rw [getP_eq]; simp only [← hx14, ← hs13, ← hx19, ← hs18, ← hx24, ← hs23]
   unfold ResM
   rw [if_neg (by omega)] at hg_
   obtain rfl : i = x24 := by omega
   rw [hg_, rrE hrr, fin2_ok hbad h195]
   have HO_FX := (HO_FX.keep F192 dj0).keep F197 (djB nin_g1_FX)
   have HO_FE := (HO_FE.keep F192 dj0).keep F197 (djB nin_g1_FE)
   have HA := HA.step F197 (inSR ge_HA_g1 inS0)
   exact ⟨xs, Ax, cx, FX, FE, rfl, rfl, hcap_, VX.of_own HO_FX, HO_FE, (dj_symm dj_FE_FX), ge_HA_FX, ge_HA_FE, HA⟩
  intro h195
  refine Zdn <| Zq <| Zsg <| Zr 6 [(114, .bool true), (113, .bool true), (112, .bool false), (111, .bool false), (110, .bool false), (109, J (-1))] <| Zdn <| ZT <| Zsg <| Zr 1 [(115, .agg #[J 0, J 0, .slice none 0 0])] <| Zs g1 0 [J 0, J 0, .slice none 0 0] #[J 0, J 0, .slice none 0 0] HB4 ?_
  intro w199 HB201 F200 _
  refine Zr 1 [(3, .bool false)] <| Zdn <| WE.ret <| WQ.thenR <| WQ.ret2 (fn := Tryz.f15) (show Tryz.f15.results = #[.cell 2 24, .tmp 3] by kernel_rfl) (show resOk _ _ _ _ (.agg #[J 0, J 0, .slice none 0 0]) from ⟨by kernel_rfl, ⟨g1, 0, none⟩, by kernel_rfl, ldVarB [J 0, J 0, .slice none 0 0] (by kernel_rfl) (by kernel_rfl) (by kernel_rfl) HB201 (by kernel_rfl)⟩) (show resOk _ _ _ _ (.bool false) from ⟨by kernel_rfl, by kernel_rfl⟩) ?_
  have hg_ : getP l = if 2147483647 < x14 ∨ 1099511627776 < x19 ∨ 200 < x24 then none else fin2 l x14 x19 (readRows l x24 s23) := by rw [getP_eq]; simp only [← hx14, ← hs13, ← hx19, ← hs18, ← hx24, ← hs23]
  unfold ResM
  rw [if_neg (by omega)] at hg_
  obtain rfl : i = x24 := by omega
  rw [hg_, rrE hrr, fin2_no (.inr h195)]
  have HA := HA.step F200 (inSR ge_HA_g1 inS0)
  exact ⟨rfl, HA⟩
end Go.Proofs.YtdhonbahpcmmnaaGreatDoor.Bat
