/- Layer 20's walks: the document's table. -/
import Derived.Test.YtdhonbahpcmmnaaGreatDoorWinPure
import Derived.Test.YtdhonbahpcmmnaaGreatDoorEngC
set_option linter.unusedVariables false
set_option linter.unusedSimpArgs false
namespace Go.Proofs.YtdhonbahpcmmnaaGreatDoor.Bat
open Go Go.RowKit Go.Proofs.YtdhonbahpcmmnaaGreatDoor Go.Proofs.YtdhonbahpcmmnaaGreatDoor.Eng Go.Proofs.YtdhonbahpcmmnaaGreatDoorW.PrintWords
open Go.Proofs Go.Maps
open Go.Proofs.YtdhonbahpcmmnaaGreatDoor.Line
def cP (p : Pn) : List Value := [.int .i64 p.start, .string (str p.key), .int .i64 p.kind, .int .i64 p.value]
theorem cP_len (l : List Pn) : ∀ x ∈ l.map cP, x.length = 4 := by
  intro x hx
  obtain ⟨y, _, rfl⟩ := List.mem_map.1 hx
  rfl
theorem cP_one (l : List Pn) : ∀ x ∈ l.map cP, x.all oneB = true := by
  intro x hx
  obtain ⟨y, _, rfl⟩ := List.mem_map.1 hx
  rfl
theorem et_p : ET Tryz.prog 57 109 4 40 := by
  obtain ⟨i, h1, h2, h3, h4⟩ := info_parts (P := Tryz.prog) (e := 109) (z := .agg #[.int .i64 0, .string ⟨#[]⟩, .int .i64 0, .int .i64 0]) (size := 4) (bytes := 40) (by kernel_rfl)
  exact ⟨by kernel_rfl, ⟨i, _, h1, h2, h3, h4, rfl⟩, by decide⟩
theorem starts_take {pts : List Pn} {i : Nat} (h : i < pts.length) : startsP (pts.take (i + 1)) = insS (startsP (pts.take i)) (gP pts i).start := fold_take _ _ (gP_some pts i h)
theorem front_s {q : List Int} {s : Int} {k : Nat} (hk : k ≤ q.length) (hlt : ∀ j, j < k → g0 q j < s) (hge : k < q.length → s ≤ g0 q k) : frontN (fun x => decide (x < s)) q = k := by
  refine front_eq hk (fun i x hi hx => ?_) (fun x hx => ?_)
  · have := hlt i hi
    rw [g0_some q i (by omega)] at hx
    obtain rfl := Option.some.inj hx
    simpa using this
  · have hl : k < q.length := (List.getElem?_eq_some_iff.1 hx).1
    have := hge hl
    rw [g0_some q k hl] at hx
    obtain rfl := Option.some.inj hx
    simp only [decide_eq_false_iff_not]
    omega
theorem insS_new {q : List Int} {s : Int} {k : Nat} (hk : k ≤ q.length) (hlt : ∀ j, j < k → g0 q j < s) (hge : k < q.length → s < g0 q k) : insS q s = q.take k ++ [s] ++ q.drop k := by
  unfold insS
  rw [front_s hk hlt (fun h => Int.le_of_lt (hge h))]
  simp only
  rw [if_neg (fun h => by have := hge h.1; omega)]
theorem insS_old {q : List Int} {s : Int} {k : Nat} (hk : k < q.length) (hlt : ∀ j, j < k → g0 q j < s) (he : g0 q k = s) : insS q s = q := by
  unfold insS
  rw [front_s (by omega) hlt (fun _ => by omega)]
  simp only
  rw [if_pos ⟨hk, he⟩]
set_option maxRecDepth 100000 in
set_option maxHeartbeats 400000 in
theorem sts_f (m : Nat) (width windows rows seq : Int) (pts : List Pn) (AL : Option Addr) (cL : Nat) (FP : List Nat) (w : World) (HB : Blk w m #[.int .i64 width, .int .i64 windows, .int .i64 rows, .int .i64 seq, .slice AL pts.length cL] 59) (HP : VX cP 4 w FP AL pts) (hmP : m ∉ FP) (hpl : pts.length ≤ 100000) :
    Calls Tryz.prog 30 #[.pointer (some ⟨m, 0, none⟩)] w fun e w' => ∃ A' c' F', e = .returned (.slice A' (startsP pts).length c') ∧ OwnX 2 1 w' F' (.slice A' (startsP pts).length c') ((startsP pts).map cI) ∧ (∀ y ∈ F', w.heap.size ≤ y) ∧ Fr [] w w' := by
 have HA := Fr.refl [] w
 refine Ze Tryz.func30 _ <| Zsg <| Zr 1 <| Zdn <| Zsg <| Zr 1 <| Zdn <| Zq <| Zsg <| Zr 1 <| Zdn <| WE.block <| WE.loop (α := Nat × List Nat × Option Addr × Nat × List Int) (E := fun ⟨i, FO, AO, cO, q⟩ => [(0, Pt m 0), (2, .slice none 0 0), (3, .slice AO q.length cO), (4, J (i : Int))]) (I := fun ⟨i, FO, AO, cO, q⟩ wr => i ≤ pts.length ∧ q = startsP (pts.take i) ∧ q.length ≤ i ∧ Blk wr m #[J width, J windows, J rows, J seq, .slice AL pts.length cL] 59 ∧ VX cP 4 wr FP AL pts ∧ OwnX 2 1 wr FO (.slice AO q.length cO) (List.map cI q) ∧ m ∉ FO ∧ (∀ y ∈ FO, y ∉ FP) ∧ (∀ y ∈ FO, (World.heap w).size ≤ y) ∧ Fr [] w wr) (m := fun ⟨i, FO, AO, cO, q⟩ => pts.length - i) (0, [], none, 0, []) [0, 2, 3, 4] (by kernel_rfl) ?_ ?_
 ·
  exact ⟨Nat.zero_le _, by rfl, Nat.le_refl _, HB, HP, OwnX.nil _ _ _, (by simp), (by simp), (by simp), HA⟩
 rintro ⟨i, FO, AO, cO, q⟩ wr ⟨hi, hq, hql, HB, HP, HO_FO, nin_m_FO, dj_FO_FP, ge_HA_FO, HA⟩
 have HVo := VX.of_own HO_FO
 have hcap_ := own_cap HO_FO (List.length_map _)
 refine Zq <| Zsg <| Zr 4 <| Zl 11 (.slice AL pts.length cL) (HB.s 4) <| Zr 1 <| ZoP 13 (((i : Int) : Int) < (pts.length : Int)) ?_ ?_
 ·
  intro h1
  refine Zdn <| ZT <| Zk <| Zq <| WE.block <| Zsg <| Zr 1 <| Zdn <| Zq <| WE.block <| WE.loop (α := Nat) (E := fun k => [(0, Pt m 0), (2, .slice none 0 0), (3, .slice AO q.length cO), (4, J (i : Int)), (5, J (k : Int))]) (I := fun k wk => k ≤ q.length ∧ (∀ j, j < k → g0 q j < (gP pts i).start) ∧ Blk wk m #[J width, J windows, J rows, J seq, .slice AL pts.length cL] 59 ∧ VX cP 4 wk FP AL pts ∧ OwnX 2 1 wk FO (.slice AO q.length cO) (List.map cI q) ∧ VX cI 1 wk FO AO q ∧ Fr [] w wk) (m := fun k => q.length - k) 0 [0, 2, 3, 4, 5] (by kernel_rfl) ?_ ?_
  ·
   exact ⟨Nat.zero_le _, fun j h_ => absurd h_ (Nat.not_lt_zero _), HB, HP, HO_FO, HVo, HA⟩
  rintro k wk ⟨hk, hlt, HB, HP, HO_FO, HVo, HA⟩
  refine Zq <| Zq <| ZE [8, 12, 16] [] [] 19 ?_
  intro w2 F3 _
  refine Yr0 [0, 1, 2, 3] [(19, .bool (decide (((k : Int) : Int) < (q.length : Int)))), (18, J (q.length : Int)), (17, .slice AO q.length cO), (16, J (k : Int))] <| WO.topP (((k : Int) : Int) < (q.length : Int)) ?_ ?_
  ·
   intro h4
   have HVo := HVo.keep F3 dj0
   refine Yq 4 3 ?_
   obtain ⟨ad5, hA6⟩ := HVo.addr (i := k) (by have := (rfl : List.length q = _); omega)
   have HB := HB.k F3
   have HP := HP.keep F3 dj0
   refine Yio 7 23 q.length 1 k (k : Int) hA6 <| Yl 8 24 (J (g0 q k)) (same (HVo.at0 hA6 (g0_some q k (by have := (rfl : List.length q = _); omega)) (by kernel_rfl))) <| Yq 9 3 <| Yl 12 28 (.slice AL pts.length cL) (HB.s 4) <| Yq 13 1 ?_
   obtain ⟨ad7, hA8⟩ := HP.addr (i := i) (by have := (rfl : List.length pts = _); omega)
   refine Yio 14 30 pts.length 4 i (i : Int) hA8 <| Yq 15 1 <| Yl 16 32 (J ((gP pts i).start)) (same (HP.at0 hA8 (gP_some pts i (by have := (rfl : List.length pts = _); omega)) (by kernel_rfl))) <| Yr0 [17] [(33, .bool (decide ((g0 q k : Int) < ((gP pts i).start))))] <| WO.topP ((g0 q k : Int) < ((gP pts i).start)) ?_ ?_
   ·
    intro h9
    refine Yq 18 1 <| Ydn <| ZT <| Zk <| WE.block <| WE.region <| Zr 1 <| Zw 36 ((k : Int) + 1) ((k + 1 : Nat) : Int) <| Zr 1 <| Zd <| WQ.blkN <| WQ.round ?_
    intro a_ ha_
    refine ⟨k + 1, ?_, ha_.keep [0, 2, 3, 4, 5] (by kernel_rfl), ?_⟩
    ·
     show q.length - (k + 1) < q.length - k; omega
    ·
     exact ⟨by omega, fun j h_ => (Nat.lt_succ_iff_lt_or_eq.1 h_).elim (hlt j) (fun e_ => by rw [e_]; omega), HB, HP, (HO_FO.keep F3 dj0), HVo, (HA.step0 F3)⟩
   intro h9
   refine Yq 18 1 <| Ydn <| ZF <| WE.exit <| WQ.thenE <| WQ.thenE <| WQ.blkE <| Zn <| Zq <| Zq <| ZE [8, 12, 16] [] [] 19 ?_
   intro w10 F11 _
   have HA := (HA.step0 F3).step0 F11
   refine Yr0 [0, 1, 2, 3] [(40, .bool (decide (((k : Int) : Int) < (q.length : Int)))), (39, J (q.length : Int)), (38, .slice AO q.length cO), (37, J (k : Int))] <| WO.topP (((k : Int) : Int) < (q.length : Int)) ?_ ?_
   ·
    intro h12
    have HVo := HVo.keep F11 dj0
    refine Yq 4 3 ?_
    obtain ⟨ad13, hA14⟩ := HVo.addr (i := k) (by have := (rfl : List.length q = _); omega)
    have HB := HB.k F11
    have HP := HP.keep F11 dj0
    refine Yio 7 44 q.length 1 k (k : Int) hA14 <| Yl 8 45 (J (g0 q k)) (same (HVo.at0 hA14 (g0_some q k (by have := (rfl : List.length q = _); omega)) (by kernel_rfl))) <| Yq 9 3 <| Yl 12 49 (.slice AL pts.length cL) (HB.s 4) <| Yq 13 1 ?_
    obtain ⟨ad15, hA16⟩ := HP.addr (i := i) (by have := (rfl : List.length pts = _); omega)
    refine Yio 14 51 pts.length 4 i (i : Int) hA16 <| Yq 15 1 <| Yl 16 53 (J ((gP pts i).start)) (same (HP.at0 hA16 (gP_some pts i (by have := (rfl : List.length pts = _); omega)) (by kernel_rfl))) <| Yr0 [17] [(54, .bool (decide ((g0 q k : Int) = ((gP pts i).start))))] <| WO.topP ((g0 q k : Int) = ((gP pts i).start)) ?_ ?_
    ·
     intro h17
     refine Yq 18 1 <| Ydn <| ZT <| WE.exit <| WQ.thenE <| WQ.blkE <| Zn <| WE.region <| Zr 1 <| Zw 15 ((i : Int) + 1) ((i + 1 : Nat) : Int) <| Zr 1 <| Zd <| WQ.round ?_
     intro a_ ha_
     refine ⟨(i + 1, FO, AO, cO, q), ?_, ha_.keep [0, 2, 3, 4] (by kernel_rfl), ?_⟩
     ·
      show pts.length - (i + 1) < pts.length - i; omega
     ·
      exact ⟨by omega, by rw [starts_take (by omega), ← hq]; exact (insS_old (by omega) hlt (by omega)).symm, by omega, HB, HP, ((HO_FO.keep F3 dj0).keep F11 dj0), nin_m_FO, dj_FO_FP, ge_HA_FO, HA⟩
    intro h17
    refine Yq 18 1 <| Ydn <| ZF <| Zk <| Zsg <| Zb 56 #[] 2 (fun g => .slice (some ⟨g, 0, none⟩) 0 0) ?_
    intro g18 w19 HB21 F20 le22 _
    have ne_m_g18 := ltn HB.lt le22
    have nin_g18_FP := new_nin HP.lt le22
    have nin_g18_FO := new_nin HVo.lt le22
    have ge_HA_g18 := Nat.le_trans HA.size le22
    refine Zr 2 <| Zv 59 0 k AO q.length cO 1 none (some (k : Int)) <| WO.top (sl0 _ _ _ _) ?_
    have HR28 := RowB.of_blk (n := 0) HB21 (List.map cI []) rfl rfl (cI_len _) (cI_one _) (by omega)
    have HVo := HVo.keep F20 dj0
    refine Zar (n := 0) (m := k) (ys := List.map cI (q.take k)) 60 et_l HR28 ((List.length_map _).trans ((rfl : List.length ([] : List Int) = 0))) ((HVo.take k).srcN (show (q.take k).length = k by rw [List.length_take]; have := (rfl : List.length q = _); omega) (cI_len _) (cI_one _) cO) (cI_len _) (cI_one _) ?_
    intro b23 cap24 w25 HR26 F27 hb29
    have HB := HB.k F20
    have ne_m_b23 : m ≠ b23 := hb29.elim (fun h => h ▸ ne_m_g18) (fun h => Nat.ne_of_lt (Nat.lt_of_lt_of_le HB.lt h))
    have HP := HP.keep F20 dj0
    have nin_b23_FP : b23 ∉ FP := hb29.elim (fun h => h ▸ nin_g18_FP) (fun h => new_nin HP.lt h)
    have nin_b23_FO : b23 ∉ FO := hb29.elim (fun h => h ▸ nin_g18_FO) (fun h => new_nin HVo.lt h)
    have HA := HA.step0 F20
    have in_HA_b23 : b23 ∈ [] ∨ (World.heap w).size ≤ b23 := hb29.elim (fun h => Or.inr (h ▸ ge_HA_g18)) (fun h => Or.inr (Nat.le_trans HA.size h))
    have HR26 : RowB w25 b23 2 1 cap24 ((([] : List Int) ++ (q.take k)).map cI) := by rw [List.map_append]; exact HR26
    have HB := HB.j F27 ne_m_g18
    have HP := HP.keep F27 (djB nin_g18_FP)
    refine Zr 1 <| Zdn <| Zsg <| Zr 4 <| Zl 65 (.slice AL pts.length cL) (HB.s 4) <| Zr 1 ?_
    obtain ⟨ad30, hA31⟩ := HP.addr (i := i) (by have := (rfl : List.length pts = _); omega)
    refine Zio 67 pts.length 4 i (i : Int) hA31 <| Zr 1 <| Zl 69 (J ((gP pts i).start)) (same (HP.at0 hA31 (gP_some pts i (by have := (rfl : List.length pts = _); omega)) (by kernel_rfl))) <| Zb 70 #[J ((gP pts i).start)] 2 (fun g => .slice (some ⟨g, 0, none⟩) 1 1) ?_
    intro g32 w33 HB35 F34 le36 _
    refine Zar (n := (0 + k)) (m := 1) (ys := List.map cI ([((gP pts i).start)])) 71 et_l (HR26.k F34) ((List.length_map _).trans ((show (([] : List Int) ++ (q.take k)).length = 0 + k by rw [List.length_append, (rfl : List.length ([] : List Int) = 0)] <;> first | rfl | (have := (rfl : List.length ([] : List Int) = 0); simp <;> omega)))) (RowB.src (RowB.of_blk (n := 1) HB35 (List.map cI [((gP pts i).start)]) rfl rfl (cI_len _) (cI_one _) (by omega))) (cI_len _) (cI_one _) ?_
    intro b37 cap38 w39 HR40 F41 hb42
    have HB := HB.k F34
    have ne_m_b37 : m ≠ b37 := hb42.elim (fun h => h ▸ ne_m_b23) (fun h => Nat.ne_of_lt (Nat.lt_of_lt_of_le HB.lt h))
    have HP := HP.keep F34 dj0
    have nin_b37_FP : b37 ∉ FP := hb42.elim (fun h => h ▸ nin_b23_FP) (fun h => new_nin HP.lt h)
    have HA := (HA.step F27 (inSR ge_HA_g18 inS0)).step0 F34
    have in_HA_b37 : b37 ∈ [] ∨ (World.heap w).size ≤ b37 := hb42.elim (fun h => (h ▸ in_HA_b23)) (fun h => Or.inr (Nat.le_trans HA.size h))
    have HR40 : RowB w39 b37 2 1 cap38 (((([] : List Int) ++ (q.take k)) ++ [((gP pts i).start)]).map cI) := by rw [List.map_append]; exact HR40
    refine Zr 1 <| Zdn <| WE.region <| Zr 3 <| Zv 75 k q.length AO q.length cO 1 (some (k : Int)) none <| Zar (n := (0 + k + 1)) (m := (q.length - k)) (ys := List.map cI ((q.drop k).take (q.length - k))) 76 et_l HR40 ((List.length_map _).trans ((show ((([] : List Int) ++ (q.take k)) ++ [((gP pts i).start)]).length = 0 + k + 1 by rw [List.length_append, (show (([] : List Int) ++ (q.take k)).length = 0 + k by rw [List.length_append, (rfl : List.length ([] : List Int) = 0)] <;> first | rfl | (have := (rfl : List.length ([] : List Int) = 0); simp <;> omega))] <;> first | rfl | (have := (show (([] : List Int) ++ (q.take k)).length = 0 + k by rw [List.length_append, (rfl : List.length ([] : List Int) = 0)] <;> first | rfl | (have := (rfl : List.length ([] : List Int) = 0); simp <;> omega)); simp <;> omega)))) ((((((HVo.keep F27 (djB nin_g18_FO)).keep F34 dj0).keep F41 (djB nin_b23_FO)).drop k cO (by have := (rfl : List.length q = _); omega) (by have := (rfl : List.length q = _); omega)).take (q.length - k)).srcN (show ((q.drop k).take (q.length - k)).length = q.length - k by rw [List.length_take, List.length_drop]; have := (rfl : List.length q = _); omega) (cI_len _) (cI_one _) (cO - k)) (cI_len _) (cI_one _) ?_
    intro b43 cap44 w45 HR46 F47 hb48
    have HB := HB.j F41 ne_m_b23
    have ne_m_b43 : m ≠ b43 := hb48.elim (fun h => h ▸ ne_m_b37) (fun h => Nat.ne_of_lt (Nat.lt_of_lt_of_le HB.lt h))
    have HP := HP.keep F41 (djB nin_b23_FP)
    have nin_b43_FP : b43 ∉ FP := hb48.elim (fun h => h ▸ nin_b37_FP) (fun h => new_nin HP.lt h)
    have HA := HA.step F41 (inSD in_HA_b23 inS0)
    have in_HA_b43 : b43 ∈ [] ∨ (World.heap w).size ≤ b43 := hb48.elim (fun h => (h ▸ in_HA_b37)) (fun h => Or.inr (Nat.le_trans HA.size h))
    have HR46 : RowB w45 b43 2 1 cap44 ((((([] : List Int) ++ (q.take k)) ++ [((gP pts i).start)]) ++ ((q.drop k).take (q.length - k))).map cI) := by rw [List.map_append]; exact HR46
    refine Zr 1 <| Zd <| WQ.blkN <| Zn <| WE.region <| Zr 1 <| Zw 15 ((i : Int) + 1) ((i + 1 : Nat) : Int) <| Zr 1 <| Zd <| WQ.keep [0, 2, 3, 4] (e' := [(0, Pt m 0), (2, .slice none 0 0), (3, .slice (some ⟨b43, 0, none⟩) (0 + k + 1 + (q.length - k)) cap44), (4, J ((i + 1 : Nat) : Int))]) (by kernel_rfl) ?_
    obtain ⟨F49, hF49⟩ : ∃ F_, F_ = [b43] := ⟨_, rfl⟩
    have HO50 : OwnX 2 1 w45 F49 (.slice (some ⟨b43, 0, none⟩) (0 + k + 1 + (q.length - k)) cap44) ((((([] : List Int) ++ (q.take k)) ++ [((gP pts i).start)]) ++ ((q.drop k).take (q.length - k))).map cI) := by rw [hF49]; exact OwnX.row HR46 ((List.length_map _).trans ((show (((([] : List Int) ++ (q.take k)) ++ [((gP pts i).start)]) ++ ((q.drop k).take (q.length - k))).length = 0 + k + 1 + (q.length - k) by rw [List.length_append, (show ((([] : List Int) ++ (q.take k)) ++ [((gP pts i).start)]).length = 0 + k + 1 by rw [List.length_append, (show (([] : List Int) ++ (q.take k)).length = 0 + k by rw [List.length_append, (rfl : List.length ([] : List Int) = 0)] <;> first | rfl | (have := (rfl : List.length ([] : List Int) = 0); simp <;> omega))] <;> first | rfl | (have := (show (([] : List Int) ++ (q.take k)).length = 0 + k by rw [List.length_append, (rfl : List.length ([] : List Int) = 0)] <;> first | rfl | (have := (rfl : List.length ([] : List Int) = 0); simp <;> omega)); simp <;> omega))] <;> first | rfl | (have := (show ((([] : List Int) ++ (q.take k)) ++ [((gP pts i).start)]).length = 0 + k + 1 by rw [List.length_append, (show (([] : List Int) ++ (q.take k)).length = 0 + k by rw [List.length_append, (rfl : List.length ([] : List Int) = 0)] <;> first | rfl | (have := (rfl : List.length ([] : List Int) = 0); simp <;> omega))] <;> first | rfl | (have := (show (([] : List Int) ++ (q.take k)).length = 0 + k by rw [List.length_append, (rfl : List.length ([] : List Int) = 0)] <;> first | rfl | (have := (rfl : List.length ([] : List Int) = 0); simp <;> omega)); simp <;> omega)); simp <;> omega))))
    have nin_m_F49 := sgN hF49 ne_m_b43
    have dj_F49_FP := sgD hF49 nin_b43_FP
    have ge_HA_F49 := sgG hF49 (in_HA_b43.resolve_left (by simp))
    have hnq51 : (((([] : List Int) ++ (q.take k)) ++ [((gP pts i).start)]) ++ ((q.drop k).take (q.length - k))).length = 0 + k + 1 + (q.length - k) := by simp only [List.length_set, List.length_append, List.length_cons, List.length_nil, List.length_take, List.length_drop] <;> omega
    have HO52 : OwnX 2 1 w45 F49 (.slice (some ⟨b43, 0, none⟩) ((((([] : List Int) ++ (q.take k)) ++ [((gP pts i).start)]) ++ ((q.drop k).take (q.length - k))).length) cap44) (List.map cI (((([] : List Int) ++ (q.take k)) ++ [((gP pts i).start)]) ++ ((q.drop k).take (q.length - k)))) := by rw [hnq51]; exact HO50
    refine WQ.env (e' := [(0, Pt m 0), (2, .slice none 0 0), (3, .slice (some ⟨b43, 0, none⟩) ((((([] : List Int) ++ (q.take k)) ++ [((gP pts i).start)]) ++ ((q.drop k).take (q.length - k))).length) cap44), (4, J ((i + 1 : Nat) : Int))]) (by rw [hnq51]) <| WQ.round ?_
    intro a_ ha_
    refine ⟨(i + 1, F49, (some ⟨b43, 0, none⟩), cap44, (((([] : List Int) ++ (q.take k)) ++ [((gP pts i).start)]) ++ ((q.drop k).take (q.length - k)))), ?_, ha_.keep [0, 2, 3, 4] (by kernel_rfl), ?_⟩
    ·
     show pts.length - (i + 1) < pts.length - i; omega
    ·
     exact ⟨by omega, by rw [starts_take (by omega), ← hq, insS_new hk hlt (fun _ => by omega), List.nil_append, show List.take (q.length - k) (List.drop k q) = List.drop k q from List.take_of_length_le (by rw [List.length_drop]; exact Nat.le_refl _)], by simp only [List.nil_append, List.length_append, List.length_take, List.length_drop, List.length_cons, List.length_nil]; omega, (HB.j F47 ne_m_b37), (HP.keep F47 (djB nin_b37_FP)), HO52, nin_m_F49, dj_F49_FP, ge_HA_F49, (HA.step F47 (inSD in_HA_b37 inS0))⟩
   intro h12
   refine Yq 4 15 <| Ydn <| ZF <| Zk <| Zsg <| Zb 56 #[] 2 (fun g => .slice (some ⟨g, 0, none⟩) 0 0) ?_
   intro g53 w54 HB56 F55 le57 _
   have HB := HB.k F11
   have ne_m_g53 := ltn HB.lt le57
   have HP := HP.keep F11 dj0
   have nin_g53_FP := new_nin HP.lt le57
   have HVo := HVo.keep F11 dj0
   have nin_g53_FO := new_nin HVo.lt le57
   have ge_HA_g53 := Nat.le_trans HA.size le57
   refine Zr 2 <| Zv 59 0 k AO q.length cO 1 none (some (k : Int)) <| WO.top (sl0 _ _ _ _) ?_
   have HR63 := RowB.of_blk (n := 0) HB56 (List.map cI []) rfl rfl (cI_len _) (cI_one _) (by omega)
   have HVo := HVo.keep F55 dj0
   refine Zar (n := 0) (m := k) (ys := List.map cI (q.take k)) 60 et_l HR63 ((List.length_map _).trans ((rfl : List.length ([] : List Int) = 0))) ((HVo.take k).srcN (show (q.take k).length = k by rw [List.length_take]; have := (rfl : List.length q = _); omega) (cI_len _) (cI_one _) cO) (cI_len _) (cI_one _) ?_
   intro b58 cap59 w60 HR61 F62 hb64
   have HB := HB.k F55
   have ne_m_b58 : m ≠ b58 := hb64.elim (fun h => h ▸ ne_m_g53) (fun h => Nat.ne_of_lt (Nat.lt_of_lt_of_le HB.lt h))
   have HP := HP.keep F55 dj0
   have nin_b58_FP : b58 ∉ FP := hb64.elim (fun h => h ▸ nin_g53_FP) (fun h => new_nin HP.lt h)
   have nin_b58_FO : b58 ∉ FO := hb64.elim (fun h => h ▸ nin_g53_FO) (fun h => new_nin HVo.lt h)
   have HA := HA.step0 F55
   have in_HA_b58 : b58 ∈ [] ∨ (World.heap w).size ≤ b58 := hb64.elim (fun h => Or.inr (h ▸ ge_HA_g53)) (fun h => Or.inr (Nat.le_trans HA.size h))
   have HR61 : RowB w60 b58 2 1 cap59 ((([] : List Int) ++ (q.take k)).map cI) := by rw [List.map_append]; exact HR61
   have HB := HB.j F62 ne_m_g53
   have HP := HP.keep F62 (djB nin_g53_FP)
   refine Zr 1 <| Zdn <| Zsg <| Zr 4 <| Zl 65 (.slice AL pts.length cL) (HB.s 4) <| Zr 1 ?_
   obtain ⟨ad65, hA66⟩ := HP.addr (i := i) (by have := (rfl : List.length pts = _); omega)
   refine Zio 67 pts.length 4 i (i : Int) hA66 <| Zr 1 <| Zl 69 (J ((gP pts i).start)) (same (HP.at0 hA66 (gP_some pts i (by have := (rfl : List.length pts = _); omega)) (by kernel_rfl))) <| Zb 70 #[J ((gP pts i).start)] 2 (fun g => .slice (some ⟨g, 0, none⟩) 1 1) ?_
   intro g67 w68 HB70 F69 le71 _
   refine Zar (n := (0 + k)) (m := 1) (ys := List.map cI ([((gP pts i).start)])) 71 et_l (HR61.k F69) ((List.length_map _).trans ((show (([] : List Int) ++ (q.take k)).length = 0 + k by rw [List.length_append, (rfl : List.length ([] : List Int) = 0)] <;> first | rfl | (have := (rfl : List.length ([] : List Int) = 0); simp <;> omega)))) (RowB.src (RowB.of_blk (n := 1) HB70 (List.map cI [((gP pts i).start)]) rfl rfl (cI_len _) (cI_one _) (by omega))) (cI_len _) (cI_one _) ?_
   intro b72 cap73 w74 HR75 F76 hb77
   have HB := HB.k F69
   have ne_m_b72 : m ≠ b72 := hb77.elim (fun h => h ▸ ne_m_b58) (fun h => Nat.ne_of_lt (Nat.lt_of_lt_of_le HB.lt h))
   have HP := HP.keep F69 dj0
   have nin_b72_FP : b72 ∉ FP := hb77.elim (fun h => h ▸ nin_b58_FP) (fun h => new_nin HP.lt h)
   have HA := (HA.step F62 (inSR ge_HA_g53 inS0)).step0 F69
   have in_HA_b72 : b72 ∈ [] ∨ (World.heap w).size ≤ b72 := hb77.elim (fun h => (h ▸ in_HA_b58)) (fun h => Or.inr (Nat.le_trans HA.size h))
   have HR75 : RowB w74 b72 2 1 cap73 (((([] : List Int) ++ (q.take k)) ++ [((gP pts i).start)]).map cI) := by rw [List.map_append]; exact HR75
   refine Zr 1 <| Zdn <| WE.region <| Zr 3 <| Zv 75 k q.length AO q.length cO 1 (some (k : Int)) none <| Zar (n := (0 + k + 1)) (m := (q.length - k)) (ys := List.map cI ((q.drop k).take (q.length - k))) 76 et_l HR75 ((List.length_map _).trans ((show ((([] : List Int) ++ (q.take k)) ++ [((gP pts i).start)]).length = 0 + k + 1 by rw [List.length_append, (show (([] : List Int) ++ (q.take k)).length = 0 + k by rw [List.length_append, (rfl : List.length ([] : List Int) = 0)] <;> first | rfl | (have := (rfl : List.length ([] : List Int) = 0); simp <;> omega))] <;> first | rfl | (have := (show (([] : List Int) ++ (q.take k)).length = 0 + k by rw [List.length_append, (rfl : List.length ([] : List Int) = 0)] <;> first | rfl | (have := (rfl : List.length ([] : List Int) = 0); simp <;> omega)); simp <;> omega)))) ((((((HVo.keep F62 (djB nin_g53_FO)).keep F69 dj0).keep F76 (djB nin_b58_FO)).drop k cO (by have := (rfl : List.length q = _); omega) (by have := (rfl : List.length q = _); omega)).take (q.length - k)).srcN (show ((q.drop k).take (q.length - k)).length = q.length - k by rw [List.length_take, List.length_drop]; have := (rfl : List.length q = _); omega) (cI_len _) (cI_one _) (cO - k)) (cI_len _) (cI_one _) ?_
   intro b78 cap79 w80 HR81 F82 hb83
   have HB := HB.j F76 ne_m_b58
   have ne_m_b78 : m ≠ b78 := hb83.elim (fun h => h ▸ ne_m_b72) (fun h => Nat.ne_of_lt (Nat.lt_of_lt_of_le HB.lt h))
   have HP := HP.keep F76 (djB nin_b58_FP)
   have nin_b78_FP : b78 ∉ FP := hb83.elim (fun h => h ▸ nin_b72_FP) (fun h => new_nin HP.lt h)
   have HA := HA.step F76 (inSD in_HA_b58 inS0)
   have in_HA_b78 : b78 ∈ [] ∨ (World.heap w).size ≤ b78 := hb83.elim (fun h => (h ▸ in_HA_b72)) (fun h => Or.inr (Nat.le_trans HA.size h))
   have HR81 : RowB w80 b78 2 1 cap79 ((((([] : List Int) ++ (q.take k)) ++ [((gP pts i).start)]) ++ ((q.drop k).take (q.length - k))).map cI) := by rw [List.map_append]; exact HR81
   refine Zr 1 <| Zd <| WQ.blkN <| Zn <| WE.region <| Zr 1 <| Zw 15 ((i : Int) + 1) ((i + 1 : Nat) : Int) <| Zr 1 <| Zd <| WQ.keep [0, 2, 3, 4] (e' := [(0, Pt m 0), (2, .slice none 0 0), (3, .slice (some ⟨b78, 0, none⟩) (0 + k + 1 + (q.length - k)) cap79), (4, J ((i + 1 : Nat) : Int))]) (by kernel_rfl) ?_
   obtain ⟨F84, hF84⟩ : ∃ F_, F_ = [b78] := ⟨_, rfl⟩
   have HO85 : OwnX 2 1 w80 F84 (.slice (some ⟨b78, 0, none⟩) (0 + k + 1 + (q.length - k)) cap79) ((((([] : List Int) ++ (q.take k)) ++ [((gP pts i).start)]) ++ ((q.drop k).take (q.length - k))).map cI) := by rw [hF84]; exact OwnX.row HR81 ((List.length_map _).trans ((show (((([] : List Int) ++ (q.take k)) ++ [((gP pts i).start)]) ++ ((q.drop k).take (q.length - k))).length = 0 + k + 1 + (q.length - k) by rw [List.length_append, (show ((([] : List Int) ++ (q.take k)) ++ [((gP pts i).start)]).length = 0 + k + 1 by rw [List.length_append, (show (([] : List Int) ++ (q.take k)).length = 0 + k by rw [List.length_append, (rfl : List.length ([] : List Int) = 0)] <;> first | rfl | (have := (rfl : List.length ([] : List Int) = 0); simp <;> omega))] <;> first | rfl | (have := (show (([] : List Int) ++ (q.take k)).length = 0 + k by rw [List.length_append, (rfl : List.length ([] : List Int) = 0)] <;> first | rfl | (have := (rfl : List.length ([] : List Int) = 0); simp <;> omega)); simp <;> omega))] <;> first | rfl | (have := (show ((([] : List Int) ++ (q.take k)) ++ [((gP pts i).start)]).length = 0 + k + 1 by rw [List.length_append, (show (([] : List Int) ++ (q.take k)).length = 0 + k by rw [List.length_append, (rfl : List.length ([] : List Int) = 0)] <;> first | rfl | (have := (rfl : List.length ([] : List Int) = 0); simp <;> omega))] <;> first | rfl | (have := (show (([] : List Int) ++ (q.take k)).length = 0 + k by rw [List.length_append, (rfl : List.length ([] : List Int) = 0)] <;> first | rfl | (have := (rfl : List.length ([] : List Int) = 0); simp <;> omega)); simp <;> omega)); simp <;> omega))))
   have nin_m_F84 := sgN hF84 ne_m_b78
   have dj_F84_FP := sgD hF84 nin_b78_FP
   have ge_HA_F84 := sgG hF84 (in_HA_b78.resolve_left (by simp))
   have hnq86 : (((([] : List Int) ++ (q.take k)) ++ [((gP pts i).start)]) ++ ((q.drop k).take (q.length - k))).length = 0 + k + 1 + (q.length - k) := by simp only [List.length_set, List.length_append, List.length_cons, List.length_nil, List.length_take, List.length_drop] <;> omega
   have HO87 : OwnX 2 1 w80 F84 (.slice (some ⟨b78, 0, none⟩) ((((([] : List Int) ++ (q.take k)) ++ [((gP pts i).start)]) ++ ((q.drop k).take (q.length - k))).length) cap79) (List.map cI (((([] : List Int) ++ (q.take k)) ++ [((gP pts i).start)]) ++ ((q.drop k).take (q.length - k)))) := by rw [hnq86]; exact HO85
   refine WQ.env (e' := [(0, Pt m 0), (2, .slice none 0 0), (3, .slice (some ⟨b78, 0, none⟩) ((((([] : List Int) ++ (q.take k)) ++ [((gP pts i).start)]) ++ ((q.drop k).take (q.length - k))).length) cap79), (4, J ((i + 1 : Nat) : Int))]) (by rw [hnq86]) <| WQ.round ?_
   intro a_ ha_
   refine ⟨(i + 1, F84, (some ⟨b78, 0, none⟩), cap79, (((([] : List Int) ++ (q.take k)) ++ [((gP pts i).start)]) ++ ((q.drop k).take (q.length - k)))), ?_, ha_.keep [0, 2, 3, 4] (by kernel_rfl), ?_⟩
   ·
    show pts.length - (i + 1) < pts.length - i; omega
   ·
    exact ⟨by omega, by rw [starts_take (by omega), ← hq, insS_new hk hlt (fun _ => by omega), List.nil_append, show List.take (q.length - k) (List.drop k q) = List.drop k q from List.take_of_length_le (by rw [List.length_drop]; exact Nat.le_refl _)], by simp only [List.nil_append, List.length_append, List.length_take, List.length_drop, List.length_cons, List.length_nil]; omega, (HB.j F82 ne_m_b72), (HP.keep F82 (djB nin_b72_FP)), HO87, nin_m_F84, dj_F84_FP, ge_HA_F84, (HA.step F82 (inSD in_HA_b72 inS0))⟩
  intro h4
  refine Yq 4 15 <| Ydn <| ZF <| WE.exit <| WQ.thenE <| WQ.thenE <| WQ.blkE <| Zn <| Zq <| Zq <| ZE [8, 12, 16] [] [] 19 ?_
  intro w88 F89 _
  have HB := (HB.k F3).k F89
  have HP := (HP.keep F3 dj0).keep F89 dj0
  have HVo := (HVo.keep F3 dj0).keep F89 dj0
  have HA := (HA.step0 F3).step0 F89
  refine Yr0 [0, 1, 2, 3] [(40, .bool (decide (((k : Int) : Int) < (q.length : Int)))), (39, J (q.length : Int)), (38, .slice AO q.length cO), (37, J (k : Int))] <| WO.topP (((k : Int) : Int) < (q.length : Int)) ?_ ?_
  ·
   intro h90
   refine Yq 4 3 ?_
   obtain ⟨ad91, hA92⟩ := HVo.addr (i := k) (by have := (rfl : List.length q = _); omega)
   refine Yio 7 44 q.length 1 k (k : Int) hA92 <| Yl 8 45 (J (g0 q k)) (same (HVo.at0 hA92 (g0_some q k (by have := (rfl : List.length q = _); omega)) (by kernel_rfl))) <| Yq 9 3 <| Yl 12 49 (.slice AL pts.length cL) (HB.s 4) <| Yq 13 1 ?_
   obtain ⟨ad93, hA94⟩ := HP.addr (i := i) (by have := (rfl : List.length pts = _); omega)
   refine Yio 14 51 pts.length 4 i (i : Int) hA94 <| Yq 15 1 <| Yl 16 53 (J ((gP pts i).start)) (same (HP.at0 hA94 (gP_some pts i (by have := (rfl : List.length pts = _); omega)) (by kernel_rfl))) <| Yr0 [17] [(54, .bool (decide ((g0 q k : Int) = ((gP pts i).start))))] <| WO.topP ((g0 q k : Int) = ((gP pts i).start)) ?_ ?_
   ·
    intro h95
    refine Yq 18 1 <| Ydn <| ZT <| WE.exit <| WQ.thenE <| WQ.blkE <| Zn <| WE.region <| Zr 1 <| Zw 15 ((i : Int) + 1) ((i + 1 : Nat) : Int) <| Zr 1 <| Zd <| WQ.round ?_
    intro a_ ha_
    refine ⟨(i + 1, FO, AO, cO, q), ?_, ha_.keep [0, 2, 3, 4] (by kernel_rfl), ?_⟩
    ·
     show pts.length - (i + 1) < pts.length - i; omega
    ·
     exact ⟨by omega, by rw [starts_take (by omega), ← hq]; exact (insS_old (by omega) hlt (by omega)).symm, by omega, HB, HP, ((HO_FO.keep F3 dj0).keep F89 dj0), nin_m_FO, dj_FO_FP, ge_HA_FO, HA⟩
   intro h95
   refine Yq 18 1 <| Ydn <| ZF <| Zk <| Zsg <| Zb 56 #[] 2 (fun g => .slice (some ⟨g, 0, none⟩) 0 0) ?_
   intro g96 w97 HB99 F98 le100 _
   have ne_m_g96 := ltn HB.lt le100
   have nin_g96_FP := new_nin HP.lt le100
   have nin_g96_FO := new_nin HVo.lt le100
   have ge_HA_g96 := Nat.le_trans HA.size le100
   refine Zr 2 <| Zv 59 0 k AO q.length cO 1 none (some (k : Int)) <| WO.top (sl0 _ _ _ _) ?_
   have HR106 := RowB.of_blk (n := 0) HB99 (List.map cI []) rfl rfl (cI_len _) (cI_one _) (by omega)
   have HVo := HVo.keep F98 dj0
   refine Zar (n := 0) (m := k) (ys := List.map cI (q.take k)) 60 et_l HR106 ((List.length_map _).trans ((rfl : List.length ([] : List Int) = 0))) ((HVo.take k).srcN (show (q.take k).length = k by rw [List.length_take]; have := (rfl : List.length q = _); omega) (cI_len _) (cI_one _) cO) (cI_len _) (cI_one _) ?_
   intro b101 cap102 w103 HR104 F105 hb107
   have HB := HB.k F98
   have ne_m_b101 : m ≠ b101 := hb107.elim (fun h => h ▸ ne_m_g96) (fun h => Nat.ne_of_lt (Nat.lt_of_lt_of_le HB.lt h))
   have HP := HP.keep F98 dj0
   have nin_b101_FP : b101 ∉ FP := hb107.elim (fun h => h ▸ nin_g96_FP) (fun h => new_nin HP.lt h)
   have nin_b101_FO : b101 ∉ FO := hb107.elim (fun h => h ▸ nin_g96_FO) (fun h => new_nin HVo.lt h)
   have HA := HA.step0 F98
   have in_HA_b101 : b101 ∈ [] ∨ (World.heap w).size ≤ b101 := hb107.elim (fun h => Or.inr (h ▸ ge_HA_g96)) (fun h => Or.inr (Nat.le_trans HA.size h))
   have HR104 : RowB w103 b101 2 1 cap102 ((([] : List Int) ++ (q.take k)).map cI) := by rw [List.map_append]; exact HR104
   have HB := HB.j F105 ne_m_g96
   have HP := HP.keep F105 (djB nin_g96_FP)
   refine Zr 1 <| Zdn <| Zsg <| Zr 4 <| Zl 65 (.slice AL pts.length cL) (HB.s 4) <| Zr 1 ?_
   obtain ⟨ad108, hA109⟩ := HP.addr (i := i) (by have := (rfl : List.length pts = _); omega)
   refine Zio 67 pts.length 4 i (i : Int) hA109 <| Zr 1 <| Zl 69 (J ((gP pts i).start)) (same (HP.at0 hA109 (gP_some pts i (by have := (rfl : List.length pts = _); omega)) (by kernel_rfl))) <| Zb 70 #[J ((gP pts i).start)] 2 (fun g => .slice (some ⟨g, 0, none⟩) 1 1) ?_
   intro g110 w111 HB113 F112 le114 _
   refine Zar (n := (0 + k)) (m := 1) (ys := List.map cI ([((gP pts i).start)])) 71 et_l (HR104.k F112) ((List.length_map _).trans ((show (([] : List Int) ++ (q.take k)).length = 0 + k by rw [List.length_append, (rfl : List.length ([] : List Int) = 0)] <;> first | rfl | (have := (rfl : List.length ([] : List Int) = 0); simp <;> omega)))) (RowB.src (RowB.of_blk (n := 1) HB113 (List.map cI [((gP pts i).start)]) rfl rfl (cI_len _) (cI_one _) (by omega))) (cI_len _) (cI_one _) ?_
   intro b115 cap116 w117 HR118 F119 hb120
   have HB := HB.k F112
   have ne_m_b115 : m ≠ b115 := hb120.elim (fun h => h ▸ ne_m_b101) (fun h => Nat.ne_of_lt (Nat.lt_of_lt_of_le HB.lt h))
   have HP := HP.keep F112 dj0
   have nin_b115_FP : b115 ∉ FP := hb120.elim (fun h => h ▸ nin_b101_FP) (fun h => new_nin HP.lt h)
   have HA := (HA.step F105 (inSR ge_HA_g96 inS0)).step0 F112
   have in_HA_b115 : b115 ∈ [] ∨ (World.heap w).size ≤ b115 := hb120.elim (fun h => (h ▸ in_HA_b101)) (fun h => Or.inr (Nat.le_trans HA.size h))
   have HR118 : RowB w117 b115 2 1 cap116 (((([] : List Int) ++ (q.take k)) ++ [((gP pts i).start)]).map cI) := by rw [List.map_append]; exact HR118
   refine Zr 1 <| Zdn <| WE.region <| Zr 3 <| Zv 75 k q.length AO q.length cO 1 (some (k : Int)) none <| Zar (n := (0 + k + 1)) (m := (q.length - k)) (ys := List.map cI ((q.drop k).take (q.length - k))) 76 et_l HR118 ((List.length_map _).trans ((show ((([] : List Int) ++ (q.take k)) ++ [((gP pts i).start)]).length = 0 + k + 1 by rw [List.length_append, (show (([] : List Int) ++ (q.take k)).length = 0 + k by rw [List.length_append, (rfl : List.length ([] : List Int) = 0)] <;> first | rfl | (have := (rfl : List.length ([] : List Int) = 0); simp <;> omega))] <;> first | rfl | (have := (show (([] : List Int) ++ (q.take k)).length = 0 + k by rw [List.length_append, (rfl : List.length ([] : List Int) = 0)] <;> first | rfl | (have := (rfl : List.length ([] : List Int) = 0); simp <;> omega)); simp <;> omega)))) ((((((HVo.keep F105 (djB nin_g96_FO)).keep F112 dj0).keep F119 (djB nin_b101_FO)).drop k cO (by have := (rfl : List.length q = _); omega) (by have := (rfl : List.length q = _); omega)).take (q.length - k)).srcN (show ((q.drop k).take (q.length - k)).length = q.length - k by rw [List.length_take, List.length_drop]; have := (rfl : List.length q = _); omega) (cI_len _) (cI_one _) (cO - k)) (cI_len _) (cI_one _) ?_
   intro b121 cap122 w123 HR124 F125 hb126
   have HB := HB.j F119 ne_m_b101
   have ne_m_b121 : m ≠ b121 := hb126.elim (fun h => h ▸ ne_m_b115) (fun h => Nat.ne_of_lt (Nat.lt_of_lt_of_le HB.lt h))
   have HP := HP.keep F119 (djB nin_b101_FP)
   have nin_b121_FP : b121 ∉ FP := hb126.elim (fun h => h ▸ nin_b115_FP) (fun h => new_nin HP.lt h)
   have HA := HA.step F119 (inSD in_HA_b101 inS0)
   have in_HA_b121 : b121 ∈ [] ∨ (World.heap w).size ≤ b121 := hb126.elim (fun h => (h ▸ in_HA_b115)) (fun h => Or.inr (Nat.le_trans HA.size h))
   have HR124 : RowB w123 b121 2 1 cap122 ((((([] : List Int) ++ (q.take k)) ++ [((gP pts i).start)]) ++ ((q.drop k).take (q.length - k))).map cI) := by rw [List.map_append]; exact HR124
   refine Zr 1 <| Zd <| WQ.blkN <| Zn <| WE.region <| Zr 1 <| Zw 15 ((i : Int) + 1) ((i + 1 : Nat) : Int) <| Zr 1 <| Zd <| WQ.keep [0, 2, 3, 4] (e' := [(0, Pt m 0), (2, .slice none 0 0), (3, .slice (some ⟨b121, 0, none⟩) (0 + k + 1 + (q.length - k)) cap122), (4, J ((i + 1 : Nat) : Int))]) (by kernel_rfl) ?_
   obtain ⟨F127, hF127⟩ : ∃ F_, F_ = [b121] := ⟨_, rfl⟩
   have HO128 : OwnX 2 1 w123 F127 (.slice (some ⟨b121, 0, none⟩) (0 + k + 1 + (q.length - k)) cap122) ((((([] : List Int) ++ (q.take k)) ++ [((gP pts i).start)]) ++ ((q.drop k).take (q.length - k))).map cI) := by rw [hF127]; exact OwnX.row HR124 ((List.length_map _).trans ((show (((([] : List Int) ++ (q.take k)) ++ [((gP pts i).start)]) ++ ((q.drop k).take (q.length - k))).length = 0 + k + 1 + (q.length - k) by rw [List.length_append, (show ((([] : List Int) ++ (q.take k)) ++ [((gP pts i).start)]).length = 0 + k + 1 by rw [List.length_append, (show (([] : List Int) ++ (q.take k)).length = 0 + k by rw [List.length_append, (rfl : List.length ([] : List Int) = 0)] <;> first | rfl | (have := (rfl : List.length ([] : List Int) = 0); simp <;> omega))] <;> first | rfl | (have := (show (([] : List Int) ++ (q.take k)).length = 0 + k by rw [List.length_append, (rfl : List.length ([] : List Int) = 0)] <;> first | rfl | (have := (rfl : List.length ([] : List Int) = 0); simp <;> omega)); simp <;> omega))] <;> first | rfl | (have := (show ((([] : List Int) ++ (q.take k)) ++ [((gP pts i).start)]).length = 0 + k + 1 by rw [List.length_append, (show (([] : List Int) ++ (q.take k)).length = 0 + k by rw [List.length_append, (rfl : List.length ([] : List Int) = 0)] <;> first | rfl | (have := (rfl : List.length ([] : List Int) = 0); simp <;> omega))] <;> first | rfl | (have := (show (([] : List Int) ++ (q.take k)).length = 0 + k by rw [List.length_append, (rfl : List.length ([] : List Int) = 0)] <;> first | rfl | (have := (rfl : List.length ([] : List Int) = 0); simp <;> omega)); simp <;> omega)); simp <;> omega))))
   have nin_m_F127 := sgN hF127 ne_m_b121
   have dj_F127_FP := sgD hF127 nin_b121_FP
   have ge_HA_F127 := sgG hF127 (in_HA_b121.resolve_left (by simp))
   have hnq129 : (((([] : List Int) ++ (q.take k)) ++ [((gP pts i).start)]) ++ ((q.drop k).take (q.length - k))).length = 0 + k + 1 + (q.length - k) := by simp only [List.length_set, List.length_append, List.length_cons, List.length_nil, List.length_take, List.length_drop] <;> omega
   have HO130 : OwnX 2 1 w123 F127 (.slice (some ⟨b121, 0, none⟩) ((((([] : List Int) ++ (q.take k)) ++ [((gP pts i).start)]) ++ ((q.drop k).take (q.length - k))).length) cap122) (List.map cI (((([] : List Int) ++ (q.take k)) ++ [((gP pts i).start)]) ++ ((q.drop k).take (q.length - k)))) := by rw [hnq129]; exact HO128
   refine WQ.env (e' := [(0, Pt m 0), (2, .slice none 0 0), (3, .slice (some ⟨b121, 0, none⟩) ((((([] : List Int) ++ (q.take k)) ++ [((gP pts i).start)]) ++ ((q.drop k).take (q.length - k))).length) cap122), (4, J ((i + 1 : Nat) : Int))]) (by rw [hnq129]) <| WQ.round ?_
   intro a_ ha_
   refine ⟨(i + 1, F127, (some ⟨b121, 0, none⟩), cap122, (((([] : List Int) ++ (q.take k)) ++ [((gP pts i).start)]) ++ ((q.drop k).take (q.length - k)))), ?_, ha_.keep [0, 2, 3, 4] (by kernel_rfl), ?_⟩
   ·
    show pts.length - (i + 1) < pts.length - i; omega
   ·
    exact ⟨by omega, by rw [starts_take (by omega), ← hq, insS_new hk hlt (fun _ => by omega), List.nil_append, show List.take (q.length - k) (List.drop k q) = List.drop k q from List.take_of_length_le (by rw [List.length_drop]; exact Nat.le_refl _)], by simp only [List.nil_append, List.length_append, List.length_take, List.length_drop, List.length_cons, List.length_nil]; omega, (HB.j F125 ne_m_b115), (HP.keep F125 (djB nin_b115_FP)), HO130, nin_m_F127, dj_F127_FP, ge_HA_F127, (HA.step F125 (inSD in_HA_b115 inS0))⟩
  intro h90
  refine Yq 4 15 <| Ydn <| ZF <| Zk <| Zsg <| Zb 56 #[] 2 (fun g => .slice (some ⟨g, 0, none⟩) 0 0) ?_
  intro g131 w132 HB134 F133 le135 _
  have ne_m_g131 := ltn HB.lt le135
  have nin_g131_FP := new_nin HP.lt le135
  have nin_g131_FO := new_nin HVo.lt le135
  have ge_HA_g131 := Nat.le_trans HA.size le135
  refine Zr 2 <| Zv 59 0 k AO q.length cO 1 none (some (k : Int)) <| WO.top (sl0 _ _ _ _) ?_
  have HR141 := RowB.of_blk (n := 0) HB134 (List.map cI []) rfl rfl (cI_len _) (cI_one _) (by omega)
  have HVo := HVo.keep F133 dj0
  refine Zar (n := 0) (m := k) (ys := List.map cI (q.take k)) 60 et_l HR141 ((List.length_map _).trans ((rfl : List.length ([] : List Int) = 0))) ((HVo.take k).srcN (show (q.take k).length = k by rw [List.length_take]; have := (rfl : List.length q = _); omega) (cI_len _) (cI_one _) cO) (cI_len _) (cI_one _) ?_
  intro b136 cap137 w138 HR139 F140 hb142
  have HB := HB.k F133
  have ne_m_b136 : m ≠ b136 := hb142.elim (fun h => h ▸ ne_m_g131) (fun h => Nat.ne_of_lt (Nat.lt_of_lt_of_le HB.lt h))
  have HP := HP.keep F133 dj0
  have nin_b136_FP : b136 ∉ FP := hb142.elim (fun h => h ▸ nin_g131_FP) (fun h => new_nin HP.lt h)
  have nin_b136_FO : b136 ∉ FO := hb142.elim (fun h => h ▸ nin_g131_FO) (fun h => new_nin HVo.lt h)
  have HA := HA.step0 F133
  have in_HA_b136 : b136 ∈ [] ∨ (World.heap w).size ≤ b136 := hb142.elim (fun h => Or.inr (h ▸ ge_HA_g131)) (fun h => Or.inr (Nat.le_trans HA.size h))
  have HR139 : RowB w138 b136 2 1 cap137 ((([] : List Int) ++ (q.take k)).map cI) := by rw [List.map_append]; exact HR139
  have HB := HB.j F140 ne_m_g131
  have HP := HP.keep F140 (djB nin_g131_FP)
  refine Zr 1 <| Zdn <| Zsg <| Zr 4 <| Zl 65 (.slice AL pts.length cL) (HB.s 4) <| Zr 1 ?_
  obtain ⟨ad143, hA144⟩ := HP.addr (i := i) (by have := (rfl : List.length pts = _); omega)
  refine Zio 67 pts.length 4 i (i : Int) hA144 <| Zr 1 <| Zl 69 (J ((gP pts i).start)) (same (HP.at0 hA144 (gP_some pts i (by have := (rfl : List.length pts = _); omega)) (by kernel_rfl))) <| Zb 70 #[J ((gP pts i).start)] 2 (fun g => .slice (some ⟨g, 0, none⟩) 1 1) ?_
  intro g145 w146 HB148 F147 le149 _
  refine Zar (n := (0 + k)) (m := 1) (ys := List.map cI ([((gP pts i).start)])) 71 et_l (HR139.k F147) ((List.length_map _).trans ((show (([] : List Int) ++ (q.take k)).length = 0 + k by rw [List.length_append, (rfl : List.length ([] : List Int) = 0)] <;> first | rfl | (have := (rfl : List.length ([] : List Int) = 0); simp <;> omega)))) (RowB.src (RowB.of_blk (n := 1) HB148 (List.map cI [((gP pts i).start)]) rfl rfl (cI_len _) (cI_one _) (by omega))) (cI_len _) (cI_one _) ?_
  intro b150 cap151 w152 HR153 F154 hb155
  have HB := HB.k F147
  have ne_m_b150 : m ≠ b150 := hb155.elim (fun h => h ▸ ne_m_b136) (fun h => Nat.ne_of_lt (Nat.lt_of_lt_of_le HB.lt h))
  have HP := HP.keep F147 dj0
  have nin_b150_FP : b150 ∉ FP := hb155.elim (fun h => h ▸ nin_b136_FP) (fun h => new_nin HP.lt h)
  have HA := (HA.step F140 (inSR ge_HA_g131 inS0)).step0 F147
  have in_HA_b150 : b150 ∈ [] ∨ (World.heap w).size ≤ b150 := hb155.elim (fun h => (h ▸ in_HA_b136)) (fun h => Or.inr (Nat.le_trans HA.size h))
  have HR153 : RowB w152 b150 2 1 cap151 (((([] : List Int) ++ (q.take k)) ++ [((gP pts i).start)]).map cI) := by rw [List.map_append]; exact HR153
  refine Zr 1 <| Zdn <| WE.region <| Zr 3 <| Zv 75 k q.length AO q.length cO 1 (some (k : Int)) none <| Zar (n := (0 + k + 1)) (m := (q.length - k)) (ys := List.map cI ((q.drop k).take (q.length - k))) 76 et_l HR153 ((List.length_map _).trans ((show ((([] : List Int) ++ (q.take k)) ++ [((gP pts i).start)]).length = 0 + k + 1 by rw [List.length_append, (show (([] : List Int) ++ (q.take k)).length = 0 + k by rw [List.length_append, (rfl : List.length ([] : List Int) = 0)] <;> first | rfl | (have := (rfl : List.length ([] : List Int) = 0); simp <;> omega))] <;> first | rfl | (have := (show (([] : List Int) ++ (q.take k)).length = 0 + k by rw [List.length_append, (rfl : List.length ([] : List Int) = 0)] <;> first | rfl | (have := (rfl : List.length ([] : List Int) = 0); simp <;> omega)); simp <;> omega)))) ((((((HVo.keep F140 (djB nin_g131_FO)).keep F147 dj0).keep F154 (djB nin_b136_FO)).drop k cO (by have := (rfl : List.length q = _); omega) (by have := (rfl : List.length q = _); omega)).take (q.length - k)).srcN (show ((q.drop k).take (q.length - k)).length = q.length - k by rw [List.length_take, List.length_drop]; have := (rfl : List.length q = _); omega) (cI_len _) (cI_one _) (cO - k)) (cI_len _) (cI_one _) ?_
  intro b156 cap157 w158 HR159 F160 hb161
  have HB := HB.j F154 ne_m_b136
  have ne_m_b156 : m ≠ b156 := hb161.elim (fun h => h ▸ ne_m_b150) (fun h => Nat.ne_of_lt (Nat.lt_of_lt_of_le HB.lt h))
  have HP := HP.keep F154 (djB nin_b136_FP)
  have nin_b156_FP : b156 ∉ FP := hb161.elim (fun h => h ▸ nin_b150_FP) (fun h => new_nin HP.lt h)
  have HA := HA.step F154 (inSD in_HA_b136 inS0)
  have in_HA_b156 : b156 ∈ [] ∨ (World.heap w).size ≤ b156 := hb161.elim (fun h => (h ▸ in_HA_b150)) (fun h => Or.inr (Nat.le_trans HA.size h))
  have HR159 : RowB w158 b156 2 1 cap157 ((((([] : List Int) ++ (q.take k)) ++ [((gP pts i).start)]) ++ ((q.drop k).take (q.length - k))).map cI) := by rw [List.map_append]; exact HR159
  refine Zr 1 <| Zd <| WQ.blkN <| Zn <| WE.region <| Zr 1 <| Zw 15 ((i : Int) + 1) ((i + 1 : Nat) : Int) <| Zr 1 <| Zd <| WQ.keep [0, 2, 3, 4] (e' := [(0, Pt m 0), (2, .slice none 0 0), (3, .slice (some ⟨b156, 0, none⟩) (0 + k + 1 + (q.length - k)) cap157), (4, J ((i + 1 : Nat) : Int))]) (by kernel_rfl) ?_
  obtain ⟨F162, hF162⟩ : ∃ F_, F_ = [b156] := ⟨_, rfl⟩
  have HO163 : OwnX 2 1 w158 F162 (.slice (some ⟨b156, 0, none⟩) (0 + k + 1 + (q.length - k)) cap157) ((((([] : List Int) ++ (q.take k)) ++ [((gP pts i).start)]) ++ ((q.drop k).take (q.length - k))).map cI) := by rw [hF162]; exact OwnX.row HR159 ((List.length_map _).trans ((show (((([] : List Int) ++ (q.take k)) ++ [((gP pts i).start)]) ++ ((q.drop k).take (q.length - k))).length = 0 + k + 1 + (q.length - k) by rw [List.length_append, (show ((([] : List Int) ++ (q.take k)) ++ [((gP pts i).start)]).length = 0 + k + 1 by rw [List.length_append, (show (([] : List Int) ++ (q.take k)).length = 0 + k by rw [List.length_append, (rfl : List.length ([] : List Int) = 0)] <;> first | rfl | (have := (rfl : List.length ([] : List Int) = 0); simp <;> omega))] <;> first | rfl | (have := (show (([] : List Int) ++ (q.take k)).length = 0 + k by rw [List.length_append, (rfl : List.length ([] : List Int) = 0)] <;> first | rfl | (have := (rfl : List.length ([] : List Int) = 0); simp <;> omega)); simp <;> omega))] <;> first | rfl | (have := (show ((([] : List Int) ++ (q.take k)) ++ [((gP pts i).start)]).length = 0 + k + 1 by rw [List.length_append, (show (([] : List Int) ++ (q.take k)).length = 0 + k by rw [List.length_append, (rfl : List.length ([] : List Int) = 0)] <;> first | rfl | (have := (rfl : List.length ([] : List Int) = 0); simp <;> omega))] <;> first | rfl | (have := (show (([] : List Int) ++ (q.take k)).length = 0 + k by rw [List.length_append, (rfl : List.length ([] : List Int) = 0)] <;> first | rfl | (have := (rfl : List.length ([] : List Int) = 0); simp <;> omega)); simp <;> omega)); simp <;> omega))))
  have nin_m_F162 := sgN hF162 ne_m_b156
  have dj_F162_FP := sgD hF162 nin_b156_FP
  have ge_HA_F162 := sgG hF162 (in_HA_b156.resolve_left (by simp))
  have hnq164 : (((([] : List Int) ++ (q.take k)) ++ [((gP pts i).start)]) ++ ((q.drop k).take (q.length - k))).length = 0 + k + 1 + (q.length - k) := by simp only [List.length_set, List.length_append, List.length_cons, List.length_nil, List.length_take, List.length_drop] <;> omega
  have HO165 : OwnX 2 1 w158 F162 (.slice (some ⟨b156, 0, none⟩) ((((([] : List Int) ++ (q.take k)) ++ [((gP pts i).start)]) ++ ((q.drop k).take (q.length - k))).length) cap157) (List.map cI (((([] : List Int) ++ (q.take k)) ++ [((gP pts i).start)]) ++ ((q.drop k).take (q.length - k)))) := by rw [hnq164]; exact HO163
  refine WQ.env (e' := [(0, Pt m 0), (2, .slice none 0 0), (3, .slice (some ⟨b156, 0, none⟩) ((((([] : List Int) ++ (q.take k)) ++ [((gP pts i).start)]) ++ ((q.drop k).take (q.length - k))).length) cap157), (4, J ((i + 1 : Nat) : Int))]) (by rw [hnq164]) <| WQ.round ?_
  intro a_ ha_
  refine ⟨(i + 1, F162, (some ⟨b156, 0, none⟩), cap157, (((([] : List Int) ++ (q.take k)) ++ [((gP pts i).start)]) ++ ((q.drop k).take (q.length - k)))), ?_, ha_.keep [0, 2, 3, 4] (by kernel_rfl), ?_⟩
  ·
   show pts.length - (i + 1) < pts.length - i; omega
  ·
   exact ⟨by omega, by rw [starts_take (by omega), ← hq, insS_new hk hlt (fun _ => by omega), List.nil_append, show List.take (q.length - k) (List.drop k q) = List.drop k q from List.take_of_length_le (by rw [List.length_drop]; exact Nat.le_refl _)], by simp only [List.nil_append, List.length_append, List.length_take, List.length_drop, List.length_cons, List.length_nil]; omega, (HB.j F160 ne_m_b150), (HP.keep F160 (djB nin_b150_FP)), HO165, nin_m_F162, dj_F162_FP, ge_HA_F162, (HA.step F160 (inSD in_HA_b150 inS0))⟩
 intro h1
 refine Zdn <| ZF <| WE.exit <| WQ.thenE <| WQ.thenE <| WQ.blkE <| Zn <| Zsg <| Zr 2 <| Zdn <| WE.ret <| ZR (.slice AO q.length cO) ?_
 exact ⟨AO, cO, FO, by rw [hq, List.take_of_length_le (by omega)], by rw [hq, List.take_of_length_le (by omega)] at HO_FO; exact HO_FO, ge_HA_FO, HA⟩
end Go.Proofs.YtdhonbahpcmmnaaGreatDoor.Bat
