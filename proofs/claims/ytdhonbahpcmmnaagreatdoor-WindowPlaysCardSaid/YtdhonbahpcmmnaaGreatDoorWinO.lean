/- Layer 20's walks: the document's rows. -/
import Derived.Test.YtdhonbahpcmmnaaGreatDoorWinR
import Derived.Test.YtdhonbahpcmmnaaGreatDoorEngC
set_option linter.unusedVariables false
set_option linter.unusedSimpArgs false
namespace Go.Proofs.YtdhonbahpcmmnaaGreatDoor.Bat
open Go Go.RowKit Go.Proofs.YtdhonbahpcmmnaaGreatDoor Go.Proofs.YtdhonbahpcmmnaaGreatDoor.Eng Go.Proofs.YtdhonbahpcmmnaaGreatDoorW.PrintWords
open Go.Proofs Go.Maps
open Go.Proofs.YtdhonbahpcmmnaaGreatDoor.Line
theorem rows_take_no {pts : List Pn} {i : Nat} {s : Int} (h : i < pts.length) (hn : ¬ (gP pts i).start = s) : rowsP (pts.take (i + 1)) s = rowsP (pts.take i) s := by
  unfold rowsP
  rw [List.take_add_one, gP_some pts i h, List.filter_append]
  simp [hn]
theorem rows_take_yes {pts : List Pn} {i : Nat} {s : Int} (h : i < pts.length) (hn : (gP pts i).start = s) : rowsP (pts.take (i + 1)) s = insR (rowsP (pts.take i) s) (gP pts i) := by
  unfold rowsP
  rw [List.take_add_one, gP_some pts i h, List.filter_append]
  simp [hn]
theorem ltP_1 {k : L} {kd : Int} {r : Rw} (h : ltS r.key k = true) : ltP k kd r = true := by unfold ltP; rw [h, Bool.true_or]
theorem ltP_2 {k : L} {kd : Int} {r : Rw} (h : r.key = k) (h2 : r.kind < kd) : ltP k kd r = true := by unfold ltP; simp [h, h2]
theorem ltP_3 {k : L} {kd : Int} {r : Rw} (h : ltS r.key k = false) (h2 : ¬ r.key = k) : ltP k kd r = false := by unfold ltP; rw [h]; simp [h2]
theorem ltP_4 {k : L} {kd : Int} {r : Rw} (h : ltS r.key k = false) (h2 : ¬ r.kind < kd) : ltP k kd r = false := by unfold ltP; rw [h]; simp [h2]
theorem front_r {q : List RX} {k : Nat} {key : L} {kd : Int} (hk : k ≤ q.length) (hlt : ∀ j, j < k → ltP key kd (gX q j).1 = true) (hge : k < q.length → ltP key kd (gX q k).1 = false) : frontN (ltP key kd) (rws q) = k := by
  refine front_eq (by rw [rws_len]; exact hk) (fun i x hi hx => ?_) (fun x hx => ?_)
  · have := hlt i hi
    unfold rws at hx
    rw [List.getElem?_map, gX_some q i (by omega)] at hx
    obtain rfl := Option.some.inj hx
    exact this
  · have hl : k < q.length := by have := (List.getElem?_eq_some_iff.1 hx).1; rwa [rws_len] at this
    unfold rws at hx
    rw [List.getElem?_map, gX_some q k hl] at hx
    obtain rfl := Option.some.inj hx
    exact hge hl
theorem insR_newX {q : List RX} {k : Nat} {p : Pn} (hk : k ≤ q.length) (hlt : ∀ j, j < k → ltP p.key p.kind (gX q j).1 = true) (hge : k < q.length → ltP p.key p.kind (gX q k).1 = false ∧ ¬ ((gX q k).1.key = p.key ∧ (gX q k).1.kind = p.kind)) : insR (rws q) p = (rws q).take k ++ [begR p.key p.kind p.value] ++ (rws q).drop k := by
  unfold insR
  rw [front_r hk hlt (fun h => (hge h).1)]
  simp only
  have hn : ¬ (k < (rws q).length ∧ (gW (rws q) k).key = p.key ∧ (gW (rws q) k).kind = p.kind) := fun h => (hge (by have h1 := h.1; rwa [rws_len] at h1)).2 (by have h2 := h.2; rwa [gW_rws] at h2)
  rw [if_neg hn]
theorem insR_oldX {q : List RX} {k : Nat} {p : Pn} (hk : k < q.length) (hlt : ∀ j, j < k → ltP p.key p.kind (gX q j).1 = true) (h1 : (gX q k).1.key = p.key) (h2 : (gX q k).1.kind = p.kind) : insR (rws q) p = (rws q).set k (addR (gX q k).1 p.value) := by
  unfold insR
  rw [front_r (by omega) hlt (fun _ => by
    unfold ltP
    rw [h1, h2, ltS_irrefl]
    simp)]
  simp only
  rw [if_pos ⟨by rw [rws_len]; exact hk, by rw [gW_rws]; exact ⟨h1, h2⟩⟩, gW_rws]
theorem rws_set {q : List RX} {k : Nat} {x : RX} : rws (q.set k x) = (rws q).set k x.1 := List.map_set
theorem rws_ins {q : List RX} {k n : Nat} {x : RX} (hn : n = q.length - k := by rfl) : rws (([] ++ q.take k) ++ [x] ++ (q.drop k).take n) = (rws q).take k ++ [x.1] ++ (rws q).drop k := by
  subst hn
  unfold rws
  rw [List.nil_append, List.map_append, List.map_append, List.map_take, List.map_take, List.map_drop, List.take_of_length_le (l := List.drop k _) (by rw [List.length_drop, List.length_map]; exact Nat.le_refl _)]
  rfl
theorem add_ok {r : Rw} {v : Int} (h : r.In ∧ r.bk.length ≤ 65 ∧ 1 ≤ r.many) (hv : I64 v) : (addR r v).In ∧ (addR r v).bk.length ≤ 65 ∧ 1 ≤ (addR r v).many := by
  refine ⟨addR_in h.1 hv, ?_, scount_pos _⟩
  show (if r.kind = 3 then bumpN r.bk (bl v) else r.bk).length ≤ 65
  split
  · rw [bumpN_len]
    have := bl_le hv
    omega
  · exact h.2.1
theorem beg_ok {k : L} {kd v : Int} (hv : I64 v) : (begR k kd v).In ∧ (begR k kd v).bk.length ≤ 65 ∧ 1 ≤ (begR k kd v).many := by
  refine ⟨begR_in hv, ?_, Nat.le_refl _⟩
  show (if kd = 3 then bumpN [] (bl v) else []).length ≤ 65
  split
  · rw [bumpN_len]
    have := bl_le hv
    simp
    omega
  · simp
theorem in_set {q : List RX} {k : Nat} {r : Rw} {p : Option Addr × Nat} {v : Int} (h : ∀ x ∈ q, x.1.In ∧ x.1.bk.length ≤ 65 ∧ 1 ≤ x.1.many) (hr : r.In ∧ r.bk.length ≤ 65 ∧ 1 ≤ r.many) (hv : I64 v) : ∀ x ∈ q.set k (addR r v, p), x.1.In ∧ x.1.bk.length ≤ 65 ∧ 1 ≤ x.1.many := by
  intro x hx
  rcases List.mem_or_eq_of_mem_set hx with h1 | rfl
  · exact h x h1
  · exact add_ok hr hv
theorem in_ins {q : List RX} {k n : Nat} {key : L} {kd v : Int} {p : Option Addr × Nat} (h : ∀ x ∈ q, x.1.In ∧ x.1.bk.length ≤ 65 ∧ 1 ≤ x.1.many) (hv : I64 v) : ∀ x ∈ ([] ++ q.take k) ++ [(begR key kd v, p)] ++ (q.drop k).take n, x.1.In ∧ x.1.bk.length ≤ 65 ∧ 1 ≤ x.1.many := by
  intro x hx
  rcases List.mem_append.1 hx with h1 | h1
  · rcases List.mem_append.1 h1 with h1 | h1
    · exact h x (List.mem_of_mem_take (by simpa using h1))
    · rw [List.mem_singleton.1 h1]
      exact beg_ok hv
  · exact h x (List.mem_of_mem_drop (List.mem_of_mem_take h1))
theorem EV.more {w : World} {F G : List Nat} {xs ys : List RX} {r : Rw} {A : Option Addr} {c : Nat} (h : EV w F xs) (hv : VX cN 1 w G A r.bk) (hc : r.bk.length ≤ c) (hy : ∀ y ∈ ys, y ∈ xs ∨ y = (r, (A, c))) : EV w (F ++ G) ys := by
  refine ⟨fun y hy => (List.mem_append.1 hy).elim (h.1 y) (hv.1 y), fun x hx => ?_⟩
  rcases hy x hx with h1 | rfl
  · obtain ⟨a, FR, b, d⟩ := h.2 x h1
    exact ⟨a, FR, fun y hy => List.mem_append_left _ (b y hy), d⟩
  · exact ⟨hc, G, fun y hy => List.mem_append_right _ hy, hv⟩
theorem EV.set {w : World} {F G : List Nat} {xs : List RX} {r : Rw} {A : Option Addr} {c k : Nat} (h : EV w F xs) (hv : VX cN 1 w G A r.bk) (hc : r.bk.length ≤ c) : EV w (F ++ G) (xs.set k (r, (A, c))) :=
  h.more hv hc fun y hy => List.mem_or_eq_of_mem_set hy
theorem EV.ins {w : World} {F G : List Nat} {xs : List RX} {r : Rw} {A : Option Addr} {c k n : Nat} (h : EV w F xs) (hv : VX cN 1 w G A r.bk) (hc : r.bk.length ≤ c) : EV w (F ++ G) (([] ++ xs.take k) ++ [(r, (A, c))] ++ (xs.drop k).take n) :=
  h.more hv hc fun y hy => by
    rcases List.mem_append.1 hy with h1 | h1
    · rcases List.mem_append.1 h1 with h1 | h1
      · exact .inl (List.mem_of_mem_take (by simpa using h1))
      · exact .inr (List.mem_singleton.1 h1)
    · exact .inl (List.mem_of_mem_drop (List.mem_of_mem_take h1))
set_option maxRecDepth 100000 in
set_option maxHeartbeats 400000 in
theorem rwo_f (m : Nat) (width windows rows seq : Int) (pts : List Pn) (AL : Option Addr) (cL : Nat) (FP : List Nat) (start : Int) (w : World) (HB : Blk w m #[.int .i64 width, .int .i64 windows, .int .i64 rows, .int .i64 seq, .slice AL pts.length cL] 59) (HP : VX cP 4 w FP AL pts) (hmP : m ∉ FP) (hpl : pts.length ≤ 100000) (hpv : ∀ p ∈ pts, I64 p.value) :
    Calls Tryz.prog 60 #[.pointer (some ⟨m, 0, none⟩), .int .i64 start] w fun e w' => ∃ (q : List RX) (A' : Option Addr) (c' : Nat) (F' G' : List Nat), e = .returned (.slice A' q.length c') ∧ rws q = rowsP pts start ∧ OwnX 54 8 w' F' (.slice A' q.length c') (q.map cW) ∧ EV w' G' q ∧ (∀ y ∈ G', y ∉ F') ∧ (∀ y ∈ F', w.heap.size ≤ y) ∧ (∀ y ∈ G', w.heap.size ≤ y) ∧ (∀ x ∈ q, x.1.In ∧ x.1.bk.length ≤ 65 ∧ 1 ≤ x.1.many) ∧ Fr [] w w' := by
 have HA := Fr.refl [] w
 refine Ze Tryz.func60 _ <| Zsg <| Zr 1 <| Zdn <| Zsg <| Zr 1 <| Zdn <| Zq <| Zsg <| Zr 1 <| Zdn <| WE.block <| WE.loop (α := Nat × List Nat × Option Addr × Nat × List RX × List Nat) (E := fun ⟨i, FX, AX, cX, q, FE⟩ => [(0, Pt m 0), (1, J start), (4, .slice none 0 0), (5, .slice AX q.length cX), (6, J (i : Int))]) (I := fun ⟨i, FX, AX, cX, q, FE⟩ wr => i ≤ pts.length ∧ rws q = rowsP (pts.take i) start ∧ q.length ≤ i ∧ (∀ x ∈ q, x.1.In ∧ x.1.bk.length ≤ 65 ∧ 1 ≤ x.1.many) ∧ Blk wr m #[J width, J windows, J rows, J seq, .slice AL pts.length cL] 59 ∧ VX cP 4 wr FP AL pts ∧ OwnX 54 8 wr FX (.slice AX q.length cX) (List.map cW q) ∧ m ∉ FX ∧ (∀ y ∈ FX, y ∉ FP) ∧ (∀ y ∈ FX, (World.heap w).size ≤ y) ∧ EV wr FE q ∧ m ∉ FE ∧ (∀ y ∈ FE, y ∉ FP) ∧ (∀ y ∈ FE, y ∉ FX) ∧ (∀ y ∈ FE, (World.heap w).size ≤ y) ∧ Fr [] w wr) (m := fun ⟨i, FX, AX, cX, q, FE⟩ => pts.length - i) (0, [], none, 0, [], []) [0, 1, 4, 5, 6] (by kernel_rfl) ?_ ?_
 ·
  exact ⟨Nat.zero_le _, by rfl, Nat.le_refl _, by simp, HB, HP, OwnX.nil _ _ _, (by simp), (by simp), (by simp), EV.nil _, (by simp), (by simp), (by simp), (by simp), HA⟩
 rintro ⟨i, FX, AX, cX, q, FE⟩ wr ⟨hi, hq, hql, hin, HB, HP, HO_FX, nin_m_FX, dj_FX_FP, ge_HA_FX, HO_FE, nin_m_FE, dj_FE_FP, dj_FE_FX, ge_HA_FE, HA⟩
 have HVo := VX.of_own HO_FX
 have hcap_ := own_cap HO_FX (List.length_map _)
 refine Zq <| Zsg <| Zr 4 <| Zl 15 (.slice AL pts.length cL) (HB.s 4) <| Zr 1 <| ZoP 17 (((i : Int) : Int) < (pts.length : Int)) ?_ ?_
 ·
  intro h1
  refine Zdn <| ZT <| Zk <| Zq <| WE.block <| Zsg <| Zr 3 <| Zl 23 (.slice AL pts.length cL) (HB.s 4) <| Zr 1 ?_
  obtain ⟨ad2, hA3⟩ := HP.addr (i := i) (by have := (rfl : List.length pts = _); omega)
  refine Zio 25 pts.length 4 i (i : Int) hA3 <| Zla (ad := (ad2.add (i * 4))) 26 [J ((gP pts i).start), .string (str (gP pts i).key), J ((gP pts i).kind), J ((gP pts i).value)] (fun _ hw_ _ hj_ => by subst hw_; exact HP.part0 hA3 (gP_some pts i (by have := (rfl : List.length pts = _); omega)) [J ((gP pts i).start), .string (str (gP pts i).key), J ((gP pts i).kind), J ((gP pts i).value)] (by kernel_rfl) _ hj_) <| Zb 7 #[J 0, .string (⟨#[]⟩), J 0, J 0] 109 (fun g => Pt g 0) ?_
  intro g4 w5 HB7 F6 le8 _
  have ne_m_g4 := ltn HB.lt le8
  have nin_g4_FP := new_nin HP.lt le8
  have nin_g4_FE := new_nin HO_FE.lt le8
  have nin_g4_FX := new_nin HVo.lt le8
  have ge_HA_g4 := Nat.le_trans HA.size le8
  refine Zst g4 0 #[J ((gP pts i).start), .string (str (gP pts i).key), J ((gP pts i).kind), J ((gP pts i).value)] HB7 ?_
  intro w9 HB11 F10 _
  have HB := (HB.k F6).j F10 ne_m_g4
  have HP := (HP.keep F6 dj0).keep F10 (djB nin_g4_FP)
  have HO_FX := (HO_FX.keep F6 dj0).keep F10 (djB nin_g4_FX)
  have HO_FE := (HO_FE.keep F6 dj0).keep F10 (djB nin_g4_FE)
  have HA := (HA.step0 F6).step F10 (inSR ge_HA_g4 inS0)
  refine Zdn <| Zq <| Zsg <| Zr 1 <| Zl 28 (J ((gP pts i).start)) (HB11.s 0) <| Zr 1 <| ZoN 30 (((gP pts i).start : Int) = start) ?_ ?_
  ·
   intro h12
   refine Zdn <| ZF <| Zk <| Zsg <| Zr 1 <| Zdn <| Zq <| WE.block <| WE.loop (α := Nat) (E := fun k => [(0, Pt m 0), (1, J start), (4, .slice none 0 0), (5, .slice AX q.length cX), (6, J (i : Int)), (7, Pt g4 0), (8, J (k : Int))]) (I := fun k wk => k ≤ q.length ∧ (∀ j, j < k → ltP (gP pts i).key (gP pts i).kind (gX q j).1 = true) ∧ Blk wk m #[J width, J windows, J rows, J seq, .slice AL pts.length cL] 59 ∧ Blk wk g4 #[J ((gP pts i).start), .string (str (gP pts i).key), J ((gP pts i).kind), J ((gP pts i).value)] 109 ∧ VX cP 4 wk FP AL pts ∧ OwnX 54 8 wk FX (.slice AX q.length cX) (List.map cW q) ∧ EV wk FE q ∧ VX cW 8 wk FX AX q ∧ Fr [] w wk) (m := fun k => q.length - k) 0 [0, 1, 4, 5, 6, 7, 8] (by kernel_rfl) ?_ ?_
   ·
    exact ⟨Nat.zero_le _, fun j h_ => absurd h_ (Nat.not_lt_zero _), HB, HB11, HP, HO_FX, HO_FE, ((HVo.keep F6 dj0).keep F10 (djB nin_g4_FX)), HA⟩
   rintro k wk ⟨hk, hlt, HB, HB11, HP, HO_FX, HO_FE, HVo, HA⟩
   refine Zq <| Zq <| ZE [9, 11, 18, 20, 27, 29] [] [] 34 ?_
   intro w13 F14 _
   refine Yr0 [0, 1, 2, 3] [(34, .bool (decide (((k : Int) : Int) < (q.length : Int)))), (33, J (q.length : Int)), (32, .slice AX q.length cX), (31, J (k : Int))] <| WO.topP (((k : Int) : Int) < (q.length : Int)) ?_ ?_
   ·
    intro h15
    have HVo := HVo.keep F14 dj0
    refine Yq 4 3 ?_
    obtain ⟨ad16, hA17⟩ := HVo.addr (i := k) (by have := (rfl : List.length q = _); omega)
    have HB11 := HB11.k F14
    refine Yio 7 38 q.length 8 k (k : Int) hA17 <| Yq 8 1 <| Yl 9 40 (.string (str (gX q k).1.key)) (same (HVo.at0 hA17 (gX_some q k (by have := (rfl : List.length q = _); omega)) (by kernel_rfl))) <| Yq 10 1 <| Yl 11 42 (.string (str (gP pts i).key)) (HB11.s 1) <| Yr0 [12] [(43, .bool (Go.Op.bytesLess ((str (gX q k).1.key)).toList ((str (gP pts i).key)).toList))] <| WO.top (v' := .bool (ltS ((gX q k).1.key) ((gP pts i).key))) (congrArg Value.bool (lss_str ((gX q k).1.key) ((gP pts i).key))) <| WO.topB (ltS ((gX q k).1.key) ((gP pts i).key)) ?_ ?_
    ·
     intro h18
     refine Yq 13 21 <| Ydn <| ZT <| Zk <| WE.block <| WE.region <| Zr 1 <| Zw 66 ((k : Int) + 1) ((k + 1 : Nat) : Int) <| Zr 1 <| Zd <| WQ.blkN <| WQ.round ?_
     intro a_ ha_
     refine ⟨k + 1, ?_, ha_.keep [0, 1, 4, 5, 6, 7, 8] (by kernel_rfl), ?_⟩
     ·
      show q.length - (k + 1) < q.length - k; omega
     ·
      exact ⟨by omega, fun j h_ => (Nat.lt_succ_iff_lt_or_eq.1 h_).elim (hlt j) (fun e_ => by rw [e_]; exact ltP_1 h18), (HB.k F14), HB11, (HP.keep F14 dj0), (HO_FX.keep F14 dj0), (HO_FE.keep F14 dj0), HVo, (HA.step0 F14)⟩
    intro h18
    refine Yq 13 3 ?_
    obtain ⟨ad19, hA20⟩ := HVo.addr (i := k) (by have := (rfl : List.length q = _); omega)
    refine Yio 16 47 q.length 8 k (k : Int) hA20 <| Yq 17 1 <| Yl 18 49 (.string (str (gX q k).1.key)) (same (HVo.at0 hA20 (gX_some q k (by have := (rfl : List.length q = _); omega)) (by kernel_rfl))) <| Yq 19 1 <| Yl 20 51 (.string (str (gP pts i).key)) (HB11.s 1) <| Yr0 [21] [(52, .bool ((str (gX q k).1.key).toList == (str (gP pts i).key).toList))] <| WO.top (v' := .bool (decide ((str (gX q k).1.key) = (str (gP pts i).key)))) (congrArg Value.bool (streq (str (gX q k).1.key) (str (gP pts i).key))) <| WO.topP ((str (gX q k).1.key) = (str (gP pts i).key)) ?_ ?_
    ·
     intro h21
     refine Yq 22 3 ?_
     obtain ⟨ad22, hA23⟩ := HVo.addr (i := k) (by have := (rfl : List.length q = _); omega)
     refine Yio 25 56 q.length 8 k (k : Int) hA23 <| Yq 26 1 <| Yl 27 58 (J ((gX q k).1.kind)) (same (HVo.at hA23 (gX_some q k (by have := (rfl : List.length q = _); omega)) 1 (by kernel_rfl))) <| Yq 28 1 <| Yl 29 60 (J ((gP pts i).kind)) (HB11.s 2) <| Yr0 [30] [(61, .bool (decide (((gX q k).1.kind : Int) < ((gP pts i).kind))))] <| WO.topP (((gX q k).1.kind : Int) < ((gP pts i).kind)) ?_ ?_
     ·
      intro h24
      refine Yq 31 3 <| Ydn <| ZT <| Zk <| WE.block <| WE.region <| Zr 1 <| Zw 66 ((k : Int) + 1) ((k + 1 : Nat) : Int) <| Zr 1 <| Zd <| WQ.blkN <| WQ.round ?_
      intro a_ ha_
      refine ⟨k + 1, ?_, ha_.keep [0, 1, 4, 5, 6, 7, 8] (by kernel_rfl), ?_⟩
      ·
       show q.length - (k + 1) < q.length - k; omega
      ·
       exact ⟨by omega, fun j h_ => (Nat.lt_succ_iff_lt_or_eq.1 h_).elim (hlt j) (fun e_ => by rw [e_]; exact ltP_2 (str_inj.1 h21) (by omega)), (HB.k F14), HB11, (HP.keep F14 dj0), (HO_FX.keep F14 dj0), (HO_FE.keep F14 dj0), HVo, (HA.step0 F14)⟩
     intro h24
     refine Yq 31 3 <| Ydn <| ZF <| WE.exit <| WQ.thenE <| WQ.thenE <| WQ.blkE <| Zn <| Zsg <| Zr 1 <| Zdn <| Zq <| Zsg <| Zr 3 <| ZoPT 70 (((k : Int) : Int) < (q.length : Int)) (by omega) <| Zdn <| ZT <| ZE [4, 6, 13, 15] [] [] 19 ?_
     intro w25 F26 _
     have HVo := HVo.keep F26 dj0
     refine Yq 0 2 ?_
     obtain ⟨ad27, hA28⟩ := HVo.addr (i := k) (by have := (rfl : List.length q = _); omega)
     have HB11 := HB11.k F26
     refine Yio 2 73 q.length 8 k (k : Int) hA28 <| Yq 3 1 <| Yl 4 75 (.string (str (gX q k).1.key)) (same (HVo.at0 hA28 (gX_some q k (by have := (rfl : List.length q = _); omega)) (by kernel_rfl))) <| Yq 5 1 <| Yl 6 77 (.string (str (gP pts i).key)) (HB11.s 1) <| Yr0 [7] [(78, .bool ((str (gX q k).1.key).toList == (str (gP pts i).key).toList))] <| WO.top (v' := .bool (decide ((str (gX q k).1.key) = (str (gP pts i).key)))) (congrArg Value.bool (streq (str (gX q k).1.key) (str (gP pts i).key))) <| WO.topPT ((str (gX q k).1.key) = (str (gP pts i).key)) (by exact h21) <| Yq 8 3 ?_
     obtain ⟨ad29, hA30⟩ := HVo.addr (i := k) (by have := (rfl : List.length q = _); omega)
     have HB := (HB.k F14).k F26
     have HP := (HP.keep F14 dj0).keep F26 dj0
     have HO_FE := (HO_FE.keep F14 dj0).keep F26 dj0
     have HA := (HA.step0 F14).step0 F26
     refine Yio 11 82 q.length 8 k (k : Int) hA30 <| Yq 12 1 <| Yl 13 84 (J ((gX q k).1.kind)) (same (HVo.at hA30 (gX_some q k (by have := (rfl : List.length q = _); omega)) 1 (by kernel_rfl))) <| Yq 14 1 <| Yl 15 86 (J ((gP pts i).kind)) (HB11.s 2) <| Yr0 [16] [(87, .bool (decide (((gX q k).1.kind : Int) = ((gP pts i).kind))))] <| WO.topP (((gX q k).1.kind : Int) = ((gP pts i).kind)) ?_ ?_
     ·
      intro h31
      have HO_FX := (HO_FX.keep F14 dj0).keep F26 dj0
      refine Yq 17 2 <| Ydn <| Zq <| Zsg <| Zr 1 <| Zdn <| ZT <| Zq ?_
      obtain ⟨b32, hF34, hA35, HR33⟩ := HO_FX.pos (by rw [List.length_map]; omega)
      have ne_m_b32 : m ≠ b32 := fun h_ => nin_m_FX (by rw [hF34, h_]; exact List.mem_singleton.2 rfl)
      have nin_b32_FP : b32 ∉ FP := dj_FX_FP _ (by rw [hF34]; exact List.mem_singleton.2 rfl)
      have nin_b32_FE : b32 ∉ FE := (dj_symm dj_FE_FX) _ (by rw [hF34]; exact List.mem_singleton.2 rfl)
      have ge_HA_b32 := ge_HA_FX _ (by rw [hF34]; exact List.mem_singleton.2 (rfl : b32 = b32))
      subst hA35
      refine ZE [5, 7] [] [8, 10] 11 ?_
      intro w36 F37 _
      have HR33 := HR33.k F37
      refine Yq 0 4 <| Yib 4 94 (k * 8) b32 0 q.length 8 (k : Int) <| Ylr 5 95 [.string (str (gX q k).1.key), J ((gX q k).1.kind), .int .u64 ((gX q k).1.many : Int), J ((gX q k).1.sum), J ((gX q k).1.least), J ((gX q k).1.most), .bool ((gX q k).1.over), .slice ((gX q k).2.1) ((gX q k).1.bk.length) ((gX q k).2.2)] b32 k 8 (k * 8) (same HR33) (by rw [List.length_map]; have := (rfl : List.length q = _); omega) (map_gX q k (by have := (rfl : List.length q = _); omega)) (by kernel_rfl) <| Yq 6 1 <| Yl 7 97 (J ((gP pts i).value)) (same ((HB11.k F37).at 3 (by kernel_rfl))) ?_
      obtain ⟨hi1, hi2, hi3⟩ := hin _ (gX_mem (q := q) (i := k) (by omega))
      have HO_FE := HO_FE.keep F37 dj0
      obtain ⟨hrc_, FR, hFR, HVR⟩ := HO_FE.2 _ (gX_mem (q := q) (i := k) (by omega))
      refine Yc 8 98 (com_add (gX q k).1 (gX q k).2.1 (gX q k).2.2 FR (gP pts i).value _ HVR hi2 (hpv _ (gP_mem (by omega))) hi1 hi3) ?_
      rintro _ w38 ⟨A1, c1, G1, rfl, HO1, hg1, F39⟩
      refine ⟨_, rfl, trivial, ?_⟩
      have hcq_ := own_cap HO1 (List.length_map _)
      have HV1 := VX.of_own HO1
      have hg1r := fun y hy => Or.inr (a := y ∈ ([] : List Nat)) (hg1 y hy)
      have HB := HB.k F37
      have nin_m_G1 := grow_nin hg1r (nin0 _) HB.lt
      have nin_b32_G1 := grow_nin hg1r (nin0 _) HR33.lt
      have HP := HP.keep F37 dj0
      have dj_G1_FP := grow_dj hg1r (by simp) HP.lt
      have HA := HA.step0 F37
      have ge_HA_G1 := grow_ge hg1r (by simp) HA.size
      refine Yib 9 99 (k * 8) b32 0 q.length 8 (k : Int) <| Ysr 10 b32 k (k * 8) [.string (str (addR (gX q k).1 (gP pts i).value).key), J ((addR (gX q k).1 (gP pts i).value).kind), .int .u64 ((addR (gX q k).1 (gP pts i).value).many : Int), J ((addR (gX q k).1 (gP pts i).value).sum), J ((addR (gX q k).1 (gP pts i).value).least), J ((addR (gX q k).1 (gP pts i).value).most), .bool ((addR (gX q k).1 (gP pts i).value).over), .slice A1 ((addR (gX q k).1 (gP pts i).value).bk.length) c1] (HR33.k F39) (by rw [List.length_map]; have := (rfl : List.length q = _); omega) ?_
      intro w40 HR42 F41 _
      have HR42 : RowB w40 b32 54 8 cX ((q.set k (((addR (gX q k).1 (gP pts i).value), (A1, c1)) : RX)).map cW) := by rw [List.map_set]; exact HR42
      refine Ydn <| WE.exit <| WQ.thenE <| WQ.blkE <| Zn <| WE.region <| Zr 1 <| Zw 19 ((i : Int) + 1) ((i + 1 : Nat) : Int) <| Zr 1 <| Zd <| WQ.keep [0, 1, 4, 5, 6] (e' := [(0, Pt m 0), (1, J start), (4, .slice none 0 0), (5, .slice (some ⟨b32, 0, none⟩) q.length cX), (6, J ((i + 1 : Nat) : Int))]) (by kernel_rfl) ?_
      obtain ⟨FE43, hFE43⟩ : ∃ F_, F_ = FE ++ G1 := ⟨_, rfl⟩
      have HO_FE := (HO_FE.keep F39 dj0).keep F41 (djB nin_b32_FE)
      have HV1 := HV1.keep F41 (djB nin_b32_G1)
      have HE44 := EV.set (k := k) HO_FE HV1 hcq_
      rw [← hFE43] at HE44
      have nin_m_FE43 : m ∉ FE43 := by rw [hFE43]; exact fun h_ => (List.mem_append.1 h_).elim nin_m_FE nin_m_G1
      have nin_b32_FE43 : b32 ∉ FE43 := by rw [hFE43]; exact fun h_ => (List.mem_append.1 h_).elim nin_b32_FE nin_b32_G1
      have dj_FE43_FP : ∀ y ∈ FE43, y ∉ FP := by rw [hFE43]; exact fun y hy => (List.mem_append.1 hy).elim (dj_FE_FP y) (dj_G1_FP y)
      have ge_HA_FE43 : ∀ y ∈ FE43, (World.heap w).size ≤ y := by rw [hFE43]; exact fun y hy => (List.mem_append.1 hy).elim (ge_HA_FE y) (ge_HA_G1 y)
      obtain ⟨F45, hF45⟩ : ∃ F_, F_ = [b32] := ⟨_, rfl⟩
      have HO46 : OwnX 54 8 w40 F45 (.slice (some ⟨b32, 0, none⟩) q.length cX) ((q.set k (((addR (gX q k).1 (gP pts i).value), (A1, c1)) : RX)).map cW) := by rw [hF45]; exact OwnX.row HR42 ((List.length_map _).trans ((show (q.set k (((addR (gX q k).1 (gP pts i).value), (A1, c1)) : RX)).length = q.length from List.length_set).trans ((rfl : List.length q = _))))
      have nin_m_F45 := sgN hF45 ne_m_b32
      have dj_F45_FP := sgD hF45 nin_b32_FP
      have dj_F45_FE43 := sgD hF45 nin_b32_FE43
      have ge_HA_F45 := sgG hF45 ge_HA_b32
      have hnq47 : (q.set k (((addR (gX q k).1 (gP pts i).value), (A1, c1)) : RX)).length = q.length := by simp only [List.length_set, List.length_append, List.length_cons, List.length_nil, List.length_take, List.length_drop] <;> omega
      have HO48 : OwnX 54 8 w40 F45 (.slice (some ⟨b32, 0, none⟩) ((q.set k (((addR (gX q k).1 (gP pts i).value), (A1, c1)) : RX)).length) cX) (List.map cW (q.set k (((addR (gX q k).1 (gP pts i).value), (A1, c1)) : RX))) := by rw [hnq47]; exact HO46
      refine WQ.env (e' := [(0, Pt m 0), (1, J start), (4, .slice none 0 0), (5, .slice (some ⟨b32, 0, none⟩) ((q.set k (((addR (gX q k).1 (gP pts i).value), (A1, c1)) : RX)).length) cX), (6, J ((i + 1 : Nat) : Int))]) (by rw [hnq47]) <| WQ.round ?_
      intro a_ ha_
      refine ⟨(i + 1, F45, (some ⟨b32, 0, none⟩), cX, (q.set k (((addR (gX q k).1 (gP pts i).value), (A1, c1)) : RX)), FE43), ?_, ha_.keep [0, 1, 4, 5, 6] (by kernel_rfl), ?_⟩
      ·
       show pts.length - (i + 1) < pts.length - i; omega
      ·
       exact ⟨by omega, by rw [rows_take_yes (by omega) (by omega), ← hq, rws_set]; exact (insR_oldX (by omega) hlt (str_inj.1 h21) (by omega)).symm, by rw [List.length_set]; omega, in_set hin ⟨hi1, hi2, hi3⟩ (hpv _ (gP_mem (by omega))), ((HB.k F39).j F41 ne_m_b32), ((HP.keep F39 dj0).keep F41 (djB nin_b32_FP)), HO48, nin_m_F45, dj_F45_FP, ge_HA_F45, HE44, nin_m_FE43, dj_FE43_FP, (dj_symm dj_F45_FE43), ge_HA_FE43, ((HA.step0 F39).step F41 (inSR ge_HA_b32 inS0))⟩
     intro h31
     refine Yq 17 2 <| Ydn <| Zq <| Zsg <| Zr 1 <| Zdn <| ZF <| Zk <| Zsg <| Zb 100 #[] 54 (fun g => .slice (some ⟨g, 0, none⟩) 0 0) ?_
     intro g49 w50 HB52 F51 le53 _
     have ne_m_g49 := ltn HB.lt le53
     have ne_g4_g49 := ltn HB11.lt le53
     have nin_g49_FP := new_nin HP.lt le53
     have nin_g49_FE := new_nin HO_FE.lt le53
     have nin_g49_FX := new_nin HVo.lt le53
     have ge_HA_g49 := Nat.le_trans HA.size le53
     refine Zr 2 <| Zv 103 0 k AX q.length cX 8 none (some (k : Int)) <| WO.top (sl0 _ _ _ _) ?_
     have HR59 := RowB.of_blk (n := 0) HB52 (List.map cW []) rfl rfl (cW_len _) (cW_one _) (by omega)
     have HVo := HVo.keep F51 dj0
     refine Zar (n := 0) (m := k) (ys := List.map cW (q.take k)) 104 et_w HR59 ((List.length_map _).trans ((rfl : List.length ([] : List RX) = 0))) ((HVo.take k).srcN (show (q.take k).length = k by rw [List.length_take]; have := (rfl : List.length q = _); omega) (cW_len _) (cW_one _) cX) (cW_len _) (cW_one _) ?_
     intro b54 cap55 w56 HR57 F58 hb60
     have HB := HB.k F51
     have ne_m_b54 : m ≠ b54 := hb60.elim (fun h => h ▸ ne_m_g49) (fun h => Nat.ne_of_lt (Nat.lt_of_lt_of_le HB.lt h))
     have HP := HP.keep F51 dj0
     have nin_b54_FP : b54 ∉ FP := hb60.elim (fun h => h ▸ nin_g49_FP) (fun h => new_nin HP.lt h)
     have HO_FE := HO_FE.keep F51 dj0
     have nin_b54_FE : b54 ∉ FE := hb60.elim (fun h => h ▸ nin_g49_FE) (fun h => new_nin HO_FE.lt h)
     have nin_b54_FX : b54 ∉ FX := hb60.elim (fun h => h ▸ nin_g49_FX) (fun h => new_nin HVo.lt h)
     have HA := HA.step0 F51
     have in_HA_b54 : b54 ∈ [] ∨ (World.heap w).size ≤ b54 := hb60.elim (fun h => Or.inr (h ▸ ge_HA_g49)) (fun h => Or.inr (Nat.le_trans HA.size h))
     have HR57 : RowB w56 b54 54 8 cap55 ((([] : List RX) ++ (q.take k)).map cW) := by rw [List.map_append]; exact HR57
     have HB11 := (HB11.k F51).j F58 ne_g4_g49
     refine Zr 1 <| Zdn <| Zsg <| Zr 2 <| Zl 107 (.string (str (gP pts i).key)) (HB11.s 1) <| Zr 1 <| Zl 109 (J ((gP pts i).kind)) (HB11.s 2) <| Zr 2 <| Zl 112 (J ((gP pts i).value)) (HB11.s 3) <| Zc 113 (com_new (gP pts i).key (gP pts i).kind (gP pts i).value _ (hpv _ (gP_mem (by omega)))) ?_
     rintro _ w61 ⟨A1, c1, G1, rfl, HO1, hg1, F62⟩
     refine ⟨_, rfl, trivial, ?_⟩
     have hcq_ := own_cap HO1 (List.length_map _)
     have HV1 := VX.of_own HO1
     have hg1r := fun y hy => Or.inr (a := y ∈ ([] : List Nat)) (hg1 y hy)
     have HB := HB.j F58 ne_m_g49
     have nin_m_G1 := grow_nin hg1r (nin0 _) HB.lt
     have nin_b54_G1 := grow_nin hg1r (nin0 _) HR57.lt
     have HP := HP.keep F58 (djB nin_g49_FP)
     have dj_G1_FP := grow_dj hg1r (by simp) HP.lt
     have HA := HA.step F58 (inSR ge_HA_g49 inS0)
     have ge_HA_G1 := grow_ge hg1r (by simp) HA.size
     refine Zb 114 #[.string (str (begR (gP pts i).key (gP pts i).kind (gP pts i).value).key), J ((begR (gP pts i).key (gP pts i).kind (gP pts i).value).kind), .int .u64 ((begR (gP pts i).key (gP pts i).kind (gP pts i).value).many : Int), J ((begR (gP pts i).key (gP pts i).kind (gP pts i).value).sum), J ((begR (gP pts i).key (gP pts i).kind (gP pts i).value).least), J ((begR (gP pts i).key (gP pts i).kind (gP pts i).value).most), .bool ((begR (gP pts i).key (gP pts i).kind (gP pts i).value).over), .slice A1 ((begR (gP pts i).key (gP pts i).kind (gP pts i).value).bk.length) c1] 54 (fun g => .slice (some ⟨g, 0, none⟩) 1 1) ?_
     intro g63 w64 HB66 F65 le67 _
     refine Zar (n := (0 + k)) (m := 1) (ys := List.map cW ([(((begR (gP pts i).key (gP pts i).kind (gP pts i).value), (A1, c1)) : RX)])) 115 et_w ((HR57.k F62).k F65) ((List.length_map _).trans ((show (([] : List RX) ++ (q.take k)).length = 0 + k by rw [List.length_append, (rfl : List.length ([] : List RX) = 0)] <;> first | rfl | (have := (rfl : List.length ([] : List RX) = 0); simp <;> omega)))) (RowB.src (RowB.of_blk (n := 1) HB66 (List.map cW [(((begR (gP pts i).key (gP pts i).kind (gP pts i).value), (A1, c1)) : RX)]) rfl rfl (cW_len _) (cW_one _) (by omega))) (cW_len _) (cW_one _) ?_
     intro b68 cap69 w70 HR71 F72 hb73
     have HB := (HB.k F62).k F65
     have ne_m_b68 : m ≠ b68 := hb73.elim (fun h => h ▸ ne_m_b54) (fun h => Nat.ne_of_lt (Nat.lt_of_lt_of_le HB.lt h))
     have HP := (HP.keep F62 dj0).keep F65 dj0
     have nin_b68_FP : b68 ∉ FP := hb73.elim (fun h => h ▸ nin_b54_FP) (fun h => new_nin HP.lt h)
     have HO_FE := ((HO_FE.keep F58 (djB nin_g49_FE)).keep F62 dj0).keep F65 dj0
     have nin_b68_FE : b68 ∉ FE := hb73.elim (fun h => h ▸ nin_b54_FE) (fun h => new_nin HO_FE.lt h)
     have HV1 := HV1.keep F65 dj0
     have nin_b68_G1 : b68 ∉ G1 := hb73.elim (fun h => h ▸ nin_b54_G1) (fun h => new_nin HV1.lt h)
     have HA := (HA.step0 F62).step0 F65
     have in_HA_b68 : b68 ∈ [] ∨ (World.heap w).size ≤ b68 := hb73.elim (fun h => (h ▸ in_HA_b54)) (fun h => Or.inr (Nat.le_trans HA.size h))
     have HR71 : RowB w70 b68 54 8 cap69 (((([] : List RX) ++ (q.take k)) ++ [(((begR (gP pts i).key (gP pts i).kind (gP pts i).value), (A1, c1)) : RX)]).map cW) := by rw [List.map_append]; exact HR71
     refine Zr 1 <| Zdn <| WE.region <| Zr 3 <| Zv 119 k q.length AX q.length cX 8 (some (k : Int)) none <| Zar (n := (0 + k + 1)) (m := (q.length - k)) (ys := List.map cW ((q.drop k).take (q.length - k))) 120 et_w HR71 ((List.length_map _).trans ((show ((([] : List RX) ++ (q.take k)) ++ [(((begR (gP pts i).key (gP pts i).kind (gP pts i).value), (A1, c1)) : RX)]).length = 0 + k + 1 by rw [List.length_append, (show (([] : List RX) ++ (q.take k)).length = 0 + k by rw [List.length_append, (rfl : List.length ([] : List RX) = 0)] <;> first | rfl | (have := (rfl : List.length ([] : List RX) = 0); simp <;> omega))] <;> first | rfl | (have := (show (([] : List RX) ++ (q.take k)).length = 0 + k by rw [List.length_append, (rfl : List.length ([] : List RX) = 0)] <;> first | rfl | (have := (rfl : List.length ([] : List RX) = 0); simp <;> omega)); simp <;> omega)))) (((((((HVo.keep F58 (djB nin_g49_FX)).keep F62 dj0).keep F65 dj0).keep F72 (djB nin_b54_FX)).drop k cX (by have := (rfl : List.length q = _); omega) (by have := (rfl : List.length q = _); omega)).take (q.length - k)).srcN (show ((q.drop k).take (q.length - k)).length = q.length - k by rw [List.length_take, List.length_drop]; have := (rfl : List.length q = _); omega) (cW_len _) (cW_one _) (cX - k)) (cW_len _) (cW_one _) ?_
     intro b74 cap75 w76 HR77 F78 hb79
     have HB := HB.j F72 ne_m_b54
     have ne_m_b74 : m ≠ b74 := hb79.elim (fun h => h ▸ ne_m_b68) (fun h => Nat.ne_of_lt (Nat.lt_of_lt_of_le HB.lt h))
     have HP := HP.keep F72 (djB nin_b54_FP)
     have nin_b74_FP : b74 ∉ FP := hb79.elim (fun h => h ▸ nin_b68_FP) (fun h => new_nin HP.lt h)
     have HO_FE := HO_FE.keep F72 (djB nin_b54_FE)
     have nin_b74_FE : b74 ∉ FE := hb79.elim (fun h => h ▸ nin_b68_FE) (fun h => new_nin HO_FE.lt h)
     have HV1 := HV1.keep F72 (djB nin_b54_G1)
     have nin_b74_G1 : b74 ∉ G1 := hb79.elim (fun h => h ▸ nin_b68_G1) (fun h => new_nin HV1.lt h)
     have HA := HA.step F72 (inSD in_HA_b54 inS0)
     have in_HA_b74 : b74 ∈ [] ∨ (World.heap w).size ≤ b74 := hb79.elim (fun h => (h ▸ in_HA_b68)) (fun h => Or.inr (Nat.le_trans HA.size h))
     have HR77 : RowB w76 b74 54 8 cap75 ((((([] : List RX) ++ (q.take k)) ++ [(((begR (gP pts i).key (gP pts i).kind (gP pts i).value), (A1, c1)) : RX)]) ++ ((q.drop k).take (q.length - k))).map cW) := by rw [List.map_append]; exact HR77
     refine Zr 1 <| Zd <| WQ.blkN <| Zn <| WE.region <| Zr 1 <| Zw 19 ((i : Int) + 1) ((i + 1 : Nat) : Int) <| Zr 1 <| Zd <| WQ.keep [0, 1, 4, 5, 6] (e' := [(0, Pt m 0), (1, J start), (4, .slice none 0 0), (5, .slice (some ⟨b74, 0, none⟩) (0 + k + 1 + (q.length - k)) cap75), (6, J ((i + 1 : Nat) : Int))]) (by kernel_rfl) ?_
     obtain ⟨FE80, hFE80⟩ : ∃ F_, F_ = FE ++ G1 := ⟨_, rfl⟩
     have HO_FE := HO_FE.keep F78 (djB nin_b68_FE)
     have HV1 := HV1.keep F78 (djB nin_b68_G1)
     have HE81 := EV.ins (k := k) (n := q.length - k) HO_FE HV1 hcq_
     rw [← hFE80] at HE81
     have nin_m_FE80 : m ∉ FE80 := by rw [hFE80]; exact fun h_ => (List.mem_append.1 h_).elim nin_m_FE nin_m_G1
     have nin_b74_FE80 : b74 ∉ FE80 := by rw [hFE80]; exact fun h_ => (List.mem_append.1 h_).elim nin_b74_FE nin_b74_G1
     have dj_FE80_FP : ∀ y ∈ FE80, y ∉ FP := by rw [hFE80]; exact fun y hy => (List.mem_append.1 hy).elim (dj_FE_FP y) (dj_G1_FP y)
     have ge_HA_FE80 : ∀ y ∈ FE80, (World.heap w).size ≤ y := by rw [hFE80]; exact fun y hy => (List.mem_append.1 hy).elim (ge_HA_FE y) (ge_HA_G1 y)
     obtain ⟨F82, hF82⟩ : ∃ F_, F_ = [b74] := ⟨_, rfl⟩
     have HO83 : OwnX 54 8 w76 F82 (.slice (some ⟨b74, 0, none⟩) (0 + k + 1 + (q.length - k)) cap75) ((((([] : List RX) ++ (q.take k)) ++ [(((begR (gP pts i).key (gP pts i).kind (gP pts i).value), (A1, c1)) : RX)]) ++ ((q.drop k).take (q.length - k))).map cW) := by rw [hF82]; exact OwnX.row HR77 ((List.length_map _).trans ((show (((([] : List RX) ++ (q.take k)) ++ [(((begR (gP pts i).key (gP pts i).kind (gP pts i).value), (A1, c1)) : RX)]) ++ ((q.drop k).take (q.length - k))).length = 0 + k + 1 + (q.length - k) by rw [List.length_append, (show ((([] : List RX) ++ (q.take k)) ++ [(((begR (gP pts i).key (gP pts i).kind (gP pts i).value), (A1, c1)) : RX)]).length = 0 + k + 1 by rw [List.length_append, (show (([] : List RX) ++ (q.take k)).length = 0 + k by rw [List.length_append, (rfl : List.length ([] : List RX) = 0)] <;> first | rfl | (have := (rfl : List.length ([] : List RX) = 0); simp <;> omega))] <;> first | rfl | (have := (show (([] : List RX) ++ (q.take k)).length = 0 + k by rw [List.length_append, (rfl : List.length ([] : List RX) = 0)] <;> first | rfl | (have := (rfl : List.length ([] : List RX) = 0); simp <;> omega)); simp <;> omega))] <;> first | rfl | (have := (show ((([] : List RX) ++ (q.take k)) ++ [(((begR (gP pts i).key (gP pts i).kind (gP pts i).value), (A1, c1)) : RX)]).length = 0 + k + 1 by rw [List.length_append, (show (([] : List RX) ++ (q.take k)).length = 0 + k by rw [List.length_append, (rfl : List.length ([] : List RX) = 0)] <;> first | rfl | (have := (rfl : List.length ([] : List RX) = 0); simp <;> omega))] <;> first | rfl | (have := (show (([] : List RX) ++ (q.take k)).length = 0 + k by rw [List.length_append, (rfl : List.length ([] : List RX) = 0)] <;> first | rfl | (have := (rfl : List.length ([] : List RX) = 0); simp <;> omega)); simp <;> omega)); simp <;> omega))))
     have nin_m_F82 := sgN hF82 ne_m_b74
     have dj_F82_FP := sgD hF82 nin_b74_FP
     have dj_F82_FE80 := sgD hF82 nin_b74_FE80
     have ge_HA_F82 := sgG hF82 (in_HA_b74.resolve_left (by simp))
     have hnq84 : (((([] : List RX) ++ (q.take k)) ++ [(((begR (gP pts i).key (gP pts i).kind (gP pts i).value), (A1, c1)) : RX)]) ++ ((q.drop k).take (q.length - k))).length = 0 + k + 1 + (q.length - k) := by simp only [List.length_set, List.length_append, List.length_cons, List.length_nil, List.length_take, List.length_drop] <;> omega
     have HO85 : OwnX 54 8 w76 F82 (.slice (some ⟨b74, 0, none⟩) ((((([] : List RX) ++ (q.take k)) ++ [(((begR (gP pts i).key (gP pts i).kind (gP pts i).value), (A1, c1)) : RX)]) ++ ((q.drop k).take (q.length - k))).length) cap75) (List.map cW (((([] : List RX) ++ (q.take k)) ++ [(((begR (gP pts i).key (gP pts i).kind (gP pts i).value), (A1, c1)) : RX)]) ++ ((q.drop k).take (q.length - k)))) := by rw [hnq84]; exact HO83
     refine WQ.env (e' := [(0, Pt m 0), (1, J start), (4, .slice none 0 0), (5, .slice (some ⟨b74, 0, none⟩) ((((([] : List RX) ++ (q.take k)) ++ [(((begR (gP pts i).key (gP pts i).kind (gP pts i).value), (A1, c1)) : RX)]) ++ ((q.drop k).take (q.length - k))).length) cap75), (6, J ((i + 1 : Nat) : Int))]) (by rw [hnq84]) <| WQ.round ?_
     intro a_ ha_
     refine ⟨(i + 1, F82, (some ⟨b74, 0, none⟩), cap75, (((([] : List RX) ++ (q.take k)) ++ [(((begR (gP pts i).key (gP pts i).kind (gP pts i).value), (A1, c1)) : RX)]) ++ ((q.drop k).take (q.length - k))), FE80), ?_, ha_.keep [0, 1, 4, 5, 6] (by kernel_rfl), ?_⟩
     ·
      show pts.length - (i + 1) < pts.length - i; omega
     ·
      exact ⟨by omega, by rw [rows_take_yes (by omega) (by omega), ← hq, rws_ins]; exact (insR_newX hk hlt (fun _ => ⟨ltP_4 h18 (by omega), fun e_ => absurd e_.2 (by omega)⟩)).symm, by simp only [List.nil_append, List.length_append, List.length_take, List.length_drop, List.length_cons, List.length_nil]; omega, in_ins hin (hpv _ (gP_mem (by omega))), (HB.j F78 ne_m_b68), (HP.keep F78 (djB nin_b68_FP)), HO85, nin_m_F82, dj_F82_FP, ge_HA_F82, HE81, nin_m_FE80, dj_FE80_FP, (dj_symm dj_F82_FE80), ge_HA_FE80, (HA.step F78 (inSD in_HA_b68 inS0))⟩
    intro h21
    refine Yq 22 12 <| Ydn <| ZF <| WE.exit <| WQ.thenE <| WQ.thenE <| WQ.blkE <| Zn <| Zsg <| Zr 1 <| Zdn <| Zq <| Zsg <| Zr 3 <| ZoPT 70 (((k : Int) : Int) < (q.length : Int)) (by omega) <| Zdn <| ZT <| ZE [4, 6, 13, 15] [] [] 19 ?_
    intro w86 F87 _
    have HVo := HVo.keep F87 dj0
    refine Yq 0 2 ?_
    obtain ⟨ad88, hA89⟩ := HVo.addr (i := k) (by have := (rfl : List.length q = _); omega)
    have HB11 := HB11.k F87
    refine Yio 2 73 q.length 8 k (k : Int) hA89 <| Yq 3 1 <| Yl 4 75 (.string (str (gX q k).1.key)) (same (HVo.at0 hA89 (gX_some q k (by have := (rfl : List.length q = _); omega)) (by kernel_rfl))) <| Yq 5 1 <| Yl 6 77 (.string (str (gP pts i).key)) (HB11.s 1) <| Yr0 [7] [(78, .bool ((str (gX q k).1.key).toList == (str (gP pts i).key).toList))] <| WO.top (v' := .bool (decide ((str (gX q k).1.key) = (str (gP pts i).key)))) (congrArg Value.bool (streq (str (gX q k).1.key) (str (gP pts i).key))) <| WO.topPF ((str (gX q k).1.key) = (str (gP pts i).key)) (by exact h21) <| Yq 8 11 <| Ydn <| Zq <| Zsg <| Zr 1 <| Zdn <| ZF <| Zk <| Zsg <| Zb 100 #[] 54 (fun g => .slice (some ⟨g, 0, none⟩) 0 0) ?_
    intro g90 w91 HB93 F92 le94 _
    have HB := (HB.k F14).k F87
    have ne_m_g90 := ltn HB.lt le94
    have ne_g4_g90 := ltn HB11.lt le94
    have HP := (HP.keep F14 dj0).keep F87 dj0
    have nin_g90_FP := new_nin HP.lt le94
    have HO_FE := (HO_FE.keep F14 dj0).keep F87 dj0
    have nin_g90_FE := new_nin HO_FE.lt le94
    have nin_g90_FX := new_nin HVo.lt le94
    have HA := (HA.step0 F14).step0 F87
    have ge_HA_g90 := Nat.le_trans HA.size le94
    refine Zr 2 <| Zv 103 0 k AX q.length cX 8 none (some (k : Int)) <| WO.top (sl0 _ _ _ _) ?_
    have HR100 := RowB.of_blk (n := 0) HB93 (List.map cW []) rfl rfl (cW_len _) (cW_one _) (by omega)
    have HVo := HVo.keep F92 dj0
    refine Zar (n := 0) (m := k) (ys := List.map cW (q.take k)) 104 et_w HR100 ((List.length_map _).trans ((rfl : List.length ([] : List RX) = 0))) ((HVo.take k).srcN (show (q.take k).length = k by rw [List.length_take]; have := (rfl : List.length q = _); omega) (cW_len _) (cW_one _) cX) (cW_len _) (cW_one _) ?_
    intro b95 cap96 w97 HR98 F99 hb101
    have HB := HB.k F92
    have ne_m_b95 : m ≠ b95 := hb101.elim (fun h => h ▸ ne_m_g90) (fun h => Nat.ne_of_lt (Nat.lt_of_lt_of_le HB.lt h))
    have HP := HP.keep F92 dj0
    have nin_b95_FP : b95 ∉ FP := hb101.elim (fun h => h ▸ nin_g90_FP) (fun h => new_nin HP.lt h)
    have HO_FE := HO_FE.keep F92 dj0
    have nin_b95_FE : b95 ∉ FE := hb101.elim (fun h => h ▸ nin_g90_FE) (fun h => new_nin HO_FE.lt h)
    have nin_b95_FX : b95 ∉ FX := hb101.elim (fun h => h ▸ nin_g90_FX) (fun h => new_nin HVo.lt h)
    have HA := HA.step0 F92
    have in_HA_b95 : b95 ∈ [] ∨ (World.heap w).size ≤ b95 := hb101.elim (fun h => Or.inr (h ▸ ge_HA_g90)) (fun h => Or.inr (Nat.le_trans HA.size h))
    have HR98 : RowB w97 b95 54 8 cap96 ((([] : List RX) ++ (q.take k)).map cW) := by rw [List.map_append]; exact HR98
    have HB11 := (HB11.k F92).j F99 ne_g4_g90
    refine Zr 1 <| Zdn <| Zsg <| Zr 2 <| Zl 107 (.string (str (gP pts i).key)) (HB11.s 1) <| Zr 1 <| Zl 109 (J ((gP pts i).kind)) (HB11.s 2) <| Zr 2 <| Zl 112 (J ((gP pts i).value)) (HB11.s 3) <| Zc 113 (com_new (gP pts i).key (gP pts i).kind (gP pts i).value _ (hpv _ (gP_mem (by omega)))) ?_
    rintro _ w102 ⟨A1, c1, G1, rfl, HO1, hg1, F103⟩
    refine ⟨_, rfl, trivial, ?_⟩
    have hcq_ := own_cap HO1 (List.length_map _)
    have HV1 := VX.of_own HO1
    have hg1r := fun y hy => Or.inr (a := y ∈ ([] : List Nat)) (hg1 y hy)
    have HB := HB.j F99 ne_m_g90
    have nin_m_G1 := grow_nin hg1r (nin0 _) HB.lt
    have nin_b95_G1 := grow_nin hg1r (nin0 _) HR98.lt
    have HP := HP.keep F99 (djB nin_g90_FP)
    have dj_G1_FP := grow_dj hg1r (by simp) HP.lt
    have HA := HA.step F99 (inSR ge_HA_g90 inS0)
    have ge_HA_G1 := grow_ge hg1r (by simp) HA.size
    refine Zb 114 #[.string (str (begR (gP pts i).key (gP pts i).kind (gP pts i).value).key), J ((begR (gP pts i).key (gP pts i).kind (gP pts i).value).kind), .int .u64 ((begR (gP pts i).key (gP pts i).kind (gP pts i).value).many : Int), J ((begR (gP pts i).key (gP pts i).kind (gP pts i).value).sum), J ((begR (gP pts i).key (gP pts i).kind (gP pts i).value).least), J ((begR (gP pts i).key (gP pts i).kind (gP pts i).value).most), .bool ((begR (gP pts i).key (gP pts i).kind (gP pts i).value).over), .slice A1 ((begR (gP pts i).key (gP pts i).kind (gP pts i).value).bk.length) c1] 54 (fun g => .slice (some ⟨g, 0, none⟩) 1 1) ?_
    intro g104 w105 HB107 F106 le108 _
    refine Zar (n := (0 + k)) (m := 1) (ys := List.map cW ([(((begR (gP pts i).key (gP pts i).kind (gP pts i).value), (A1, c1)) : RX)])) 115 et_w ((HR98.k F103).k F106) ((List.length_map _).trans ((show (([] : List RX) ++ (q.take k)).length = 0 + k by rw [List.length_append, (rfl : List.length ([] : List RX) = 0)] <;> first | rfl | (have := (rfl : List.length ([] : List RX) = 0); simp <;> omega)))) (RowB.src (RowB.of_blk (n := 1) HB107 (List.map cW [(((begR (gP pts i).key (gP pts i).kind (gP pts i).value), (A1, c1)) : RX)]) rfl rfl (cW_len _) (cW_one _) (by omega))) (cW_len _) (cW_one _) ?_
    intro b109 cap110 w111 HR112 F113 hb114
    have HB := (HB.k F103).k F106
    have ne_m_b109 : m ≠ b109 := hb114.elim (fun h => h ▸ ne_m_b95) (fun h => Nat.ne_of_lt (Nat.lt_of_lt_of_le HB.lt h))
    have HP := (HP.keep F103 dj0).keep F106 dj0
    have nin_b109_FP : b109 ∉ FP := hb114.elim (fun h => h ▸ nin_b95_FP) (fun h => new_nin HP.lt h)
    have HO_FE := ((HO_FE.keep F99 (djB nin_g90_FE)).keep F103 dj0).keep F106 dj0
    have nin_b109_FE : b109 ∉ FE := hb114.elim (fun h => h ▸ nin_b95_FE) (fun h => new_nin HO_FE.lt h)
    have HV1 := HV1.keep F106 dj0
    have nin_b109_G1 : b109 ∉ G1 := hb114.elim (fun h => h ▸ nin_b95_G1) (fun h => new_nin HV1.lt h)
    have HA := (HA.step0 F103).step0 F106
    have in_HA_b109 : b109 ∈ [] ∨ (World.heap w).size ≤ b109 := hb114.elim (fun h => (h ▸ in_HA_b95)) (fun h => Or.inr (Nat.le_trans HA.size h))
    have HR112 : RowB w111 b109 54 8 cap110 (((([] : List RX) ++ (q.take k)) ++ [(((begR (gP pts i).key (gP pts i).kind (gP pts i).value), (A1, c1)) : RX)]).map cW) := by rw [List.map_append]; exact HR112
    refine Zr 1 <| Zdn <| WE.region <| Zr 3 <| Zv 119 k q.length AX q.length cX 8 (some (k : Int)) none <| Zar (n := (0 + k + 1)) (m := (q.length - k)) (ys := List.map cW ((q.drop k).take (q.length - k))) 120 et_w HR112 ((List.length_map _).trans ((show ((([] : List RX) ++ (q.take k)) ++ [(((begR (gP pts i).key (gP pts i).kind (gP pts i).value), (A1, c1)) : RX)]).length = 0 + k + 1 by rw [List.length_append, (show (([] : List RX) ++ (q.take k)).length = 0 + k by rw [List.length_append, (rfl : List.length ([] : List RX) = 0)] <;> first | rfl | (have := (rfl : List.length ([] : List RX) = 0); simp <;> omega))] <;> first | rfl | (have := (show (([] : List RX) ++ (q.take k)).length = 0 + k by rw [List.length_append, (rfl : List.length ([] : List RX) = 0)] <;> first | rfl | (have := (rfl : List.length ([] : List RX) = 0); simp <;> omega)); simp <;> omega)))) (((((((HVo.keep F99 (djB nin_g90_FX)).keep F103 dj0).keep F106 dj0).keep F113 (djB nin_b95_FX)).drop k cX (by have := (rfl : List.length q = _); omega) (by have := (rfl : List.length q = _); omega)).take (q.length - k)).srcN (show ((q.drop k).take (q.length - k)).length = q.length - k by rw [List.length_take, List.length_drop]; have := (rfl : List.length q = _); omega) (cW_len _) (cW_one _) (cX - k)) (cW_len _) (cW_one _) ?_
    intro b115 cap116 w117 HR118 F119 hb120
    have HB := HB.j F113 ne_m_b95
    have ne_m_b115 : m ≠ b115 := hb120.elim (fun h => h ▸ ne_m_b109) (fun h => Nat.ne_of_lt (Nat.lt_of_lt_of_le HB.lt h))
    have HP := HP.keep F113 (djB nin_b95_FP)
    have nin_b115_FP : b115 ∉ FP := hb120.elim (fun h => h ▸ nin_b109_FP) (fun h => new_nin HP.lt h)
    have HO_FE := HO_FE.keep F113 (djB nin_b95_FE)
    have nin_b115_FE : b115 ∉ FE := hb120.elim (fun h => h ▸ nin_b109_FE) (fun h => new_nin HO_FE.lt h)
    have HV1 := HV1.keep F113 (djB nin_b95_G1)
    have nin_b115_G1 : b115 ∉ G1 := hb120.elim (fun h => h ▸ nin_b109_G1) (fun h => new_nin HV1.lt h)
    have HA := HA.step F113 (inSD in_HA_b95 inS0)
    have in_HA_b115 : b115 ∈ [] ∨ (World.heap w).size ≤ b115 := hb120.elim (fun h => (h ▸ in_HA_b109)) (fun h => Or.inr (Nat.le_trans HA.size h))
    have HR118 : RowB w117 b115 54 8 cap116 ((((([] : List RX) ++ (q.take k)) ++ [(((begR (gP pts i).key (gP pts i).kind (gP pts i).value), (A1, c1)) : RX)]) ++ ((q.drop k).take (q.length - k))).map cW) := by rw [List.map_append]; exact HR118
    refine Zr 1 <| Zd <| WQ.blkN <| Zn <| WE.region <| Zr 1 <| Zw 19 ((i : Int) + 1) ((i + 1 : Nat) : Int) <| Zr 1 <| Zd <| WQ.keep [0, 1, 4, 5, 6] (e' := [(0, Pt m 0), (1, J start), (4, .slice none 0 0), (5, .slice (some ⟨b115, 0, none⟩) (0 + k + 1 + (q.length - k)) cap116), (6, J ((i + 1 : Nat) : Int))]) (by kernel_rfl) ?_
    obtain ⟨FE121, hFE121⟩ : ∃ F_, F_ = FE ++ G1 := ⟨_, rfl⟩
    have HO_FE := HO_FE.keep F119 (djB nin_b109_FE)
    have HV1 := HV1.keep F119 (djB nin_b109_G1)
    have HE122 := EV.ins (k := k) (n := q.length - k) HO_FE HV1 hcq_
    rw [← hFE121] at HE122
    have nin_m_FE121 : m ∉ FE121 := by rw [hFE121]; exact fun h_ => (List.mem_append.1 h_).elim nin_m_FE nin_m_G1
    have nin_b115_FE121 : b115 ∉ FE121 := by rw [hFE121]; exact fun h_ => (List.mem_append.1 h_).elim nin_b115_FE nin_b115_G1
    have dj_FE121_FP : ∀ y ∈ FE121, y ∉ FP := by rw [hFE121]; exact fun y hy => (List.mem_append.1 hy).elim (dj_FE_FP y) (dj_G1_FP y)
    have ge_HA_FE121 : ∀ y ∈ FE121, (World.heap w).size ≤ y := by rw [hFE121]; exact fun y hy => (List.mem_append.1 hy).elim (ge_HA_FE y) (ge_HA_G1 y)
    obtain ⟨F123, hF123⟩ : ∃ F_, F_ = [b115] := ⟨_, rfl⟩
    have HO124 : OwnX 54 8 w117 F123 (.slice (some ⟨b115, 0, none⟩) (0 + k + 1 + (q.length - k)) cap116) ((((([] : List RX) ++ (q.take k)) ++ [(((begR (gP pts i).key (gP pts i).kind (gP pts i).value), (A1, c1)) : RX)]) ++ ((q.drop k).take (q.length - k))).map cW) := by rw [hF123]; exact OwnX.row HR118 ((List.length_map _).trans ((show (((([] : List RX) ++ (q.take k)) ++ [(((begR (gP pts i).key (gP pts i).kind (gP pts i).value), (A1, c1)) : RX)]) ++ ((q.drop k).take (q.length - k))).length = 0 + k + 1 + (q.length - k) by rw [List.length_append, (show ((([] : List RX) ++ (q.take k)) ++ [(((begR (gP pts i).key (gP pts i).kind (gP pts i).value), (A1, c1)) : RX)]).length = 0 + k + 1 by rw [List.length_append, (show (([] : List RX) ++ (q.take k)).length = 0 + k by rw [List.length_append, (rfl : List.length ([] : List RX) = 0)] <;> first | rfl | (have := (rfl : List.length ([] : List RX) = 0); simp <;> omega))] <;> first | rfl | (have := (show (([] : List RX) ++ (q.take k)).length = 0 + k by rw [List.length_append, (rfl : List.length ([] : List RX) = 0)] <;> first | rfl | (have := (rfl : List.length ([] : List RX) = 0); simp <;> omega)); simp <;> omega))] <;> first | rfl | (have := (show ((([] : List RX) ++ (q.take k)) ++ [(((begR (gP pts i).key (gP pts i).kind (gP pts i).value), (A1, c1)) : RX)]).length = 0 + k + 1 by rw [List.length_append, (show (([] : List RX) ++ (q.take k)).length = 0 + k by rw [List.length_append, (rfl : List.length ([] : List RX) = 0)] <;> first | rfl | (have := (rfl : List.length ([] : List RX) = 0); simp <;> omega))] <;> first | rfl | (have := (show (([] : List RX) ++ (q.take k)).length = 0 + k by rw [List.length_append, (rfl : List.length ([] : List RX) = 0)] <;> first | rfl | (have := (rfl : List.length ([] : List RX) = 0); simp <;> omega)); simp <;> omega)); simp <;> omega))))
    have nin_m_F123 := sgN hF123 ne_m_b115
    have dj_F123_FP := sgD hF123 nin_b115_FP
    have dj_F123_FE121 := sgD hF123 nin_b115_FE121
    have ge_HA_F123 := sgG hF123 (in_HA_b115.resolve_left (by simp))
    have hnq125 : (((([] : List RX) ++ (q.take k)) ++ [(((begR (gP pts i).key (gP pts i).kind (gP pts i).value), (A1, c1)) : RX)]) ++ ((q.drop k).take (q.length - k))).length = 0 + k + 1 + (q.length - k) := by simp only [List.length_set, List.length_append, List.length_cons, List.length_nil, List.length_take, List.length_drop] <;> omega
    have HO126 : OwnX 54 8 w117 F123 (.slice (some ⟨b115, 0, none⟩) ((((([] : List RX) ++ (q.take k)) ++ [(((begR (gP pts i).key (gP pts i).kind (gP pts i).value), (A1, c1)) : RX)]) ++ ((q.drop k).take (q.length - k))).length) cap116) (List.map cW (((([] : List RX) ++ (q.take k)) ++ [(((begR (gP pts i).key (gP pts i).kind (gP pts i).value), (A1, c1)) : RX)]) ++ ((q.drop k).take (q.length - k)))) := by rw [hnq125]; exact HO124
    refine WQ.env (e' := [(0, Pt m 0), (1, J start), (4, .slice none 0 0), (5, .slice (some ⟨b115, 0, none⟩) ((((([] : List RX) ++ (q.take k)) ++ [(((begR (gP pts i).key (gP pts i).kind (gP pts i).value), (A1, c1)) : RX)]) ++ ((q.drop k).take (q.length - k))).length) cap116), (6, J ((i + 1 : Nat) : Int))]) (by rw [hnq125]) <| WQ.round ?_
    intro a_ ha_
    refine ⟨(i + 1, F123, (some ⟨b115, 0, none⟩), cap116, (((([] : List RX) ++ (q.take k)) ++ [(((begR (gP pts i).key (gP pts i).kind (gP pts i).value), (A1, c1)) : RX)]) ++ ((q.drop k).take (q.length - k))), FE121), ?_, ha_.keep [0, 1, 4, 5, 6] (by kernel_rfl), ?_⟩
    ·
     show pts.length - (i + 1) < pts.length - i; omega
    ·
     exact ⟨by omega, by rw [rows_take_yes (by omega) (by omega), ← hq, rws_ins]; exact (insR_newX hk hlt (fun _ => ⟨ltP_3 h18 (fun e_ => absurd (congrArg str e_) h21), fun e_ => absurd (congrArg str e_.1) h21⟩)).symm, by simp only [List.nil_append, List.length_append, List.length_take, List.length_drop, List.length_cons, List.length_nil]; omega, in_ins hin (hpv _ (gP_mem (by omega))), (HB.j F119 ne_m_b109), (HP.keep F119 (djB nin_b109_FP)), HO126, nin_m_F123, dj_F123_FP, ge_HA_F123, HE122, nin_m_FE121, dj_FE121_FP, (dj_symm dj_F123_FE121), ge_HA_FE121, (HA.step F119 (inSD in_HA_b109 inS0))⟩
   intro h15
   refine Yq 4 30 <| Ydn <| ZF <| WE.exit <| WQ.thenE <| WQ.thenE <| WQ.blkE <| Zn <| Zsg <| Zr 1 <| Zdn <| Zq <| Zsg <| Zr 3 <| ZoPF 70 (((k : Int) : Int) < (q.length : Int)) (by omega) <| Zdn <| ZF <| Zk <| Zq <| Zsg <| Zr 1 <| Zdn <| ZF <| Zk <| Zsg <| Zb 100 #[] 54 (fun g => .slice (some ⟨g, 0, none⟩) 0 0) ?_
   intro g127 w128 HB130 F129 le131 _
   have HB := HB.k F14
   have ne_m_g127 := ltn HB.lt le131
   have HB11 := HB11.k F14
   have ne_g4_g127 := ltn HB11.lt le131
   have HP := HP.keep F14 dj0
   have nin_g127_FP := new_nin HP.lt le131
   have HO_FE := HO_FE.keep F14 dj0
   have nin_g127_FE := new_nin HO_FE.lt le131
   have HVo := HVo.keep F14 dj0
   have nin_g127_FX := new_nin HVo.lt le131
   have HA := HA.step0 F14
   have ge_HA_g127 := Nat.le_trans HA.size le131
   refine Zr 2 <| Zv 103 0 k AX q.length cX 8 none (some (k : Int)) <| WO.top (sl0 _ _ _ _) ?_
   have HR137 := RowB.of_blk (n := 0) HB130 (List.map cW []) rfl rfl (cW_len _) (cW_one _) (by omega)
   have HVo := HVo.keep F129 dj0
   refine Zar (n := 0) (m := k) (ys := List.map cW (q.take k)) 104 et_w HR137 ((List.length_map _).trans ((rfl : List.length ([] : List RX) = 0))) ((HVo.take k).srcN (show (q.take k).length = k by rw [List.length_take]; have := (rfl : List.length q = _); omega) (cW_len _) (cW_one _) cX) (cW_len _) (cW_one _) ?_
   intro b132 cap133 w134 HR135 F136 hb138
   have HB := HB.k F129
   have ne_m_b132 : m ≠ b132 := hb138.elim (fun h => h ▸ ne_m_g127) (fun h => Nat.ne_of_lt (Nat.lt_of_lt_of_le HB.lt h))
   have HP := HP.keep F129 dj0
   have nin_b132_FP : b132 ∉ FP := hb138.elim (fun h => h ▸ nin_g127_FP) (fun h => new_nin HP.lt h)
   have HO_FE := HO_FE.keep F129 dj0
   have nin_b132_FE : b132 ∉ FE := hb138.elim (fun h => h ▸ nin_g127_FE) (fun h => new_nin HO_FE.lt h)
   have nin_b132_FX : b132 ∉ FX := hb138.elim (fun h => h ▸ nin_g127_FX) (fun h => new_nin HVo.lt h)
   have HA := HA.step0 F129
   have in_HA_b132 : b132 ∈ [] ∨ (World.heap w).size ≤ b132 := hb138.elim (fun h => Or.inr (h ▸ ge_HA_g127)) (fun h => Or.inr (Nat.le_trans HA.size h))
   have HR135 : RowB w134 b132 54 8 cap133 ((([] : List RX) ++ (q.take k)).map cW) := by rw [List.map_append]; exact HR135
   have HB11 := (HB11.k F129).j F136 ne_g4_g127
   refine Zr 1 <| Zdn <| Zsg <| Zr 2 <| Zl 107 (.string (str (gP pts i).key)) (HB11.s 1) <| Zr 1 <| Zl 109 (J ((gP pts i).kind)) (HB11.s 2) <| Zr 2 <| Zl 112 (J ((gP pts i).value)) (HB11.s 3) <| Zc 113 (com_new (gP pts i).key (gP pts i).kind (gP pts i).value _ (hpv _ (gP_mem (by omega)))) ?_
   rintro _ w139 ⟨A1, c1, G1, rfl, HO1, hg1, F140⟩
   refine ⟨_, rfl, trivial, ?_⟩
   have hcq_ := own_cap HO1 (List.length_map _)
   have HV1 := VX.of_own HO1
   have hg1r := fun y hy => Or.inr (a := y ∈ ([] : List Nat)) (hg1 y hy)
   have HB := HB.j F136 ne_m_g127
   have nin_m_G1 := grow_nin hg1r (nin0 _) HB.lt
   have nin_b132_G1 := grow_nin hg1r (nin0 _) HR135.lt
   have HP := HP.keep F136 (djB nin_g127_FP)
   have dj_G1_FP := grow_dj hg1r (by simp) HP.lt
   have HA := HA.step F136 (inSR ge_HA_g127 inS0)
   have ge_HA_G1 := grow_ge hg1r (by simp) HA.size
   refine Zb 114 #[.string (str (begR (gP pts i).key (gP pts i).kind (gP pts i).value).key), J ((begR (gP pts i).key (gP pts i).kind (gP pts i).value).kind), .int .u64 ((begR (gP pts i).key (gP pts i).kind (gP pts i).value).many : Int), J ((begR (gP pts i).key (gP pts i).kind (gP pts i).value).sum), J ((begR (gP pts i).key (gP pts i).kind (gP pts i).value).least), J ((begR (gP pts i).key (gP pts i).kind (gP pts i).value).most), .bool ((begR (gP pts i).key (gP pts i).kind (gP pts i).value).over), .slice A1 ((begR (gP pts i).key (gP pts i).kind (gP pts i).value).bk.length) c1] 54 (fun g => .slice (some ⟨g, 0, none⟩) 1 1) ?_
   intro g141 w142 HB144 F143 le145 _
   refine Zar (n := (0 + k)) (m := 1) (ys := List.map cW ([(((begR (gP pts i).key (gP pts i).kind (gP pts i).value), (A1, c1)) : RX)])) 115 et_w ((HR135.k F140).k F143) ((List.length_map _).trans ((show (([] : List RX) ++ (q.take k)).length = 0 + k by rw [List.length_append, (rfl : List.length ([] : List RX) = 0)] <;> first | rfl | (have := (rfl : List.length ([] : List RX) = 0); simp <;> omega)))) (RowB.src (RowB.of_blk (n := 1) HB144 (List.map cW [(((begR (gP pts i).key (gP pts i).kind (gP pts i).value), (A1, c1)) : RX)]) rfl rfl (cW_len _) (cW_one _) (by omega))) (cW_len _) (cW_one _) ?_
   intro b146 cap147 w148 HR149 F150 hb151
   have HB := (HB.k F140).k F143
   have ne_m_b146 : m ≠ b146 := hb151.elim (fun h => h ▸ ne_m_b132) (fun h => Nat.ne_of_lt (Nat.lt_of_lt_of_le HB.lt h))
   have HP := (HP.keep F140 dj0).keep F143 dj0
   have nin_b146_FP : b146 ∉ FP := hb151.elim (fun h => h ▸ nin_b132_FP) (fun h => new_nin HP.lt h)
   have HO_FE := ((HO_FE.keep F136 (djB nin_g127_FE)).keep F140 dj0).keep F143 dj0
   have nin_b146_FE : b146 ∉ FE := hb151.elim (fun h => h ▸ nin_b132_FE) (fun h => new_nin HO_FE.lt h)
   have HV1 := HV1.keep F143 dj0
   have nin_b146_G1 : b146 ∉ G1 := hb151.elim (fun h => h ▸ nin_b132_G1) (fun h => new_nin HV1.lt h)
   have HA := (HA.step0 F140).step0 F143
   have in_HA_b146 : b146 ∈ [] ∨ (World.heap w).size ≤ b146 := hb151.elim (fun h => (h ▸ in_HA_b132)) (fun h => Or.inr (Nat.le_trans HA.size h))
   have HR149 : RowB w148 b146 54 8 cap147 (((([] : List RX) ++ (q.take k)) ++ [(((begR (gP pts i).key (gP pts i).kind (gP pts i).value), (A1, c1)) : RX)]).map cW) := by rw [List.map_append]; exact HR149
   refine Zr 1 <| Zdn <| WE.region <| Zr 3 <| Zv 119 k q.length AX q.length cX 8 (some (k : Int)) none <| Zar (n := (0 + k + 1)) (m := (q.length - k)) (ys := List.map cW ((q.drop k).take (q.length - k))) 120 et_w HR149 ((List.length_map _).trans ((show ((([] : List RX) ++ (q.take k)) ++ [(((begR (gP pts i).key (gP pts i).kind (gP pts i).value), (A1, c1)) : RX)]).length = 0 + k + 1 by rw [List.length_append, (show (([] : List RX) ++ (q.take k)).length = 0 + k by rw [List.length_append, (rfl : List.length ([] : List RX) = 0)] <;> first | rfl | (have := (rfl : List.length ([] : List RX) = 0); simp <;> omega))] <;> first | rfl | (have := (show (([] : List RX) ++ (q.take k)).length = 0 + k by rw [List.length_append, (rfl : List.length ([] : List RX) = 0)] <;> first | rfl | (have := (rfl : List.length ([] : List RX) = 0); simp <;> omega)); simp <;> omega)))) (((((((HVo.keep F136 (djB nin_g127_FX)).keep F140 dj0).keep F143 dj0).keep F150 (djB nin_b132_FX)).drop k cX (by have := (rfl : List.length q = _); omega) (by have := (rfl : List.length q = _); omega)).take (q.length - k)).srcN (show ((q.drop k).take (q.length - k)).length = q.length - k by rw [List.length_take, List.length_drop]; have := (rfl : List.length q = _); omega) (cW_len _) (cW_one _) (cX - k)) (cW_len _) (cW_one _) ?_
   intro b152 cap153 w154 HR155 F156 hb157
   have HB := HB.j F150 ne_m_b132
   have ne_m_b152 : m ≠ b152 := hb157.elim (fun h => h ▸ ne_m_b146) (fun h => Nat.ne_of_lt (Nat.lt_of_lt_of_le HB.lt h))
   have HP := HP.keep F150 (djB nin_b132_FP)
   have nin_b152_FP : b152 ∉ FP := hb157.elim (fun h => h ▸ nin_b146_FP) (fun h => new_nin HP.lt h)
   have HO_FE := HO_FE.keep F150 (djB nin_b132_FE)
   have nin_b152_FE : b152 ∉ FE := hb157.elim (fun h => h ▸ nin_b146_FE) (fun h => new_nin HO_FE.lt h)
   have HV1 := HV1.keep F150 (djB nin_b132_G1)
   have nin_b152_G1 : b152 ∉ G1 := hb157.elim (fun h => h ▸ nin_b146_G1) (fun h => new_nin HV1.lt h)
   have HA := HA.step F150 (inSD in_HA_b132 inS0)
   have in_HA_b152 : b152 ∈ [] ∨ (World.heap w).size ≤ b152 := hb157.elim (fun h => (h ▸ in_HA_b146)) (fun h => Or.inr (Nat.le_trans HA.size h))
   have HR155 : RowB w154 b152 54 8 cap153 ((((([] : List RX) ++ (q.take k)) ++ [(((begR (gP pts i).key (gP pts i).kind (gP pts i).value), (A1, c1)) : RX)]) ++ ((q.drop k).take (q.length - k))).map cW) := by rw [List.map_append]; exact HR155
   refine Zr 1 <| Zd <| WQ.blkN <| Zn <| WE.region <| Zr 1 <| Zw 19 ((i : Int) + 1) ((i + 1 : Nat) : Int) <| Zr 1 <| Zd <| WQ.keep [0, 1, 4, 5, 6] (e' := [(0, Pt m 0), (1, J start), (4, .slice none 0 0), (5, .slice (some ⟨b152, 0, none⟩) (0 + k + 1 + (q.length - k)) cap153), (6, J ((i + 1 : Nat) : Int))]) (by kernel_rfl) ?_
   obtain ⟨FE158, hFE158⟩ : ∃ F_, F_ = FE ++ G1 := ⟨_, rfl⟩
   have HO_FE := HO_FE.keep F156 (djB nin_b146_FE)
   have HV1 := HV1.keep F156 (djB nin_b146_G1)
   have HE159 := EV.ins (k := k) (n := q.length - k) HO_FE HV1 hcq_
   rw [← hFE158] at HE159
   have nin_m_FE158 : m ∉ FE158 := by rw [hFE158]; exact fun h_ => (List.mem_append.1 h_).elim nin_m_FE nin_m_G1
   have nin_b152_FE158 : b152 ∉ FE158 := by rw [hFE158]; exact fun h_ => (List.mem_append.1 h_).elim nin_b152_FE nin_b152_G1
   have dj_FE158_FP : ∀ y ∈ FE158, y ∉ FP := by rw [hFE158]; exact fun y hy => (List.mem_append.1 hy).elim (dj_FE_FP y) (dj_G1_FP y)
   have ge_HA_FE158 : ∀ y ∈ FE158, (World.heap w).size ≤ y := by rw [hFE158]; exact fun y hy => (List.mem_append.1 hy).elim (ge_HA_FE y) (ge_HA_G1 y)
   obtain ⟨F160, hF160⟩ : ∃ F_, F_ = [b152] := ⟨_, rfl⟩
   have HO161 : OwnX 54 8 w154 F160 (.slice (some ⟨b152, 0, none⟩) (0 + k + 1 + (q.length - k)) cap153) ((((([] : List RX) ++ (q.take k)) ++ [(((begR (gP pts i).key (gP pts i).kind (gP pts i).value), (A1, c1)) : RX)]) ++ ((q.drop k).take (q.length - k))).map cW) := by rw [hF160]; exact OwnX.row HR155 ((List.length_map _).trans ((show (((([] : List RX) ++ (q.take k)) ++ [(((begR (gP pts i).key (gP pts i).kind (gP pts i).value), (A1, c1)) : RX)]) ++ ((q.drop k).take (q.length - k))).length = 0 + k + 1 + (q.length - k) by rw [List.length_append, (show ((([] : List RX) ++ (q.take k)) ++ [(((begR (gP pts i).key (gP pts i).kind (gP pts i).value), (A1, c1)) : RX)]).length = 0 + k + 1 by rw [List.length_append, (show (([] : List RX) ++ (q.take k)).length = 0 + k by rw [List.length_append, (rfl : List.length ([] : List RX) = 0)] <;> first | rfl | (have := (rfl : List.length ([] : List RX) = 0); simp <;> omega))] <;> first | rfl | (have := (show (([] : List RX) ++ (q.take k)).length = 0 + k by rw [List.length_append, (rfl : List.length ([] : List RX) = 0)] <;> first | rfl | (have := (rfl : List.length ([] : List RX) = 0); simp <;> omega)); simp <;> omega))] <;> first | rfl | (have := (show ((([] : List RX) ++ (q.take k)) ++ [(((begR (gP pts i).key (gP pts i).kind (gP pts i).value), (A1, c1)) : RX)]).length = 0 + k + 1 by rw [List.length_append, (show (([] : List RX) ++ (q.take k)).length = 0 + k by rw [List.length_append, (rfl : List.length ([] : List RX) = 0)] <;> first | rfl | (have := (rfl : List.length ([] : List RX) = 0); simp <;> omega))] <;> first | rfl | (have := (show (([] : List RX) ++ (q.take k)).length = 0 + k by rw [List.length_append, (rfl : List.length ([] : List RX) = 0)] <;> first | rfl | (have := (rfl : List.length ([] : List RX) = 0); simp <;> omega)); simp <;> omega)); simp <;> omega))))
   have nin_m_F160 := sgN hF160 ne_m_b152
   have dj_F160_FP := sgD hF160 nin_b152_FP
   have dj_F160_FE158 := sgD hF160 nin_b152_FE158
   have ge_HA_F160 := sgG hF160 (in_HA_b152.resolve_left (by simp))
   have hnq162 : (((([] : List RX) ++ (q.take k)) ++ [(((begR (gP pts i).key (gP pts i).kind (gP pts i).value), (A1, c1)) : RX)]) ++ ((q.drop k).take (q.length - k))).length = 0 + k + 1 + (q.length - k) := by simp only [List.length_set, List.length_append, List.length_cons, List.length_nil, List.length_take, List.length_drop] <;> omega
   have HO163 : OwnX 54 8 w154 F160 (.slice (some ⟨b152, 0, none⟩) ((((([] : List RX) ++ (q.take k)) ++ [(((begR (gP pts i).key (gP pts i).kind (gP pts i).value), (A1, c1)) : RX)]) ++ ((q.drop k).take (q.length - k))).length) cap153) (List.map cW (((([] : List RX) ++ (q.take k)) ++ [(((begR (gP pts i).key (gP pts i).kind (gP pts i).value), (A1, c1)) : RX)]) ++ ((q.drop k).take (q.length - k)))) := by rw [hnq162]; exact HO161
   refine WQ.env (e' := [(0, Pt m 0), (1, J start), (4, .slice none 0 0), (5, .slice (some ⟨b152, 0, none⟩) ((((([] : List RX) ++ (q.take k)) ++ [(((begR (gP pts i).key (gP pts i).kind (gP pts i).value), (A1, c1)) : RX)]) ++ ((q.drop k).take (q.length - k))).length) cap153), (6, J ((i + 1 : Nat) : Int))]) (by rw [hnq162]) <| WQ.round ?_
   intro a_ ha_
   refine ⟨(i + 1, F160, (some ⟨b152, 0, none⟩), cap153, (((([] : List RX) ++ (q.take k)) ++ [(((begR (gP pts i).key (gP pts i).kind (gP pts i).value), (A1, c1)) : RX)]) ++ ((q.drop k).take (q.length - k))), FE158), ?_, ha_.keep [0, 1, 4, 5, 6] (by kernel_rfl), ?_⟩
   ·
    show pts.length - (i + 1) < pts.length - i; omega
   ·
    exact ⟨by omega, by rw [rows_take_yes (by omega) (by omega), ← hq, rws_ins]; exact (insR_newX hk hlt (fun h_ => absurd h_ (by omega))).symm, by simp only [List.nil_append, List.length_append, List.length_take, List.length_drop, List.length_cons, List.length_nil]; omega, in_ins hin (hpv _ (gP_mem (by omega))), (HB.j F156 ne_m_b146), (HP.keep F156 (djB nin_b146_FP)), HO163, nin_m_F160, dj_F160_FP, ge_HA_F160, HE159, nin_m_FE158, dj_FE158_FP, (dj_symm dj_F160_FE158), ge_HA_FE158, (HA.step F156 (inSD in_HA_b146 inS0))⟩
  intro h12
  refine Zdn <| ZT <| WE.exit <| WQ.thenE <| WQ.blkE <| Zn <| WE.region <| Zr 1 <| Zw 19 ((i : Int) + 1) ((i + 1 : Nat) : Int) <| Zr 1 <| Zd <| WQ.round ?_
  intro a_ ha_
  refine ⟨(i + 1, FX, AX, cX, q, FE), ?_, ha_.keep [0, 1, 4, 5, 6] (by kernel_rfl), ?_⟩
  ·
   show pts.length - (i + 1) < pts.length - i; omega
  ·
   exact ⟨by omega, by rw [rows_take_no (by omega) (by omega), ← hq], by omega, hin, HB, HP, HO_FX, nin_m_FX, dj_FX_FP, ge_HA_FX, HO_FE, nin_m_FE, dj_FE_FP, dj_FE_FX, ge_HA_FE, HA⟩
 intro h1
 refine Zdn <| ZF <| WE.exit <| WQ.thenE <| WQ.thenE <| WQ.blkE <| Zn <| Zsg <| Zr 2 <| Zdn <| WE.ret <| ZR (.slice AX q.length cX) ?_
 exact ⟨q, AX, cX, FX, FE, rfl, by rw [hq, List.take_of_length_le (by omega)], HO_FX, HO_FE, dj_FE_FX, ge_HA_FX, ge_HA_FE, hin, HA⟩
end Go.Proofs.YtdhonbahpcmmnaaGreatDoor.Bat
