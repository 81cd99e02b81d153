/- Layer 20's walks: what is due, how many. -/
import Derived.Test.YtdhonbahpcmmnaaGreatDoorWinW
import Derived.Test.YtdhonbahpcmmnaaGreatDoorEngC
import Derived.Test.YtdhonbahpcmmnaaGreatDoorSort
import Derived.Test.YtdhonbahpcmmnaaGreatDoorLineH
import Derived.Test.YtdhonbahpcmmnaaGreatDoorMapG
section
set_option linter.unusedVariables false
set_option linter.unusedSimpArgs false
namespace Go.Proofs.YtdhonbahpcmmnaaGreatDoor.Bat
open Go Go.RowKit Go.Proofs.YtdhonbahpcmmnaaGreatDoor Go.Proofs.YtdhonbahpcmmnaaGreatDoor.Eng Go.Proofs.YtdhonbahpcmmnaaGreatDoorW.PrintWords
open Go.Proofs Go.Maps
open Go.Proofs.YtdhonbahpcmmnaaGreatDoor.Line
theorem et_l : ET Tryz.prog 63 2 1 8 := by
  obtain ⟨i, h1, h2, h3, h4⟩ := info_parts (P := Tryz.prog) (e := 2) (z := .int .i64 0) (size := 1) (bytes := 8) (by kernel_rfl)
  exact ⟨by kernel_rfl, ⟨i, _, h1, h2, h3, h4, rfl⟩, by decide⟩
def dueO (width mark : Int) (es : List (Int × Option Nat)) : List Int := (es.filter fun e => decide (e.1 + width ≤ mark)).map (·.1)
def dueS (width mark : Int) (wx : List WX) : List Int := (dueO width mark (eO wx)).mergeSort fun x y => decide (x ≤ y)
theorem due_len (width mark : Int) (wx : List WX) : (dueO width mark (eO wx)).length ≤ wx.length := by
  unfold dueO
  rw [List.length_map, ← eO_len wx]
  exact List.length_filter_le _ _
theorem sort_eq {p q : List Int} (h : p.Perm q) : (p.mergeSort fun x y => decide (x ≤ y)) = q.mergeSort fun x y => decide (x ≤ y) := by
  have hs : ∀ l : List Int, (l.mergeSort fun x y => decide (x ≤ y)).Pairwise (· ≤ ·) := fun l => by
    have := List.pairwise_mergeSort (le := fun x y : Int => decide (x ≤ y)) (fun a b c h1 h2 => by simp only [decide_eq_true_eq] at *; omega) (fun a b => by simp only [Bool.or_eq_true, decide_eq_true_eq]; omega) l
    exact this.imp fun h => by simpa using h
  exact List.Perm.eq_of_pairwise (le := fun a b => a ≤ b) (fun a b _ _ h1 h2 => Int.le_antisymm h1 h2) (hs p) (hs q) ((List.mergeSort_perm p _).trans (h.trans (List.mergeSort_perm q _).symm))
theorem dueS_of {width mark : Int} {wx : List WX} {q : List Int} (h : q.Perm (dueO width mark (eO wx))) : (q.mergeSort fun x y => decide (x ≤ y)) = dueS width mark wx := sort_eq h
theorem dueS_len {width mark : Int} {wx : List WX} {q : List Int} (h : q.Perm (dueO width mark (eO wx))) : q.length = (dueS width mark wx).length := by
  unfold dueS
  rw [List.length_mergeSort, h.length_eq]
theorem filter_ltG {α β : Type} [DecidableEq α] {td : List (α × β)} {z : α × β} (h : z ∈ td) : (td.filter fun e => !decide (e.1 = z.1)).length < td.length := by
  rcases Nat.lt_or_ge (td.filter fun e => !decide (e.1 = z.1)).length td.length with h1 | h1
  · exact h1
  · have h2 := List.filter_eq_self.1 ((List.filter_sublist (p := fun e => !decide (e.1 = z.1)) (l := td)).eq_of_length_le h1) z h
    simp at h2
theorem take_perm {α β : Type} [DecidableEq α] {td : List (α × β)} {z : α × β} (h : z ∈ td) (hn : (td.map (·.1)).Nodup) : td.Perm (z :: td.filter fun e => !decide (e.1 = z.1)) := by
  induction td with
  | nil => simp at h
  | cons y td ih =>
    rw [List.map_cons, List.nodup_cons] at hn
    rcases List.mem_cons.1 h with rfl | h
    · rw [List.filter_cons_of_neg (by simp), List.filter_eq_self.2 (fun e he => by
        simp only [Bool.not_eq_true', decide_eq_false_iff_not]
        exact fun h2 => hn.1 (h2 ▸ List.mem_map.2 ⟨e, he, rfl⟩))]
    · have hne : y.1 ≠ z.1 := fun h2 => hn.1 (h2 ▸ List.mem_map.2 ⟨z, h, rfl⟩)
      rw [List.filter_cons_of_pos (by simpa using hne)]
      exact ((ih h hn.2).cons y).trans (.swap _ _ _)
theorem eO_filter (td : List WX) (s : Int) : (eO td).filter (fun e => !decide (e.1 = s)) = eO (td.filter fun e => !decide (e.1 = s)) := by
  unfold eO
  rw [List.filter_map]
  rfl
theorem wx_apart {w : World} {mo : Nat} {wx : List WX} (h : MapG Tryz.prog 2 Li oki Em w mo (eO wx)) : (wx.map (·.1)).Nodup := by
  have := h.apart gtO.ks
  unfold eO at this
  rwa [List.map_map] at this
def totR (l : List WX) : Nat := (l.map fun x => x.2.2.length).sum
theorem totR_take {td : List WX} {x : WX} (h : x ∈ td) (hn : (td.map (·.1)).Nodup) : totR td = x.2.2.length + totR (td.filter fun e => !decide (e.1 = x.1)) := by
  unfold totR
  rw [((take_perm h hn).map fun x => x.2.2.length).sum_nat, List.map_cons, List.sum_cons]
theorem totR_le {l : List WX} {x : WX} (h : x ∈ l) : x.2.2.length ≤ totR l := by
  unfold totR
  induction l with
  | nil => simp at h
  | cons y l ih =>
    rw [List.map_cons, List.sum_cons]
    rcases List.mem_cons.1 h with rfl | h
    · omega
    · have := ih h
      omega
theorem tot_end {td : List WX} (h : eO td = []) : totR td = 0 := by
  obtain rfl : td = [] := List.map_eq_nil_iff.1 h
  rfl
def IM (w : World) (FI : List Nat) (wx : List WX) : Prop := FI = wx.map (·.2.1) ∧ FI.Nodup ∧ ∀ x ∈ wx, MapG Tryz.prog 97 Lp okp Er w x.2.1 (eI x.2.2)
theorem IM.keep {w w1 : World} {FI S : List Nat} {wx : List WX} (h : IM w FI wx) (f : Fr S w w1) (hn : ∀ y ∈ FI, y ∉ S) : IM w1 FI wx :=
  ⟨h.1, h.2.1, fun x hx => (h.2.2 x hx).keep f (hn _ (by rw [h.1]; exact List.mem_map.2 ⟨x, hx, rfl⟩))⟩
theorem IM.lt {w : World} {FI : List Nat} {wx : List WX} (h : IM w FI wx) : ∀ y ∈ FI, y < w.heap.size := fun y hy => by
  rw [h.1] at hy
  obtain ⟨x, hx, rfl⟩ := List.mem_map.1 hy
  exact (h.2.2 x hx).lt
theorem IM.at {w : World} {FI : List Nat} {wx : List WX} (h : IM w FI wx) {x : WX} (hx : x ∈ wx) : MapG Tryz.prog 97 Lp okp Er w x.2.1 (eI x.2.2) := h.2.2 x hx
theorem due_1 {width mark : Int} {td : List (Int × Option Nat)} {z : Int × Option Nat} (h : z ∈ td) (hn : (td.map (·.1)).Nodup) (hd : z.1 + width ≤ mark) : (dueO width mark td).Perm ([z.1] ++ dueO width mark (td.filter fun e => !decide (e.1 = z.1))) := by
  unfold dueO
  have := ((take_perm h hn).filter fun e => decide (e.1 + width ≤ mark)).map (·.1)
  rw [List.filter_cons_of_pos (by simpa using hd)] at this
  exact this
theorem due_0 {width mark : Int} {td : List (Int × Option Nat)} {z : Int × Option Nat} (hd : ¬ z.1 + width ≤ mark) : dueO width mark td = dueO width mark (td.filter fun e => !decide (e.1 = z.1)) := by
  unfold dueO
  rw [List.filter_filter]
  congr 1
  refine List.filter_congr fun e _ => ?_
  by_cases h : e.1 = z.1
  · rw [h]; simp [hd]
  · simp [h]
set_option maxRecDepth 100000 in
set_option maxHeartbeats 400000 in
theorem due_f (tb mo : Nat) (width windows rows seq : Int) (mark : Int) (wx : List WX) (w : World) (HB : Blk w tb #[.int .i64 width, .int .i64 windows, .int .i64 rows, .int .i64 seq, .map (some mo)] 88) (HMo : MapG Tryz.prog 2 Li oki Em w mo (eO wx)) (hW : 1 ≤ width ∧ width ≤ 1099511627776) (hok : ∀ e ∈ eO wx, 0 ≤ e.1 ∧ e.1 ≤ 1099511627776) (hwl : wx.length ≤ 1000000) (htbo : tb ≠ mo) :
    Calls Tryz.prog 53 #[.pointer (some ⟨tb, 0, none⟩), .int .i64 mark] w fun e w' => ∃ A' c' F', e = .returned (.slice A' (dueS width mark wx).length c') ∧ OwnX 2 1 w' F' (.slice A' (dueS width mark wx).length c') ((dueS width mark wx).map cI) ∧ (∀ y ∈ F', w.heap.size ≤ y) ∧ Fr [] w w' := by
 have HA := Fr.refl [] w
 refine Ze Tryz.func53 _ <| Zsg <| Zr 1 <| Zdn <| Zsg <| Zr 1 <| Zdn <| Zq <| Zsg <| Zr 3 <| Zl 10 (.map (some mo)) (HB.s 4) <| WO.rgG (SQ.E 4 (by kernel_rfl)) 11 gtO (by kernel_rfl) HMo (fun _ _ => trivial) ?_
 intro r1 w2 HG3 F4 le5 _
 have ne_tb_r1 := ltn HB.lt le5
 have ge_HA_r1 := Nat.le_trans HA.size le5
 refine Zdn <| WE.block <| WE.loop (α := (List (Int × Option Nat)) × List Nat × Option Addr × Nat × List Int) (E := fun ⟨td, FO, AO, cO, q⟩ => [(0, Pt tb 0), (1, J mark), (4, .slice none 0 0), (5, .slice AO q.length cO), (11, Pt r1 0)]) (I := fun ⟨td, FO, AO, cO, q⟩ wr => (q ++ dueO width mark td).Perm (dueO width mark (eO wx)) ∧ (td.map (·.1)).Nodup ∧ (∀ e ∈ td, e ∈ eO wx) ∧ Blk wr tb #[J width, J windows, J rows, J seq, .map (some mo)] 88 ∧ RngG Tryz.prog 2 Li oki Em wr mo r1 (eO wx) td ∧ OwnX 2 1 wr FO (.slice AO q.length cO) (List.map cI q) ∧ tb ∉ FO ∧ mo ∉ FO ∧ r1 ∉ FO ∧ (∀ y ∈ FO, (World.heap w).size ≤ y) ∧ Fr [] w wr) (m := fun ⟨td, FO, AO, cO, q⟩ => td.length) (eO wx, [], none, 0, []) [0, 1, 4, 5, 11] (by kernel_rfl) ?_ ?_
 ·
  exact ⟨by rw [List.nil_append], (HMo.keep F4 (nin0 _)).apart gtO.ks, fun _ h_ => h_, (HB.k F4), HG3, OwnX.nil _ _ _, (by simp), (by simp), (by simp), (by simp), (HA.step0 F4)⟩
 rintro ⟨td, FO, AO, cO, q⟩ wr ⟨hperm, hnt, hsub, HB, HG3, HO_FO, nin_tb_FO, nin_mo_FO, nin_r1_FO, ge_HA_FO, HA⟩
 have hqb_ : q.length ≤ wx.length := by have h_ := hperm.length_eq; rw [List.length_append] at h_; have := due_len width mark wx; omega
 refine Zsg <| WO.nxG (SQ.E 0 (by kernel_rfl)) 12 gtO (by kernel_rfl) HG3 (fun _ _ => trivial) ?_ ?_
 ·
  intro h6
  refine Zr 1 <| Zdn <| Zq <| ZF <| WE.exit <| WQ.thenE <| WQ.thenE <| WQ.blkE <| Zn <| Zsg <| Zr 1 ?_
  have hq_ : q.Perm (dueO width mark (eO wx)) := by have h_ := hperm; rw [h6] at h_; simpa [dueO] using h_
  have hql_ : q.length ≤ wx.length := by rw [hq_.length_eq]; exact due_len _ _ _
  refine Zc 29 (sortI_own HO_FO rfl (by omega)) ?_
  rintro _ w13 ⟨rfl, HOs, F14⟩
  refine ⟨_, rfl, trivial, Zdn <| Zsg <| Zr 2 <| Zdn <| WE.ret <| ZR (.slice AO q.length cO) ?_⟩
  exact ⟨AO, cO, FO, by rw [dueS_len hq_], by rw [dueS_len hq_, dueS_of hq_] at HOs; exact HOs, ge_HA_FO, (HA.step F14 (inF ge_HA_FO))⟩
 intro z7 w8 hz9 HG10 HX11 F12 _
 refine Zr 1 <| Zdn <| Zq <| ZT <| Zk <| WE.block <| Zsg <| WO.enG (SQ.S 0 (by kernel_rfl)) 14 (by kernel_rfl) (same HX11) <| Zr 2 <| Zdn <| Zq ?_
 have hbz_ := hok z7 (hsub z7 hz9)
 have HB := HB.j F12 ne_tb_r1
 refine WE.region <| Zr 4 <| Zl 20 (J width) (HB.s 0) <| Zw 21 (z7.1 + width) (z7.1 + width) <| Zr 1 <| ZoP 23 ((z7.1 + width : Int) ≤ mark) ?_ ?_
 ·
  intro h15
  refine Zdn <| ZT <| WE.region <| Zr 2 <| Zb 26 #[J z7.1] 2 (fun g => .slice (some ⟨g, 0, none⟩) 1 1) ?_
  intro g16 w17 HB19 F18 le20 _
  refine Zax (m := 1) (ys := List.map cI ([z7.1])) 27 et_l ((HO_FO.keep F12 (djB nin_r1_FO)).keep F18 dj0) (RowB.src (RowB.of_blk (n := 1) HB19 (List.map cI [z7.1]) rfl rfl (cI_len _) (cI_one _) (by omega))) (cI_len _) (cI_one _) ?_
  intro v26 w27 G28 HO29 F30 hg31
  rw [← List.map_append] at HO29
  have HB := HB.k F18
  have nin_tb_G28 := grow_nin hg31 nin_tb_FO HB.lt
  have HG10 := HG10.keep F18 (nin0 _) (nin0 _)
  have nin_mo_G28 := grow_nin hg31 nin_mo_FO (HG10.lt)
  have nin_r1_G28 := grow_nin hg31 nin_r1_FO (HG10.lt2)
  have HA := (HA.step F12 (inSR ge_HA_r1 inS0)).step0 F18
  have ge_HA_G28 := grow_ge hg31 ge_HA_FO HA.size
  obtain ⟨A32, cap33, rfl⟩ := HO29.sliceN (List.length_map _)
  have := @List.length_append _ q ([z7.1])
  refine Zr 1 <| Zd <| WQ.blkN <| WQ.round ?_
  intro a_ ha_
  refine ⟨(td.filter fun e => !decide (e.1 = z7.1), G28, A32, cap33, (q ++ [z7.1])), ?_, ha_.keep [0, 1, 4, 5, 11] (by kernel_rfl), ?_⟩
  ·
   exact filter_ltG hz9
  ·
   exact ⟨(by rw [List.append_assoc]; exact ((due_1 hz9 hnt (by omega)).symm.append_left q).trans hperm), (List.filter_sublist.map _).nodup hnt, fun e h_ => hsub e (List.mem_filter.1 h_).1, (HB.keep F30 nin_tb_FO), (HG10.keep F30 nin_mo_FO nin_r1_FO), HO29, nin_tb_G28, nin_mo_G28, nin_r1_G28, ge_HA_G28, (HA.step F30 (inF ge_HA_FO))⟩
 intro h15
 refine Zdn <| ZF <| WE.skip <| WQ.blkN <| WQ.round ?_
 intro a_ ha_
 refine ⟨(td.filter fun e => !decide (e.1 = z7.1), FO, AO, cO, q), ?_, ha_.keep [0, 1, 4, 5, 11] (by kernel_rfl), ?_⟩
 ·
  exact filter_ltG hz9
 ·
  exact ⟨(by rw [← due_0 (td := td) (z := z7) (by omega)]; exact hperm), (List.filter_sublist.map _).nodup hnt, fun e h_ => hsub e (List.mem_filter.1 h_).1, HB, HG10, (HO_FO.keep F12 (djB nin_r1_FO)), nin_tb_FO, nin_mo_FO, nin_r1_FO, ge_HA_FO, (HA.step F12 (inSR ge_HA_r1 inS0))⟩
set_option maxRecDepth 100000 in
set_option maxHeartbeats 400000 in
theorem opn_f (tb mo : Nat) (width windows rows seq : Int) (wx : List WX) (w : World) (HB : Blk w tb #[.int .i64 width, .int .i64 windows, .int .i64 rows, .int .i64 seq, .map (some mo)] 88) (HMo : MapG Tryz.prog 2 Li oki Em w mo (eO wx)) (htbo : tb ≠ mo) :
    Calls Tryz.prog 22 #[.pointer (some ⟨tb, 0, none⟩)] w fun e w' => e = .returned (.int .i64 (wx.length : Int)) ∧ Fr [] w w' := by
 have HA := Fr.refl [] w
 refine Ze Tryz.func22 _ <| Zsg <| Zr 1 <| Zdn <| Zsg <| Zr 3 <| Zl 6 (.map (some mo)) (HB.s 4) <| WO.lnG (SQ.S 4 (by kernel_rfl)) 7 wx.length gtO.t (by kernel_rfl) (same HMo) (eO_len wx) <| Zr 1 <| Zdn <| WE.ret <| ZR (J (wx.length : Int)) ?_
 exact ⟨rfl, HA⟩
set_option maxRecDepth 100000 in
set_option maxHeartbeats 400000 in
theorem seq_f (tb mo : Nat) (width windows rows seq : Int) (w : World) (HB : Blk w tb #[.int .i64 width, .int .i64 windows, .int .i64 rows, .int .i64 seq, .map (some mo)] 88) :
    Calls Tryz.prog 32 #[.pointer (some ⟨tb, 0, none⟩)] w fun e w' => e = .returned (.int .i64 seq) ∧ Fr [] w w' := by
 have HA := Fr.refl [] w
 refine Ze Tryz.func32 _ <| Zsg <| Zr 1 <| Zdn <| Zsg <| Zr 3 <| Zl 6 (J seq) (HB.s 3) <| Zr 1 <| Zdn <| WE.ret <| ZR (J seq) ?_
 exact ⟨rfl, HA⟩
set_option maxRecDepth 100000 in
set_option maxHeartbeats 400000 in
theorem rows_f (tb mo : Nat) (width windows rows seq : Int) (wx : List WX) (w : World) (HB : Blk w tb #[.int .i64 width, .int .i64 windows, .int .i64 rows, .int .i64 seq, .map (some mo)] 88) (HMo : MapG Tryz.prog 2 Li oki Em w mo (eO wx)) (FI : List Nat) (HI : IM w FI wx) (htbo : tb ≠ mo) (htbI : tb ∉ FI) (hmoI : mo ∉ FI) (htot : totR wx ≤ 1000000) :
    Calls Tryz.prog 23 #[.pointer (some ⟨tb, 0, none⟩)] w fun e w' => e = .returned (.int .i64 (totR wx : Int)) ∧ Fr [] w w' := by
 have HA := Fr.refl [] w
 refine Ze Tryz.func23 _ <| Zsg <| Zr 1 <| Zdn <| Zsg <| Zr 1 <| Zdn <| Zq <| Zsg <| Zr 3 <| Zl 9 (.map (some mo)) (HB.s 4) <| WO.rgG (SQ.E 4 (by kernel_rfl)) 10 gtO (by kernel_rfl) HMo (fun _ _ => trivial) ?_
 intro r1 w2 HG3 F4 le5 _
 have ne_tb_r1 := ltn HB.lt le5
 have nin_r1_FI := new_nin HI.lt le5
 have ge_HA_r1 := Nat.le_trans HA.size le5
 refine Zdn <| WE.block <| WE.loop (α := Nat × List WX) (E := fun ⟨acc, td⟩ => [(2, J 0), (3, J (acc : Int)), (10, Pt r1 0)]) (I := fun ⟨acc, td⟩ wr => acc + totR td = totR wx ∧ (td.map (·.1)).Nodup ∧ (∀ e ∈ td, e ∈ wx) ∧ Blk wr tb #[J width, J windows, J rows, J seq, .map (some mo)] 88 ∧ IM wr FI wx ∧ RngG Tryz.prog 2 Li oki Em wr mo r1 (eO wx) (eO td) ∧ Fr [] w wr) (m := fun ⟨acc, td⟩ => td.length) (0, wx) [2, 3, 10] (by kernel_rfl) ?_ ?_
 ·
  exact ⟨by rw [Nat.zero_add], wx_apart (HMo.keep F4 (nin0 _)), fun _ h_ => h_, (HB.k F4), (HI.keep F4 dj0), HG3, (HA.step0 F4)⟩
 rintro ⟨acc, td⟩ wr ⟨hacc, hnt, hsub, HB, HI, HG3, HA⟩
 refine Zsg <| WO.nxG (SQ.E 0 (by kernel_rfl)) 11 gtO (by kernel_rfl) HG3 (fun _ _ => trivial) ?_ ?_
 ·
  intro h6
  refine Zr 1 <| Zdn <| Zq <| ZF <| WE.exit <| WQ.thenE <| WQ.thenE <| WQ.blkE <| Zn <| Zsg <| Zr 2 <| Zdn <| WE.ret <| ZR (J (acc : Int)) ?_
  exact ⟨by rw [show acc = totR wx by rw [tot_end h6] at hacc; exact hacc], HA⟩
 intro z7 w8 hz9 HG10 HX11 F12 _
 obtain ⟨x_, hx_, hzx_⟩ := List.mem_map.1 hz9
 subst hzx_
 rw [eO_filter] at HG10
 have HI := HI.keep F12 (djB nin_r1_FI)
 refine Zr 1 <| Zdn <| Zq <| ZT <| Zk <| WE.block <| Zsg <| WO.enG (SQ.S 0 (by kernel_rfl)) 13 (by kernel_rfl) (same HX11) <| Zr 2 <| Zd <| Zn ?_
 have HMx_ := HI.at (hsub x_ hx_)
 have hle_ := totR_le (hsub x_ hx_)
 have hac_ := totR_take hx_ hnt
 refine WE.region <| Zr 2 <| WO.lnG (SQ.S 2 (by kernel_rfl)) 17 x_.2.2.length gtI.t (by kernel_rfl) (same HMx_) (eI_len _) <| Zw 18 ((acc : Int) + (x_.2.2.length : Int)) ((acc + x_.2.2.length : Nat) : Int) <| Zr 1 <| Zd <| WQ.blkN <| WQ.round ?_
 intro a_ ha_
 refine ⟨(acc + x_.2.2.length, td.filter fun e => !decide (e.1 = x_.1)), ?_, ha_.keep [2, 3, 10] (by kernel_rfl), ?_⟩
 ·
  exact filter_ltG hx_
 ·
  exact ⟨by rw [Nat.add_assoc, ← totR_take hx_ hnt]; exact hacc, (List.filter_sublist.map _).nodup hnt, fun e h_ => hsub e (List.mem_filter.1 h_).1, (HB.j F12 ne_tb_r1), HI, HG10, (HA.step F12 (inSR ge_HA_r1 inS0))⟩
end Go.Proofs.YtdhonbahpcmmnaaGreatDoor.Bat
end
section
set_option linter.unusedVariables false
set_option linter.unusedSimpArgs false
namespace Go.Proofs.YtdhonbahpcmmnaaGreatDoor.Bat
open Go Go.RowKit Go.Proofs.YtdhonbahpcmmnaaGreatDoor Go.Proofs.YtdhonbahpcmmnaaGreatDoor.Eng Go.Proofs.YtdhonbahpcmmnaaGreatDoorW.PrintWords
open Go.Proofs Go.Maps
open Go.Proofs.YtdhonbahpcmmnaaGreatDoor.Line
theorem oki_in {s : Int} (h : 0 ≤ s ∧ s ≤ 1099511627776) : oki s := by unfold oki; omega
theorem eI_filter (td : List RX) (k : L × Int) : (eI td).filter (fun e => !decide (e.1 = k)) = eI (td.filter fun e => !decide ((e.1.key, e.1.kind) = k)) := by
  unfold eI
  rw [List.filter_map]
  rfl
theorem eI_keys (td : List RX) : (eI td).map (·.1) = td.map fun e => (e.1.key, e.1.kind) := by
  unfold eI
  rw [List.map_map]
  rfl
theorem filter_ltK {α γ : Type} [DecidableEq α] {f : γ → α} {td : List γ} {z : γ} (h : z ∈ td) : (td.filter fun e => !decide (f e = f z)).length < td.length := by
  rcases Nat.lt_or_ge (td.filter fun e => !decide (f e = f z)).length td.length with h1 | h1
  · exact h1
  · have h2 := List.filter_eq_self.1 ((List.filter_sublist (p := fun e => !decide (f e = f z)) (l := td)).eq_of_length_le h1) z h
    simp at h2
theorem take_permK {α γ : Type} [DecidableEq α] {f : γ → α} {td : List γ} {z : γ} (h : z ∈ td) (hn : (td.map f).Nodup) : td.Perm (z :: td.filter fun e => !decide (f e = f z)) := by
  induction td with
  | nil => simp at h
  | cons y td ih =>
    rw [List.map_cons, List.nodup_cons] at hn
    rcases List.mem_cons.1 h with rfl | h
    · rw [List.filter_cons_of_neg (by simp), List.filter_eq_self.2 (fun e he => by
        simp only [Bool.not_eq_true', decide_eq_false_iff_not]
        exact fun h2 => hn.1 (h2 ▸ List.mem_map.2 ⟨e, he, rfl⟩))]
    · have hne : f y ≠ f z := fun h2 => hn.1 (h2 ▸ List.mem_map.2 ⟨z, h, rfl⟩)
      rw [List.filter_cons_of_pos (by simpa using hne)]
      exact ((ih h hn.2).cons y).trans (.swap _ _ _)
theorem rws_take {ys td : List RX} {x : RX} {p : Option Addr × Nat} (h : x ∈ td) (hn : (td.map fun e => (e.1.key, e.1.kind)).Nodup) : (rws (ys ++ [(x.1, p)]) ++ rws (td.filter fun e => !decide ((e.1.key, e.1.kind) = (x.1.key, x.1.kind)))).Perm (rws ys ++ rws td) := by
  have h1 := (take_permK (f := fun e : RX => (e.1.key, e.1.kind)) h hn).map Prod.fst
  unfold rws
  rw [List.map_append, List.append_assoc]
  exact (h1.symm.append_left _)
theorem EV.perm {w : World} {F : List Nat} {xs ys : List RX} (h : EV w F xs) (hp : ys.Perm xs) : EV w F ys := ⟨h.1, fun x hx => h.2 x (hp.mem_iff.1 hx)⟩
theorem clo_map {w w0 : World} {mo mi : Nat} {l0 : Int} {xs : List RX} {wr : List WX} (h0 : MapG Tryz.prog 2 Li oki Em w0 mo (eO ((l0, mi, xs) :: wr))) (h : MapG Tryz.prog 2 Li oki Em w mo ((eO ((l0, mi, xs) :: wr)).filter fun e => !decide (e.1 = l0))) : MapG Tryz.prog 2 Li oki Em w mo (eO wr) := by
  have hn := wx_apart h0
  rw [eO_filter, List.filter_cons_of_neg (by simp), List.filter_eq_self.2 (fun e he => by
    simp only [Bool.not_eq_true', decide_eq_false_iff_not]
    exact fun h2 => (List.nodup_cons.1 hn).1 (h2 ▸ List.mem_map.2 ⟨e, he, rfl⟩))] at h
  exact h
set_option maxRecDepth 100000 in
set_option maxHeartbeats 400000 in
theorem clo_no (tb mo : Nat) (width windows rows seq mark : Int) (wx : List WX) (w : World) (HB : Blk w tb #[.int .i64 width, .int .i64 windows, .int .i64 rows, .int .i64 seq, .map (some mo)] 88) (HMo : MapG Tryz.prog 2 Li oki Em w mo (eO wx)) (hW : 1 ≤ width ∧ width ≤ 1099511627776) (hok : ∀ e ∈ eO wx, 0 ≤ e.1 ∧ e.1 ≤ 1099511627776) (hwl : (wx).length ≤ 1000000) (htbo : tb ≠ mo) (hds : dueS width mark wx = []) :
    Calls Tryz.prog 21 #[.pointer (some ⟨tb, 0, none⟩), .int .i64 mark] w fun e w' => e = .returned (.tuple #[.agg #[.int .i64 0, .int .i64 0, .slice none 0 0], .bool false]) ∧ Fr [] w w' := by
 have HA := Fr.refl [] w
 refine Ze Tryz.func21 _ <| Zsg <| Zb 4 #[J 0, J 0, .slice none 0 0] 24 (fun g => Pt g 0) ?_
 intro g1 w2 HB4 F3 le5 _
 have ge_HA_g1 := Nat.le_trans HA.size le5
 refine Zr 1 <| Zdn <| Zsg <| Zr 2 <| Zc 12 (due_f tb mo width windows rows seq mark wx _ (HB.k F3) (HMo.keep F3 (nin0 _)) hW hok hwl htbo) ?_
 rintro _ w6 ⟨Ad, cd, Gd, he_, HOd, hgd, F7⟩
 rw [hds] at he_ HOd
 subst he_
 refine ⟨_, rfl, trivial, ?_⟩
 have HVd := VX.of_own HOd
 have hgdr := fun y hy => Or.inr (a := y ∈ ([] : List Nat)) (hgd y hy)
 refine Zr 1 <| Zdn <| Zq <| Zsg <| Zr 2 <| ZoPT 15 (((([] : List Int).length : Int) : Int) = (0 : Int)) (by rfl) <| Zdn <| ZT <| Zsg <| Zr 1 <| Zst g1 0 #[J 0, J 0, .slice none 0 0] (HB4.k F7) ?_
 intro w8 HB10 F9 _
 refine Zr 1 <| Zdn <| WE.ret <| WQ.thenR <| WQ.ret2 (fn := Tryz.f21) (show Tryz.f21.results = #[.cell 4 24, .tmp 5] by kernel_rfl) (show resOk _ _ _ _ (.agg #[J 0, J 0, .slice none 0 0]) from ⟨by kernel_rfl, ⟨g1, 0, none⟩, by kernel_rfl, ldVarB [J 0, J 0, .slice none 0 0] (by kernel_rfl) (by kernel_rfl) (by kernel_rfl) HB10 (by kernel_rfl)⟩) (show resOk _ _ _ _ (.bool false) from ⟨by kernel_rfl, by kernel_rfl⟩) ?_
 exact ⟨rfl, (((HA.step0 F3).step0 F7).step F9 (inSR ge_HA_g1 inS0))⟩
set_option maxRecDepth 100000 in
set_option maxHeartbeats 400000 in
theorem clo_yes (tb mo : Nat) (width windows rows seq mark : Int) (l0 : Int) (mi : Nat) (xs : List RX) (wr : List WX) (w : World) (HB : Blk w tb #[.int .i64 width, .int .i64 windows, .int .i64 rows, .int .i64 seq, .map (some mo)] 88) (HMo : MapG Tryz.prog 2 Li oki Em w mo (eO ((l0, mi, xs) :: wr))) (hW : 1 ≤ width ∧ width ≤ 1099511627776) (hok : ∀ e ∈ eO ((l0, mi, xs) :: wr), 0 ≤ e.1 ∧ e.1 ≤ 1099511627776) (hwl : (((l0, mi, xs) :: wr)).length ≤ 1000000) (htbo : tb ≠ mo) (dl : List Int) (hds : dueS width mark ((l0, mi, xs) :: wr) = l0 :: dl) (HMi : MapG Tryz.prog 97 Lp okp Er w mi (eI xs)) (FB : List Nat) (HE : EV w FB xs) (h65 : ∀ x ∈ xs, x.1.bk.length ≤ 65) (hxl : xs.length ≤ 100000) (htbi : tb ≠ mi) (hmoi : mo ≠ mi) (htbB : tb ∉ FB) (hmoB : mo ∉ FB) (hmiB : mi ∉ FB) (hsq : 0 ≤ seq ∧ seq ≤ 1000000000) :
    Calls Tryz.prog 21 #[.pointer (some ⟨tb, 0, none⟩), .int .i64 mark] w fun e w' => ∃ (zs : List RX) (A' : Option Addr) (c' : Nat) (F' G' : List Nat), e = .returned (.tuple #[.agg #[.int .i64 seq, .int .i64 l0, .slice A' zs.length c'], .bool true]) ∧ (rws zs).Perm (rws xs) ∧ zs.Pairwise (fun a b => ltR b.1 a.1 = false) ∧ VX cW 8 w' F' A' zs ∧ EV w' G' zs ∧ zs.length ≤ c' ∧ (∀ y ∈ F', w.heap.size ≤ y) ∧ (∀ y ∈ G', w.heap.size ≤ y) ∧ (∀ y ∈ F', y ∉ G') ∧ Blk w' tb #[.int .i64 width, .int .i64 windows, .int .i64 rows, .int .i64 (seq + 1), .map (some mo)] 88 ∧ MapG Tryz.prog 2 Li oki Em w' mo (eO wr) ∧ Fr [tb, mo] w w' := by
 have HMo0 := HMo
 have HA := Fr.refl [tb, mo] w
 refine Ze Tryz.func21 _ <| Zsg <| Zb 4 #[J 0, J 0, .slice none 0 0] 24 (fun g => Pt g 0) ?_
 intro g1 w2 HB4 F3 le5 _
 have ne_tb_g1 := ltn HB.lt le5
 have ne_mo_g1 := ltn HMo.lt le5
 have ge_HA_g1 := Nat.le_trans HA.size le5
 have HB := HB.k F3
 have HMo := HMo.keep F3 (nin0 _)
 refine Zr 1 <| Zdn <| Zsg <| Zr 2 <| Zc 12 (due_f tb mo width windows rows seq mark ((l0, mi, xs) :: wr) _ HB HMo hW hok hwl htbo) ?_
 rintro _ w6 ⟨Ad, cd, Gd, he_, HOd, hgd, F7⟩
 rw [hds] at he_ HOd
 subst he_
 refine ⟨_, rfl, trivial, ?_⟩
 have hdl_ : (l0 :: dl).length = dl.length + 1 := rfl
 have HVd := VX.of_own HOd
 have hgdr := fun y hy => Or.inr (a := y ∈ ([] : List Nat)) (hgd y hy)
 refine Zr 1 <| Zdn <| Zq <| Zsg <| Zr 2 <| ZoPF 15 ((((l0 :: dl).length : Int) : Int) = (0 : Int)) (by simp only [List.length_cons]; omega) <| Zdn <| ZF <| Zk <| Zq ?_
 have hz8 : (World.heap w6).size ≤ (World.heap w6).size := Nat.le_refl _
 have HB := HB.k F7
 have ltz_tb := HB.lt
 have ltz_Gd := HVd.lt
 refine ZER (FrB (World.heap w6).size) [3, 6] [8] [9] 10 ?_
 intro w9 F10 _
 have HB := HB.k F10
 have HVd := HVd.keep F10 dj0
 refine Yq 0 3 <| Yl 3 20 (J seq) (fun _ k => (HB.keepB k ltz_tb).at 3 (by kernel_rfl)) <| Yq 4 1 ?_
 obtain ⟨ad11, hA12⟩ := HVd.addr (i := 0) (by have := (rfl : List.length (l0 :: dl) = _); omega)
 refine Yio 5 22 ((l0 :: dl).length) 1 0 0 hA12 <| Yl 6 23 (J (g0 (l0 :: dl) 0)) (fun _ k_ => (HVd.keepB k_ ltz_Gd).at0 hA12 (g0_some (l0 :: dl) 0 (by have := (rfl : List.length (l0 :: dl) = _); omega)) (by kernel_rfl)) <| WO.top (v' := J l0) rfl <| Yq 7 1 <| WO.bx (SA.ER _ 8 _ (by kernel_rfl) rfl) 7 #[J 0, J 0, .slice none 0 0] 24 (fun g => Pt g 0) (by kernel_rfl) (frB_of (Nat.le_trans hz8 F10.size) (by simp)) ?_
 intro g13 w14 HB16 F15 le17 _
 have ne_tb_g13 := ltn HB.lt le17
 have HB4 := (HB4.k F7).k F10
 have ne_g1_g13 := ltn HB4.lt le17
 have HE := ((HE.keep F3 dj0).keep F7 dj0).keep F10 dj0
 have nin_g13_FB := new_nin HE.lt le17
 have nin_g13_Gd := new_nin HVd.lt le17
 have HMo := (HMo.keep F7 (nin0 _)).keep F10 (nin0 _)
 have ne_mo_g13 := ltn HMo.lt le17
 have HMi := ((HMi.keep F3 (nin0 _)).keep F7 (nin0 _)).keep F10 (nin0 _)
 have ne_mi_g13 := ltn HMi.lt le17
 have HA := ((HA.step0 F3).step0 F7).step0 F10
 have ge_HA_g13 := Nat.le_trans HA.size le17
 refine Ys 9 g13 0 [J seq, J l0, .slice none 0 0] #[J seq, J l0, .slice none 0 0] HB16 ?_
 intro w18 HB20 F19 _
 refine Ydn <| Zq <| Zq <| ZE [3, 6, 7] [] [8] 9 ?_
 intro w21 F22 _
 have HB := ((HB.k F15).j F19 ne_tb_g13).k F22
 have HVd := ((HVd.keep F15 dj0).keep F19 (djB nin_g13_Gd)).keep F22 dj0
 refine Yq 0 3 <| Yl 3 28 (.map (some mo)) (HB.s 4) <| Yq 4 1 ?_
 obtain ⟨ad23, hA24⟩ := HVd.addr (i := 0) (by have := (rfl : List.length (l0 :: dl) = _); omega)
 have HMo := ((HMo.keep F15 (nin0 _)).keep F19 (ninC ne_mo_g13 (nin0 _))).keep F22 (nin0 _)
 have HMi := ((HMi.keep F15 (nin0 _)).keep F19 (ninC ne_mi_g13 (nin0 _))).keep F22 (nin0 _)
 refine Yio 5 30 ((l0 :: dl).length) 1 0 0 hA24 <| Yl 6 31 (J (g0 (l0 :: dl) 0)) (same (HVd.at0 hA24 (g0_some (l0 :: dl) 0 (by have := (rfl : List.length (l0 :: dl) = _); omega)) (by kernel_rfl))) <| WO.top (v' := J l0) rfl <| WO.lkG1 (SA.S sameR sameT _ 7 _ (by kernel_rfl)) 32 gtO l0 (by kernel_rfl) (same HMo) (oki_in (hok _ List.mem_cons_self)) <| WO.top (v' := .map (some mi)) (by rw [eO_hd.1]; rfl) <| WO.rgG (SA.E _ 8 _ (by kernel_rfl) rfl) 33 gtI (by kernel_rfl) HMi (fun _ _ => trivial) ?_
 intro r25 w26 HG27 F28 le29 _
 have ne_tb_r25 := ltn HB.lt le29
 have HB4 := ((HB4.k F15).j F19 ne_g1_g13).k F22
 have ne_g1_r25 := ltn HB4.lt le29
 have HB20 := HB20.k F22
 have ne_g13_r25 := ltn HB20.lt le29
 have HE := ((HE.keep F15 dj0).keep F19 (djB nin_g13_FB)).keep F22 dj0
 have nin_r25_FB := new_nin HE.lt le29
 have nin_r25_Gd := new_nin HVd.lt le29
 have ne_mo_r25 := ltn HMo.lt le29
 have ne_mi_r25 := ltn HMi.lt le29
 have HA := ((HA.step0 F15).step F19 (inSR ge_HA_g13 inS0)).step0 F22
 have ge_HA_r25 := Nat.le_trans HA.size le29
 refine Ydn <| WE.block <| WE.loop (α := List RX × List Nat × Option Addr × Nat × List RX × List Nat) (E := fun ⟨td, FX, Ax, cx, ys, FE⟩ => [(0, Pt tb 0), (4, Pt g1 0), (5, .bool false), (6, .slice Ad ((l0 :: dl).length) cd), (7, Pt g13 0), (33, Pt r25 0)]) (I := fun ⟨td, FX, Ax, cx, ys, FE⟩ wL => (rws ys ++ rws td).Perm (rws xs) ∧ ((eI td).map (·.1)).Nodup ∧ (∀ e ∈ td, e ∈ xs) ∧ Blk wL tb #[J width, J windows, J rows, J seq, .map (some mo)] 88 ∧ Blk wL g1 #[J 0, J 0, .slice none 0 0] 24 ∧ Blk wL g13 #[J seq, J l0, .slice Ax ys.length cx] 24 ∧ EV wL FB xs ∧ VX cI 1 wL Gd Ad (l0 :: dl) ∧ MapG Tryz.prog 2 Li oki Em wL mo (eO ((l0, mi, xs) :: wr)) ∧ MapG Tryz.prog 97 Lp okp Er wL mi (eI xs) ∧ RngG Tryz.prog 97 Lp okp Er wL mi r25 (eI xs) (eI td) ∧ OwnX 54 8 wL FX (.slice Ax ys.length cx) (List.map cW ys) ∧ tb ∉ FX ∧ g1 ∉ FX ∧ g13 ∉ FX ∧ mo ∉ FX ∧ mi ∉ FX ∧ mi ∉ FX ∧ r25 ∉ FX ∧ (∀ y ∈ FX, y ∉ FB) ∧ (∀ y ∈ FX, y ∉ Gd) ∧ (∀ y ∈ FX, (World.heap w).size ≤ y) ∧ EV wL FE ys ∧ tb ∉ FE ∧ g1 ∉ FE ∧ g13 ∉ FE ∧ mo ∉ FE ∧ mi ∉ FE ∧ mi ∉ FE ∧ r25 ∉ FE ∧ (∀ y ∈ FE, y ∉ FB) ∧ (∀ y ∈ FE, y ∉ Gd) ∧ (∀ y ∈ FE, y ∉ FX) ∧ (∀ y ∈ FE, (World.heap w).size ≤ y) ∧ Fr [tb, mo] w wL) (m := fun ⟨td, FX, Ax, cx, ys, FE⟩ => td.length) (xs, [], none, 0, [], []) [0, 4, 5, 6, 7, 33] (by kernel_rfl) ?_ ?_
 ·
  have HMi := HMi.keep F28 (nin0 _)
  exact ⟨by exact .refl _, HMi.apart gtI.ks, fun _ h_ => h_, (HB.k F28), (HB4.k F28), (HB20.k F28), (HE.keep F28 dj0), (HVd.keep F28 dj0), (HMo.keep F28 (nin0 _)), HMi, HG27, OwnX.nil _ _ _, (by simp), (by simp), (by simp), (by simp), (by simp), (by simp), (by simp), (by simp), (by simp), (by simp), EV.nil _, (by simp), (by simp), (by simp), (by simp), (by simp), (by simp), (by simp), (by simp), (by simp), (by simp), (by simp), (HA.step0 F28)⟩
 rintro ⟨td, FX, Ax, cx, ys, FE⟩ wL ⟨hperm, hnt, hsub, HB, HB4, HB20, HE, HVd, HMo, HMi, HG27, HO_FX, nin_tb_FX, nin_g1_FX, nin_g13_FX, nin_mo_FX, nin_mi_FX, nin_mi_FX, nin_r25_FX, dj_FX_FB, dj_FX_Gd, ge_HA_FX, HO_FE, nin_tb_FE, nin_g1_FE, nin_g13_FE, nin_mo_FE, nin_mi_FE, nin_mi_FE, nin_r25_FE, dj_FE_FB, dj_FE_Gd, dj_FE_FX, ge_HA_FE, HA⟩
 have hyl_ : ys.length ≤ xs.length := by have h_ := hperm.length_eq; rw [List.length_append, rws_len, rws_len, rws_len] at h_; omega
 refine Zsg <| WO.nxG (SQ.E 0 (by kernel_rfl)) 34 gtI (by kernel_rfl) HG27 (fun _ _ => trivial) ?_ ?_
 ·
  intro h30
  refine Zr 1 <| Zdn <| Zq <| ZF <| WE.exit <| WQ.thenE <| WQ.thenE <| WQ.blkE <| Zn <| Zsg <| Zr 1 <| Zl 49 (.slice Ax ys.length cx) (HB20.s 2) ?_
  have htd_ : td = [] := List.map_eq_nil_iff.1 h30
  have hp_ : (rws ys).Perm (rws xs) := by have h_ := hperm; rw [htd_] at h_; simpa [rws] using h_
  refine Zc 50 (sortF_own HO_FX rfl (by omega)) ?_
  rintro _ w37 ⟨rfl, zs, hzp, hzs, HOz, F38⟩
  refine ⟨_, rfl, trivial, ?_⟩
  have hzl_ : ys.length = zs.length := hzp.length_eq.symm
  have HO_FE := HO_FE.keep F38 dj_FE_FX
  have HO_FE := HO_FE.perm hzp
  rw [hzl_] at HOz
  have HVz := VX.of_own HOz
  have hcz_ := own_cap HOz (List.length_map _)
  have HB20 := HB20.keep F38 nin_g13_FX
  rw [hzl_] at HB20
  refine Zdn <| Zq <| ZE [3, 6] [] [7] 8 ?_
  intro w39 F40 _
  have HB := (HB.keep F38 nin_tb_FX).k F40
  have HVd := (HVd.keep F38 (dj_symm dj_FX_Gd)).keep F40 dj0
  refine Yq 0 3 <| Yl 3 54 (.map (some mo)) (HB.s 4) <| Yq 4 1 ?_
  obtain ⟨ad41, hA42⟩ := HVd.addr (i := 0) (by have := (rfl : List.length (l0 :: dl) = _); omega)
  refine Yio 5 56 ((l0 :: dl).length) 1 0 0 hA42 <| Yl 6 57 (J (g0 (l0 :: dl) 0)) (same (HVd.at0 hA42 (g0_some (l0 :: dl) 0 (by have := (rfl : List.length (l0 :: dl) = _); omega)) (by kernel_rfl))) <| WO.top (v' := J l0) rfl <| WO.dlG (dd := none) (SA.E _ 7 _ (by kernel_rfl) rfl) gtO l0 (by kernel_rfl) ((HMo.keep F38 nin_mo_FX).keep F40 (nin0 _)) (oki_in (hok _ List.mem_cons_self)) (fun _ _ => trivial) ?_
  intro w43 HM45 F44
  have HB := HB.j F44 htbo
  refine Ydn <| Zsg <| Zr 3 <| Zl 61 (J seq) (HB.s 3) <| Zw 62 (seq + 1) (seq + 1) <| Zr 2 <| Zst tb 3 #[J width, J windows, J rows, J (seq + 1), .map (some mo)] HB ?_
  intro w46 HB48 F47 _
  refine Zdn <| Zsg <| Zlb 65 [J seq, J l0, .slice Ax zs.length cx] g13 0 (same (((HB20.k F40).j F44 (Ne.symm ne_mo_g13)).j F47 (Ne.symm ne_tb_g13))) <| Zst g1 0 #[J seq, J l0, .slice Ax zs.length cx] ((((HB4.keep F38 nin_g1_FX).k F40).j F44 (Ne.symm ne_mo_g1)).j F47 (Ne.symm ne_tb_g1)) ?_
  intro w49 HB51 F50 _
  refine Zr 1 <| Zdn <| WE.ret <| WQ.ret2 (fn := Tryz.f21) (show Tryz.f21.results = #[.cell 4 24, .tmp 5] by kernel_rfl) (show resOk _ _ _ _ (.agg #[J seq, J l0, .slice Ax zs.length cx]) from ⟨by kernel_rfl, ⟨g1, 0, none⟩, by kernel_rfl, ldVarB [J seq, J l0, .slice Ax zs.length cx] (by kernel_rfl) (by kernel_rfl) (by kernel_rfl) HB51 (by kernel_rfl)⟩) (show resOk _ _ _ _ (.bool true) from ⟨by kernel_rfl, by kernel_rfl⟩) ?_
  exact ⟨zs, Ax, cx, FX, FE, rfl, (hzp.map Prod.fst).trans hp_, hzs, ((((HVz.keep F40 dj0).keep F44 (djB nin_mo_FX)).keep F47 (djB nin_tb_FX)).keep F50 (djB nin_g1_FX)), ((((HO_FE.keep F40 dj0).keep F44 (djB nin_mo_FE)).keep F47 (djB nin_tb_FE)).keep F50 (djB nin_g1_FE)), hcz_, ge_HA_FX, ge_HA_FE, (dj_symm dj_FE_FX), (HB48.j F50 ne_tb_g1), clo_map HMo0 ((HM45.keep F47 (ninC (Ne.symm htbo) (nin0 _))).keep F50 (ninC ne_mo_g1 (nin0 _))), (((((HA.step F38 (inF ge_HA_FX)).step0 F40).step F44 (inSL (by simp) inS0)).step F47 (inSL (by simp) inS0)).step F50 (inSR ge_HA_g1 inS0))⟩
 intro z31 w32 hz33 HG34 HX35 F36 _
 obtain ⟨x_, hx_, hzx_⟩ := List.mem_map.1 hz33
 subst hzx_
 rw [eI_filter] at HG34
 refine Zr 1 <| Zdn <| Zq <| ZT <| Zk <| WE.block <| Zsg <| WO.enG (SQ.S 0 (by kernel_rfl)) 36 (by kernel_rfl) (same HX35) <| Zr 1 <| Zb 9 #[.string (⟨#[]⟩), J 0, .int .u64 0, J 0, J 0, J 0, .bool false, .slice none 0 0] 54 (fun g => Pt g 0) ?_
 intro g52 w53 HB55 F54 le56 _
 have HB := HB.j F36 ne_tb_r25
 have ne_tb_g52 := ltn HB.lt le56
 have HB4 := HB4.j F36 ne_g1_r25
 have ne_g1_g52 := ltn HB4.lt le56
 have HB20 := HB20.j F36 ne_g13_r25
 have ne_g13_g52 := ltn HB20.lt le56
 have HE := HE.keep F36 (djB nin_r25_FB)
 have nin_g52_FB := new_nin HE.lt le56
 have HVd := HVd.keep F36 (djB nin_r25_Gd)
 have nin_g52_Gd := new_nin HVd.lt le56
 have HO_FX := HO_FX.keep F36 (djB nin_r25_FX)
 have nin_g52_FX := new_nin HO_FX.lt le56
 have HO_FE := HO_FE.keep F36 (djB nin_r25_FE)
 have nin_g52_FE := new_nin HO_FE.lt le56
 have HMo := HMo.keep F36 (ninC ne_mo_r25 (nin0 _))
 have ne_mo_g52 := ltn HMo.lt le56
 have HMi := HMi.keep F36 (ninC ne_mi_r25 (nin0 _))
 have ne_mi_g52 := ltn HMi.lt le56
 have ne_r25_g52 := ltn HG34.lt2 le56
 have HA := HA.step F36 (inSR ge_HA_r25 inS0)
 have ge_HA_g52 := Nat.le_trans HA.size le56
 refine Zst g52 0 #[.string (str x_.1.key), J x_.1.kind, .int .u64 (x_.1.many : Int), J x_.1.sum, J x_.1.least, J x_.1.most, .bool x_.1.over, .slice x_.2.1 x_.1.bk.length x_.2.2] HB55 ?_
 intro w57 HB59 F58 _
 have HE := (HE.keep F54 dj0).keep F58 (djB nin_g52_FB)
 refine Zdn <| Zsg <| Zr 1 <| Zl 39 (.slice x_.2.1 x_.1.bk.length x_.2.2) (HB59.s 7) ?_
 obtain ⟨hrc_, FR, hFR, HVR⟩ := HE.2 x_ (hsub x_ hx_)
 have hb65_ := h65 x_ (hsub x_ hx_)
 refine Zc 40 (clu_f x_.2.1 x_.1.bk.length x_.2.2 x_.1.bk FR _ HVR rfl (by omega)) ?_
 rintro _ w60 ⟨A1, c1, G1, rfl, HO1, hg1, F61⟩
 refine ⟨_, rfl, trivial, ?_⟩
 have hcq_ := own_cap HO1 (List.length_map _)
 have HV1 := VX.of_own HO1
 have hg1r := fun y hy => Or.inr (a := y ∈ ([] : List Nat)) (hg1 y hy)
 have HB := (HB.k F54).j F58 ne_tb_g52
 have nin_tb_G1 := grow_nin hg1r (nin0 _) HB.lt
 have HB4 := (HB4.k F54).j F58 ne_g1_g52
 have nin_g1_G1 := grow_nin hg1r (nin0 _) HB4.lt
 have HB20 := (HB20.k F54).j F58 ne_g13_g52
 have nin_g13_G1 := grow_nin hg1r (nin0 _) HB20.lt
 have nin_g52_G1 := grow_nin hg1r (nin0 _) HB59.lt
 have HMo := (HMo.keep F54 (nin0 _)).keep F58 (ninC ne_mo_g52 (nin0 _))
 have nin_mo_G1 := grow_nin hg1r (nin0 _) (HMo.lt)
 have HMi := (HMi.keep F54 (nin0 _)).keep F58 (ninC ne_mi_g52 (nin0 _))
 have nin_mi_G1 := grow_nin hg1r (nin0 _) (HMi.lt)
 have HG34 := (HG34.keep F54 (nin0 _) (nin0 _)).keep F58 (ninC ne_mi_g52 (nin0 _)) (ninC ne_r25_g52 (nin0 _))
 have nin_r25_G1 := grow_nin hg1r (nin0 _) (HG34.lt2)
 have dj_G1_FB := grow_dj hg1r (by simp) HE.lt
 have HVd := (HVd.keep F54 dj0).keep F58 (djB nin_g52_Gd)
 have dj_G1_Gd := grow_dj hg1r (by simp) HVd.lt
 have HO_FX := (HO_FX.keep F54 dj0).keep F58 (djB nin_g52_FX)
 have dj_G1_FX := grow_dj hg1r (by simp) HO_FX.lt
 have HA := (HA.step0 F54).step F58 (inSR ge_HA_g52 inS0)
 have ge_HA_G1 := grow_ge hg1r (by simp) HA.size
 refine Zr 1 <| Zst g52 7 #[.string (str x_.1.key), J x_.1.kind, .int .u64 (x_.1.many : Int), J x_.1.sum, J x_.1.least, J x_.1.most, .bool x_.1.over, .slice A1 x_.1.bk.length c1] (HB59.k F61) ?_
 intro w62 HB64 F63 _
 refine Zd <| Zn ?_
 obtain ⟨FE65, hFE65⟩ : ∃ F_, F_ = FE ++ G1 := ⟨_, rfl⟩
 have HO_FE := (((HO_FE.keep F54 dj0).keep F58 (djB nin_g52_FE)).keep F61 dj0).keep F63 (djB nin_g52_FE)
 have HV1 := HV1.keep F63 (djB nin_g52_G1)
 have HE66 := HO_FE.snoc (r := x_.1) HV1 hcq_
 rw [← hFE65] at HE66
 have nin_tb_FE65 : tb ∉ FE65 := by rw [hFE65]; exact fun h_ => (List.mem_append.1 h_).elim nin_tb_FE nin_tb_G1
 have nin_g1_FE65 : g1 ∉ FE65 := by rw [hFE65]; exact fun h_ => (List.mem_append.1 h_).elim nin_g1_FE nin_g1_G1
 have nin_g13_FE65 : g13 ∉ FE65 := by rw [hFE65]; exact fun h_ => (List.mem_append.1 h_).elim nin_g13_FE nin_g13_G1
 have nin_mo_FE65 : mo ∉ FE65 := by rw [hFE65]; exact fun h_ => (List.mem_append.1 h_).elim nin_mo_FE nin_mo_G1
 have nin_mi_FE65 : mi ∉ FE65 := by rw [hFE65]; exact fun h_ => (List.mem_append.1 h_).elim nin_mi_FE nin_mi_G1
 have nin_r25_FE65 : r25 ∉ FE65 := by rw [hFE65]; exact fun h_ => (List.mem_append.1 h_).elim nin_r25_FE nin_r25_G1
 have dj_FE65_FB : ∀ y ∈ FE65, y ∉ FB := by rw [hFE65]; exact fun y hy => (List.mem_append.1 hy).elim (dj_FE_FB y) (dj_G1_FB y)
 have dj_FE65_Gd : ∀ y ∈ FE65, y ∉ Gd := by rw [hFE65]; exact fun y hy => (List.mem_append.1 hy).elim (dj_FE_Gd y) (dj_G1_Gd y)
 have dj_FE65_FX : ∀ y ∈ FE65, y ∉ FX := by rw [hFE65]; exact fun y hy => (List.mem_append.1 hy).elim (dj_FE_FX y) (dj_G1_FX y)
 have ge_HA_FE65 : ∀ y ∈ FE65, (World.heap w).size ≤ y := by rw [hFE65]; exact fun y hy => (List.mem_append.1 hy).elim (ge_HA_FE y) (ge_HA_G1 y)
 have HB20 := (HB20.k F61).j F63 ne_g13_g52
 refine WE.region <| Zr 1 <| Zl 43 (.slice Ax ys.length cx) (HB20.s 2) <| Zlb 44 [.string (str x_.1.key), J x_.1.kind, .int .u64 (x_.1.many : Int), J x_.1.sum, J x_.1.least, J x_.1.most, .bool x_.1.over, .slice A1 x_.1.bk.length c1] g52 0 (same HB64) <| Zb 45 #[.string (str x_.1.key), J x_.1.kind, .int .u64 (x_.1.many : Int), J x_.1.sum, J x_.1.least, J x_.1.most, .bool x_.1.over, .slice A1 x_.1.bk.length c1] 54 (fun g => .slice (some ⟨g, 0, none⟩) 1 1) ?_
 intro g67 w68 HB70 F69 le71 _
 refine Zax (m := 1) (ys := List.map cW ([((x_.1, (A1, c1)) : RX)])) 46 et_w (((HO_FX.keep F61 dj0).keep F63 (djB nin_g52_FX)).keep F69 dj0) (RowB.src (RowB.of_blk (n := 1) HB70 (List.map cW [((x_.1, (A1, c1)) : RX)]) rfl rfl (cW_len _) (cW_one _) (by omega))) (cW_len _) (cW_one _) ?_
 intro v77 w78 G79 HO80 F81 hg82
 rw [← List.map_append] at HO80
 have HB := ((HB.k F61).j F63 ne_tb_g52).k F69
 have nin_tb_G79 := grow_nin hg82 nin_tb_FX HB.lt
 have HB4 := ((HB4.k F61).j F63 ne_g1_g52).k F69
 have nin_g1_G79 := grow_nin hg82 nin_g1_FX HB4.lt
 have HB20 := HB20.k F69
 have nin_g13_G79 := grow_nin hg82 nin_g13_FX HB20.lt
 have HMo := ((HMo.keep F61 (nin0 _)).keep F63 (ninC ne_mo_g52 (nin0 _))).keep F69 (nin0 _)
 have nin_mo_G79 := grow_nin hg82 nin_mo_FX (HMo.lt)
 have HMi := ((HMi.keep F61 (nin0 _)).keep F63 (ninC ne_mi_g52 (nin0 _))).keep F69 (nin0 _)
 have nin_mi_G79 := grow_nin hg82 nin_mi_FX (HMi.lt)
 have HG34 := ((HG34.keep F61 (nin0 _) (nin0 _)).keep F63 (ninC ne_mi_g52 (nin0 _)) (ninC ne_r25_g52 (nin0 _))).keep F69 (nin0 _) (nin0 _)
 have nin_r25_G79 := grow_nin hg82 nin_r25_FX (HG34.lt2)
 have HE := ((HE.keep F61 dj0).keep F63 (djB nin_g52_FB)).keep F69 dj0
 have dj_G79_FB := grow_dj hg82 dj_FX_FB HE.lt
 have HVd := ((HVd.keep F61 dj0).keep F63 (djB nin_g52_Gd)).keep F69 dj0
 have dj_G79_Gd := grow_dj hg82 dj_FX_Gd HVd.lt
 have HE66 := HE66.keep F69 dj0
 have dj_G79_FE65 := grow_dj hg82 (dj_symm dj_FE65_FX) HE66.lt
 have HA := ((HA.step0 F61).step F63 (inSR ge_HA_g52 inS0)).step0 F69
 have ge_HA_G79 := grow_ge hg82 ge_HA_FX HA.size
 obtain ⟨A83, cap84, rfl⟩ := HO80.sliceN (List.length_map _)
 have := @List.length_append _ ys ([((x_.1, (A1, c1)) : RX)])
 refine Zr 1 <| Zst g13 2 #[J seq, J l0, .slice A83 ((ys ++ [((x_.1, (A1, c1)) : RX)]).length) cap84] (HB20.keep F81 nin_g13_FX) ?_
 intro w85 HB87 F86 _
 refine Zd <| WQ.blkN <| WQ.round ?_
 intro a_ ha_
 refine ⟨(td.filter fun e => !decide ((e.1.key, e.1.kind) = (x_.1.key, x_.1.kind)), G79, A83, cap84, (ys ++ [((x_.1, (A1, c1)) : RX)]), FE65), ?_, ha_.keep [0, 4, 5, 6, 7, 33] (by kernel_rfl), ?_⟩
 ·
  exact filter_ltK hx_
 ·
  exact ⟨by exact (rws_take hx_ (by rw [← eI_keys]; exact hnt)).trans hperm, by rw [eI_keys] at hnt ⊢; exact (List.filter_sublist.map _).nodup hnt, fun e h_ => hsub e (List.mem_filter.1 h_).1, ((HB.keep F81 nin_tb_FX).j F86 ne_tb_g13), ((HB4.keep F81 nin_g1_FX).j F86 ne_g1_g13), HB87, ((HE.keep F81 (dj_symm dj_FX_FB)).keep F86 (djB nin_g13_FB)), ((HVd.keep F81 (dj_symm dj_FX_Gd)).keep F86 (djB nin_g13_Gd)), ((HMo.keep F81 nin_mo_FX).keep F86 (ninC ne_mo_g13 (nin0 _))), ((HMi.keep F81 nin_mi_FX).keep F86 (ninC ne_mi_g13 (nin0 _))), ((HG34.keep F81 nin_mi_FX nin_r25_FX).keep F86 (ninC ne_mi_g13 (nin0 _)) (ninC (Ne.symm ne_g13_r25) (nin0 _))), (HO80.keep F86 (djB nin_g13_G79)), nin_tb_G79, nin_g1_G79, nin_g13_G79, nin_mo_G79, nin_mi_G79, nin_mi_G79, nin_r25_G79, dj_G79_FB, dj_G79_Gd, ge_HA_G79, ((HE66.keep F81 dj_FE65_FX).keep F86 (djB nin_g13_FE65)), nin_tb_FE65, nin_g1_FE65, nin_g13_FE65, nin_mo_FE65, nin_mi_FE65, nin_mi_FE65, nin_r25_FE65, dj_FE65_FB, dj_FE65_Gd, (dj_symm dj_G79_FE65), ge_HA_FE65, ((HA.step F81 (inF ge_HA_FX)).step F86 (inSR ge_HA_g13 inS0))⟩
end Go.Proofs.YtdhonbahpcmmnaaGreatDoor.Bat
end
section
set_option linter.unusedVariables false
set_option linter.unusedSimpArgs false
namespace Go.Proofs.YtdhonbahpcmmnaaGreatDoor.Bat
open Go Go.Proofs.YtdhonbahpcmmnaaGreatDoor.Eng
structure Pn where
 start : Int
 key : L
 kind : Int
 value : Int
def frontN {α : Type} (p : α → Bool) (l : List α) : Nat := (l.takeWhile p).length
theorem front_le {α : Type} (p : α → Bool) (l : List α) : frontN p l ≤ l.length := (List.takeWhile_sublist p).length_le
def insS (out : List Int) (s : Int) : List Int :=
 let k := frontN (fun x => decide (x < s)) out
 if k < out.length ∧ g0 out k = s then out else out.take k ++ [s] ++ out.drop k
def startsP (pts : List Pn) : List Int := pts.foldl (fun out p => insS out p.start) []
def ltP (k : L) (kd : Int) (r : Rw) : Bool := ltS r.key k || (decide (r.key = k) && decide (r.kind < kd))
def insR (out : List Rw) (p : Pn) : List Rw :=
 let k := frontN (ltP p.key p.kind) out
 if k < out.length ∧ (gW out k).key = p.key ∧ (gW out k).kind = p.kind then out.set k (addR (gW out k) p.value) else out.take k ++ [begR p.key p.kind p.value] ++ out.drop k
def rowsP (pts : List Pn) (s : Int) : List Rw := (pts.filter fun p => decide (p.start = s)).foldl insR []
end Go.Proofs.YtdhonbahpcmmnaaGreatDoor.Bat
end
section
set_option linter.unusedVariables false
set_option linter.unusedSimpArgs false
namespace Go.Proofs.YtdhonbahpcmmnaaGreatDoor.Bat
open Go Go.RowKit Go.Proofs.YtdhonbahpcmmnaaGreatDoor Go.Proofs.YtdhonbahpcmmnaaGreatDoor.Eng Go.Proofs.YtdhonbahpcmmnaaGreatDoorW.PrintWords
open Go.Proofs Go.Maps
open Go.Proofs.YtdhonbahpcmmnaaGreatDoor.Line
def cP (p : Pn) : List Value := [.int .i64 p.start, .string (str p.key), .int .i64 p.kind, .int .i64 p.value]
end Go.Proofs.YtdhonbahpcmmnaaGreatDoor.Bat
end
section
set_option linter.unusedVariables false
set_option linter.unusedSimpArgs false
namespace Go.Proofs.YtdhonbahpcmmnaaGreatDoor.Bat
open Go Go.RowKit Go.Proofs.YtdhonbahpcmmnaaGreatDoor Go.Proofs.YtdhonbahpcmmnaaGreatDoor.Eng Go.Proofs.YtdhonbahpcmmnaaGreatDoorW.PrintWords
open Go.Proofs Go.Maps
open Go.Proofs.YtdhonbahpcmmnaaGreatDoor.Line
theorem add_ok {r : Rw} {v : Int} (h : r.In ∧ r.bk.length ≤ 65 ∧ 1 ≤ r.many) (hv : I64 v) : (addR r v).In ∧ (addR r v).bk.length ≤ 65 ∧ 1 ≤ (addR r v).many := by
 refine ⟨addR_in h.1 hv, ?_, scount_pos _⟩
 show (if r.kind = 3 then bumpN r.bk (bl v) else r.bk).length ≤ 65
 split
 ·
  rw [bumpN_len]
  have := bl_le hv
  omega
 ·
  exact h.2.1
theorem beg_ok {k : L} {kd v : Int} (hv : I64 v) : (begR k kd v).In ∧ (begR k kd v).bk.length ≤ 65 ∧ 1 ≤ (begR k kd v).many := by
 refine ⟨begR_in hv, ?_, Nat.le_refl _⟩
 show (if kd = 3 then bumpN [] (bl v) else []).length ≤ 65
 split
 ·
  rw [bumpN_len]
  have := bl_le hv
  simp
  omega
 ·
  simp
theorem EV.more {w : World} {F G : List Nat} {xs ys : List RX} {r : Rw} {A : Option Addr} {c : Nat} (h : EV w F xs) (hv : VX cN 1 w G A r.bk) (hc : r.bk.length ≤ c) (hy : ∀ y ∈ ys, y ∈ xs ∨ y = (r, (A, c))) : EV w (F ++ G) ys := by
 refine ⟨fun y hy => (List.mem_append.1 hy).elim (h.1 y) (hv.1 y), fun x hx => ?_⟩
 rcases hy x hx with h1 | rfl
 ·
  obtain ⟨a, FR, b, d⟩ := h.2 x h1
  exact ⟨a, FR, fun y hy => List.mem_append_left _ (b y hy), d⟩
 ·
  exact ⟨hc, G, fun y hy => List.mem_append_right _ hy, hv⟩
theorem EV.set {w : World} {F G : List Nat} {xs : List RX} {r : Rw} {A : Option Addr} {c k : Nat} (h : EV w F xs) (hv : VX cN 1 w G A r.bk) (hc : r.bk.length ≤ c) : EV w (F ++ G) (xs.set k (r, (A, c))) :=
 h.more hv hc fun y hy => List.mem_or_eq_of_mem_set hy
end Go.Proofs.YtdhonbahpcmmnaaGreatDoor.Bat
end
section
set_option linter.unusedVariables false
set_option linter.unusedSimpArgs false
namespace Go.Proofs.YtdhonbahpcmmnaaGreatDoor.Bat
open Go Go.RowKit Go.Proofs.YtdhonbahpcmmnaaGreatDoor Go.Proofs.YtdhonbahpcmmnaaGreatDoor.Eng Go.Proofs.YtdhonbahpcmmnaaGreatDoorW.PrintWords
open Go.Proofs Go.Maps
open Go.Proofs.YtdhonbahpcmmnaaGreatDoor.Line
theorem insS_len (q : List Int) (s : Int) : (insS q s).length ≤ q.length + 1 := by
 unfold insS
 simp only
 split
 ·
  omega
 ·
  have := front_le (fun x => decide (x < s)) q
  simp only [List.length_append, List.length_take, List.length_drop, List.length_cons, List.length_nil]
  omega
theorem insR_len (q : List Rw) (p : Pn) : (insR q p).length ≤ q.length + 1 := by
 unfold insR
 simp only
 split
 ·
  rw [List.length_set]
  omega
 ·
  have := front_le (ltP p.key p.kind) q
  simp only [List.length_append, List.length_take, List.length_drop, List.length_cons, List.length_nil]
  omega
theorem fold_len {α β : Type} {f : List α → β → List α} (hf : ∀ q b, (f q b).length ≤ q.length + 1) : ∀ (l : List β) (q : List α), (l.foldl f q).length ≤ q.length + l.length
 | [], q => Nat.le_refl _
 | b :: l, q => by
  have h := fold_len hf l (f q b)
  have := hf q b
  simp only [List.foldl_cons, List.length_cons]
  omega
theorem starts_len (pts : List Pn) : (startsP pts).length ≤ pts.length := by
 have h := fold_len (f := fun q (p : Pn) => insS q p.start) (fun q p => insS_len q p.start) pts []
 have h2 : (startsP pts).length ≤ ([] : List Int).length + pts.length := h
 simpa using h2
theorem rowsP_len (pts : List Pn) (s : Int) : (rowsP pts s).length ≤ pts.length := by
 have h := fold_len (f := insR) insR_len (pts.filter fun p => decide (p.start = s)) []
 have h2 := List.length_filter_le (fun p : Pn => decide (p.start = s)) pts
 have h3 : (rowsP pts s).length ≤ ([] : List Rw).length + (pts.filter fun p => decide (p.start = s)).length := h
 simp only [List.length_nil] at h3
 omega
def manyP (pts : List Pn) : Nat := ((startsP pts).map fun s => (rowsP pts s).length).sum
end Go.Proofs.YtdhonbahpcmmnaaGreatDoor.Bat
end
section
set_option linter.unusedVariables false
set_option linter.unusedSimpArgs false
namespace Go.Proofs.YtdhonbahpcmmnaaGreatDoor.Bat
open Go Go.RowKit Go.Proofs.YtdhonbahpcmmnaaGreatDoor Go.Proofs.YtdhonbahpcmmnaaGreatDoor.Eng Go.Proofs.YtdhonbahpcmmnaaGreatDoorW.PrintWords
open Go.Proofs Go.Maps
open Go.Proofs.YtdhonbahpcmmnaaGreatDoor.Line
def leftP (pts : List Pn) (s : Int) : List Pn := pts.filter fun p => decide (p.start ≠ s)
theorem leftP_len (pts : List Pn) (s : Int) : (leftP pts s).length ≤ pts.length := List.length_filter_le _ _
end Go.Proofs.YtdhonbahpcmmnaaGreatDoor.Bat
end
section
set_option linter.unusedVariables false
set_option linter.unusedSimpArgs false
namespace Go.Proofs.YtdhonbahpcmmnaaGreatDoor.Eng
open Go Go.Proofs.YtdhonbahpcmmnaaGreatDoor
section
variable {P : Program} {ι : Type} {ops : Array Oper} {N : Nat} {S : ι → Act → World → Prop} {R : World → World → Prop} {x y : ι} {o : Oper} {e e' : Env} {w : World}
end
end Go.Proofs.YtdhonbahpcmmnaaGreatDoor.Eng
set_option linter.unusedVariables false
set_option linter.unusedSimpArgs false
namespace Go.Proofs.YtdhonbahpcmmnaaGreatDoor.Bat
open Go Go.RowKit Go.Proofs.YtdhonbahpcmmnaaGreatDoor Go.Proofs.YtdhonbahpcmmnaaGreatDoor.Eng Go.Proofs.YtdhonbahpcmmnaaGreatDoorW.PrintWords
open Go.Proofs Go.Maps
open Go.Proofs.YtdhonbahpcmmnaaGreatDoor.Line
def metP (pts : List Pn) (st : Int) (key : L) (kind : Int) : Bool := (rowsP pts st).any fun r => decide (r.key = key ∧ r.kind = kind)
end Go.Proofs.YtdhonbahpcmmnaaGreatDoor.Bat
end
section
set_option linter.unusedVariables false
set_option linter.unusedSimpArgs false
namespace Go.Proofs.YtdhonbahpcmmnaaGreatDoor.Bat
open Go Go.RowKit Go.Proofs.YtdhonbahpcmmnaaGreatDoor Go.Proofs.YtdhonbahpcmmnaaGreatDoor.Eng Go.Proofs.YtdhonbahpcmmnaaGreatDoorW.PrintWords
open Go.Proofs Go.Maps
open Go.Proofs.YtdhonbahpcmmnaaGreatDoor.Line
structure De where
  close : Bool
  mark : Int
  key : L
  kind : Int
  value : Int
  time : Int
def de0 : De := ⟨false, 0, [], 0, 0, 0⟩
def gD (q : List De) (i : Nat) : De := q.getD i de0
theorem gD_some (q : List De) (i : Nat) (h : i < q.length) : q[i]? = some (gD q i) := by
  unfold gD
  rw [List.getD_eq_getElem?_getD, List.getElem?_eq_getElem h]
  rfl
def cD (d : De) : List Value := [.bool d.close, .int .i64 d.mark, .string (str d.key), .int .i64 d.kind, .int .i64 d.value, .int .i64 d.time]
def fewP (l : List De) : Bool := l.all (fun d => decide (d.key.length ≤ 400)) && decide (l.length ≤ 60)
theorem few_no {l : List De} (i : Nat) (h : i < l.length) (hn : ¬ (gD l i).key.length ≤ 400) : fewP l = false := by
  unfold fewP
  rw [Bool.and_eq_false_iff]
  refine .inl (List.all_eq_false.2 ⟨gD l i, List.mem_of_getElem? (gD_some l i h), by simpa using hn⟩)
theorem few_end {l : List De} (i : Nat) (h : l.length ≤ i) (hs : ∀ j, j < i → (gD l j).key.length ≤ 400) : fewP l = decide (l.length ≤ 60) := by
  unfold fewP
  rw [List.all_eq_true.2, Bool.true_and]
  intro d hd
  obtain ⟨j, hj, rfl⟩ := List.getElem_of_mem hd
  have h2 := hs j (by omega)
  have h3 := gD_some l j hj
  rw [List.getElem?_eq_getElem hj] at h3
  rw [Option.some.inj h3]
  simpa using h2
set_option maxRecDepth 100000 in
set_option maxHeartbeats 400000 in
theorem few_f (l : List De) (AD : Option Addr) (cD_ : Nat) (FD : List Nat) (w : World) (HD : VX cD 6 w FD AD l) (hdl : l.length ≤ 9223372036854775807) (hkl : ∀ d ∈ l, d.key.length ≤ 9223372036854775807) :
    Calls Tryz.prog 18 #[.slice AD l.length cD_] w fun e w' => e = .returned (.bool (fewP l)) ∧ Fr [] w w' := by
 have HA := Fr.refl [] w
 refine Ze Tryz.func18 _ <| Zsg <| Zr 1 <| Zdn <| Zq <| Zsg <| Zr 1 <| Zdn <| WE.block <| WE.loop (α := Nat) (E := fun i => [(0, .slice AD l.length cD_), (2, .bool false), (3, J (i : Int))]) (I := fun i wr => i ≤ l.length ∧ (∀ j, j < i → (gD l j).key.length ≤ 400) ∧ VX cD 6 wr FD AD l ∧ Fr [] w wr) (m := fun i => l.length - i) 0 [0, 2, 3] (by kernel_rfl) ?_ ?_
 ·
  exact ⟨Nat.zero_le _, fun j h_ => absurd h_ (Nat.not_lt_zero _), HD, HA⟩
 rintro i wr ⟨hi, hsm, HD, HA⟩
 refine Zq <| Zsg <| Zr 3 <| ZoP 7 (((i : Int) : Int) < (l.length : Int)) ?_ ?_
 ·
  intro h1
  refine Zdn <| ZT <| Zk <| Zq <| WE.block <| Zq ?_
  have hkb_ := hkl _ (List.mem_of_getElem? (gD_some l i (by omega)))
  refine WE.region <| Zr 2 ?_
  obtain ⟨ad2, hA3⟩ := HD.addr (i := i) (by have := (rfl : List.length l = _); omega)
  refine Zio 12 l.length 6 i (i : Int) hA3 <| Zr 1 <| Zl 14 (.string (str (gD l i).key)) (same (HD.at hA3 (gD_some l i (by have := (rfl : List.length l = _); omega)) 2 (by kernel_rfl))) <| Zr 1 <| ZoP 16 (((((gD l i).key).length : Int) : Int) > (400 : Int)) ?_ ?_
  ·
   intro h4
   refine Zdn <| ZT <| Zsg <| Zr 1 <| Zdn <| WE.ret <| WQ.blkR <| WQ.thenR <| WQ.thenR <| WQ.blkR <| WQ.thenR <| ZR (.bool false) ?_
   exact ⟨by rw [few_no i (by omega) (by omega)], HA⟩
  intro h4
  refine Zdn <| ZF <| WE.skip <| WQ.blkN <| Zn <| WE.region <| Zr 1 <| Zw 9 ((i : Int) + 1) ((i + 1 : Nat) : Int) <| Zr 1 <| Zd <| WQ.round ?_
  intro a_ ha_
  refine ⟨i + 1, ?_, ha_.keep [0, 2, 3] (by kernel_rfl), ?_⟩
  ·
   show l.length - (i + 1) < l.length - i; omega
  ·
   exact ⟨by omega, fun j h_ => (Nat.lt_succ_iff_lt_or_eq.1 h_).elim (hsm j) (fun e_ => by rw [e_]; omega), HD, HA⟩
 intro h1
 refine Zdn <| ZF <| WE.exit <| WQ.thenE <| WQ.thenE <| WQ.blkE <| Zn <| Zsg <| Zr 4 <| Zdn <| WE.ret <| ZR (.bool (decide (((l.length : Int) : Int) ≤ (60 : Int)))) ?_
 exact ⟨by rw [few_end i (by omega) hsm] <;> first | rfl | (congr 2; simp; omega) | (simp; omega), HA⟩
end Go.Proofs.YtdhonbahpcmmnaaGreatDoor.Bat
end
