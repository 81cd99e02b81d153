/- Layer 20's walks: the document's Many, Due. -/
import Derived.Test.YtdhonbahpcmmnaaGreatDoorWinO
import Derived.Test.YtdhonbahpcmmnaaGreatDoorEngC
section
set_option linter.unusedVariables false
set_option linter.unusedSimpArgs false
namespace Go.Proofs.YtdhonbahpcmmnaaGreatDoor.Bat
open Go Go.RowKit Go.Proofs.YtdhonbahpcmmnaaGreatDoor Go.Proofs.YtdhonbahpcmmnaaGreatDoor.Eng Go.Proofs.YtdhonbahpcmmnaaGreatDoorW.PrintWords
open Go.Proofs Go.Maps
open Go.Proofs.YtdhonbahpcmmnaaGreatDoor.Line
theorem insS_len (q : List Int) (s : Int) : (insS q s).length ≤ q.length + 1 := by
  unfold insS
  simp only
  split
  · omega
  · have := front_le (fun x => decide (x < s)) q
    simp only [List.length_append, List.length_take, List.length_drop, List.length_cons, List.length_nil]
    omega
theorem insR_len (q : List Rw) (p : Pn) : (insR q p).length ≤ q.length + 1 := by
  unfold insR
  simp only
  split
  · rw [List.length_set]
    omega
  · have := front_le (ltP p.key p.kind) q
    simp only [List.length_append, List.length_take, List.length_drop, List.length_cons, List.length_nil]
    omega
theorem fold_len {α β : Type} {f : List α → β → List α} (hf : ∀ q b, (f q b).length ≤ q.length + 1) : ∀ (l : List β) (q : List α), (l.foldl f q).length ≤ q.length + l.length
  | [], q => Nat.le_refl _
  | b :: l, q => by
    have h := fold_len hf l (f q b)
    have := hf q b
    simp only [List.foldl_cons, List.length_cons]
    omega
theorem starts_len (pts : List Pn) : (startsP pts).length ≤ pts.length := by
  have h := fold_len (f := fun q (p : Pn) => insS q p.start) (fun q p => insS_len q p.start) pts []
  have h2 : (startsP pts).length ≤ ([] : List Int).length + pts.length := h
  simpa using h2
theorem rowsP_len (pts : List Pn) (s : Int) : (rowsP pts s).length ≤ pts.length := by
  have h := fold_len (f := insR) insR_len (pts.filter fun p => decide (p.start = s)) []
  have h2 := List.length_filter_le (fun p : Pn => decide (p.start = s)) pts
  have h3 : (rowsP pts s).length ≤ ([] : List Rw).length + (pts.filter fun p => decide (p.start = s)).length := h
  simp only [List.length_nil] at h3
  omega
def sumP (pts : List Pn) (i : Nat) : Nat := (((startsP pts).take i).map fun s => (rowsP pts s).length).sum
def manyP (pts : List Pn) : Nat := ((startsP pts).map fun s => (rowsP pts s).length).sum
theorem sumP_take {pts : List Pn} {i : Nat} (h : i < (startsP pts).length) : sumP pts (i + 1) = sumP pts i + (rowsP pts (g0 (startsP pts) i)).length := by
  unfold sumP
  rw [List.take_add_one, g0_some _ i h]
  simp
theorem sumP_le (pts : List Pn) (i : Nat) (h : pts.length ≤ 100000) : sumP pts i ≤ 10000000000 := by
  have h1 : ∀ l : List Int, (l.map fun s => (rowsP pts s).length).sum ≤ l.length * 100000 := by
    intro l
    induction l with
    | nil => exact Nat.le_refl _
    | cons a l ih =>
      have := rowsP_len pts a
      simp only [List.map_cons, List.sum_cons, List.length_cons]
      omega
  have h2 := h1 ((startsP pts).take i)
  have h3 := starts_len pts
  have h4 := List.length_take_le i (startsP pts)
  have h5 : ((startsP pts).take i).length ≤ 100000 := by rw [List.length_take]; omega
  unfold sumP
  omega
theorem manyP_of {pts : List Pn} {i : Nat} (h : (startsP pts).length ≤ i) : sumP pts i = manyP pts := by
  unfold sumP manyP
  rw [List.take_of_length_le h]
def dueP (width mark : Int) (pts : List Pn) (i : Nat) : Nat := (((startsP pts).take i).filter fun s => decide (s + width ≤ mark)).length
theorem dueP_le (width mark : Int) (pts : List Pn) (i : Nat) : dueP width mark pts i ≤ pts.length := by
  have h1 := List.length_filter_le (fun s => decide (s + width ≤ mark)) ((startsP pts).take i)
  have h3 := starts_len pts
  rw [List.length_take] at h1
  unfold dueP
  omega
theorem dueP_yes {width mark : Int} {pts : List Pn} {i : Nat} (h : i < (startsP pts).length) (hd : g0 (startsP pts) i + width ≤ mark) : dueP width mark pts (i + 1) = dueP width mark pts i + 1 := by
  unfold dueP
  rw [List.take_add_one, g0_some _ i h, List.filter_append]
  simp [hd]
theorem dueP_no {width mark : Int} {pts : List Pn} {i : Nat} (h : i < (startsP pts).length) (hd : ¬ g0 (startsP pts) i + width ≤ mark) : dueP width mark pts (i + 1) = dueP width mark pts i := by
  unfold dueP
  rw [List.take_add_one, g0_some _ i h, List.filter_append]
  simp [hd]
theorem dueP_of {width mark : Int} {pts : List Pn} {i : Nat} (h : (startsP pts).length ≤ i) : dueP width mark pts i = ((startsP pts).filter fun s => decide (s + width ≤ mark)).length := by
  unfold dueP
  rw [List.take_of_length_le h]
set_option maxRecDepth 100000 in
set_option maxHeartbeats 400000 in
theorem mny_f (m : Nat) (width windows rows seq : Int) (pts : List Pn) (AL : Option Addr) (cL : Nat) (FP : List Nat) (w : World) (HB : Blk w m #[.int .i64 width, .int .i64 windows, .int .i64 rows, .int .i64 seq, .slice AL pts.length cL] 59) (HP : VX cP 4 w FP AL pts) (hmP : m ∉ FP) (hpl : pts.length ≤ 100000) (hpv : ∀ p ∈ pts, I64 p.value) :
    Calls Tryz.prog 31 #[.pointer (some ⟨m, 0, none⟩)] w fun e w' => e = .returned (.int .i64 (manyP pts : Int)) ∧ Fr [] w w' := by
 have HA := Fr.refl [] w
 refine Ze Tryz.func31 _ <| Zsg <| Zr 1 <| Zdn <| Zsg <| Zr 1 <| Zc 7 (sts_f m width windows rows seq pts AL cL FP _ HB HP hmP hpl) ?_
 rintro _ w1 ⟨As, cs, Gs, rfl, HOs, hgs, F2⟩
 refine ⟨_, rfl, trivial, ?_⟩
 have hsl_ := starts_len pts
 have HVs := VX.of_own HOs
 have hgsr := fun y hy => Or.inr (a := y ∈ ([] : List Nat)) (hgs y hy)
 refine Zr 1 <| Zdn <| Zsg <| Zr 1 <| Zdn <| Zq <| Zsg <| Zr 1 <| Zdn <| WE.block <| WE.loop (α := Nat × Nat) (E := fun ⟨i, n⟩ => [(0, Pt m 0), (2, J 0), (3, .slice As ((startsP pts).length) cs), (4, J (n : Int)), (5, J (i : Int))]) (I := fun ⟨i, n⟩ wr => i ≤ (startsP pts).length ∧ n = sumP pts i ∧ Blk wr m #[J width, J windows, J rows, J seq, .slice AL pts.length cL] 59 ∧ VX cP 4 wr FP AL pts ∧ VX cI 1 wr Gs As (startsP pts) ∧ Fr [] w wr) (m := fun ⟨i, n⟩ => (startsP pts).length - i) (0, 0) [0, 2, 3, 4, 5] (by kernel_rfl) ?_ ?_
 ·
  exact ⟨Nat.zero_le _, by rfl, (HB.k F2), (HP.keep F2 dj0), HVs, (HA.step0 F2)⟩
 rintro ⟨i, n⟩ wr ⟨hi, hn, HB, HP, HVs, HA⟩
 have hnb_ := sumP_le pts i hpl
 refine Zq <| Zsg <| Zr 3 <| ZoP 11 (((i : Int) : Int) < ((startsP pts).length : Int)) ?_ ?_
 ·
  intro h3
  refine Zdn <| ZT <| Zk <| Zq <| WE.block <| WE.region <| Zr 4 ?_
  obtain ⟨ad4, hA5⟩ := HVs.addr (i := i) (by have := (rfl : List.length (startsP pts) = _); omega)
  refine Zio 18 ((startsP pts).length) 1 i (i : Int) hA5 <| Zl 19 (J (g0 (startsP pts) i)) (same (HVs.at0 hA5 (g0_some (startsP pts) i (by have := (rfl : List.length (startsP pts) = _); omega)) (by kernel_rfl))) <| Zc 20 (rwo_f m width windows rows seq pts AL cL FP (g0 (startsP pts) i) _ HB HP hmP hpl hpv) ?_
  rintro _ w6 ⟨qr, Ar, cr, Fr_, Gr_, rfl, hqr, HOr, HEr, hdr, hgr, hgr2, hir, F7⟩
  refine ⟨_, rfl, trivial, ?_⟩
  have hrl_ := rowsP_len pts (g0 (startsP pts) i)
  have hrq_ : qr.length = (rowsP pts (g0 (startsP pts) i)).length := by rw [← hqr, rws_len]
  refine Zr 1 <| Zw 22 ((n : Int) + (qr.length : Int)) ((n + qr.length : Nat) : Int) <| Zr 1 <| Zd <| WQ.blkN <| Zn <| WE.region <| Zr 1 <| Zw 13 ((i : Int) + 1) ((i + 1 : Nat) : Int) <| Zr 1 <| Zd <| WQ.round ?_
  intro a_ ha_
  refine ⟨(i + 1, n + qr.length), ?_, ha_.keep [0, 2, 3, 4, 5] (by kernel_rfl), ?_⟩
  ·
   show (startsP pts).length - (i + 1) < (startsP pts).length - i; omega
  ·
   exact ⟨by omega, by rw [sumP_take (by omega)]; omega, (HB.k F7), (HP.keep F7 dj0), (HVs.keep F7 dj0), (HA.step0 F7)⟩
 intro h3
 refine Zdn <| ZF <| WE.exit <| WQ.thenE <| WQ.thenE <| WQ.blkE <| Zn <| Zsg <| Zr 2 <| Zdn <| WE.ret <| ZR (J (n : Int)) ?_
 exact ⟨by rw [hn, manyP_of (by omega)], HA⟩
set_option maxRecDepth 100000 in
set_option maxHeartbeats 400000 in
theorem rdu_f (m : Nat) (width windows rows seq : Int) (pts : List Pn) (AL : Option Addr) (cL : Nat) (FP : List Nat) (mark : Int) (w : World) (HB : Blk w m #[.int .i64 width, .int .i64 windows, .int .i64 rows, .int .i64 seq, .slice AL pts.length cL] 59) (HP : VX cP 4 w FP AL pts) (hmP : m ∉ FP) (hpl : pts.length ≤ 100000) (hW : 1 ≤ width ∧ width ≤ 1099511627776) (hps : ∀ s ∈ startsP pts, 0 ≤ s ∧ s ≤ 1099511627776) :
    Calls Tryz.prog 26 #[.pointer (some ⟨m, 0, none⟩), .int .i64 mark] w fun e w' => e = .returned (.int .i64 ((startsP pts).filter fun s => decide (s + width ≤ mark)).length) ∧ Fr [] w w' := by
 have HA := Fr.refl [] w
 refine Ze Tryz.func26 _ <| Zsg <| Zr 1 <| Zdn <| Zsg <| Zr 1 <| Zc 9 (sts_f m width windows rows seq pts AL cL FP _ HB HP hmP hpl) ?_
 rintro _ w1 ⟨As, cs, Gs, rfl, HOs, hgs, F2⟩
 refine ⟨_, rfl, trivial, ?_⟩
 have hsl_ := starts_len pts
 have HVs := VX.of_own HOs
 have hgsr := fun y hy => Or.inr (a := y ∈ ([] : List Nat)) (hgs y hy)
 refine Zr 1 <| Zdn <| Zsg <| Zr 1 <| Zdn <| Zq <| Zsg <| Zr 1 <| Zdn <| WE.block <| WE.loop (α := Nat × Nat) (E := fun ⟨i, n⟩ => [(0, Pt m 0), (1, J mark), (4, J 0), (5, .slice As ((startsP pts).length) cs), (6, J (n : Int)), (7, J (i : Int))]) (I := fun ⟨i, n⟩ wr => i ≤ (startsP pts).length ∧ n = dueP width mark pts i ∧ Blk wr m #[J width, J windows, J rows, J seq, .slice AL pts.length cL] 59 ∧ VX cP 4 wr FP AL pts ∧ VX cI 1 wr Gs As (startsP pts) ∧ Fr [] w wr) (m := fun ⟨i, n⟩ => (startsP pts).length - i) (0, 0) [0, 1, 4, 5, 6, 7] (by kernel_rfl) ?_ ?_
 ·
  exact ⟨Nat.zero_le _, by rfl, (HB.k F2), (HP.keep F2 dj0), HVs, (HA.step0 F2)⟩
 rintro ⟨i, n⟩ wr ⟨hi, hn, HB, HP, HVs, HA⟩
 have hnb_ := dueP_le width mark pts i
 refine Zq <| Zsg <| Zr 3 <| ZoP 13 (((i : Int) : Int) < ((startsP pts).length : Int)) ?_ ?_
 ·
  intro h3
  refine Zdn <| ZT <| Zk <| Zq <| WE.block <| Zq ?_
  have hsb_ := hps _ (List.mem_of_getElem? (g0_some (startsP pts) i (by omega)))
  refine ZE [3, 7] [] [] 11 ?_
  intro w4 F5 _
  have HVs := HVs.keep F5 dj0
  refine Yq 0 2 ?_
  obtain ⟨ad6, hA7⟩ := HVs.addr (i := i) (by have := (rfl : List.length (startsP pts) = _); omega)
  have HB := HB.k F5
  refine Yio 2 18 ((startsP pts).length) 1 i (i : Int) hA7 <| Yl 3 19 (J (g0 (startsP pts) i)) (same (HVs.at0 hA7 (g0_some (startsP pts) i (by have := (rfl : List.length (startsP pts) = _); omega)) (by kernel_rfl))) <| Yq 4 3 <| Yl 7 23 (J width) (HB.s 0) <| Yr0 [8] [(24, J (IntKind.i64.wrap ((g0 (startsP pts) i) + width)))] <| WO.top (v' := J ((g0 (startsP pts) i) + width)) (wrap_i64 (by omega) (by omega)) <| Yr0 [9, 10] [(26, .bool (decide (((g0 (startsP pts) i) + width : Int) ≤ mark))), (25, J mark)] <| WO.topP (((g0 (startsP pts) i) + width : Int) ≤ mark) ?_ ?_
  ·
   intro h8
   refine Ydn <| ZT <| WE.region <| Zr 1 <| Zw 28 ((n : Int) + 1) ((n + 1 : Nat) : Int) <| Zr 1 <| Zd <| WQ.blkN <| Zn <| WE.region <| Zr 1 <| Zw 15 ((i : Int) + 1) ((i + 1 : Nat) : Int) <| Zr 1 <| Zd <| WQ.round ?_
   intro a_ ha_
   refine ⟨(i + 1, n + 1), ?_, ha_.keep [0, 1, 4, 5, 6, 7] (by kernel_rfl), ?_⟩
   ·
    show (startsP pts).length - (i + 1) < (startsP pts).length - i; omega
   ·
    exact ⟨by omega, by rw [dueP_yes (by omega) (by omega)]; omega, HB, (HP.keep F5 dj0), HVs, (HA.step0 F5)⟩
  intro h8
  refine Ydn <| ZF <| WE.skip <| WQ.blkN <| Zn <| WE.region <| Zr 1 <| Zw 15 ((i : Int) + 1) ((i + 1 : Nat) : Int) <| Zr 1 <| Zd <| WQ.round ?_
  intro a_ ha_
  refine ⟨(i + 1, n), ?_, ha_.keep [0, 1, 4, 5, 6, 7] (by kernel_rfl), ?_⟩
  ·
   show (startsP pts).length - (i + 1) < (startsP pts).length - i; omega
  ·
   exact ⟨by omega, by rw [dueP_no (by omega) (by omega)]; omega, HB, (HP.keep F5 dj0), HVs, (HA.step0 F5)⟩
 intro h3
 refine Zdn <| ZF <| WE.exit <| WQ.thenE <| WQ.thenE <| WQ.blkE <| Zn <| Zsg <| Zr 2 <| Zdn <| WE.ret <| ZR (J (n : Int)) ?_
 exact ⟨by rw [hn, dueP_of (by omega)], HA⟩
set_option maxRecDepth 100000 in
set_option maxHeartbeats 400000 in
theorem good_yes (m : Nat) (width windows rows seq : Int) (pts : List Pn) (AL : Option Addr) (cL : Nat) (FP : List Nat) (w : World) (HB : Blk w m #[.int .i64 width, .int .i64 windows, .int .i64 rows, .int .i64 seq, .slice AL pts.length cL] 59) (HP : VX cP 4 w FP AL pts) (hmP : m ∉ FP) (hpl : pts.length ≤ 100000) (hg : 1 ≤ width ∧ width ≤ 1099511627776 ∧ 1 ≤ windows ∧ windows ≤ 100 ∧ 1 ≤ rows ∧ rows ≤ 200 ∧ 0 ≤ seq ∧ seq ≤ 1000000) :
    Calls Tryz.prog 24 #[.pointer (some ⟨m, 0, none⟩)] w fun e w' => e = .returned (.bool true) ∧ Fr [] w w' := by
 have HA := Fr.refl [] w
 refine Ze Tryz.func24 _ <| Zsg <| Zr 1 <| Zdn <| Zsg <| Zr 3 <| Zl 6 (J width) (HB.s 0) <| ZoPT 7 ((width : Int) ≥ 1) (by omega) <| Zr 4 <| Zl 12 (J width) (HB.s 0) <| ZoPT 13 ((width : Int) ≤ 1099511627776) (by omega) <| Zr 5 <| Zl 19 (J windows) (HB.s 1) <| ZoPT 20 ((windows : Int) ≥ 1) (by omega) <| Zr 5 <| Zl 26 (J windows) (HB.s 1) <| ZoPT 27 ((windows : Int) ≤ 100) (by omega) <| Zr 5 <| Zl 33 (J rows) (HB.s 2) <| ZoPT 34 ((rows : Int) ≥ 1) (by omega) <| Zr 5 <| Zl 40 (J rows) (HB.s 2) <| ZoPT 41 ((rows : Int) ≤ 200) (by omega) <| Zr 5 <| Zl 47 (J seq) (HB.s 3) <| ZoPT 48 ((seq : Int) ≥ 0) (by omega) <| Zr 5 <| Zl 54 (J seq) (HB.s 3) <| Zr 3 <| Zdn <| WE.ret <| ZR (.bool (decide ((seq : Int) ≤ 1000000))) ?_
 exact ⟨by first | rfl | (simp; omega), HA⟩
set_option maxRecDepth 100000 in
set_option maxHeartbeats 400000 in
theorem good_no (m : Nat) (width windows rows seq : Int) (pts : List Pn) (AL : Option Addr) (cL : Nat) (FP : List Nat) (w : World) (HB : Blk w m #[.int .i64 width, .int .i64 windows, .int .i64 rows, .int .i64 seq, .slice AL pts.length cL] 59) (HP : VX cP 4 w FP AL pts) (hmP : m ∉ FP) (hpl : pts.length ≤ 100000) (hbad : ¬ (1 ≤ width ∧ width ≤ 1099511627776 ∧ 1 ≤ windows ∧ windows ≤ 100 ∧ 1 ≤ rows ∧ rows ≤ 200 ∧ 0 ≤ seq ∧ seq ≤ 1000000)) :
    Calls Tryz.prog 24 #[.pointer (some ⟨m, 0, none⟩)] w fun e w' => e = .returned (.bool false) ∧ Fr [] w w' := by
 have HA := Fr.refl [] w
 refine Ze Tryz.func24 _ <| Zsg <| Zr 1 <| Zdn <| Zsg <| Zr 3 <| Zl 6 (J width) (HB.s 0) <| ZoP 7 ((width : Int) ≥ 1) ?_ ?_
 ·
  intro h1
  refine Zr 4 <| Zl 12 (J width) (HB.s 0) <| ZoP 13 ((width : Int) ≤ 1099511627776) ?_ ?_
  ·
   intro h2
   refine Zr 5 <| Zl 19 (J windows) (HB.s 1) <| ZoP 20 ((windows : Int) ≥ 1) ?_ ?_
   ·
    intro h3
    refine Zr 5 <| Zl 26 (J windows) (HB.s 1) <| ZoP 27 ((windows : Int) ≤ 100) ?_ ?_
    ·
     intro h4
     refine Zr 5 <| Zl 33 (J rows) (HB.s 2) <| ZoP 34 ((rows : Int) ≥ 1) ?_ ?_
     ·
      intro h5
      refine Zr 5 <| Zl 40 (J rows) (HB.s 2) <| ZoP 41 ((rows : Int) ≤ 200) ?_ ?_
      ·
       intro h6
       refine Zr 5 <| Zl 47 (J seq) (HB.s 3) <| ZoP 48 ((seq : Int) ≥ 0) ?_ ?_
       ·
        intro h7
        refine Zr 5 <| Zl 54 (J seq) (HB.s 3) <| Zr 3 <| Zdn <| WE.ret <| ZR (.bool (decide ((seq : Int) ≤ 1000000))) ?_
        exact ⟨by first | rfl | (simp; omega) | exact absurd hbad (by omega), HA⟩
       intro h7
       refine Zr 9 <| Zdn <| WE.ret <| ZR (.bool false) ?_
       exact ⟨by first | rfl | (simp; omega) | exact absurd hbad (by omega), HA⟩
      intro h6
      refine Zr 16 <| Zdn <| WE.ret <| ZR (.bool false) ?_
      exact ⟨by first | rfl | (simp; omega) | exact absurd hbad (by omega), HA⟩
     intro h5
     refine Zr 23 <| Zdn <| WE.ret <| ZR (.bool false) ?_
     exact ⟨by first | rfl | (simp; omega) | exact absurd hbad (by omega), HA⟩
    intro h4
    refine Zr 30 <| Zdn <| WE.ret <| ZR (.bool false) ?_
    exact ⟨by first | rfl | (simp; omega) | exact absurd hbad (by omega), HA⟩
   intro h3
   refine Zr 37 <| Zdn <| WE.ret <| ZR (.bool false) ?_
   exact ⟨by first | rfl | (simp; omega) | exact absurd hbad (by omega), HA⟩
  intro h2
  refine Zr 44 <| Zdn <| WE.ret <| ZR (.bool false) ?_
  exact ⟨by first | rfl | (simp; omega) | exact absurd hbad (by omega), HA⟩
 intro h1
 refine Zr 50 <| Zdn <| WE.ret <| ZR (.bool false) ?_
 exact ⟨by first | rfl | (simp; omega) | exact absurd hbad (by omega), HA⟩
end Go.Proofs.YtdhonbahpcmmnaaGreatDoor.Bat
end
section
set_option linter.unusedVariables false
set_option linter.unusedSimpArgs false
namespace Go.Proofs.YtdhonbahpcmmnaaGreatDoor.Bat
open Go Go.RowKit Go.Proofs.YtdhonbahpcmmnaaGreatDoor Go.Proofs.YtdhonbahpcmmnaaGreatDoor.Eng Go.Proofs.YtdhonbahpcmmnaaGreatDoorW.PrintWords
open Go.Proofs Go.Maps
open Go.Proofs.YtdhonbahpcmmnaaGreatDoor.Line
def leftP (pts : List Pn) (s : Int) : List Pn := pts.filter fun p => decide (p.start ≠ s)
theorem leftP_len (pts : List Pn) (s : Int) : (leftP pts s).length ≤ pts.length := List.length_filter_le _ _
theorem left_yes {pts : List Pn} {i : Nat} {s : Int} (h : i < pts.length) (hn : ¬ (gP pts i).start = s) : leftP (pts.take (i + 1)) s = leftP (pts.take i) s ++ [gP pts i] := by
  unfold leftP
  rw [List.take_add_one, gP_some pts i h, List.filter_append]
  simp [hn]
theorem left_no {pts : List Pn} {i : Nat} {s : Int} (h : i < pts.length) (hn : (gP pts i).start = s) : leftP (pts.take (i + 1)) s = leftP (pts.take i) s := by
  unfold leftP
  rw [List.take_add_one, gP_some pts i h, List.filter_append]
  simp [hn]
set_option maxRecDepth 100000 in
set_option maxHeartbeats 400000 in
theorem rcl_no (m : Nat) (width windows rows seq : Int) (pts : List Pn) (AL : Option Addr) (cL : Nat) (FP : List Nat) (mark : Int) (w : World) (HB : Blk w m #[.int .i64 width, .int .i64 windows, .int .i64 rows, .int .i64 seq, .slice AL pts.length cL] 59) (HP : VX cP 4 w FP AL pts) (hmP : m ∉ FP) (hpl : pts.length ≤ 100000) (hpv : ∀ p ∈ pts, I64 p.value) (hW : 1 ≤ width ∧ width ≤ 1099511627776) (hps : ∀ s ∈ startsP pts, 0 ≤ s ∧ s ≤ 1099511627776) (hds : ((startsP pts).filter fun s => decide (s + width ≤ mark)).length = 0) :
    Calls Tryz.prog 27 #[.pointer (some ⟨m, 0, none⟩), .int .i64 mark] w fun e w' => e = .returned (.tuple #[.agg #[.int .i64 0, .int .i64 0, .slice none 0 0], .bool false]) ∧ Fr [] w w' := by
 have HA := Fr.refl [] w
 refine Ze Tryz.func27 _ <| Zsg <| Zb 4 #[J 0, J 0, .slice none 0 0] 24 (fun g => Pt g 0) ?_
 intro g1 w2 HB4 F3 le5 _
 have ge_HA_g1 := Nat.le_trans HA.size le5
 refine Zr 1 <| Zdn <| Zq <| Zsg <| Zr 2 <| Zcf 12 (rdu_f m width windows rows seq pts AL cL FP mark _ (HB.k F3) (HP.keep F3 dj0) hmP hpl hW hps) ?_
 intro w6 F7
 have hdl_ : ((startsP pts).filter fun s => decide (s + width ≤ mark)).length ≤ (startsP pts).length := List.length_filter_le _ _
 have hsl0_ := starts_len pts
 refine ZoPT 13 ((((((startsP pts).filter fun s => decide (s + width ≤ mark)).length) : Int) : Int) = (0 : Int)) (by omega) <| Zdn <| ZT <| Zsg <| Zr 1 <| Zst g1 0 #[J 0, J 0, .slice none 0 0] (HB4.k F7) ?_
 intro w8 HB10 F9 _
 refine Zr 1 <| Zdn <| WE.ret <| WQ.thenR <| WQ.ret2 (fn := Tryz.f27) (show Tryz.f27.results = #[.cell 4 24, .tmp 5] by kernel_rfl) (show resOk _ _ _ _ (.agg #[J 0, J 0, .slice none 0 0]) from ⟨by kernel_rfl, ⟨g1, 0, none⟩, by kernel_rfl, ldVarB [J 0, J 0, .slice none 0 0] (by kernel_rfl) (by kernel_rfl) (by kernel_rfl) HB10 (by kernel_rfl)⟩) (show resOk _ _ _ _ (.bool false) from ⟨by kernel_rfl, by kernel_rfl⟩) ?_
 exact ⟨rfl, (((HA.step0 F3).step0 F7).step F9 (inSR ge_HA_g1 inS0))⟩
set_option maxRecDepth 100000 in
set_option maxHeartbeats 400000 in
theorem rcl_yes (m : Nat) (width windows rows seq : Int) (pts : List Pn) (AL : Option Addr) (cL : Nat) (FP : List Nat) (mark : Int) (w : World) (HB : Blk w m #[.int .i64 width, .int .i64 windows, .int .i64 rows, .int .i64 seq, .slice AL pts.length cL] 59) (HP : VX cP 4 w FP AL pts) (hmP : m ∉ FP) (hpl : pts.length ≤ 100000) (hpv : ∀ p ∈ pts, I64 p.value) (hW : 1 ≤ width ∧ width ≤ 1099511627776) (hps : ∀ s ∈ startsP pts, 0 ≤ s ∧ s ≤ 1099511627776) (hds : 1 ≤ ((startsP pts).filter fun s => decide (s + width ≤ mark)).length) (hsq : 0 ≤ seq ∧ seq ≤ 1000000000) :
    Calls Tryz.prog 27 #[.pointer (some ⟨m, 0, none⟩), .int .i64 mark] w fun e w' => ∃ (qr : List RX) (A' : Option Addr) (c' : Nat) (F' G' : List Nat) (ys : List Pn) (AL' : Option Addr) (cL' : Nat) (FP' : List Nat), e = .returned (.tuple #[.agg #[.int .i64 seq, .int .i64 (g0 (startsP pts) 0), .slice A' qr.length c'], .bool true]) ∧ rws qr = rowsP pts (g0 (startsP pts) 0) ∧ VX cW 8 w' F' A' qr ∧ EV w' G' qr ∧ (∀ y ∈ G', y ∉ F') ∧ qr.length ≤ c' ∧ (∀ y ∈ F', w.heap.size ≤ y) ∧ (∀ y ∈ G', w.heap.size ≤ y) ∧ (∀ x ∈ qr, x.1.In ∧ x.1.bk.length ≤ 65 ∧ 1 ≤ x.1.many) ∧ ys = leftP pts (g0 (startsP pts) 0) ∧ Blk w' m #[.int .i64 width, .int .i64 windows, .int .i64 rows, .int .i64 (seq + 1), .slice AL' ys.length cL'] 59 ∧ VX cP 4 w' FP' AL' ys ∧ m ∉ FP' ∧ (∀ y ∈ FP', y ∉ F') ∧ (∀ y ∈ FP', y ∉ G') ∧ (∀ y ∈ FP', w.heap.size ≤ y) ∧ Fr [m] w w' := by
 have HA := Fr.refl [m] w
 refine Ze Tryz.func27 _ <| Zsg <| Zb 4 #[J 0, J 0, .slice none 0 0] 24 (fun g => Pt g 0) ?_
 intro g1 w2 HB4 F3 le5 _
 have ne_m_g1 := ltn HB.lt le5
 have ge_HA_g1 := Nat.le_trans HA.size le5
 have HB := HB.k F3
 have HP := HP.keep F3 dj0
 refine Zr 1 <| Zdn <| Zq <| Zsg <| Zr 2 <| Zcf 12 (rdu_f m width windows rows seq pts AL cL FP mark _ HB HP hmP hpl hW hps) ?_
 intro w6 F7
 have hdl_ : ((startsP pts).filter fun s => decide (s + width ≤ mark)).length ≤ (startsP pts).length := List.length_filter_le _ _
 have hsl0_ := starts_len pts
 have HB := HB.k F7
 have HP := HP.keep F7 dj0
 refine ZoPF 13 ((((((startsP pts).filter fun s => decide (s + width ≤ mark)).length) : Int) : Int) = (0 : Int)) (by omega) <| Zdn <| ZF <| Zk <| Zsg <| Zr 1 <| Zc 16 (sts_f m width windows rows seq pts AL cL FP _ HB HP hmP hpl) ?_
 rintro _ w8 ⟨As, cs, Gs, rfl, HOs, hgs, F9⟩
 refine ⟨_, rfl, trivial, ?_⟩
 have hsl_ := starts_len pts
 have HVs := VX.of_own HOs
 have hgsr := fun y hy => Or.inr (a := y ∈ ([] : List Nat)) (hgs y hy)
 obtain ⟨ad10, hA11⟩ := HVs.addr (i := 0) (by have := (rfl : List.length (startsP pts) = _); omega)
 refine Zio 17 ((startsP pts).length) 1 0 0 hA11 <| Zl 18 (J (g0 (startsP pts) 0)) (same (HVs.at0 hA11 (g0_some (startsP pts) 0 (by have := (rfl : List.length (startsP pts) = _); omega)) (by kernel_rfl))) <| Zr 1 <| Zdn <| Zq ?_
 have hz12 : (World.heap w8).size ≤ (World.heap w8).size := Nat.le_refl _
 have HB := HB.k F9
 have ltz_m := HB.lt
 refine ZER (FrB (World.heap w8).size) [3] [7, 9] [10] 11 ?_
 intro w13 F14 _
 have HB := HB.k F14
 have HA := (((HA.step0 F3).step0 F7).step0 F9).step0 F14
 have HB4 := ((HB4.k F7).k F9).k F14
 have HP := (HP.keep F9 dj0).keep F14 dj0
 refine Yq 0 3 <| Yl 3 22 (J seq) (fun _ k => (HB.keepB k ltz_m).at 3 (by kernel_rfl)) <| Yq 4 3 <| WO.toX <| WO.fork2 7 9 (by kernel_rfl) ?_ ?_
 ·
  refine WO.call (SAx.nowR _ 7 _ (by kernel_rfl) rfl) 26 (by kernel_rfl) (rwo_f m width windows rows seq pts AL cL FP (g0 (startsP pts) 0) _ HB HP hmP hpl hpv) ?_
  rintro _ w15 ⟨qr, Ar, cr, Fr_, Gr_, rfl, hqr, HOr, HEr, hdr, hgr, hgr2, hir, F16⟩
  have hz12 := Nat.le_trans hz12 F14.size
  refine ⟨_, rfl, (frB_of hz12 (by simp)) _ F16, ?_⟩
  have hrl_ := rowsP_len pts (g0 (startsP pts) 0)
  have hrq_ : qr.length = (rowsP pts (g0 (startsP pts) 0)).length := by rw [← hqr, rws_len]
  have HVr := VX.of_own HOr
  have hcr_ := own_cap HOr (List.length_map _)
  have hgrr := fun y hy => Or.inr (a := y ∈ ([] : List Nat)) (hgr y hy)
  have nin_m_Fr_ := grow_nin hgrr (nin0 _) HB.lt
  have nin_g1_Fr_ := grow_nin hgrr (nin0 _) HB4.lt
  have ge_HA_Fr_ := grow_ge hgrr (by simp) HA.size
  have hgr2r := fun y hy => Or.inr (a := y ∈ ([] : List Nat)) (hgr2 y hy)
  have nin_m_Gr_ := grow_nin hgr2r (nin0 _) HB.lt
  have nin_g1_Gr_ := grow_nin hgr2r (nin0 _) HB4.lt
  have ge_HA_Gr_ := grow_ge hgr2r (by simp) HA.size
  refine WO.one (SAx.F (SA.F (frBR _) (frBT _) _ 8 _ (by kernel_rfl))) 27 (.agg #[J seq, J (g0 (startsP pts) 0), .slice Ar qr.length cr]) (by kernel_rfl) <| WO.bx (SAx.E (SA.ER _ 9 _ (by kernel_rfl) rfl)) 7 #[J 0, J 0, .slice none 0 0] 24 (fun g => Pt g 0) (by kernel_rfl) (frB_of (Nat.le_trans hz12 F16.size) (by simp)) ?_
  intro g17 w18 HB20 F19 le21 _
  have HB := HB.k F16
  have ne_m_g17 := ltn HB.lt le21
  have HB4 := HB4.k F16
  have ne_g1_g17 := ltn HB4.lt le21
  have HP := HP.keep F16 dj0
  have nin_g17_FP := new_nin HP.lt le21
  have HVs := (HVs.keep F14 dj0).keep F16 dj0
  have nin_g17_Gs := new_nin HVs.lt le21
  have nin_g17_Fr_ := new_nin HVr.lt le21
  have nin_g17_Gr_ := new_nin HEr.lt le21
  have HA := HA.step0 F16
  have ge_HA_g17 := Nat.le_trans HA.size le21
  refine WO.st (SAx.E (SA.E _ 10 _ (by kernel_rfl) rfl)) g17 0 [J seq, J (g0 (startsP pts) 0), .slice Ar qr.length cr] #[J seq, J (g0 (startsP pts) 0), .slice Ar qr.length cr] (by kernel_rfl) HB20 (by kernel_rfl) (by kernel_rfl) (fun _ _ => trivial) ?_
  intro w22 HB24 F23 _
  refine WO.doneX (by kernel_rfl) <| Zn <| Zsg <| Zr 1 <| Zdn <| Zq <| Zsg <| Zr 1 <| Zdn <| WE.block <| WE.loop (α := Nat × List Nat × Option Addr × Nat × List Pn) (E := fun ⟨i, FO, AO, cO, ys⟩ => [(0, Pt m 0), (4, Pt g1 0), (5, .bool false), (6, J (g0 (startsP pts) 0)), (7, Pt g17 0), (8, .slice AO ys.length cO), (9, J (i : Int))]) (I := fun ⟨i, FO, AO, cO, ys⟩ wr => i ≤ pts.length ∧ ys = leftP (pts.take i) (g0 (startsP pts) 0) ∧ Blk wr m #[J width, J windows, J rows, J seq, .slice AL pts.length cL] 59 ∧ Blk wr g1 #[J 0, J 0, .slice none 0 0] 24 ∧ Blk wr g17 #[J seq, J (g0 (startsP pts) 0), .slice Ar qr.length cr] 24 ∧ VX cP 4 wr FP AL pts ∧ VX cI 1 wr Gs As (startsP pts) ∧ VX cW 8 wr Fr_ Ar qr ∧ EV wr Gr_ qr ∧ OwnX 109 4 wr FO (.slice AO ys.length cO) (List.map cP ys) ∧ m ∉ FO ∧ g1 ∉ FO ∧ g17 ∉ FO ∧ (∀ y ∈ FO, y ∉ FP) ∧ (∀ y ∈ FO, y ∉ Gs) ∧ (∀ y ∈ FO, y ∉ Fr_) ∧ (∀ y ∈ FO, y ∉ Gr_) ∧ (∀ y ∈ FO, (World.heap w).size ≤ y) ∧ Fr [m] w wr) (m := fun ⟨i, FO, AO, cO, ys⟩ => pts.length - i) (0, [], none, 0, []) [0, 4, 5, 6, 7, 8, 9] (by kernel_rfl) ?_ ?_
  ·
   exact ⟨Nat.zero_le _, by rfl, ((HB.k F19).j F23 ne_m_g17), ((HB4.k F19).j F23 ne_g1_g17), HB24, ((HP.keep F19 dj0).keep F23 (djB nin_g17_FP)), ((HVs.keep F19 dj0).keep F23 (djB nin_g17_Gs)), ((HVr.keep F19 dj0).keep F23 (djB nin_g17_Fr_)), ((HEr.keep F19 dj0).keep F23 (djB nin_g17_Gr_)), OwnX.nil _ _ _, (by simp), (by simp), (by simp), (by simp), (by simp), (by simp), (by simp), (by simp), ((HA.step0 F19).step F23 (inSR ge_HA_g17 inS0))⟩
  rintro ⟨i, FO, AO, cO, ys⟩ wr ⟨hi, hys, HB, HB4, HB24, HP, HVs, HVr, HEr, HO_FO, nin_m_FO, nin_g1_FO, nin_g17_FO, dj_FO_FP, dj_FO_Gs, dj_FO_Fr_, dj_FO_Gr_, ge_HA_FO, HA⟩
  have hyl_ : ys.length ≤ pts.length := by rw [hys]; exact Nat.le_trans (leftP_len _ _) (by rw [List.length_take]; omega)
  refine Zq <| Zsg <| Zr 4 <| Zl 32 (.slice AL pts.length cL) (HB.s 4) <| Zr 1 <| ZoP 34 (((i : Int) : Int) < (pts.length : Int)) ?_ ?_
  ·
   intro h25
   refine Zdn <| ZT <| Zk <| Zq <| WE.block <| Zsg <| Zr 3 <| Zl 40 (.slice AL pts.length cL) (HB.s 4) <| Zr 1 ?_
   obtain ⟨ad26, hA27⟩ := HP.addr (i := i) (by have := (rfl : List.length pts = _); omega)
   refine Zio 42 pts.length 4 i (i : Int) hA27 <| Zr 1 <| Zl 44 (J ((gP pts i).start)) (same (HP.at0 hA27 (gP_some pts i (by have := (rfl : List.length pts = _); omega)) (by kernel_rfl))) <| Zr 1 <| ZoN 46 (((gP pts i).start : Int) = (g0 (startsP pts) 0)) ?_ ?_
   ·
    intro h28
    refine Zdn <| ZF <| WE.skip <| WQ.blkN <| Zn <| WE.region <| Zr 1 <| Zw 36 ((i : Int) + 1) ((i + 1 : Nat) : Int) <| Zr 1 <| Zd <| WQ.round ?_
    intro a_ ha_
    refine ⟨(i + 1, FO, AO, cO, ys), ?_, ha_.keep [0, 4, 5, 6, 7, 8, 9] (by kernel_rfl), ?_⟩
    ·
     show pts.length - (i + 1) < pts.length - i; omega
    ·
     exact ⟨by omega, by rw [left_no (by omega) (by omega), ← hys], HB, HB4, HB24, HP, HVs, HVr, HEr, HO_FO, nin_m_FO, nin_g1_FO, nin_g17_FO, dj_FO_FP, dj_FO_Gs, dj_FO_Fr_, dj_FO_Gr_, ge_HA_FO, HA⟩
   intro h28
   refine Zdn <| ZT <| WE.region <| Zr 4 <| Zl 51 (.slice AL pts.length cL) (HB.s 4) <| Zr 1 ?_
   obtain ⟨ad29, hA30⟩ := HP.addr (i := i) (by have := (rfl : List.length pts = _); omega)
   refine Zio 53 pts.length 4 i (i : Int) hA30 <| Zla (ad := (ad29.add (i * 4))) 54 [J ((gP pts i).start), .string (str (gP pts i).key), J ((gP pts i).kind), J ((gP pts i).value)] (fun _ hw_ _ hj_ => by subst hw_; exact HP.part0 hA30 (gP_some pts i (by have := (rfl : List.length pts = _); omega)) [J ((gP pts i).start), .string (str (gP pts i).key), J ((gP pts i).kind), J ((gP pts i).value)] (by kernel_rfl) _ hj_) <| Zb 55 #[J ((gP pts i).start), .string (str (gP pts i).key), J ((gP pts i).kind), J ((gP pts i).value)] 109 (fun g => .slice (some ⟨g, 0, none⟩) 1 1) ?_
   intro g31 w32 HB34 F33 le35 _
   refine Zax (m := 1) (ys := List.map cP ([(⟨(gP pts i).start, (gP pts i).key, (gP pts i).kind, (gP pts i).value⟩ : Pn)])) 56 et_p (HO_FO.keep F33 dj0) (RowB.src (RowB.of_blk (n := 1) HB34 (List.map cP [(⟨(gP pts i).start, (gP pts i).key, (gP pts i).kind, (gP pts i).value⟩ : Pn)]) rfl rfl (cP_len _) (cP_one _) (by omega))) (cP_len _) (cP_one _) ?_
   intro v41 w42 G43 HO44 F45 hg46
   rw [← List.map_append] at HO44
   have HB := HB.k F33
   have nin_m_G43 := grow_nin hg46 nin_m_FO HB.lt
   have HB4 := HB4.k F33
   have nin_g1_G43 := grow_nin hg46 nin_g1_FO HB4.lt
   have HB24 := HB24.k F33
   have nin_g17_G43 := grow_nin hg46 nin_g17_FO HB24.lt
   have HP := HP.keep F33 dj0
   have dj_G43_FP := grow_dj hg46 dj_FO_FP HP.lt
   have HVs := HVs.keep F33 dj0
   have dj_G43_Gs := grow_dj hg46 dj_FO_Gs HVs.lt
   have HVr := HVr.keep F33 dj0
   have dj_G43_Fr_ := grow_dj hg46 dj_FO_Fr_ HVr.lt
   have HEr := HEr.keep F33 dj0
   have dj_G43_Gr_ := grow_dj hg46 dj_FO_Gr_ HEr.lt
   have HA := HA.step0 F33
   have ge_HA_G43 := grow_ge hg46 ge_HA_FO HA.size
   obtain ⟨A47, cap48, rfl⟩ := HO44.sliceN (List.length_map _)
   have := @List.length_append _ ys ([(⟨(gP pts i).start, (gP pts i).key, (gP pts i).kind, (gP pts i).value⟩ : Pn)])
   refine Zr 1 <| Zd <| WQ.blkN <| Zn <| WE.region <| Zr 1 <| Zw 36 ((i : Int) + 1) ((i + 1 : Nat) : Int) <| Zr 1 <| Zd <| WQ.round ?_
   intro a_ ha_
   refine ⟨(i + 1, G43, A47, cap48, (ys ++ [(⟨(gP pts i).start, (gP pts i).key, (gP pts i).kind, (gP pts i).value⟩ : Pn)])), ?_, ha_.keep [0, 4, 5, 6, 7, 8, 9] (by kernel_rfl), ?_⟩
   ·
    show pts.length - (i + 1) < pts.length - i; omega
   ·
    exact ⟨by omega, by rw [left_yes (by omega) (by omega), ← hys], (HB.keep F45 nin_m_FO), (HB4.keep F45 nin_g1_FO), (HB24.keep F45 nin_g17_FO), (HP.keep F45 (dj_symm dj_FO_FP)), (HVs.keep F45 (dj_symm dj_FO_Gs)), (HVr.keep F45 (dj_symm dj_FO_Fr_)), (HEr.keep F45 (dj_symm dj_FO_Gr_)), HO44, nin_m_G43, nin_g1_G43, nin_g17_G43, dj_G43_FP, dj_G43_Gs, dj_G43_Fr_, dj_G43_Gr_, ge_HA_G43, (HA.step F45 (inF ge_HA_FO))⟩
  intro h25
  refine Zdn <| ZF <| WE.exit <| WQ.thenE <| WQ.thenE <| WQ.blkE <| Zn <| Zsg <| Zr 4 <| Zst m 4 #[J width, J windows, J rows, J seq, .slice AO ys.length cO] HB ?_
  intro w49 HB51 F50 _
  refine Zdn <| Zsg <| Zr 4 <| Zl 65 (J seq) (HB51.s 3) <| Zw 66 (seq + 1) (seq + 1) <| Zr 2 <| Zst m 3 #[J width, J windows, J rows, J (seq + 1), .slice AO ys.length cO] HB51 ?_
  intro w52 HB54 F53 _
  refine Zdn <| Zsg <| Zlb 69 [J seq, J (g0 (startsP pts) 0), .slice Ar qr.length cr] g17 0 (same ((HB24.j F50 (Ne.symm ne_m_g17)).j F53 (Ne.symm ne_m_g17))) <| Zst g1 0 #[J seq, J (g0 (startsP pts) 0), .slice Ar qr.length cr] ((HB4.j F50 (Ne.symm ne_m_g1)).j F53 (Ne.symm ne_m_g1)) ?_
  intro w55 HB57 F56 _
  refine Zr 1 <| Zdn <| WE.ret <| WQ.ret2 (fn := Tryz.f27) (show Tryz.f27.results = #[.cell 4 24, .tmp 5] by kernel_rfl) (show resOk _ _ _ _ (.agg #[J seq, J (g0 (startsP pts) 0), .slice Ar qr.length cr]) from ⟨by kernel_rfl, ⟨g1, 0, none⟩, by kernel_rfl, ldVarB [J seq, J (g0 (startsP pts) 0), .slice Ar qr.length cr] (by kernel_rfl) (by kernel_rfl) (by kernel_rfl) HB57 (by kernel_rfl)⟩) (show resOk _ _ _ _ (.bool true) from ⟨by kernel_rfl, by kernel_rfl⟩) ?_
  have hys_ : ys = leftP pts (g0 (startsP pts) 0) := by rw [hys, List.take_of_length_le (by omega)]
  exact ⟨qr, Ar, cr, Fr_, Gr_, ys, AO, cO, FO, rfl, hqr, (((HVr.keep F50 (djB nin_m_Fr_)).keep F53 (djB nin_m_Fr_)).keep F56 (djB nin_g1_Fr_)), (((HEr.keep F50 (djB nin_m_Gr_)).keep F53 (djB nin_m_Gr_)).keep F56 (djB nin_g1_Gr_)), hdr, hcr_, ge_HA_Fr_, ge_HA_Gr_, hir, hys_, (HB54.j F56 ne_m_g1), VX.of_own (((HO_FO.keep F50 (djB nin_m_FO)).keep F53 (djB nin_m_FO)).keep F56 (djB nin_g1_FO)), nin_m_FO, dj_FO_Fr_, dj_FO_Gr_, ge_HA_FO, (((HA.step F50 (inSL (by simp) inS0)).step F53 (inSL (by simp) inS0)).step F56 (inSR ge_HA_g1 inS0))⟩
 ·
  have hz12 := Nat.le_trans hz12 F14.size
  refine WO.bx (SAx.nowR _ 9 _ (by kernel_rfl) rfl) 7 #[J 0, J 0, .slice none 0 0] 24 (fun g => Pt g 0) (by kernel_rfl) (frB_of hz12 (by simp)) ?_
  intro g58 w59 HB61 F60 le62 _
  have ne_m_g58 := ltn HB.lt le62
  have ne_g1_g58 := ltn HB4.lt le62
  have nin_g58_FP := new_nin HP.lt le62
  have HVs := HVs.keep F14 dj0
  have nin_g58_Gs := new_nin HVs.lt le62
  have ge_HA_g58 := Nat.le_trans HA.size le62
  have HB := HB.k F60
  have HP := HP.keep F60 dj0
  refine WO.call (SAx.E (SA.ER _ 7 _ (by kernel_rfl) rfl)) 26 (by kernel_rfl) (rwo_f m width windows rows seq pts AL cL FP (g0 (startsP pts) 0) _ HB HP hmP hpl hpv) ?_
  rintro _ w63 ⟨qr, Ar, cr, Fr_, Gr_, rfl, hqr, HOr, HEr, hdr, hgr, hgr2, hir, F64⟩
  refine ⟨_, rfl, (frB_of (Nat.le_trans hz12 F60.size) (by simp)) _ F64, ?_⟩
  have hrl_ := rowsP_len pts (g0 (startsP pts) 0)
  have hrq_ : qr.length = (rowsP pts (g0 (startsP pts) 0)).length := by rw [← hqr, rws_len]
  have HVr := VX.of_own HOr
  have hcr_ := own_cap HOr (List.length_map _)
  have hgrr := fun y hy => Or.inr (a := y ∈ ([] : List Nat)) (hgr y hy)
  have nin_m_Fr_ := grow_nin hgrr (nin0 _) HB.lt
  have HB4 := HB4.k F60
  have nin_g1_Fr_ := grow_nin hgrr (nin0 _) HB4.lt
  have nin_g58_Fr_ := grow_nin hgrr (nin0 _) HB61.lt
  have HA := HA.step0 F60
  have ge_HA_Fr_ := grow_ge hgrr (by simp) HA.size
  have hgr2r := fun y hy => Or.inr (a := y ∈ ([] : List Nat)) (hgr2 y hy)
  have nin_m_Gr_ := grow_nin hgr2r (nin0 _) HB.lt
  have nin_g1_Gr_ := grow_nin hgr2r (nin0 _) HB4.lt
  have nin_g58_Gr_ := grow_nin hgr2r (nin0 _) HB61.lt
  have ge_HA_Gr_ := grow_ge hgr2r (by simp) HA.size
  refine WO.one (SAx.F (SA.F (frBR _) (frBT _) _ 8 _ (by kernel_rfl))) 27 (.agg #[J seq, J (g0 (startsP pts) 0), .slice Ar qr.length cr]) (by kernel_rfl) <| WO.st (SAx.E (SA.E _ 10 _ (by kernel_rfl) rfl)) g58 0 [J seq, J (g0 (startsP pts) 0), .slice Ar qr.length cr] #[J seq, J (g0 (startsP pts) 0), .slice Ar qr.length cr] (by kernel_rfl) (HB61.k F64) (by kernel_rfl) (by kernel_rfl) (fun _ _ => trivial) ?_
  intro w65 HB67 F66 _
  refine WO.doneX (by kernel_rfl) <| Zn <| Zsg <| Zr 1 <| Zdn <| Zq <| Zsg <| Zr 1 <| Zdn <| WE.block <| WE.loop (α := Nat × List Nat × Option Addr × Nat × List Pn) (E := fun ⟨i, FO, AO, cO, ys⟩ => [(0, Pt m 0), (4, Pt g1 0), (5, .bool false), (6, J (g0 (startsP pts) 0)), (7, Pt g58 0), (8, .slice AO ys.length cO), (9, J (i : Int))]) (I := fun ⟨i, FO, AO, cO, ys⟩ wr => i ≤ pts.length ∧ ys = leftP (pts.take i) (g0 (startsP pts) 0) ∧ Blk wr m #[J width, J windows, J rows, J seq, .slice AL pts.length cL] 59 ∧ Blk wr g1 #[J 0, J 0, .slice none 0 0] 24 ∧ Blk wr g58 #[J seq, J (g0 (startsP pts) 0), .slice Ar qr.length cr] 24 ∧ VX cP 4 wr FP AL pts ∧ VX cI 1 wr Gs As (startsP pts) ∧ VX cW 8 wr Fr_ Ar qr ∧ EV wr Gr_ qr ∧ OwnX 109 4 wr FO (.slice AO ys.length cO) (List.map cP ys) ∧ m ∉ FO ∧ g1 ∉ FO ∧ g58 ∉ FO ∧ (∀ y ∈ FO, y ∉ FP) ∧ (∀ y ∈ FO, y ∉ Gs) ∧ (∀ y ∈ FO, y ∉ Fr_) ∧ (∀ y ∈ FO, y ∉ Gr_) ∧ (∀ y ∈ FO, (World.heap w).size ≤ y) ∧ Fr [m] w wr) (m := fun ⟨i, FO, AO, cO, ys⟩ => pts.length - i) (0, [], none, 0, []) [0, 4, 5, 6, 7, 8, 9] (by kernel_rfl) ?_ ?_
  ·
   exact ⟨Nat.zero_le _, by rfl, ((HB.k F64).j F66 ne_m_g58), ((HB4.k F64).j F66 ne_g1_g58), HB67, ((HP.keep F64 dj0).keep F66 (djB nin_g58_FP)), (((HVs.keep F60 dj0).keep F64 dj0).keep F66 (djB nin_g58_Gs)), (HVr.keep F66 (djB nin_g58_Fr_)), (HEr.keep F66 (djB nin_g58_Gr_)), OwnX.nil _ _ _, (by simp), (by simp), (by simp), (by simp), (by simp), (by simp), (by simp), (by simp), ((HA.step0 F64).step F66 (inSR ge_HA_g58 inS0))⟩
  rintro ⟨i, FO, AO, cO, ys⟩ wr ⟨hi, hys, HB, HB4, HB67, HP, HVs, HVr, HEr, HO_FO, nin_m_FO, nin_g1_FO, nin_g58_FO, dj_FO_FP, dj_FO_Gs, dj_FO_Fr_, dj_FO_Gr_, ge_HA_FO, HA⟩
  have hyl_ : ys.length ≤ pts.length := by rw [hys]; exact Nat.le_trans (leftP_len _ _) (by rw [List.length_take]; omega)
  refine Zq <| Zsg <| Zr 4 <| Zl 32 (.slice AL pts.length cL) (HB.s 4) <| Zr 1 <| ZoP 34 (((i : Int) : Int) < (pts.length : Int)) ?_ ?_
  ·
   intro h68
   refine Zdn <| ZT <| Zk <| Zq <| WE.block <| Zsg <| Zr 3 <| Zl 40 (.slice AL pts.length cL) (HB.s 4) <| Zr 1 ?_
   obtain ⟨ad69, hA70⟩ := HP.addr (i := i) (by have := (rfl : List.length pts = _); omega)
   refine Zio 42 pts.length 4 i (i : Int) hA70 <| Zr 1 <| Zl 44 (J ((gP pts i).start)) (same (HP.at0 hA70 (gP_some pts i (by have := (rfl : List.length pts = _); omega)) (by kernel_rfl))) <| Zr 1 <| ZoN 46 (((gP pts i).start : Int) = (g0 (startsP pts) 0)) ?_ ?_
   ·
    intro h71
    refine Zdn <| ZF <| WE.skip <| WQ.blkN <| Zn <| WE.region <| Zr 1 <| Zw 36 ((i : Int) + 1) ((i + 1 : Nat) : Int) <| Zr 1 <| Zd <| WQ.round ?_
    intro a_ ha_
    refine ⟨(i + 1, FO, AO, cO, ys), ?_, ha_.keep [0, 4, 5, 6, 7, 8, 9] (by kernel_rfl), ?_⟩
    ·
     show pts.length - (i + 1) < pts.length - i; omega
    ·
     exact ⟨by omega, by rw [left_no (by omega) (by omega), ← hys], HB, HB4, HB67, HP, HVs, HVr, HEr, HO_FO, nin_m_FO, nin_g1_FO, nin_g58_FO, dj_FO_FP, dj_FO_Gs, dj_FO_Fr_, dj_FO_Gr_, ge_HA_FO, HA⟩
   intro h71
   refine Zdn <| ZT <| WE.region <| Zr 4 <| Zl 51 (.slice AL pts.length cL) (HB.s 4) <| Zr 1 ?_
   obtain ⟨ad72, hA73⟩ := HP.addr (i := i) (by have := (rfl : List.length pts = _); omega)
   refine Zio 53 pts.length 4 i (i : Int) hA73 <| Zla (ad := (ad72.add (i * 4))) 54 [J ((gP pts i).start), .string (str (gP pts i).key), J ((gP pts i).kind), J ((gP pts i).value)] (fun _ hw_ _ hj_ => by subst hw_; exact HP.part0 hA73 (gP_some pts i (by have := (rfl : List.length pts = _); omega)) [J ((gP pts i).start), .string (str (gP pts i).key), J ((gP pts i).kind), J ((gP pts i).value)] (by kernel_rfl) _ hj_) <| Zb 55 #[J ((gP pts i).start), .string (str (gP pts i).key), J ((gP pts i).kind), J ((gP pts i).value)] 109 (fun g => .slice (some ⟨g, 0, none⟩) 1 1) ?_
   intro g74 w75 HB77 F76 le78 _
   refine Zax (m := 1) (ys := List.map cP ([(⟨(gP pts i).start, (gP pts i).key, (gP pts i).kind, (gP pts i).value⟩ : Pn)])) 56 et_p (HO_FO.keep F76 dj0) (RowB.src (RowB.of_blk (n := 1) HB77 (List.map cP [(⟨(gP pts i).start, (gP pts i).key, (gP pts i).kind, (gP pts i).value⟩ : Pn)]) rfl rfl (cP_len _) (cP_one _) (by omega))) (cP_len _) (cP_one _) ?_
   intro v84 w85 G86 HO87 F88 hg89
   rw [← List.map_append] at HO87
   have HB := HB.k F76
   have nin_m_G86 := grow_nin hg89 nin_m_FO HB.lt
   have HB4 := HB4.k F76
   have nin_g1_G86 := grow_nin hg89 nin_g1_FO HB4.lt
   have HB67 := HB67.k F76
   have nin_g58_G86 := grow_nin hg89 nin_g58_FO HB67.lt
   have HP := HP.keep F76 dj0
   have dj_G86_FP := grow_dj hg89 dj_FO_FP HP.lt
   have HVs := HVs.keep F76 dj0
   have dj_G86_Gs := grow_dj hg89 dj_FO_Gs HVs.lt
   have HVr := HVr.keep F76 dj0
   have dj_G86_Fr_ := grow_dj hg89 dj_FO_Fr_ HVr.lt
   have HEr := HEr.keep F76 dj0
   have dj_G86_Gr_ := grow_dj hg89 dj_FO_Gr_ HEr.lt
   have HA := HA.step0 F76
   have ge_HA_G86 := grow_ge hg89 ge_HA_FO HA.size
   obtain ⟨A90, cap91, rfl⟩ := HO87.sliceN (List.length_map _)
   have := @List.length_append _ ys ([(⟨(gP pts i).start, (gP pts i).key, (gP pts i).kind, (gP pts i).value⟩ : Pn)])
   refine Zr 1 <| Zd <| WQ.blkN <| Zn <| WE.region <| Zr 1 <| Zw 36 ((i : Int) + 1) ((i + 1 : Nat) : Int) <| Zr 1 <| Zd <| WQ.round ?_
   intro a_ ha_
   refine ⟨(i + 1, G86, A90, cap91, (ys ++ [(⟨(gP pts i).start, (gP pts i).key, (gP pts i).kind, (gP pts i).value⟩ : Pn)])), ?_, ha_.keep [0, 4, 5, 6, 7, 8, 9] (by kernel_rfl), ?_⟩
   ·
    show pts.length - (i + 1) < pts.length - i; omega
   ·
    exact ⟨by omega, by rw [left_yes (by omega) (by omega), ← hys], (HB.keep F88 nin_m_FO), (HB4.keep F88 nin_g1_FO), (HB67.keep F88 nin_g58_FO), (HP.keep F88 (dj_symm dj_FO_FP)), (HVs.keep F88 (dj_symm dj_FO_Gs)), (HVr.keep F88 (dj_symm dj_FO_Fr_)), (HEr.keep F88 (dj_symm dj_FO_Gr_)), HO87, nin_m_G86, nin_g1_G86, nin_g58_G86, dj_G86_FP, dj_G86_Gs, dj_G86_Fr_, dj_G86_Gr_, ge_HA_G86, (HA.step F88 (inF ge_HA_FO))⟩
  intro h68
  refine Zdn <| ZF <| WE.exit <| WQ.thenE <| WQ.thenE <| WQ.blkE <| Zn <| Zsg <| Zr 4 <| Zst m 4 #[J width, J windows, J rows, J seq, .slice AO ys.length cO] HB ?_
  intro w92 HB94 F93 _
  refine Zdn <| Zsg <| Zr 4 <| Zl 65 (J seq) (HB94.s 3) <| Zw 66 (seq + 1) (seq + 1) <| Zr 2 <| Zst m 3 #[J width, J windows, J rows, J (seq + 1), .slice AO ys.length cO] HB94 ?_
  intro w95 HB97 F96 _
  refine Zdn <| Zsg <| Zlb 69 [J seq, J (g0 (startsP pts) 0), .slice Ar qr.length cr] g58 0 (same ((HB67.j F93 (Ne.symm ne_m_g58)).j F96 (Ne.symm ne_m_g58))) <| Zst g1 0 #[J seq, J (g0 (startsP pts) 0), .slice Ar qr.length cr] ((HB4.j F93 (Ne.symm ne_m_g1)).j F96 (Ne.symm ne_m_g1)) ?_
  intro w98 HB100 F99 _
  refine Zr 1 <| Zdn <| WE.ret <| WQ.ret2 (fn := Tryz.f27) (show Tryz.f27.results = #[.cell 4 24, .tmp 5] by kernel_rfl) (show resOk _ _ _ _ (.agg #[J seq, J (g0 (startsP pts) 0), .slice Ar qr.length cr]) from ⟨by kernel_rfl, ⟨g1, 0, none⟩, by kernel_rfl, ldVarB [J seq, J (g0 (startsP pts) 0), .slice Ar qr.length cr] (by kernel_rfl) (by kernel_rfl) (by kernel_rfl) HB100 (by kernel_rfl)⟩) (show resOk _ _ _ _ (.bool true) from ⟨by kernel_rfl, by kernel_rfl⟩) ?_
  have hys_ : ys = leftP pts (g0 (startsP pts) 0) := by rw [hys, List.take_of_length_le (by omega)]
  exact ⟨qr, Ar, cr, Fr_, Gr_, ys, AO, cO, FO, rfl, hqr, (((HVr.keep F93 (djB nin_m_Fr_)).keep F96 (djB nin_m_Fr_)).keep F99 (djB nin_g1_Fr_)), (((HEr.keep F93 (djB nin_m_Gr_)).keep F96 (djB nin_m_Gr_)).keep F99 (djB nin_g1_Gr_)), hdr, hcr_, ge_HA_Fr_, ge_HA_Gr_, hir, hys_, (HB97.j F99 ne_m_g1), VX.of_own (((HO_FO.keep F93 (djB nin_m_FO)).keep F96 (djB nin_m_FO)).keep F99 (djB nin_g1_FO)), nin_m_FO, dj_FO_Fr_, dj_FO_Gr_, ge_HA_FO, (((HA.step F93 (inSL (by simp) inS0)).step F96 (inSL (by simp) inS0)).step F99 (inSR ge_HA_g1 inS0))⟩
end Go.Proofs.YtdhonbahpcmmnaaGreatDoor.Bat
end
