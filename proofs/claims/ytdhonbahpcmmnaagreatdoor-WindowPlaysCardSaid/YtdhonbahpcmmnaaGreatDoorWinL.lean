/- Layer 20's walks: the document's Add. -/
import Derived.Test.YtdhonbahpcmmnaaGreatDoorWinK
import Derived.Test.YtdhonbahpcmmnaaGreatDoorEngC
section
set_option linter.unusedVariables false
set_option linter.unusedSimpArgs false
namespace Go.Proofs.YtdhonbahpcmmnaaGreatDoor.Eng
open Go Go.Proofs.YtdhonbahpcmmnaaGreatDoor
section
variable {P : Program} {ι : Type} {ops : Array Oper} {N : Nat} {S : ι → Act → World → Prop} {R : World → World → Prop} {x y : ι} {o : Oper} {e e' : Env} {w : World}
def quoAt (ops : Array Oper) (N : Nat) (e : Env) (o : Oper) : Option (IntKind × Int × Int × Option Tmp) :=
  bif onB ops N e o then
    match o.op with
    | .binOp .quo _ z u _ => (match ev e z, ev e u with | .int k a, .int k' b => bif decide (k = k') then some (k, a, b, o.dst) else none | _, _ => none)
    | _ => none
  else none
theorem WO.quo (hT : TkF P ops S x o y) (d : Nat) (k : IntKind) (a b : Int) (h : quoAt ops N e o = some (k, a, b, some d)) (hb : b ≠ 0) (kk : WO S N y ((d, .int k (k.wrap (a.tdiv b))) :: e) w) : WO S N x e w := by
  unfold quoAt at h
  cases ho : onB ops N e o with
  | false => rw [ho] at h; cases h
  | true =>
    rw [ho] at h
    simp only [cond_true] at h
    split at h
    · rename_i t z u yt hop
      split at h
      · rename_i k1 a1 k2 b1 hz hu
        cases hk : decide (k1 = k2) with
        | false => rw [hk] at h; cases h
        | true =>
          rw [hk] at h
          have hk' := of_decide_eq_true hk
          subst hk'
          simp only [cond_true, Option.some.injEq, Prod.mk.injEq] at h
          obtain ⟨rfl, rfl, rfl, hd⟩ := h
          refine WO.valF hT ho (v := .int k1 (k1.wrap (a1.tdiv b1))) (fun w' => ?_) (by rw [hd]; exact kk)
          unfold execOp
          simp [hop, hz, hu, eqGuard, binOp, Op.intDiv, hb]
      · cases h
    · cases h
end
end Go.Proofs.YtdhonbahpcmmnaaGreatDoor.Eng
set_option linter.unusedVariables false
set_option linter.unusedSimpArgs false
namespace Go.Proofs.YtdhonbahpcmmnaaGreatDoor.Bat
open Go Go.RowKit Go.Proofs.YtdhonbahpcmmnaaGreatDoor Go.Proofs.YtdhonbahpcmmnaaGreatDoor.Eng Go.Proofs.YtdhonbahpcmmnaaGreatDoorW.PrintWords
open Go.Proofs Go.Maps
open Go.Proofs.YtdhonbahpcmmnaaGreatDoor.Line
def metQ (key : L) (kind : Int) (q : List RX) : Bool := q.any fun x => decide (x.1.key = key ∧ x.1.kind = kind)
theorem met_take {key : L} {kind : Int} {q : List RX} {i : Nat} (h : i < q.length) : metQ key kind (q.take (i + 1)) = (metQ key kind (q.take i) || decide ((gX q i).1.key = key ∧ (gX q i).1.kind = kind)) := by
  unfold metQ
  rw [List.take_add_one, gX_some q i h, List.any_append]
  simp
def metP (pts : List Pn) (st : Int) (key : L) (kind : Int) : Bool := (rowsP pts st).any fun r => decide (r.key = key ∧ r.kind = kind)
theorem met_end {pts : List Pn} {st : Int} {key : L} {kind : Int} {q : List RX} {i : Nat} {met : Bool} (hq : rws q = rowsP pts st) (hi : q.length ≤ i) (hm : met = metQ key kind (q.take i)) : metP pts st key kind = met := by
  rw [hm, List.take_of_length_le hi]
  unfold metP metQ
  rw [← hq]
  unfold rws
  rw [List.any_map]
  rfl
theorem st_eq2 {time width st : Int} (h : 0 ≤ time ∧ time ≤ 1099511627776) (hW : 1 ≤ width ∧ width ≤ 1099511627776) (hst : st = time - time % width) : Value.int .i64 (IntKind.i64.wrap (IntKind.i64.wrap (time.tdiv width) * width)) = .int .i64 st := by
  have h1 : time.tdiv width = time / width := Int.tdiv_eq_ediv_of_nonneg h.1
  have h2 := Int.emod_nonneg time (show width ≠ 0 by omega)
  have h3 := Int.emod_add_mul_ediv time width
  have h4 : 0 ≤ time / width := Int.ediv_nonneg h.1 (by omega)
  have h5 : time / width ≤ time := by
    have h6 := Int.mul_le_mul_of_nonneg_right (show 1 ≤ width by omega) h4
    omega
  have h7 := st_in h hW hst
  have hk : ∀ x : Int, 0 ≤ x ∧ x ≤ 1099511627776 → IntKind.i64.wrap x = x := fun x hx => wrap_in rfl (by omega)
  rw [h1, hk (time / width) (by omega), Int.mul_comm, show width * (time / width) = st by omega, hk _ h7]
set_option maxRecDepth 100000 in
set_option maxHeartbeats 400000 in
theorem rad_bad (m : Nat) (width windows rows seq : Int) (pts : List Pn) (AL : Option Addr) (cL : Nat) (FP : List Nat) (mark : Int) (key : L) (kind value time : Int) (w : World) (HB : Blk w m #[.int .i64 width, .int .i64 windows, .int .i64 rows, .int .i64 seq, .slice AL pts.length cL] 59) (HP : VX cP 4 w FP AL pts) (hmP : m ∉ FP) (hpl : pts.length ≤ 100000) (hkey : key.length ≤ 100000) (hbad : ¬ ((ofE key).isSome = true ∧ (1 ≤ kind ∧ kind ≤ 3) ∧ (0 ≤ time ∧ time ≤ 1099511627776))) :
    Calls Tryz.prog 29 #[.pointer (some ⟨m, 0, none⟩), .int .i64 mark, .string (str key), .int .i64 kind, .int .i64 value, .int .i64 time] w fun e w' => e = .returned (.int .i64 1) ∧ Fr [] w w' := by
 have HA := Fr.refl [] w
 refine Ze Tryz.func29 _ <| Zsg <| Zr 1 <| Zdn <| Zsg <| Zr 1 ?_
 cases hof_ : ofE key
 ·
  refine Zc 21 (mof_f key _ hkey) ?_
  rintro _ w1 ⟨a_, A_, n_, c_, rfl, F2⟩
  rw [hof_]
  refine ⟨_, rfl, trivial, Zr 3 <| Zb 13 #[.string (⟨#[]⟩), .slice none 0 0, J 0, J 0, J 0] 91 (fun g => Pt g 0) ?_⟩
  intro g3 w4 HB6 F5 le7 _
  have HA := HA.step0 F2
  have ge_HA_g3 := Nat.le_trans HA.size le7
  refine Zst g3 0 #[.string a_, .slice A_ n_ c_, J 0, J 0, J 0] HB6 ?_
  intro w8 HB10 F9 _
  refine Zr 1 <| Zdn <| Zq <| Zsg <| Zr 18 <| Zdn <| ZT <| Zsg <| Zr 1 <| Zdn <| WE.ret <| WQ.thenR <| ZR (J 1) ?_
  exact ⟨rfl, ((HA.step0 F5).step F9 (inSR ge_HA_g3 inS0))⟩
 ·
  rename_i x_
  refine Zc 21 (mof_f key _ hkey) ?_
  rintro _ w11 ⟨a_, A_, n_, c_, rfl, F12⟩
  rw [hof_]
  refine ⟨_, rfl, trivial, ?_⟩
  have his_ : (ofE key).isSome = true := by rw [hof_]; rfl
  refine Zr 3 <| Zb 13 #[.string (⟨#[]⟩), .slice none 0 0, J 0, J 0, J 0] 91 (fun g => Pt g 0) ?_
  intro g13 w14 HB16 F15 le17 _
  have HA := HA.step0 F12
  have ge_HA_g13 := Nat.le_trans HA.size le17
  refine Zst g13 0 #[.string a_, .slice A_ n_ c_, J 0, J 0, J 0] HB16 ?_
  intro w18 HB20 F19 _
  have HA := (HA.step0 F15).step F19 (inSR ge_HA_g13 inS0)
  refine Zr 1 <| Zdn <| Zq <| Zsg <| Zr 4 <| ZoP 28 ((kind : Int) < 1) ?_ ?_
  ·
   intro h21
   refine Zr 13 <| Zdn <| ZT <| Zsg <| Zr 1 <| Zdn <| WE.ret <| WQ.thenR <| ZR (J 1) ?_
   exact ⟨rfl, HA⟩
  intro h21
  refine Zr 3 <| ZoP 32 ((kind : Int) > 3) ?_ ?_
  ·
   intro h22
   refine Zr 9 <| Zdn <| ZT <| Zsg <| Zr 1 <| Zdn <| WE.ret <| WQ.thenR <| ZR (J 1) ?_
   exact ⟨rfl, HA⟩
  intro h22
  refine Zr 3 <| ZoP 36 ((time : Int) < 0) ?_ ?_
  ·
   intro h23
   refine Zr 5 <| Zdn <| ZT <| Zsg <| Zr 1 <| Zdn <| WE.ret <| WQ.thenR <| ZR (J 1) ?_
   exact ⟨rfl, HA⟩
  intro h23
  refine Zr 3 <| ZoP 40 ((time : Int) > 1099511627776) ?_ ?_
  ·
   intro h24
   refine Zr 1 <| Zdn <| ZT <| Zsg <| Zr 1 <| Zdn <| WE.ret <| WQ.thenR <| ZR (J 1) ?_
   exact ⟨rfl, HA⟩
  intro h24
  refine Zr 1 <| Zdn <| ZF <| Zk <| Zq ?_
  exact absurd ⟨by rw [hof_]; rfl, by omega, by omega⟩ hbad
set_option maxRecDepth 100000 in
set_option maxHeartbeats 400000 in
theorem rad_late (m : Nat) (width windows rows seq : Int) (pts : List Pn) (AL : Option Addr) (cL : Nat) (FP : List Nat) (mark : Int) (key : L) (kind value time : Int) (w : World) (HB : Blk w m #[.int .i64 width, .int .i64 windows, .int .i64 rows, .int .i64 seq, .slice AL pts.length cL] 59) (HP : VX cP 4 w FP AL pts) (hmP : m ∉ FP) (hpl : pts.length ≤ 100000) (hkey : key.length ≤ 100000) (hof : (ofE key).isSome = true) (hkd : 1 ≤ kind ∧ kind ≤ 3) (htm : 0 ≤ time ∧ time ≤ 1099511627776) (st : Int) (hst : st = time - time % width) (hW : 1 ≤ width ∧ width ≤ 1099511627776) (hlate : st + width ≤ mark) :
    Calls Tryz.prog 29 #[.pointer (some ⟨m, 0, none⟩), .int .i64 mark, .string (str key), .int .i64 kind, .int .i64 value, .int .i64 time] w fun e w' => e = .returned (.int .i64 8) ∧ Fr [] w w' := by
 have hst_ := st_in htm hW hst
 have HA := Fr.refl [] w
 refine Ze Tryz.func29 _ <| Zsg <| Zr 1 <| Zdn <| Zsg <| Zr 1 ?_
 obtain ⟨x_, hof_⟩ := Option.isSome_iff_exists.1 hof
 refine Zc 21 (mof_f key _ hkey) ?_
 rintro _ w1 ⟨a_, A_, n_, c_, rfl, F2⟩
 rw [hof]
 refine ⟨_, rfl, trivial, Zr 3 <| Zb 13 #[.string (⟨#[]⟩), .slice none 0 0, J 0, J 0, J 0] 91 (fun g => Pt g 0) ?_⟩
 intro g3 w4 HB6 F5 le7 _
 have HB := HB.k F2
 have ne_m_g3 := ltn HB.lt le7
 have HA := HA.step0 F2
 have ge_HA_g3 := Nat.le_trans HA.size le7
 refine Zst g3 0 #[.string a_, .slice A_ n_ c_, J 0, J 0, J 0] HB6 ?_
 intro w8 HB10 F9 _
 refine Zr 1 <| Zdn <| Zq <| Zsg <| Zr 4 <| ZoPF 28 ((kind : Int) < 1) (by omega) <| Zr 3 <| ZoPF 32 ((kind : Int) > 3) (by omega) <| Zr 3 <| ZoPF 36 ((time : Int) < 0) (by omega) <| Zr 3 <| ZoPF 40 ((time : Int) > 1099511627776) (by omega) <| Zr 1 <| Zdn <| ZF <| Zk <| Zq <| ZE [4, 9] [] [] 12 ?_
 intro w11 F12 _
 have HB := ((HB.k F5).j F9 ne_m_g3).k F12
 refine Yq 0 4 <| Yl 4 46 (J width) (HB.s 0) <| WO.quo (SA.F sameR sameT _ 5 _ (by kernel_rfl)) 47 .i64 time width (by kernel_rfl) (by omega) <| Yq 6 3 <| Yl 9 51 (J width) (HB.s 0) <| Yr0 [10] [(52, J (IntKind.i64.wrap ((IntKind.i64.wrap (time.tdiv width)) * width)))] <| WO.top (v' := J st) (st_eq2 htm hW hst) <| Yq 11 1 <| Ydn <| Zq <| Zsg <| Zr 4 <| Zl 57 (J width) (HB.s 0) <| Zw 58 (st + width) (st + width) <| Zr 1 <| ZoPT 60 ((st + width : Int) ≤ mark) (by omega) <| Zdn <| ZT <| Zsg <| Zr 1 <| Zdn <| WE.ret <| WQ.thenR <| ZR (J 8) ?_
 exact ⟨rfl, (((HA.step0 F5).step F9 (inSR ge_HA_g3 inS0)).step0 F12)⟩
set_option maxRecDepth 100000 in
set_option maxHeartbeats 400000 in
theorem rad_ok (m : Nat) (width windows rows seq : Int) (pts : List Pn) (AL : Option Addr) (cL : Nat) (FP : List Nat) (mark : Int) (key : L) (kind value time : Int) (w : World) (HB : Blk w m #[.int .i64 width, .int .i64 windows, .int .i64 rows, .int .i64 seq, .slice AL pts.length cL] 59) (HP : VX cP 4 w FP AL pts) (hmP : m ∉ FP) (hpl : pts.length ≤ 100000) (hkey : key.length ≤ 100000) (hof : (ofE key).isSome = true) (hkd : 1 ≤ kind ∧ kind ≤ 3) (htm : 0 ≤ time ∧ time ≤ 1099511627776) (st : Int) (hst : st = time - time % width) (hW : 1 ≤ width ∧ width ≤ 1099511627776) (hin : ¬ st + width ≤ mark) (hpv : ∀ p ∈ pts, I64 p.value) :
    Calls Tryz.prog 29 #[.pointer (some ⟨m, 0, none⟩), .int .i64 mark, .string (str key), .int .i64 kind, .int .i64 value, .int .i64 time] w fun e w' => ((((rowsP pts st).length = 0 ∧ windows ≤ (startsP pts).length) ∨ (metP pts st key kind = false ∧ rows ≤ (rowsP pts st).length)) ∧ e = .returned (.int .i64 6) ∧ Blk w' m #[.int .i64 width, .int .i64 windows, .int .i64 rows, .int .i64 seq, .slice AL pts.length cL] 59 ∧ VX cP 4 w' FP AL pts ∧ Fr [m] w w') ∨ (¬ (((rowsP pts st).length = 0 ∧ windows ≤ (startsP pts).length) ∨ (metP pts st key kind = false ∧ rows ≤ (rowsP pts st).length)) ∧ ∃ (AL' : Option Addr) (cL' : Nat) (FP' : List Nat), e = .returned (.int .i64 0) ∧ Blk w' m #[.int .i64 width, .int .i64 windows, .int .i64 rows, .int .i64 seq, .slice AL' ((pts ++ [(⟨st, key, kind, value⟩ : Pn)]).length) cL'] 59 ∧ VX cP 4 w' FP' AL' (pts ++ [⟨st, key, kind, value⟩]) ∧ m ∉ FP' ∧ (∀ y ∈ FP', w.heap.size ≤ y) ∧ Fr [m] w w') := by
 have hst_ := st_in htm hW hst
 have HA := Fr.refl [m] w
 refine Ze Tryz.func29 _ <| Zsg <| Zr 1 <| Zdn <| Zsg <| Zr 1 ?_
 obtain ⟨x_, hof_⟩ := Option.isSome_iff_exists.1 hof
 refine Zc 21 (mof_f key _ hkey) ?_
 rintro _ w1 ⟨a_, A_, n_, c_, rfl, F2⟩
 rw [hof]
 refine ⟨_, rfl, trivial, Zr 3 <| Zb 13 #[.string (⟨#[]⟩), .slice none 0 0, J 0, J 0, J 0] 91 (fun g => Pt g 0) ?_⟩
 intro g3 w4 HB6 F5 le7 _
 have HB := HB.k F2
 have ne_m_g3 := ltn HB.lt le7
 have HP := HP.keep F2 dj0
 have nin_g3_FP := new_nin HP.lt le7
 have HA := HA.step0 F2
 have ge_HA_g3 := Nat.le_trans HA.size le7
 refine Zst g3 0 #[.string a_, .slice A_ n_ c_, J 0, J 0, J 0] HB6 ?_
 intro w8 HB10 F9 _
 refine Zr 1 <| Zdn <| Zq <| Zsg <| Zr 4 <| ZoPF 28 ((kind : Int) < 1) (by omega) <| Zr 3 <| ZoPF 32 ((kind : Int) > 3) (by omega) <| Zr 3 <| ZoPF 36 ((time : Int) < 0) (by omega) <| Zr 3 <| ZoPF 40 ((time : Int) > 1099511627776) (by omega) <| Zr 1 <| Zdn <| ZF <| Zk <| Zq <| ZE [4, 9] [] [] 12 ?_
 intro w11 F12 _
 have HB := ((HB.k F5).j F9 ne_m_g3).k F12
 have HP := ((HP.keep F5 dj0).keep F9 (djB nin_g3_FP)).keep F12 dj0
 refine Yq 0 4 <| Yl 4 46 (J width) (HB.s 0) <| WO.quo (SA.F sameR sameT _ 5 _ (by kernel_rfl)) 47 .i64 time width (by kernel_rfl) (by omega) <| Yq 6 3 <| Yl 9 51 (J width) (HB.s 0) <| Yr0 [10] [(52, J (IntKind.i64.wrap ((IntKind.i64.wrap (time.tdiv width)) * width)))] <| WO.top (v' := J st) (st_eq2 htm hW hst) <| Yq 11 1 <| Ydn <| Zq <| Zsg <| Zr 4 <| Zl 57 (J width) (HB.s 0) <| Zw 58 (st + width) (st + width) <| Zr 1 <| ZoPF 60 ((st + width : Int) ≤ mark) (by omega) <| Zdn <| ZF <| Zk <| Zsg <| Zr 2 <| Zc 63 (rwo_f m width windows rows seq pts AL cL FP st _ HB HP hmP hpl hpv) ?_
 rintro _ w13 ⟨qr, Ar, cr, Fr_, Gr_, rfl, hqr, HOr, HEr, hdr, hgr, hgr2, hir, F14⟩
 refine ⟨_, rfl, trivial, ?_⟩
 have hrl_ := rowsP_len pts st
 have hrq_ : qr.length = (rowsP pts st).length := by rw [← hqr, rws_len]
 have HVr := VX.of_own HOr
 have hcr_ := own_cap HOr (List.length_map _)
 have hgrr := fun y hy => Or.inr (a := y ∈ ([] : List Nat)) (hgr y hy)
 have hgr2r := fun y hy => Or.inr (a := y ∈ ([] : List Nat)) (hgr2 y hy)
 refine Zr 1 <| Zdn <| Zsg <| Zr 1 <| Zdn <| Zq <| Zsg <| Zr 1 <| Zdn <| WE.block <| WE.loop (α := Nat × Bool) (E := fun ⟨i, met⟩ => [(0, Pt m 0), (2, .string (str key)), (3, J kind), (4, J value), (12, J 0), (15, J st), (16, .slice Ar qr.length cr), (17, .bool met), (18, J (i : Int))]) (I := fun ⟨i, met⟩ wr => i ≤ qr.length ∧ met = metQ key kind (qr.take i) ∧ Blk wr m #[J width, J windows, J rows, J seq, .slice AL pts.length cL] 59 ∧ Blk wr g3 #[.string a_, .slice A_ n_ c_, J 0, J 0, J 0] 91 ∧ VX cP 4 wr FP AL pts ∧ VX cW 8 wr Fr_ Ar qr ∧ EV wr Gr_ qr ∧ Fr [m] w wr) (m := fun ⟨i, met⟩ => qr.length - i) (0, false) [0, 2, 3, 4, 12, 15, 16, 17, 18] (by kernel_rfl) ?_ ?_
 ·
  exact ⟨Nat.zero_le _, by rfl, (HB.k F14), ((HB10.k F12).k F14), (HP.keep F14 dj0), HVr, HEr, ((((HA.step0 F5).step F9 (inSR ge_HA_g3 inS0)).step0 F12).step0 F14)⟩
 rintro ⟨i, met⟩ wr ⟨hi, hmet, HB, HB10, HP, HVr, HEr, HA⟩
 refine Zq <| Zsg <| Zr 3 <| ZoP 67 (((i : Int) : Int) < (qr.length : Int)) ?_ ?_
 ·
  intro h15
  refine Zdn <| ZT <| Zk <| Zq <| WE.block <| WE.region <| Zo 70 (.bool met) <| WO.topB (met) ?_ ?_
  ·
   intro h16
   refine Zr 19 <| Zd <| WQ.blkN <| Zn <| WE.region <| Zr 1 <| Zw 69 ((i : Int) + 1) ((i + 1 : Nat) : Int) <| Zr 1 <| Zd <| WQ.round ?_
   intro a_ ha_
   refine ⟨(i + 1, true), ?_, ha_.keep [0, 2, 3, 4, 12, 15, 16, 17, 18] (by kernel_rfl), ?_⟩
   ·
    show qr.length - (i + 1) < qr.length - i; omega
   ·
    exact ⟨by omega, by rw [met_take (by omega), ← hmet]; simp_all [str_inj], HB, HB10, HP, HVr, HEr, HA⟩
  intro h16
  refine Zr 3 ?_
  obtain ⟨ad17, hA18⟩ := HVr.addr (i := i) (by have := (rfl : List.length qr = _); omega)
  refine Zio 74 qr.length 8 i (i : Int) hA18 <| Zr 1 <| Zl 76 (.string (str (gX qr i).1.key)) (same (HVr.at0 hA18 (gX_some qr i (by have := (rfl : List.length qr = _); omega)) (by kernel_rfl))) <| Zr 1 <| Zo 78 (.bool ((str (gX qr i).1.key).toList == (str key).toList)) <| WO.top (v' := .bool (decide ((str (gX qr i).1.key) = (str key)))) (congrArg Value.bool (streq (str (gX qr i).1.key) (str key))) <| WO.topP ((str (gX qr i).1.key) = (str key)) ?_ ?_
  ·
   intro h19
   refine Zr 3 ?_
   obtain ⟨ad20, hA21⟩ := HVr.addr (i := i) (by have := (rfl : List.length qr = _); omega)
   refine Zio 82 qr.length 8 i (i : Int) hA21 <| Zr 1 <| Zl 84 (J ((gX qr i).1.kind)) (same (HVr.at hA21 (gX_some qr i (by have := (rfl : List.length qr = _); omega)) 1 (by kernel_rfl))) <| Zr 1 <| ZoP 86 (((gX qr i).1.kind : Int) = kind) ?_ ?_
   ·
    intro h22
    refine Zr 3 <| Zd <| WQ.blkN <| Zn <| WE.region <| Zr 1 <| Zw 69 ((i : Int) + 1) ((i + 1 : Nat) : Int) <| Zr 1 <| Zd <| WQ.round ?_
    intro a_ ha_
    refine ⟨(i + 1, true), ?_, ha_.keep [0, 2, 3, 4, 12, 15, 16, 17, 18] (by kernel_rfl), ?_⟩
    ·
     show qr.length - (i + 1) < qr.length - i; omega
    ·
     exact ⟨by omega, by rw [met_take (by omega), ← hmet]; simp_all [str_inj], HB, HB10, HP, HVr, HEr, HA⟩
   intro h22
   refine Zr 3 <| Zd <| WQ.blkN <| Zn <| WE.region <| Zr 1 <| Zw 69 ((i : Int) + 1) ((i + 1 : Nat) : Int) <| Zr 1 <| Zd <| WQ.round ?_
   intro a_ ha_
   refine ⟨(i + 1, false), ?_, ha_.keep [0, 2, 3, 4, 12, 15, 16, 17, 18] (by kernel_rfl), ?_⟩
   ·
    show qr.length - (i + 1) < qr.length - i; omega
   ·
    exact ⟨by omega, by rw [met_take (by omega), ← hmet]; simp_all [str_inj], HB, HB10, HP, HVr, HEr, HA⟩
  intro h19
  refine Zr 11 <| Zd <| WQ.blkN <| Zn <| WE.region <| Zr 1 <| Zw 69 ((i : Int) + 1) ((i + 1 : Nat) : Int) <| Zr 1 <| Zd <| WQ.round ?_
  intro a_ ha_
  refine ⟨(i + 1, false), ?_, ha_.keep [0, 2, 3, 4, 12, 15, 16, 17, 18] (by kernel_rfl), ?_⟩
  ·
   show qr.length - (i + 1) < qr.length - i; omega
  ·
   exact ⟨by omega, by rw [met_take (by omega), ← hmet]; simp_all [str_inj], HB, HB10, HP, HVr, HEr, HA⟩
 intro h15
 refine Zdn <| ZF <| WE.exit <| WQ.thenE <| WQ.thenE <| WQ.blkE <| Zn <| Zq <| Zq ?_
 have hz23 : (World.heap wr).size ≤ (World.heap wr).size := Nat.le_refl _
 have ltz_m := HB.lt
 refine ZER (FrB (World.heap wr).size) [10, 22] [5] [] 26 ?_
 intro w24 F25 _
 refine Yr0 [0, 1, 2] [(91, .bool (decide (((qr.length : Int) : Int) = (0 : Int)))), (90, J (qr.length : Int)), (89, .slice Ar qr.length cr)] <| WO.topP (((qr.length : Int) : Int) = (0 : Int)) ?_ ?_
 ·
  intro h26
  have HB := HB.k F25
  have HP := HP.keep F25 dj0
  refine Yr [3, 4, 7, 8, 9] <| Yl 10 99 (J windows) (fun _ k => (HB.keepB k ltz_m).at 1 (by kernel_rfl)) <| WO.call (SA.ER _ 5 _ (by kernel_rfl) rfl) 94 (by kernel_rfl) (sts_f m width windows rows seq pts AL cL FP _ HB HP hmP hpl) ?_
  rintro _ w27 ⟨As, cs, Gs, rfl, HOs, hgs, F28⟩
  refine ⟨_, rfl, (frB_of (Nat.le_trans hz23 F25.size) (by simp)) _ F28, ?_⟩
  have hsl_ := starts_len pts
  have HVs := VX.of_own HOs
  have hgsr := fun y hy => Or.inr (a := y ∈ ([] : List Nat)) (hgs y hy)
  have HA := (HA.step0 F25).step0 F28
  refine Yr0 [6, 11] [(100, .bool (decide ((((startsP pts).length : Int) : Int) ≥ windows))), (95, J ((startsP pts).length : Int))] <| WO.topP ((((startsP pts).length : Int) : Int) ≥ windows) ?_ ?_
  ·
   intro h29
   refine Yq 12 14 <| Ydn <| ZT <| Zsg <| Zr 1 <| Zdn <| WE.ret <| WQ.thenR <| ZR (J 6) ?_
   have hme_ := met_end hqr (show qr.length ≤ i by omega) hmet
   have hlq_ : (rowsP pts st).length = qr.length := by rw [← hqr, rws_len]
   exact .inl ⟨by first | exact .inl ⟨by omega, by omega⟩ | exact .inr ⟨by rw [hme_]; assumption, by omega⟩, rfl, (HB.k F28), (HP.keep F28 dj0), HA⟩
  intro h29
  refine Yr0 [12, 13, 14] [(103, .bool met), (102, .bool false), (101, .bool false)] <| WO.topB (met) ?_ ?_
  ·
   intro h30
   refine Yq 15 11 <| Ydn <| ZF <| Zk <| Zsg <| Zr 1 <| Zb 116 #[] 109 (fun g => .slice (some ⟨g, 0, none⟩) 0 0) ?_
   intro g31 w32 HB34 F33 le35 _
   have HB := HB.k F28
   have ne_m_g31 := ltn HB.lt le35
   have ge_HA_g31 := Nat.le_trans HA.size le35
   have HB := HB.k F33
   refine Zr 3 <| Zl 120 (.slice AL pts.length cL) (HB.s 4) ?_
   have HR41 := RowB.of_blk (n := 0) HB34 (List.map cP []) rfl rfl (cP_len _) (cP_one _) (by omega)
   refine Zar (n := 0) (m := pts.length) (ys := List.map cP pts) 121 et_p HR41 ((List.length_map _).trans ((rfl : List.length ([] : List Pn) = 0))) (((HP.keep F28 dj0).keep F33 dj0).srcN (rfl : List.length pts = _) (cP_len _) (cP_one _) cL) (cP_len _) (cP_one _) ?_
   intro b36 cap37 w38 HR39 F40 hb42
   have ne_m_b36 : m ≠ b36 := hb42.elim (fun h => h ▸ ne_m_g31) (fun h => Nat.ne_of_lt (Nat.lt_of_lt_of_le HB.lt h))
   have HA := HA.step0 F33
   have in_HA_b36 : b36 ∈ [m] ∨ (World.heap w).size ≤ b36 := hb42.elim (fun h => Or.inr (h ▸ ge_HA_g31)) (fun h => Or.inr (Nat.le_trans HA.size h))
   have HR39 : RowB w38 b36 109 4 cap37 ((([] : List Pn) ++ pts).map cP) := by rw [List.map_append]; exact HR39
   refine Zr 5 <| Zb 127 #[J st, .string (str key), J kind, J value] 109 (fun g => .slice (some ⟨g, 0, none⟩) 1 1) ?_
   intro g43 w44 HB46 F45 le47 _
   refine Zar (n := (0 + pts.length)) (m := 1) (ys := List.map cP ([(⟨st, key, kind, value⟩ : Pn)])) 128 et_p (HR39.k F45) ((List.length_map _).trans ((show (([] : List Pn) ++ pts).length = 0 + pts.length by rw [List.length_append, (rfl : List.length ([] : List Pn) = 0)] <;> first | rfl | (have := (rfl : List.length ([] : List Pn) = 0); simp <;> omega)))) (RowB.src (RowB.of_blk (n := 1) HB46 (List.map cP [(⟨st, key, kind, value⟩ : Pn)]) rfl rfl (cP_len _) (cP_one _) (by omega))) (cP_len _) (cP_one _) ?_
   intro b48 cap49 w50 HR51 F52 hb53
   have HB := (HB.j F40 ne_m_g31).k F45
   have ne_m_b48 : m ≠ b48 := hb53.elim (fun h => h ▸ ne_m_b36) (fun h => Nat.ne_of_lt (Nat.lt_of_lt_of_le HB.lt h))
   have HA := (HA.step F40 (inSR ge_HA_g31 inS0)).step0 F45
   have in_HA_b48 : b48 ∈ [m] ∨ (World.heap w).size ≤ b48 := hb53.elim (fun h => (h ▸ in_HA_b36)) (fun h => Or.inr (Nat.le_trans HA.size h))
   have HR51 : RowB w50 b48 109 4 cap49 (((([] : List Pn) ++ pts) ++ [(⟨st, key, kind, value⟩ : Pn)]).map cP) := by rw [List.map_append]; exact HR51
   refine Zr 2 <| Zst m 4 #[J width, J windows, J rows, J seq, .slice (some ⟨b48, 0, none⟩) (0 + pts.length + 1) cap49] (HB.j F52 ne_m_b36) ?_
   intro w54 HB56 F55 _
   refine Zdn <| Zsg <| Zr 1 <| Zdn <| WE.ret <| ZR (J 0) ?_
   have hme_ := met_end hqr (show qr.length ≤ i by omega) hmet
   have hlq_ : (rowsP pts st).length = qr.length := by rw [← hqr, rws_len]
   refine .inr ⟨fun h_ => ?_, ?_⟩
   ·
    rcases h_ with ⟨h1_, h2_⟩ | ⟨h1_, h2_⟩ <;> first | omega | (rw [hme_] at h1_; simp_all; done) | (rw [hme_] at h1_; simp_all; omega)
   have hpl_ : 0 + pts.length + 1 = (pts ++ [(⟨st, key, kind, value⟩ : Pn)]).length := by simp
   exact ⟨some ⟨b48, 0, none⟩, cap49, [b48], rfl, by rw [← hpl_]; exact HB56, VX.of_row (q := (pts ++ [(⟨st, key, kind, value⟩ : Pn)])) (HR51.keep F55 (ninC (Ne.symm ne_m_b48) (nin0 _))), by simpa using ne_m_b48, fun y hy => by rw [List.mem_singleton.1 hy]; exact in_HA_b48.resolve_left (fun h_ => ne_m_b48 (List.mem_singleton.1 h_).symm), ((HA.step F52 (inSD in_HA_b36 inS0)).step F55 (inSL (by simp) inS0))⟩
  intro h30
  have HB := HB.k F28
  refine Yq 15 7 <| Yl 22 111 (J rows) (fun _ k => (HB.keepB k ltz_m).at 2 (by kernel_rfl)) <| Yr0 [23] [(112, .bool (decide (((qr.length : Int) : Int) ≥ rows)))] <| WO.topP (((qr.length : Int) : Int) ≥ rows) ?_ ?_
  ·
   intro h57
   refine Yq 24 2 <| Ydn <| ZT <| Zsg <| Zr 1 <| Zdn <| WE.ret <| WQ.thenR <| ZR (J 6) ?_
   have hme_ := met_end hqr (show qr.length ≤ i by omega) hmet
   have hlq_ : (rowsP pts st).length = qr.length := by rw [← hqr, rws_len]
   exact .inl ⟨by first | exact .inl ⟨by omega, by omega⟩ | exact .inr ⟨by rw [hme_]; assumption, by omega⟩, rfl, HB, (HP.keep F28 dj0), HA⟩
  intro h57
  refine Yq 24 2 <| Ydn <| ZF <| Zk <| Zsg <| Zr 1 <| Zb 116 #[] 109 (fun g => .slice (some ⟨g, 0, none⟩) 0 0) ?_
  intro g58 w59 HB61 F60 le62 _
  have ne_m_g58 := ltn HB.lt le62
  have ge_HA_g58 := Nat.le_trans HA.size le62
  have HB := HB.k F60
  refine Zr 3 <| Zl 120 (.slice AL pts.length cL) (HB.s 4) ?_
  have HR68 := RowB.of_blk (n := 0) HB61 (List.map cP []) rfl rfl (cP_len _) (cP_one _) (by omega)
  refine Zar (n := 0) (m := pts.length) (ys := List.map cP pts) 121 et_p HR68 ((List.length_map _).trans ((rfl : List.length ([] : List Pn) = 0))) (((HP.keep F28 dj0).keep F60 dj0).srcN (rfl : List.length pts = _) (cP_len _) (cP_one _) cL) (cP_len _) (cP_one _) ?_
  intro b63 cap64 w65 HR66 F67 hb69
  have ne_m_b63 : m ≠ b63 := hb69.elim (fun h => h ▸ ne_m_g58) (fun h => Nat.ne_of_lt (Nat.lt_of_lt_of_le HB.lt h))
  have HA := HA.step0 F60
  have in_HA_b63 : b63 ∈ [m] ∨ (World.heap w).size ≤ b63 := hb69.elim (fun h => Or.inr (h ▸ ge_HA_g58)) (fun h => Or.inr (Nat.le_trans HA.size h))
  have HR66 : RowB w65 b63 109 4 cap64 ((([] : List Pn) ++ pts).map cP) := by rw [List.map_append]; exact HR66
  refine Zr 5 <| Zb 127 #[J st, .string (str key), J kind, J value] 109 (fun g => .slice (some ⟨g, 0, none⟩) 1 1) ?_
  intro g70 w71 HB73 F72 le74 _
  refine Zar (n := (0 + pts.length)) (m := 1) (ys := List.map cP ([(⟨st, key, kind, value⟩ : Pn)])) 128 et_p (HR66.k F72) ((List.length_map _).trans ((show (([] : List Pn) ++ pts).length = 0 + pts.length by rw [List.length_append, (rfl : List.length ([] : List Pn) = 0)] <;> first | rfl | (have := (rfl : List.length ([] : List Pn) = 0); simp <;> omega)))) (RowB.src (RowB.of_blk (n := 1) HB73 (List.map cP [(⟨st, key, kind, value⟩ : Pn)]) rfl rfl (cP_len _) (cP_one _) (by omega))) (cP_len _) (cP_one _) ?_
  intro b75 cap76 w77 HR78 F79 hb80
  have HB := (HB.j F67 ne_m_g58).k F72
  have ne_m_b75 : m ≠ b75 := hb80.elim (fun h => h ▸ ne_m_b63) (fun h => Nat.ne_of_lt (Nat.lt_of_lt_of_le HB.lt h))
  have HA := (HA.step F67 (inSR ge_HA_g58 inS0)).step0 F72
  have in_HA_b75 : b75 ∈ [m] ∨ (World.heap w).size ≤ b75 := hb80.elim (fun h => (h ▸ in_HA_b63)) (fun h => Or.inr (Nat.le_trans HA.size h))
  have HR78 : RowB w77 b75 109 4 cap76 (((([] : List Pn) ++ pts) ++ [(⟨st, key, kind, value⟩ : Pn)]).map cP) := by rw [List.map_append]; exact HR78
  refine Zr 2 <| Zst m 4 #[J width, J windows, J rows, J seq, .slice (some ⟨b75, 0, none⟩) (0 + pts.length + 1) cap76] (HB.j F79 ne_m_b63) ?_
  intro w81 HB83 F82 _
  refine Zdn <| Zsg <| Zr 1 <| Zdn <| WE.ret <| ZR (J 0) ?_
  have hme_ := met_end hqr (show qr.length ≤ i by omega) hmet
  have hlq_ : (rowsP pts st).length = qr.length := by rw [← hqr, rws_len]
  refine .inr ⟨fun h_ => ?_, ?_⟩
  ·
   rcases h_ with ⟨h1_, h2_⟩ | ⟨h1_, h2_⟩ <;> first | omega | (rw [hme_] at h1_; simp_all; done) | (rw [hme_] at h1_; simp_all; omega)
  have hpl_ : 0 + pts.length + 1 = (pts ++ [(⟨st, key, kind, value⟩ : Pn)]).length := by simp
  exact ⟨some ⟨b75, 0, none⟩, cap76, [b75], rfl, by rw [← hpl_]; exact HB83, VX.of_row (q := (pts ++ [(⟨st, key, kind, value⟩ : Pn)])) (HR78.keep F82 (ninC (Ne.symm ne_m_b75) (nin0 _))), by simpa using ne_m_b75, fun y hy => by rw [List.mem_singleton.1 hy]; exact in_HA_b75.resolve_left (fun h_ => ne_m_b75 (List.mem_singleton.1 h_).symm), ((HA.step F79 (inSD in_HA_b63 inS0)).step F82 (inSL (by simp) inS0))⟩
 intro h26
 refine Yr0 [3, 4, 7, 8, 9, 10, 5, 6, 11, 12, 13, 14] [(103, .bool met), (102, .bool false), (101, .bool false), (100, undef), (95, undef), (94, undef), (99, undef), (98, undef), (97, undef), (96, undef), (93, undef), (92, .bool false)] <| WO.topB (met) ?_ ?_
 ·
  intro h84
  refine Yq 15 11 <| Ydn <| ZF <| Zk <| Zsg <| Zr 1 <| Zb 116 #[] 109 (fun g => .slice (some ⟨g, 0, none⟩) 0 0) ?_
  intro g85 w86 HB88 F87 le89 _
  have HB := HB.k F25
  have ne_m_g85 := ltn HB.lt le89
  have HA := HA.step0 F25
  have ge_HA_g85 := Nat.le_trans HA.size le89
  have HB := HB.k F87
  refine Zr 3 <| Zl 120 (.slice AL pts.length cL) (HB.s 4) ?_
  have HR95 := RowB.of_blk (n := 0) HB88 (List.map cP []) rfl rfl (cP_len _) (cP_one _) (by omega)
  refine Zar (n := 0) (m := pts.length) (ys := List.map cP pts) 121 et_p HR95 ((List.length_map _).trans ((rfl : List.length ([] : List Pn) = 0))) (((HP.keep F25 dj0).keep F87 dj0).srcN (rfl : List.length pts = _) (cP_len _) (cP_one _) cL) (cP_len _) (cP_one _) ?_
  intro b90 cap91 w92 HR93 F94 hb96
  have ne_m_b90 : m ≠ b90 := hb96.elim (fun h => h ▸ ne_m_g85) (fun h => Nat.ne_of_lt (Nat.lt_of_lt_of_le HB.lt h))
  have HA := HA.step0 F87
  have in_HA_b90 : b90 ∈ [m] ∨ (World.heap w).size ≤ b90 := hb96.elim (fun h => Or.inr (h ▸ ge_HA_g85)) (fun h => Or.inr (Nat.le_trans HA.size h))
  have HR93 : RowB w92 b90 109 4 cap91 ((([] : List Pn) ++ pts).map cP) := by rw [List.map_append]; exact HR93
  refine Zr 5 <| Zb 127 #[J st, .string (str key), J kind, J value] 109 (fun g => .slice (some ⟨g, 0, none⟩) 1 1) ?_
  intro g97 w98 HB100 F99 le101 _
  refine Zar (n := (0 + pts.length)) (m := 1) (ys := List.map cP ([(⟨st, key, kind, value⟩ : Pn)])) 128 et_p (HR93.k F99) ((List.length_map _).trans ((show (([] : List Pn) ++ pts).length = 0 + pts.length by rw [List.length_append, (rfl : List.length ([] : List Pn) = 0)] <;> first | rfl | (have := (rfl : List.length ([] : List Pn) = 0); simp <;> omega)))) (RowB.src (RowB.of_blk (n := 1) HB100 (List.map cP [(⟨st, key, kind, value⟩ : Pn)]) rfl rfl (cP_len _) (cP_one _) (by omega))) (cP_len _) (cP_one _) ?_
  intro b102 cap103 w104 HR105 F106 hb107
  have HB := (HB.j F94 ne_m_g85).k F99
  have ne_m_b102 : m ≠ b102 := hb107.elim (fun h => h ▸ ne_m_b90) (fun h => Nat.ne_of_lt (Nat.lt_of_lt_of_le HB.lt h))
  have HA := (HA.step F94 (inSR ge_HA_g85 inS0)).step0 F99
  have in_HA_b102 : b102 ∈ [m] ∨ (World.heap w).size ≤ b102 := hb107.elim (fun h => (h ▸ in_HA_b90)) (fun h => Or.inr (Nat.le_trans HA.size h))
  have HR105 : RowB w104 b102 109 4 cap103 (((([] : List Pn) ++ pts) ++ [(⟨st, key, kind, value⟩ : Pn)]).map cP) := by rw [List.map_append]; exact HR105
  refine Zr 2 <| Zst m 4 #[J width, J windows, J rows, J seq, .slice (some ⟨b102, 0, none⟩) (0 + pts.length + 1) cap103] (HB.j F106 ne_m_b90) ?_
  intro w108 HB110 F109 _
  refine Zdn <| Zsg <| Zr 1 <| Zdn <| WE.ret <| ZR (J 0) ?_
  have hme_ := met_end hqr (show qr.length ≤ i by omega) hmet
  have hlq_ : (rowsP pts st).length = qr.length := by rw [← hqr, rws_len]
  refine .inr ⟨fun h_ => ?_, ?_⟩
  ·
   rcases h_ with ⟨h1_, h2_⟩ | ⟨h1_, h2_⟩ <;> first | omega | (rw [hme_] at h1_; simp_all; done) | (rw [hme_] at h1_; simp_all; omega)
  have hpl_ : 0 + pts.length + 1 = (pts ++ [(⟨st, key, kind, value⟩ : Pn)]).length := by simp
  exact ⟨some ⟨b102, 0, none⟩, cap103, [b102], rfl, by rw [← hpl_]; exact HB110, VX.of_row (q := (pts ++ [(⟨st, key, kind, value⟩ : Pn)])) (HR105.keep F109 (ninC (Ne.symm ne_m_b102) (nin0 _))), by simpa using ne_m_b102, fun y hy => by rw [List.mem_singleton.1 hy]; exact in_HA_b102.resolve_left (fun h_ => ne_m_b102 (List.mem_singleton.1 h_).symm), ((HA.step F106 (inSD in_HA_b90 inS0)).step F109 (inSL (by simp) inS0))⟩
 intro h84
 have HB := HB.k F25
 refine Yq 15 7 <| Yl 22 111 (J rows) (fun _ k => (HB.keepB k ltz_m).at 2 (by kernel_rfl)) <| Yr0 [23] [(112, .bool (decide (((qr.length : Int) : Int) ≥ rows)))] <| WO.topP (((qr.length : Int) : Int) ≥ rows) ?_ ?_
 ·
  intro h111
  refine Yq 24 2 <| Ydn <| ZT <| Zsg <| Zr 1 <| Zdn <| WE.ret <| WQ.thenR <| ZR (J 6) ?_
  have hme_ := met_end hqr (show qr.length ≤ i by omega) hmet
  have hlq_ : (rowsP pts st).length = qr.length := by rw [← hqr, rws_len]
  exact .inl ⟨by first | exact .inl ⟨by omega, by omega⟩ | exact .inr ⟨by rw [hme_]; assumption, by omega⟩, rfl, HB, (HP.keep F25 dj0), (HA.step0 F25)⟩
 intro h111
 refine Yq 24 2 <| Ydn <| ZF <| Zk <| Zsg <| Zr 1 <| Zb 116 #[] 109 (fun g => .slice (some ⟨g, 0, none⟩) 0 0) ?_
 intro g112 w113 HB115 F114 le116 _
 have ne_m_g112 := ltn HB.lt le116
 have HA := HA.step0 F25
 have ge_HA_g112 := Nat.le_trans HA.size le116
 have HB := HB.k F114
 refine Zr 3 <| Zl 120 (.slice AL pts.length cL) (HB.s 4) ?_
 have HR122 := RowB.of_blk (n := 0) HB115 (List.map cP []) rfl rfl (cP_len _) (cP_one _) (by omega)
 refine Zar (n := 0) (m := pts.length) (ys := List.map cP pts) 121 et_p HR122 ((List.length_map _).trans ((rfl : List.length ([] : List Pn) = 0))) (((HP.keep F25 dj0).keep F114 dj0).srcN (rfl : List.length pts = _) (cP_len _) (cP_one _) cL) (cP_len _) (cP_one _) ?_
 intro b117 cap118 w119 HR120 F121 hb123
 have ne_m_b117 : m ≠ b117 := hb123.elim (fun h => h ▸ ne_m_g112) (fun h => Nat.ne_of_lt (Nat.lt_of_lt_of_le HB.lt h))
 have HA := HA.step0 F114
 have in_HA_b117 : b117 ∈ [m] ∨ (World.heap w).size ≤ b117 := hb123.elim (fun h => Or.inr (h ▸ ge_HA_g112)) (fun h => Or.inr (Nat.le_trans HA.size h))
 have HR120 : RowB w119 b117 109 4 cap118 ((([] : List Pn) ++ pts).map cP) := by rw [List.map_append]; exact HR120
 refine Zr 5 <| Zb 127 #[J st, .string (str key), J kind, J value] 109 (fun g => .slice (some ⟨g, 0, none⟩) 1 1) ?_
 intro g124 w125 HB127 F126 le128 _
 refine Zar (n := (0 + pts.length)) (m := 1) (ys := List.map cP ([(⟨st, key, kind, value⟩ : Pn)])) 128 et_p (HR120.k F126) ((List.length_map _).trans ((show (([] : List Pn) ++ pts).length = 0 + pts.length by rw [List.length_append, (rfl : List.length ([] : List Pn) = 0)] <;> first | rfl | (have := (rfl : List.length ([] : List Pn) = 0); simp <;> omega)))) (RowB.src (RowB.of_blk (n := 1) HB127 (List.map cP [(⟨st, key, kind, value⟩ : Pn)]) rfl rfl (cP_len _) (cP_one _) (by omega))) (cP_len _) (cP_one _) ?_
 intro b129 cap130 w131 HR132 F133 hb134
 have HB := (HB.j F121 ne_m_g112).k F126
 have ne_m_b129 : m ≠ b129 := hb134.elim (fun h => h ▸ ne_m_b117) (fun h => Nat.ne_of_lt (Nat.lt_of_lt_of_le HB.lt h))
 have HA := (HA.step F121 (inSR ge_HA_g112 inS0)).step0 F126
 have in_HA_b129 : b129 ∈ [m] ∨ (World.heap w).size ≤ b129 := hb134.elim (fun h => (h ▸ in_HA_b117)) (fun h => Or.inr (Nat.le_trans HA.size h))
 have HR132 : RowB w131 b129 109 4 cap130 (((([] : List Pn) ++ pts) ++ [(⟨st, key, kind, value⟩ : Pn)]).map cP) := by rw [List.map_append]; exact HR132
 refine Zr 2 <| Zst m 4 #[J width, J windows, J rows, J seq, .slice (some ⟨b129, 0, none⟩) (0 + pts.length + 1) cap130] (HB.j F133 ne_m_b117) ?_
 intro w135 HB137 F136 _
 refine Zdn <| Zsg <| Zr 1 <| Zdn <| WE.ret <| ZR (J 0) ?_
 have hme_ := met_end hqr (show qr.length ≤ i by omega) hmet
 have hlq_ : (rowsP pts st).length = qr.length := by rw [← hqr, rws_len]
 refine .inr ⟨fun h_ => ?_, ?_⟩
 ·
  rcases h_ with ⟨h1_, h2_⟩ | ⟨h1_, h2_⟩ <;> first | omega | (rw [hme_] at h1_; simp_all; done) | (rw [hme_] at h1_; simp_all; omega)
 have hpl_ : 0 + pts.length + 1 = (pts ++ [(⟨st, key, kind, value⟩ : Pn)]).length := by simp
 exact ⟨some ⟨b129, 0, none⟩, cap130, [b129], rfl, by rw [← hpl_]; exact HB137, VX.of_row (q := (pts ++ [(⟨st, key, kind, value⟩ : Pn)])) (HR132.keep F136 (ninC (Ne.symm ne_m_b129) (nin0 _))), by simpa using ne_m_b129, fun y hy => by rw [List.mem_singleton.1 hy]; exact in_HA_b129.resolve_left (fun h_ => ne_m_b129 (List.mem_singleton.1 h_).symm), ((HA.step F133 (inSD in_HA_b117 inS0)).step F136 (inSL (by simp) inS0))⟩
end Go.Proofs.YtdhonbahpcmmnaaGreatDoor.Bat
end
section
set_option linter.unusedVariables false
set_option linter.unusedSimpArgs false
namespace Go.Proofs.YtdhonbahpcmmnaaGreatDoor.Bat
open Go Go.RowKit Go.Proofs.YtdhonbahpcmmnaaGreatDoor Go.Proofs.YtdhonbahpcmmnaaGreatDoor.Eng Go.Proofs.YtdhonbahpcmmnaaGreatDoorW.PrintWords
open Go.Proofs Go.Maps
open Go.Proofs.YtdhonbahpcmmnaaGreatDoor.Line
structure De where
  close : Bool
  mark : Int
  key : L
  kind : Int
  value : Int
  time : Int
def de0 : De := ⟨false, 0, [], 0, 0, 0⟩
def gD (q : List De) (i : Nat) : De := q.getD i de0
theorem gD_some (q : List De) (i : Nat) (h : i < q.length) : q[i]? = some (gD q i) := by
  unfold gD
  rw [List.getD_eq_getElem?_getD, List.getElem?_eq_getElem h]
  rfl
def cD (d : De) : List Value := [.bool d.close, .int .i64 d.mark, .string (str d.key), .int .i64 d.kind, .int .i64 d.value, .int .i64 d.time]
def fewP (l : List De) : Bool := l.all (fun d => decide (d.key.length ≤ 400)) && decide (l.length ≤ 60)
theorem few_no {l : List De} (i : Nat) (h : i < l.length) (hn : ¬ (gD l i).key.length ≤ 400) : fewP l = false := by
  unfold fewP
  rw [Bool.and_eq_false_iff]
  refine .inl (List.all_eq_false.2 ⟨gD l i, List.mem_of_getElem? (gD_some l i h), by simpa using hn⟩)
theorem few_end {l : List De} (i : Nat) (h : l.length ≤ i) (hs : ∀ j, j < i → (gD l j).key.length ≤ 400) : fewP l = decide (l.length ≤ 60) := by
  unfold fewP
  rw [List.all_eq_true.2, Bool.true_and]
  intro d hd
  obtain ⟨j, hj, rfl⟩ := List.getElem_of_mem hd
  have h2 := hs j (by omega)
  have h3 := gD_some l j hj
  rw [List.getElem?_eq_getElem hj] at h3
  rw [Option.some.inj h3]
  simpa using h2
set_option maxRecDepth 100000 in
set_option maxHeartbeats 400000 in
theorem few_f (l : List De) (AD : Option Addr) (cD_ : Nat) (FD : List Nat) (w : World) (HD : VX cD 6 w FD AD l) (hdl : l.length ≤ 9223372036854775807) (hkl : ∀ d ∈ l, d.key.length ≤ 9223372036854775807) :
    Calls Tryz.prog 18 #[.slice AD l.length cD_] w fun e w' => e = .returned (.bool (fewP l)) ∧ Fr [] w w' := by
 have HA := Fr.refl [] w
 refine Ze Tryz.func18 _ <| Zsg <| Zr 1 <| Zdn <| Zq <| Zsg <| Zr 1 <| Zdn <| WE.block <| WE.loop (α := Nat) (E := fun i => [(0, .slice AD l.length cD_), (2, .bool false), (3, J (i : Int))]) (I := fun i wr => i ≤ l.length ∧ (∀ j, j < i → (gD l j).key.length ≤ 400) ∧ VX cD 6 wr FD AD l ∧ Fr [] w wr) (m := fun i => l.length - i) 0 [0, 2, 3] (by kernel_rfl) ?_ ?_
 ·
  exact ⟨Nat.zero_le _, fun j h_ => absurd h_ (Nat.not_lt_zero _), HD, HA⟩
 rintro i wr ⟨hi, hsm, HD, HA⟩
 refine Zq <| Zsg <| Zr 3 <| ZoP 7 (((i : Int) : Int) < (l.length : Int)) ?_ ?_
 ·
  intro h1
  refine Zdn <| ZT <| Zk <| Zq <| WE.block <| Zq ?_
  have hkb_ := hkl _ (List.mem_of_getElem? (gD_some l i (by omega)))
  refine WE.region <| Zr 2 ?_
  obtain ⟨ad2, hA3⟩ := HD.addr (i := i) (by have := (rfl : List.length l = _); omega)
  refine Zio 12 l.length 6 i (i : Int) hA3 <| Zr 1 <| Zl 14 (.string (str (gD l i).key)) (same (HD.at hA3 (gD_some l i (by have := (rfl : List.length l = _); omega)) 2 (by kernel_rfl))) <| Zr 1 <| ZoP 16 (((((gD l i).key).length : Int) : Int) > (400 : Int)) ?_ ?_
  ·
   intro h4
   refine Zdn <| ZT <| Zsg <| Zr 1 <| Zdn <| WE.ret <| WQ.blkR <| WQ.thenR <| WQ.thenR <| WQ.blkR <| WQ.thenR <| ZR (.bool false) ?_
   exact ⟨by rw [few_no i (by omega) (by omega)], HA⟩
  intro h4
  refine Zdn <| ZF <| WE.skip <| WQ.blkN <| Zn <| WE.region <| Zr 1 <| Zw 9 ((i : Int) + 1) ((i + 1 : Nat) : Int) <| Zr 1 <| Zd <| WQ.round ?_
  intro a_ ha_
  refine ⟨i + 1, ?_, ha_.keep [0, 2, 3] (by kernel_rfl), ?_⟩
  ·
   show l.length - (i + 1) < l.length - i; omega
  ·
   exact ⟨by omega, fun j h_ => (Nat.lt_succ_iff_lt_or_eq.1 h_).elim (hsm j) (fun e_ => by rw [e_]; omega), HD, HA⟩
 intro h1
 refine Zdn <| ZF <| WE.exit <| WQ.thenE <| WQ.thenE <| WQ.blkE <| Zn <| Zsg <| Zr 4 <| Zdn <| WE.ret <| ZR (.bool (decide (((l.length : Int) : Int) ≤ (60 : Int)))) ?_
 exact ⟨by rw [few_end i (by omega) hsm] <;> first | rfl | (congr 2; simp; omega) | (simp; omega), HA⟩
end Go.Proofs.YtdhonbahpcmmnaaGreatDoor.Bat
end
section
set_option linter.unusedVariables false
set_option linter.unusedSimpArgs false
namespace Go.Proofs.YtdhonbahpcmmnaaGreatDoor.Bat
open Go Go.Proofs.YtdhonbahpcmmnaaGreatDoor.Eng
theorem gW_some (q : List Rw) (i : Nat) (h : i < q.length) : q[i]? = some (gW q i) := by
 unfold gW
 rw [List.getD_eq_getElem?_getD, List.getElem?_eq_getElem h]
 rfl
theorem take_front {α : Type} (p : α → Bool) (l : List α) : l.take (frontN p l) = l.takeWhile p := by
 have h := List.take_left (l₁ := l.takeWhile p) (l₂ := l.dropWhile p)
 rwa [List.takeWhile_append_dropWhile] at h
theorem front_in {α : Type} {p : α → Bool} {l : List α} {x : α} (hx : x ∈ l.take (frontN p l)) : p x = true := by
 rw [take_front] at hx
 exact List.all_eq_true.1 List.all_takeWhile x hx
theorem front_stop {α : Type} {p : α → Bool} : ∀ {l : List α} {x : α}, l[frontN p l]? = some x → p x = false
 | [], x, h => by simp at h
 | a :: l, x, h => by
  unfold frontN at h
  rw [List.takeWhile_cons] at h
  cases hp : p a with
  | false =>
   rw [hp] at h
   simp at h
   exact h ▸ hp
  | true =>
   rw [hp] at h
   simp at h
   exact front_stop (p := p) (l := l) h
theorem front_out {α : Type} {p : α → Bool} {l : List α} {R : α → α → Prop} (hs : l.Pairwise R) {y : α} (hy : y ∈ l.drop (frontN p l)) : ∃ x, l[frontN p l]? = some x ∧ p x = false ∧ (y = x ∨ R x y) := by
 cases hd : l.drop (frontN p l) with
 | nil => rw [hd] at hy; cases hy
 | cons x r =>
  have hx : l[frontN p l]? = some x := by
   have h := List.getElem?_drop (xs := l) (i := frontN p l) (j := 0)
   rw [hd] at h
   simpa using h.symm
  have hp : (x :: r).Pairwise R := by rw [← hd]; exact hs.sublist (List.drop_sublist _ _)
  rw [hd] at hy
  refine ⟨x, hx, front_stop hx, ?_⟩
  rcases List.mem_cons.1 hy with h | h
  ·
   exact .inl h
  ·
   exact .inr ((List.pairwise_cons.1 hp).1 y h)
theorem insS_mem {q : List Int} {s t : Int} : t ∈ insS q s ↔ t ∈ q ∨ t = s := by
 unfold insS
 simp only
 split
 ·
  rename_i h
  exact ⟨.inl, fun h2 => h2.elim id fun e => by rw [e, ← h.2]; exact List.mem_of_getElem? (g0_some q _ h.1)⟩
 ·
  rw [List.mem_append, List.mem_append, List.mem_singleton]
  have h := List.mem_append (a := t) (s := q.take (frontN (fun x => decide (x < s)) q)) (t := q.drop (frontN (fun x => decide (x < s)) q))
  rw [List.take_append_drop] at h
  rw [h]
  constructor
  ·
   rintro ((h | h) | h)
   ·
    exact .inl (.inl h)
   ·
    exact .inr h
   ·
    exact .inl (.inr h)
  ·
   rintro ((h | h) | h)
   ·
    exact .inl (.inl h)
   ·
    exact .inr h
   ·
    exact .inl (.inr h)
theorem ins_sorted {α : Type} {p : α → Bool} {l : List α} {R : α → α → Prop} {a : α} (hs : l.Pairwise R) (h1 : ∀ x, p x = true → R x a) (h2 : ∀ y ∈ l.drop (frontN p l), R a y) : (l.take (frontN p l) ++ [a] ++ l.drop (frontN p l)).Pairwise R := by
 have h : (l.take (frontN p l) ++ l.drop (frontN p l)).Pairwise R := by rw [List.take_append_drop]; exact hs
 obtain ⟨ha, hb, hc⟩ := List.pairwise_append.1 h
 rw [List.append_assoc]
 refine List.pairwise_append.2 ⟨ha, List.pairwise_cons.2 ⟨h2, hb⟩, fun x hx y hy => ?_⟩
 rcases List.mem_cons.1 hy with rfl | hy
 ·
  exact h1 x (front_in hx)
 ·
  exact hc x hx y hy
theorem insS_sorted {q : List Int} {s : Int} (hs : q.Pairwise (· < ·)) : (insS q s).Pairwise (· < ·) := by
 unfold insS
 simp only
 split
 ·
  exact hs
 ·
  rename_i h
  refine ins_sorted hs (fun x hx => by simpa using hx) (fun y hy => ?_)
  obtain ⟨x, hx, hp, hr⟩ := front_out hs hy
  have hl := (List.getElem?_eq_some_iff.1 hx).1
  have hg := g0_some q _ hl
  rw [hx] at hg
  have hne : ¬ x = s := fun e => h ⟨hl, by rw [← Option.some.inj hg]; exact e⟩
  have hge : ¬ x < s := by simpa using hp
  show s < y
  rcases hr with rfl | hr
  ·
   omega
  ·
   have : x < y := hr
   omega
theorem starts_snoc (pts : List Pn) (p : Pn) : startsP (pts ++ [p]) = insS (startsP pts) p.start := by
 unfold startsP
 rw [List.foldl_append]
 rfl
theorem rowsP_snoc (pts : List Pn) (p : Pn) (s : Int) : rowsP (pts ++ [p]) s = if p.start = s then insR (rowsP pts s) p else rowsP pts s := by
 unfold rowsP
 rw [List.filter_append, List.foldl_append]
 split
 ·
  rename_i h
  simp [h]
 ·
  rename_i h
  simp [h]
theorem snoc_ind {α : Type} {P : List α → Prop} (h0 : P []) (h1 : ∀ l a, P l → P (l ++ [a])) (l : List α) : P l := by
 rw [← List.reverse_reverse l]
 induction l.reverse with
 | nil => exact h0
 | cons a r ih =>
  rw [List.reverse_cons]
  exact h1 _ _ ih
theorem starts_sorted (pts : List Pn) : (startsP pts).Pairwise (· < ·) := by
 refine snoc_ind (P := fun pts => (startsP pts).Pairwise (· < ·)) .nil (fun l a ih => ?_) pts
 rw [starts_snoc]
 exact insS_sorted ih
theorem starts_mem (pts : List Pn) (s : Int) : s ∈ startsP pts ↔ ∃ p ∈ pts, p.start = s := by
 refine snoc_ind (P := fun pts => s ∈ startsP pts ↔ ∃ p ∈ pts, p.start = s) (by simp [startsP]) (fun l a ih => ?_) pts
 rw [starts_snoc, insS_mem, ih]
 simp only [List.mem_append, List.mem_singleton]
 constructor
 ·
  rintro (⟨p, h1, h2⟩ | h)
  ·
   exact ⟨p, .inl h1, h2⟩
  ·
   exact ⟨a, .inr rfl, h.symm⟩
 ·
  rintro ⟨p, h1 | rfl, h2⟩
  ·
   exact .inl ⟨p, h1, h2⟩
  ·
   exact .inr h2.symm
theorem ltP_eq (k : L) (kd v : Int) (r : Rw) : ltP k kd r = ltR r (begR k kd v) := rfl
def RSort (q : List Rw) : Prop := q.Pairwise fun a b => ltR a b = true
theorem ltR_kk {a b c : Rw} (h1 : b.key = c.key) (h2 : b.kind = c.kind) : ltR a b = ltR a c ∧ ltR b a = ltR c a := by
 unfold ltR
 rw [h1, h2]
 exact ⟨rfl, rfl⟩
theorem set_sorted {q : List Rw} {k : Nat} {r : Rw} (hk : k < q.length) (h1 : r.key = (gW q k).key) (h2 : r.kind = (gW q k).kind) (hs : RSort q) : RSort (q.set k r) := by
 have e : q.map (fun r => (r.key, r.kind)) = (q.set k r).map (fun r => (r.key, r.kind)) := by
  refine List.ext_getElem? fun i => ?_
  rw [List.getElem?_map, List.getElem?_map, List.getElem?_set]
  by_cases hi : k = i
  ·
   subst hi
   rw [if_pos rfl, if_pos hk, gW_some q k hk]
   simp [h1, h2]
  ·
   rw [if_neg hi]
 have hm : ∀ l : List Rw, RSort l ↔ (l.map fun r => (r.key, r.kind)).Pairwise (fun a b => (ltS a.1 b.1 || (decide (a.1 = b.1) && decide (a.2 < b.2))) = true) := fun l => by
  rw [List.pairwise_map]
  rfl
 rw [hm, ← e, ← hm]
 exact hs
theorem front_met {q : List Rw} {k : L} {kd : Int} (hs : RSort q) (h : (q.any fun r => decide (r.key = k ∧ r.kind = kd)) = true) : frontN (ltP k kd) q < q.length ∧ (gW q (frontN (ltP k kd) q)).key = k ∧ (gW q (frontN (ltP k kd) q)).kind = kd := by
 obtain ⟨r, hr, hk⟩ := List.any_eq_true.1 h
 have hk := of_decide_eq_true hk
 have hpr : ltP k kd r = false := by
  rw [ltP_eq k kd 0, (ltR_kk (a := r) (b := begR k kd 0) (c := r) hk.1.symm hk.2.symm).1]
  exact ltR_irrefl r
 have hd : r ∈ q.drop (frontN (ltP k kd) q) := by
  have h2 : r ∈ q.take (frontN (ltP k kd) q) ++ q.drop (frontN (ltP k kd) q) := by rw [List.take_append_drop]; exact hr
  rcases List.mem_append.1 h2 with h3 | h3
  ·
   rw [front_in h3] at hpr
   cases hpr
  ·
   exact h3
 obtain ⟨x, hx, hp, hxr⟩ := front_out hs hd
 have hl := (List.getElem?_eq_some_iff.1 hx).1
 have hg := gW_some q _ hl
 rw [hx] at hg
 rw [← Option.some.inj hg]
 rcases hxr with rfl | hxr
 ·
  exact ⟨hl, hk⟩
 ·
  rw [ltP_eq k kd 0, (ltR_kk (a := x) (b := begR k kd 0) (c := r) hk.1.symm hk.2.symm).1, hxr] at hp
  cases hp
theorem insR_met {q : List Rw} {p : Pn} (hs : RSort q) (h : (q.any fun r => decide (r.key = p.key ∧ r.kind = p.kind)) = true) : ∃ k, k < q.length ∧ (gW q k).key = p.key ∧ (gW q k).kind = p.kind ∧ insR q p = q.set k (addR (gW q k) p.value) := by
 have h2 := front_met hs h
 refine ⟨_, h2.1, h2.2.1, h2.2.2, ?_⟩
 unfold insR
 simp only
 rw [if_pos h2]
theorem insR_not {q : List Rw} {p : Pn} (h : (q.any fun r => decide (r.key = p.key ∧ r.kind = p.kind)) = false) : insR q p = q.take (frontN (ltP p.key p.kind) q) ++ [begR p.key p.kind p.value] ++ q.drop (frontN (ltP p.key p.kind) q) := by
 unfold insR
 simp only
 rw [if_neg]
 intro h2
 have h3 := List.any_eq_false.1 h _ (List.mem_of_getElem? (gW_some q _ h2.1))
 simp [h2.2] at h3
theorem insR_sorted {q : List Rw} {p : Pn} (hs : RSort q) : RSort (insR q p) := by
 cases h : q.any fun r => decide (r.key = p.key ∧ r.kind = p.kind) with
 | true =>
  obtain ⟨k, h1, h2, h3, e⟩ := insR_met hs h
  rw [e]
  exact set_sorted h1 rfl rfl hs
 | false =>
  rw [insR_not h]
  refine ins_sorted hs (fun x hx => by rwa [ltP_eq _ _ p.value] at hx) (fun y hy => ?_)
  obtain ⟨x, hx, hp, hr⟩ := front_out hs hy
  have hne := List.any_eq_false.1 h x (List.mem_of_getElem? hx)
  rw [ltP_eq _ _ p.value] at hp
  have hlt : ltR (begR p.key p.kind p.value) x = true := by
   cases h4 : ltR (begR p.key p.kind p.value) x with
   | true => rfl
   | false =>
    have h5 := ltR_tri hp h4
    exact absurd (decide_eq_true (show x.key = p.key ∧ x.kind = p.kind from h5)) hne
  rcases hr with rfl | hr
  ·
   exact hlt
  ·
   exact ltR_trans hlt hr
theorem rows_sorted (pts : List Pn) (s : Int) : RSort (rowsP pts s) := by
 refine snoc_ind (P := fun pts => RSort (rowsP pts s)) .nil (fun l a ih => ?_) pts
 rw [rowsP_snoc]
 split
 ·
  exact insR_sorted ih
 ·
  exact ih
end Go.Proofs.YtdhonbahpcmmnaaGreatDoor.Bat
end
