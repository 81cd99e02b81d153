/- Layer 20's walks: a table of windows: New, Add. -/
import Derived.Test.YtdhonbahpcmmnaaGreatDoorMapG
import Derived.Test.YtdhonbahpcmmnaaGreatDoorEngC
set_option linter.unusedVariables false
set_option linter.unusedSimpArgs false
namespace Go.Proofs.YtdhonbahpcmmnaaGreatDoor.Bat
open Go Go.RowKit Go.Proofs.YtdhonbahpcmmnaaGreatDoor Go.Proofs.YtdhonbahpcmmnaaGreatDoor.Eng Go.Proofs.YtdhonbahpcmmnaaGreatDoorW.PrintWords
open Go.Proofs Go.Maps
open Go.Proofs.YtdhonbahpcmmnaaGreatDoor.Line
def Vp (a : L × Int) : Value := .agg #[.string (str a.1), .int .i64 a.2]
def Lp (a : L × Int) : Lit := .string (keyBytes [.string a.1, .int .i64 a.2])
def okp (a : L × Int) : Prop := a.1.length ≤ maxLen ∧ (Lit.int .i64 a.2).wf = true
theorem key_place (a : L × Int) (h : okp a) : keyOf Tryz.prog 97 (Vp a) = some (Lp a) := by
  obtain ⟨h1, h2⟩ := h
  have k9 : ∀ d, Tryz.prog.keyLits (d + 1) 9 [.string (str a.1)] = some [.string a.1] := fun d => by
    unfold Program.keyLits
    rw [Tryz.underlying9]
    simp only
    rw [if_pos (by rw [str_size]; exact h1)]
    rfl
  have k3 : ∀ d, Tryz.prog.keyLits (d + 1) 3 [.int .i64 a.2] = some [.int .i64 a.2] := fun d => by
    unfold Program.keyLits
    rw [Tryz.underlying3]
    simp only
    rw [if_pos ⟨trivial, h2⟩]
  have hn : Tryz.prog.types.size = 246 + 1 := by kernel_rfl
  have c97 : Tryz.prog.cellsOf 97 = 2 := by kernel_rfl
  have k97 : Tryz.prog.keyLits (Tryz.prog.types.size + 1) 97 [.string (str a.1), .int .i64 a.2] = some [.string a.1, .int .i64 a.2] := by
    rw [hn]
    unfold Program.keyLits
    rw [Tryz.underlying97]
    have c9 : Tryz.prog.cellsOf 9 = 1 := by kernel_rfl
    have c3 : Tryz.prog.cellsOf 3 = 1 := by kernel_rfl
    simp [c97, c9, c3, k9, k3]
  unfold keyOf Vp
  rw [Tryz.underlying97]
  have kt : Tryz.prog.keyType 97 = true := by kernel_rfl
  simp only
  rw [if_pos (by simp [kt, Value.formed, Tryz.underlying97, c97]), show (Value.agg #[Value.string (str a.1), .int .i64 a.2]).cells.toList = [Value.string (str a.1), .int .i64 a.2] from rfl, k97]
  rfl
theorem ks_place : KS Tryz.prog 97 Vp Lp okp where
  keyed := Keyed.of_law (deep_law_laid (m := 20) (by kernel_rfl) (by decide) (of_decide_eq_true (by kernel_rfl)) (by kernel_rfl) (by kernel_rfl))
  key := key_place
  inj a b h := by
    unfold Vp at h
    simp only [Value.agg.injEq, Array.mk.injEq, List.cons.injEq, Value.string.injEq, Value.int.injEq, true_and, and_true] at h
    exact Prod.ext (str_inj.1 h.1) h.2
def Er (cs : List Value) : Value := .agg cs.toArray
def zrw : List Value := [.string (⟨#[]⟩), .int .i64 0, .int .u64 0, .int .i64 0, .int .i64 0, .int .i64 0, .bool false, .slice none 0 0]
theorem gtI : GT Tryz.prog 94 97 54 Vp Lp okp Er zrw where
  ks := ks_place
  t := Tryz.underlying94
  z w := Tryz.zeroValue54 w
  inj a b h := by unfold Er at h; simpa using h
theorem gtO : GT Tryz.prog 86 2 94 Vi Li oki Em none where
  ks := ks_int Tryz.underlying2
  t := Tryz.underlying86
  z w := Tryz.zeroValue94 w
  inj := em_inj
abbrev WX := Int × Nat × List RX
def eO (wx : List WX) : List (Int × Option Nat) := wx.map fun x => (x.1, some x.2.1)
def eI (xs : List RX) : List ((L × Int) × List Value) := xs.map fun r => ((r.1.key, r.1.kind), cW r)
theorem eO_len (wx : List WX) : (eO wx).length = wx.length := List.length_map _
theorem eI_len (xs : List RX) : (eI xs).length = xs.length := List.length_map _
theorem gE_no {α β : Type} [DecidableEq α] {es : List (α × β)} {a : α} {z : β} (h : hasE es a = false) : gE es a z = z := by
  unfold gE
  rw [List.find?_eq_none.2 (fun e he => by
    have := List.any_eq_false.1 h e he
    simpa using this)]
  rfl
theorem gE_hd {α β : Type} [DecidableEq α] {es : List (α × β)} {a : α} {b z : β} : gE ((a, b) :: es) a z = b := by
  unfold gE
  rw [List.find?_cons_of_pos (by simp)]
  rfl
theorem hasE_hd {α β : Type} [DecidableEq α] {es : List (α × β)} {a : α} {b : β} : hasE ((a, b) :: es) a = true := by
  unfold hasE
  simp
theorem eO_hd {st : Int} {mi : Nat} {xs : List RX} {wr : List WX} : gE (eO ((st, mi, xs) :: wr)) st none = some mi ∧ hasE (eO ((st, mi, xs) :: wr)) st = true := ⟨gE_hd, hasE_hd⟩
theorem eI_hd {r : RX} {xs : List RX} {key : L} {kind : Int} (h : (r.1.key, r.1.kind) = (key, kind)) : gE (eI (r :: xs)) (key, kind) zrw = cW r ∧ hasE (eI (r :: xs)) (key, kind) = true := by
  rw [← h]
  exact ⟨gE_hd, hasE_hd⟩
theorem putO_new {w : World} {mo mi : Nat} {wx : List WX} {st : Int} {xs : List RX} (hn : hasE (eO wx) st = false) (h : MapG Tryz.prog 2 Li oki Em w mo (putG (eO wx) st (some mi))) : MapG Tryz.prog 2 Li oki Em w mo (eO ((st, mi, xs) :: wx)) := by
  unfold putG at h
  rw [List.filter_eq_self.2 (fun e he => by
    have := List.any_eq_false.1 hn e he
    simpa using this)] at h
  exact h
theorem put_more {w w0 : World} {m : Nat} {xs : List RX} {r r' : RX} {key : L} {kind : Int} (hk : (r.1.key, r.1.kind) = (key, kind)) (h0 : MapG Tryz.prog 97 Lp okp Er w0 m (eI (r :: xs))) (h : MapG Tryz.prog 97 Lp okp Er w m (putG (eI (r :: xs)) (key, kind) (cW r'))) (hk2 : r'.1.key = r.1.key := by rfl) (hd2 : r'.1.kind = r.1.kind := by rfl) : MapG Tryz.prog 97 Lp okp Er w m (eI (r' :: xs)) := by
  have hn := h0.apart ks_place
  unfold putG at h
  have e : (eI (r :: xs)).filter (fun e => !decide (e.1 = (key, kind))) = eI xs := by
    show (((r.1.key, r.1.kind), cW r) :: eI xs).filter _ = _
    rw [List.filter_cons_of_neg (by simp [hk])]
    refine List.filter_eq_self.2 fun e he => ?_
    have h1 : (r.1.key, r.1.kind) ∉ (eI xs).map (·.1) := (List.nodup_cons.1 hn).1
    rw [hk] at h1
    simp only [Bool.not_eq_true', decide_eq_false_iff_not]
    intro h2
    exact h1 (h2 ▸ List.mem_map.2 ⟨e, he, rfl⟩)
  rw [e, ← hk, ← hk2, ← hd2] at h
  exact h
theorem put_new {w : World} {m : Nat} {xs : List RX} {r : RX} {key : L} {kind : Int} (hn : hasE (eI xs) (key, kind) = false) (h : MapG Tryz.prog 97 Lp okp Er w m (putG (eI xs) (key, kind) (cW r))) (hk : r.1.key = key := by rfl) (hd : r.1.kind = kind := by rfl) : MapG Tryz.prog 97 Lp okp Er w m (eI (r :: xs)) := by
  unfold putG at h
  rw [List.filter_eq_self.2 (fun e he => by
    have := List.any_eq_false.1 hn e he
    simpa using this)] at h
  subst hk hd
  exact h
theorem st_eq {time width st : Int} (h : 0 ≤ time ∧ time ≤ 1099511627776) (hW : 1 ≤ width ∧ width ≤ 1099511627776) (hst : st = time - time % width) : Value.int .i64 (IntKind.i64.wrap (time - (time : Int).tmod width)) = .int .i64 st := by
  have h1 : (time : Int).tmod width = time % width := Int.tmod_eq_emod_of_nonneg h.1
  have h2 := Int.emod_nonneg time (show width ≠ 0 by omega)
  have h3 := Int.emod_lt_of_pos time (show 0 < width by omega)
  rw [h1, hst, wrap_in rfl (by omega)]
theorem st_in {time width st : Int} (h : 0 ≤ time ∧ time ≤ 1099511627776) (hW : 1 ≤ width ∧ width ≤ 1099511627776) (hst : st = time - time % width) : 0 ≤ st ∧ st ≤ 1099511627776 := by
  have h2 := Int.emod_nonneg time (show width ≠ 0 by omega)
  have h3 : time % width ≤ time := by
    have h4 := Int.emod_add_mul_ediv time width
    have h5 : 0 ≤ width * (time / width) := Int.mul_nonneg (by omega) (Int.ediv_nonneg h.1 (by omega))
    omega
  omega
theorem oki_st {time width st : Int} (h : 0 ≤ time ∧ time ≤ 1099511627776) (hW : 1 ≤ width ∧ width ≤ 1099511627776) (hst : st = time - time % width) : oki st := by
  have := st_in h hW hst
  unfold oki
  omega
theorem okp_of {key : L} {kind : Int} (h : key.length ≤ 100000) (hk : 1 ≤ kind ∧ kind ≤ 3) : okp (key, kind) := by
  refine ⟨by unfold maxLen; show key.length ≤ _; omega, ?_⟩
  have : IntKind.i64.min = -9223372036854775808 := by decide
  have : IntKind.i64.max = 9223372036854775807 := by decide
  simp [Lit.wf]
  omega
set_option maxRecDepth 100000 in
set_option maxHeartbeats 400000 in
theorem new_bad (width windows rows seq : Int) (w : World) (hbad : ¬ (1 ≤ width ∧ width ≤ 1099511627776 ∧ 1 ≤ windows ∧ windows ≤ 100 ∧ 1 ≤ rows ∧ rows ≤ 200 ∧ 0 ≤ seq ∧ seq ≤ 1000000)) :
    Calls Tryz.prog 19 #[.int .i64 width, .int .i64 windows, .int .i64 rows, .int .i64 seq] w fun e w' => e = .returned (.tuple #[.pointer none, .iface 32 (.int .i64 1)]) ∧ Fr [] w w' := by
 have HA := Fr.refl [] w
 refine Ze Tryz.func19 _ <| Zsg <| Zr 2 <| Zdn <| Zq <| Zsg <| Zr 1 <| ZoP 11 ((width : Int) < 1) ?_ ?_
 ·
  intro h1
  refine Zr 28 <| Zdn <| ZT <| Zsg <| Zr 3 <| Zdn <| WE.ret <| WQ.thenR <| ZR (.tuple #[.pointer none, .iface 32 (J 1)]) ?_
  exact ⟨rfl, HA⟩
 intro h1
 refine Zr 2 <| ZoP 14 ((width : Int) > 1099511627776) ?_ ?_
 ·
  intro h2
  refine Zr 25 <| Zdn <| ZT <| Zsg <| Zr 3 <| Zdn <| WE.ret <| WQ.thenR <| ZR (.tuple #[.pointer none, .iface 32 (J 1)]) ?_
  exact ⟨rfl, HA⟩
 intro h2
 refine Zr 3 <| ZoP 18 ((windows : Int) < 1) ?_ ?_
 ·
  intro h3
  refine Zr 21 <| Zdn <| ZT <| Zsg <| Zr 3 <| Zdn <| WE.ret <| WQ.thenR <| ZR (.tuple #[.pointer none, .iface 32 (J 1)]) ?_
  exact ⟨rfl, HA⟩
 intro h3
 refine Zr 3 <| ZoP 22 ((windows : Int) > 100) ?_ ?_
 ·
  intro h4
  refine Zr 17 <| Zdn <| ZT <| Zsg <| Zr 3 <| Zdn <| WE.ret <| WQ.thenR <| ZR (.tuple #[.pointer none, .iface 32 (J 1)]) ?_
  exact ⟨rfl, HA⟩
 intro h4
 refine Zr 3 <| ZoP 26 ((rows : Int) < 1) ?_ ?_
 ·
  intro h5
  refine Zr 13 <| Zdn <| ZT <| Zsg <| Zr 3 <| Zdn <| WE.ret <| WQ.thenR <| ZR (.tuple #[.pointer none, .iface 32 (J 1)]) ?_
  exact ⟨rfl, HA⟩
 intro h5
 refine Zr 3 <| ZoP 30 ((rows : Int) > 200) ?_ ?_
 ·
  intro h6
  refine Zr 9 <| Zdn <| ZT <| Zsg <| Zr 3 <| Zdn <| WE.ret <| WQ.thenR <| ZR (.tuple #[.pointer none, .iface 32 (J 1)]) ?_
  exact ⟨rfl, HA⟩
 intro h6
 refine Zr 3 <| ZoP 34 ((seq : Int) < 0) ?_ ?_
 ·
  intro h7
  refine Zr 5 <| Zdn <| ZT <| Zsg <| Zr 3 <| Zdn <| WE.ret <| WQ.thenR <| ZR (.tuple #[.pointer none, .iface 32 (J 1)]) ?_
  exact ⟨rfl, HA⟩
 intro h7
 refine Zr 3 <| ZoP 38 ((seq : Int) > 1000000) ?_ ?_
 ·
  intro h8
  refine Zr 1 <| Zdn <| ZT <| Zsg <| Zr 3 <| Zdn <| WE.ret <| WQ.thenR <| ZR (.tuple #[.pointer none, .iface 32 (J 1)]) ?_
  exact ⟨rfl, HA⟩
 intro h8
 refine Zr 1 <| Zdn <| ZF <| Zk <| Zsg <| Zr 4 <| WO.mmG (SQ.E 4 (by kernel_rfl)) 45 2 Li oki Em (by kernel_rfl) (fun _ _ => trivial) ?_
 intro m9 w10 HM11 F12 le13 _
 refine Zr 1 <| Zb 47 #[J width, J windows, J rows, J seq, .map (some m9)] 88 (fun g => Pt g 0) ?_
 intro g14 w15 HB17 F16 le18 _
 refine Zr 2 <| Zdn <| WE.ret <| ZR (.tuple #[Pt g14 0, .nilIface]) ?_
 exact absurd hbad (by omega)
set_option maxRecDepth 100000 in
set_option maxHeartbeats 400000 in
theorem new_ok (width windows rows seq : Int) (w : World) (hg : 1 ≤ width ∧ width ≤ 1099511627776 ∧ 1 ≤ windows ∧ windows ≤ 100 ∧ 1 ≤ rows ∧ rows ≤ 200 ∧ 0 ≤ seq ∧ seq ≤ 1000000) :
    Calls Tryz.prog 19 #[.int .i64 width, .int .i64 windows, .int .i64 rows, .int .i64 seq] w fun e w' => ∃ tb mo, e = .returned (.tuple #[.pointer (some ⟨tb, 0, none⟩), .nilIface]) ∧ Blk w' tb #[.int .i64 width, .int .i64 windows, .int .i64 rows, .int .i64 seq, .map (some mo)] 88 ∧ MapG Tryz.prog 2 Li oki Em w' mo [] ∧ tb ≠ mo ∧ w.heap.size ≤ tb ∧ w.heap.size ≤ mo ∧ Fr [] w w' := by
 have HA := Fr.refl [] w
 refine Ze Tryz.func19 _ <| Zsg <| Zr 2 <| Zdn <| Zq <| Zsg <| Zr 1 <| ZoPF 11 ((width : Int) < 1) (by omega) <| Zr 2 <| ZoPF 14 ((width : Int) > 1099511627776) (by omega) <| Zr 3 <| ZoPF 18 ((windows : Int) < 1) (by omega) <| Zr 3 <| ZoPF 22 ((windows : Int) > 100) (by omega) <| Zr 3 <| ZoPF 26 ((rows : Int) < 1) (by omega) <| Zr 3 <| ZoPF 30 ((rows : Int) > 200) (by omega) <| Zr 3 <| ZoPF 34 ((seq : Int) < 0) (by omega) <| Zr 3 <| ZoPF 38 ((seq : Int) > 1000000) (by omega) <| Zr 1 <| Zdn <| ZF <| Zk <| Zsg <| Zr 4 <| WO.mmG (SQ.E 4 (by kernel_rfl)) 45 2 Li oki Em (by kernel_rfl) (fun _ _ => trivial) ?_
 intro m1 w2 HM3 F4 le5 _
 have ge_HA_m1 := Nat.le_trans HA.size le5
 refine Zr 1 <| Zb 47 #[J width, J windows, J rows, J seq, .map (some m1)] 88 (fun g => Pt g 0) ?_
 intro g6 w7 HB9 F8 le10 _
 have ne_m1_g6 := ltn HM3.lt le10
 have HA := HA.step0 F4
 have ge_HA_g6 := Nat.le_trans HA.size le10
 refine Zr 2 <| Zdn <| WE.ret <| ZR (.tuple #[Pt g6 0, .nilIface]) ?_
 exact ⟨g6, m1, rfl, HB9, (HM3.keep F8 (nin0 _)), (Ne.symm ne_m1_g6), ge_HA_g6, ge_HA_m1, (HA.step0 F8)⟩
set_option maxRecDepth 100000 in
set_option maxHeartbeats 400000 in
theorem add_bad (tb : Nat) (mark : Int) (key : L) (kind value time : Int) (w : World) (hkey : key.length ≤ 100000) (hbad : ¬ ((ofE key).isSome = true ∧ (1 ≤ kind ∧ kind ≤ 3) ∧ (0 ≤ time ∧ time ≤ 1099511627776))) (HS : VarI w "strconv.ErrSyntax") (HR : VarI w "strconv.ErrRange") (HTab : Lib.TabIs Tryz.prog w "internal/strconv.uint64pow10" .u64 Lib.pow10Tab) (HM : MaxI w) :
    Calls Tryz.prog 20 #[.pointer (some ⟨tb, 0, none⟩), .int .i64 mark, .string (str key), .int .i64 kind, .int .i64 value, .int .i64 time] w fun e w' => e = .returned (.iface 32 (.int .i64 1)) ∧ Fr [] w w' := by
 have HA := Fr.refl [] w
 refine Ze Tryz.func20 _ <| Zsg <| Zr 1 <| Zdn <| Zq <| Zsg <| Zr 1 ?_
 cases hof_ : ofE key
 ·
  refine Zc 23 (of_f key _ hkey HS HR HTab HM) ?_
  intro e_ w1 hr_
  rw [hof_] at hr_
  obtain ⟨rfl, F2⟩ := hr_
  refine ⟨_, rfl, trivial, Zr 3 <| Zb 13 #[.string (⟨#[]⟩), .slice none 0 0, J 0, J 0, J 0] 91 (fun g => Pt g 0) ?_⟩
  intro g3 w4 HB6 F5 le7 _
  have HA := HA.step0 F2
  have ge_HA_g3 := Nat.le_trans HA.size le7
  refine Zst g3 0 #[.string (⟨#[]⟩), .slice none 0 0, J 0, J 0, J 0] HB6 ?_
  intro w8 HB10 F9 _
  refine Zr 1 <| Zdn <| Zsg <| Zr 18 <| Zdn <| ZT <| Zsg <| Zr 2 <| Zdn <| WE.ret <| WQ.thenR <| ZR (.iface 32 (J 1)) ?_
  exact ⟨rfl, ((HA.step0 F5).step F9 (inSR ge_HA_g3 inS0))⟩
 ·
  rename_i x_
  refine Zc 23 (of_f key _ hkey HS HR HTab HM) ?_
  intro e_ w1 hr_
  rw [hof_] at hr_
  obtain ⟨A_, n_, c_, F_, rfl, _, _, _, _, F2⟩ := hr_
  refine ⟨_, rfl, trivial, Zr 3 <| Zb 13 #[.string (⟨#[]⟩), .slice none 0 0, J 0, J 0, J 0] 91 (fun g => Pt g 0) ?_⟩
  intro g11 w12 HB14 F13 le15 _
  have HA := HA.step0 F2
  have ge_HA_g11 := Nat.le_trans HA.size le15
  refine Zst g11 0 #[.string (str x_.1), .slice A_ n_ c_, J 0, J 0, J 0] HB14 ?_
  intro w16 HB18 F17 _
  have HA := (HA.step0 F13).step F17 (inSR ge_HA_g11 inS0)
  refine Zr 1 <| Zdn <| Zsg <| Zr 4 <| ZoP 30 ((kind : Int) < 1) ?_ ?_
  ·
   intro h19
   refine Zr 13 <| Zdn <| ZT <| Zsg <| Zr 2 <| Zdn <| WE.ret <| WQ.thenR <| ZR (.iface 32 (J 1)) ?_
   exact ⟨rfl, HA⟩
  intro h19
  refine Zr 3 <| ZoP 34 ((kind : Int) > 3) ?_ ?_
  ·
   intro h20
   refine Zr 9 <| Zdn <| ZT <| Zsg <| Zr 2 <| Zdn <| WE.ret <| WQ.thenR <| ZR (.iface 32 (J 1)) ?_
   exact ⟨rfl, HA⟩
  intro h20
  refine Zr 3 <| ZoP 38 ((time : Int) < 0) ?_ ?_
  ·
   intro h21
   refine Zr 5 <| Zdn <| ZT <| Zsg <| Zr 2 <| Zdn <| WE.ret <| WQ.thenR <| ZR (.iface 32 (J 1)) ?_
   exact ⟨rfl, HA⟩
  intro h21
  refine Zr 3 <| ZoP 42 ((time : Int) > 1099511627776) ?_ ?_
  ·
   intro h22
   refine Zr 1 <| Zdn <| ZT <| Zsg <| Zr 2 <| Zdn <| WE.ret <| WQ.thenR <| ZR (.iface 32 (J 1)) ?_
   exact ⟨rfl, HA⟩
  intro h22
  refine Zr 1 <| Zdn <| ZF <| Zk <| Zq ?_
  exact absurd ⟨by rw [hof_]; rfl, by omega, by omega⟩ hbad
set_option maxRecDepth 100000 in
set_option maxHeartbeats 400000 in
theorem add_late (tb mo : Nat) (width windows rows seq mark : Int) (key : L) (kind value time : Int) (w : World) (HB : Blk w tb #[.int .i64 width, .int .i64 windows, .int .i64 rows, .int .i64 seq, .map (some mo)] 88) (hW : 1 ≤ width ∧ width ≤ 1099511627776) (hkey : key.length ≤ 100000) (hof : (ofE key).isSome = true) (hkd : 1 ≤ kind ∧ kind ≤ 3) (htm : 0 ≤ time ∧ time ≤ 1099511627776) (st : Int) (hst : st = time - time % width) (hlate : st + width ≤ mark) (HS : VarI w "strconv.ErrSyntax") (HR : VarI w "strconv.ErrRange") (HTab : Lib.TabIs Tryz.prog w "internal/strconv.uint64pow10" .u64 Lib.pow10Tab) (HM : MaxI w) :
    Calls Tryz.prog 20 #[.pointer (some ⟨tb, 0, none⟩), .int .i64 mark, .string (str key), .int .i64 kind, .int .i64 value, .int .i64 time] w fun e w' => e = .returned (.iface 32 (.int .i64 8)) ∧ Fr [] w w' := by
 have hst_ := st_in htm hW hst
 have HA := Fr.refl [] w
 refine Ze Tryz.func20 _ <| Zsg <| Zr 1 <| Zdn <| Zq <| Zsg <| Zr 1 ?_
 obtain ⟨x_, hof_⟩ := Option.isSome_iff_exists.1 hof
 refine Zc 23 (of_f key _ hkey HS HR HTab HM) ?_
 intro e_ w1 hr_
 rw [hof_] at hr_
 obtain ⟨A_, n_, c_, F_, rfl, _, _, _, _, F2⟩ := hr_
 refine ⟨_, rfl, trivial, Zr 3 <| Zb 13 #[.string (⟨#[]⟩), .slice none 0 0, J 0, J 0, J 0] 91 (fun g => Pt g 0) ?_⟩
 intro g3 w4 HB6 F5 le7 _
 have HB := HB.k F2
 have ne_tb_g3 := ltn HB.lt le7
 have HA := HA.step0 F2
 have ge_HA_g3 := Nat.le_trans HA.size le7
 refine Zst g3 0 #[.string (str x_.1), .slice A_ n_ c_, J 0, J 0, J 0] HB6 ?_
 intro w8 HB10 F9 _
 have HB := (HB.k F5).j F9 ne_tb_g3
 refine Zr 1 <| Zdn <| Zsg <| Zr 4 <| ZoPF 30 ((kind : Int) < 1) (by omega) <| Zr 3 <| ZoPF 34 ((kind : Int) > 3) (by omega) <| Zr 3 <| ZoPF 38 ((time : Int) < 0) (by omega) <| Zr 3 <| ZoPF 42 ((time : Int) > 1099511627776) (by omega) <| Zr 1 <| Zdn <| ZF <| Zk <| Zsg <| Zr 5 <| Zl 50 (J width) (HB.s 0) <| Zm 51 .i64 time width (by omega) <| Zo 52 (J (IntKind.i64.wrap (time - ((time : Int).tmod width)))) <| WO.top (v' := J st) (st_eq htm hW hst) <| Zr 1 <| Zdn <| Zq <| Zsg <| Zr 4 <| Zl 57 (J width) (HB.s 0) <| Zw 58 (st + width) (st + width) <| Zr 1 <| ZoPT 60 ((st + width : Int) ≤ mark) (by omega) <| Zdn <| ZT <| Zsg <| Zr 2 <| Zdn <| WE.ret <| WQ.thenR <| ZR (.iface 32 (J 8)) ?_
 exact ⟨rfl, ((HA.step0 F5).step F9 (inSR ge_HA_g3 inS0))⟩
set_option maxRecDepth 100000 in
set_option maxHeartbeats 400000 in
theorem add_full1 (tb mo : Nat) (width windows rows seq mark : Int) (key : L) (kind value time : Int) (wx : List WX) (w : World) (HB : Blk w tb #[.int .i64 width, .int .i64 windows, .int .i64 rows, .int .i64 seq, .map (some mo)] 88) (hW : 1 ≤ width ∧ width ≤ 1099511627776) (hkey : key.length ≤ 100000) (hof : (ofE key).isSome = true) (hkd : 1 ≤ kind ∧ kind ≤ 3) (htm : 0 ≤ time ∧ time ≤ 1099511627776) (st : Int) (hst : st = time - time % width) (hin : ¬ st + width ≤ mark) (HMo : MapG Tryz.prog 2 Li oki Em w mo (eO wx)) (hno : hasE (eO wx) st = false) (hfull : windows ≤ wx.length) (hwl : wx.length ≤ 1000000) (HS : VarI w "strconv.ErrSyntax") (HR : VarI w "strconv.ErrRange") (HTab : Lib.TabIs Tryz.prog w "internal/strconv.uint64pow10" .u64 Lib.pow10Tab) (HM : MaxI w) :
    Calls Tryz.prog 20 #[.pointer (some ⟨tb, 0, none⟩), .int .i64 mark, .string (str key), .int .i64 kind, .int .i64 value, .int .i64 time] w fun e w' => e = .returned (.iface 32 (.int .i64 6)) ∧ Fr [] w w' := by
 have hst_ := st_in htm hW hst
 have HA := Fr.refl [] w
 refine Ze Tryz.func20 _ <| Zsg <| Zr 1 <| Zdn <| Zq <| Zsg <| Zr 1 ?_
 obtain ⟨x_, hof_⟩ := Option.isSome_iff_exists.1 hof
 refine Zc 23 (of_f key _ hkey HS HR HTab HM) ?_
 intro e_ w1 hr_
 rw [hof_] at hr_
 obtain ⟨A_, n_, c_, F_, rfl, _, _, _, _, F2⟩ := hr_
 refine ⟨_, rfl, trivial, Zr 3 <| Zb 13 #[.string (⟨#[]⟩), .slice none 0 0, J 0, J 0, J 0] 91 (fun g => Pt g 0) ?_⟩
 intro g3 w4 HB6 F5 le7 _
 have HB := HB.k F2
 have ne_tb_g3 := ltn HB.lt le7
 have HMo := HMo.keep F2 (nin0 _)
 have ne_mo_g3 := ltn HMo.lt le7
 have HA := HA.step0 F2
 have ge_HA_g3 := Nat.le_trans HA.size le7
 refine Zst g3 0 #[.string (str x_.1), .slice A_ n_ c_, J 0, J 0, J 0] HB6 ?_
 intro w8 HB10 F9 _
 have HB := (HB.k F5).j F9 ne_tb_g3
 have HMo := (HMo.keep F5 (nin0 _)).keep F9 (ninC ne_mo_g3 (nin0 _))
 refine Zr 1 <| Zdn <| Zsg <| Zr 4 <| ZoPF 30 ((kind : Int) < 1) (by omega) <| Zr 3 <| ZoPF 34 ((kind : Int) > 3) (by omega) <| Zr 3 <| ZoPF 38 ((time : Int) < 0) (by omega) <| Zr 3 <| ZoPF 42 ((time : Int) > 1099511627776) (by omega) <| Zr 1 <| Zdn <| ZF <| Zk <| Zsg <| Zr 5 <| Zl 50 (J width) (HB.s 0) <| Zm 51 .i64 time width (by omega) <| Zo 52 (J (IntKind.i64.wrap (time - ((time : Int).tmod width)))) <| WO.top (v' := J st) (st_eq htm hW hst) <| Zr 1 <| Zdn <| Zq <| Zsg <| Zr 4 <| Zl 57 (J width) (HB.s 0) <| Zw 58 (st + width) (st + width) <| Zr 1 <| ZoPF 60 ((st + width : Int) ≤ mark) (by omega) <| Zdn <| ZF <| Zk <| Zsg <| Zr 3 <| Zl 66 (.map (some mo)) (HB.s 4) <| Zr 1 <| WO.lkG (SQ.S 5 (by kernel_rfl)) 68 gtO st (by kernel_rfl) (same HMo) (oki_st htm hW hst) <| WO.top (v' := .tuple #[.map none, .bool false]) (by rw [gE_no hno, hno]; rfl) <| Zr 5 <| Zdn <| Zsg <| Zr 3 <| Zb 18 #[.string (⟨#[]⟩), J 0] 97 (fun g => Pt g 0) ?_
 intro g11 w12 HB14 F13 le15 _
 have ne_tb_g11 := ltn HB.lt le15
 have ne_mo_g11 := ltn HMo.lt le15
 have HA := (HA.step0 F5).step F9 (inSR ge_HA_g3 inS0)
 have ge_HA_g11 := Nat.le_trans HA.size le15
 refine Zst g11 0 #[.string (str key), J kind] HB14 ?_
 intro w16 HB18 F17 _
 refine Zdn <| Zsg <| Zr 1 <| Zlb 76 [.string (str key), J kind] g11 0 (same HB18) <| WO.lkGN (SQ.S 2 (by kernel_rfl)) 77 gtI (key, kind) (by kernel_rfl) (okp_of hkey hkd) <| Zr 3 <| Zb 19 #[.string (⟨#[]⟩), J 0, .int .u64 0, J 0, J 0, J 0, .bool false, .slice none 0 0] 54 (fun g => Pt g 0) ?_
 intro g19 w20 HB22 F21 le23 _
 have HB := (HB.k F13).j F17 ne_tb_g11
 have ne_tb_g19 := ltn HB.lt le23
 have HMo := (HMo.keep F13 (nin0 _)).keep F17 (ninC ne_mo_g11 (nin0 _))
 have ne_mo_g19 := ltn HMo.lt le23
 have HA := (HA.step0 F13).step F17 (inSR ge_HA_g11 inS0)
 have ge_HA_g19 := Nat.le_trans HA.size le23
 refine Zst g19 0 #[.string (⟨#[]⟩), J 0, .int .u64 0, J 0, J 0, J 0, .bool false, .slice none 0 0] HB22 ?_
 intro w24 HB26 F25 _
 refine Zr 1 <| Zdn <| Zq <| WE.block <| Zq <| Zq <| ZE [6, 7, 11] [] [] 15 ?_
 intro w27 F28 _
 have HB := ((HB.k F21).j F25 ne_tb_g19).k F28
 refine Yq 0 6 <| Yl 6 87 (.map (some mo)) (HB.s 4) <| WO.lnG (SA.S sameR sameT _ 7 _ (by kernel_rfl)) 88 wx.length gtO.t (by kernel_rfl) (same (((HMo.keep F21 (nin0 _)).keep F25 (ninC ne_mo_g19 (nin0 _))).keep F28 (nin0 _))) (eO_len wx) <| Yq 8 3 <| Yl 11 92 (J windows) (HB.s 1) <| Yr0 [12] [(93, .bool (decide (((wx.length : Int) : Int) ≥ windows)))] <| WO.topPT (((wx.length : Int) : Int) ≥ windows) (by omega) <| Yq 13 2 <| Ydn <| ZT <| Zk <| ZT <| Zsg <| Zr 2 <| Zdn <| WE.ret <| WQ.blkR <| WQ.thenR <| ZR (.iface 32 (J 6)) ?_
 exact ⟨rfl, (((HA.step0 F21).step F25 (inSR ge_HA_g19 inS0)).step0 F28)⟩
set_option maxRecDepth 100000 in
set_option maxHeartbeats 400000 in
theorem add_full2 (tb mo : Nat) (width windows rows seq mark : Int) (key : L) (kind value time : Int) (w : World) (HB : Blk w tb #[.int .i64 width, .int .i64 windows, .int .i64 rows, .int .i64 seq, .map (some mo)] 88) (hW : 1 ≤ width ∧ width ≤ 1099511627776) (hkey : key.length ≤ 100000) (hof : (ofE key).isSome = true) (hkd : 1 ≤ kind ∧ kind ≤ 3) (htm : 0 ≤ time ∧ time ≤ 1099511627776) (st : Int) (hst : st = time - time % width) (mi : Nat) (xs : List RX) (wr : List WX) (hin : ¬ st + width ≤ mark) (HMo : MapG Tryz.prog 2 Li oki Em w mo (eO ((st, mi, xs) :: wr))) (HMi : MapG Tryz.prog 97 Lp okp Er w mi (eI xs)) (hwl : wr.length ≤ 1000000) (hxl : xs.length ≤ 100000) (htbi : tb ≠ mi) (hmoi : mo ≠ mi) (hnr : hasE (eI xs) (key, kind) = false) (hfull : rows ≤ xs.length) (HS : VarI w "strconv.ErrSyntax") (HR : VarI w "strconv.ErrRange") (HTab : Lib.TabIs Tryz.prog w "internal/strconv.uint64pow10" .u64 Lib.pow10Tab) (HM : MaxI w) :
    Calls Tryz.prog 20 #[.pointer (some ⟨tb, 0, none⟩), .int .i64 mark, .string (str key), .int .i64 kind, .int .i64 value, .int .i64 time] w fun e w' => e = .returned (.iface 32 (.int .i64 6)) ∧ Fr [] w w' := by
 have hst_ := st_in htm hW hst
 have HA := Fr.refl [] w
 refine Ze Tryz.func20 _ <| Zsg <| Zr 1 <| Zdn <| Zq <| Zsg <| Zr 1 ?_
 obtain ⟨x_, hof_⟩ := Option.isSome_iff_exists.1 hof
 refine Zc 23 (of_f key _ hkey HS HR HTab HM) ?_
 intro e_ w1 hr_
 rw [hof_] at hr_
 obtain ⟨A_, n_, c_, F_, rfl, _, _, _, _, F2⟩ := hr_
 refine ⟨_, rfl, trivial, Zr 3 <| Zb 13 #[.string (⟨#[]⟩), .slice none 0 0, J 0, J 0, J 0] 91 (fun g => Pt g 0) ?_⟩
 intro g3 w4 HB6 F5 le7 _
 have HB := HB.k F2
 have ne_tb_g3 := ltn HB.lt le7
 have HMo := HMo.keep F2 (nin0 _)
 have ne_mo_g3 := ltn HMo.lt le7
 have HMi := HMi.keep F2 (nin0 _)
 have ne_mi_g3 := ltn HMi.lt le7
 have HA := HA.step0 F2
 have ge_HA_g3 := Nat.le_trans HA.size le7
 refine Zst g3 0 #[.string (str x_.1), .slice A_ n_ c_, J 0, J 0, J 0] HB6 ?_
 intro w8 HB10 F9 _
 have HB := (HB.k F5).j F9 ne_tb_g3
 refine Zr 1 <| Zdn <| Zsg <| Zr 4 <| ZoPF 30 ((kind : Int) < 1) (by omega) <| Zr 3 <| ZoPF 34 ((kind : Int) > 3) (by omega) <| Zr 3 <| ZoPF 38 ((time : Int) < 0) (by omega) <| Zr 3 <| ZoPF 42 ((time : Int) > 1099511627776) (by omega) <| Zr 1 <| Zdn <| ZF <| Zk <| Zsg <| Zr 5 <| Zl 50 (J width) (HB.s 0) <| Zm 51 .i64 time width (by omega) <| Zo 52 (J (IntKind.i64.wrap (time - ((time : Int).tmod width)))) <| WO.top (v' := J st) (st_eq htm hW hst) <| Zr 1 <| Zdn <| Zq <| Zsg <| Zr 4 <| Zl 57 (J width) (HB.s 0) <| Zw 58 (st + width) (st + width) <| Zr 1 <| ZoPF 60 ((st + width : Int) ≤ mark) (by omega) <| Zdn <| ZF <| Zk <| Zsg <| Zr 3 <| Zl 66 (.map (some mo)) (HB.s 4) <| Zr 1 <| WO.lkG (SQ.S 5 (by kernel_rfl)) 68 gtO st (by kernel_rfl) (same ((HMo.keep F5 (nin0 _)).keep F9 (ninC ne_mo_g3 (nin0 _)))) (oki_st htm hW hst) <| WO.top (v' := .tuple #[.map (some mi), .bool true]) (by rw [eO_hd.1, eO_hd.2]; rfl) <| Zr 5 <| Zdn <| Zsg <| Zr 3 <| Zb 18 #[.string (⟨#[]⟩), J 0] 97 (fun g => Pt g 0) ?_
 intro g11 w12 HB14 F13 le15 _
 have ne_tb_g11 := ltn HB.lt le15
 have HMi := (HMi.keep F5 (nin0 _)).keep F9 (ninC ne_mi_g3 (nin0 _))
 have ne_mi_g11 := ltn HMi.lt le15
 have HA := (HA.step0 F5).step F9 (inSR ge_HA_g3 inS0)
 have ge_HA_g11 := Nat.le_trans HA.size le15
 refine Zst g11 0 #[.string (str key), J kind] HB14 ?_
 intro w16 HB18 F17 _
 have HMi := (HMi.keep F13 (nin0 _)).keep F17 (ninC ne_mi_g11 (nin0 _))
 refine Zdn <| Zsg <| Zr 1 <| Zlb 76 [.string (str key), J kind] g11 0 (same HB18) <| WO.lkG (SQ.S 2 (by kernel_rfl)) 77 gtI (key, kind) (by kernel_rfl) (same HMi) (okp_of hkey hkd) <| WO.top (v' := .tuple #[.agg #[.string (⟨#[]⟩), J 0, .int .u64 0, J 0, J 0, J 0, .bool false, .slice none 0 0], .bool false]) (by rw [gE_no hnr, hnr]; rfl) <| Zr 3 <| Zb 19 #[.string (⟨#[]⟩), J 0, .int .u64 0, J 0, J 0, J 0, .bool false, .slice none 0 0] 54 (fun g => Pt g 0) ?_
 intro g19 w20 HB22 F21 le23 _
 have HB := (HB.k F13).j F17 ne_tb_g11
 have ne_tb_g19 := ltn HB.lt le23
 have ne_mi_g19 := ltn HMi.lt le23
 have HA := (HA.step0 F13).step F17 (inSR ge_HA_g11 inS0)
 have ge_HA_g19 := Nat.le_trans HA.size le23
 refine Zst g19 0 #[.string (⟨#[]⟩), J 0, .int .u64 0, J 0, J 0, J 0, .bool false, .slice none 0 0] HB22 ?_
 intro w24 HB26 F25 _
 refine Zr 1 <| Zdn <| Zq <| WE.block <| Zq <| Zq <| ZE [6, 7, 11] [] [] 15 ?_
 intro w27 F28 _
 refine Yq 0 15 <| Ydn <| ZF <| ZE [4, 8] [] [] 12 ?_
 intro w29 F30 _
 refine Yq 0 4 <| WO.lnG (SA.S sameR sameT _ 4 _ (by kernel_rfl)) 99 xs.length gtI.t (by kernel_rfl) (same ((((HMi.keep F21 (nin0 _)).keep F25 (ninC ne_mi_g19 (nin0 _))).keep F28 (nin0 _)).keep F30 (nin0 _))) (eI_len xs) <| Yq 5 3 <| Yl 8 103 (J rows) (same (((((HB.k F21).j F25 ne_tb_g19).k F28).k F30).at 2 (by kernel_rfl))) <| Yr0 [9] [(104, .bool (decide (((xs.length : Int) : Int) ≥ rows)))] <| WO.topPT (((xs.length : Int) : Int) ≥ rows) (by omega) <| Yq 10 2 <| Ydn <| ZT <| Zsg <| Zr 2 <| Zdn <| WE.ret <| WQ.blkR <| WQ.thenR <| ZR (.iface 32 (J 6)) ?_
 exact ⟨rfl, ((((HA.step0 F21).step F25 (inSR ge_HA_g19 inS0)).step0 F28).step0 F30)⟩
set_option maxRecDepth 100000 in
set_option maxHeartbeats 400000 in
theorem add_beg (tb mo : Nat) (width windows rows seq mark : Int) (key : L) (kind value time : Int) (w : World) (HB : Blk w tb #[.int .i64 width, .int .i64 windows, .int .i64 rows, .int .i64 seq, .map (some mo)] 88) (hW : 1 ≤ width ∧ width ≤ 1099511627776) (hkey : key.length ≤ 100000) (hof : (ofE key).isSome = true) (hkd : 1 ≤ kind ∧ kind ≤ 3) (htm : 0 ≤ time ∧ time ≤ 1099511627776) (st : Int) (hst : st = time - time % width) (mi : Nat) (xs : List RX) (wr : List WX) (hin : ¬ st + width ≤ mark) (HMo : MapG Tryz.prog 2 Li oki Em w mo (eO ((st, mi, xs) :: wr))) (HMi : MapG Tryz.prog 97 Lp okp Er w mi (eI xs)) (hwl : wr.length ≤ 1000000) (hxl : xs.length ≤ 100000) (htbi : tb ≠ mi) (hmoi : mo ≠ mi) (hnr : hasE (eI xs) (key, kind) = false) (hroom : ¬ rows ≤ xs.length) (hv : I64 value) (HS : VarI w "strconv.ErrSyntax") (HR : VarI w "strconv.ErrRange") (HTab : Lib.TabIs Tryz.prog w "internal/strconv.uint64pow10" .u64 Lib.pow10Tab) (HM : MaxI w) :
    Calls Tryz.prog 20 #[.pointer (some ⟨tb, 0, none⟩), .int .i64 mark, .string (str key), .int .i64 kind, .int .i64 value, .int .i64 time] w fun e w' => ∃ A' c' F', e = .returned .nilIface ∧ MapG Tryz.prog 97 Lp okp Er w' mi (eI (((begR key kind value), A', c') :: xs)) ∧ VX cN 1 w' F' A' (begR key kind value).bk ∧ (begR key kind value).bk.length ≤ c' ∧ (∀ y ∈ F', w.heap.size ≤ y) ∧ Fr [mi] w w' := by
 have hst_ := st_in htm hW hst
 have HA := Fr.refl [mi] w
 refine Ze Tryz.func20 _ <| Zsg <| Zr 1 <| Zdn <| Zq <| Zsg <| Zr 1 ?_
 obtain ⟨x_, hof_⟩ := Option.isSome_iff_exists.1 hof
 refine Zc 23 (of_f key _ hkey HS HR HTab HM) ?_
 intro e_ w1 hr_
 rw [hof_] at hr_
 obtain ⟨A_, n_, c_, F_, rfl, _, _, _, _, F2⟩ := hr_
 refine ⟨_, rfl, trivial, Zr 3 <| Zb 13 #[.string (⟨#[]⟩), .slice none 0 0, J 0, J 0, J 0] 91 (fun g => Pt g 0) ?_⟩
 intro g3 w4 HB6 F5 le7 _
 have HB := HB.k F2
 have ne_tb_g3 := ltn HB.lt le7
 have HMo := HMo.keep F2 (nin0 _)
 have ne_mo_g3 := ltn HMo.lt le7
 have HMi := HMi.keep F2 (nin0 _)
 have ne_mi_g3 := ltn HMi.lt le7
 have HA := HA.step0 F2
 have ge_HA_g3 := Nat.le_trans HA.size le7
 refine Zst g3 0 #[.string (str x_.1), .slice A_ n_ c_, J 0, J 0, J 0] HB6 ?_
 intro w8 HB10 F9 _
 have HB := (HB.k F5).j F9 ne_tb_g3
 refine Zr 1 <| Zdn <| Zsg <| Zr 4 <| ZoPF 30 ((kind : Int) < 1) (by omega) <| Zr 3 <| ZoPF 34 ((kind : Int) > 3) (by omega) <| Zr 3 <| ZoPF 38 ((time : Int) < 0) (by omega) <| Zr 3 <| ZoPF 42 ((time : Int) > 1099511627776) (by omega) <| Zr 1 <| Zdn <| ZF <| Zk <| Zsg <| Zr 5 <| Zl 50 (J width) (HB.s 0) <| Zm 51 .i64 time width (by omega) <| Zo 52 (J (IntKind.i64.wrap (time - ((time : Int).tmod width)))) <| WO.top (v' := J st) (st_eq htm hW hst) <| Zr 1 <| Zdn <| Zq <| Zsg <| Zr 4 <| Zl 57 (J width) (HB.s 0) <| Zw 58 (st + width) (st + width) <| Zr 1 <| ZoPF 60 ((st + width : Int) ≤ mark) (by omega) <| Zdn <| ZF <| Zk <| Zsg <| Zr 3 <| Zl 66 (.map (some mo)) (HB.s 4) <| Zr 1 <| WO.lkG (SQ.S 5 (by kernel_rfl)) 68 gtO st (by kernel_rfl) (same ((HMo.keep F5 (nin0 _)).keep F9 (ninC ne_mo_g3 (nin0 _)))) (oki_st htm hW hst) <| WO.top (v' := .tuple #[.map (some mi), .bool true]) (by rw [eO_hd.1, eO_hd.2]; rfl) <| Zr 5 <| Zdn <| Zsg <| Zr 3 <| Zb 18 #[.string (⟨#[]⟩), J 0] 97 (fun g => Pt g 0) ?_
 intro g11 w12 HB14 F13 le15 _
 have ne_tb_g11 := ltn HB.lt le15
 have HMi := (HMi.keep F5 (nin0 _)).keep F9 (ninC ne_mi_g3 (nin0 _))
 have ne_mi_g11 := ltn HMi.lt le15
 have HA := (HA.step0 F5).step F9 (inSR ge_HA_g3 inS0)
 have ge_HA_g11 := Nat.le_trans HA.size le15
 refine Zst g11 0 #[.string (str key), J kind] HB14 ?_
 intro w16 HB18 F17 _
 have HMi := (HMi.keep F13 (nin0 _)).keep F17 (ninC ne_mi_g11 (nin0 _))
 refine Zdn <| Zsg <| Zr 1 <| Zlb 76 [.string (str key), J kind] g11 0 (same HB18) <| WO.lkG (SQ.S 2 (by kernel_rfl)) 77 gtI (key, kind) (by kernel_rfl) (same HMi) (okp_of hkey hkd) <| WO.top (v' := .tuple #[.agg #[.string (⟨#[]⟩), J 0, .int .u64 0, J 0, J 0, J 0, .bool false, .slice none 0 0], .bool false]) (by rw [gE_no hnr, hnr]; rfl) <| Zr 3 <| Zb 19 #[.string (⟨#[]⟩), J 0, .int .u64 0, J 0, J 0, J 0, .bool false, .slice none 0 0] 54 (fun g => Pt g 0) ?_
 intro g19 w20 HB22 F21 le23 _
 have HB := (HB.k F13).j F17 ne_tb_g11
 have ne_tb_g19 := ltn HB.lt le23
 have ne_g11_g19 := ltn HB18.lt le23
 have ne_mi_g19 := ltn HMi.lt le23
 have HA := (HA.step0 F13).step F17 (inSR ge_HA_g11 inS0)
 have ge_HA_g19 := Nat.le_trans HA.size le23
 refine Zst g19 0 #[.string (⟨#[]⟩), J 0, .int .u64 0, J 0, J 0, J 0, .bool false, .slice none 0 0] HB22 ?_
 intro w24 HB26 F25 _
 refine Zr 1 <| Zdn <| Zq <| WE.block <| Zq <| Zq <| ZE [6, 7, 11] [] [] 15 ?_
 intro w27 F28 _
 refine Yq 0 15 <| Ydn <| ZF <| ZE [4, 8] [] [] 12 ?_
 intro w29 F30 _
 have HMi := (((HMi.keep F21 (nin0 _)).keep F25 (ninC ne_mi_g19 (nin0 _))).keep F28 (nin0 _)).keep F30 (nin0 _)
 refine Yq 0 4 <| WO.lnG (SA.S sameR sameT _ 4 _ (by kernel_rfl)) 99 xs.length gtI.t (by kernel_rfl) (same HMi) (eI_len xs) <| Yq 5 3 <| Yl 8 103 (J rows) (same (((((HB.k F21).j F25 ne_tb_g19).k F28).k F30).at 2 (by kernel_rfl))) <| Yr0 [9] [(104, .bool (decide (((xs.length : Int) : Int) ≥ rows)))] <| WO.topPF (((xs.length : Int) : Int) ≥ rows) (by omega) <| Yq 10 2 <| Ydn <| ZF <| Zsg <| Zr 3 <| Zdn <| ZF <| WE.skip <| WQ.blkN <| Zn <| Zq <| Zsg <| Zr 1 <| Zdn <| ZF ?_
 have hz31 : (World.heap w29).size ≤ (World.heap w29).size := Nat.le_refl _
 have HB18 := (((HB18.k F21).j F25 ne_g11_g19).k F28).k F30
 have ltz_g11 := HB18.lt
 refine ZER (FrB (World.heap w29).size) [1] [5] [6] 7 ?_
 intro w32 F33 _
 refine Yq 0 1 <| Ylb 1 124 [.string (str key), J kind] g11 0 (fun _ k => (HB18.k F33).keepB k ltz_g11) <| Yq 2 3 <| WO.call (SA.ER _ 5 _ (by kernel_rfl) rfl) 128 (by kernel_rfl) (beg_f key kind value _ hv) ?_
 rintro _ w34 ⟨A1, c1, G1, rfl, HO1, hg1, F35⟩
 refine ⟨_, rfl, (frB_of (Nat.le_trans hz31 F33.size) (by simp)) _ F35, ?_⟩
 have hg1r := fun y hy => Or.inr (a := y ∈ ([] : List Nat)) (hg1 y hy)
 have HMi := HMi.keep F33 (nin0 _)
 have nin_mi_G1 := grow_nin hg1r (nin0 _) (HMi.lt)
 have HA := ((((HA.step0 F21).step F25 (inSR ge_HA_g19 inS0)).step0 F28).step0 F30).step0 F33
 have ge_HA_G1 := grow_ge hg1r (by simp) HA.size
 refine WO.upG (SA.E _ 6 _ (by kernel_rfl) rfl) gtI (key, kind) ([.string (str (begR key kind value).key), J ((begR key kind value).kind), .int .u64 ((begR key kind value).many : Int), J ((begR key kind value).sum), J ((begR key kind value).least), J ((begR key kind value).most), .bool ((begR key kind value).over), .slice A1 ((begR key kind value).bk.length) c1]) (by kernel_rfl) (HMi.keep F35 (nin0 _)) (okp_of hkey hkd) (by rw [eI_len]; omega) (fun _ _ => trivial) ?_
 intro w36 HM38 F37
 have HO1 := HO1.keep F37 (djB nin_mi_G1)
 refine Ydn <| Zsg <| Zr 1 <| Zdn <| WE.ret <| ZR (.nilIface) ?_
 exact ⟨A1, c1, G1, rfl, put_new hnr HM38, VX.of_own HO1, own_cap HO1 (List.length_map _), ge_HA_G1, ((HA.step0 F35).step F37 (inSL (by simp) inS0))⟩
set_option maxRecDepth 100000 in
set_option maxHeartbeats 400000 in
theorem add_more (tb mo : Nat) (width windows rows seq mark : Int) (key : L) (kind value time : Int) (w : World) (HB : Blk w tb #[.int .i64 width, .int .i64 windows, .int .i64 rows, .int .i64 seq, .map (some mo)] 88) (hW : 1 ≤ width ∧ width ≤ 1099511627776) (hkey : key.length ≤ 100000) (hof : (ofE key).isSome = true) (hkd : 1 ≤ kind ∧ kind ≤ 3) (htm : 0 ≤ time ∧ time ≤ 1099511627776) (st : Int) (hst : st = time - time % width) (mi : Nat) (r : RX) (xs : List RX) (wr : List WX) (hin : ¬ st + width ≤ mark) (HMo : MapG Tryz.prog 2 Li oki Em w mo (eO ((st, mi, r :: xs) :: wr))) (HMi : MapG Tryz.prog 97 Lp okp Er w mi (eI (r :: xs))) (hwl : wr.length ≤ 1000000) (hxl : xs.length ≤ 100000) (htbi : tb ≠ mi) (hmoi : mo ≠ mi) (hrk : (r.1.key, r.1.kind) = (key, kind)) (FB : List Nat) (HE : EV w FB (r :: xs)) (hbl : r.1.bk.length ≤ 65) (hrin : r.1.In) (hv : I64 value) (HS : VarI w "strconv.ErrSyntax") (HR : VarI w "strconv.ErrRange") (HTab : Lib.TabIs Tryz.prog w "internal/strconv.uint64pow10" .u64 Lib.pow10Tab) (HM : MaxI w) :
    Calls Tryz.prog 20 #[.pointer (some ⟨tb, 0, none⟩), .int .i64 mark, .string (str key), .int .i64 kind, .int .i64 value, .int .i64 time] w fun e w' => ∃ A' c' F', e = .returned .nilIface ∧ MapG Tryz.prog 97 Lp okp Er w' mi (eI (((addR r.1 value), A', c') :: xs)) ∧ VX cN 1 w' F' A' (addR r.1 value).bk ∧ (addR r.1 value).bk.length ≤ c' ∧ (∀ y ∈ F', w.heap.size ≤ y) ∧ Fr [mi] w w' := by
 have hst_ := st_in htm hW hst
 have HA := Fr.refl [mi] w
 refine Ze Tryz.func20 _ <| Zsg <| Zr 1 <| Zdn <| Zq <| Zsg <| Zr 1 ?_
 obtain ⟨x_, hof_⟩ := Option.isSome_iff_exists.1 hof
 refine Zc 23 (of_f key _ hkey HS HR HTab HM) ?_
 intro e_ w1 hr_
 rw [hof_] at hr_
 obtain ⟨A_, n_, c_, F_, rfl, _, _, _, _, F2⟩ := hr_
 refine ⟨_, rfl, trivial, Zr 3 <| Zb 13 #[.string (⟨#[]⟩), .slice none 0 0, J 0, J 0, J 0] 91 (fun g => Pt g 0) ?_⟩
 intro g3 w4 HB6 F5 le7 _
 have HB := HB.k F2
 have ne_tb_g3 := ltn HB.lt le7
 have HE := HE.keep F2 dj0
 have nin_g3_FB := new_nin HE.lt le7
 have HMo := HMo.keep F2 (nin0 _)
 have ne_mo_g3 := ltn HMo.lt le7
 have HMi := HMi.keep F2 (nin0 _)
 have ne_mi_g3 := ltn HMi.lt le7
 have HA := HA.step0 F2
 have ge_HA_g3 := Nat.le_trans HA.size le7
 refine Zst g3 0 #[.string (str x_.1), .slice A_ n_ c_, J 0, J 0, J 0] HB6 ?_
 intro w8 HB10 F9 _
 have HMi := (HMi.keep F5 (nin0 _)).keep F9 (ninC ne_mi_g3 (nin0 _))
 refine Zr 1 <| Zdn <| Zsg <| Zr 4 <| ZoPF 30 ((kind : Int) < 1) (by omega) <| Zr 3 <| ZoPF 34 ((kind : Int) > 3) (by omega) <| Zr 3 <| ZoPF 38 ((time : Int) < 0) (by omega) <| Zr 3 <| ZoPF 42 ((time : Int) > 1099511627776) (by omega) <| Zr 1 <| Zdn <| ZF <| Zk <| Zq ?_
 have HMi0 := HMi
 have HB := (HB.k F5).j F9 ne_tb_g3
 refine WE.region <| Zr 5 <| Zl 50 (J width) (HB.s 0) <| Zm 51 .i64 time width (by omega) <| Zo 52 (J (IntKind.i64.wrap (time - ((time : Int).tmod width)))) <| WO.top (v' := J st) (st_eq htm hW hst) <| Zr 1 <| Zdn <| Zq <| Zsg <| Zr 4 <| Zl 57 (J width) (HB.s 0) <| Zw 58 (st + width) (st + width) <| Zr 1 <| ZoPF 60 ((st + width : Int) ≤ mark) (by omega) <| Zdn <| ZF <| Zk <| Zsg <| Zr 3 <| Zl 66 (.map (some mo)) (HB.s 4) <| Zr 1 <| WO.lkG (SQ.S 5 (by kernel_rfl)) 68 gtO st (by kernel_rfl) (same ((HMo.keep F5 (nin0 _)).keep F9 (ninC ne_mo_g3 (nin0 _)))) (oki_st htm hW hst) <| WO.top (v' := .tuple #[.map (some mi), .bool true]) (by rw [eO_hd.1, eO_hd.2]; rfl) <| Zr 5 <| Zdn <| Zsg <| Zr 3 <| Zb 18 #[.string (⟨#[]⟩), J 0] 97 (fun g => Pt g 0) ?_
 intro g11 w12 HB14 F13 le15 _
 have HE := (HE.keep F5 dj0).keep F9 (djB nin_g3_FB)
 have nin_g11_FB := new_nin HE.lt le15
 have ne_mi_g11 := ltn HMi.lt le15
 have HA := (HA.step0 F5).step F9 (inSR ge_HA_g3 inS0)
 have ge_HA_g11 := Nat.le_trans HA.size le15
 refine Zst g11 0 #[.string (str key), J kind] HB14 ?_
 intro w16 HB18 F17 _
 have HMi := (HMi.keep F13 (nin0 _)).keep F17 (ninC ne_mi_g11 (nin0 _))
 refine Zdn <| Zsg <| Zr 1 <| Zlb 76 [.string (str key), J kind] g11 0 (same HB18) <| WO.lkG (SQ.S 2 (by kernel_rfl)) 77 gtI (key, kind) (by kernel_rfl) (same HMi) (okp_of hkey hkd) <| WO.top (v' := .tuple #[.agg #[.string (str r.1.key), J r.1.kind, .int .u64 (r.1.many : Int), J r.1.sum, J r.1.least, J r.1.most, .bool r.1.over, .slice r.2.1 r.1.bk.length r.2.2], .bool true]) (by rw [(eI_hd hrk).1, (eI_hd hrk).2]; rfl) <| Zr 3 <| Zb 19 #[.string (⟨#[]⟩), J 0, .int .u64 0, J 0, J 0, J 0, .bool false, .slice none 0 0] 54 (fun g => Pt g 0) ?_
 intro g19 w20 HB22 F21 le23 _
 have ne_g11_g19 := ltn HB18.lt le23
 have HE := (HE.keep F13 dj0).keep F17 (djB nin_g11_FB)
 have nin_g19_FB := new_nin HE.lt le23
 have ne_mi_g19 := ltn HMi.lt le23
 have HA := (HA.step0 F13).step F17 (inSR ge_HA_g11 inS0)
 have ge_HA_g19 := Nat.le_trans HA.size le23
 refine Zst g19 0 #[.string (str r.1.key), J r.1.kind, .int .u64 (r.1.many : Int), J r.1.sum, J r.1.least, J r.1.most, .bool r.1.over, .slice r.2.1 r.1.bk.length r.2.2] HB22 ?_
 intro w24 HB26 F25 _
 refine Zr 1 <| Zdn <| Zq <| WE.block <| Zq <| Zq <| ZE [6, 7, 11] [] [] 15 ?_
 intro w27 F28 _
 refine Yq 0 15 <| Ydn <| ZF <| ZE [4, 8] [] [] 12 ?_
 intro w29 F30 _
 refine Yq 0 12 <| Ydn <| ZF <| Zsg <| Zr 3 <| Zdn <| ZF <| WE.skip <| WQ.blkN <| Zn <| Zq <| Zsg <| Zr 1 <| Zdn <| ZT ?_
 have hz31 : (World.heap w29).size ≤ (World.heap w29).size := Nat.le_refl _
 have HB18 := (((HB18.k F21).j F25 ne_g11_g19).k F28).k F30
 have ltz_g11 := HB18.lt
 have HB26 := (HB26.k F28).k F30
 have ltz_g19 := HB26.lt
 refine ZER (FrB (World.heap w29).size) [1, 2] [4] [5] 6 ?_
 intro w32 F33 _
 have HE := ((((HE.keep F21 dj0).keep F25 (djB nin_g19_FB)).keep F28 dj0).keep F30 dj0).keep F33 dj0
 refine Yq 0 1 <| Ylb 1 119 [.string (str key), J kind] g11 0 (fun _ k => (HB18.k F33).keepB k ltz_g11) <| Ylb 2 120 [.string (str r.1.key), J r.1.kind, .int .u64 (r.1.many : Int), J r.1.sum, J r.1.least, J r.1.most, .bool r.1.over, .slice r.2.1 r.1.bk.length r.2.2] g19 0 (fun _ k => (HB26.k F33).keepB k ltz_g19) <| Yq 3 1 ?_
 obtain ⟨hrc_, FR, hFR, HVR⟩ := HE.2 r (by simp)
 refine WO.call (SA.ER _ 4 _ (by kernel_rfl) rfl) 122 (by kernel_rfl) (tad_f r.1 r.2.1 r.2.2 FR value _ (HVR.keep (Fr.refl [] _) (fun _ _ => nin0 _)) hbl hv hrin) ?_
 rintro _ w34 ⟨A1, c1, G1, rfl, HO1, hg1, F35⟩
 refine ⟨_, rfl, (frB_of (Nat.le_trans hz31 F33.size) (by simp)) _ F35, ?_⟩
 have hg1r := fun y hy => Or.inr (a := y ∈ ([] : List Nat)) (hg1 y hy)
 have HMi := ((((HMi.keep F21 (nin0 _)).keep F25 (ninC ne_mi_g19 (nin0 _))).keep F28 (nin0 _)).keep F30 (nin0 _)).keep F33 (nin0 _)
 have nin_mi_G1 := grow_nin hg1r (nin0 _) (HMi.lt)
 have HA := ((((HA.step0 F21).step F25 (inSR ge_HA_g19 inS0)).step0 F28).step0 F30).step0 F33
 have ge_HA_G1 := grow_ge hg1r (by simp) HA.size
 refine WO.upG (SA.E _ 5 _ (by kernel_rfl) rfl) gtI (key, kind) ([.string (str (addR r.1 value).key), J ((addR r.1 value).kind), .int .u64 ((addR r.1 value).many : Int), J ((addR r.1 value).sum), J ((addR r.1 value).least), J ((addR r.1 value).most), .bool ((addR r.1 value).over), .slice A1 ((addR r.1 value).bk.length) c1]) (by kernel_rfl) (HMi.keep F35 (nin0 _)) (okp_of hkey hkd) (by rw [eI_len, List.length_cons]; omega) (fun _ _ => trivial) ?_
 intro w36 HM38 F37
 have HO1 := HO1.keep F37 (djB nin_mi_G1)
 refine Ydn <| Zsg <| Zr 1 <| Zdn <| WE.ret <| ZR (.nilIface) ?_
 exact ⟨A1, c1, G1, rfl, put_more hrk HMi0 HM38, VX.of_own HO1, own_cap HO1 (List.length_map _), ge_HA_G1, ((HA.step0 F35).step F37 (inSL (by simp) inS0))⟩
set_option maxRecDepth 100000 in
set_option maxHeartbeats 400000 in
theorem add_new (tb mo : Nat) (width windows rows seq mark : Int) (key : L) (kind value time : Int) (wx : List WX) (w : World) (HB : Blk w tb #[.int .i64 width, .int .i64 windows, .int .i64 rows, .int .i64 seq, .map (some mo)] 88) (hW : 1 ≤ width ∧ width ≤ 1099511627776) (hkey : key.length ≤ 100000) (hof : (ofE key).isSome = true) (hkd : 1 ≤ kind ∧ kind ≤ 3) (htm : 0 ≤ time ∧ time ≤ 1099511627776) (st : Int) (hst : st = time - time % width) (hin : ¬ st + width ≤ mark) (HMo : MapG Tryz.prog 2 Li oki Em w mo (eO wx)) (hno : hasE (eO wx) st = false) (hroom : ¬ windows ≤ wx.length) (hwl : wx.length ≤ 1000000) (hrow1 : 1 ≤ rows) (htbo : tb ≠ mo) (hv : I64 value) (HS : VarI w "strconv.ErrSyntax") (HR : VarI w "strconv.ErrRange") (HTab : Lib.TabIs Tryz.prog w "internal/strconv.uint64pow10" .u64 Lib.pow10Tab) (HM : MaxI w) :
    Calls Tryz.prog 20 #[.pointer (some ⟨tb, 0, none⟩), .int .i64 mark, .string (str key), .int .i64 kind, .int .i64 value, .int .i64 time] w fun e w' => ∃ mi A' c' F', e = .returned .nilIface ∧ MapG Tryz.prog 2 Li oki Em w' mo (eO ((st, mi, [((begR key kind value), A', c')]) :: wx)) ∧ MapG Tryz.prog 97 Lp okp Er w' mi (eI [((begR key kind value), A', c')]) ∧ VX cN 1 w' F' A' (begR key kind value).bk ∧ (begR key kind value).bk.length ≤ c' ∧ w.heap.size ≤ mi ∧ (∀ y ∈ F', w.heap.size ≤ y) ∧ mi ∉ F' ∧ Fr [mo] w w' := by
 have hst_ := st_in htm hW hst
 have HA := Fr.refl [mo] w
 refine Ze Tryz.func20 _ <| Zsg <| Zr 1 <| Zdn <| Zq <| Zsg <| Zr 1 ?_
 obtain ⟨x_, hof_⟩ := Option.isSome_iff_exists.1 hof
 refine Zc 23 (of_f key _ hkey HS HR HTab HM) ?_
 intro e_ w1 hr_
 rw [hof_] at hr_
 obtain ⟨A_, n_, c_, F_, rfl, _, _, _, _, F2⟩ := hr_
 refine ⟨_, rfl, trivial, Zr 3 <| Zb 13 #[.string (⟨#[]⟩), .slice none 0 0, J 0, J 0, J 0] 91 (fun g => Pt g 0) ?_⟩
 intro g3 w4 HB6 F5 le7 _
 have HB := HB.k F2
 have ne_tb_g3 := ltn HB.lt le7
 have HMo := HMo.keep F2 (nin0 _)
 have ne_mo_g3 := ltn HMo.lt le7
 have HA := HA.step0 F2
 have ge_HA_g3 := Nat.le_trans HA.size le7
 refine Zst g3 0 #[.string (str x_.1), .slice A_ n_ c_, J 0, J 0, J 0] HB6 ?_
 intro w8 HB10 F9 _
 have HB := (HB.k F5).j F9 ne_tb_g3
 have HMo := (HMo.keep F5 (nin0 _)).keep F9 (ninC ne_mo_g3 (nin0 _))
 refine Zr 1 <| Zdn <| Zsg <| Zr 4 <| ZoPF 30 ((kind : Int) < 1) (by omega) <| Zr 3 <| ZoPF 34 ((kind : Int) > 3) (by omega) <| Zr 3 <| ZoPF 38 ((time : Int) < 0) (by omega) <| Zr 3 <| ZoPF 42 ((time : Int) > 1099511627776) (by omega) <| Zr 1 <| Zdn <| ZF <| Zk <| Zsg <| Zr 5 <| Zl 50 (J width) (HB.s 0) <| Zm 51 .i64 time width (by omega) <| Zo 52 (J (IntKind.i64.wrap (time - ((time : Int).tmod width)))) <| WO.top (v' := J st) (st_eq htm hW hst) <| Zr 1 <| Zdn <| Zq <| Zsg <| Zr 4 <| Zl 57 (J width) (HB.s 0) <| Zw 58 (st + width) (st + width) <| Zr 1 <| ZoPF 60 ((st + width : Int) ≤ mark) (by omega) <| Zdn <| ZF <| Zk <| Zsg <| Zr 3 <| Zl 66 (.map (some mo)) (HB.s 4) <| Zr 1 <| WO.lkG (SQ.S 5 (by kernel_rfl)) 68 gtO st (by kernel_rfl) (same HMo) (oki_st htm hW hst) <| WO.top (v' := .tuple #[.map none, .bool false]) (by rw [gE_no hno, hno]; rfl) <| Zr 5 <| Zdn <| Zsg <| Zr 3 <| Zb 18 #[.string (⟨#[]⟩), J 0] 97 (fun g => Pt g 0) ?_
 intro g11 w12 HB14 F13 le15 _
 have ne_tb_g11 := ltn HB.lt le15
 have ne_mo_g11 := ltn HMo.lt le15
 have HA := (HA.step0 F5).step F9 (inSR ge_HA_g3 inS0)
 have ge_HA_g11 := Nat.le_trans HA.size le15
 refine Zst g11 0 #[.string (str key), J kind] HB14 ?_
 intro w16 HB18 F17 _
 refine Zdn <| Zsg <| Zr 1 <| Zlb 76 [.string (str key), J kind] g11 0 (same HB18) <| WO.lkGN (SQ.S 2 (by kernel_rfl)) 77 gtI (key, kind) (by kernel_rfl) (okp_of hkey hkd) <| Zr 3 <| Zb 19 #[.string (⟨#[]⟩), J 0, .int .u64 0, J 0, J 0, J 0, .bool false, .slice none 0 0] 54 (fun g => Pt g 0) ?_
 intro g19 w20 HB22 F21 le23 _
 have HB := (HB.k F13).j F17 ne_tb_g11
 have ne_tb_g19 := ltn HB.lt le23
 have ne_g11_g19 := ltn HB18.lt le23
 have HMo := (HMo.keep F13 (nin0 _)).keep F17 (ninC ne_mo_g11 (nin0 _))
 have ne_mo_g19 := ltn HMo.lt le23
 have HA := (HA.step0 F13).step F17 (inSR ge_HA_g11 inS0)
 have ge_HA_g19 := Nat.le_trans HA.size le23
 refine Zst g19 0 #[.string (⟨#[]⟩), J 0, .int .u64 0, J 0, J 0, J 0, .bool false, .slice none 0 0] HB22 ?_
 intro w24 HB26 F25 _
 refine Zr 1 <| Zdn <| Zq <| WE.block <| Zq <| Zq <| ZE [6, 7, 11] [] [] 15 ?_
 intro w27 F28 _
 have HB := ((HB.k F21).j F25 ne_tb_g19).k F28
 have HMo := ((HMo.keep F21 (nin0 _)).keep F25 (ninC ne_mo_g19 (nin0 _))).keep F28 (nin0 _)
 refine Yq 0 6 <| Yl 6 87 (.map (some mo)) (HB.s 4) <| WO.lnG (SA.S sameR sameT _ 7 _ (by kernel_rfl)) 88 wx.length gtO.t (by kernel_rfl) (same HMo) (eO_len wx) <| Yq 8 3 <| Yl 11 92 (J windows) (HB.s 1) <| Yr0 [12] [(93, .bool (decide (((wx.length : Int) : Int) ≥ windows)))] <| WO.topPF (((wx.length : Int) : Int) ≥ windows) (by omega) <| Yq 13 2 <| Ydn <| ZF <| ZE [4, 8] [] [] 12 ?_
 intro w29 F30 _
 have HB := HB.k F30
 refine Yq 0 4 <| WO.lnNS (SA.S sameR sameT _ 4 _ (by kernel_rfl)) 99 gtI.t (by kernel_rfl) <| Yq 5 3 <| Yl 8 103 (J rows) (HB.s 2) <| Yr0 [9] [(104, .bool (decide ((0 : Int) ≥ rows)))] <| WO.topPF ((0 : Int) ≥ rows) (by omega) <| Yq 10 2 <| Ydn <| ZF <| Zsg <| Zr 3 <| Zdn <| ZT <| Zsg <| WO.mmG (SQ.E 0 (by kernel_rfl)) 110 97 Lp okp Er (by kernel_rfl) (fun _ _ => trivial) ?_
 intro m31 w32 HM33 F34 le35 _
 have HMo := HMo.keep F30 (nin0 _)
 have ne_mo_m31 := ltn HMo.lt le35
 have HA := (((HA.step0 F21).step F25 (inSR ge_HA_g19 inS0)).step0 F28).step0 F30
 have ge_HA_m31 := Nat.le_trans HA.size le35
 refine Zr 1 <| Zdn <| WE.region <| Zr 3 <| Zl 114 (.map (some mo)) (same ((HB.k F34).at 4 (by kernel_rfl))) <| Zr 2 <| WO.upG (SQ.E 6 (by kernel_rfl)) gtO st (some m31) (by kernel_rfl) (HMo.keep F34 (nin0 _)) (oki_st htm hW hst) (by rw [eO_len]; omega) (fun _ _ => trivial) ?_
 intro w36 HM38 F37
 refine Zd <| WQ.blkN <| Zn <| Zq <| Zsg <| Zr 1 <| Zdn <| ZF ?_
 have hz39 : (World.heap w36).size ≤ (World.heap w36).size := Nat.le_refl _
 have HB18 := (((((HB18.k F21).j F25 ne_g11_g19).k F28).k F30).k F34).j F37 (Ne.symm ne_mo_g11)
 have ltz_g11 := HB18.lt
 refine ZER (FrB (World.heap w36).size) [1] [5] [6] 7 ?_
 intro w40 F41 _
 refine Yq 0 1 <| Ylb 1 124 [.string (str key), J kind] g11 0 (fun _ k => (HB18.k F41).keepB k ltz_g11) <| Yq 2 3 <| WO.call (SA.ER _ 5 _ (by kernel_rfl) rfl) 128 (by kernel_rfl) (beg_f key kind value _ hv) ?_
 rintro _ w42 ⟨A1, c1, G1, rfl, HO1, hg1, F43⟩
 refine ⟨_, rfl, (frB_of (Nat.le_trans hz39 F41.size) (by simp)) _ F43, ?_⟩
 have hg1r := fun y hy => Or.inr (a := y ∈ ([] : List Nat)) (hg1 y hy)
 have HM33 := (HM33.keep F37 (ninC (Ne.symm ne_mo_m31) (nin0 _))).keep F41 (nin0 _)
 have nin_m31_G1 := grow_nin hg1r (nin0 _) (HM33.lt)
 have HA := ((HA.step0 F34).step F37 (inSL (by simp) inS0)).step0 F41
 have ge_HA_G1 := grow_ge hg1r (by simp) HA.size
 refine WO.upG (SA.E _ 6 _ (by kernel_rfl) rfl) gtI (key, kind) ([.string (str (begR key kind value).key), J ((begR key kind value).kind), .int .u64 ((begR key kind value).many : Int), J ((begR key kind value).sum), J ((begR key kind value).least), J ((begR key kind value).most), .bool ((begR key kind value).over), .slice A1 ((begR key kind value).bk.length) c1]) (by kernel_rfl) (HM33.keep F43 (nin0 _)) (okp_of hkey hkd) (by simp) (fun _ _ => trivial) ?_
 intro w44 HM46 F45
 have HO1 := HO1.keep F45 (djB nin_m31_G1)
 refine Ydn <| Zsg <| Zr 1 <| Zdn <| WE.ret <| ZR (.nilIface) ?_
 exact ⟨m31, A1, c1, G1, rfl, putO_new hno (((HM38.keep F41 (nin0 _)).keep F43 (nin0 _)).keep F45 (ninC ne_mo_m31 (nin0 _))), put_new (xs := []) rfl HM46, VX.of_own HO1, own_cap HO1 (List.length_map _), ge_HA_m31, ge_HA_G1, nin_m31_G1, ((HA.step0 F43).step F45 (inSR ge_HA_m31 inS0))⟩
end Go.Proofs.YtdhonbahpcmmnaaGreatDoor.Bat
