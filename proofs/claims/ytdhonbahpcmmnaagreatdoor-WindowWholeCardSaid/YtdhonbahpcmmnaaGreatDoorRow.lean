/- Layer 20: the law WindowPlays. -/
import Derived.Test.YtdhonbahpcmmnaaGreatDoorWinY
import Derived.Test.YtdhonbahpcmmnaaGreatDoorEngC
import Derived.Test.YtdhonbahpcmmnaaGreatDoorWMore
import Derived.ChangeSlices
import Derived.SizedLaws
import Derived.WalkKit
import Derived.ProofKit
import Derived.Deep.Slices
import Derived.Test.YtdhonbahpcmmnaaGreatDoorLinePure
import Derived.OpenShut
import Derived.Test.YtdhonbahpcmmnaaGreatDoorSerS
import Derived.Test.YtdhonbahpcmmnaaGreatDoorSerL
section
set_option linter.unusedVariables false
set_option linter.unusedSimpArgs false
namespace Go.Proofs.YtdhonbahpcmmnaaGreatDoor.Bat
open Go Go.RowKit Go.Proofs.YtdhonbahpcmmnaaGreatDoor Go.Proofs.YtdhonbahpcmmnaaGreatDoor.Eng Go.Proofs.YtdhonbahpcmmnaaGreatDoorW.PrintWords
open Go.Proofs Go.Maps
open Go.Proofs.YtdhonbahpcmmnaaGreatDoor.Line
theorem few_60 {l : List De} (h : fewP l = true) : l.length ≤ 60 := by
 unfold fewP at h
 rw [Bool.and_eq_true] at h
 exact of_decide_eq_true h.2
theorem few_key2 {l : List De} (h : fewP l = true) : ∀ d ∈ l, d.key.length ≤ 400 := by
 unfold fewP at h
 rw [Bool.and_eq_true] at h
 exact fun d hd => of_decide_eq_true (List.all_eq_true.1 h.1 d hd)
end Go.Proofs.YtdhonbahpcmmnaaGreatDoor.Bat
end
section
set_option linter.unusedVariables false
set_option linter.unusedSimpArgs false
namespace Go.Proofs.YtdhonbahpcmmnaaGreatDoor.Bat
open Go Go.Proofs.YtdhonbahpcmmnaaGreatDoor.Eng
open Go.Proofs.YtdhonbahpcmmnaaGreatDoor.Line (ofE)
theorem bump_last {q : List Nat} {b : Nat} (h : 0 < q.length → q.getD (q.length - 1) 0 ≠ 0) : (bumpN q b).getD ((bumpN q b).length - 1) 0 ≠ 0 := by
 rw [bumpN_len]
 unfold bumpN
 rw [List.getD_eq_getElem?_getD, List.getElem?_set]
 by_cases hb : b = max q.length (b + 1) - 1
 ·
  rw [if_pos hb, if_pos (by rw [extN_len]; omega)]
  have := scount_pos ((extN q b).getD b 0)
  rw [Option.getD_some]
  omega
 ·
  rw [if_neg hb, extN_of (by omega), ← List.getD_eq_getElem?_getD, show max q.length (b + 1) - 1 = q.length - 1 by omega]
  exact h (by omega)
theorem begR_ok {k : L} {kd v : Int} (hk : (ofE k).isSome = true) (h1 : 1 ≤ kd ∧ kd ≤ 3) (hv : I64 v) : rowOk (begR k kd v) = true := by
 refine rowOk_iff.2 ⟨hk, h1.1, h1.2, Nat.le_refl 1, Int.le_refl v, (beg_ok hv).2.1, ?_⟩
 unfold bkOk
 by_cases h3 : kd = 3
 ·
  have e : (begR k kd v).bk = bumpN [] (bl v) := if_pos h3
  rw [if_pos (show (begR k kd v).kind = 3 from h3), e, Bool.and_eq_true]
  exact ⟨decide_eq_true (by rw [bumpN_len]; omega), decide_eq_true (bump_last fun h => absurd h (Nat.lt_irrefl 0))⟩
 ·
  have e : (begR k kd v).bk = [] := if_neg h3
  rw [if_neg (show ¬ (begR k kd v).kind = 3 from h3), e]
  rfl
theorem addR_ok {r : Rw} {v : Int} (hr : rowOk r = true) (hv : I64 v) : rowOk (addR r v) = true := by
 obtain ⟨h1, h2, h3, h4, h5, h6, h7⟩ := rowOk_iff.1 hr
 refine rowOk_iff.2 ⟨h1, h2, h3, scount_pos _, ?_, ?_, ?_⟩
 ·
  show (if v < r.least then v else r.least) ≤ (if r.most < v then v else r.most)
  split <;> split <;> omega
 ·
  show (if r.kind = 3 then bumpN r.bk (bl v) else r.bk).length ≤ 65
  split
  ·
   rw [bumpN_len]
   have := bl_le hv
   omega
  ·
   exact h6
 ·
  unfold bkOk at h7 ⊢
  by_cases hk : r.kind = 3
  ·
   have e : (addR r v).bk = bumpN r.bk (bl v) := if_pos hk
   rw [if_pos hk, Bool.and_eq_true] at h7
   rw [if_pos (show (addR r v).kind = 3 from hk), e, Bool.and_eq_true]
   exact ⟨decide_eq_true (by rw [bumpN_len]; omega), decide_eq_true (bump_last fun _ => of_decide_eq_true h7.2)⟩
  ·
   have e : (addR r v).bk = r.bk := if_neg hk
   rw [if_neg hk] at h7
   rw [if_neg (show ¬ (addR r v).kind = 3 from hk), e]
   exact h7
def PGood (width : Int) (pts : List Pn) : Prop := ∀ p ∈ pts, (ofE p.key).isSome = true ∧ (1 ≤ p.kind ∧ p.kind ≤ 3) ∧ I64 p.value ∧ p.start % width = 0
theorem PGood.left {width : Int} {pts : List Pn} (h : PGood width pts) (s : Int) : PGood width (leftP pts s) := fun p hp => h p (List.mem_filter.1 hp).1
theorem insR_mem {q : List Rw} {p : Pn} (hs : RSort q) {r : Rw} (hr : r ∈ insR q p) : r ∈ q ∨ r = begR p.key p.kind p.value ∨ ∃ x ∈ q, r = addR x p.value := by
 cases hm : q.any fun r => decide (r.key = p.key ∧ r.kind = p.kind) with
 | true =>
  obtain ⟨k, hk, h1, h2, e⟩ := insR_met hs hm
  rw [e] at hr
  rcases List.mem_or_eq_of_mem_set hr with h | h
  ·
   exact .inl h
  ·
   exact .inr (.inr ⟨_, List.mem_of_getElem? (gW_some q k hk), h⟩)
 | false =>
  rw [insR_not hm] at hr
  rcases List.mem_append.1 hr with h | h
  ·
   rcases List.mem_append.1 h with h | h
   ·
    exact .inl (List.mem_of_mem_take h)
   ·
    exact .inr (.inl (List.mem_singleton.1 h))
  ·
   exact .inl (List.mem_of_mem_drop h)
theorem rows_ok {width : Int} {pts : List Pn} (s : Int) (h : PGood width pts) : ∀ r ∈ rowsP pts s, rowOk r = true := by
 refine snoc_ind (P := fun pts => PGood width pts → ∀ r ∈ rowsP pts s, rowOk r = true) (fun _ r hr => by cases hr) (fun l a ih h r hr => ?_) pts h
 have hl : PGood width l := fun p hp => h p (List.mem_append_left _ hp)
 have ha := h a (List.mem_append_right _ List.mem_cons_self)
 rw [rowsP_snoc] at hr
 split at hr
 ·
  rcases insR_mem (rows_sorted l s) hr with h1 | rfl | ⟨x, hx, rfl⟩
  ·
   exact ih hl r h1
  ·
   exact begR_ok ha.1 ha.2.1 ha.2.2.1
  ·
   exact addR_ok (ih hl x hx) ha.2.2.1
 ·
  exact ih hl r hr
def manyS (q : List Rw) : Nat := (q.map (·.many)).sum
theorem manyS_perm {a b : List Rw} (h : a.Perm b) : manyS a = manyS b := (h.map _).sum_nat
theorem manyS_cons (r : Rw) (q : List Rw) : manyS (r :: q) = r.many + manyS q := by unfold manyS; rw [List.map_cons, List.sum_cons]
theorem insR_many {q : List Rw} {p : Pn} (hs : RSort q) (h : manyS q < 18446744073709551615) : manyS (insR q p) = manyS q + 1 := by
 cases hm : q.any fun r => decide (r.key = p.key ∧ r.kind = p.kind) with
 | true =>
  obtain ⟨k, hk, h1, h2, e⟩ := insR_met hs hm
  obtain ⟨q', ha, hb⟩ := set_perm (addR (gW q k) p.value) hk
  rw [e, manyS_perm hb]
  rw [manyS_perm ha] at h ⊢
  rw [manyS_cons] at h ⊢
  rw [manyS_cons]
  show scount (gW q k).many + manyS q' = _
  unfold scount
  rw [if_pos (by omega)]
  omega
 | false =>
  rw [insR_not hm, List.append_assoc]
  have h3 := List.perm_middle (a := begR p.key p.kind p.value) (l₁ := q.take (frontN (ltP p.key p.kind) q)) (l₂ := q.drop (frontN (ltP p.key p.kind) q))
  rw [List.take_append_drop] at h3
  have h4 := manyS_perm h3
  rw [manyS_cons] at h4
  have h5 : (begR p.key p.kind p.value).many = 1 := rfl
  rw [List.cons_append, List.nil_append, h4, h5]
  omega
theorem rows_many (pts : List Pn) (s : Int) (h : pts.length ≤ 100000) : manyS (rowsP pts s) = (pts.filter fun p => decide (p.start = s)).length := by
 refine snoc_ind (P := fun pts => pts.length ≤ 100000 → manyS (rowsP pts s) = (pts.filter fun p => decide (p.start = s)).length) (fun _ => rfl) (fun l a ih h => ?_) pts h
 rw [List.length_append] at h
 simp only [List.length_cons, List.length_nil] at h
 have i := ih (by omega)
 have hle := List.length_filter_le (fun p : Pn => decide (p.start = s)) l
 rw [rowsP_snoc, List.filter_append, List.length_append]
 split
 ·
  rename_i hs
  rw [insR_many (rows_sorted l s) (by omega), i, List.filter_cons_of_pos (by simpa using hs)]
  rfl
 ·
  rename_i hs
  rw [i, List.filter_cons_of_neg (by simpa using hs)]
  rfl
theorem left_many (pts : List Pn) (s : Int) (h : pts.length ≤ 100000) : manyS (rowsP pts s) + (leftP pts s).length = pts.length := by
 rw [rows_many pts s h]
 have h1 := (List.filter_append_perm (fun p : Pn => decide (p.start = s)) pts).length_eq
 rw [List.length_append] at h1
 have h2 : leftP pts s = pts.filter fun p => !decide (p.start = s) := by
  unfold leftP
  refine List.filter_congr fun p _ => ?_
  simp
 rw [h2]
 omega
theorem ordR_of {p r : Rw} (h : ltR p r = true) : ordR p r = true := by
 have h2 := ltR_asymm h
 unfold ordR
 unfold ltR at h h2
 rw [Bool.or_eq_false_iff] at h2
 rw [h2.1]
 simp only [Bool.not_false, Bool.true_and, Bool.not_eq_true', Bool.and_eq_false_iff, decide_eq_false_iff_not]
 by_cases hk : p.key = r.key
 ·
  right
  rw [hk, ltS_irrefl, Bool.false_or, Bool.and_eq_true] at h
  have := of_decide_eq_true h.2
  omega
 ·
  exact .inl hk
theorem okAt_rows {width : Int} {pts : List Pn} (s : Int) (h : PGood width pts) (i : Nat) (hi : i < (rowsP pts s).length) : okAt (rowsP pts s) i = true := by
 unfold okAt
 rw [Bool.and_eq_true, Bool.or_eq_true]
 refine ⟨rows_ok s h _ (gW_mem hi), ?_⟩
 by_cases h0 : i = 0
 ·
  exact .inl (decide_eq_true h0)
 ·
  refine .inr (ordR_of ?_)
  have h1 := List.pairwise_iff_getElem.1 (rows_sorted pts s) (i - 1) i (by omega) hi (by omega)
  have e : ∀ j (hj : j < (rowsP pts s).length), (rowsP pts s)[j] = gW (rowsP pts s) j := fun j hj => by
   have h2 := gW_at hj
   rw [List.getElem?_eq_getElem hj] at h2
   exact Option.some.inj h2
  rwa [e, e] at h1
theorem may_rows {width : Int} {pts : List Pn} (s n : Int) (h : PGood width pts) (hp : PtsOk pts) (hs : s ∈ startsP pts) (hn : 0 ≤ n ∧ n ≤ 2147483647) (hl : pts.length ≤ 200) : mayB ⟨n, s, rowsP pts s⟩ = true := by
 have h1 := hp.ps s hs
 have h2 := rowsP_len pts s
 exact mayB_iff.2 ⟨hn.1, hn.2, h1.1, h1.2, by show (rowsP pts s).length ≤ 200; omega, fun i hi => okAt_rows s h i hi⟩
theorem start_good {width : Int} {pts : List Pn} {s : Int} (h : PGood width pts) (hs : s ∈ startsP pts) : s % width = 0 := by
 obtain ⟨p, hp, rfl⟩ := (starts_mem pts s).1 hs
 exact (h p hp).2.2.2
theorem starts_nil {pts : List Pn} (h : startsP pts = []) : pts = [] := by
 cases pts with
 | nil => rfl
 | cons p q =>
  have := (starts_mem (p :: q) p.start).2 ⟨p, List.mem_cons_self, rfl⟩
  rw [h] at this
  cases this
theorem stepP_good {width windows rows mark : Int} {pts : List Pn} {key : L} {kind value time : Int} (h : PGood width pts) (hv : I64 value) : PGood width (stepP width windows rows mark pts key kind value time) := by
 unfold stepP
 split
 ·
  rename_i hk
  have ho : okA key kind time := by
   unfold addK at hk
   split at hk
   ·
    cases hk
   ·
    rename_i h2
    exact Decidable.not_not.1 h2
  intro p hp
  rcases List.mem_append.1 hp with hp | hp
  ·
   exact h p hp
  ·
   rw [List.mem_singleton.1 hp]
   exact ⟨ho.1, ho.2.1, hv, by rw [Int.sub_emod, Int.emod_emod, Int.sub_self, Int.zero_emod]⟩
 ·
  exact h
theorem start_tmod {width : Int} {pts : List Pn} {s : Int} (h : PGood width pts) (hp : PtsOk pts) (hs : s ∈ startsP pts) : (s : Int).tmod width = 0 := by
 rw [Int.tmod_eq_emod_of_nonneg (hp.ps s hs).1]
 exact start_good h hs
theorem left_lt {pts : List Pn} {s : Int} (hs : s ∈ startsP pts) : (leftP pts s).length < pts.length := by
 obtain ⟨p, hp, rfl⟩ := (starts_mem pts s).1 hs
 unfold leftP
 have h1 := List.length_filter_lt_length_iff_exists (l := pts) (p := fun q : Pn => decide (q.start ≠ p.start))
 exact h1.2 ⟨p, hp, by simp⟩
theorem all_due {width : Int} {pts : List Pn} (hW : 1 ≤ width ∧ width ≤ 1099511627776) (hp : PtsOk pts) : ((startsP pts).filter fun s => decide (s + width ≤ 4611686018427387904)) = startsP pts :=
 List.filter_eq_self.2 fun s hs => decide_eq_true (by have := hp.ps s hs; omega)
theorem manyS_take {q : List Rw} {j : Nat} (h : j < q.length) : manyS (q.take (j + 1)) = manyS (q.take j) + (gW q j).many := by
 unfold manyS
 rw [List.take_add_one, gW_at h, List.map_append, List.sum_append]
 simp
theorem manyS_le (q : List Rw) (j : Nat) : manyS (q.take j) ≤ manyS q := by
 have h : manyS q = manyS (q.take j) + manyS (q.drop j) := by
  unfold manyS
  rw [← List.sum_append, ← List.map_append, List.take_append_drop]
 omega
theorem stepP_pos {width windows rows mark : Int} {pts : List Pn} {key : L} {kind value time : Int} (h : addK width windows rows mark pts key kind time = 0) : (stepP width windows rows mark pts key kind value time).length = pts.length + 1 := by
 unfold stepP
 rw [if_pos h]
 simp
theorem stepP_neg {width windows rows mark : Int} {pts : List Pn} {key : L} {kind value time : Int} (h : ¬ addK width windows rows mark pts key kind time = 0) : stepP width windows rows mark pts key kind value time = pts := if_neg h
theorem errK_pos {k : Int} (h : k = 0) : errK k = .nilIface := if_pos h
theorem errK_neg {k : Int} (h : ¬ k = 0) : errK k = .iface 32 (.int .i64 k) := if_neg h
theorem g0_in {pts : List Pn} (h : 1 ≤ (startsP pts).length) : g0 (startsP pts) 0 ∈ startsP pts := List.mem_of_getElem? (g0_some _ 0 (by omega))
theorem hasP_0 {pts : List Pn} (h : (startsP pts).length = 0) : pts.length = 0 ∧ manyP pts = 0 := by
 have h1 := starts_nil (List.length_eq_zero_iff.1 h)
 subst h1
 exact ⟨rfl, rfl⟩
end Go.Proofs.YtdhonbahpcmmnaaGreatDoor.Bat
end
section
set_option linter.unusedVariables false
set_option linter.unusedSimpArgs false
namespace Go.Proofs.YtdhonbahpcmmnaaGreatDoor.Bat
open Go Go.RowKit Go.Proofs.YtdhonbahpcmmnaaGreatDoor Go.Proofs.YtdhonbahpcmmnaaGreatDoor.Eng Go.Proofs.YtdhonbahpcmmnaaGreatDoorW.PrintWords
open Go.Proofs Go.Maps
open Go.Proofs.YtdhonbahpcmmnaaGreatDoor.Line
set_option maxRecDepth 100000 in
set_option maxHeartbeats 400000 in
theorem wh_bad (l : List De) (AD : Option Addr) (cD_ : Nat) (FDe : List Nat) (width : Int) (w : World) (HDe : VX cD 6 w FDe AD l) (hdl : l.length ≤ 9223372036854775807) (hkl : ∀ d ∈ l, d.key.length ≤ 9223372036854775807) (hbad : ¬ (1 ≤ width ∧ width ≤ 1099511627776)) (HS : VarI w "strconv.ErrSyntax") (HR : VarI w "strconv.ErrRange") (HTab : Lib.TabIs Tryz.prog w "internal/strconv.uint64pow10" .u64 Lib.pow10Tab) (HM : MaxI w) :
    Calls Tryz.prog 6 #[.int .i64 width, .slice AD l.length cD_] w fun e w' => e = .returned (.bool true) ∧ Fr [] w w' := by
 have HA := Fr.refl [] w
 refine Ze Tryz.func6 _ <| Zsg <| Zr 1 <| Zdn <| Zsg <| Zcf 17 (up_f _ HS HR HTab HM) ?_
 intro w1 F2
 refine Zr 1 <| Zdn <| Zsg <| Zr 1 <| Zc 19 (few_f l AD cD_ FDe _ (HDe.keep F2 dj0) hdl hkl) ?_
 rintro _ w3 ⟨rfl, F4⟩
 have HA := (HA.step0 F2).step0 F4
 refine ⟨_, rfl, trivial, Zo 6 (.bool (fewP l)) ?_⟩
 refine WO.topB (fewP l) ?_ ?_
 ·
  intro h5
  refine Zdn <| Zsg <| Zr 1 <| Zcf 22 (new_bad width 100 200 0 _ (fun h_ => hbad ⟨h_.1, h_.2.1⟩)) ?_
  intro w6 F7
  refine Zr 5 <| Zdn <| Zq <| Zsg <| Zr 10 <| Zdn <| ZT <| Zsg <| Zr 9 <| Zdn <| WE.ret <| WQ.thenR <| ZR (.bool true) ?_
  exact ⟨rfl, (HA.step0 F7)⟩
 intro h5
 refine Zdn <| Zsg <| Zr 1 <| Zcf 22 (new_bad width 100 200 0 _ (fun h_ => hbad ⟨h_.1, h_.2.1⟩)) ?_
 intro w8 F9
 refine Zr 5 <| Zdn <| Zq <| Zsg <| Zr 10 <| Zdn <| ZT <| Zsg <| Zr 9 <| Zdn <| WE.ret <| WQ.thenR <| ZR (.bool true) ?_
 exact ⟨rfl, (HA.step0 F9)⟩
set_option maxRecDepth 100000 in
set_option maxHeartbeats 400000 in
theorem wh_big (l : List De) (AD : Option Addr) (cD_ : Nat) (FDe : List Nat) (width : Int) (w : World) (HDe : VX cD 6 w FDe AD l) (hdl : l.length ≤ 9223372036854775807) (hkl : ∀ d ∈ l, d.key.length ≤ 9223372036854775807) (hg : 1 ≤ width ∧ width ≤ 1099511627776) (hfew : fewP l = false) (HS : VarI w "strconv.ErrSyntax") (HR : VarI w "strconv.ErrRange") (HTab : Lib.TabIs Tryz.prog w "internal/strconv.uint64pow10" .u64 Lib.pow10Tab) (HM : MaxI w) :
    Calls Tryz.prog 6 #[.int .i64 width, .slice AD l.length cD_] w fun e w' => e = .returned (.bool true) ∧ Fr [] w w' := by
 have HA := Fr.refl [] w
 refine Ze Tryz.func6 _ <| Zsg <| Zr 1 <| Zdn <| Zsg <| Zcf 17 (up_f _ HS HR HTab HM) ?_
 intro w1 F2
 refine Zr 1 <| Zdn <| Zsg <| Zr 1 <| Zcf 19 (few_f l AD cD_ FDe _ (HDe.keep F2 dj0) hdl hkl) ?_
 intro w3 F4
 rw [hfew]
 refine Zr 1 <| Zdn <| Zsg <| Zr 1 <| Zc 22 (tb_new (width := width) (windows := 100) (rows := 200) (seq := 0) ⟨hg.1, hg.2, by decide⟩) ?_
 rintro _ w5 ⟨tb, FT, rfl, HT, htb, hgT, F6⟩
 refine ⟨_, rfl, trivial, Zr 5 <| Zdn <| Zq <| Zsg <| Zr 10 <| Zdn <| ZT <| Zsg <| Zr 9 <| Zdn <| WE.ret <| WQ.thenR <| ZR (.bool true) ?_⟩
 exact ⟨rfl, (((HA.step0 F2).step0 F4).step0 F6)⟩
set_option maxRecDepth 100000 in
set_option maxHeartbeats 400000 in
theorem wh_run (l : List De) (AD : Option Addr) (cD_ : Nat) (FDe : List Nat) (width : Int) (w : World) (HDe : VX cD 6 w FDe AD l) (hdl : l.length ≤ 9223372036854775807) (hkl : ∀ d ∈ l, d.key.length ≤ 9223372036854775807) (hg : 1 ≤ width ∧ width ≤ 1099511627776) (hfew : fewP l = true) (hvl : ∀ d ∈ l, I64 d.value) (HS : VarI w "strconv.ErrSyntax") (HR : VarI w "strconv.ErrRange") (HTab : Lib.TabIs Tryz.prog w "internal/strconv.uint64pow10" .u64 Lib.pow10Tab) (HM : MaxI w) :
    Calls Tryz.prog 6 #[.int .i64 width, .slice AD l.length cD_] w fun e w' => e = .returned (.bool true) ∧ Fr [] w w' := by
 have HA := Fr.refl [] w
 refine Ze Tryz.func6 _ <| Zsg <| Zr 1 <| Zdn <| Zsg <| Zc 17 (up_f _ HS HR HTab HM) ?_
 rintro _ w1 ⟨rfl, F2⟩
 have HDe := HDe.keep F2 dj0
 refine ⟨_, rfl, trivial, Zr 1 <| Zdn <| Zsg <| Zr 1 <| Zcf 19 (few_f l AD cD_ FDe _ HDe hdl hkl) ?_⟩
 intro w3 F4
 rw [hfew]
 refine Zr 1 <| Zdn <| Zsg <| Zr 1 <| Zc 22 (tb_new (width := width) (windows := 100) (rows := 200) (seq := 0) ⟨hg.1, hg.2, by decide⟩) ?_
 rintro _ w5 ⟨tb, FT, rfl, HT, htb, hgT, F6⟩
 refine ⟨_, rfl, trivial, ?_⟩
 have hgTr := fun y hy => Or.inr (a := y ∈ ([] : List Nat)) (hgT y hy)
 have HS := (HS.k F2).k F4
 have nin_1_FT := grow_nin hgTr (nin0 _) ((var_lt 1 (by kernel_rfl) HS))
 have HR := (HR.k F2).k F4
 have nin_2_FT := grow_nin hgTr (nin0 _) ((var_lt 2 (by kernel_rfl) HR))
 have HTab := (HTab.k F2).k F4
 have nin_3_FT := grow_nin hgTr (nin0 _) ((tab_lt HTab))
 have HM := (HM.k F2).k F4
 have nin_0_FT := grow_nin hgTr (nin0 _) ((max_lt HM))
 have HDe := HDe.keep F4 dj0
 have dj_FT_FDe := grow_dj hgTr (by simp) HDe.lt
 have HA := (HA.step0 F2).step0 F4
 have ge_HA_FT := grow_ge hgTr (by simp) HA.size
 refine Zr 5 <| Zdn <| Zq <| Zsg <| Zr 10 <| Zdn <| ZF <| Zk <| Zsg <| Zr 1 <| Zdn <| Zq <| Zsg <| Zr 1 <| Zdn <| WE.block <| WE.loop (α := Nat × List Pn × Nat × List Nat) (E := fun ⟨i, pts, ad, FT⟩ => [(0, J width), (1, .slice AD l.length cD_), (4, .bool false), (5, .bool true), (7, Pt tb 0), (9, .int .u64 (ad : Int)), (10, J (i : Int))]) (I := fun ⟨i, pts, ad, FT⟩ wr => i ≤ l.length ∧ PtsOk pts ∧ pts.length ≤ i ∧ PGood width pts ∧ ad = pts.length ∧ VX cD 6 wr FDe AD l ∧ VarI wr "strconv.ErrSyntax" ∧ VarI wr "strconv.ErrRange" ∧ Lib.TabIs Tryz.prog wr "internal/strconv.uint64pow10" .u64 Lib.pow10Tab ∧ MaxI wr ∧ TB wr FT tb width 100 200 0 pts ∧ 1 ∉ FT ∧ 2 ∉ FT ∧ 3 ∉ FT ∧ 0 ∉ FT ∧ (∀ y ∈ FT, y ∉ FDe) ∧ (∀ y ∈ FT, (World.heap w).size ≤ y) ∧ Fr [] w wr) (m := fun ⟨i, pts, ad, FT⟩ => l.length - i) (0, [], 0, FT) [0, 1, 4, 5, 7, 9, 10] (by kernel_rfl) ?_ ?_
 ·
  exact ⟨Nat.zero_le _, up_ok0, Nat.zero_le _, fun p hp => absurd hp List.not_mem_nil, rfl, (HDe.keep F6 dj0), (HS.k F6), (HR.k F6), (HTab.k F6), (HM.k F6), HT, nin_1_FT, nin_2_FT, nin_3_FT, nin_0_FT, dj_FT_FDe, ge_HA_FT, (HA.step0 F6)⟩
 rintro ⟨i, pts, ad, FT⟩ wr ⟨hi, hpo, hpl, hpg, had, HDe, HS, HR, HTab, HM, HO_FT, nin_1_FT, nin_2_FT, nin_3_FT, nin_0_FT, dj_FT_FDe, ge_HA_FT, HA⟩
 have hW : 1 ≤ width ∧ width ≤ 1099511627776 := hg
 have hl60 : l.length ≤ 60 := few_60 hfew
 refine Zq <| Zsg <| Zr 3 <| ZoP 46 (((i : Int) : Int) < (l.length : Int)) ?_ ?_
 ·
  intro h7
  refine Zdn <| ZT <| Zk <| Zq <| WE.block <| Zq ?_
  have hm1_ := List.mem_of_getElem? (gD_some l i (by omega))
  have hk1_ : (gD l i).key.length ≤ 100000 := by have h_ := few_key2 hfew _ hm1_; omega
  have hv1_ := hvl _ hm1_
  refine ZE [5, 10, 15, 20] [] [21] 23 ?_
  intro w8 F9 _
  have HDe := HDe.keep F9 dj0
  refine Yq 0 3 ?_
  obtain ⟨ad10, hA11⟩ := HDe.addr (i := i) (by have := (rfl : List.length l = _); omega)
  refine Yio 3 52 l.length 6 i (i : Int) hA11 <| Yq 4 1 <| Yl 5 54 (.string (str (gD l i).key)) (same (HDe.at hA11 (gD_some l i (by have := (rfl : List.length l = _); omega)) 2 (by kernel_rfl))) <| Yq 6 2 ?_
  obtain ⟨ad12, hA13⟩ := HDe.addr (i := i) (by have := (rfl : List.length l = _); omega)
  refine Yio 8 57 l.length 6 i (i : Int) hA13 <| Yq 9 1 <| Yl 10 59 (J ((gD l i).kind)) (same (HDe.at hA13 (gD_some l i (by have := (rfl : List.length l = _); omega)) 3 (by kernel_rfl))) <| Yq 11 2 ?_
  obtain ⟨ad14, hA15⟩ := HDe.addr (i := i) (by have := (rfl : List.length l = _); omega)
  refine Yio 13 62 l.length 6 i (i : Int) hA15 <| Yq 14 1 <| Yl 15 64 (J ((gD l i).value)) (same (HDe.at hA15 (gD_some l i (by have := (rfl : List.length l = _); omega)) 4 (by kernel_rfl))) <| Yq 16 2 ?_
  obtain ⟨ad16, hA17⟩ := HDe.addr (i := i) (by have := (rfl : List.length l = _); omega)
  refine Yio 18 67 l.length 6 i (i : Int) hA17 <| Yq 19 1 <| Yl 20 69 (J ((gD l i).time)) (same (HDe.at hA17 (gD_some l i (by have := (rfl : List.length l = _); omega)) 5 (by kernel_rfl))) ?_
  by_cases hk_ : addK width 100 200 0 pts (gD l i).key (gD l i).kind (gD l i).time = 0
  ·
   have HS := HS.k F9
   have HR := HR.k F9
   have HTab := HTab.k F9
   have HM := HM.k F9
   refine Yc 21 70 (tb_any 0 (gD l i).key (gD l i).kind (gD l i).value (gD l i).time (HO_FT.keep F9 dj0) hW hk1_ hv1_ hpo (by omega) HS HR HTab HM) ?_
   rintro _ w18 ⟨rfl, FT20, HT, hsT, F19⟩
   have hsl_ := stepP_pos (value := (gD l i).value) hk_
   rw [errK_pos hk_]
   refine ⟨_, rfl, trivial, ?_⟩
   have nin_1_FT20 := grow_nin hsT nin_1_FT ((var_lt 1 (by kernel_rfl) HS))
   have nin_2_FT20 := grow_nin hsT nin_2_FT ((var_lt 2 (by kernel_rfl) HR))
   have nin_3_FT20 := grow_nin hsT nin_3_FT ((tab_lt HTab))
   have nin_0_FT20 := grow_nin hsT nin_0_FT ((max_lt HM))
   have dj_FT20_FDe := grow_dj hsT dj_FT_FDe HDe.lt
   have HA := HA.step0 F9
   have ge_HA_FT20 := grow_ge hsT ge_HA_FT HA.size
   refine Yq 22 1 <| Ydn <| Zsg <| Zr 2 <| Zdn <| ZT <| WE.region <| Zr 1 <| Zwu 74 ((ad : Int) + 1) ((ad + 1 : Nat) : Int) <| Zr 1 <| Zd <| WQ.blkN <| Zn <| WE.region <| Zr 1 <| Zw 48 ((i : Int) + 1) ((i + 1 : Nat) : Int) <| Zr 1 <| Zd <| WQ.round ?_
   intro a_ ha_
   refine ⟨(i + 1, (stepP width 100 200 0 pts (gD l i).key (gD l i).kind (gD l i).value (gD l i).time), ad + 1, FT20), ?_, ha_.keep [0, 1, 4, 5, 7, 9, 10] (by kernel_rfl), ?_⟩
   ·
    show l.length - (i + 1) < l.length - i; omega
   ·
    exact ⟨by omega, stepP_ok hpo (by omega) hW hv1_, by omega, stepP_good hpg hv1_, by omega, (HDe.keep F19 (dj_symm dj_FT_FDe)), (var_keep 1 (by kernel_rfl) HS F19 nin_1_FT), (var_keep 2 (by kernel_rfl) HR F19 nin_2_FT), (tab_keep HTab F19 nin_3_FT), (max_keep HM F19 nin_0_FT), HT, nin_1_FT20, nin_2_FT20, nin_3_FT20, nin_0_FT20, dj_FT20_FDe, ge_HA_FT20, (HA.step F19 (inF ge_HA_FT))⟩
  ·
   have HS := HS.k F9
   have HR := HR.k F9
   have HTab := HTab.k F9
   have HM := HM.k F9
   refine Yc 21 70 (tb_any 0 (gD l i).key (gD l i).kind (gD l i).value (gD l i).time (HO_FT.keep F9 dj0) hW hk1_ hv1_ hpo (by omega) HS HR HTab HM) ?_
   rintro _ w21 ⟨rfl, FT23, HT, hsT, F22⟩
   rw [stepP_neg hk_] at HT
   rw [errK_neg hk_]
   refine ⟨_, rfl, trivial, ?_⟩
   have nin_1_FT23 := grow_nin hsT nin_1_FT ((var_lt 1 (by kernel_rfl) HS))
   have nin_2_FT23 := grow_nin hsT nin_2_FT ((var_lt 2 (by kernel_rfl) HR))
   have nin_3_FT23 := grow_nin hsT nin_3_FT ((tab_lt HTab))
   have nin_0_FT23 := grow_nin hsT nin_0_FT ((max_lt HM))
   have dj_FT23_FDe := grow_dj hsT dj_FT_FDe HDe.lt
   have HA := HA.step0 F9
   have ge_HA_FT23 := grow_ge hsT ge_HA_FT HA.size
   refine Yq 22 1 <| Ydn <| Zsg <| Zr 2 <| Zdn <| ZF <| WE.skip <| WQ.blkN <| Zn <| WE.region <| Zr 1 <| Zw 48 ((i : Int) + 1) ((i + 1 : Nat) : Int) <| Zr 1 <| Zd <| WQ.round ?_
   intro a_ ha_
   refine ⟨(i + 1, pts, ad, FT23), ?_, ha_.keep [0, 1, 4, 5, 7, 9, 10] (by kernel_rfl), ?_⟩
   ·
    show l.length - (i + 1) < l.length - i; omega
   ·
    exact ⟨by omega, hpo, by omega, hpg, had, (HDe.keep F22 (dj_symm dj_FT_FDe)), (var_keep 1 (by kernel_rfl) HS F22 nin_1_FT), (var_keep 2 (by kernel_rfl) HR F22 nin_2_FT), (tab_keep HTab F22 nin_3_FT), (max_keep HM F22 nin_0_FT), HT, nin_1_FT23, nin_2_FT23, nin_3_FT23, nin_0_FT23, dj_FT23_FDe, ge_HA_FT23, (HA.step F22 (inF ge_HA_FT))⟩
 intro h7
 refine Zdn <| ZF <| WE.exit <| WQ.thenE <| WQ.thenE <| WQ.blkE <| Zn <| Zsg <| Zr 1 <| Zdn <| Zq <| Zsg <| Zr 1 <| Zdn <| WE.block <| WE.loop (α := Nat × List Pn × Nat × List Nat) (E := fun ⟨n, qs, mn, FT⟩ => [(0, J width), (4, .bool false), (5, .bool true), (7, Pt tb 0), (9, .int .u64 (ad : Int)), (12, .int .u64 (mn : Int)), (13, J (n : Int))]) (I := fun ⟨n, qs, mn, FT⟩ wr => PtsOk qs ∧ PGood width qs ∧ mn + qs.length = ad ∧ n + qs.length ≤ 60 ∧ VX cD 6 wr FDe AD l ∧ VarI wr "strconv.ErrSyntax" ∧ VarI wr "strconv.ErrRange" ∧ Lib.TabIs Tryz.prog wr "internal/strconv.uint64pow10" .u64 Lib.pow10Tab ∧ MaxI wr ∧ TB wr FT tb width 100 200 (n : Int) qs ∧ 1 ∉ FT ∧ 2 ∉ FT ∧ 3 ∉ FT ∧ 0 ∉ FT ∧ (∀ y ∈ FT, y ∉ FDe) ∧ (∀ y ∈ FT, (World.heap w).size ≤ y) ∧ Fr [] w wr) (m := fun ⟨n, qs, mn, FT⟩ => qs.length) (0, pts, 0, FT) [0, 4, 5, 7, 9, 12, 13] (by kernel_rfl) ?_ ?_
 ·
  exact ⟨hpo, hpg, by omega, by omega, HDe, HS, HR, HTab, HM, HO_FT, nin_1_FT, nin_2_FT, nin_3_FT, nin_0_FT, dj_FT_FDe, ge_HA_FT, HA⟩
 rintro ⟨n, qs, mn, FT⟩ wr ⟨hqo, hqg, hmq, hnq, HDe, HS, HR, HTab, HM, HO_FT, nin_1_FT, nin_2_FT, nin_3_FT, nin_0_FT, dj_FT_FDe, ge_HA_FT, HA⟩
 have hW : 1 ≤ width ∧ width ≤ 1099511627776 := hg
 have hdq_ := all_due hW hqo
 refine Zq <| Zsg <| Zr 1 <| ZoPT 76 (((n : Int) : Int) < (101 : Int)) (by omega) <| Zdn <| ZT <| Zk <| Zq <| WE.block <| Zsg <| Zr 1 ?_
 rcases Nat.eq_zero_or_pos (startsP qs).length with hds_ | hds_
 ·
  have h00_ := hasP_0 hds_
  refine Zcf 81 (tb_clo_no 4611686018427387904 HO_FT hW hqo.ps hqo.1 (by rw [hdq_]; exact hds_)) ?_
  intro w26 F27
  refine Zr 3 <| Zb 14 #[J 0, J 0, .slice none 0 0] 24 (fun g => Pt g 0) ?_
  intro g28 w29 HB31 F30 le32 _
  have HO_FT := HO_FT.keep F27 dj0
  have nin_g28_FT := new_nin HO_FT.lt le32
  have HA := HA.step0 F27
  have ge_HA_g28 := Nat.le_trans HA.size le32
  refine Zst g28 0 #[J 0, J 0, .slice none 0 0] HB31 ?_
  intro w33 HB35 F34 _
  have HO_FT := (HO_FT.keep F30 dj0).keep F34 (djB nin_g28_FT)
  refine Zr 1 <| Zdn <| Zq <| Zsg <| Zr 2 <| Zdn <| ZT <| Zsg <| Zr 4 <| ZoPT 90 (((mn : Int) : Int) = (ad : Int)) (by omega) <| Zr 3 <| Zcf 94 (tb_opn HO_FT) ?_
  intro w36 F37
  refine ZoPT 95 ((((startsP qs).length : Int) : Int) = (0 : Int)) (by omega) <| Zr 3 <| Zcf 99 (tb_rows (HO_FT.keep F37 dj0) (by omega)) ?_
  intro w38 F39
  refine Zr 3 <| Zdn <| WE.ret <| WQ.thenR <| WQ.blkR <| WQ.thenR <| WQ.thenR <| WQ.blkR <| WQ.thenR <| ZR (.bool (decide ((((manyP qs) : Int) : Int) = (0 : Int)))) ?_
  exact ⟨by first | rfl | rw [decide_eq_true (show ((manyP qs : Nat) : Int) = 0 by omega)], ((((HA.step0 F30).step F34 (inSR ge_HA_g28 inS0)).step0 F37).step0 F39)⟩
 ·
  have hs0_ := g0_in hds_
  have hlt_ := left_lt hs0_
  have hst0_ := start_tmod hqg hqo hs0_
  refine Zc 81 (tb_clo_yes 4611686018427387904 HO_FT hW hqo.ps hqo.1 (by rw [hdq_]; exact hds_) (by omega)) ?_
  rintro _ w40 ⟨zs, Az, cz, Fz, Gz, FT42, rfl, hzr, HVz, HEz, hcz, hgz, hgz2, hdz, hokz, HT, hsT, F41⟩
  refine ⟨_, rfl, trivial, ?_⟩
  have hsTr := fun y hy => Or.inl (b := (World.heap wr).size ≤ y) (hsT y hy)
  have hgzr := fun y hy => Or.inr (a := y ∈ ([] : List Nat)) (hgz y hy)
  have hgz2r := fun y hy => Or.inr (a := y ∈ ([] : List Nat)) (hgz2 y hy)
  have hzl_ : zs.length = (rowsP qs (g0 (startsP qs) 0)).length := by rw [← hzr, rws_len]
  have hz1_ := rowsP_ne hs0_
  have hz2_ := rowsP_len qs (g0 (startsP qs) 0)
  have hmt_ := left_many qs (g0 (startsP qs) 0) hqo.1
  have hmz_ : manyS (rws zs) = manyS (rowsP qs (g0 (startsP qs) 0)) := by rw [hzr]
  have nin_1_FT42 := grow_nin hsTr nin_1_FT ((var_lt 1 (by kernel_rfl) HS))
  have nin_2_FT42 := grow_nin hsTr nin_2_FT ((var_lt 2 (by kernel_rfl) HR))
  have nin_3_FT42 := grow_nin hsTr nin_3_FT ((tab_lt HTab))
  have nin_0_FT42 := grow_nin hsTr nin_0_FT ((max_lt HM))
  have dj_FT42_FDe := grow_dj hsTr dj_FT_FDe HDe.lt
  have ge_HA_FT42 := grow_ge hsTr ge_HA_FT HA.size
  refine Zr 3 <| Zb 14 #[J 0, J 0, .slice none 0 0] 24 (fun g => Pt g 0) ?_
  intro g43 w44 HB46 F45 le47 _
  have HDe := HDe.keep F41 (dj_symm dj_FT_FDe)
  have nin_g43_FDe := new_nin HDe.lt le47
  have nin_g43_FT42 := new_nin HT.lt le47
  have nin_g43_Fz := new_nin HVz.lt le47
  have nin_g43_Gz := new_nin HEz.lt le47
  have HS := var_keep 1 (by kernel_rfl) HS F41 nin_1_FT
  have ne_1_g43 : 1 ≠ g43 := Nat.ne_of_lt (Nat.lt_of_lt_of_le (var_lt 1 (by kernel_rfl) HS) le47)
  have HR := var_keep 2 (by kernel_rfl) HR F41 nin_2_FT
  have ne_2_g43 : 2 ≠ g43 := Nat.ne_of_lt (Nat.lt_of_lt_of_le (var_lt 2 (by kernel_rfl) HR) le47)
  have HTab := tab_keep HTab F41 nin_3_FT
  have ne_3_g43 : 3 ≠ g43 := Nat.ne_of_lt (Nat.lt_of_lt_of_le (tab_lt HTab) le47)
  have HM := max_keep HM F41 nin_0_FT
  have ne_0_g43 : 0 ≠ g43 := Nat.ne_of_lt (Nat.lt_of_lt_of_le (max_lt HM) le47)
  have HA := HA.step F41 (inF ge_HA_FT)
  have ge_HA_g43 := Nat.le_trans HA.size le47
  refine Zst g43 0 #[J (n : Int), J (g0 (startsP qs) 0), .slice Az zs.length cz] HB46 ?_
  intro w48 HB50 F49 _
  have HVz := (HVz.keep F45 dj0).keep F49 (djB nin_g43_Fz)
  have HEz := (HEz.keep F45 dj0).keep F49 (djB nin_g43_Gz)
  refine Zr 1 <| Zdn <| Zq <| Zsg <| Zr 2 <| Zdn <| ZF <| Zk <| Zq <| Zsg <| Zr 1 <| Zl 103 (J (n : Int)) (HB50.s 0) <| Zr 1 <| ZoNT 105 (((n : Int) : Int) = (n : Int)) (by rfl) <| Zr 2 <| Zl 108 (J (g0 (startsP qs) 0)) (HB50.s 1) <| Zr 1 <| Zm 110 .i64 (g0 (startsP qs) 0) width (by omega) <| ZoNT 111 ((((g0 (startsP qs) 0) : Int).tmod width : Int) = 0) (by exact hst0_) <| Zr 2 <| Zlb 114 [J (n : Int), J (g0 (startsP qs) 0), .slice Az zs.length cz] g43 0 (same HB50) <| Zc 115 (may_r (n : Int) (g0 (startsP qs) 0) zs Az zs.length cz Fz Gz _ HVz HEz rfl (by omega) (fun x hx => by have h_ := rows_ok (g0 (startsP qs) 0) hqg x.1 (by rw [← hzr]; exact List.mem_map.2 ⟨x, hx, rfl⟩); have h2_ := key_le (rowOk_iff.1 h_).1; omega) (fun x hx => by have h_ := (hokz x hx).2.1; omega)) ?_
  rintro _ w51 ⟨rfl, F52⟩
  rw [hzr, may_rows (g0 (startsP qs) 0) (n : Int) hqg hqo hs0_ ⟨by omega, by omega⟩ (by omega)]
  have HB50 := HB50.k F52
  refine ⟨_, rfl, trivial, Zr 4 <| Zl 120 (.slice Az zs.length cz) (HB50.s 2) <| Zr 1 <| Zo 122 (.bool (decide (((zs.length : Int) : Int) = (0 : Int)))) <| WO.topPF (((zs.length : Int) : Int) = (0 : Int)) (by omega) <| Zr 1 <| Zdn <| ZF <| Zk <| Zsg <| Zr 1 <| Zdn <| WE.block ?_⟩
  refine WE.loop (α := Nat × Nat) (E := fun ⟨j, mj⟩ => [(0, J width), (4, .bool false), (5, .bool true), (7, Pt tb 0), (9, .int .u64 (ad : Int)), (12, .int .u64 (mj : Int)), (13, J (n : Int)), (14, Pt g43 0), (16, J (j : Int))]) (I := fun ⟨j, mj⟩ wk => j ≤ zs.length ∧ mj = mn + manyS ((rws zs).take j) ∧ Blk wk g43 #[J (n : Int), J (g0 (startsP qs) 0), .slice Az zs.length cz] 24 ∧ VX cD 6 wk FDe AD l ∧ TB wk FT42 tb width 100 200 ((n : Int) + 1) (leftP qs (g0 (startsP qs) 0)) ∧ VX cW 8 wk Fz Az zs ∧ EV wk Gz zs ∧ VarI wk "strconv.ErrSyntax" ∧ VarI wk "strconv.ErrRange" ∧ Lib.TabIs Tryz.prog wk "internal/strconv.uint64pow10" .u64 Lib.pow10Tab ∧ MaxI wk ∧ Fr [] w wk) (m := fun ⟨j, mj⟩ => zs.length - j) (0, mn) [0, 4, 5, 7, 9, 12, 13, 14, 16] (by kernel_rfl) ?_ ?_
  ·
   exact ⟨Nat.zero_le _, by rfl, HB50, (((HDe.keep F45 dj0).keep F49 (djB nin_g43_FDe)).keep F52 dj0), (((HT.keep F45 dj0).keep F49 (djB nin_g43_FT42)).keep F52 dj0), (HVz.keep F52 dj0), (HEz.keep F52 dj0), ((var_keep 1 (by kernel_rfl) (HS.k F45) F49 (ninC ne_1_g43 (nin0 _))).k F52), ((var_keep 2 (by kernel_rfl) (HR.k F45) F49 (ninC ne_2_g43 (nin0 _))).k F52), ((tab_keep (HTab.k F45) F49 (ninC ne_3_g43 (nin0 _))).k F52), ((max_keep (HM.k F45) F49 (ninC ne_0_g43 (nin0 _))).k F52), (((HA.step0 F45).step F49 (inSR ge_HA_g43 inS0)).step0 F52)⟩
  rintro ⟨j, mj⟩ wk ⟨hj, hmj, HB50, HDe, HT, HVz, HEz, HS, HR, HTab, HM, HA⟩
  refine Zq <| Zsg <| Zr 2 <| Zl 126 (.slice Az zs.length cz) (HB50.s 2) <| Zr 1 <| ZoP 128 (((j : Int) : Int) < (zs.length : Int)) ?_ ?_
  ·
   intro h53
   refine Zdn <| ZT <| Zk <| Zq <| WE.block ?_
   have hms_ := manyS_take (q := rws zs) (j := j) (by rw [rws_len]; omega)
   have hml_ := manyS_le (rws zs) (j + 1)
   have hgw_ : (gW (rws zs) j).many = (gX zs j).1.many := by rw [gW_rws]
   refine WE.region <| Zr 2 <| Zl 133 (.slice Az zs.length cz) (HB50.s 2) <| Zr 1 ?_
   obtain ⟨ad54, hA55⟩ := HVz.addr (i := j) (by have := (rfl : List.length zs = _); omega)
   refine Zio 135 zs.length 8 j (j : Int) hA55 <| Zr 1 <| Zl 137 (.int .u64 ((gX zs j).1.many : Int)) (same (HVz.at hA55 (gX_some zs j (by have := (rfl : List.length zs = _); omega)) 2 (by kernel_rfl))) <| Zwu 138 ((mj : Int) + ((gX zs j).1.many : Int)) ((mj + ((gX zs j).1.many) : Nat) : Int) <| Zr 1 <| Zd <| WQ.blkN <| Zn <| WE.region <| Zr 1 <| Zw 130 ((j : Int) + 1) ((j + 1 : Nat) : Int) <| Zr 1 <| Zd <| WQ.round ?_
   intro a_ ha_
   refine ⟨(j + 1, mj + (gX zs j).1.many), ?_, ha_.keep [0, 4, 5, 7, 9, 12, 13, 14, 16] (by kernel_rfl), ?_⟩
   ·
    show zs.length - (j + 1) < zs.length - j; omega
   ·
    exact ⟨by omega, by rw [hms_, hmj, Nat.add_assoc, gW_rws], HB50, HDe, HT, HVz, HEz, HS, HR, HTab, HM, HA⟩
  intro h53
  refine Zdn <| ZF <| WE.exit <| WQ.thenE <| WQ.thenE <| WQ.blkE <| WQ.blkN <| Zn <| WE.region <| Zr 1 <| Zw 78 ((n : Int) + 1) ((n + 1 : Nat) : Int) <| Zr 1 <| Zd <| WQ.round ?_
  intro a_ ha_
  refine ⟨(n + 1, (leftP qs (g0 (startsP qs) 0)), mj, FT42), ?_, ha_.keep [0, 4, 5, 7, 9, 12, 13] (by kernel_rfl), ?_⟩
  ·
   exact left_lt hs0_
  ·
   exact ⟨hqo.left _, hqg.left _, by rw [List.take_of_length_le (by rw [rws_len]; omega)] at hmj; omega, by omega, HDe, HS, HR, HTab, HM, HT, nin_1_FT42, nin_2_FT42, nin_3_FT42, nin_0_FT42, dj_FT42_FDe, ge_HA_FT42, HA⟩
end Go.Proofs.YtdhonbahpcmmnaaGreatDoor.Bat
end
section
set_option linter.unusedVariables false
namespace Go.Proofs.YtdhonbahpcmmnaaGreatDoor.Opens
open Go.ChangeShapes Go.WideShapes Go.RowKit Go.Proofs.YtdhonbahpcmmnaaGreatDoorW.PrintWords Go.Proofs.YtdhonbahpcmmnaaGreatDoorW.PrintLast
def Opens (P : Program) {α : Type} (d : Kd α) (good : α → Prop) (t : TypeId) : Prop :=
 ∀ (H : Type) (enc : TypeId × Value → H) (W : World) (base : Nat) (spare : Nat → Bool) (held : Bool) (fuel : Nat) (cs : List Value) (x : DataW H × List MemPlace),
  DataW.trod enc P W base spare held fuel t cs = some x → ∃ a, d.K W a cs ∧ good a
theorem opens_int {P : Program} {t : TypeId} {k : IntKind} (ht : P.underlying t = some (.int k)) : Opens P (Kd.int k) (fun x => (Lit.int k x).wf = true) t := by
 intro H enc W base spare held fuel cs x h
 obtain ⟨n, rfl, _, hw⟩ := DataW.trod_int ht h
 exact ⟨n, rfl, hw⟩
theorem opens_bool {P : Program} {t : TypeId} (ht : P.underlying t = some .bool) : Opens P Kd.bool (fun _ => True) t := by
 intro H enc W base spare held fuel cs x h
 obtain ⟨b, rfl, _⟩ := DataW.trod_bool ht h
 exact ⟨b, rfl, trivial⟩
theorem opens_string {P : Program} {t : TypeId} (ht : P.underlying t = some .string) : Opens P Kd.string (fun s => s.size ≤ 9223372036854775807) t := by
 intro H enc W base spare held fuel cs x h
 obtain ⟨s, rfl, _, hs⟩ := DataW.trod_string ht h
 exact ⟨s, rfl, hs⟩
theorem opens_slice {P : Program} {t e : TypeId} {α : Type} {d : Kd α} {good : α → Prop} (ht : P.underlying t = some (.slice e)) (hc : P.cellsOf e = d.sz) (he : Opens P d good e) :
  Opens P (Kd.slice e d) (fun xs => xs.length ≤ 9223372036854775807 ∧ ∀ x ∈ xs, good x) t := by
 intro H enc W base spare held fuel cs x h
 rcases Go.Deep.open_slice ht h with ⟨rfl, _⟩ | ⟨a, len, cap, m, n, D, Pl, rfl, _, hl, hm, hmm, _, hx⟩
 ·
  exact ⟨[], ⟨none, 0, rfl, Nat.le_refl _, Kd.C_nil _ _⟩, by simp, fun x hx => by simp at hx⟩
 ·
  have hlm : len ≤ m := by rw [hmm]; split <;> omega
  have hone : ∀ i, i < len → ∃ (b : α) (cs' : List Value), W.cells? base (a.add (i * P.cellsOf e)) (P.cellsOf e) = some cs' ∧ d.K W b cs' ∧ good b := by
   intro i hi
   obtain ⟨cs', h1, h2⟩ := hx i (by omega)
   obtain ⟨b, hk, hg⟩ := he H enc W base spare held n cs' _ h2
   exact ⟨b, cs', h1, hk, hg⟩
  have hlist : ∀ j, j ≤ len → ∃ l : List α, l.length = j ∧ ∀ i b, l[i]? = some b → ∃ cs', W.cells? base (a.add (i * P.cellsOf e)) (P.cellsOf e) = some cs' ∧ d.K W b cs' ∧ good b := by
   intro j
   induction j with
   | zero => intro _; exact ⟨[], rfl, fun i b hb => by simp at hb⟩
   | succ j ih =>
    intro hj
    obtain ⟨l, hl1, hl2⟩ := ih (by omega)
    obtain ⟨b, cs', h1, h2, h3⟩ := hone j (by omega)
    refine ⟨l ++ [b], by simp [hl1], fun i b' hb => ?_⟩
    by_cases hi : i < j
    ·
     rw [List.getElem?_append_left (by omega)] at hb
     exact hl2 i b' hb
    ·
     have hij : i = j := by
      have := (List.getElem?_eq_some_iff.1 hb).1
      simp [hl1] at this
      omega
     subst hij
     rw [List.getElem?_append_right (by omega), hl1] at hb
     simp at hb
     subst hb
     exact ⟨cs', h1, h2, h3⟩
  obtain ⟨l, hl1, hl2⟩ := hlist len (Nat.le_refl _)
  unfold maxLen at hm
  refine ⟨l, ⟨some a, cap, by rw [hl1], by omega, rfl, by omega, fun _ => ⟨a, rfl, fun j p hp => ?_⟩⟩, by omega, fun y hy => ?_⟩
  ·
   obtain ⟨cs', h1, h2, _⟩ := hl2 j p hp
   obtain ⟨_, hlen, hcell⟩ := World.cells?_some h1
   refine ⟨cs', by rw [hlen, hc], h2, fun i u hu => ?_⟩
   rw [← hc]
   have hi : i < P.cellsOf e := by
    have := (List.getElem?_eq_some_iff.1 hu).1
    omega
   have := hcell i hi
   rw [← Go.Deep.add_add, this]
   exact hu
  ·
   obtain ⟨j, hj, rfl⟩ := List.getElem_of_mem hy
   obtain ⟨_, _, _, hg⟩ := hl2 j _ (List.getElem?_eq_getElem hj)
   exact hg
def OpensF (P : Program) {α : Type} (d : Kd α) (good : α → Prop) (fs : List Field) (off : Nat) : Prop :=
 ∀ (H : Type) (enc : TypeId × Value → H) (W : World) (base : Nat) (spare : Nat → Bool) (held : Bool) (fuel : Nat) (cs : List Value),
  (∀ f ∈ fs, ∃ y, DataW.trod enc P W base spare held fuel f.type ((cs.drop f.offset).take (P.cellsOf f.type)) = some y) → cs.length = off + d.sz → ∃ a, d.K W a (cs.drop off) ∧ good a
theorem opensF_one {P : Program} {α : Type} {d : Kd α} {good : α → Prop} {f : Field} {off : Nat} (ho : f.offset = off) (hc : P.cellsOf f.type = d.sz) (h : Opens P d good f.type) : OpensF P d good [f] off := by
 intro H enc W base spare held fuel cs hf hlen
 obtain ⟨y, hy⟩ := hf f (List.mem_singleton.2 rfl)
 rw [ho, hc, List.take_of_length_le (by simp; omega)] at hy
 exact h H enc W base spare held fuel _ _ hy
theorem opensF_cons {P : Program} {α β : Type} {d : Kd α} {d' : Kd β} {good : α → Prop} {good' : β → Prop} {f : Field} {fs : List Field} {off : Nat} (ho : f.offset = off) (hc : P.cellsOf f.type = d.sz) (h : Opens P d good f.type)
  (hr : OpensF P d' good' fs (off + d.sz)) : OpensF P (Kd.pair d d') (fun x => good x.1 ∧ good' x.2) (f :: fs) off := by
 intro H enc W base spare held fuel cs hf hlen
 have hlen' : cs.length = off + (d.sz + d'.sz) := hlen
 obtain ⟨y, hy⟩ := hf f List.mem_cons_self
 rw [ho, hc] at hy
 obtain ⟨a, ha, hga⟩ := h H enc W base spare held fuel _ _ hy
 obtain ⟨b, hb, hgb⟩ := hr H enc W base spare held fuel cs (fun f' hf' => hf f' (List.mem_cons_of_mem _ hf')) (by omega)
 refine ⟨(a, b), ⟨_, _, ?_, ha, hb⟩, hga, hgb⟩
 rw [← List.drop_drop, List.take_append_drop]
theorem opens_struct {P : Program} {α β : Type} {d : Kd α} {good : α → Prop} {t : TypeId} {fs : Array Field} (f : β → α) (g : α → β) (hfg : ∀ a, f (g a) = a) (ht : P.underlying t = some (.struct fs)) (hc : P.cellsOf t = d.sz) (h : OpensF P d good fs.toList 0) :
  Opens P (Kd.iso d f) (fun b => good (f b)) t := by
 intro H enc W base spare held fuel cs x hx
 obtain ⟨xs, n, rfl, _, hlen, hxl, hf⟩ := DataW.trod_struct ht hx
 obtain ⟨a, ha, hga⟩ := h H enc W base spare held n cs (fun fd hfd => by
  obtain ⟨i, hi, rfl⟩ := List.getElem_of_mem hfd
  have hi' : i < fs.size := by simpa using hi
  have h1 := hf i fs[i] (by simp [hi'])
  have h2 : i < xs.length := by omega
  rw [List.getElem?_eq_getElem h2] at h1
  exact ⟨_, by simpa using h1⟩) (by omega)
 refine ⟨g a, ?_, ?_⟩
 ·
  show d.K W (f (g a)) cs
  rw [hfg]
  simpa using ha
 ·
  show good (f (g a))
  rw [hfg]
  exact hga
theorem arg_slice {P : Program} {t e : TypeId} {α : Type} {d : Kd α} {good : α → Prop} (ht : P.underlying t = some (.slice e)) (hc : P.cellsOf e = d.sz) (he : Opens P d good e)
  {H : Type} {enc : TypeId × Value → H} {W : World} {base : Nat} {spare : Nat → Bool} {held : Bool} {a : Option Addr} {len cap : Nat} {x : DataW H} {ps : List MemPlace} (h : DataW.Trod enc P W base spare held t (.slice a len cap) x ps) :
  ∃ l : List α, l.length = len ∧ Kd.C d W a l.length l ∧ l.length ≤ cap ∧ (l.length ≤ 9223372036854775807 ∧ ∀ x ∈ l, good x) := by
 obtain ⟨fuel, hf⟩ := h
 obtain ⟨l, ⟨A, c, hcs, hl, hC⟩, hg⟩ := opens_slice ht hc he H enc W base spare held fuel _ _ hf
 simp [Value.cells] at hcs
 obtain ⟨rfl, rfl, rfl⟩ := hcs
 exact ⟨l, rfl, hC, hl, hg⟩
end Go.Proofs.YtdhonbahpcmmnaaGreatDoor.Opens
end
section
set_option linter.unusedVariables false
set_option linter.unusedSimpArgs false
namespace Go.Proofs.YtdhonbahpcmmnaaGreatDoor.Views
open Go Go.RowKit Go.ChangeShapes Go.WideShapes Go.Proofs.YtdhonbahpcmmnaaGreatDoor Go.Proofs.YtdhonbahpcmmnaaGreatDoor.Eng Go.Proofs.YtdhonbahpcmmnaaGreatDoorW.PrintWords Go.Proofs.YtdhonbahpcmmnaaGreatDoorW.PrintLast
theorem of_C {α : Type} {d : Kd α} {cE : α → List Value} {w : World} {A : Option Addr} {l : List α} (hs : 0 < d.sz) (hK : ∀ x cs, d.K w x cs → cs = cE x) (h : Kd.C d w A l.length l) : ∃ F, VX cE d.sz w F A l := by
 obtain ⟨_, _, h3⟩ := h
 by_cases hp : 0 < l.length
 ·
  obtain ⟨ad, rfl, hc⟩ := h3 hp
  have hcell : ∀ i x, l[i]? = some x → ∀ j u, (cE x)[j]? = some u → w.cell? (ad.add (i * d.sz + j)) = some u := by
   intro i x hx j u hu
   obtain ⟨cs, _, hk, hcell⟩ := hc i x hx
   rw [hK x cs hk] at hcell
   exact hcell j u hu
  refine ⟨[ad.block], fun y hy => ?_, fun _ => ⟨ad, rfl, by simp, hcell⟩⟩
  obtain rfl : y = ad.block := by simpa using hy
  obtain ⟨cs, hl, hk, hcell2⟩ := hc 0 l[0] (List.getElem?_eq_getElem hp)
  have := World.block_lt_of_cell? w _ (hcell2 0 _ (List.getElem?_eq_getElem (by omega)))
  have hb : (ad.add (0 * d.sz + 0)).block = ad.block := by unfold Addr.add; split <;> rfl
  rwa [hb] at this
 ·
  obtain rfl : l = [] := List.length_eq_zero_iff.1 (by omega)
  exact ⟨[], VX.nil w A⟩
def byteK : Kd UInt8 := Kd.iso (Kd.int .u8) fun b => (b.toNat : Int)
theorem bytes {w : World} {A : Option Addr} {l : List UInt8} (h : Kd.C byteK w A l.length l) : ∃ F, VX cB 1 w F A l :=
 of_C (cE := cB) (by decide) (fun x cs hk => hk) h
end Go.Proofs.YtdhonbahpcmmnaaGreatDoor.Views
end
section
set_option linter.unusedVariables false
set_option linter.unusedSimpArgs false
namespace Go.Proofs.YtdhonbahpcmmnaaGreatDoor.Line
open Go Go.RowKit Go.ChangeShapes Go.WideShapes Go.Proofs.YtdhonbahpcmmnaaGreatDoor Go.Proofs.YtdhonbahpcmmnaaGreatDoor.Eng Go.Proofs.YtdhonbahpcmmnaaGreatDoorW.PrintWords Go.Proofs.YtdhonbahpcmmnaaGreatDoorW.PrintLast
end Go.Proofs.YtdhonbahpcmmnaaGreatDoor.Line
end
section
set_option linter.unusedVariables false
namespace Go.Proofs.YtdhonbahpcmmnaaGreatDoor.Line
open Go Go.RowKit Go.ChangeShapes Go.WideShapes Go.Proofs.YtdhonbahpcmmnaaGreatDoor Go.Proofs.YtdhonbahpcmmnaaGreatDoor.Eng Go.Proofs.YtdhonbahpcmmnaaGreatDoorW.PrintWords Go.Proofs.YtdhonbahpcmmnaaGreatDoorW.PrintLast
def MaxO (w : World) : Prop := ∃ m, w.cell? ⟨0, 0, none⟩ = some (.int .i64 m) ∧ ∃ cs t fz, w.heap[0]? = some (.cells cs t fz) ∧ cs.size = 1
abbrev SFacts (w : World) : Prop := VarI w "strconv.ErrSyntax" ∧ VarI w "strconv.ErrRange" ∧ Lib.TabIs Tryz.prog w "internal/strconv.uint64pow10" .u64 Lib.pow10Tab ∧ MaxO w
end Go.Proofs.YtdhonbahpcmmnaaGreatDoor.Line
end
section
set_option linter.unusedVariables false
set_option linter.unusedSimpArgs false
namespace Go.Proofs.YtdhonbahpcmmnaaGreatDoor.Bat
open Go Go.RowKit Go.ChangeShapes Go.WideShapes Go.Proofs.YtdhonbahpcmmnaaGreatDoor Go.Proofs.YtdhonbahpcmmnaaGreatDoor.Eng Go.Proofs.YtdhonbahpcmmnaaGreatDoor.Line Go.Proofs.YtdhonbahpcmmnaaGreatDoorW.PrintWords Go.Proofs.YtdhonbahpcmmnaaGreatDoorW.PrintLast
abbrev DeA : Type := Bool × Int × ByteArray × Int × Int × Int
abbrev DeP : Kd DeA := Kd.pair Kd.bool (Kd.pair (Kd.int .i64) (Kd.pair Kd.string (Kd.pair (Kd.int .i64) (Kd.pair (Kd.int .i64) (Kd.int .i64)))))
abbrev DeK : Kd DeA := Kd.iso DeP id
def goodDe (a : DeA) : Prop := True ∧ (Lit.int .i64 a.2.1).wf = true ∧ a.2.2.1.size ≤ 9223372036854775807 ∧ (Lit.int .i64 a.2.2.2.1).wf = true ∧ (Lit.int .i64 a.2.2.2.2.1).wf = true ∧ (Lit.int .i64 a.2.2.2.2.2).wf = true
set_option maxRecDepth 100000 in
theorem opens_deed : Opens.Opens Tryz.prog DeK goodDe 49 := Opens.opens_struct (P := Tryz.prog) (β := DeA) (d := DeP) (t := 49) id id (fun _ => rfl) Tryz.underlying49 (by kernel_rfl)
 (Opens.opensF_cons rfl (by kernel_rfl) (Opens.opens_bool Tryz.underlying4) (Opens.opensF_cons rfl (by kernel_rfl) (Opens.opens_int Tryz.underlying2) (Opens.opensF_cons rfl (by kernel_rfl) (Opens.opens_string Tryz.underlying9) (Opens.opensF_cons rfl (by kernel_rfl) (Opens.opens_int Tryz.underlying3) (Opens.opensF_cons rfl (by kernel_rfl) (Opens.opens_int Tryz.underlying2) (Opens.opensF_one rfl (by kernel_rfl) (Opens.opens_int Tryz.underlying2)))))))
def toDe (a : DeA) : De := ⟨a.1, a.2.1, bs a.2.2.1, a.2.2.2.1, a.2.2.2.2.1, a.2.2.2.2.2⟩
theorem deeds_view {w : World} {A : Option Addr} {l : List DeA} (hC : Kd.C DeK w A l.length l) : ∃ F, VX cD 6 w F A (l.map toDe) := by
 obtain ⟨F, h1, h2⟩ := Views.of_C (cE := fun a => cD (toDe a)) (by decide) (fun x cs hk => by
  obtain ⟨c1, r1, rfl, h1, c2, r2, rfl, h2, c3, r3, rfl, h3, c4, r4, rfl, h4, c5, c6, rfl, h5, h6⟩ := hk
  obtain rfl : c1 = [.bool x.1] := h1
  obtain rfl : c2 = [.int .i64 x.2.1] := h2
  obtain rfl : c3 = [.string x.2.2.1] := h3
  obtain rfl : c4 = [.int .i64 x.2.2.2.1] := h4
  obtain rfl : c5 = [.int .i64 x.2.2.2.2.1] := h5
  obtain rfl : c6 = [.int .i64 x.2.2.2.2.2] := h6
  show _ = [_, _, Value.string (str (bs x.2.2.1)), _, _, _]
  rw [str_bs]
  rfl) hC
 refine ⟨F, h1, fun hp => ?_⟩
 rw [List.length_map] at hp
 obtain ⟨ad, e1, e2, e3⟩ := h2 hp
 refine ⟨ad, e1, e2, fun i x hx j u hu => ?_⟩
 rw [List.getElem?_map] at hx
 obtain ⟨a, ha, rfl⟩ := Option.map_eq_some_iff.1 hx
 exact e3 i a ha j u hu
theorem de_key {l : List DeA} (hg : ∀ x ∈ l, goodDe x) : ∀ d ∈ l.map toDe, d.key.length ≤ 9223372036854775807 := by
 intro d hd
 obtain ⟨a, ha, rfl⟩ := List.mem_map.1 hd
 have h1 := (hg a ha).2.2.1
 show (bs a.2.2.1).length ≤ _
 have h2 : (bs a.2.2.1).length = a.2.2.1.size := by rw [← str_size, str_bs]
 omega
theorem de_val {l : List DeA} (hg : ∀ x ∈ l, goodDe x) : ∀ d ∈ l.map toDe, I64 d.value := by
 intro d hd
 obtain ⟨a, ha, rfl⟩ := List.mem_map.1 hd
 exact bounds_i64 (hg a ha).2.2.2.2.1
theorem whole_row (width : Int) (A : Option Addr) (c : Nat) (l : List DeA) (w : World) (hl : l.length ≤ 9223372036854775807) (hg : ∀ x ∈ l, goodDe x) (hC : Kd.C DeK w A l.length l) (h : SFacts w) :
  Calls Tryz.prog 6 #[.int .i64 width, .slice A l.length c] w fun e w' => e = .returned (.bool true) ∧ Below w.heap.size w w' := by
 obtain ⟨HS, HR, HT, m, hm, _⟩ := h
 obtain ⟨F, HV⟩ := deeds_view hC
 have hn : (l.map toDe).length = l.length := List.length_map _
 rw [← hn]
 have hl' : (l.map toDe).length ≤ 9223372036854775807 := by rw [hn]; exact hl
 by_cases hgd : 1 ≤ width ∧ width ≤ 1099511627776
 ·
  cases hf : fewP (l.map toDe) with
  | true => exact (wh_run (l.map toDe) A c F width w HV hl' (de_key hg) hgd hf (de_val hg) HS HR HT ⟨m, hm⟩).mono fun e w' ⟨h1, h2⟩ => ⟨h1, h2.below0⟩
  | false => exact (wh_big (l.map toDe) A c F width w HV hl' (de_key hg) hgd hf HS HR HT ⟨m, hm⟩).mono fun e w' ⟨h1, h2⟩ => ⟨h1, h2.below0⟩
 ·
  exact (wh_bad (l.map toDe) A c F width w HV hl' (de_key hg) hgd HS HR HT ⟨m, hm⟩).mono fun e w' ⟨h1, h2⟩ => ⟨h1, h2.below0⟩
end Go.Proofs.YtdhonbahpcmmnaaGreatDoor.Bat
end
section
namespace Go.Proofs.YtdhonbahpcmmnaaGreatDoorW.PrintWords
open Go.ChangeShapes Go.WideShapes
end Go.Proofs.YtdhonbahpcmmnaaGreatDoorW.PrintWords
end
section
set_option linter.unusedVariables false
namespace Go.Proofs.YtdhonbahpcmmnaaGreatDoor.Row
open Go.ChangeShapes Go.WideShapes Go.RowKit Go.Proofs.YtdhonbahpcmmnaaGreatDoorW.PrintWords Go.Proofs.YtdhonbahpcmmnaaGreatDoorW.PrintLast
end Go.Proofs.YtdhonbahpcmmnaaGreatDoor.Row
end
