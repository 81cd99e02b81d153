/- Layer 7's walks: a row, May, Few, Same. -/
import Derived.Test.YtdhonbahpcmmnaaGreatDoorBatPure
import Derived.Test.YtdhonbahpcmmnaaGreatDoorWireT
import Derived.Test.YtdhonbahpcmmnaaGreatDoorEngC
section
set_option linter.unusedVariables false
set_option linter.unusedSimpArgs false
namespace Go.Proofs.YtdhonbahpcmmnaaGreatDoor.Bat
open Go Go.RowKit Go.Proofs.YtdhonbahpcmmnaaGreatDoor Go.Proofs.YtdhonbahpcmmnaaGreatDoor.Eng Go.Proofs.YtdhonbahpcmmnaaGreatDoorW.PrintWords
open Go.Proofs
open Go.Proofs.YtdhonbahpcmmnaaGreatDoor.Line
open Go.Proofs.YtdhonbahpcmmnaaGreatDoor.Wire (enc zig unzig encT St rNum rWhole rText rEnd)
abbrev RX := Rw × (Option Addr × Nat)
def cN (n : Nat) : List Value := [.int .u64 (n : Int)]
def gN (q : List Nat) (i : Nat) : Nat := q.getD i 0
theorem gN_some (q : List Nat) (i : Nat) (h : i < q.length) : q[i]? = some (gN q i) := by
  unfold gN
  rw [List.getD_eq_getElem?_getD, List.getElem?_eq_getElem h]
  rfl
theorem cN_len (l : List Nat) : ∀ x ∈ l.map cN, x.length = 1 := by
  intro x hx
  obtain ⟨y, _, rfl⟩ := List.mem_map.1 hx
  rfl
theorem cN_one (l : List Nat) : ∀ x ∈ l.map cN, x.all oneB = true := by
  intro x hx
  obtain ⟨y, _, rfl⟩ := List.mem_map.1 hx
  rfl
theorem map_gN (q : List Nat) (k : Nat) (h : k < q.length) : (q.map cN).getD k [] = cN (gN q k) := by
  rw [List.getD_eq_getElem?_getD, List.getElem?_map, gN_some q k h]
  rfl
def cW (x : RX) : List Value := [.string (str x.1.key), .int .i64 x.1.kind, .int .u64 (x.1.many : Int), .int .i64 x.1.sum, .int .i64 x.1.least, .int .i64 x.1.most, .bool x.1.over, .slice x.2.1 x.1.bk.length x.2.2]
def gX (q : List RX) (i : Nat) : RX := q.getD i (rw0, none, 0)
theorem gX_some (q : List RX) (i : Nat) (h : i < q.length) : q[i]? = some (gX q i) := by
  unfold gX
  rw [List.getD_eq_getElem?_getD, List.getElem?_eq_getElem h]
  rfl
theorem gX_mem {q : List RX} {i : Nat} (h : i < q.length) : gX q i ∈ q := List.mem_of_getElem? (gX_some q i h)
theorem cW_len (l : List RX) : ∀ x ∈ l.map cW, x.length = 8 := by
  intro x hx
  obtain ⟨y, _, rfl⟩ := List.mem_map.1 hx
  rfl
theorem cW_one (l : List RX) : ∀ x ∈ l.map cW, x.all oneB = true := by
  intro x hx
  obtain ⟨y, _, rfl⟩ := List.mem_map.1 hx
  rfl
def rws (xs : List RX) : List Rw := xs.map Prod.fst
theorem rws_len (xs : List RX) : (rws xs).length = xs.length := List.length_map _
theorem gW_rws (xs : List RX) (i : Nat) : gW (rws xs) i = (gX xs i).1 := by
  unfold gW rws gX
  rw [List.getD_eq_getElem?_getD, List.getElem?_map, List.getD_eq_getElem?_getD]
  cases xs[i]? <;> rfl
def EV (w : World) (FE : List Nat) (xs : List RX) : Prop := (∀ y ∈ FE, y < w.heap.size) ∧ ∀ x ∈ xs, x.1.bk.length ≤ x.2.2 ∧ ∃ F, (∀ y ∈ F, y ∈ FE) ∧ VX cN 1 w F x.2.1 x.1.bk
theorem EV.keep {w w1 : World} {FE S : List Nat} {xs : List RX} (h : EV w FE xs) (k : Fr S w w1) (hn : ∀ y ∈ FE, y ∉ S) : EV w1 FE xs :=
  ⟨fun y hy => Nat.lt_of_lt_of_le (h.1 y hy) k.size, fun x hx => by
    obtain ⟨h1, F, h2, h3⟩ := h.2 x hx
    exact ⟨h1, F, h2, h3.keep k fun y hy => hn y (h2 y hy)⟩⟩
theorem EV.lt {w : World} {FE : List Nat} {xs : List RX} (h : EV w FE xs) : ∀ y ∈ FE, y < w.heap.size := h.1
theorem EV.at {w : World} {FE : List Nat} {xs : List RX} {i : Nat} (h : EV w FE xs) (hi : i < xs.length) : (gX xs i).1.bk.length ≤ (gX xs i).2.2 ∧ ∃ F, (∀ y ∈ F, y ∈ FE) ∧ VX cN 1 w F (gX xs i).2.1 (gX xs i).1.bk := h.2 _ (gX_mem hi)
theorem rowOk_none {r : Rw} (h : ofE r.key = none) : rowOk r = false := by
  unfold rowOk
  rw [h]
  rfl
theorem rowOk_dec {r : Rw} (h : (ofE r.key).isSome = true) : rowOk r = decide (1 ≤ r.kind ∧ r.kind ≤ 3 ∧ 1 ≤ r.many ∧ r.least ≤ r.most ∧ r.bk.length ≤ 65 ∧ (r.kind = 3 ∧ 0 < r.bk.length ∧ gN r.bk (r.bk.length - 1) ≠ 0 ∨ r.kind ≠ 3 ∧ r.bk.length = 0)) := by
  rw [Bool.eq_iff_iff, rowOk_iff]
  simp only [h, decide_eq_true_eq, true_and]
  have e : bkOk r = true ↔ (r.kind = 3 ∧ 0 < r.bk.length ∧ gN r.bk (r.bk.length - 1) ≠ 0 ∨ r.kind ≠ 3 ∧ r.bk.length = 0) := by
    unfold bkOk gN
    by_cases h3 : r.kind = 3
    · rw [if_pos h3]
      simp only [Bool.and_eq_true, decide_eq_true_eq]
      omega
    · rw [if_neg h3]
      simp only [decide_eq_true_eq]
      omega
  rw [e]
theorem okX_t {xs : List RX} {i : Nat} (h : rowOk (gX xs i).1 = true) (h2 : i = 0 ∨ (ltS (gX xs i).1.key (gX xs (i - 1)).1.key = false ∧ ¬ ((gX xs (i - 1)).1.key = (gX xs i).1.key ∧ (gX xs i).1.kind ≤ (gX xs (i - 1)).1.kind))) : okAt (rws xs) i = true := by
  unfold okAt
  rw [gW_rws, gW_rws, h, Bool.true_and]
  rcases h2 with rfl | ⟨h3, h4⟩
  · rfl
  · unfold ordR
    rw [h3]
    simp only [Bool.not_false, Bool.true_and, Bool.or_eq_true, decide_eq_true_eq, Bool.not_eq_true', Bool.and_eq_false_iff, decide_eq_false_iff_not]
    right
    by_cases h5 : (gX xs (i - 1)).1.key = (gX xs i).1.key
    · exact .inr fun h6 => h4 ⟨h5, h6⟩
    · exact .inl h5
theorem okX_f1 {xs : List RX} {i : Nat} (h : rowOk (gX xs i).1 = false) : okAt (rws xs) i = false := by
  unfold okAt
  rw [gW_rws, h, Bool.false_and]
theorem okX_f2 {xs : List RX} {i : Nat} (h0 : 0 < i) (h : ltS (gX xs i).1.key (gX xs (i - 1)).1.key = true ∨ ((gX xs (i - 1)).1.key = (gX xs i).1.key ∧ (gX xs i).1.kind ≤ (gX xs (i - 1)).1.kind)) : okAt (rws xs) i = false := by
  unfold okAt
  rw [gW_rws, gW_rws, decide_eq_false (by omega), Bool.false_or]
  have : ordR (gX xs (i - 1)).1 (gX xs i).1 = false := by
    unfold ordR
    rcases h with h | ⟨h1, h2⟩
    · rw [h]; rfl
    · rw [decide_eq_true h1, decide_eq_true h2]; simp
  rw [this, Bool.and_false]
theorem mayB_f1 {b : Bt} (h : ¬ (0 ≤ b.seq ∧ b.seq ≤ 2147483647 ∧ 0 ≤ b.start ∧ b.start ≤ 1099511627776 ∧ b.rows.length ≤ 200)) : mayB b = false := by
  rw [Bool.eq_false_iff]
  intro h2
  obtain ⟨h3, h4, h5, h6, h7, _⟩ := mayB_iff.1 h2
  exact h ⟨h3, h4, h5, h6, h7⟩
theorem mayB_f2 {b : Bt} {i : Nat} (hi : i < b.rows.length) (h : okAt b.rows i = false) : mayB b = false := by
  rw [Bool.eq_false_iff]
  intro h2
  rw [(mayB_iff.1 h2).2.2.2.2.2 i hi] at h
  cases h
theorem mayX_f1 {seq start : Int} {xs : List RX} {n : Nat} (hn : xs.length = n) (h : ¬ (0 ≤ seq ∧ seq ≤ 2147483647 ∧ 0 ≤ start ∧ start ≤ 1099511627776 ∧ n ≤ 200)) : mayB ⟨seq, start, rws xs⟩ = false :=
  mayB_f1 fun h2 => by
    dsimp only at h2
    rw [rws_len, hn] at h2
    exact h h2
theorem mayX_f2 {seq start : Int} {xs : List RX} {n i : Nat} (hn : xs.length = n) (hi : i < n) (h : okAt (rws xs) i = false) : mayB ⟨seq, start, rws xs⟩ = false :=
  mayB_f2 (i := i) (show i < (rws xs).length by rw [rws_len, hn]; exact hi) h
theorem mayX_t {seq start : Int} {xs : List RX} {n : Nat} (hn : xs.length = n) (h : 0 ≤ seq ∧ seq ≤ 2147483647 ∧ 0 ≤ start ∧ start ≤ 1099511627776 ∧ n ≤ 200) (h2 : ∀ i, i < n → okAt (rws xs) i = true) : mayB ⟨seq, start, rws xs⟩ = true := by
  rw [mayB_iff]
  dsimp only
  rw [rws_len, hn]
  exact ⟨h.1, h.2.1, h.2.2.1, h.2.2.2.1, h.2.2.2.2, h2⟩
set_option maxRecDepth 100000 in
set_option maxHeartbeats 400000 in
theorem row_l (r : Rw) (A : Option Addr) (cp : Nat) (F : List Nat) (w : World) (HV : VX cN 1 w F A r.bk) (hbl : r.bk.length ≤ 9223372036854775807) (hkl : r.key.length ≤ 100000) (HS : VarI w "strconv.ErrSyntax") (HR : VarI w "strconv.ErrRange") (HTab : Lib.TabIs Tryz.prog w "internal/strconv.uint64pow10" .u64 Lib.pow10Tab) (HM : MaxI w) :
    Calls Tryz.prog 37 #[.agg #[.string (str r.key), .int .i64 r.kind, .int .u64 (r.many : Int), .int .i64 r.sum, .int .i64 r.least, .int .i64 r.most, .bool r.over, .slice A r.bk.length cp]] w fun e w' => e = .returned (.bool (rowOk r)) ∧ Fr [] w w' := by
 have HA := Fr.refl [] w
 refine Ze Tryz.func37 _ <| Zsg <| Zb 1 #[.string (str r.key), J r.kind, .int .u64 (r.many : Int), J r.sum, J r.least, J r.most, .bool r.over, .slice A r.bk.length cp] 54 (fun g => Pt g 0) ?_
 intro g1 w2 HB4 F3 le5 _
 refine Zr 1 <| Zdn <| Zq <| Zsg <| Zr 1 <| Zl 8 (.string (str r.key)) (HB4.s 0) ?_
 cases hof_ : ofE r.key
 ·
  refine Zc 9 (of_f r.key _ hkl (HS.k F3) (HR.k F3) (HTab.k F3) (HM.k F3)) ?_
  intro e_ w6 hr_
  rw [hof_] at hr_
  obtain ⟨rfl, F7⟩ := hr_
  refine ⟨_, rfl, trivial, Zr 3 <| Zb 3 #[.string (⟨#[]⟩), .slice none 0 0, J 0, J 0, J 0] 91 (fun g => Pt g 0) ?_⟩
  intro g8 w9 HB11 F10 le12 _
  have HA := (HA.step0 F3).step0 F7
  have ge_HA_g8 := Nat.le_trans HA.size le12
  refine Zst g8 0 #[.string (⟨#[]⟩), .slice none 0 0, J 0, J 0, J 0] HB11 ?_
  intro w13 HB15 F14 _
  refine Zr 1 <| Zdn <| Zsg <| Zr 2 <| Zdn <| ZT <| Zsg <| Zr 1 <| Zdn <| WE.ret <| WQ.thenR <| ZR (.bool false) ?_
  exact ⟨by rw [rowOk_none hof_], ((HA.step0 F10).step F14 (inSR ge_HA_g8 inS0))⟩
 ·
  rename_i x_
  refine Zc 9 (of_f r.key _ hkl (HS.k F3) (HR.k F3) (HTab.k F3) (HM.k F3)) ?_
  intro e_ w16 hr_
  rw [hof_] at hr_
  obtain ⟨A_, n_, c_, F_, rfl, _, _, _, _, F17⟩ := hr_
  refine ⟨_, rfl, trivial, ?_⟩
  have his_ : (ofE r.key).isSome = true := by rw [hof_]; rfl
  refine Zr 3 <| Zb 3 #[.string (⟨#[]⟩), .slice none 0 0, J 0, J 0, J 0] 91 (fun g => Pt g 0) ?_
  intro g18 w19 HB21 F20 le22 _
  have HB4 := HB4.k F17
  have ne_g1_g18 := ltn HB4.lt le22
  have HV := (HV.keep F3 dj0).keep F17 dj0
  have nin_g18_F := new_nin HV.lt le22
  have HA := (HA.step0 F3).step0 F17
  have ge_HA_g18 := Nat.le_trans HA.size le22
  refine Zst g18 0 #[.string (str x_.1), .slice A_ n_ c_, J 0, J 0, J 0] HB21 ?_
  intro w23 HB25 F24 _
  have HB4 := (HB4.k F20).j F24 ne_g1_g18
  have HV := (HV.keep F20 dj0).keep F24 (djB nin_g18_F)
  have HA := (HA.step0 F20).step F24 (inSR ge_HA_g18 inS0)
  refine Zr 1 <| Zdn <| Zsg <| Zr 2 <| Zdn <| ZF <| Zk <| Zsg <| Zr 1 <| Zl 15 (.slice A r.bk.length cp) (HB4.s 7) <| Zr 2 <| Zdn <| Zq <| Zsg <| Zr 1 <| ZoP 18 (((r.bk.length : Int) : Int) > (0 : Int)) ?_ ?_
  ·
   intro h26
   refine Zr 1 <| Zl 20 (J r.kind) (HB4.s 1) <| ZoP 21 ((r.kind : Int) = 3) ?_ ?_
   ·
    intro h27
    refine Zr 3 <| ZoP 25 (((r.bk.length : Int) : Int) > (65 : Int)) ?_ ?_
    ·
     intro h28
     refine Zr 14 <| Zdn <| ZT <| Zsg <| Zr 1 <| Zdn <| WE.ret <| WQ.thenR <| ZR (.bool false) ?_
     exact ⟨by rw [rowOk_dec his_, decide_eq_false (by omega)], HA⟩
    intro h28
    refine Zr 3 <| ZoP 29 (((r.bk.length : Int) : Int) > (0 : Int)) ?_ ?_
    ·
     intro h29
     refine Zr 2 <| Zl 32 (.slice A r.bk.length cp) (HB4.s 7) <| Zr 1 <| Zw 34 ((r.bk.length : Int) - 1) ((r.bk.length - 1 : Nat) : Int) ?_
     obtain ⟨ad30, hA31⟩ := HV.addr (i := r.bk.length - 1) (by have := (rfl : List.length r.bk = _); omega)
     refine Zio 35 r.bk.length 1 (r.bk.length - 1) ((r.bk.length - 1 : Nat) : Int) hA31 <| Zl 36 (.int .u64 ((gN r.bk (r.bk.length - 1)) : Int)) (same (HV.at0 hA31 (gN_some r.bk (r.bk.length - 1) (by have := (rfl : List.length r.bk = _); omega)) (by kernel_rfl))) <| ZoP 37 (((((gN r.bk (r.bk.length - 1)) : Nat) : Int) : Int) = (0 : Int)) ?_ ?_
     ·
      intro h32
      refine Zr 2 <| Zdn <| ZT <| Zsg <| Zr 1 <| Zdn <| WE.ret <| WQ.thenR <| ZR (.bool false) ?_
      exact ⟨by rw [rowOk_dec his_, decide_eq_false (by omega)], HA⟩
     intro h32
     refine Zr 2 <| Zdn <| ZF <| Zk <| Zsg <| Zr 1 <| Zl 41 (J r.kind) (HB4.s 1) <| ZoP 42 ((r.kind : Int) ≥ 1) ?_ ?_
     ·
      intro h33
      refine Zr 2 <| Zl 45 (J r.kind) (HB4.s 1) <| ZoP 46 ((r.kind : Int) ≤ 3) ?_ ?_
      ·
       intro h34
       refine Zr 3 <| Zl 50 (.int .u64 (r.many : Int)) (HB4.s 2) <| ZoP 51 (((r.many : Int) : Int) ≥ (1 : Int)) ?_ ?_
       ·
        intro h35
        refine Zr 3 <| Zl 55 (J r.least) (HB4.s 4) <| Zr 1 <| Zl 57 (J r.most) (HB4.s 5) <| Zr 3 <| Zdn <| WE.ret <| ZR (.bool (decide ((r.least : Int) ≤ r.most))) ?_
        exact ⟨by rw [rowOk_dec his_]; exact congrArg (fun b => Ending.returned (Value.bool b)) (by rw [Bool.eq_iff_iff]; simp only [Bool.not_eq_true', decide_eq_false_iff_not, decide_eq_true_eq]; omega), HA⟩
       intro h35
       refine Zr 9 <| Zdn <| WE.ret <| ZR (.bool false) ?_
       exact ⟨by rw [rowOk_dec his_, decide_eq_false (by omega)], HA⟩
      intro h34
      refine Zr 14 <| Zdn <| WE.ret <| ZR (.bool false) ?_
      exact ⟨by rw [rowOk_dec his_, decide_eq_false (by omega)], HA⟩
     intro h33
     refine Zr 18 <| Zdn <| WE.ret <| ZR (.bool false) ?_
     exact ⟨by rw [rowOk_dec his_, decide_eq_false (by omega)], HA⟩
    intro h29
    refine Zr 10 <| Zdn <| ZF <| Zk <| Zsg <| Zr 1 <| Zl 41 (J r.kind) (HB4.s 1) <| ZoP 42 ((r.kind : Int) ≥ 1) ?_ ?_
    ·
     intro h36
     refine Zr 2 <| Zl 45 (J r.kind) (HB4.s 1) <| ZoP 46 ((r.kind : Int) ≤ 3) ?_ ?_
     ·
      intro h37
      refine Zr 3 <| Zl 50 (.int .u64 (r.many : Int)) (HB4.s 2) <| ZoP 51 (((r.many : Int) : Int) ≥ (1 : Int)) ?_ ?_
      ·
       intro h38
       refine Zr 3 <| Zl 55 (J r.least) (HB4.s 4) <| Zr 1 <| Zl 57 (J r.most) (HB4.s 5) <| Zr 3 <| Zdn <| WE.ret <| ZR (.bool (decide ((r.least : Int) ≤ r.most))) ?_
       exact ⟨by rw [rowOk_dec his_]; exact congrArg (fun b => Ending.returned (Value.bool b)) (by rw [Bool.eq_iff_iff]; simp only [Bool.not_eq_true', decide_eq_false_iff_not, decide_eq_true_eq]; omega), HA⟩
      intro h38
      refine Zr 9 <| Zdn <| WE.ret <| ZR (.bool false) ?_
      exact ⟨by rw [rowOk_dec his_, decide_eq_false (by omega)], HA⟩
     intro h37
     refine Zr 14 <| Zdn <| WE.ret <| ZR (.bool false) ?_
     exact ⟨by rw [rowOk_dec his_, decide_eq_false (by omega)], HA⟩
    intro h36
    refine Zr 18 <| Zdn <| WE.ret <| ZR (.bool false) ?_
    exact ⟨by rw [rowOk_dec his_, decide_eq_false (by omega)], HA⟩
   intro h27
   refine Zr 18 <| Zdn <| ZT <| Zsg <| Zr 1 <| Zdn <| WE.ret <| WQ.thenR <| ZR (.bool false) ?_
   exact ⟨by rw [rowOk_dec his_, decide_eq_false (by omega)], HA⟩
  intro h26
  refine Zr 1 <| Zl 20 (J r.kind) (HB4.s 1) <| ZoP 21 ((r.kind : Int) = 3) ?_ ?_
  ·
   intro h39
   refine Zr 18 <| Zdn <| ZT <| Zsg <| Zr 1 <| Zdn <| WE.ret <| WQ.thenR <| ZR (.bool false) ?_
   exact ⟨by rw [rowOk_dec his_, decide_eq_false (by omega)], HA⟩
  intro h39
  refine Zr 3 <| ZoP 25 (((r.bk.length : Int) : Int) > (65 : Int)) ?_ ?_
  ·
   intro h40
   refine Zr 14 <| Zdn <| ZT <| Zsg <| Zr 1 <| Zdn <| WE.ret <| WQ.thenR <| ZR (.bool false) ?_
   exact ⟨by rw [rowOk_dec his_, decide_eq_false (by omega)], HA⟩
  intro h40
  refine Zr 3 <| ZoP 29 (((r.bk.length : Int) : Int) > (0 : Int)) ?_ ?_
  ·
   intro h41
   refine Zr 2 <| Zl 32 (.slice A r.bk.length cp) (HB4.s 7) <| Zr 1 <| Zw 34 ((r.bk.length : Int) - 1) ((r.bk.length - 1 : Nat) : Int) ?_
   obtain ⟨ad42, hA43⟩ := HV.addr (i := r.bk.length - 1) (by have := (rfl : List.length r.bk = _); omega)
   refine Zio 35 r.bk.length 1 (r.bk.length - 1) ((r.bk.length - 1 : Nat) : Int) hA43 <| Zl 36 (.int .u64 ((gN r.bk (r.bk.length - 1)) : Int)) (same (HV.at0 hA43 (gN_some r.bk (r.bk.length - 1) (by have := (rfl : List.length r.bk = _); omega)) (by kernel_rfl))) <| ZoP 37 (((((gN r.bk (r.bk.length - 1)) : Nat) : Int) : Int) = (0 : Int)) ?_ ?_
   ·
    intro h44
    refine Zr 2 <| Zdn <| ZT <| Zsg <| Zr 1 <| Zdn <| WE.ret <| WQ.thenR <| ZR (.bool false) ?_
    exact ⟨by rw [rowOk_dec his_, decide_eq_false (by omega)], HA⟩
   intro h44
   refine Zr 2 <| Zdn <| ZF <| Zk <| Zsg <| Zr 1 <| Zl 41 (J r.kind) (HB4.s 1) <| ZoP 42 ((r.kind : Int) ≥ 1) ?_ ?_
   ·
    intro h45
    refine Zr 2 <| Zl 45 (J r.kind) (HB4.s 1) <| ZoP 46 ((r.kind : Int) ≤ 3) ?_ ?_
    ·
     intro h46
     refine Zr 3 <| Zl 50 (.int .u64 (r.many : Int)) (HB4.s 2) <| ZoP 51 (((r.many : Int) : Int) ≥ (1 : Int)) ?_ ?_
     ·
      intro h47
      refine Zr 3 <| Zl 55 (J r.least) (HB4.s 4) <| Zr 1 <| Zl 57 (J r.most) (HB4.s 5) <| Zr 3 <| Zdn <| WE.ret <| ZR (.bool (decide ((r.least : Int) ≤ r.most))) ?_
      exact ⟨by rw [rowOk_dec his_]; exact congrArg (fun b => Ending.returned (Value.bool b)) (by rw [Bool.eq_iff_iff]; simp only [Bool.not_eq_true', decide_eq_false_iff_not, decide_eq_true_eq]; omega), HA⟩
     intro h47
     refine Zr 9 <| Zdn <| WE.ret <| ZR (.bool false) ?_
     exact ⟨by rw [rowOk_dec his_, decide_eq_false (by omega)], HA⟩
    intro h46
    refine Zr 14 <| Zdn <| WE.ret <| ZR (.bool false) ?_
    exact ⟨by rw [rowOk_dec his_, decide_eq_false (by omega)], HA⟩
   intro h45
   refine Zr 18 <| Zdn <| WE.ret <| ZR (.bool false) ?_
   exact ⟨by rw [rowOk_dec his_, decide_eq_false (by omega)], HA⟩
  intro h41
  refine Zr 10 <| Zdn <| ZF <| Zk <| Zsg <| Zr 1 <| Zl 41 (J r.kind) (HB4.s 1) <| ZoP 42 ((r.kind : Int) ≥ 1) ?_ ?_
  ·
   intro h48
   refine Zr 2 <| Zl 45 (J r.kind) (HB4.s 1) <| ZoP 46 ((r.kind : Int) ≤ 3) ?_ ?_
   ·
    intro h49
    refine Zr 3 <| Zl 50 (.int .u64 (r.many : Int)) (HB4.s 2) <| ZoP 51 (((r.many : Int) : Int) ≥ (1 : Int)) ?_ ?_
    ·
     intro h50
     refine Zr 3 <| Zl 55 (J r.least) (HB4.s 4) <| Zr 1 <| Zl 57 (J r.most) (HB4.s 5) <| Zr 3 <| Zdn <| WE.ret <| ZR (.bool (decide ((r.least : Int) ≤ r.most))) ?_
     exact ⟨by rw [rowOk_dec his_]; exact congrArg (fun b => Ending.returned (Value.bool b)) (by rw [Bool.eq_iff_iff]; simp only [Bool.not_eq_true', decide_eq_false_iff_not, decide_eq_true_eq]; omega), HA⟩
    intro h50
    refine Zr 9 <| Zdn <| WE.ret <| ZR (.bool false) ?_
    exact ⟨by rw [rowOk_dec his_, decide_eq_false (by omega)], HA⟩
   intro h49
   refine Zr 14 <| Zdn <| WE.ret <| ZR (.bool false) ?_
   exact ⟨by rw [rowOk_dec his_, decide_eq_false (by omega)], HA⟩
  intro h48
  refine Zr 18 <| Zdn <| WE.ret <| ZR (.bool false) ?_
  exact ⟨by rw [rowOk_dec his_, decide_eq_false (by omega)], HA⟩
set_option maxRecDepth 100000 in
set_option maxHeartbeats 400000 in
theorem mof_f (k : L) (w : World) (hk : k.length ≤ 100000) :
    Calls Tryz.prog 61 #[.string (str k)] w fun e w' => ∃ a A n cp, e = .returned (.tuple #[.agg #[.string a, .slice A n cp, .int .i64 0, .int .i64 0, .int .i64 0], .bool (ofE k).isSome]) ∧ Fr [] w w' := by
 have HA := Fr.refl [] w
 refine Ze Tryz.func61 _ <| Zsg <| Zb 2 #[.string (⟨#[]⟩), .slice none 0 0, J 0, J 0, J 0] 91 (fun g => Pt g 0) ?_
 intro g1 w2 HB4 F3 le5 _
 have ge_HA_g1 := Nat.le_trans HA.size le5
 refine Zr 1 <| Zdn <| Zq <| Zsg <| Zr 2 <| ZoP 10 (((k.length : Int) : Int) > (294 : Int)) ?_ ?_
 ·
  intro h6
  refine Zdn <| ZT <| Zsg <| Zr 1 <| Zst g1 0 #[.string (⟨#[]⟩), .slice none 0 0, J 0, J 0, J 0] HB4 ?_
  intro w7 HB9 F8 _
  refine Zr 1 <| Zdn <| WE.ret <| WQ.thenR <| WQ.ret2 (fn := Tryz.f61) (show Tryz.f61.results = #[.cell 2 91, .tmp 3] by kernel_rfl) (show resOk _ _ _ _ (.agg #[.string (⟨#[]⟩), .slice none 0 0, J 0, J 0, J 0]) from ⟨by kernel_rfl, ⟨g1, 0, none⟩, by kernel_rfl, ldVarB [.string (⟨#[]⟩), .slice none 0 0, J 0, J 0, J 0] (by kernel_rfl) (by kernel_rfl) (by kernel_rfl) HB9 (by kernel_rfl)⟩) (show resOk _ _ _ _ (.bool false) from ⟨by kernel_rfl, by kernel_rfl⟩) ?_
  rw [show ofE k = none from of_long (by omega)]
  exact ⟨_, _, _, _, rfl, ((HA.step0 F3).step F8 (inSR ge_HA_g1 inS0))⟩
 intro h6
 refine Zdn <| ZF <| Zk <| Zsg <| Zr 1 <| Zct 14 (str k) (str ([32, 99, 32, 48, 32, 48] : List UInt8)) (by simp only [str_size, List.length_cons, List.length_nil]; omega) <| WO.top (v' := .string (str (k ++ ([32, 99, 32, 48, 32, 48] : List UInt8)))) (congrArg Value.string (str_app _ _)) ?_
 have htl_ : (k ++ tailT).length = k.length + 6 := by rw [List.length_append]; rfl
 cases hps_ : parseP (k ++ tailT)
 rotate_left
 ·
  rename_i q
  refine Zc 15 (parse_r (k ++ tailT) _ (by omega)) ?_
  intro e_ w10 hr_
  rw [hps_] at hr_
  obtain ⟨rfl, F11⟩ := hr_
  refine ⟨_, rfl, trivial, Zr 3 <| Zb 4 #[.string (⟨#[]⟩), .slice none 0 0, J 0, J 0, J 0] 91 (fun g => Pt g 0) ?_⟩
  intro g12 w13 HB15 F14 le16 _
  have HB4 := HB4.k F11
  have ne_g1_g12 := ltn HB4.lt le16
  have HA := (HA.step0 F3).step0 F11
  have ge_HA_g12 := Nat.le_trans HA.size le16
  refine Zst g12 0 #[.string (⟨#[]⟩), .slice none 0 0, J 0, J 0, J 0] HB15 ?_
  intro w17 HB19 F18 _
  refine Zr 1 <| Zdn <| Zq <| Zsg <| Zr 1 <| ZoPT 19 (((q : Int) : Int) ≥ (0 : Int)) (by omega) <| Zdn <| ZT <| Zsg <| Zr 1 <| Zst g1 0 #[.string (⟨#[]⟩), .slice none 0 0, J 0, J 0, J 0] ((HB4.k F14).j F18 ne_g1_g12) ?_
  intro w20 HB22 F21 _
  refine Zr 1 <| Zdn <| WE.ret <| WQ.thenR <| WQ.ret2 (fn := Tryz.f61) (show Tryz.f61.results = #[.cell 2 91, .tmp 3] by kernel_rfl) (show resOk _ _ _ _ (.agg #[.string (⟨#[]⟩), .slice none 0 0, J 0, J 0, J 0]) from ⟨by kernel_rfl, ⟨g1, 0, none⟩, by kernel_rfl, ldVarB [.string (⟨#[]⟩), .slice none 0 0, J 0, J 0, J 0] (by kernel_rfl) (by kernel_rfl) (by kernel_rfl) HB22 (by kernel_rfl)⟩) (show resOk _ _ _ _ (.bool false) from ⟨by kernel_rfl, by kernel_rfl⟩) ?_
  rw [show ofE k = none from of_no (by omega) hps_]
  exact ⟨_, _, _, _, rfl, (((HA.step0 F14).step F18 (inSR ge_HA_g12 inS0)).step F21 (inSR ge_HA_g1 inS0))⟩
 ·
  rename_i y
  refine Zc 15 (parse_r (k ++ tailT) _ (by omega)) ?_
  intro e_ w23 hr_
  rw [hps_] at hr_
  obtain ⟨A2_, n2_, c2_, F2_, rfl, HT2_, hn2_, hc2_, hg2_, F24⟩ := hr_
  refine ⟨_, rfl, trivial, ?_⟩
  have hg2r_ := fun y hy => Or.inr (a := y ∈ ([] : List Nat)) (hg2_ y hy)
  refine Zr 3 <| Zb 4 #[.string (⟨#[]⟩), .slice none 0 0, J 0, J 0, J 0] 91 (fun g => Pt g 0) ?_
  intro g25 w26 HB28 F27 le29 _
  have HB4 := HB4.k F24
  have ne_g1_g25 := ltn HB4.lt le29
  have nin_g25_F2_ := new_nin HT2_.lt le29
  have HA := (HA.step0 F3).step0 F24
  have ge_HA_g25 := Nat.le_trans HA.size le29
  refine Zst g25 0 #[.string (str y.name), .slice A2_ n2_ c2_, J y.kind, J y.value, J y.time] HB28 ?_
  intro w30 HB32 F31 _
  refine Zr 1 <| Zdn <| Zq <| Zsg <| Zr 2 <| Zdn <| ZF <| Zk <| Zsg <| Zlb 22 [.string (str y.name), .slice A2_ n2_ c2_, J y.kind, J y.value, J y.time] g25 0 (same HB32) ?_
  obtain ⟨hmy, hpy, hvy1, hvy2⟩ := parse_bwd hps_
  obtain ⟨hy1, hy2, hy3, hy4, hy5, hy6⟩ := may_parts hmy
  have hwl_ := word_len hy2
  have HB4 := (HB4.k F27).j F31 ne_g1_g25
  have HT2_ := (HT2_.keep F27 dj0).keep F31 (djB nin_g25_F2_)
  have HA := (HA.step0 F27).step F31 (inSR ge_HA_g25 inS0)
  rcases key_cases y with ⟨k2_, hk_⟩ | hk_ | hk_
  ·
   refine Zc 23 (rkey_f y A2_ n2_ c2_ F2_ _ HT2_ hn2_ (by omega) (by omega) (fun t h_ => by have a_ := word_len (hy1 t h_).1; have b_ := word_len (hy1 t h_).2; omega)) ?_
   intro e_ w33 hr_
   rw [hk_] at hr_
   obtain ⟨rfl, F34⟩ := hr_
   have HB32 := HB32.k F34
   refine ⟨_, rfl, trivial, Zr 5 <| Zdn <| Zsg <| Zr 1 <| Zl 27 (.string (str y.name)) (HB32.s 0) <| Zr 1 <| Zl 29 (.slice A2_ n2_ c2_) (HB32.s 1) <| Zr 6 <| Zo 36 (.bool ((str k2_).toList == (str k).toList)) <| WO.top (v' := .bool (decide ((str k2_) = (str k)))) (congrArg Value.bool (streq (str k2_) (str k))) ?_⟩
   refine WO.topP ((str k2_) = (str k)) ?_ ?_
   ·
    intro h35
    refine Zr 1 <| Zst g1 0 #[.string (str y.name), .slice A2_ n2_ c2_, J 0, J 0, J 0] (HB4.k F34) ?_
    intro w36 HB38 F37 _
    refine Zr 1 <| Zdn <| WE.ret <| WQ.ret2 (fn := Tryz.f61) (show Tryz.f61.results = #[.cell 2 91, .tmp 3] by kernel_rfl) (show resOk _ _ _ _ (.agg #[.string (str y.name), .slice A2_ n2_ c2_, J 0, J 0, J 0]) from ⟨by kernel_rfl, ⟨g1, 0, none⟩, by kernel_rfl, ldVarB [.string (str y.name), .slice A2_ n2_ c2_, J 0, J 0, J 0] (by kernel_rfl) (by kernel_rfl) (by kernel_rfl) HB38 (by kernel_rfl)⟩) (show resOk _ _ _ _ (.bool true) from ⟨by kernel_rfl, by kernel_rfl⟩) ?_
    have hke_ : k2_ = k := str_inj.1 (by assumption)
    rw [hke_] at hk_
    rw [show ofE k = some (y.name, y.tags) from of_some (by omega) hps_ hk_]
    exact ⟨_, _, _, _, rfl, ((HA.step0 F34).step F37 (inSR ge_HA_g1 inS0))⟩
   intro h35
   refine Zr 1 <| Zst g1 0 #[.string (str y.name), .slice A2_ n2_ c2_, J 0, J 0, J 0] (HB4.k F34) ?_
   intro w39 HB41 F40 _
   refine Zr 1 <| Zdn <| WE.ret <| WQ.ret2 (fn := Tryz.f61) (show Tryz.f61.results = #[.cell 2 91, .tmp 3] by kernel_rfl) (show resOk _ _ _ _ (.agg #[.string (str y.name), .slice A2_ n2_ c2_, J 0, J 0, J 0]) from ⟨by kernel_rfl, ⟨g1, 0, none⟩, by kernel_rfl, ldVarB [.string (str y.name), .slice A2_ n2_ c2_, J 0, J 0, J 0] (by kernel_rfl) (by kernel_rfl) (by kernel_rfl) HB41 (by kernel_rfl)⟩) (show resOk _ _ _ _ (.bool false) from ⟨by kernel_rfl, by kernel_rfl⟩) ?_
   rw [show ofE k = none from of_nk (by omega) hps_ (by rw [hk_]; intro e_; injection e_ with e_; exact absurd (congrArg str e_) (by assumption))]
   exact ⟨_, _, _, _, rfl, ((HA.step0 F34).step F40 (inSR ge_HA_g1 inS0))⟩
  ·
   refine Zc 23 (rkey_f y A2_ n2_ c2_ F2_ _ HT2_ hn2_ (by omega) (by omega) (fun t h_ => by have a_ := word_len (hy1 t h_).1; have b_ := word_len (hy1 t h_).2; omega)) ?_
   intro e_ w42 hr_
   rw [hk_] at hr_
   obtain ⟨rfl, F43⟩ := hr_
   have HB32 := HB32.k F43
   refine ⟨_, rfl, trivial, Zr 5 <| Zdn <| Zsg <| Zr 1 <| Zl 27 (.string (str y.name)) (HB32.s 0) <| Zr 1 <| Zl 29 (.slice A2_ n2_ c2_) (HB32.s 1) <| Zr 8 <| Zst g1 0 #[.string (str y.name), .slice A2_ n2_ c2_, J 0, J 0, J 0] (HB4.k F43) ?_⟩
   intro w44 HB46 F45 _
   refine Zr 1 <| Zdn <| WE.ret <| WQ.ret2 (fn := Tryz.f61) (show Tryz.f61.results = #[.cell 2 91, .tmp 3] by kernel_rfl) (show resOk _ _ _ _ (.agg #[.string (str y.name), .slice A2_ n2_ c2_, J 0, J 0, J 0]) from ⟨by kernel_rfl, ⟨g1, 0, none⟩, by kernel_rfl, ldVarB [.string (str y.name), .slice A2_ n2_ c2_, J 0, J 0, J 0] (by kernel_rfl) (by kernel_rfl) (by kernel_rfl) HB46 (by kernel_rfl)⟩) (show resOk _ _ _ _ (.bool false) from ⟨by kernel_rfl, by kernel_rfl⟩) ?_
   rw [show ofE k = none from of_nk (by omega) hps_ (by rw [hk_]; simp)]
   exact ⟨_, _, _, _, rfl, ((HA.step0 F43).step F45 (inSR ge_HA_g1 inS0))⟩
  ·
   refine Zc 23 (rkey_f y A2_ n2_ c2_ F2_ _ HT2_ hn2_ (by omega) (by omega) (fun t h_ => by have a_ := word_len (hy1 t h_).1; have b_ := word_len (hy1 t h_).2; omega)) ?_
   intro e_ w47 hr_
   rw [hk_] at hr_
   obtain ⟨rfl, F48⟩ := hr_
   have HB32 := HB32.k F48
   refine ⟨_, rfl, trivial, Zr 5 <| Zdn <| Zsg <| Zr 1 <| Zl 27 (.string (str y.name)) (HB32.s 0) <| Zr 1 <| Zl 29 (.slice A2_ n2_ c2_) (HB32.s 1) <| Zr 8 <| Zst g1 0 #[.string (str y.name), .slice A2_ n2_ c2_, J 0, J 0, J 0] (HB4.k F48) ?_⟩
   intro w49 HB51 F50 _
   refine Zr 1 <| Zdn <| WE.ret <| WQ.ret2 (fn := Tryz.f61) (show Tryz.f61.results = #[.cell 2 91, .tmp 3] by kernel_rfl) (show resOk _ _ _ _ (.agg #[.string (str y.name), .slice A2_ n2_ c2_, J 0, J 0, J 0]) from ⟨by kernel_rfl, ⟨g1, 0, none⟩, by kernel_rfl, ldVarB [.string (str y.name), .slice A2_ n2_ c2_, J 0, J 0, J 0] (by kernel_rfl) (by kernel_rfl) (by kernel_rfl) HB51 (by kernel_rfl)⟩) (show resOk _ _ _ _ (.bool false) from ⟨by kernel_rfl, by kernel_rfl⟩) ?_
   rw [show ofE k = none from of_nk (by omega) hps_ (by rw [hk_]; simp)]
   exact ⟨_, _, _, _, rfl, ((HA.step0 F48).step F50 (inSR ge_HA_g1 inS0))⟩
set_option maxRecDepth 100000 in
set_option maxHeartbeats 400000 in
theorem row_r (r : Rw) (A : Option Addr) (cp : Nat) (F : List Nat) (w : World) (HV : VX cN 1 w F A r.bk) (hbl : r.bk.length ≤ 9223372036854775807) (hkl : r.key.length ≤ 100000) :
    Calls Tryz.prog 36 #[.agg #[.string (str r.key), .int .i64 r.kind, .int .u64 (r.many : Int), .int .i64 r.sum, .int .i64 r.least, .int .i64 r.most, .bool r.over, .slice A r.bk.length cp]] w fun e w' => e = .returned (.bool (rowOk r)) ∧ Fr [] w w' := by
 have HA := Fr.refl [] w
 refine Ze Tryz.func36 _ <| Zsg <| Zb 1 #[.string (str r.key), J r.kind, .int .u64 (r.many : Int), J r.sum, J r.least, J r.most, .bool r.over, .slice A r.bk.length cp] 54 (fun g => Pt g 0) ?_
 intro g1 w2 HB4 F3 le5 _
 refine Zr 1 <| Zdn <| Zsg <| Zr 1 <| Zl 8 (.string (str r.key)) (HB4.s 0) ?_
 cases hof_ : ofE r.key
 ·
  refine Zc 9 (mof_f r.key _ hkl) ?_
  rintro _ w6 ⟨a_, A_, n_, c_, rfl, F7⟩
  rw [hof_]
  refine ⟨_, rfl, trivial, Zr 3 <| Zb 3 #[.string (⟨#[]⟩), .slice none 0 0, J 0, J 0, J 0] 91 (fun g => Pt g 0) ?_⟩
  intro g8 w9 HB11 F10 le12 _
  have HB4 := HB4.k F7
  have ne_g1_g8 := ltn HB4.lt le12
  have HA := (HA.step0 F3).step0 F7
  have ge_HA_g8 := Nat.le_trans HA.size le12
  refine Zst g8 0 #[.string a_, .slice A_ n_ c_, J 0, J 0, J 0] HB11 ?_
  intro w13 HB15 F14 _
  refine Zr 1 <| Zdn <| Zsg <| Zr 1 <| Zl 13 (.slice A r.bk.length cp) (same (((HB4.k F10).j F14 ne_g1_g8).at 7 (by kernel_rfl))) <| Zr 2 <| Zdn <| Zq <| Zsg <| Zr 28 <| Zdn <| ZT <| Zsg <| Zr 1 <| Zdn <| WE.ret <| WQ.thenR <| ZR (.bool false) ?_
  exact ⟨by rw [rowOk_none hof_], ((HA.step0 F10).step F14 (inSR ge_HA_g8 inS0))⟩
 ·
  rename_i x_
  refine Zc 9 (mof_f r.key _ hkl) ?_
  rintro _ w16 ⟨a_, A_, n_, c_, rfl, F17⟩
  rw [hof_]
  refine ⟨_, rfl, trivial, ?_⟩
  have his_ : (ofE r.key).isSome = true := by rw [hof_]; rfl
  refine Zr 3 <| Zb 3 #[.string (⟨#[]⟩), .slice none 0 0, J 0, J 0, J 0] 91 (fun g => Pt g 0) ?_
  intro g18 w19 HB21 F20 le22 _
  have HB4 := HB4.k F17
  have ne_g1_g18 := ltn HB4.lt le22
  have HV := (HV.keep F3 dj0).keep F17 dj0
  have nin_g18_F := new_nin HV.lt le22
  have HA := (HA.step0 F3).step0 F17
  have ge_HA_g18 := Nat.le_trans HA.size le22
  refine Zst g18 0 #[.string a_, .slice A_ n_ c_, J 0, J 0, J 0] HB21 ?_
  intro w23 HB25 F24 _
  have HB4 := (HB4.k F20).j F24 ne_g1_g18
  have HA := (HA.step0 F20).step F24 (inSR ge_HA_g18 inS0)
  refine Zr 1 <| Zdn <| Zsg <| Zr 1 <| Zl 13 (.slice A r.bk.length cp) (HB4.s 7) <| Zr 2 <| Zdn <| Zq <| Zsg <| Zr 4 <| Zl 19 (J r.kind) (HB4.s 1) <| ZoP 20 ((r.kind : Int) < 1) ?_ ?_
  ·
   intro h26
   refine Zr 22 <| Zdn <| ZT <| Zsg <| Zr 1 <| Zdn <| WE.ret <| WQ.thenR <| ZR (.bool false) ?_
   exact ⟨by rw [rowOk_dec his_, decide_eq_false (by omega)], HA⟩
  intro h26
  refine Zr 3 <| Zl 24 (J r.kind) (HB4.s 1) <| ZoP 25 ((r.kind : Int) > 3) ?_ ?_
  ·
   intro h27
   refine Zr 17 <| Zdn <| ZT <| Zsg <| Zr 1 <| Zdn <| WE.ret <| WQ.thenR <| ZR (.bool false) ?_
   exact ⟨by rw [rowOk_dec his_, decide_eq_false (by omega)], HA⟩
  intro h27
  refine Zr 3 <| Zl 29 (.int .u64 (r.many : Int)) (HB4.s 2) <| ZoP 30 (((r.many : Int) : Int) < (1 : Int)) ?_ ?_
  ·
   intro h28
   refine Zr 12 <| Zdn <| ZT <| Zsg <| Zr 1 <| Zdn <| WE.ret <| WQ.thenR <| ZR (.bool false) ?_
   exact ⟨by rw [rowOk_dec his_, decide_eq_false (by omega)], HA⟩
  intro h28
  refine Zr 3 <| Zl 34 (J r.least) (HB4.s 4) <| Zr 1 <| Zl 36 (J r.most) (HB4.s 5) <| ZoP 37 ((r.least : Int) > r.most) ?_ ?_
  ·
   intro h29
   refine Zr 5 <| Zdn <| ZT <| Zsg <| Zr 1 <| Zdn <| WE.ret <| WQ.thenR <| ZR (.bool false) ?_
   exact ⟨by rw [rowOk_dec his_, decide_eq_false (by omega)], HA⟩
  intro h29
  refine Zr 3 <| ZoP 41 (((r.bk.length : Int) : Int) > (65 : Int)) ?_ ?_
  ·
   intro h30
   refine Zr 1 <| Zdn <| ZT <| Zsg <| Zr 1 <| Zdn <| WE.ret <| WQ.thenR <| ZR (.bool false) ?_
   exact ⟨by rw [rowOk_dec his_, decide_eq_false (by omega)], HA⟩
  intro h30
  refine Zr 1 <| Zdn <| ZF <| Zk <| Zq <| Zsg <| Zr 1 <| Zl 44 (J r.kind) (HB4.s 1) <| ZoN 45 ((r.kind : Int) = 3) ?_ ?_
  ·
   intro h31
   refine Zdn <| ZF <| Zk <| Zsg <| Zr 1 <| ZoP 49 (((r.bk.length : Int) : Int) > (0 : Int)) ?_ ?_
   ·
    intro h32
    have HV := (HV.keep F20 dj0).keep F24 (djB nin_g18_F)
    refine Zr 2 <| Zl 52 (.slice A r.bk.length cp) (HB4.s 7) <| Zr 1 <| Zw 54 ((r.bk.length : Int) - 1) ((r.bk.length - 1 : Nat) : Int) ?_
    obtain ⟨ad33, hA34⟩ := HV.addr (i := r.bk.length - 1) (by have := (rfl : List.length r.bk = _); omega)
    refine Zio 55 r.bk.length 1 (r.bk.length - 1) ((r.bk.length - 1 : Nat) : Int) hA34 <| Zl 56 (.int .u64 ((gN r.bk (r.bk.length - 1)) : Int)) (same (HV.at0 hA34 (gN_some r.bk (r.bk.length - 1) (by have := (rfl : List.length r.bk = _); omega)) (by kernel_rfl))) <| Zr 3 <| Zdn <| WE.ret <| ZR (.bool (!decide (((((gN r.bk (r.bk.length - 1)) : Nat) : Int) : Int) = (0 : Int)))) ?_
    exact ⟨by rw [rowOk_dec his_]; exact congrArg (fun b => Ending.returned (Value.bool b)) (by rw [Bool.eq_iff_iff]; simp only [Bool.not_eq_true', decide_eq_false_iff_not, decide_eq_true_eq]; omega), HA⟩
   intro h32
   refine Zr 10 <| Zdn <| WE.ret <| ZR (.bool false) ?_
   exact ⟨by rw [rowOk_dec his_, decide_eq_false (by omega)], HA⟩
  intro h31
  refine Zdn <| ZT <| Zsg <| Zr 3 <| Zdn <| WE.ret <| WQ.thenR <| ZR (.bool (decide (((r.bk.length : Int) : Int) = (0 : Int)))) ?_
  exact ⟨by rw [rowOk_dec his_]; exact congrArg (fun b => Ending.returned (Value.bool b)) (by rw [Bool.eq_iff_iff]; simp only [Bool.not_eq_true', decide_eq_false_iff_not, decide_eq_true_eq]; omega), HA⟩
set_option maxRecDepth 100000 in
set_option maxHeartbeats 400000 in
theorem may_l (seq start : Int) (xs : List RX) (A : Option Addr) (n cp : Nat) (F FE : List Nat) (w : World) (HL : VX cW 8 w F A xs) (HE : EV w FE xs) (hn : xs.length = n) (hnn : n ≤ 9223372036854775807) (hkl : ∀ x ∈ xs, x.1.key.length ≤ 100000) (hbl : ∀ x ∈ xs, x.1.bk.length ≤ 9223372036854775807) (HS : VarI w "strconv.ErrSyntax") (HR : VarI w "strconv.ErrRange") (HTab : Lib.TabIs Tryz.prog w "internal/strconv.uint64pow10" .u64 Lib.pow10Tab) (HM : MaxI w) :
    Calls Tryz.prog 12 #[.agg #[.int .i64 seq, .int .i64 start, .slice A n cp]] w fun e w' => e = .returned (.bool (mayB (⟨seq, start, rws xs⟩ : Bt))) ∧ Fr [] w w' := by
 have HA := Fr.refl [] w
 refine Ze Tryz.func12 _ <| Zsg <| Zb 1 #[J seq, J start, .slice A n cp] 24 (fun g => Pt g 0) ?_
 intro g1 w2 HB4 F3 le5 _
 refine Zr 1 <| Zdn <| Zq <| Zsg <| Zr 1 <| Zl 7 (J seq) (HB4.s 0) <| ZoP 8 ((seq : Int) < 0) ?_ ?_
 ·
  intro h6
  refine Zr 21 <| Zdn <| ZT <| Zsg <| Zr 1 <| Zdn <| WE.ret <| WQ.thenR <| ZR (.bool false) ?_
  exact ⟨by rw [mayX_f1 hn (by omega)], (HA.step0 F3)⟩
 intro h6
 refine Zr 2 <| Zl 11 (J seq) (HB4.s 0) <| ZoP 12 ((seq : Int) > 2147483647) ?_ ?_
 ·
  intro h7
  refine Zr 17 <| Zdn <| ZT <| Zsg <| Zr 1 <| Zdn <| WE.ret <| WQ.thenR <| ZR (.bool false) ?_
  exact ⟨by rw [mayX_f1 hn (by omega)], (HA.step0 F3)⟩
 intro h7
 refine Zr 3 <| Zl 16 (J start) (HB4.s 1) <| ZoP 17 ((start : Int) < 0) ?_ ?_
 ·
  intro h8
  refine Zr 12 <| Zdn <| ZT <| Zsg <| Zr 1 <| Zdn <| WE.ret <| WQ.thenR <| ZR (.bool false) ?_
  exact ⟨by rw [mayX_f1 hn (by omega)], (HA.step0 F3)⟩
 intro h8
 refine Zr 3 <| Zl 21 (J start) (HB4.s 1) <| ZoP 22 ((start : Int) > 1099511627776) ?_ ?_
 ·
  intro h9
  refine Zr 7 <| Zdn <| ZT <| Zsg <| Zr 1 <| Zdn <| WE.ret <| WQ.thenR <| ZR (.bool false) ?_
  exact ⟨by rw [mayX_f1 hn (by omega)], (HA.step0 F3)⟩
 intro h9
 refine Zr 3 <| Zl 26 (.slice A n cp) (HB4.s 2) <| Zr 1 <| ZoP 28 (((n : Int) : Int) > (200 : Int)) ?_ ?_
 ·
  intro h10
  refine Zr 1 <| Zdn <| ZT <| Zsg <| Zr 1 <| Zdn <| WE.ret <| WQ.thenR <| ZR (.bool false) ?_
  exact ⟨by rw [mayX_f1 hn (by omega)], (HA.step0 F3)⟩
 intro h10
 refine Zr 1 <| Zdn <| ZF <| Zk <| Zq <| Zsg <| Zr 1 <| Zl 31 (.slice A n cp) (HB4.s 2) <| Zr 2 <| Zdn <| WE.block <| WE.loop (α := Nat) (E := fun i => [(1, Pt g1 0), (2, .bool false), (31, .slice A n cp), (32, J (n : Int)), (33, J (i : Int))]) (I := fun i wr => i ≤ n ∧ (∀ j, j < i → okAt (rws xs) j = true) ∧ Blk wr g1 #[J seq, J start, .slice A n cp] 24 ∧ VX cW 8 wr F A xs ∧ EV wr FE xs ∧ VarI wr "strconv.ErrSyntax" ∧ VarI wr "strconv.ErrRange" ∧ Lib.TabIs Tryz.prog wr "internal/strconv.uint64pow10" .u64 Lib.pow10Tab ∧ MaxI wr ∧ Fr [] w wr) (m := fun i => n - i) 0 [1, 2, 31, 32, 33] (by kernel_rfl) ?_ ?_
 ·
  exact ⟨by omega, by intro j h_; omega, HB4, (HL.keep F3 dj0), (HE.keep F3 dj0), (HS.k F3), (HR.k F3), (HTab.k F3), (HM.k F3), (HA.step0 F3)⟩
 rintro i wr ⟨hi, hok, HB4, HL, HE, HS, HR, HTab, HM, HA⟩
 refine Zsg <| ZoP 34 (((i : Int) : Int) < (n : Int)) ?_ ?_
 ·
  intro h11
  refine Zdn <| Zq <| ZT <| Zk <| Zq <| WE.block <| Zsg <| Zr 1 ?_
  obtain ⟨ad12, hA13⟩ := HL.addr (i := i) (by have := hn; omega)
  refine Zio 36 n 8 i (i : Int) hA13 <| Zla (ad := (ad12.add (i * 8))) 37 [.string (str (gX xs i).1.key), J ((gX xs i).1.kind), .int .u64 ((gX xs i).1.many : Int), J ((gX xs i).1.sum), J ((gX xs i).1.least), J ((gX xs i).1.most), .bool ((gX xs i).1.over), .slice ((gX xs i).2.1) ((gX xs i).1.bk.length) ((gX xs i).2.2)] (fun _ hw_ _ hj_ => by subst hw_; exact HL.part0 hA13 (gX_some xs i (by have := hn; omega)) [.string (str (gX xs i).1.key), J ((gX xs i).1.kind), .int .u64 ((gX xs i).1.many : Int), J ((gX xs i).1.sum), J ((gX xs i).1.least), J ((gX xs i).1.most), .bool ((gX xs i).1.over), .slice ((gX xs i).2.1) ((gX xs i).1.bk.length) ((gX xs i).2.2)] (by kernel_rfl) _ hj_) <| Zb 4 #[.string (⟨#[]⟩), J 0, .int .u64 0, J 0, J 0, J 0, .bool false, .slice none 0 0] 54 (fun g => Pt g 0) ?_
  intro g14 w15 HB17 F16 le18 _
  have ne_g1_g14 := ltn HB4.lt le18
  have nin_g14_F := new_nin HL.lt le18
  have nin_g14_FE := new_nin HE.lt le18
  have ne_1_g14 : 1 ≠ g14 := Nat.ne_of_lt (Nat.lt_of_lt_of_le (var_lt 1 (by kernel_rfl) HS) le18)
  have ne_2_g14 : 2 ≠ g14 := Nat.ne_of_lt (Nat.lt_of_lt_of_le (var_lt 2 (by kernel_rfl) HR) le18)
  have ne_3_g14 : 3 ≠ g14 := Nat.ne_of_lt (Nat.lt_of_lt_of_le (tab_lt HTab) le18)
  have ne_0_g14 : 0 ≠ g14 := Nat.ne_of_lt (Nat.lt_of_lt_of_le (max_lt HM) le18)
  have ge_HA_g14 := Nat.le_trans HA.size le18
  refine Zr 1 <| Zst g14 0 #[.string (str (gX xs i).1.key), J ((gX xs i).1.kind), .int .u64 ((gX xs i).1.many : Int), J ((gX xs i).1.sum), J ((gX xs i).1.least), J ((gX xs i).1.most), .bool ((gX xs i).1.over), .slice ((gX xs i).2.1) ((gX xs i).1.bk.length) ((gX xs i).2.2)] HB17 ?_
  intro w19 HB21 F20 _
  have HE := (HE.keep F16 dj0).keep F20 (djB nin_g14_FE)
  refine Zdn <| Zq <| Zsg <| Zlb 38 [.string (str (gX xs i).1.key), J ((gX xs i).1.kind), .int .u64 ((gX xs i).1.many : Int), J ((gX xs i).1.sum), J ((gX xs i).1.least), J ((gX xs i).1.most), .bool ((gX xs i).1.over), .slice ((gX xs i).2.1) ((gX xs i).1.bk.length) ((gX xs i).2.2)] g14 0 (same HB21) ?_
  obtain ⟨hcp_, FR, hFR_, HVR_⟩ := HE.at (i := i) (by omega)
  have hkl_ := hkl _ (gX_mem (q := xs) (i := i) (by omega))
  have hbl_ := hbl _ (gX_mem (q := xs) (i := i) (by omega))
  have HS := var_keep 1 (by kernel_rfl) (HS.k F16) F20 (ninC ne_1_g14 (nin0 _))
  have HR := var_keep 2 (by kernel_rfl) (HR.k F16) F20 (ninC ne_2_g14 (nin0 _))
  have HTab := tab_keep (HTab.k F16) F20 (ninC ne_3_g14 (nin0 _))
  have HM := max_keep (HM.k F16) F20 (ninC ne_0_g14 (nin0 _))
  refine Zc 39 (row_l (gX xs i).1 ((gX xs i).2.1) ((gX xs i).2.2) FR _ HVR_ hbl_ hkl_ HS HR HTab HM) ?_
  rintro _ w22 ⟨rfl, F23⟩
  have HA := ((HA.step0 F16).step F20 (inSR ge_HA_g14 inS0)).step0 F23
  refine ⟨_, rfl, trivial, Zo 40 (.bool (!(rowOk (gX xs i).1))) ?_⟩
  refine WO.topNB ((rowOk (gX xs i).1)) ?_ ?_
  ·
   intro h24
   have HB4 := ((HB4.k F16).j F20 ne_g1_g14).k F23
   have HL := ((HL.keep F16 dj0).keep F20 (djB nin_g14_F)).keep F23 dj0
   refine Zdn <| ZF <| Zk <| Zq <| Zsg <| Zr 1 <| ZoP 42 (((i : Int) : Int) = (0 : Int)) ?_ ?_
   ·
    intro h25
    refine Zdn <| ZT <| WE.exit <| WQ.thenE <| WQ.blkE <| Zn ?_
    have hst_ : ∀ j, j < i + 1 → okAt (rws xs) j = true := fun j h_ => (Nat.lt_succ_iff_lt_or_eq.1 h_).elim (hok j) (fun e_ => by rw [e_]; exact okX_t h24 (.inl (by omega)))
    refine WE.region <| Zw 68 ((i : Int) + 1) ((i + 1 : Nat) : Int) <| Zr 1 <| Zd <| WQ.round ?_
    intro a_ ha_
    refine ⟨i + 1, ?_, ha_.keep [1, 2, 31, 32, 33] (by kernel_rfl), ?_⟩
    ·
     show n - (i + 1) < n - i; omega
    ·
     exact ⟨by omega, hst_, HB4, HL, (HE.keep F23 dj0), (HS.k F23), (HR.k F23), (HTab.k F23), (HM.k F23), HA⟩
   intro h25
   refine Zdn <| ZF <| Zk <| Zsg <| Zr 1 <| Zl 44 (.slice A n cp) (HB4.s 2) <| Zr 1 <| Zw 46 ((i : Int) - 1) ((i - 1 : Nat) : Int) ?_
   obtain ⟨ad26, hA27⟩ := HL.addr (i := i - 1) (by have := hn; omega)
   refine Zio 47 n 8 (i - 1) ((i - 1 : Nat) : Int) hA27 <| Zla (ad := (ad26.add ((i - 1) * 8))) 48 [.string (str (gX xs (i - 1)).1.key), J ((gX xs (i - 1)).1.kind), .int .u64 ((gX xs (i - 1)).1.many : Int), J ((gX xs (i - 1)).1.sum), J ((gX xs (i - 1)).1.least), J ((gX xs (i - 1)).1.most), .bool ((gX xs (i - 1)).1.over), .slice ((gX xs (i - 1)).2.1) ((gX xs (i - 1)).1.bk.length) ((gX xs (i - 1)).2.2)] (fun _ hw_ _ hj_ => by subst hw_; exact HL.part0 hA27 (gX_some xs (i - 1) (by have := hn; omega)) [.string (str (gX xs (i - 1)).1.key), J ((gX xs (i - 1)).1.kind), .int .u64 ((gX xs (i - 1)).1.many : Int), J ((gX xs (i - 1)).1.sum), J ((gX xs (i - 1)).1.least), J ((gX xs (i - 1)).1.most), .bool ((gX xs (i - 1)).1.over), .slice ((gX xs (i - 1)).2.1) ((gX xs (i - 1)).1.bk.length) ((gX xs (i - 1)).2.2)] (by kernel_rfl) _ hj_) <| Zb 5 #[.string (⟨#[]⟩), J 0, .int .u64 0, J 0, J 0, J 0, .bool false, .slice none 0 0] 54 (fun g => Pt g 0) ?_
   intro g28 w29 HB31 F30 le32 _
   have ne_g1_g28 := ltn HB4.lt le32
   have HB21 := HB21.k F23
   have ne_g14_g28 := ltn HB21.lt le32
   have nin_g28_F := new_nin HL.lt le32
   have HE := HE.keep F23 dj0
   have nin_g28_FE := new_nin HE.lt le32
   have HS := HS.k F23
   have ne_1_g28 : 1 ≠ g28 := Nat.ne_of_lt (Nat.lt_of_lt_of_le (var_lt 1 (by kernel_rfl) HS) le32)
   have HR := HR.k F23
   have ne_2_g28 : 2 ≠ g28 := Nat.ne_of_lt (Nat.lt_of_lt_of_le (var_lt 2 (by kernel_rfl) HR) le32)
   have HTab := HTab.k F23
   have ne_3_g28 : 3 ≠ g28 := Nat.ne_of_lt (Nat.lt_of_lt_of_le (tab_lt HTab) le32)
   have HM := HM.k F23
   have ne_0_g28 : 0 ≠ g28 := Nat.ne_of_lt (Nat.lt_of_lt_of_le (max_lt HM) le32)
   have ge_HA_g28 := Nat.le_trans HA.size le32
   refine Zst g28 0 #[.string (str (gX xs (i - 1)).1.key), J ((gX xs (i - 1)).1.kind), .int .u64 ((gX xs (i - 1)).1.many : Int), J ((gX xs (i - 1)).1.sum), J ((gX xs (i - 1)).1.least), J ((gX xs (i - 1)).1.most), .bool ((gX xs (i - 1)).1.over), .slice ((gX xs (i - 1)).2.1) ((gX xs (i - 1)).1.bk.length) ((gX xs (i - 1)).2.2)] HB31 ?_
   intro w33 HB35 F34 _
   have HB21 := (HB21.k F30).j F34 ne_g14_g28
   have HA := (HA.step0 F30).step F34 (inSR ge_HA_g28 inS0)
   refine Zdn <| Zsg <| Zr 1 <| Zl 50 (.string (str (gX xs (i - 1)).1.key)) (HB35.s 0) <| Zr 1 <| Zl 52 (.string (str (gX xs i).1.key)) (HB21.s 0) <| Zo 53 (.bool (!(Go.Op.bytesLess ((str (gX xs (i - 1)).1.key)).toList ((str (gX xs i).1.key)).toList || ((str (gX xs (i - 1)).1.key)).toList == ((str (gX xs i).1.key)).toList))) <| WO.top (v' := .bool (ltS ((gX xs i).1.key) ((gX xs (i - 1)).1.key))) (congrArg Value.bool (gtr_str ((gX xs (i - 1)).1.key) ((gX xs i).1.key))) <| WO.topB (ltS ((gX xs i).1.key) ((gX xs (i - 1)).1.key)) ?_ ?_
   ·
    intro h36
    refine Zr 14 <| Zdn <| ZT <| Zsg <| Zr 1 <| Zdn <| WE.ret <| WQ.blkR <| WQ.thenR <| WQ.thenR <| WQ.blkR <| WQ.thenR <| ZR (.bool false) ?_
    exact ⟨by rw [mayX_f2 hn (i := i) (by omega) (okX_f2 (by omega) (.inl h36))], HA⟩
   intro h36
   have HB4 := (HB4.k F30).j F34 ne_g1_g28
   have HL := (HL.keep F30 dj0).keep F34 (djB nin_g28_F)
   have HE := (HE.keep F30 dj0).keep F34 (djB nin_g28_FE)
   have HS := var_keep 1 (by kernel_rfl) (HS.k F30) F34 (ninC ne_1_g28 (nin0 _))
   have HR := var_keep 2 (by kernel_rfl) (HR.k F30) F34 (ninC ne_2_g28 (nin0 _))
   have HTab := tab_keep (HTab.k F30) F34 (ninC ne_3_g28 (nin0 _))
   have HM := max_keep (HM.k F30) F34 (ninC ne_0_g28 (nin0 _))
   refine Zr 2 <| Zl 56 (.string (str (gX xs (i - 1)).1.key)) (HB35.s 0) <| Zr 1 <| Zl 58 (.string (str (gX xs i).1.key)) (HB21.s 0) <| Zo 59 (.bool ((str (gX xs (i - 1)).1.key).toList == (str (gX xs i).1.key).toList)) <| WO.top (v' := .bool (decide ((str (gX xs (i - 1)).1.key) = (str (gX xs i).1.key)))) (congrArg Value.bool (streq (str (gX xs (i - 1)).1.key) (str (gX xs i).1.key))) <| WO.topP ((str (gX xs (i - 1)).1.key) = (str (gX xs i).1.key)) ?_ ?_
   ·
    intro h37
    refine Zr 2 <| Zl 62 (J ((gX xs (i - 1)).1.kind)) (HB35.s 1) <| Zr 1 <| Zl 64 (J ((gX xs i).1.kind)) (HB21.s 1) <| ZoP 65 (((gX xs (i - 1)).1.kind : Int) ≥ ((gX xs i).1.kind)) ?_ ?_
    ·
     intro h38
     refine Zr 2 <| Zdn <| ZT <| Zsg <| Zr 1 <| Zdn <| WE.ret <| WQ.blkR <| WQ.thenR <| WQ.thenR <| WQ.blkR <| WQ.thenR <| ZR (.bool false) ?_
     exact ⟨by rw [mayX_f2 hn (i := i) (by omega) (okX_f2 (by omega) (.inr ⟨str_inj.1 h37, by omega⟩))], HA⟩
    intro h38
    refine Zr 2 <| Zdn <| ZF <| WE.skip <| WQ.blkN <| Zn ?_
    have hst_ : ∀ j, j < i + 1 → okAt (rws xs) j = true := fun j h_ => (Nat.lt_succ_iff_lt_or_eq.1 h_).elim (hok j) (fun e_ => by rw [e_]; exact okX_t h24 (.inr ⟨h36, fun h_ => absurd h_.2 (by omega)⟩))
    refine WE.region <| Zw 68 ((i : Int) + 1) ((i + 1 : Nat) : Int) <| Zr 1 <| Zd <| WQ.round ?_
    intro a_ ha_
    refine ⟨i + 1, ?_, ha_.keep [1, 2, 31, 32, 33] (by kernel_rfl), ?_⟩
    ·
     show n - (i + 1) < n - i; omega
    ·
     exact ⟨by omega, hst_, HB4, HL, HE, HS, HR, HTab, HM, HA⟩
   intro h37
   refine Zr 8 <| Zdn <| ZF <| WE.skip <| WQ.blkN <| Zn ?_
   have hst_ : ∀ j, j < i + 1 → okAt (rws xs) j = true := fun j h_ => (Nat.lt_succ_iff_lt_or_eq.1 h_).elim (hok j) (fun e_ => by rw [e_]; exact okX_t h24 (.inr ⟨h36, fun h_ => absurd (congrArg str h_.1) h37⟩))
   refine WE.region <| Zw 68 ((i : Int) + 1) ((i + 1 : Nat) : Int) <| Zr 1 <| Zd <| WQ.round ?_
   intro a_ ha_
   refine ⟨i + 1, ?_, ha_.keep [1, 2, 31, 32, 33] (by kernel_rfl), ?_⟩
   ·
    show n - (i + 1) < n - i; omega
   ·
    exact ⟨by omega, hst_, HB4, HL, HE, HS, HR, HTab, HM, HA⟩
  intro h24
  refine Zdn <| ZT <| Zsg <| Zr 1 <| Zdn <| WE.ret <| WQ.thenR <| WQ.blkR <| WQ.thenR <| WQ.thenR <| WQ.blkR <| WQ.thenR <| ZR (.bool false) ?_
  exact ⟨by rw [mayX_f2 hn (i := i) (by omega) (okX_f1 h24)], HA⟩
 intro h11
 refine Zdn <| Zq <| ZF <| WE.exit <| WQ.thenE <| WQ.thenE <| WQ.blkE <| Zn <| Zsg <| Zr 1 <| Zdn <| WE.ret <| ZR (.bool true) ?_
 exact ⟨by rw [mayX_t hn (by omega) (fun j h_ => hok j (by omega))], HA⟩
set_option maxRecDepth 100000 in
set_option maxHeartbeats 400000 in
theorem may_r (seq start : Int) (xs : List RX) (A : Option Addr) (n cp : Nat) (F FE : List Nat) (w : World) (HL : VX cW 8 w F A xs) (HE : EV w FE xs) (hn : xs.length = n) (hnn : n ≤ 9223372036854775807) (hkl : ∀ x ∈ xs, x.1.key.length ≤ 100000) (hbl : ∀ x ∈ xs, x.1.bk.length ≤ 9223372036854775807) :
    Calls Tryz.prog 11 #[.agg #[.int .i64 seq, .int .i64 start, .slice A n cp]] w fun e w' => e = .returned (.bool (mayB (⟨seq, start, rws xs⟩ : Bt))) ∧ Fr [] w w' := by
 have HA := Fr.refl [] w
 refine Ze Tryz.func11 _ <| Zsg <| Zb 1 #[J seq, J start, .slice A n cp] 24 (fun g => Pt g 0) ?_
 intro g1 w2 HB4 F3 le5 _
 refine Zr 1 <| Zdn <| Zq <| Zsg <| Zr 1 <| Zl 6 (J seq) (HB4.s 0) <| ZoP 7 ((seq : Int) < 0) ?_ ?_
 ·
  intro h6
  refine Zr 21 <| Zdn <| ZT <| Zsg <| Zr 1 <| Zdn <| WE.ret <| WQ.thenR <| ZR (.bool false) ?_
  exact ⟨by rw [mayX_f1 hn (by omega)], (HA.step0 F3)⟩
 intro h6
 refine Zr 2 <| Zl 10 (J seq) (HB4.s 0) <| ZoP 11 ((seq : Int) > 2147483647) ?_ ?_
 ·
  intro h7
  refine Zr 17 <| Zdn <| ZT <| Zsg <| Zr 1 <| Zdn <| WE.ret <| WQ.thenR <| ZR (.bool false) ?_
  exact ⟨by rw [mayX_f1 hn (by omega)], (HA.step0 F3)⟩
 intro h7
 refine Zr 3 <| Zl 15 (J start) (HB4.s 1) <| ZoP 16 ((start : Int) < 0) ?_ ?_
 ·
  intro h8
  refine Zr 12 <| Zdn <| ZT <| Zsg <| Zr 1 <| Zdn <| WE.ret <| WQ.thenR <| ZR (.bool false) ?_
  exact ⟨by rw [mayX_f1 hn (by omega)], (HA.step0 F3)⟩
 intro h8
 refine Zr 3 <| Zl 20 (J start) (HB4.s 1) <| ZoP 21 ((start : Int) > 1099511627776) ?_ ?_
 ·
  intro h9
  refine Zr 7 <| Zdn <| ZT <| Zsg <| Zr 1 <| Zdn <| WE.ret <| WQ.thenR <| ZR (.bool false) ?_
  exact ⟨by rw [mayX_f1 hn (by omega)], (HA.step0 F3)⟩
 intro h9
 refine Zr 3 <| Zl 25 (.slice A n cp) (HB4.s 2) <| Zr 1 <| ZoP 27 (((n : Int) : Int) > (200 : Int)) ?_ ?_
 ·
  intro h10
  refine Zr 1 <| Zdn <| ZT <| Zsg <| Zr 1 <| Zdn <| WE.ret <| WQ.thenR <| ZR (.bool false) ?_
  exact ⟨by rw [mayX_f1 hn (by omega)], (HA.step0 F3)⟩
 intro h10
 refine Zr 1 <| Zdn <| ZF <| Zk <| Zq <| Zsg <| Zr 1 <| Zdn <| WE.block <| WE.loop (α := Nat) (E := fun i => [(1, Pt g1 0), (2, .bool false), (3, J (i : Int))]) (I := fun i wr => i ≤ n ∧ (∀ j, j < i → okAt (rws xs) j = true) ∧ Blk wr g1 #[J seq, J start, .slice A n cp] 24 ∧ VX cW 8 wr F A xs ∧ EV wr FE xs ∧ Fr [] w wr) (m := fun i => n - i) 0 [1, 2, 3] (by kernel_rfl) ?_ ?_
 ·
  exact ⟨by omega, by intro j h_; omega, HB4, (HL.keep F3 dj0), (HE.keep F3 dj0), (HA.step0 F3)⟩
 rintro i wr ⟨hi, hok, HB4, HL, HE, HA⟩
 refine Zq <| Zsg <| Zr 2 <| Zl 31 (.slice A n cp) (HB4.s 2) <| Zr 1 <| ZoP 33 (((i : Int) : Int) < (n : Int)) ?_ ?_
 ·
  intro h11
  refine Zdn <| ZT <| Zk <| Zq <| WE.block <| Zsg <| Zr 1 <| Zl 37 (.slice A n cp) (HB4.s 2) <| Zr 1 ?_
  obtain ⟨ad12, hA13⟩ := HL.addr (i := i) (by have := hn; omega)
  refine Zio 39 n 8 i (i : Int) hA13 <| Zla (ad := (ad12.add (i * 8))) 40 [.string (str (gX xs i).1.key), J ((gX xs i).1.kind), .int .u64 ((gX xs i).1.many : Int), J ((gX xs i).1.sum), J ((gX xs i).1.least), J ((gX xs i).1.most), .bool ((gX xs i).1.over), .slice ((gX xs i).2.1) ((gX xs i).1.bk.length) ((gX xs i).2.2)] (fun _ hw_ _ hj_ => by subst hw_; exact HL.part0 hA13 (gX_some xs i (by have := hn; omega)) [.string (str (gX xs i).1.key), J ((gX xs i).1.kind), .int .u64 ((gX xs i).1.many : Int), J ((gX xs i).1.sum), J ((gX xs i).1.least), J ((gX xs i).1.most), .bool ((gX xs i).1.over), .slice ((gX xs i).2.1) ((gX xs i).1.bk.length) ((gX xs i).2.2)] (by kernel_rfl) _ hj_) ?_
  obtain ⟨hcp_, FR, hFR_, HVR_⟩ := HE.at (i := i) (by omega)
  have hkl_ := hkl _ (gX_mem (q := xs) (i := i) (by omega))
  have hbl_ := hbl _ (gX_mem (q := xs) (i := i) (by omega))
  refine Zcf 41 (row_r (gX xs i).1 ((gX xs i).2.1) ((gX xs i).2.2) FR _ HVR_ hbl_ hkl_) ?_
  intro w14 F15
  refine Zo 4 (.bool (rowOk (gX xs i).1)) <| WO.topB (rowOk (gX xs i).1) ?_ ?_
  ·
   intro h16
   refine Zdn <| Zq <| Zsg <| Zr 2 <| Zdn <| ZF <| Zk <| Zq <| ZE [4, 9, 11, 15, 19, 24, 26, 30, 34, 39, 41, 45] [] [] 50 ?_
   intro w17 F18 _
   have HB4 := (HB4.k F15).k F18
   have HL := (HL.keep F15 dj0).keep F18 dj0
   have HE := (HE.keep F15 dj0).keep F18 dj0
   have HA := (HA.step0 F15).step0 F18
   refine Yr0 [0, 1] [(45, .bool (decide (((i : Int) : Int) > (0 : Int)))), (44, J (i : Int))] <| WO.topP (((i : Int) : Int) > (0 : Int)) ?_ ?_
   ·
    intro h19
    refine Yq 2 2 <| Yl 4 48 (.slice A n cp) (HB4.s 2) <| Yr0 [5, 6] [(50, J (IntKind.i64.wrap ((i : Int) - 1))), (49, J (i : Int))] <| WO.top (v' := J ((i - 1 : Nat) : Int)) (wrap_i64 (by omega) (by omega)) ?_
    obtain ⟨ad20, hA21⟩ := HL.addr (i := i - 1) (by have := hn; omega)
    refine Yio 7 51 n 8 (i - 1) ((i - 1 : Nat) : Int) hA21 <| Yq 8 1 <| Yl 9 53 (.string (str (gX xs (i - 1)).1.key)) (same (HL.at0 hA21 (gX_some xs (i - 1) (by have := hn; omega)) (by kernel_rfl))) <| Yq 10 1 <| Yl 11 55 (.slice A n cp) (HB4.s 2) <| Yq 12 1 ?_
    obtain ⟨ad22, hA23⟩ := HL.addr (i := i) (by have := hn; omega)
    refine Yio 13 57 n 8 i (i : Int) hA23 <| Yq 14 1 <| Yl 15 59 (.string (str (gX xs i).1.key)) (same (HL.at0 hA23 (gX_some xs i (by have := hn; omega)) (by kernel_rfl))) <| Yr0 [16] [(60, .bool (!(Go.Op.bytesLess ((str (gX xs (i - 1)).1.key)).toList ((str (gX xs i).1.key)).toList || ((str (gX xs (i - 1)).1.key)).toList == ((str (gX xs i).1.key)).toList)))] <| WO.top (v' := .bool (ltS ((gX xs i).1.key) ((gX xs (i - 1)).1.key))) (congrArg Value.bool (gtr_str ((gX xs (i - 1)).1.key) ((gX xs i).1.key))) <| WO.topB (ltS ((gX xs i).1.key) ((gX xs (i - 1)).1.key)) ?_ ?_
    ·
     intro h24
     refine Yq 17 33 <| Ydn <| ZT <| Zsg <| Zr 1 <| Zdn <| WE.ret <| WQ.blkR <| WQ.thenR <| WQ.thenR <| WQ.blkR <| WQ.thenR <| ZR (.bool false) ?_
     exact ⟨by rw [mayX_f2 hn (i := i) (by omega) (okX_f2 (by omega) (.inl h24))], HA⟩
    intro h24
    refine Yq 17 2 <| Yl 19 63 (.slice A n cp) (HB4.s 2) <| Yr0 [20, 21] [(65, J (IntKind.i64.wrap ((i : Int) - 1))), (64, J (i : Int))] <| WO.top (v' := J ((i - 1 : Nat) : Int)) (wrap_i64 (by omega) (by omega)) ?_
    obtain ⟨ad25, hA26⟩ := HL.addr (i := i - 1) (by have := hn; omega)
    refine Yio 22 66 n 8 (i - 1) ((i - 1 : Nat) : Int) hA26 <| Yq 23 1 <| Yl 24 68 (.string (str (gX xs (i - 1)).1.key)) (same (HL.at0 hA26 (gX_some xs (i - 1) (by have := hn; omega)) (by kernel_rfl))) <| Yq 25 1 <| Yl 26 70 (.slice A n cp) (HB4.s 2) <| Yq 27 1 ?_
    obtain ⟨ad27, hA28⟩ := HL.addr (i := i) (by have := hn; omega)
    refine Yio 28 72 n 8 i (i : Int) hA28 <| Yq 29 1 <| Yl 30 74 (.string (str (gX xs i).1.key)) (same (HL.at0 hA28 (gX_some xs i (by have := hn; omega)) (by kernel_rfl))) <| Yr0 [31] [(75, .bool ((str (gX xs (i - 1)).1.key).toList == (str (gX xs i).1.key).toList))] <| WO.top (v' := .bool (decide ((str (gX xs (i - 1)).1.key) = (str (gX xs i).1.key)))) (congrArg Value.bool (streq (str (gX xs (i - 1)).1.key) (str (gX xs i).1.key))) <| WO.topP ((str (gX xs (i - 1)).1.key) = (str (gX xs i).1.key)) ?_ ?_
    ·
     intro h29
     refine Yq 32 2 <| Yl 34 78 (.slice A n cp) (HB4.s 2) <| Yr0 [35, 36] [(80, J (IntKind.i64.wrap ((i : Int) - 1))), (79, J (i : Int))] <| WO.top (v' := J ((i - 1 : Nat) : Int)) (wrap_i64 (by omega) (by omega)) ?_
     obtain ⟨ad30, hA31⟩ := HL.addr (i := i - 1) (by have := hn; omega)
     refine Yio 37 81 n 8 (i - 1) ((i - 1 : Nat) : Int) hA31 <| Yq 38 1 <| Yl 39 83 (J ((gX xs (i - 1)).1.kind)) (same (HL.at hA31 (gX_some xs (i - 1) (by have := hn; omega)) 1 (by kernel_rfl))) <| Yq 40 1 <| Yl 41 85 (.slice A n cp) (HB4.s 2) <| Yq 42 1 ?_
     obtain ⟨ad32, hA33⟩ := HL.addr (i := i) (by have := hn; omega)
     refine Yio 43 87 n 8 i (i : Int) hA33 <| Yq 44 1 <| Yl 45 89 (J ((gX xs i).1.kind)) (same (HL.at hA33 (gX_some xs i (by have := hn; omega)) 1 (by kernel_rfl))) <| Yr0 [46] [(90, .bool (decide (((gX xs (i - 1)).1.kind : Int) ≥ ((gX xs i).1.kind))))] <| WO.topP (((gX xs (i - 1)).1.kind : Int) ≥ ((gX xs i).1.kind)) ?_ ?_
     ·
      intro h34
      refine Yq 47 3 <| Ydn <| ZT <| Zsg <| Zr 1 <| Zdn <| WE.ret <| WQ.blkR <| WQ.thenR <| WQ.thenR <| WQ.blkR <| WQ.thenR <| ZR (.bool false) ?_
      exact ⟨by rw [mayX_f2 hn (i := i) (by omega) (okX_f2 (by omega) (.inr ⟨str_inj.1 h29, by omega⟩))], HA⟩
     intro h34
     refine Yq 47 3 <| Ydn <| ZF <| WE.skip <| WQ.blkN <| Zn ?_
     have hst_ : ∀ j, j < i + 1 → okAt (rws xs) j = true := fun j h_ => (Nat.lt_succ_iff_lt_or_eq.1 h_).elim (hok j) (fun e_ => by rw [e_]; exact okX_t h16 (.inr ⟨h24, fun h_ => absurd h_.2 (by omega)⟩))
     refine WE.region <| Zr 1 <| Zw 35 ((i : Int) + 1) ((i + 1 : Nat) : Int) <| Zr 1 <| Zd <| WQ.round ?_
     intro a_ ha_
     refine ⟨i + 1, ?_, ha_.keep [1, 2, 3] (by kernel_rfl), ?_⟩
     ·
      show n - (i + 1) < n - i; omega
     ·
      exact ⟨by omega, hst_, HB4, HL, HE, HA⟩
    intro h29
    refine Yq 32 18 <| Ydn <| ZF <| WE.skip <| WQ.blkN <| Zn ?_
    have hst_ : ∀ j, j < i + 1 → okAt (rws xs) j = true := fun j h_ => (Nat.lt_succ_iff_lt_or_eq.1 h_).elim (hok j) (fun e_ => by rw [e_]; exact okX_t h16 (.inr ⟨h24, fun h_ => absurd (congrArg str h_.1) h29⟩))
    refine WE.region <| Zr 1 <| Zw 35 ((i : Int) + 1) ((i + 1 : Nat) : Int) <| Zr 1 <| Zd <| WQ.round ?_
    intro a_ ha_
    refine ⟨i + 1, ?_, ha_.keep [1, 2, 3] (by kernel_rfl), ?_⟩
    ·
     show n - (i + 1) < n - i; omega
    ·
     exact ⟨by omega, hst_, HB4, HL, HE, HA⟩
   intro h19
   refine Yq 2 48 <| Ydn <| ZF <| WE.skip <| WQ.blkN <| Zn ?_
   have hst_ : ∀ j, j < i + 1 → okAt (rws xs) j = true := fun j h_ => (Nat.lt_succ_iff_lt_or_eq.1 h_).elim (hok j) (fun e_ => by rw [e_]; exact okX_t h16 (.inl (by omega)))
   refine WE.region <| Zr 1 <| Zw 35 ((i : Int) + 1) ((i + 1 : Nat) : Int) <| Zr 1 <| Zd <| WQ.round ?_
   intro a_ ha_
   refine ⟨i + 1, ?_, ha_.keep [1, 2, 3] (by kernel_rfl), ?_⟩
   ·
    show n - (i + 1) < n - i; omega
   ·
    exact ⟨by omega, hst_, HB4, HL, HE, HA⟩
  intro h16
  refine Zdn <| Zq <| Zsg <| Zr 2 <| Zdn <| ZT <| Zsg <| Zr 1 <| Zdn <| WE.ret <| WQ.thenR <| WQ.blkR <| WQ.thenR <| WQ.thenR <| WQ.blkR <| WQ.thenR <| ZR (.bool false) ?_
  exact ⟨by rw [mayX_f2 hn (i := i) (by omega) (okX_f1 h16)], (HA.step0 F15)⟩
 intro h11
 refine Zdn <| ZF <| WE.exit <| WQ.thenE <| WQ.thenE <| WQ.blkE <| Zn <| Zsg <| Zr 1 <| Zdn <| WE.ret <| ZR (.bool true) ?_
 exact ⟨by rw [mayX_t hn (by omega) (fun j h_ => hok j (by omega))], HA⟩
end Go.Proofs.YtdhonbahpcmmnaaGreatDoor.Bat
end
section
set_option linter.unusedVariables false
set_option linter.unusedSimpArgs false
namespace Go.Proofs.YtdhonbahpcmmnaaGreatDoor.Bat
open Go Go.RowKit Go.Proofs.YtdhonbahpcmmnaaGreatDoor Go.Proofs.YtdhonbahpcmmnaaGreatDoor.Eng Go.Proofs.YtdhonbahpcmmnaaGreatDoorW.PrintWords
open Go.Proofs
open Go.Proofs.YtdhonbahpcmmnaaGreatDoor.Line
open Go.Proofs.YtdhonbahpcmmnaaGreatDoor.Wire (enc zig unzig encT St rNum rWhole rText rEnd)
end Go.Proofs.YtdhonbahpcmmnaaGreatDoor.Bat
end
section
set_option linter.unusedVariables false
set_option linter.unusedSimpArgs false
namespace Go.Proofs.YtdhonbahpcmmnaaGreatDoor.Bat
open Go Go.RowKit Go.Proofs.YtdhonbahpcmmnaaGreatDoor Go.Proofs.YtdhonbahpcmmnaaGreatDoor.Eng Go.Proofs.YtdhonbahpcmmnaaGreatDoorW.PrintWords
open Go.Proofs
open Go.Proofs.YtdhonbahpcmmnaaGreatDoor.Line
open Go.Proofs.YtdhonbahpcmmnaaGreatDoor.Wire (enc zig unzig encT St rNum rWhole rText rEnd)
theorem gN_mem {q : List Nat} {i : Nat} (h : i < q.length) : gN q i ∈ q := List.mem_of_getElem? (gN_some q i h)
end Go.Proofs.YtdhonbahpcmmnaaGreatDoor.Bat
end
section
set_option linter.unusedVariables false
set_option linter.unusedSimpArgs false
namespace Go.Proofs.YtdhonbahpcmmnaaGreatDoor.Bat
open Go Go.RowKit Go.Proofs.YtdhonbahpcmmnaaGreatDoor Go.Proofs.YtdhonbahpcmmnaaGreatDoor.Eng Go.Proofs.YtdhonbahpcmmnaaGreatDoorW.PrintWords
open Go.Proofs
open Go.Proofs.YtdhonbahpcmmnaaGreatDoor.Line
open Go.Proofs.YtdhonbahpcmmnaaGreatDoor.Wire (enc zig unzig encT St rNum rWhole rText rEnd)
theorem et_n : ET Tryz.prog 52 46 1 8 := by
 obtain ⟨i, h1, h2, h3, h4⟩ := info_parts (P := Tryz.prog) (e := 46) (z := .int .u64 0) (size := 1) (bytes := 8) (by kernel_rfl)
 exact ⟨by kernel_rfl, ⟨i, _, h1, h2, h3, h4, rfl⟩, by decide⟩
theorem et_w : ET Tryz.prog 22 54 8 88 := by
 obtain ⟨i, h1, h2, h3, h4⟩ := info_parts (P := Tryz.prog) (e := 54) (z := .agg #[.string ⟨#[]⟩, .int .i64 0, .int .u64 0, .int .i64 0, .int .i64 0, .int .i64 0, .bool false, .slice none 0 0]) (size := 8) (bytes := 88) (by kernel_rfl)
 exact ⟨by kernel_rfl, ⟨i, _, h1, h2, h3, h4, rfl⟩, by decide⟩
end Go.Proofs.YtdhonbahpcmmnaaGreatDoor.Bat
end
