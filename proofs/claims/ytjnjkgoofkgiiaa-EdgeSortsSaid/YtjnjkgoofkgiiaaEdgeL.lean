/- Layer 2's law EdgeSorts. -/
import Derived.Test.YtjnjkgoofkgiiaaEdgeO
set_option linter.unusedVariables false
set_option linter.unusedSimpArgs false
namespace Go.Proofs.Ytjnjkgoofkgiiaa.Edge
open Go Go.RowKit Go.Proofs.Ytjnjkgoofkgiiaa Go.Proofs.Ytjnjkgoofkgiiaa.Eng Go.Proofs.YtjnjkgoofkgiiaaW.PrintWords
theorem rd_at {w : World} {ad : Addr} {l : List Nat} (h : Rd w (some ad) l) {k : Nat} (hk : k < l.length) : w.cell? (ad.add k) = some (.float .f64 (g0 l k)) := by
  obtain ⟨a, ha, hc⟩ := h k hk
  obtain rfl := Option.some.inj ha
  exact hc
theorem flat_cF (l : List Nat) : (l.map cF).flatten = l.map (fun x => (.float .f64 x : Value)) := by
  induction l with
  | nil => rfl
  | cons x l ih => simp [cF, ih]
theorem src_of_rd {w : World} {A : Option Addr} {n cap : Nat} {l : List Nat} (hn : l.length = n) (h : Rd w A l) : Src w (.slice A n cap) n (l.map cF).flatten 1 := by
  refine ⟨_, _, rfl, by rw [flat_len _ (cF_len l), List.length_map, hn], fun hp => ?_, flat_one (cF_one l)⟩
  obtain ⟨ad, hA, _⟩ := h 0 (by omega)
  subst hA
  refine ⟨ad, rfl, fun j u hu => ?_⟩
  rw [flat_cF, List.getElem?_map] at hu
  by_cases hj : j < l.length
  · rw [g0_get? hj] at hu
    obtain rfl := Option.some.inj hu
    exact rd_at h hj
  · rw [List.getElem?_eq_none (by omega)] at hu
    cases hu
theorem not_less {p : List Nat} {n i j : Nat} (h : Srt (rk p) 0 n) (hij : j < i) (hi : i < n) : lessB (g0 p i) (g0 p j) = false := by
  have h1 := h j i (Nat.zero_le _) hij hi
  unfold lessB
  unfold rk at h1
  exact decide_eq_false (by omega)
/-- how often v comes among the first j of l, less how often among those of p -/
def cnt (l p : List Nat) (v : Nat) : Nat → Int
  | 0 => 0
  | j + 1 => cnt l p v j + (if alikeB (g0 l j) v then 1 else 0) - (if alikeB (g0 p j) v then 1 else 0)
theorem cnt_le (l p : List Nat) (v : Nat) : ∀ j : Nat, -(j : Int) ≤ cnt l p v j ∧ cnt l p v j ≤ j
  | 0 => by simp [cnt]
  | j + 1 => by
    have := cnt_le l p v j
    rw [cnt]
    split <;> split <;> omega
theorem cnt_take (l p : List Nat) (v : Nat) : ∀ j, j ≤ l.length → j ≤ p.length → cnt l p v j = ((l.take j).countP (fun x => alikeB x v) : Int) - ((p.take j).countP (fun x => alikeB x v) : Int)
  | 0, _, _ => by simp [cnt]
  | j + 1, h1, h2 => by
    rw [cnt, cnt_take l p v j (by omega) (by omega), List.take_succ_eq_append_getElem (by omega), List.take_succ_eq_append_getElem (by omega), List.countP_append, List.countP_append, g0_get (by omega), g0_get (by omega)]
    simp only [List.countP_singleton]
    split <;> split <;> simp <;> omega
theorem cnt_all {l p : List Nat} {n j : Nat} (hn : l.length = n) (h : PIn 0 n l p) (v : Nat) (hj : j = n) : cnt l p v j = 0 := by
  have hl := h.len
  rw [cnt_take l p v j (by omega) (by omega), List.take_of_length_le (by omega), List.take_of_length_le (by omega), h.perm.countP_eq]
  omega
set_option maxRecDepth 100000 in
set_option maxHeartbeats 2000000 in
theorem sorts_f (A : Option Addr) (n cap : Nat) (l : List Nat) (w : World) (hn : l.length = n) (hm : n ≤ 9223372036854775807) (hall : All l) (hrd : Rd w A l) :
    Calls Try.prog 8 #[.slice A n cap] w fun e w' => e = .returned (.bool (true)) ∧ Fr [] w w' := by
  have HA := Fr.refl [] w
  refine enter (N := 87) Try.func8 (c := _) rfl (by kernel_rfl) (by kernel_rfl) (e := [(0, .slice A n cap)]) (by kernel_rfl) ?_
  refine WE.seq ?_
  -- R0 law.go:45
  refine WE.region ?_
  refine WO.run 1 0 [(2, .bool false)] (by kernel_rfl) (by kernel_rfl) ?_
  refine WO.done (by kernel_rfl) ?_
  refine WQ.keep [0, 2] (e' := [(0, .slice A n cap), (2, .bool false)]) (by kernel_rfl) ?_
  refine WQ.thenN ?_
  refine WE.seq ?_
  -- R1 law.go:46
  refine WE.region ?_
  refine WO.call (SQ.E 0 (by kernel_rfl)) 9 (by kernel_rfl) (up_f _) ?_
  rintro _ w1 ⟨rfl, F2⟩
  refine ⟨_, rfl, trivial, ?_⟩
  have HA := Fr.step0 HA F2
  refine WO.run 1 1 [(3, .bool true)] (by kernel_rfl) (by kernel_rfl) ?_
  refine WO.done (by kernel_rfl) ?_
  refine WQ.keep [0, 2, 3] (e' := [(0, .slice A n cap), (2, .bool false), (3, .bool true)]) (by kernel_rfl) ?_
  refine WQ.thenN ?_
  refine WE.seq ?_
  refine WE.seq ?_
  -- R2 law.go:47
  refine WE.region ?_
  refine WO.run 2 0 [(11, .int .i64 (n : Int)), (10, .slice A n cap)] (by kernel_rfl) (by kernel_rfl) ?_
  refine WO.one (SQ.F 2 (by kernel_rfl)) 12 (.bool (decide (((n : Int) : Int) > (100 : Int)))) (by kernel_rfl) ?_
  refine WO.topP (((n : Int) : Int) > (100 : Int)) ?_ ?_
  · intro h3
    refine WO.done (by kernel_rfl) ?_
    refine WQ.keep [0, 2, 3, 12] (e' := [(0, .slice A n cap), (2, .bool false), (3, .bool true), (12, .bool true)]) (by kernel_rfl) ?_
    refine WQ.thenN ?_
    refine WE.condT (by kernel_rfl) ?_
    refine WE.seq ?_
    -- R3 law.go:48
    refine WE.region ?_
    refine WO.run 2 0 [(2, .bool true), (13, .bool true)] (by kernel_rfl) (by kernel_rfl) ?_
    refine WO.done (by kernel_rfl) ?_
    refine WQ.keep [0, 2, 3, 12] (e' := [(0, .slice A n cap), (2, .bool true), (3, .bool true), (12, .bool true)]) (by kernel_rfl) ?_
    refine WQ.thenN ?_
    refine WE.ret ?_
    refine WQ.thenR ?_
    refine WQ.ret (v := .bool true) (by kernel_rfl) ?_
    exact ⟨rfl, HA⟩
  · intro h3
    refine WO.done (by kernel_rfl) ?_
    refine WQ.keep [0, 2, 3, 12] (e' := [(0, .slice A n cap), (2, .bool false), (3, .bool true), (12, .bool false)]) (by kernel_rfl) ?_
    refine WQ.thenN ?_
    refine WE.condF (by kernel_rfl) ?_
    refine WE.skip ?_
    refine WQ.thenN ?_
    refine WE.seq ?_
    -- R4 law.go:50
    refine WE.region ?_
    refine WO.bx (SQ.E 0 (by kernel_rfl)) 14 #[] 53 (fun g => .slice (some ⟨g, 0, none⟩) 0 0) (by kernel_rfl) (fun _ _ => trivial) ?_
    intro g4 w5 HB7 F6 le8 _
    have ge_HA_g4 := Nat.le_trans HA.size le8
    have HA := Fr.step0 HA F6
    refine WO.run 1 1 [(15, .slice A n cap)] (by kernel_rfl) (by kernel_rfl) ?_
    have HR14 := RowB.of_blk (n := 0) HB7 (List.map cF []) rfl rfl (cF_len _) (cF_one _) (by omega)
    refine WO.appRow (SQ.E 2 (by kernel_rfl)) 16 (n := 0) (m := n) (ys := List.map cF l) et_f HR14 ((List.length_map _).trans ((rfl : List.length ([] : List Nat) = 0))) (by rw [List.length_map] <;> first | rfl | omega | (simp <;> omega)) ((src_of_rd (cap := cap) hn hrd).mono HA) (cF_len _) (cF_one _) (by kernel_rfl) (by omega) (by omega) (fun _ _ => trivial) ?_
    intro b9 cap10 w11 HR12 F13 hb15
    have in_HA_b9 : b9 ∈ [] ∨ (World.heap w).size ≤ b9 := hb15.elim (fun h => Or.inr (h ▸ ge_HA_g4)) (fun h => Or.inr (Nat.le_trans HA.size h))
    have HA := Fr.step HA F13 (inSR ge_HA_g4 inS0)
    have HR12 : RowB w11 b9 53 1 cap10 ((([] : List Nat) ++ l).map cF) := by rw [List.map_append]; exact HR12
    refine WO.run 1 3 [(4, .slice (some ⟨b9, 0, none⟩) (0 + n) cap10)] (by kernel_rfl) (by kernel_rfl) ?_
    refine WO.done (by kernel_rfl) ?_
    refine WQ.keep [0, 2, 3, 4, 12] (e' := [(0, .slice A n cap), (2, .bool false), (3, .bool true), (4, .slice (some ⟨b9, 0, none⟩) (0 + n) cap10), (12, .bool false)]) (by kernel_rfl) ?_
    refine WQ.thenN ?_
    refine WE.seq ?_
    rw [List.nil_append] at HR12
    refine WE.env (e' := [(0, .slice A n cap), (2, .bool false), (3, .bool true), (4, .slice (some ⟨b9, 0, none⟩) n cap10), (12, .bool false)]) (by rw [Nat.zero_add]) ?_
    -- R5 law.go:51
    refine WE.region ?_
    refine WO.run 1 0 [(17, .slice (some ⟨b9, 0, none⟩) n cap10)] (by kernel_rfl) (by kernel_rfl) ?_
    refine WO.call (SQ.E 1 (by kernel_rfl)) 18 (by kernel_rfl) (sort_n ⟨b9, 0, none⟩ n cap10 l _ hn (by omega) (by have h_ := HR12.src; rw [List.length_map, hn] at h_; exact h_) hall (by omega)) ?_
    rintro _ w16 ⟨bs, caps, p, rfl, hPp, hSp, HR18, F17, le19⟩
    refine ⟨_, rfl, trivial, ?_⟩
    have ne_b9_bs : b9 ≠ bs := Nat.ne_of_lt (Nat.lt_of_lt_of_le HR12.lt le19)
    have ge_HA_bs := Nat.le_trans HA.size le19
    have HR12 := RowB.keep HR12 F17 (nin0 _)
    have HA := Fr.step0 HA F17
    refine WO.run 1 2 [(5, .slice (some ⟨bs, 0, none⟩) n caps)] (by kernel_rfl) (by kernel_rfl) ?_
    refine WO.done (by kernel_rfl) ?_
    refine WQ.keep [0, 2, 3, 4, 5, 12] (e' := [(0, .slice A n cap), (2, .bool false), (3, .bool true), (4, .slice (some ⟨b9, 0, none⟩) n cap10), (5, .slice (some ⟨bs, 0, none⟩) n caps), (12, .bool false)]) (by kernel_rfl) ?_
    refine WQ.thenN ?_
    refine WE.seq ?_
    refine WE.seq ?_
    -- R6 law.go:52
    refine WE.region ?_
    refine WO.run 4 0 [(22, .int .i64 (n : Int)), (21, .slice A n cap), (20, .int .i64 (n : Int)), (19, .slice (some ⟨bs, 0, none⟩) n caps)] (by kernel_rfl) (by kernel_rfl) ?_
    refine WO.one (SQ.F 4 (by kernel_rfl)) 23 (.bool (!decide (((n : Int) : Int) = (n : Int)))) (by kernel_rfl) ?_
    refine WO.topNT (((n : Int) : Int) = (n : Int)) (by rfl) ?_
    refine WO.done (by kernel_rfl) ?_
    refine WQ.keep [0, 2, 3, 4, 5, 12, 23] (e' := [(0, .slice A n cap), (2, .bool false), (3, .bool true), (4, .slice (some ⟨b9, 0, none⟩) n cap10), (5, .slice (some ⟨bs, 0, none⟩) n caps), (12, .bool false), (23, .bool false)]) (by kernel_rfl) ?_
    refine WQ.thenN ?_
    refine WE.condF (by kernel_rfl) ?_
    refine WE.skip ?_
    refine WQ.thenN ?_
    refine WE.seq ?_
    refine WE.seq ?_
    -- R8 law.go:55
    refine WE.region ?_
    refine WO.run 1 0 [(6, .int .i64 0)] (by kernel_rfl) (by kernel_rfl) ?_
    refine WO.done (by kernel_rfl) ?_
    refine WQ.keep [0, 2, 3, 4, 5, 6, 12, 23] (e' := [(0, .slice A n cap), (2, .bool false), (3, .bool true), (4, .slice (some ⟨b9, 0, none⟩) n cap10), (5, .slice (some ⟨bs, 0, none⟩) n caps), (6, .int .i64 0), (12, .bool false), (23, .bool false)]) (by kernel_rfl) ?_
    refine WQ.thenN ?_
    refine WE.block ?_
    refine WE.loop (α := Nat) (E := fun i => [(0, .slice A n cap), (3, .bool true), (4, .slice (some ⟨b9, 0, none⟩) n cap10), (5, .slice (some ⟨bs, 0, none⟩) n caps), (6, .int .i64 (i : Int))]) (I := fun i wr => i ≤ n ∧ RowB wr b9 53 1 cap10 (l.map cF) ∧ RowB wr bs 53 1 caps (p.map cF) ∧ Fr [] w wr) (m := fun i => n - i) 0 [0, 3, 4, 5, 6] (by kernel_rfl) ?_ ?_
    · exact ⟨Nat.zero_le _, HR12, HR18, HA⟩
    rintro i wr ⟨hi, H1, H2, HA⟩
    refine WE.seq ?_
    refine WE.seq ?_
    -- R9 law.go:55
    refine WE.region ?_
    refine WO.run 3 0 [(26, .int .i64 (n : Int)), (25, .slice A n cap), (24, .int .i64 (i : Int))] (by kernel_rfl) (by kernel_rfl) ?_
    refine WO.one (SQ.F 3 (by kernel_rfl)) 27 (.bool (decide (((i : Int) : Int) < (n : Int)))) (by kernel_rfl) ?_
    refine WO.topP (((i : Int) : Int) < (n : Int)) ?_ ?_
    · intro h20
      refine WO.done (by kernel_rfl) ?_
      refine WQ.keep [0, 3, 4, 5, 6, 27] (e' := [(0, .slice A n cap), (3, .bool true), (4, .slice (some ⟨b9, 0, none⟩) n cap10), (5, .slice (some ⟨bs, 0, none⟩) n caps), (6, .int .i64 (i : Int)), (27, .bool true)]) (by kernel_rfl) ?_
      refine WQ.thenN ?_
      refine WE.condT (by kernel_rfl) ?_
      refine WE.skip ?_
      refine WQ.thenN ?_
      refine WE.seq ?_
      refine WE.block ?_
      refine WE.seq ?_
      refine WE.seq ?_
      -- R11* law.go:56
      refine WE.draw [.free, .free, .free, .still, .free, .free, .free, .still, .eff, .free, .free, .free, .free, .free, .free, .free, .free, .still, .free, .free, .free, .free, .still, .eff, .free, .free] Same sameR (by kernel_rfl) 26 (Array.replicate 26 false) (by kernel_rfl) rfl ?_
      intro w21 F22 _
      have H1 := RowB.keep H1 F22 (nin0 _)
      have H2 := RowB.keep H2 F22 (nin0 _)
      have HA := Fr.step0 HA F22
      refine WO.one (SA.F sameR sameT _ 0 _ (by kernel_rfl)) 30 (.slice (some ⟨b9, 0, none⟩) n cap10) (by kernel_rfl) ?_
      refine WO.one (SA.F sameR sameT _ 1 _ (by kernel_rfl)) 31 (.int .i64 (i : Int)) (by kernel_rfl) ?_
      refine WO.ixB (SA.F sameR sameT _ 2 _ (by kernel_rfl)) 32 i b9 0 n 1 (i : Int) (by kernel_rfl) (by omega) (by omega) (by omega) ?_
      refine WO.ld (SA.S sameR sameT _ 3 _ (by kernel_rfl)) 33 (.float .f64 (g0 l i)) (by kernel_rfl) (same (H1.at i 0 i _ (by rw [List.length_map]; have := hn; omega) (by omega) (by rw [(map_atF l i (by have := hn; omega))]; rfl) (by omega))) ?_
      refine WO.one (SA.F sameR sameT _ 4 _ (by kernel_rfl)) 34 (.slice A n cap) (by kernel_rfl) ?_
      refine WO.one (SA.F sameR sameT _ 5 _ (by kernel_rfl)) 35 (.int .i64 (i : Int)) (by kernel_rfl) ?_
      obtain ⟨ad_l, hA_l, hcl_l⟩ := hrd i (by omega)
      subst hA_l
      refine WO.ix (SA.F sameR sameT _ 6 _ (by kernel_rfl)) 36 (ad_l.add i) ad_l n 1 (i : Int) (by kernel_rfl) (by omega) (by omega) (by congr 1 <;> omega) ?_
      refine WO.ld (SA.S sameR sameT _ 7 _ (by kernel_rfl)) 37 (.float .f64 (g0 l i)) (by kernel_rfl) (same (HA.cell0 (rd_at hrd (show i < l.length by omega)))) ?_
      refine WO.call (SA.E _ 8 _ (by kernel_rfl) rfl) 38 (by kernel_rfl) (same_f (g0 l i) (g0 l i) _ (hall _ (by omega)) (hall _ (by omega))) ?_
      rintro _ w23 ⟨rfl, F24⟩
      refine ⟨_, rfl, trivial, ?_⟩
      have H1 := RowB.keep H1 F24 (nin0 _)
      have H2 := RowB.keep H2 F24 (nin0 _)
      have HA := Fr.step0 HA F24
      refine WO.top (v' := .bool true) (congrArg Value.bool (by exact decide_eq_true rfl)) ?_
      refine WO.one (SA.F sameR sameT _ 9 _ (by kernel_rfl)) 39 (.bool false) (by kernel_rfl) ?_
      refine WO.one (SA.F sameR sameT _ 10 _ (by kernel_rfl)) 40 (.bool false) (by kernel_rfl) ?_
      refine WO.one (SA.F sameR sameT _ 11 _ (by kernel_rfl)) 41 (.int .i64 (i : Int)) (by kernel_rfl) ?_
      refine WO.one (SA.F sameR sameT _ 12 _ (by kernel_rfl)) 42 (.bool (decide (((i : Int) : Int) > (0 : Int)))) (by kernel_rfl) ?_
      refine WO.topP (((i : Int) : Int) > (0 : Int)) ?_ ?_
      · intro h25
        refine WO.one (SA.F sameR sameT _ 13 _ (by kernel_rfl)) 43 (.bool true) (by kernel_rfl) ?_
        refine WO.one (SA.F sameR sameT _ 14 _ (by kernel_rfl)) 44 (.slice (some ⟨bs, 0, none⟩) n caps) (by kernel_rfl) ?_
        refine WO.one (SA.F sameR sameT _ 15 _ (by kernel_rfl)) 45 (.int .i64 (i : Int)) (by kernel_rfl) ?_
        refine WO.ixB (SA.F sameR sameT _ 16 _ (by kernel_rfl)) 46 i bs 0 n 1 (i : Int) (by kernel_rfl) (by omega) (by omega) (by omega) ?_
        refine WO.ld (SA.S sameR sameT _ 17 _ (by kernel_rfl)) 47 (.float .f64 (g0 p i)) (by kernel_rfl) (same (H2.at i 0 i _ (by rw [List.length_map]; have := hPp.len.trans hn; omega) (by omega) (by rw [(map_atF p i (by have := hPp.len.trans hn; omega))]; rfl) (by omega))) ?_
        refine WO.one (SA.F sameR sameT _ 18 _ (by kernel_rfl)) 48 (.slice (some ⟨bs, 0, none⟩) n caps) (by kernel_rfl) ?_
        refine WO.one (SA.F sameR sameT _ 19 _ (by kernel_rfl)) 49 (.int .i64 (i : Int)) (by kernel_rfl) ?_
        refine WO.one (SA.F sameR sameT _ 20 _ (by kernel_rfl)) 50 (.int .i64 (IntKind.i64.wrap ((i : Int) - 1))) (by kernel_rfl) ?_
        refine WO.top (v' := .int .i64 ((i - 1 : Nat) : Int)) (wrap_i64 (by omega) (by omega)) ?_
        refine WO.ixB (SA.F sameR sameT _ 21 _ (by kernel_rfl)) 51 (i - 1) bs 0 n 1 ((i - 1 : Nat) : Int) (by kernel_rfl) (by omega) (by omega) (by omega) ?_
        refine WO.ld (SA.S sameR sameT _ 22 _ (by kernel_rfl)) 52 (.float .f64 (g0 p (i - 1))) (by kernel_rfl) (same (H2.at (i - 1) 0 (i - 1) _ (by rw [List.length_map]; have := hPp.len.trans hn; omega) (by omega) (by rw [(map_atF p (i - 1) (by have := hPp.len.trans hn; omega))]; rfl) (by omega))) ?_
        refine WO.call (SA.E _ 23 _ (by kernel_rfl) rfl) 53 (by kernel_rfl) (refless_f (g0 p i) (g0 p (i - 1)) _ ((hPp.allB hall) _ (by have := hPp.len; omega)) ((hPp.allB hall) _ (by have := hPp.len; omega))) ?_
        rintro _ w26 ⟨rfl, F27⟩
        refine ⟨_, rfl, trivial, ?_⟩
        have H1 := RowB.keep H1 F27 (nin0 _)
        have H2 := RowB.keep H2 F27 (nin0 _)
        have HA := Fr.step0 HA F27
        refine WO.top (v' := .bool false) (congrArg Value.bool (by exact not_less hSp (by omega) (by omega))) ?_
        refine WO.one (SA.F sameR sameT _ 24 _ (by kernel_rfl)) 54 (.bool false) (by kernel_rfl) ?_
        refine WO.one (SA.F sameR sameT _ 25 _ (by kernel_rfl)) 55 (.bool false) (by kernel_rfl) ?_
        refine WO.doneA (by kernel_rfl) ?_
        refine WQ.keep [0, 3, 4, 5, 6, 27, 55] (e' := [(0, .slice (some ad_l) n cap), (3, .bool true), (4, .slice (some ⟨b9, 0, none⟩) n cap10), (5, .slice (some ⟨bs, 0, none⟩) n caps), (6, .int .i64 (i : Int)), (27, .bool true), (55, .bool false)]) (by kernel_rfl) ?_
        refine WQ.thenN ?_
        refine WE.condF (by kernel_rfl) ?_
        refine WE.skip ?_
        refine WQ.thenN ?_
        refine WE.seq ?_
        -- R13 law.go:59
        refine WE.region ?_
        refine WO.run 1 0 [(7, .int .i64 0)] (by kernel_rfl) (by kernel_rfl) ?_
        refine WO.done (by kernel_rfl) ?_
        refine WQ.keep [0, 3, 4, 5, 6, 7, 27, 55] (e' := [(0, .slice (some ad_l) n cap), (3, .bool true), (4, .slice (some ⟨b9, 0, none⟩) n cap10), (5, .slice (some ⟨bs, 0, none⟩) n caps), (6, .int .i64 (i : Int)), (7, .int .i64 0), (27, .bool true), (55, .bool false)]) (by kernel_rfl) ?_
        refine WQ.thenN ?_
        refine WE.seq ?_
        refine WE.seq ?_
        -- R14 law.go:60
        refine WE.region ?_
        refine WO.run 1 0 [(8, .int .i64 0)] (by kernel_rfl) (by kernel_rfl) ?_
        refine WO.done (by kernel_rfl) ?_
        refine WQ.keep [0, 3, 4, 5, 6, 7, 8, 27, 55] (e' := [(0, .slice (some ad_l) n cap), (3, .bool true), (4, .slice (some ⟨b9, 0, none⟩) n cap10), (5, .slice (some ⟨bs, 0, none⟩) n caps), (6, .int .i64 (i : Int)), (7, .int .i64 0), (8, .int .i64 0), (27, .bool true), (55, .bool false)]) (by kernel_rfl) ?_
        refine WQ.thenN ?_
        refine WE.block ?_
        refine WE.loop (α := Nat × Int) (E := fun z => [(0, .slice (some ad_l) n cap), (3, .bool true), (4, .slice (some ⟨b9, 0, none⟩) n cap10), (5, .slice (some ⟨bs, 0, none⟩) n caps), (6, .int .i64 (i : Int)), (7, .int .i64 z.2), (8, .int .i64 (z.1 : Int))]) (I := fun z wk => z.1 ≤ n ∧ z.2 = cnt l p (g0 l i) z.1 ∧ RowB wk b9 53 1 cap10 (l.map cF) ∧ RowB wk bs 53 1 caps (p.map cF) ∧ Fr [] w wk) (m := fun z => n - z.1) (0, 0) [0, 3, 4, 5, 6, 7, 8] (by kernel_rfl) ?_ ?_
        · exact ⟨Nat.zero_le _, rfl, H1, H2, HA⟩
        rintro ⟨j, v⟩ wk ⟨hj, hv, H1, H2, HA⟩
        dsimp only at hj hv
        have hcb := cnt_le l p (g0 l i) j
        rw [← hv] at hcb
        refine WE.seq ?_
        refine WE.seq ?_
        -- R15 law.go:60
        refine WE.region ?_
        refine WO.run 3 0 [(58, .int .i64 (n : Int)), (57, .slice (some ad_l) n cap), (56, .int .i64 (j : Int))] (by kernel_rfl) (by kernel_rfl) ?_
        refine WO.one (SQ.F 3 (by kernel_rfl)) 59 (.bool (decide (((j : Int) : Int) < (n : Int)))) (by kernel_rfl) ?_
        refine WO.topP (((j : Int) : Int) < (n : Int)) ?_ ?_
        · intro h28
          refine WO.done (by kernel_rfl) ?_
          refine WQ.keep [0, 3, 4, 5, 6, 7, 8, 59] (e' := [(0, .slice (some ad_l) n cap), (3, .bool true), (4, .slice (some ⟨b9, 0, none⟩) n cap10), (5, .slice (some ⟨bs, 0, none⟩) n caps), (6, .int .i64 (i : Int)), (7, .int .i64 v), (8, .int .i64 (j : Int)), (59, .bool true)]) (by kernel_rfl) ?_
          refine WQ.thenN ?_
          refine WE.condT (by kernel_rfl) ?_
          refine WE.skip ?_
          refine WQ.thenN ?_
          refine WE.seq ?_
          refine WE.block ?_
          refine WE.seq ?_
          refine WE.seq ?_
          -- R17* law.go:61
          refine WE.draw [.free, .free, .free, .still, .free, .free, .free, .still, .eff] Same sameR (by kernel_rfl) 9 (Array.replicate 9 false) (by kernel_rfl) rfl ?_
          intro w29 F30 _
          have H1 := RowB.keep H1 F30 (nin0 _)
          have H2 := RowB.keep H2 F30 (nin0 _)
          have HA := Fr.step0 HA F30
          refine WO.one (SA.F sameR sameT _ 0 _ (by kernel_rfl)) 62 (.slice (some ad_l) n cap) (by kernel_rfl) ?_
          refine WO.one (SA.F sameR sameT _ 1 _ (by kernel_rfl)) 63 (.int .i64 (j : Int)) (by kernel_rfl) ?_
          refine WO.ix (SA.F sameR sameT _ 2 _ (by kernel_rfl)) 64 (ad_l.add j) ad_l n 1 (j : Int) (by kernel_rfl) (by omega) (by omega) (by congr 1 <;> omega) ?_
          refine WO.ld (SA.S sameR sameT _ 3 _ (by kernel_rfl)) 65 (.float .f64 (g0 l j)) (by kernel_rfl) (same (HA.cell0 (rd_at hrd (show j < l.length by omega)))) ?_
          refine WO.one (SA.F sameR sameT _ 4 _ (by kernel_rfl)) 66 (.slice (some ad_l) n cap) (by kernel_rfl) ?_
          refine WO.one (SA.F sameR sameT _ 5 _ (by kernel_rfl)) 67 (.int .i64 (i : Int)) (by kernel_rfl) ?_
          refine WO.ix (SA.F sameR sameT _ 6 _ (by kernel_rfl)) 68 (ad_l.add i) ad_l n 1 (i : Int) (by kernel_rfl) (by omega) (by omega) (by congr 1 <;> omega) ?_
          refine WO.ld (SA.S sameR sameT _ 7 _ (by kernel_rfl)) 69 (.float .f64 (g0 l i)) (by kernel_rfl) (same (HA.cell0 (rd_at hrd (show i < l.length by omega)))) ?_
          refine WO.call (SA.E _ 8 _ (by kernel_rfl) rfl) 70 (by kernel_rfl) (same_f (g0 l j) (g0 l i) _ (hall _ (by omega)) (hall _ (by omega))) ?_
          rintro _ w31 ⟨rfl, F32⟩
          refine ⟨_, rfl, trivial, ?_⟩
          have H1 := RowB.keep H1 F32 (nin0 _)
          have H2 := RowB.keep H2 F32 (nin0 _)
          have HA := Fr.step0 HA F32
          refine WO.topB (alikeB (g0 l j) (g0 l i)) ?_ ?_
          · intro h33
            refine WO.doneA (by kernel_rfl) ?_
            refine WQ.keep [0, 3, 4, 5, 6, 7, 8, 59, 70] (e' := [(0, .slice (some ad_l) n cap), (3, .bool true), (4, .slice (some ⟨b9, 0, none⟩) n cap10), (5, .slice (some ⟨bs, 0, none⟩) n caps), (6, .int .i64 (i : Int)), (7, .int .i64 v), (8, .int .i64 (j : Int)), (59, .bool true), (70, .bool true)]) (by kernel_rfl) ?_
            refine WQ.thenN ?_
            refine WE.condT (by kernel_rfl) ?_
            -- R18 law.go:62
            refine WE.region ?_
            refine WO.run 1 0 [(71, .int .i64 v)] (by kernel_rfl) (by kernel_rfl) ?_
            refine WO.one (SQ.F 1 (by kernel_rfl)) 72 (.int .i64 (IntKind.i64.wrap (v + 1))) (by kernel_rfl) ?_
            refine WO.top (v' := .int .i64 (v + 1)) (wrap_i64 (by omega) (by omega)) ?_
            refine WO.run 1 2 [(7, .int .i64 (v + 1))] (by kernel_rfl) (by kernel_rfl) ?_
            refine WO.done (by kernel_rfl) ?_
            refine WQ.keep [0, 3, 4, 5, 6, 7, 8, 59, 70] (e' := [(0, .slice (some ad_l) n cap), (3, .bool true), (4, .slice (some ⟨b9, 0, none⟩) n cap10), (5, .slice (some ⟨bs, 0, none⟩) n caps), (6, .int .i64 (i : Int)), (7, .int .i64 (v + 1)), (8, .int .i64 (j : Int)), (59, .bool true), (70, .bool true)]) (by kernel_rfl) ?_
            refine WQ.thenN ?_
            refine WE.seq ?_
            -- R19* law.go:64
            refine WE.draw [.free, .free, .free, .still, .free, .free, .free, .still, .eff] Same sameR (by kernel_rfl) 9 (Array.replicate 9 false) (by kernel_rfl) rfl ?_
            intro w34 F35 _
            have H1 := RowB.keep H1 F35 (nin0 _)
            have H2 := RowB.keep H2 F35 (nin0 _)
            have HA := Fr.step0 HA F35
            refine WO.one (SA.F sameR sameT _ 0 _ (by kernel_rfl)) 73 (.slice (some ⟨bs, 0, none⟩) n caps) (by kernel_rfl) ?_
            refine WO.one (SA.F sameR sameT _ 1 _ (by kernel_rfl)) 74 (.int .i64 (j : Int)) (by kernel_rfl) ?_
            refine WO.ixB (SA.F sameR sameT _ 2 _ (by kernel_rfl)) 75 j bs 0 n 1 (j : Int) (by kernel_rfl) (by omega) (by omega) (by omega) ?_
            refine WO.ld (SA.S sameR sameT _ 3 _ (by kernel_rfl)) 76 (.float .f64 (g0 p j)) (by kernel_rfl) (same (H2.at j 0 j _ (by rw [List.length_map]; have := hPp.len.trans hn; omega) (by omega) (by rw [(map_atF p j (by have := hPp.len.trans hn; omega))]; rfl) (by omega))) ?_
            refine WO.one (SA.F sameR sameT _ 4 _ (by kernel_rfl)) 77 (.slice (some ad_l) n cap) (by kernel_rfl) ?_
            refine WO.one (SA.F sameR sameT _ 5 _ (by kernel_rfl)) 78 (.int .i64 (i : Int)) (by kernel_rfl) ?_
            refine WO.ix (SA.F sameR sameT _ 6 _ (by kernel_rfl)) 79 (ad_l.add i) ad_l n 1 (i : Int) (by kernel_rfl) (by omega) (by omega) (by congr 1 <;> omega) ?_
            refine WO.ld (SA.S sameR sameT _ 7 _ (by kernel_rfl)) 80 (.float .f64 (g0 l i)) (by kernel_rfl) (same (HA.cell0 (rd_at hrd (show i < l.length by omega)))) ?_
            refine WO.call (SA.E _ 8 _ (by kernel_rfl) rfl) 81 (by kernel_rfl) (same_f (g0 p j) (g0 l i) _ ((hPp.allB hall) _ (by have := hPp.len; omega)) (hall _ (by omega))) ?_
            rintro _ w36 ⟨rfl, F37⟩
            refine ⟨_, rfl, trivial, ?_⟩
            have H1 := RowB.keep H1 F37 (nin0 _)
            have H2 := RowB.keep H2 F37 (nin0 _)
            have HA := Fr.step0 HA F37
            refine WO.topB (alikeB (g0 p j) (g0 l i)) ?_ ?_
            · intro h38
              refine WO.doneA (by kernel_rfl) ?_
              refine WQ.keep [0, 3, 4, 5, 6, 7, 8, 59, 70, 81] (e' := [(0, .slice (some ad_l) n cap), (3, .bool true), (4, .slice (some ⟨b9, 0, none⟩) n cap10), (5, .slice (some ⟨bs, 0, none⟩) n caps), (6, .int .i64 (i : Int)), (7, .int .i64 (v + 1)), (8, .int .i64 (j : Int)), (59, .bool true), (70, .bool true), (81, .bool true)]) (by kernel_rfl) ?_
              refine WQ.thenN ?_
              refine WE.condT (by kernel_rfl) ?_
              -- R20 law.go:65
              refine WE.region ?_
              refine WO.run 1 0 [(82, .int .i64 (v + 1))] (by kernel_rfl) (by kernel_rfl) ?_
              refine WO.one (SQ.F 1 (by kernel_rfl)) 83 (.int .i64 (IntKind.i64.wrap ((v + 1) - 1))) (by kernel_rfl) ?_
              refine WO.top (v' := .int .i64 ((v + 1) - 1)) (wrap_i64 (by omega) (by omega)) ?_
              refine WO.run 1 2 [(7, .int .i64 ((v + 1) - 1))] (by kernel_rfl) (by kernel_rfl) ?_
              refine WO.done (by kernel_rfl) ?_
              refine WQ.keep [0, 3, 4, 5, 6, 7, 8, 59, 70, 81] (e' := [(0, .slice (some ad_l) n cap), (3, .bool true), (4, .slice (some ⟨b9, 0, none⟩) n cap10), (5, .slice (some ⟨bs, 0, none⟩) n caps), (6, .int .i64 (i : Int)), (7, .int .i64 ((v + 1) - 1)), (8, .int .i64 (j : Int)), (59, .bool true), (70, .bool true), (81, .bool true)]) (by kernel_rfl) ?_
              refine WQ.blkN ?_
              refine WQ.thenN ?_
              -- R16 law.go:60
              refine WE.region ?_
              refine WO.run 1 0 [(60, .int .i64 (j : Int))] (by kernel_rfl) (by kernel_rfl) ?_
              refine WO.one (SQ.F 1 (by kernel_rfl)) 61 (.int .i64 (IntKind.i64.wrap ((j : Int) + 1))) (by kernel_rfl) ?_
              refine WO.top (v' := .int .i64 ((j + 1 : Nat) : Int)) (wrap_i64 (by omega) (by omega)) ?_
              refine WO.run 1 2 [(8, .int .i64 ((j + 1 : Nat) : Int))] (by kernel_rfl) (by kernel_rfl) ?_
              refine WO.done (by kernel_rfl) ?_
              refine WQ.keep [0, 3, 4, 5, 6, 7, 8, 59, 70, 81] (e' := [(0, .slice (some ad_l) n cap), (3, .bool true), (4, .slice (some ⟨b9, 0, none⟩) n cap10), (5, .slice (some ⟨bs, 0, none⟩) n caps), (6, .int .i64 (i : Int)), (7, .int .i64 ((v + 1) - 1)), (8, .int .i64 ((j + 1 : Nat) : Int)), (59, .bool true), (70, .bool true), (81, .bool true)]) (by kernel_rfl) ?_
              refine WQ.round ?_
              intro a_ ha_
              refine ⟨(j + 1, (v + 1) - 1), ?_, ha_.keep [0, 3, 4, 5, 6, 7, 8] (by kernel_rfl), ?_⟩
              · show n - (j + 1) < n - j; omega
              · exact ⟨by show j + 1 ≤ n; omega, by show _ = cnt l p (g0 l i) (j + 1); simp only [cnt, h33, h38, if_true, if_false, Bool.false_eq_true]; omega, H1, H2, HA⟩
            · intro h38
              refine WO.doneA (by kernel_rfl) ?_
              refine WQ.keep [0, 3, 4, 5, 6, 7, 8, 59, 70, 81] (e' := [(0, .slice (some ad_l) n cap), (3, .bool true), (4, .slice (some ⟨b9, 0, none⟩) n cap10), (5, .slice (some ⟨bs, 0, none⟩) n caps), (6, .int .i64 (i : Int)), (7, .int .i64 (v + 1)), (8, .int .i64 (j : Int)), (59, .bool true), (70, .bool true), (81, .bool false)]) (by kernel_rfl) ?_
              refine WQ.thenN ?_
              refine WE.condF (by kernel_rfl) ?_
              refine WE.skip ?_
              refine WQ.blkN ?_
              refine WQ.thenN ?_
              -- R16 law.go:60
              refine WE.region ?_
              refine WO.run 1 0 [(60, .int .i64 (j : Int))] (by kernel_rfl) (by kernel_rfl) ?_
              refine WO.one (SQ.F 1 (by kernel_rfl)) 61 (.int .i64 (IntKind.i64.wrap ((j : Int) + 1))) (by kernel_rfl) ?_
              refine WO.top (v' := .int .i64 ((j + 1 : Nat) : Int)) (wrap_i64 (by omega) (by omega)) ?_
              refine WO.run 1 2 [(8, .int .i64 ((j + 1 : Nat) : Int))] (by kernel_rfl) (by kernel_rfl) ?_
              refine WO.done (by kernel_rfl) ?_
              refine WQ.keep [0, 3, 4, 5, 6, 7, 8, 59, 70, 81] (e' := [(0, .slice (some ad_l) n cap), (3, .bool true), (4, .slice (some ⟨b9, 0, none⟩) n cap10), (5, .slice (some ⟨bs, 0, none⟩) n caps), (6, .int .i64 (i : Int)), (7, .int .i64 (v + 1)), (8, .int .i64 ((j + 1 : Nat) : Int)), (59, .bool true), (70, .bool true), (81, .bool false)]) (by kernel_rfl) ?_
              refine WQ.round ?_
              intro a_ ha_
              refine ⟨(j + 1, v + 1), ?_, ha_.keep [0, 3, 4, 5, 6, 7, 8] (by kernel_rfl), ?_⟩
              · show n - (j + 1) < n - j; omega
              · exact ⟨by show j + 1 ≤ n; omega, by show _ = cnt l p (g0 l i) (j + 1); simp only [cnt, h33, h38, if_true, if_false, Bool.false_eq_true]; omega, H1, H2, HA⟩
          · intro h33
            refine WO.doneA (by kernel_rfl) ?_
            refine WQ.keep [0, 3, 4, 5, 6, 7, 8, 59, 70] (e' := [(0, .slice (some ad_l) n cap), (3, .bool true), (4, .slice (some ⟨b9, 0, none⟩) n cap10), (5, .slice (some ⟨bs, 0, none⟩) n caps), (6, .int .i64 (i : Int)), (7, .int .i64 v), (8, .int .i64 (j : Int)), (59, .bool true), (70, .bool false)]) (by kernel_rfl) ?_
            refine WQ.thenN ?_
            refine WE.condF (by kernel_rfl) ?_
            refine WE.skip ?_
            refine WQ.thenN ?_
            refine WE.seq ?_
            -- R19* law.go:64
            refine WE.draw [.free, .free, .free, .still, .free, .free, .free, .still, .eff] Same sameR (by kernel_rfl) 9 (Array.replicate 9 false) (by kernel_rfl) rfl ?_
            intro w39 F40 _
            have H1 := RowB.keep H1 F40 (nin0 _)
            have H2 := RowB.keep H2 F40 (nin0 _)
            have HA := Fr.step0 HA F40
            refine WO.one (SA.F sameR sameT _ 0 _ (by kernel_rfl)) 73 (.slice (some ⟨bs, 0, none⟩) n caps) (by kernel_rfl) ?_
            refine WO.one (SA.F sameR sameT _ 1 _ (by kernel_rfl)) 74 (.int .i64 (j : Int)) (by kernel_rfl) ?_
            refine WO.ixB (SA.F sameR sameT _ 2 _ (by kernel_rfl)) 75 j bs 0 n 1 (j : Int) (by kernel_rfl) (by omega) (by omega) (by omega) ?_
            refine WO.ld (SA.S sameR sameT _ 3 _ (by kernel_rfl)) 76 (.float .f64 (g0 p j)) (by kernel_rfl) (same (H2.at j 0 j _ (by rw [List.length_map]; have := hPp.len.trans hn; omega) (by omega) (by rw [(map_atF p j (by have := hPp.len.trans hn; omega))]; rfl) (by omega))) ?_
            refine WO.one (SA.F sameR sameT _ 4 _ (by kernel_rfl)) 77 (.slice (some ad_l) n cap) (by kernel_rfl) ?_
            refine WO.one (SA.F sameR sameT _ 5 _ (by kernel_rfl)) 78 (.int .i64 (i : Int)) (by kernel_rfl) ?_
            refine WO.ix (SA.F sameR sameT _ 6 _ (by kernel_rfl)) 79 (ad_l.add i) ad_l n 1 (i : Int) (by kernel_rfl) (by omega) (by omega) (by congr 1 <;> omega) ?_
            refine WO.ld (SA.S sameR sameT _ 7 _ (by kernel_rfl)) 80 (.float .f64 (g0 l i)) (by kernel_rfl) (same (HA.cell0 (rd_at hrd (show i < l.length by omega)))) ?_
            refine WO.call (SA.E _ 8 _ (by kernel_rfl) rfl) 81 (by kernel_rfl) (same_f (g0 p j) (g0 l i) _ ((hPp.allB hall) _ (by have := hPp.len; omega)) (hall _ (by omega))) ?_
            rintro _ w41 ⟨rfl, F42⟩
            refine ⟨_, rfl, trivial, ?_⟩
            have H1 := RowB.keep H1 F42 (nin0 _)
            have H2 := RowB.keep H2 F42 (nin0 _)
            have HA := Fr.step0 HA F42
            refine WO.topB (alikeB (g0 p j) (g0 l i)) ?_ ?_
            · intro h43
              refine WO.doneA (by kernel_rfl) ?_
              refine WQ.keep [0, 3, 4, 5, 6, 7, 8, 59, 70, 81] (e' := [(0, .slice (some ad_l) n cap), (3, .bool true), (4, .slice (some ⟨b9, 0, none⟩) n cap10), (5, .slice (some ⟨bs, 0, none⟩) n caps), (6, .int .i64 (i : Int)), (7, .int .i64 v), (8, .int .i64 (j : Int)), (59, .bool true), (70, .bool false), (81, .bool true)]) (by kernel_rfl) ?_
              refine WQ.thenN ?_
              refine WE.condT (by kernel_rfl) ?_
              -- R20 law.go:65
              refine WE.region ?_
              refine WO.run 1 0 [(82, .int .i64 v)] (by kernel_rfl) (by kernel_rfl) ?_
              refine WO.one (SQ.F 1 (by kernel_rfl)) 83 (.int .i64 (IntKind.i64.wrap (v - 1))) (by kernel_rfl) ?_
              refine WO.top (v' := .int .i64 (v - 1)) (wrap_i64 (by omega) (by omega)) ?_
              refine WO.run 1 2 [(7, .int .i64 (v - 1))] (by kernel_rfl) (by kernel_rfl) ?_
              refine WO.done (by kernel_rfl) ?_
              refine WQ.keep [0, 3, 4, 5, 6, 7, 8, 59, 70, 81] (e' := [(0, .slice (some ad_l) n cap), (3, .bool true), (4, .slice (some ⟨b9, 0, none⟩) n cap10), (5, .slice (some ⟨bs, 0, none⟩) n caps), (6, .int .i64 (i : Int)), (7, .int .i64 (v - 1)), (8, .int .i64 (j : Int)), (59, .bool true), (70, .bool false), (81, .bool true)]) (by kernel_rfl) ?_
              refine WQ.blkN ?_
              refine WQ.thenN ?_
              -- R16 law.go:60
              refine WE.region ?_
              refine WO.run 1 0 [(60, .int .i64 (j : Int))] (by kernel_rfl) (by kernel_rfl) ?_
              refine WO.one (SQ.F 1 (by kernel_rfl)) 61 (.int .i64 (IntKind.i64.wrap ((j : Int) + 1))) (by kernel_rfl) ?_
              refine WO.top (v' := .int .i64 ((j + 1 : Nat) : Int)) (wrap_i64 (by omega) (by omega)) ?_
              refine WO.run 1 2 [(8, .int .i64 ((j + 1 : Nat) : Int))] (by kernel_rfl) (by kernel_rfl) ?_
              refine WO.done (by kernel_rfl) ?_
              refine WQ.keep [0, 3, 4, 5, 6, 7, 8, 59, 70, 81] (e' := [(0, .slice (some ad_l) n cap), (3, .bool true), (4, .slice (some ⟨b9, 0, none⟩) n cap10), (5, .slice (some ⟨bs, 0, none⟩) n caps), (6, .int .i64 (i : Int)), (7, .int .i64 (v - 1)), (8, .int .i64 ((j + 1 : Nat) : Int)), (59, .bool true), (70, .bool false), (81, .bool true)]) (by kernel_rfl) ?_
              refine WQ.round ?_
              intro a_ ha_
              refine ⟨(j + 1, v - 1), ?_, ha_.keep [0, 3, 4, 5, 6, 7, 8] (by kernel_rfl), ?_⟩
              · show n - (j + 1) < n - j; omega
              · exact ⟨by show j + 1 ≤ n; omega, by show _ = cnt l p (g0 l i) (j + 1); simp only [cnt, h33, h43, if_true, if_false, Bool.false_eq_true]; omega, H1, H2, HA⟩
            · intro h43
              refine WO.doneA (by kernel_rfl) ?_
              refine WQ.keep [0, 3, 4, 5, 6, 7, 8, 59, 70, 81] (e' := [(0, .slice (some ad_l) n cap), (3, .bool true), (4, .slice (some ⟨b9, 0, none⟩) n cap10), (5, .slice (some ⟨bs, 0, none⟩) n caps), (6, .int .i64 (i : Int)), (7, .int .i64 v), (8, .int .i64 (j : Int)), (59, .bool true), (70, .bool false), (81, .bool false)]) (by kernel_rfl) ?_
              refine WQ.thenN ?_
              refine WE.condF (by kernel_rfl) ?_
              refine WE.skip ?_
              refine WQ.blkN ?_
              refine WQ.thenN ?_
              -- R16 law.go:60
              refine WE.region ?_
              refine WO.run 1 0 [(60, .int .i64 (j : Int))] (by kernel_rfl) (by kernel_rfl) ?_
              refine WO.one (SQ.F 1 (by kernel_rfl)) 61 (.int .i64 (IntKind.i64.wrap ((j : Int) + 1))) (by kernel_rfl) ?_
              refine WO.top (v' := .int .i64 ((j + 1 : Nat) : Int)) (wrap_i64 (by omega) (by omega)) ?_
              refine WO.run 1 2 [(8, .int .i64 ((j + 1 : Nat) : Int))] (by kernel_rfl) (by kernel_rfl) ?_
              refine WO.done (by kernel_rfl) ?_
              refine WQ.keep [0, 3, 4, 5, 6, 7, 8, 59, 70, 81] (e' := [(0, .slice (some ad_l) n cap), (3, .bool true), (4, .slice (some ⟨b9, 0, none⟩) n cap10), (5, .slice (some ⟨bs, 0, none⟩) n caps), (6, .int .i64 (i : Int)), (7, .int .i64 v), (8, .int .i64 ((j + 1 : Nat) : Int)), (59, .bool true), (70, .bool false), (81, .bool false)]) (by kernel_rfl) ?_
              refine WQ.round ?_
              intro a_ ha_
              refine ⟨(j + 1, v), ?_, ha_.keep [0, 3, 4, 5, 6, 7, 8] (by kernel_rfl), ?_⟩
              · show n - (j + 1) < n - j; omega
              · exact ⟨by show j + 1 ≤ n; omega, by show _ = cnt l p (g0 l i) (j + 1); simp only [cnt, h33, h43, if_true, if_false, Bool.false_eq_true]; omega, H1, H2, HA⟩
        · intro h28
          refine WO.done (by kernel_rfl) ?_
          refine WQ.keep [0, 3, 4, 5, 6, 7, 8, 59] (e' := [(0, .slice (some ad_l) n cap), (3, .bool true), (4, .slice (some ⟨b9, 0, none⟩) n cap10), (5, .slice (some ⟨bs, 0, none⟩) n caps), (6, .int .i64 (i : Int)), (7, .int .i64 v), (8, .int .i64 (j : Int)), (59, .bool false)]) (by kernel_rfl) ?_
          refine WQ.thenN ?_
          refine WE.condF (by kernel_rfl) ?_
          refine WE.exit ?_
          refine WQ.thenE ?_
          refine WQ.thenE ?_
          refine WQ.blkE ?_
          refine WQ.thenN ?_
          refine WE.seq ?_
          -- R21 law.go:68
          refine WE.region ?_
          refine WO.run 1 0 [(84, .int .i64 v)] (by kernel_rfl) (by kernel_rfl) ?_
          refine WO.one (SQ.F 1 (by kernel_rfl)) 85 (.bool (!decide ((v : Int) = 0))) (by kernel_rfl) ?_
          refine WO.topNT ((v : Int) = 0) (by rw [hv]; exact cnt_all hn hPp _ (show j = n by omega)) ?_
          refine WO.done (by kernel_rfl) ?_
          refine WQ.keep [0, 3, 4, 5, 6, 7, 8, 59, 85] (e' := [(0, .slice (some ad_l) n cap), (3, .bool true), (4, .slice (some ⟨b9, 0, none⟩) n cap10), (5, .slice (some ⟨bs, 0, none⟩) n caps), (6, .int .i64 (i : Int)), (7, .int .i64 v), (8, .int .i64 (j : Int)), (59, .bool false), (85, .bool false)]) (by kernel_rfl) ?_
          refine WQ.thenN ?_
          refine WE.condF (by kernel_rfl) ?_
          refine WE.skip ?_
          refine WQ.blkN ?_
          refine WQ.thenN ?_
          -- R10 law.go:55
          refine WE.region ?_
          refine WO.run 1 0 [(28, .int .i64 (i : Int))] (by kernel_rfl) (by kernel_rfl) ?_
          refine WO.one (SQ.F 1 (by kernel_rfl)) 29 (.int .i64 (IntKind.i64.wrap ((i : Int) + 1))) (by kernel_rfl) ?_
          refine WO.top (v' := .int .i64 ((i + 1 : Nat) : Int)) (wrap_i64 (by omega) (by omega)) ?_
          refine WO.run 1 2 [(6, .int .i64 ((i + 1 : Nat) : Int))] (by kernel_rfl) (by kernel_rfl) ?_
          refine WO.done (by kernel_rfl) ?_
          refine WQ.keep [0, 3, 4, 5, 6, 7, 8, 59, 85] (e' := [(0, .slice (some ad_l) n cap), (3, .bool true), (4, .slice (some ⟨b9, 0, none⟩) n cap10), (5, .slice (some ⟨bs, 0, none⟩) n caps), (6, .int .i64 ((i + 1 : Nat) : Int)), (7, .int .i64 v), (8, .int .i64 (j : Int)), (59, .bool false), (85, .bool false)]) (by kernel_rfl) ?_
          refine WQ.round ?_
          intro a_ ha_
          refine ⟨i + 1, ?_, ha_.keep [0, 3, 4, 5, 6] (by kernel_rfl), ?_⟩
          · show n - (i + 1) < n - i; omega
          · exact ⟨by omega, H1, H2, HA⟩
      · intro h25
        refine WO.one (SA.F sameR sameT _ 13 _ (by kernel_rfl)) 43 (.bool false) (by kernel_rfl) ?_
        refine WO.off (SA.O sameR sameT _ 14 _ (by kernel_rfl)) 44 (by kernel_rfl) ?_
        refine WO.off (SA.O sameR sameT _ 15 _ (by kernel_rfl)) 45 (by kernel_rfl) ?_
        refine WO.off (SA.O sameR sameT _ 16 _ (by kernel_rfl)) 46 (by kernel_rfl) ?_
        refine WO.off (SA.O sameR sameT _ 17 _ (by kernel_rfl)) 47 (by kernel_rfl) ?_
        refine WO.off (SA.O sameR sameT _ 18 _ (by kernel_rfl)) 48 (by kernel_rfl) ?_
        refine WO.off (SA.O sameR sameT _ 19 _ (by kernel_rfl)) 49 (by kernel_rfl) ?_
        refine WO.off (SA.O sameR sameT _ 20 _ (by kernel_rfl)) 50 (by kernel_rfl) ?_
        refine WO.off (SA.O sameR sameT _ 21 _ (by kernel_rfl)) 51 (by kernel_rfl) ?_
        refine WO.off (SA.O sameR sameT _ 22 _ (by kernel_rfl)) 52 (by kernel_rfl) ?_
        refine WO.off (SA.O sameR sameT _ 23 _ (by kernel_rfl)) 53 (by kernel_rfl) ?_
        refine WO.one (SA.F sameR sameT _ 24 _ (by kernel_rfl)) 54 (.bool false) (by kernel_rfl) ?_
        refine WO.one (SA.F sameR sameT _ 25 _ (by kernel_rfl)) 55 (.bool false) (by kernel_rfl) ?_
        refine WO.doneA (by kernel_rfl) ?_
        refine WQ.keep [0, 3, 4, 5, 6, 27, 55] (e' := [(0, .slice (some ad_l) n cap), (3, .bool true), (4, .slice (some ⟨b9, 0, none⟩) n cap10), (5, .slice (some ⟨bs, 0, none⟩) n caps), (6, .int .i64 (i : Int)), (27, .bool true), (55, .bool false)]) (by kernel_rfl) ?_
        refine WQ.thenN ?_
        refine WE.condF (by kernel_rfl) ?_
        refine WE.skip ?_
        refine WQ.thenN ?_
        refine WE.seq ?_
        -- R13 law.go:59
        refine WE.region ?_
        refine WO.run 1 0 [(7, .int .i64 0)] (by kernel_rfl) (by kernel_rfl) ?_
        refine WO.done (by kernel_rfl) ?_
        refine WQ.keep [0, 3, 4, 5, 6, 7, 27, 55] (e' := [(0, .slice (some ad_l) n cap), (3, .bool true), (4, .slice (some ⟨b9, 0, none⟩) n cap10), (5, .slice (some ⟨bs, 0, none⟩) n caps), (6, .int .i64 (i : Int)), (7, .int .i64 0), (27, .bool true), (55, .bool false)]) (by kernel_rfl) ?_
        refine WQ.thenN ?_
        refine WE.seq ?_
        refine WE.seq ?_
        -- R14 law.go:60
        refine WE.region ?_
        refine WO.run 1 0 [(8, .int .i64 0)] (by kernel_rfl) (by kernel_rfl) ?_
        refine WO.done (by kernel_rfl) ?_
        refine WQ.keep [0, 3, 4, 5, 6, 7, 8, 27, 55] (e' := [(0, .slice (some ad_l) n cap), (3, .bool true), (4, .slice (some ⟨b9, 0, none⟩) n cap10), (5, .slice (some ⟨bs, 0, none⟩) n caps), (6, .int .i64 (i : Int)), (7, .int .i64 0), (8, .int .i64 0), (27, .bool true), (55, .bool false)]) (by kernel_rfl) ?_
        refine WQ.thenN ?_
        refine WE.block ?_
        refine WE.loop (α := Nat × Int) (E := fun z => [(0, .slice (some ad_l) n cap), (3, .bool true), (4, .slice (some ⟨b9, 0, none⟩) n cap10), (5, .slice (some ⟨bs, 0, none⟩) n caps), (6, .int .i64 (i : Int)), (7, .int .i64 z.2), (8, .int .i64 (z.1 : Int))]) (I := fun z wk => z.1 ≤ n ∧ z.2 = cnt l p (g0 l i) z.1 ∧ RowB wk b9 53 1 cap10 (l.map cF) ∧ RowB wk bs 53 1 caps (p.map cF) ∧ Fr [] w wk) (m := fun z => n - z.1) (0, 0) [0, 3, 4, 5, 6, 7, 8] (by kernel_rfl) ?_ ?_
        · exact ⟨Nat.zero_le _, rfl, H1, H2, HA⟩
        rintro ⟨j, v⟩ wk ⟨hj, hv, H1, H2, HA⟩
        dsimp only at hj hv
        have hcb := cnt_le l p (g0 l i) j
        rw [← hv] at hcb
        refine WE.seq ?_
        refine WE.seq ?_
        -- R15 law.go:60
        refine WE.region ?_
        refine WO.run 3 0 [(58, .int .i64 (n : Int)), (57, .slice (some ad_l) n cap), (56, .int .i64 (j : Int))] (by kernel_rfl) (by kernel_rfl) ?_
        refine WO.one (SQ.F 3 (by kernel_rfl)) 59 (.bool (decide (((j : Int) : Int) < (n : Int)))) (by kernel_rfl) ?_
        refine WO.topP (((j : Int) : Int) < (n : Int)) ?_ ?_
        · intro h44
          refine WO.done (by kernel_rfl) ?_
          refine WQ.keep [0, 3, 4, 5, 6, 7, 8, 59] (e' := [(0, .slice (some ad_l) n cap), (3, .bool true), (4, .slice (some ⟨b9, 0, none⟩) n cap10), (5, .slice (some ⟨bs, 0, none⟩) n caps), (6, .int .i64 (i : Int)), (7, .int .i64 v), (8, .int .i64 (j : Int)), (59, .bool true)]) (by kernel_rfl) ?_
          refine WQ.thenN ?_
          refine WE.condT (by kernel_rfl) ?_
          refine WE.skip ?_
          refine WQ.thenN ?_
          refine WE.seq ?_
          refine WE.block ?_
          refine WE.seq ?_
          refine WE.seq ?_
          -- R17* law.go:61
          refine WE.draw [.free, .free, .free, .still, .free, .free, .free, .still, .eff] Same sameR (by kernel_rfl) 9 (Array.replicate 9 false) (by kernel_rfl) rfl ?_
          intro w45 F46 _
          have H1 := RowB.keep H1 F46 (nin0 _)
          have H2 := RowB.keep H2 F46 (nin0 _)
          have HA := Fr.step0 HA F46
          refine WO.one (SA.F sameR sameT _ 0 _ (by kernel_rfl)) 62 (.slice (some ad_l) n cap) (by kernel_rfl) ?_
          refine WO.one (SA.F sameR sameT _ 1 _ (by kernel_rfl)) 63 (.int .i64 (j : Int)) (by kernel_rfl) ?_
          refine WO.ix (SA.F sameR sameT _ 2 _ (by kernel_rfl)) 64 (ad_l.add j) ad_l n 1 (j : Int) (by kernel_rfl) (by omega) (by omega) (by congr 1 <;> omega) ?_
          refine WO.ld (SA.S sameR sameT _ 3 _ (by kernel_rfl)) 65 (.float .f64 (g0 l j)) (by kernel_rfl) (same (HA.cell0 (rd_at hrd (show j < l.length by omega)))) ?_
          refine WO.one (SA.F sameR sameT _ 4 _ (by kernel_rfl)) 66 (.slice (some ad_l) n cap) (by kernel_rfl) ?_
          refine WO.one (SA.F sameR sameT _ 5 _ (by kernel_rfl)) 67 (.int .i64 (i : Int)) (by kernel_rfl) ?_
          refine WO.ix (SA.F sameR sameT _ 6 _ (by kernel_rfl)) 68 (ad_l.add i) ad_l n 1 (i : Int) (by kernel_rfl) (by omega) (by omega) (by congr 1 <;> omega) ?_
          refine WO.ld (SA.S sameR sameT _ 7 _ (by kernel_rfl)) 69 (.float .f64 (g0 l i)) (by kernel_rfl) (same (HA.cell0 (rd_at hrd (show i < l.length by omega)))) ?_
          refine WO.call (SA.E _ 8 _ (by kernel_rfl) rfl) 70 (by kernel_rfl) (same_f (g0 l j) (g0 l i) _ (hall _ (by omega)) (hall _ (by omega))) ?_
          rintro _ w47 ⟨rfl, F48⟩
          refine ⟨_, rfl, trivial, ?_⟩
          have H1 := RowB.keep H1 F48 (nin0 _)
          have H2 := RowB.keep H2 F48 (nin0 _)
          have HA := Fr.step0 HA F48
          refine WO.topB (alikeB (g0 l j) (g0 l i)) ?_ ?_
          · intro h49
            refine WO.doneA (by kernel_rfl) ?_
            refine WQ.keep [0, 3, 4, 5, 6, 7, 8, 59, 70] (e' := [(0, .slice (some ad_l) n cap), (3, .bool true), (4, .slice (some ⟨b9, 0, none⟩) n cap10), (5, .slice (some ⟨bs, 0, none⟩) n caps), (6, .int .i64 (i : Int)), (7, .int .i64 v), (8, .int .i64 (j : Int)), (59, .bool true), (70, .bool true)]) (by kernel_rfl) ?_
            refine WQ.thenN ?_
            refine WE.condT (by kernel_rfl) ?_
            -- R18 law.go:62
            refine WE.region ?_
            refine WO.run 1 0 [(71, .int .i64 v)] (by kernel_rfl) (by kernel_rfl) ?_
            refine WO.one (SQ.F 1 (by kernel_rfl)) 72 (.int .i64 (IntKind.i64.wrap (v + 1))) (by kernel_rfl) ?_
            refine WO.top (v' := .int .i64 (v + 1)) (wrap_i64 (by omega) (by omega)) ?_
            refine WO.run 1 2 [(7, .int .i64 (v + 1))] (by kernel_rfl) (by kernel_rfl) ?_
            refine WO.done (by kernel_rfl) ?_
            refine WQ.keep [0, 3, 4, 5, 6, 7, 8, 59, 70] (e' := [(0, .slice (some ad_l) n cap), (3, .bool true), (4, .slice (some ⟨b9, 0, none⟩) n cap10), (5, .slice (some ⟨bs, 0, none⟩) n caps), (6, .int .i64 (i : Int)), (7, .int .i64 (v + 1)), (8, .int .i64 (j : Int)), (59, .bool true), (70, .bool true)]) (by kernel_rfl) ?_
            refine WQ.thenN ?_
            refine WE.seq ?_
            -- R19* law.go:64
            refine WE.draw [.free, .free, .free, .still, .free, .free, .free, .still, .eff] Same sameR (by kernel_rfl) 9 (Array.replicate 9 false) (by kernel_rfl) rfl ?_
            intro w50 F51 _
            have H1 := RowB.keep H1 F51 (nin0 _)
            have H2 := RowB.keep H2 F51 (nin0 _)
            have HA := Fr.step0 HA F51
            refine WO.one (SA.F sameR sameT _ 0 _ (by kernel_rfl)) 73 (.slice (some ⟨bs, 0, none⟩) n caps) (by kernel_rfl) ?_
            refine WO.one (SA.F sameR sameT _ 1 _ (by kernel_rfl)) 74 (.int .i64 (j : Int)) (by kernel_rfl) ?_
            refine WO.ixB (SA.F sameR sameT _ 2 _ (by kernel_rfl)) 75 j bs 0 n 1 (j : Int) (by kernel_rfl) (by omega) (by omega) (by omega) ?_
            refine WO.ld (SA.S sameR sameT _ 3 _ (by kernel_rfl)) 76 (.float .f64 (g0 p j)) (by kernel_rfl) (same (H2.at j 0 j _ (by rw [List.length_map]; have := hPp.len.trans hn; omega) (by omega) (by rw [(map_atF p j (by have := hPp.len.trans hn; omega))]; rfl) (by omega))) ?_
            refine WO.one (SA.F sameR sameT _ 4 _ (by kernel_rfl)) 77 (.slice (some ad_l) n cap) (by kernel_rfl) ?_
            refine WO.one (SA.F sameR sameT _ 5 _ (by kernel_rfl)) 78 (.int .i64 (i : Int)) (by kernel_rfl) ?_
            refine WO.ix (SA.F sameR sameT _ 6 _ (by kernel_rfl)) 79 (ad_l.add i) ad_l n 1 (i : Int) (by kernel_rfl) (by omega) (by omega) (by congr 1 <;> omega) ?_
            refine WO.ld (SA.S sameR sameT _ 7 _ (by kernel_rfl)) 80 (.float .f64 (g0 l i)) (by kernel_rfl) (same (HA.cell0 (rd_at hrd (show i < l.length by omega)))) ?_
            refine WO.call (SA.E _ 8 _ (by kernel_rfl) rfl) 81 (by kernel_rfl) (same_f (g0 p j) (g0 l i) _ ((hPp.allB hall) _ (by have := hPp.len; omega)) (hall _ (by omega))) ?_
            rintro _ w52 ⟨rfl, F53⟩
            refine ⟨_, rfl, trivial, ?_⟩
            have H1 := RowB.keep H1 F53 (nin0 _)
            have H2 := RowB.keep H2 F53 (nin0 _)
            have HA := Fr.step0 HA F53
            refine WO.topB (alikeB (g0 p j) (g0 l i)) ?_ ?_
            · intro h54
              refine WO.doneA (by kernel_rfl) ?_
              refine WQ.keep [0, 3, 4, 5, 6, 7, 8, 59, 70, 81] (e' := [(0, .slice (some ad_l) n cap), (3, .bool true), (4, .slice (some ⟨b9, 0, none⟩) n cap10), (5, .slice (some ⟨bs, 0, none⟩) n caps), (6, .int .i64 (i : Int)), (7, .int .i64 (v + 1)), (8, .int .i64 (j : Int)), (59, .bool true), (70, .bool true), (81, .bool true)]) (by kernel_rfl) ?_
              refine WQ.thenN ?_
              refine WE.condT (by kernel_rfl) ?_
              -- R20 law.go:65
              refine WE.region ?_
              refine WO.run 1 0 [(82, .int .i64 (v + 1))] (by kernel_rfl) (by kernel_rfl) ?_
              refine WO.one (SQ.F 1 (by kernel_rfl)) 83 (.int .i64 (IntKind.i64.wrap ((v + 1) - 1))) (by kernel_rfl) ?_
              refine WO.top (v' := .int .i64 ((v + 1) - 1)) (wrap_i64 (by omega) (by omega)) ?_
              refine WO.run 1 2 [(7, .int .i64 ((v + 1) - 1))] (by kernel_rfl) (by kernel_rfl) ?_
              refine WO.done (by kernel_rfl) ?_
              refine WQ.keep [0, 3, 4, 5, 6, 7, 8, 59, 70, 81] (e' := [(0, .slice (some ad_l) n cap), (3, .bool true), (4, .slice (some ⟨b9, 0, none⟩) n cap10), (5, .slice (some ⟨bs, 0, none⟩) n caps), (6, .int .i64 (i : Int)), (7, .int .i64 ((v + 1) - 1)), (8, .int .i64 (j : Int)), (59, .bool true), (70, .bool true), (81, .bool true)]) (by kernel_rfl) ?_
              refine WQ.blkN ?_
              refine WQ.thenN ?_
              -- R16 law.go:60
              refine WE.region ?_
              refine WO.run 1 0 [(60, .int .i64 (j : Int))] (by kernel_rfl) (by kernel_rfl) ?_
              refine WO.one (SQ.F 1 (by kernel_rfl)) 61 (.int .i64 (IntKind.i64.wrap ((j : Int) + 1))) (by kernel_rfl) ?_
              refine WO.top (v' := .int .i64 ((j + 1 : Nat) : Int)) (wrap_i64 (by omega) (by omega)) ?_
              refine WO.run 1 2 [(8, .int .i64 ((j + 1 : Nat) : Int))] (by kernel_rfl) (by kernel_rfl) ?_
              refine WO.done (by kernel_rfl) ?_
              refine WQ.keep [0, 3, 4, 5, 6, 7, 8, 59, 70, 81] (e' := [(0, .slice (some ad_l) n cap), (3, .bool true), (4, .slice (some ⟨b9, 0, none⟩) n cap10), (5, .slice (some ⟨bs, 0, none⟩) n caps), (6, .int .i64 (i : Int)), (7, .int .i64 ((v + 1) - 1)), (8, .int .i64 ((j + 1 : Nat) : Int)), (59, .bool true), (70, .bool true), (81, .bool true)]) (by kernel_rfl) ?_
              refine WQ.round ?_
              intro a_ ha_
              refine ⟨(j + 1, (v + 1) - 1), ?_, ha_.keep [0, 3, 4, 5, 6, 7, 8] (by kernel_rfl), ?_⟩
              · show n - (j + 1) < n - j; omega
              · exact ⟨by show j + 1 ≤ n; omega, by show _ = cnt l p (g0 l i) (j + 1); simp only [cnt, h49, h54, if_true, if_false, Bool.false_eq_true]; omega, H1, H2, HA⟩
            · intro h54
              refine WO.doneA (by kernel_rfl) ?_
              refine WQ.keep [0, 3, 4, 5, 6, 7, 8, 59, 70, 81] (e' := [(0, .slice (some ad_l) n cap), (3, .bool true), (4, .slice (some ⟨b9, 0, none⟩) n cap10), (5, .slice (some ⟨bs, 0, none⟩) n caps), (6, .int .i64 (i : Int)), (7, .int .i64 (v + 1)), (8, .int .i64 (j : Int)), (59, .bool true), (70, .bool true), (81, .bool false)]) (by kernel_rfl) ?_
              refine WQ.thenN ?_
              refine WE.condF (by kernel_rfl) ?_
              refine WE.skip ?_
              refine WQ.blkN ?_
              refine WQ.thenN ?_
              -- R16 law.go:60
              refine WE.region ?_
              refine WO.run 1 0 [(60, .int .i64 (j : Int))] (by kernel_rfl) (by kernel_rfl) ?_
              refine WO.one (SQ.F 1 (by kernel_rfl)) 61 (.int .i64 (IntKind.i64.wrap ((j : Int) + 1))) (by kernel_rfl) ?_
              refine WO.top (v' := .int .i64 ((j + 1 : Nat) : Int)) (wrap_i64 (by omega) (by omega)) ?_
              refine WO.run 1 2 [(8, .int .i64 ((j + 1 : Nat) : Int))] (by kernel_rfl) (by kernel_rfl) ?_
              refine WO.done (by kernel_rfl) ?_
              refine WQ.keep [0, 3, 4, 5, 6, 7, 8, 59, 70, 81] (e' := [(0, .slice (some ad_l) n cap), (3, .bool true), (4, .slice (some ⟨b9, 0, none⟩) n cap10), (5, .slice (some ⟨bs, 0, none⟩) n caps), (6, .int .i64 (i : Int)), (7, .int .i64 (v + 1)), (8, .int .i64 ((j + 1 : Nat) : Int)), (59, .bool true), (70, .bool true), (81, .bool false)]) (by kernel_rfl) ?_
              refine WQ.round ?_
              intro a_ ha_
              refine ⟨(j + 1, v + 1), ?_, ha_.keep [0, 3, 4, 5, 6, 7, 8] (by kernel_rfl), ?_⟩
              · show n - (j + 1) < n - j; omega
              · exact ⟨by show j + 1 ≤ n; omega, by show _ = cnt l p (g0 l i) (j + 1); simp only [cnt, h49, h54, if_true, if_false, Bool.false_eq_true]; omega, H1, H2, HA⟩
          · intro h49
            refine WO.doneA (by kernel_rfl) ?_
            refine WQ.keep [0, 3, 4, 5, 6, 7, 8, 59, 70] (e' := [(0, .slice (some ad_l) n cap), (3, .bool true), (4, .slice (some ⟨b9, 0, none⟩) n cap10), (5, .slice (some ⟨bs, 0, none⟩) n caps), (6, .int .i64 (i : Int)), (7, .int .i64 v), (8, .int .i64 (j : Int)), (59, .bool true), (70, .bool false)]) (by kernel_rfl) ?_
            refine WQ.thenN ?_
            refine WE.condF (by kernel_rfl) ?_
            refine WE.skip ?_
            refine WQ.thenN ?_
            refine WE.seq ?_
            -- R19* law.go:64
            refine WE.draw [.free, .free, .free, .still, .free, .free, .free, .still, .eff] Same sameR (by kernel_rfl) 9 (Array.replicate 9 false) (by kernel_rfl) rfl ?_
            intro w55 F56 _
            have H1 := RowB.keep H1 F56 (nin0 _)
            have H2 := RowB.keep H2 F56 (nin0 _)
            have HA := Fr.step0 HA F56
            refine WO.one (SA.F sameR sameT _ 0 _ (by kernel_rfl)) 73 (.slice (some ⟨bs, 0, none⟩) n caps) (by kernel_rfl) ?_
            refine WO.one (SA.F sameR sameT _ 1 _ (by kernel_rfl)) 74 (.int .i64 (j : Int)) (by kernel_rfl) ?_
            refine WO.ixB (SA.F sameR sameT _ 2 _ (by kernel_rfl)) 75 j bs 0 n 1 (j : Int) (by kernel_rfl) (by omega) (by omega) (by omega) ?_
            refine WO.ld (SA.S sameR sameT _ 3 _ (by kernel_rfl)) 76 (.float .f64 (g0 p j)) (by kernel_rfl) (same (H2.at j 0 j _ (by rw [List.length_map]; have := hPp.len.trans hn; omega) (by omega) (by rw [(map_atF p j (by have := hPp.len.trans hn; omega))]; rfl) (by omega))) ?_
            refine WO.one (SA.F sameR sameT _ 4 _ (by kernel_rfl)) 77 (.slice (some ad_l) n cap) (by kernel_rfl) ?_
            refine WO.one (SA.F sameR sameT _ 5 _ (by kernel_rfl)) 78 (.int .i64 (i : Int)) (by kernel_rfl) ?_
            refine WO.ix (SA.F sameR sameT _ 6 _ (by kernel_rfl)) 79 (ad_l.add i) ad_l n 1 (i : Int) (by kernel_rfl) (by omega) (by omega) (by congr 1 <;> omega) ?_
            refine WO.ld (SA.S sameR sameT _ 7 _ (by kernel_rfl)) 80 (.float .f64 (g0 l i)) (by kernel_rfl) (same (HA.cell0 (rd_at hrd (show i < l.length by omega)))) ?_
            refine WO.call (SA.E _ 8 _ (by kernel_rfl) rfl) 81 (by kernel_rfl) (same_f (g0 p j) (g0 l i) _ ((hPp.allB hall) _ (by have := hPp.len; omega)) (hall _ (by omega))) ?_
            rintro _ w57 ⟨rfl, F58⟩
            refine ⟨_, rfl, trivial, ?_⟩
            have H1 := RowB.keep H1 F58 (nin0 _)
            have H2 := RowB.keep H2 F58 (nin0 _)
            have HA := Fr.step0 HA F58
            refine WO.topB (alikeB (g0 p j) (g0 l i)) ?_ ?_
            · intro h59
              refine WO.doneA (by kernel_rfl) ?_
              refine WQ.keep [0, 3, 4, 5, 6, 7, 8, 59, 70, 81] (e' := [(0, .slice (some ad_l) n cap), (3, .bool true), (4, .slice (some ⟨b9, 0, none⟩) n cap10), (5, .slice (some ⟨bs, 0, none⟩) n caps), (6, .int .i64 (i : Int)), (7, .int .i64 v), (8, .int .i64 (j : Int)), (59, .bool true), (70, .bool false), (81, .bool true)]) (by kernel_rfl) ?_
              refine WQ.thenN ?_
              refine WE.condT (by kernel_rfl) ?_
              -- R20 law.go:65
              refine WE.region ?_
              refine WO.run 1 0 [(82, .int .i64 v)] (by kernel_rfl) (by kernel_rfl) ?_
              refine WO.one (SQ.F 1 (by kernel_rfl)) 83 (.int .i64 (IntKind.i64.wrap (v - 1))) (by kernel_rfl) ?_
              refine WO.top (v' := .int .i64 (v - 1)) (wrap_i64 (by omega) (by omega)) ?_
              refine WO.run 1 2 [(7, .int .i64 (v - 1))] (by kernel_rfl) (by kernel_rfl) ?_
              refine WO.done (by kernel_rfl) ?_
              refine WQ.keep [0, 3, 4, 5, 6, 7, 8, 59, 70, 81] (e' := [(0, .slice (some ad_l) n cap), (3, .bool true), (4, .slice (some ⟨b9, 0, none⟩) n cap10), (5, .slice (some ⟨bs, 0, none⟩) n caps), (6, .int .i64 (i : Int)), (7, .int .i64 (v - 1)), (8, .int .i64 (j : Int)), (59, .bool true), (70, .bool false), (81, .bool true)]) (by kernel_rfl) ?_
              refine WQ.blkN ?_
              refine WQ.thenN ?_
              -- R16 law.go:60
              refine WE.region ?_
              refine WO.run 1 0 [(60, .int .i64 (j : Int))] (by kernel_rfl) (by kernel_rfl) ?_
              refine WO.one (SQ.F 1 (by kernel_rfl)) 61 (.int .i64 (IntKind.i64.wrap ((j : Int) + 1))) (by kernel_rfl) ?_
              refine WO.top (v' := .int .i64 ((j + 1 : Nat) : Int)) (wrap_i64 (by omega) (by omega)) ?_
              refine WO.run 1 2 [(8, .int .i64 ((j + 1 : Nat) : Int))] (by kernel_rfl) (by kernel_rfl) ?_
              refine WO.done (by kernel_rfl) ?_
              refine WQ.keep [0, 3, 4, 5, 6, 7, 8, 59, 70, 81] (e' := [(0, .slice (some ad_l) n cap), (3, .bool true), (4, .slice (some ⟨b9, 0, none⟩) n cap10), (5, .slice (some ⟨bs, 0, none⟩) n caps), (6, .int .i64 (i : Int)), (7, .int .i64 (v - 1)), (8, .int .i64 ((j + 1 : Nat) : Int)), (59, .bool true), (70, .bool false), (81, .bool true)]) (by kernel_rfl) ?_
              refine WQ.round ?_
              intro a_ ha_
              refine ⟨(j + 1, v - 1), ?_, ha_.keep [0, 3, 4, 5, 6, 7, 8] (by kernel_rfl), ?_⟩
              · show n - (j + 1) < n - j; omega
              · exact ⟨by show j + 1 ≤ n; omega, by show _ = cnt l p (g0 l i) (j + 1); simp only [cnt, h49, h59, if_true, if_false, Bool.false_eq_true]; omega, H1, H2, HA⟩
            · intro h59
              refine WO.doneA (by kernel_rfl) ?_
              refine WQ.keep [0, 3, 4, 5, 6, 7, 8, 59, 70, 81] (e' := [(0, .slice (some ad_l) n cap), (3, .bool true), (4, .slice (some ⟨b9, 0, none⟩) n cap10), (5, .slice (some ⟨bs, 0, none⟩) n caps), (6, .int .i64 (i : Int)), (7, .int .i64 v), (8, .int .i64 (j : Int)), (59, .bool true), (70, .bool false), (81, .bool false)]) (by kernel_rfl) ?_
              refine WQ.thenN ?_
              refine WE.condF (by kernel_rfl) ?_
              refine WE.skip ?_
              refine WQ.blkN ?_
              refine WQ.thenN ?_
              -- R16 law.go:60
              refine WE.region ?_
              refine WO.run 1 0 [(60, .int .i64 (j : Int))] (by kernel_rfl) (by kernel_rfl) ?_
              refine WO.one (SQ.F 1 (by kernel_rfl)) 61 (.int .i64 (IntKind.i64.wrap ((j : Int) + 1))) (by kernel_rfl) ?_
              refine WO.top (v' := .int .i64 ((j + 1 : Nat) : Int)) (wrap_i64 (by omega) (by omega)) ?_
              refine WO.run 1 2 [(8, .int .i64 ((j + 1 : Nat) : Int))] (by kernel_rfl) (by kernel_rfl) ?_
              refine WO.done (by kernel_rfl) ?_
              refine WQ.keep [0, 3, 4, 5, 6, 7, 8, 59, 70, 81] (e' := [(0, .slice (some ad_l) n cap), (3, .bool true), (4, .slice (some ⟨b9, 0, none⟩) n cap10), (5, .slice (some ⟨bs, 0, none⟩) n caps), (6, .int .i64 (i : Int)), (7, .int .i64 v), (8, .int .i64 ((j + 1 : Nat) : Int)), (59, .bool true), (70, .bool false), (81, .bool false)]) (by kernel_rfl) ?_
              refine WQ.round ?_
              intro a_ ha_
              refine ⟨(j + 1, v), ?_, ha_.keep [0, 3, 4, 5, 6, 7, 8] (by kernel_rfl), ?_⟩
              · show n - (j + 1) < n - j; omega
              · exact ⟨by show j + 1 ≤ n; omega, by show _ = cnt l p (g0 l i) (j + 1); simp only [cnt, h49, h59, if_true, if_false, Bool.false_eq_true]; omega, H1, H2, HA⟩
        · intro h44
          refine WO.done (by kernel_rfl) ?_
          refine WQ.keep [0, 3, 4, 5, 6, 7, 8, 59] (e' := [(0, .slice (some ad_l) n cap), (3, .bool true), (4, .slice (some ⟨b9, 0, none⟩) n cap10), (5, .slice (some ⟨bs, 0, none⟩) n caps), (6, .int .i64 (i : Int)), (7, .int .i64 v), (8, .int .i64 (j : Int)), (59, .bool false)]) (by kernel_rfl) ?_
          refine WQ.thenN ?_
          refine WE.condF (by kernel_rfl) ?_
          refine WE.exit ?_
          refine WQ.thenE ?_
          refine WQ.thenE ?_
          refine WQ.blkE ?_
          refine WQ.thenN ?_
          refine WE.seq ?_
          -- R21 law.go:68
          refine WE.region ?_
          refine WO.run 1 0 [(84, .int .i64 v)] (by kernel_rfl) (by kernel_rfl) ?_
          refine WO.one (SQ.F 1 (by kernel_rfl)) 85 (.bool (!decide ((v : Int) = 0))) (by kernel_rfl) ?_
          refine WO.topNT ((v : Int) = 0) (by rw [hv]; exact cnt_all hn hPp _ (show j = n by omega)) ?_
          refine WO.done (by kernel_rfl) ?_
          refine WQ.keep [0, 3, 4, 5, 6, 7, 8, 59, 85] (e' := [(0, .slice (some ad_l) n cap), (3, .bool true), (4, .slice (some ⟨b9, 0, none⟩) n cap10), (5, .slice (some ⟨bs, 0, none⟩) n caps), (6, .int .i64 (i : Int)), (7, .int .i64 v), (8, .int .i64 (j : Int)), (59, .bool false), (85, .bool false)]) (by kernel_rfl) ?_
          refine WQ.thenN ?_
          refine WE.condF (by kernel_rfl) ?_
          refine WE.skip ?_
          refine WQ.blkN ?_
          refine WQ.thenN ?_
          -- R10 law.go:55
          refine WE.region ?_
          refine WO.run 1 0 [(28, .int .i64 (i : Int))] (by kernel_rfl) (by kernel_rfl) ?_
          refine WO.one (SQ.F 1 (by kernel_rfl)) 29 (.int .i64 (IntKind.i64.wrap ((i : Int) + 1))) (by kernel_rfl) ?_
          refine WO.top (v' := .int .i64 ((i + 1 : Nat) : Int)) (wrap_i64 (by omega) (by omega)) ?_
          refine WO.run 1 2 [(6, .int .i64 ((i + 1 : Nat) : Int))] (by kernel_rfl) (by kernel_rfl) ?_
          refine WO.done (by kernel_rfl) ?_
          refine WQ.keep [0, 3, 4, 5, 6, 7, 8, 59, 85] (e' := [(0, .slice (some ad_l) n cap), (3, .bool true), (4, .slice (some ⟨b9, 0, none⟩) n cap10), (5, .slice (some ⟨bs, 0, none⟩) n caps), (6, .int .i64 ((i + 1 : Nat) : Int)), (7, .int .i64 v), (8, .int .i64 (j : Int)), (59, .bool false), (85, .bool false)]) (by kernel_rfl) ?_
          refine WQ.round ?_
          intro a_ ha_
          refine ⟨i + 1, ?_, ha_.keep [0, 3, 4, 5, 6] (by kernel_rfl), ?_⟩
          · show n - (i + 1) < n - i; omega
          · exact ⟨by omega, H1, H2, HA⟩
    · intro h20
      refine WO.done (by kernel_rfl) ?_
      refine WQ.keep [0, 3, 4, 5, 6, 27] (e' := [(0, .slice A n cap), (3, .bool true), (4, .slice (some ⟨b9, 0, none⟩) n cap10), (5, .slice (some ⟨bs, 0, none⟩) n caps), (6, .int .i64 (i : Int)), (27, .bool false)]) (by kernel_rfl) ?_
      refine WQ.thenN ?_
      refine WE.condF (by kernel_rfl) ?_
      refine WE.exit ?_
      refine WQ.thenE ?_
      refine WQ.thenE ?_
      refine WQ.blkE ?_
      refine WQ.thenN ?_
      refine WE.seq ?_
      -- R23 law.go:72
      refine WE.region ?_
      refine WO.run 2 0 [(2, .bool true), (86, .bool true)] (by kernel_rfl) (by kernel_rfl) ?_
      refine WO.done (by kernel_rfl) ?_
      refine WQ.keep [0, 2, 3, 4, 5, 6, 27] (e' := [(0, .slice A n cap), (2, .bool true), (3, .bool true), (4, .slice (some ⟨b9, 0, none⟩) n cap10), (5, .slice (some ⟨bs, 0, none⟩) n caps), (6, .int .i64 (i : Int)), (27, .bool false)]) (by kernel_rfl) ?_
      refine WQ.thenN ?_
      refine WE.ret ?_
      refine WQ.ret (v := .bool true) (by kernel_rfl) ?_
      exact ⟨rfl, HA⟩
theorem sorts_any (A : Option Addr) (cap : Nat) (l : List Nat) (w : World) (hall : All l) (h : Kd.C KF w A l.length l) :
    Calls Try.prog 8 #[.slice A l.length cap] w fun e w' => e = .returned (.bool true) ∧ Below w.heap.size w w' :=
  (sorts_f A l.length cap l w rfl h.2.1 hall (rd_of h)).mono fun e w' ⟨h1, h2⟩ => ⟨h1, h2.below0⟩
end Go.Proofs.Ytjnjkgoofkgiiaa.Edge
