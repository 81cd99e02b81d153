/- Plain: what ParseInt answers of digits, beside the document's value. -/
import Derived.Test.YtdhonbahpcmmnaaDoorLineV
import Derived.Test.YtdhonbahpcmmnaaDoorLineN
set_option maxHeartbeats 400000
namespace Go.Proofs.YtdhonbahpcmmnaaDoor.Line
open Go Go.RowKit Go.Proofs.YtdhonbahpcmmnaaDoor Go.Proofs.YtdhonbahpcmmnaaDoor.Eng Go.Proofs.YtdhonbahpcmmnaaDoorW.PrintWords
def dvFrom (n : Nat) (q : L) : Nat := q.foldl (fun n c => 10 * n + c.toNat - 48) n
theorem dvFrom_mono (q : L) (hd : ∀ c, c ∈ q → 48 ≤ c.toNat ∧ c.toNat ≤ 57) : ∀ n, n ≤ dvFrom n q := by
 induction q with
 | nil => intro n; exact Nat.le_refl _
 | cons c r ih =>
  intro n
  have h1 := hd c (List.mem_cons_self ..)
  have h2 := ih (fun x hx => hd x (List.mem_cons_of_mem _ hx)) (10 * n + c.toNat - 48)
  show n ≤ dvFrom (10 * n + c.toNat - 48) r
  omega
theorem pum_dv (q : L) (hd : ∀ c, c ∈ q → 48 ≤ c.toNat ∧ c.toNat ≤ 57) : ∀ n, n < 18446744073709551616 →
  Lib.parseUintM (2 ^ 64 - 1) n q = if dvFrom n q < 18446744073709551616 then .ok (dvFrom n q) else .range := by
 induction q with
 | nil =>
  intro n hn
  show _ = if n < _ then _ else _
  rw [if_pos hn]
  rfl
 | cons c r ih =>
  intro n hn
  have h1 := hd c (List.mem_cons_self ..)
  have hr : ∀ x, x ∈ r → 48 ≤ x.toNat ∧ x.toNat ≤ 57 := fun x hx => hd x (List.mem_cons_of_mem _ hx)
  have h2 := dvFrom_mono r hr (10 * n + c.toNat - 48)
  have e1 : dvFrom n (c :: r) = dvFrom (10 * n + c.toNat - 48) r := rfl
  have e2 : n * 10 + (c.toNat - 48) = 10 * n + c.toNat - 48 := by omega
  rw [Lib.parseUintM, if_pos h1, e1, e2]
  by_cases h3 : 1844674407370955162 ≤ n
  ·
   rw [if_pos h3, if_neg (by omega)]
  ·
   rw [if_neg h3]
   by_cases h4 : 2 ^ 64 - 1 < 10 * n + c.toNat - 48
   ·
    rw [if_pos h4, if_neg (by omega)]
   ·
    rw [if_neg h4]
    exact ih hr _ (by omega)
theorem dv_mem {q : L} (hdg : ∀ j, j < q.length → 48 ≤ (gB q j).toNat ∧ (gB q j).toNat ≤ 57) : ∀ c, c ∈ q → 48 ≤ c.toNat ∧ c.toNat ≤ 57 := by
 intro c hc
 obtain ⟨j, hj, rfl⟩ := List.mem_iff_getElem.1 hc
 have h := hdg j hj
 have e : gB q j = q[j] := by
  have h1 := gB_some q j hj
  rw [List.getElem?_eq_getElem hj] at h1
  exact (Option.some.inj h1).symm
 rw [e] at h
 exact h
theorem pub_dv {q : L} (h0 : q ≠ []) (hd : ∀ c, c ∈ q → 48 ≤ c.toNat ∧ c.toNat ≤ 57) : Lib.parseUintB 64 q = if dv q < 18446744073709551616 then .ok (dv q) else .range := by
 unfold Lib.parseUintB
 rw [if_neg h0]
 exact pum_dv q hd 0 (by decide)
theorem pi_d {q : L} (h0 : q ≠ []) (hd : ∀ c, c ∈ q → 48 ≤ c.toNat ∧ c.toNat ≤ 57) : Lib.parseIntB 64 q = if 9223372036854775808 ≤ dv q then .range else .ok (dv q : Int) := by
 cases q with
 | nil => exact absurd rfl h0
 | cons c r =>
  have h1 := hd c (List.mem_cons_self ..)
  have n1 : ¬ c.toNat = 43 := by omega
  have n2 : ¬ c.toNat = 45 := by omega
  unfold Lib.parseIntB
  simp only [n1, n2, or_self, if_false, not_false_eq_true, true_and, false_and]
  rw [pub_dv h0 hd]
  by_cases h2 : dv (c :: r) < 18446744073709551616
  ·
   rw [if_pos h2]
  ·
   rw [if_neg h2, if_pos (by omega)]
theorem pi_m {c : UInt8} {q : L} (hc : c.toNat = 45) (h0 : q ≠ []) (hd : ∀ c, c ∈ q → 48 ≤ c.toNat ∧ c.toNat ≤ 57) : Lib.parseIntB 64 (c :: q) = if 9223372036854775808 < dv q then .range else .ok (- (dv q : Int)) := by
 unfold Lib.parseIntB
 simp only [hc, or_true, if_true, not_true_eq_false, true_and, false_and, if_false]
 rw [pub_dv h0 hd]
 by_cases h2 : dv q < 18446744073709551616
 ·
  rw [if_pos h2]
 ·
  rw [if_neg h2, if_pos (by omega)]
theorem dv_big {q : L} (hdg : ∀ j, j < q.length → 48 ≤ (gB q j).toNat ∧ (gB q j).toNat ≤ 57) (h : 19 < q.length) (h0 : (gB q 0).toNat ≠ 48) : 9223372036854775808 < dv q := by
 have key : ∀ i, i < q.length → 10 ^ i ≤ dv (q.take (i + 1)) := by
  intro i
  induction i with
  | zero =>
   intro hi
   have h1 := hdg 0 hi
   have h2 := dv_step q 0 hi
   rw [List.take_zero, show dv [] = 0 from rfl] at h2
   omega
  | succ i ih =>
   intro hi
   have h1 := hdg (i + 1) hi
   have h2 := dv_step q (i + 1) hi
   have h3 := ih (by omega)
   rw [Nat.pow_succ]
   omega
 have h1 := key (q.length - 1) (by omega)
 rw [show q.length - 1 + 1 = q.length by omega, List.take_of_length_le (Nat.le_refl _)] at h1
 refine Nat.lt_of_lt_of_le ?_ h1
 exact Nat.lt_of_lt_of_le (show 9223372036854775808 < 10 ^ 19 by decide) (Nat.pow_le_pow_right (by omega) (by omega))
theorem u48 (c : UInt8) : c = 48 ↔ c.toNat = 48 := ⟨fun h => by rw [h]; rfl, fun h => UInt8.toNat_inj.1 h⟩
theorem numR_d {s : L} {p : Nat} {l m : Int} (D : L) (hD : (s.take (runE isD s p)).drop p = D) (hdg : ∀ j, j < D.length → 48 ≤ (gB D j).toNat ∧ (gB D j).toNat ≤ 57) :
  numR s p p l m = if (valE false D l m).2 = true then some (valE false D l m).1 else none := by
 unfold numR
 rw [hD]
 by_cases h0 : D = []
 ·
  subst h0
  rfl
 ·
  have hl : 0 < D.length := List.length_pos_iff.2 h0
  rw [pi_d h0 (dv_mem hdg)]
  by_cases hz : 1 < D.length ∧ (gB D 0).toNat = 48
  ·
   rw [valE_no1 (.inr (.inr hz))]
   by_cases h2 : 9223372036854775808 ≤ dv D
   ·
    rw [if_pos h2]; rfl
   ·
    rw [if_neg h2]
    show (if _ then _ else _) = _
    rw [if_pos (.inl ⟨hz.1, (u48 _).2 hz.2⟩)]
    rfl
  ·
   by_cases h2 : 9223372036854775808 ≤ dv D
   ·
    rw [if_pos h2, valE_no2 h2]; rfl
   ·
    have h19 : ¬ 19 < D.length := fun h => h2 (Nat.le_of_lt (dv_big hdg h (fun h3 => hz ⟨by omega, h3⟩)))
    rw [if_neg h2, valE_d (fun h => h.elim (fun h => by omega) (fun h => h.elim h19 hz)) (by omega)]
    show (if _ then _ else _) = _
    by_cases hr : l ≤ (dv D : Int) ∧ (dv D : Int) ≤ m
    ·
     rw [if_neg (by
      rintro (h | h | h | h)
      ·
       exact hz ⟨h.1, (u48 _).1 h.2⟩
      ·
       exact h.2 rfl
      ·
       omega
      ·
       omega)]
     show _ = if decide _ = true then _ else _
     rw [if_pos (decide_eq_true hr)]
    ·
     rw [if_pos (by
      by_cases h5 : (dv D : Int) < l
      ·
       exact .inr (.inr (.inl h5))
      ·
       exact .inr (.inr (.inr (by omega))))]
     show _ = if decide _ = true then _ else _
     rw [if_neg (by rw [decide_eq_true_eq]; exact hr)]
theorem dv_pos {q : L} (hdg : ∀ j, j < q.length → 48 ≤ (gB q j).toNat ∧ (gB q j).toNat ≤ 57) (h : 0 < q.length) (h0 : (gB q 0).toNat ≠ 48) : 0 < dv q := by
 have key : ∀ i, i < q.length → 0 < dv (q.take (i + 1)) := by
  intro i
  induction i with
  | zero =>
   intro hi
   have h1 := hdg 0 hi
   have h2 := dv_step q 0 hi
   rw [List.take_zero, show dv [] = 0 from rfl] at h2
   omega
  | succ i ih =>
   intro hi
   have h1 := hdg (i + 1) hi
   have h2 := dv_step q (i + 1) hi
   have h3 := ih (by omega)
   omega
 have h1 := key (q.length - 1) (by omega)
 rw [show q.length - 1 + 1 = q.length by omega, List.take_of_length_le (Nat.le_refl _)] at h1
 exact h1
theorem numR_m {s : L} {p : Nat} {l m : Int} (D : L) (c : UInt8) (hc : c.toNat = 45) (hD : (s.take (runE isD s (p + 1))).drop (p + 1) = D) (hP : (s.take (runE isD s (p + 1))).drop p = c :: D) (hdg : ∀ j, j < D.length → 48 ≤ (gB D j).toNat ∧ (gB D j).toNat ≤ 57) :
  numR s p (p + 1) l m = if (valE true D l m).2 = true then some (valE true D l m).1 else none := by
 unfold numR
 rw [hD, hP]
 have hne : D ≠ c :: D := fun h => by
  have h1 := congrArg List.length h
  rw [List.length_cons] at h1
  omega
 by_cases h0 : D = []
 ·
  subst h0
  unfold Lib.parseIntB
  simp only [hc, or_true, if_true]
  rfl
 ·
  have hl : 0 < D.length := List.length_pos_iff.2 h0
  rw [pi_m hc h0 (dv_mem hdg)]
  by_cases hz : 1 < D.length ∧ (gB D 0).toNat = 48
  ·
   rw [valE_no1 (.inr (.inr hz))]
   by_cases h2 : 9223372036854775808 < dv D
   ·
    rw [if_pos h2]; rfl
   ·
    rw [if_neg h2]
    show (if _ then _ else _) = _
    rw [if_pos (.inl ⟨hz.1, (u48 _).2 hz.2⟩)]
    rfl
  ·
   by_cases h2 : 9223372036854775808 < dv D
   ·
    rw [if_pos h2, valE_no4 h2]; rfl
   ·
    rw [if_neg h2]
    show (if _ then _ else _) = _
    by_cases h48 : D = [48]
    ·
     rw [valE_no3 h48, if_pos (.inr (.inl ⟨by rw [h48]; rfl, hne⟩))]
     rfl
    ·
     have hg : (gB D 0).toNat ≠ 48 := fun h3 => by
      by_cases h4 : 1 < D.length
      ·
       exact hz ⟨h4, h3⟩
      ·
       match D, hl, h4, h3, h48 with
       | [x], _, _, h3, h48 => exact h48 (by rw [(u48 x).2 h3])
       | x :: y :: r, _, h4, _, _ => exact h4 (by simp)
     have hp := dv_pos hdg hl hg
     have h19 : ¬ 19 < D.length := fun h => h2 (dv_big hdg h hg)
     rw [valE_m (fun h => h.elim (fun h => by omega) (fun h => h.elim h19 hz)) h48 (by omega)]
     by_cases hr : l ≤ - (dv D : Int) ∧ - (dv D : Int) ≤ m
     ·
      rw [if_neg (by
       rintro (h | h | h | h)
       ·
        exact hz ⟨h.1, (u48 _).1 h.2⟩
       ·
        omega
       ·
        omega
       ·
        omega)]
      show _ = if decide _ = true then _ else _
      rw [if_pos (decide_eq_true hr)]
     ·
      rw [if_pos (by
       by_cases h5 : - (dv D : Int) < l
       ·
        exact .inr (.inr (.inl h5))
       ·
        exact .inr (.inr (.inr (by omega))))]
      show _ = if decide _ = true then _ else _
      rw [if_neg (by rw [decide_eq_true_eq]; exact hr)]
theorem isD_in {c : UInt8} (h : isD c = true) : 48 ≤ c.toNat ∧ c.toNat ≤ 57 := by
 unfold isD at h
 simpa only [Bool.and_eq_true, decide_eq_true_eq] using h
theorem takeW (pr : UInt8 → Bool) : ∀ l : L, l.take (l.takeWhile pr).length = l.takeWhile pr
 | [] => rfl
 | c :: r => by
  rw [List.takeWhile_cons]
  by_cases h : pr c = true
  ·
   rw [if_pos h, List.length_cons, List.take_succ_cons, takeW pr r]
  ·
   rw [if_neg h]
   rfl
theorem takeW_mem (pr : UInt8 → Bool) : ∀ l : L, ∀ c, c ∈ l.takeWhile pr → pr c = true
 | [], c, h => by cases h
 | x :: r, c, h => by
  rw [List.takeWhile_cons] at h
  by_cases hx : pr x = true
  ·
   rw [if_pos hx, List.mem_cons] at h
   rcases h with rfl | h
   ·
    exact hx
   ·
    exact takeW_mem pr r c h
  ·
   rw [if_neg hx] at h
   cases h
theorem run_part (pr : UInt8 → Bool) (s : L) (p : Nat) : (s.take (runE pr s p)).drop p = (s.drop p).takeWhile pr := by
 rw [List.drop_take, show runE pr s p - p = ((s.drop p).takeWhile pr).length from by unfold runE; omega]
 exact takeW pr _
theorem run_digits (s : L) (p : Nat) : ∀ j, j < ((s.take (runE isD s p)).drop p).length → 48 ≤ (gB ((s.take (runE isD s p)).drop p) j).toNat ∧ (gB ((s.take (runE isD s p)).drop p) j).toNat ≤ 57 := by
 rw [run_part]
 intro j hj
 have h1 := gB_some _ j hj
 exact isD_in (takeW_mem isD _ _ (List.mem_of_getElem? h1))
theorem run_minus {s : L} {p : Nat} (h : p < s.length) : (s.take (runE isD s (p + 1))).drop p = gB s p :: (s.take (runE isD s (p + 1))).drop (p + 1) := by
 have h1 := runE_ge isD s (p + 1)
 have hl : p < (s.take (runE isD s (p + 1))).length := by rw [List.length_take]; omega
 rw [List.drop_eq_getElem_cons hl]
 congr 1
 rw [List.getElem_take]
 have h2 := gB_some s p h
 rw [List.getElem?_eq_getElem h] at h2
 exact Option.some.inj h2
end Go.Proofs.YtdhonbahpcmmnaaDoor.Line
