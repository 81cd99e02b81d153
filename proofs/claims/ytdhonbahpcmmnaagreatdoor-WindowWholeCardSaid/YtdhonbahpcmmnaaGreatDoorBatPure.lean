/- Plain: what ParseInt answers of digits, beside the document's value. -/
import Derived.Test.YtdhonbahpcmmnaaGreatDoorLineV
import Derived.Test.YtdhonbahpcmmnaaGreatDoorLineN
import Derived.Test.YtdhonbahpcmmnaaGreatDoorLineW
import Derived.Test.YtdhonbahpcmmnaaGreatDoorEngC
import Derived.Test.YtdhonbahpcmmnaaGreatDoorLinePure
import Derived.Test.YtdhonbahpcmmnaaGreatDoorWMore
section
set_option maxHeartbeats 400000
namespace Go.Proofs.YtdhonbahpcmmnaaGreatDoor.Line
open Go Go.RowKit Go.Proofs.YtdhonbahpcmmnaaGreatDoor Go.Proofs.YtdhonbahpcmmnaaGreatDoor.Eng Go.Proofs.YtdhonbahpcmmnaaGreatDoorW.PrintWords
def dvFrom (n : Nat) (q : L) : Nat := q.foldl (fun n c => 10 * n + c.toNat - 48) n
theorem dvFrom_mono (q : L) (hd : ∀ c, c ∈ q → 48 ≤ c.toNat ∧ c.toNat ≤ 57) : ∀ n, n ≤ dvFrom n q := by
 induction q with
 | nil => intro n; exact Nat.le_refl _
 | cons c r ih =>
  intro n
  have h1 := hd c (List.mem_cons_self ..)
  have h2 := ih (fun x hx => hd x (List.mem_cons_of_mem _ hx)) (10 * n + c.toNat - 48)
  show n ≤ dvFrom (10 * n + c.toNat - 48) r
  omega
theorem pum_dv (q : L) (hd : ∀ c, c ∈ q → 48 ≤ c.toNat ∧ c.toNat ≤ 57) : ∀ n, n < 18446744073709551616 →
  Lib.parseUintM (2 ^ 64 - 1) n q = if dvFrom n q < 18446744073709551616 then .ok (dvFrom n q) else .range := by
 induction q with
 | nil =>
  intro n hn
  show _ = if n < _ then _ else _
  rw [if_pos hn]
  rfl
 | cons c r ih =>
  intro n hn
  have h1 := hd c (List.mem_cons_self ..)
  have hr : ∀ x, x ∈ r → 48 ≤ x.toNat ∧ x.toNat ≤ 57 := fun x hx => hd x (List.mem_cons_of_mem _ hx)
  have h2 := dvFrom_mono r hr (10 * n + c.toNat - 48)
  have e1 : dvFrom n (c :: r) = dvFrom (10 * n + c.toNat - 48) r := rfl
  have e2 : n * 10 + (c.toNat - 48) = 10 * n + c.toNat - 48 := by omega
  rw [Lib.parseUintM, if_pos h1, e1, e2]
  by_cases h3 : 1844674407370955162 ≤ n
  ·
   rw [if_pos h3, if_neg (by omega)]
  ·
   rw [if_neg h3]
   by_cases h4 : 2 ^ 64 - 1 < 10 * n + c.toNat - 48
   ·
    rw [if_pos h4, if_neg (by omega)]
   ·
    rw [if_neg h4]
    exact ih hr _ (by omega)
theorem dv_mem {q : L} (hdg : ∀ j, j < q.length → 48 ≤ (gB q j).toNat ∧ (gB q j).toNat ≤ 57) : ∀ c, c ∈ q → 48 ≤ c.toNat ∧ c.toNat ≤ 57 := by
 intro c hc
 obtain ⟨j, hj, rfl⟩ := List.mem_iff_getElem.1 hc
 have h := hdg j hj
 have e : gB q j = q[j] := by
  have h1 := gB_some q j hj
  rw [List.getElem?_eq_getElem hj] at h1
  exact (Option.some.inj h1).symm
 rw [e] at h
 exact h
theorem pub_dv {q : L} (h0 : q ≠ []) (hd : ∀ c, c ∈ q → 48 ≤ c.toNat ∧ c.toNat ≤ 57) : Lib.parseUintB 64 q = if dv q < 18446744073709551616 then .ok (dv q) else .range := by
 unfold Lib.parseUintB
 rw [if_neg h0]
 exact pum_dv q hd 0 (by decide)
theorem pi_d {q : L} (h0 : q ≠ []) (hd : ∀ c, c ∈ q → 48 ≤ c.toNat ∧ c.toNat ≤ 57) : Lib.parseIntB 64 q = if 9223372036854775808 ≤ dv q then .range else .ok (dv q : Int) := by
 cases q with
 | nil => exact absurd rfl h0
 | cons c r =>
  have h1 := hd c (List.mem_cons_self ..)
  have n1 : ¬ c.toNat = 43 := by omega
  have n2 : ¬ c.toNat = 45 := by omega
  unfold Lib.parseIntB
  simp only [n1, n2, or_self, if_false, not_false_eq_true, true_and, false_and]
  rw [pub_dv h0 hd]
  by_cases h2 : dv (c :: r) < 18446744073709551616
  ·
   rw [if_pos h2]
  ·
   rw [if_neg h2, if_pos (by omega)]
theorem pi_m {c : UInt8} {q : L} (hc : c.toNat = 45) (h0 : q ≠ []) (hd : ∀ c, c ∈ q → 48 ≤ c.toNat ∧ c.toNat ≤ 57) : Lib.parseIntB 64 (c :: q) = if 9223372036854775808 < dv q then .range else .ok (- (dv q : Int)) := by
 unfold Lib.parseIntB
 simp only [hc, or_true, if_true, not_true_eq_false, true_and, false_and, if_false]
 rw [pub_dv h0 hd]
 by_cases h2 : dv q < 18446744073709551616
 ·
  rw [if_pos h2]
 ·
  rw [if_neg h2, if_pos (by omega)]
theorem dv_big {q : L} (hdg : ∀ j, j < q.length → 48 ≤ (gB q j).toNat ∧ (gB q j).toNat ≤ 57) (h : 19 < q.length) (h0 : (gB q 0).toNat ≠ 48) : 9223372036854775808 < dv q := by
 have key : ∀ i, i < q.length → 10 ^ i ≤ dv (q.take (i + 1)) := by
  intro i
  induction i with
  | zero =>
   intro hi
   have h1 := hdg 0 hi
   have h2 := dv_step q 0 hi
   rw [List.take_zero, show dv [] = 0 from rfl] at h2
   omega
  | succ i ih =>
   intro hi
   have h1 := hdg (i + 1) hi
   have h2 := dv_step q (i + 1) hi
   have h3 := ih (by omega)
   rw [Nat.pow_succ]
   omega
 have h1 := key (q.length - 1) (by omega)
 rw [show q.length - 1 + 1 = q.length by omega, List.take_of_length_le (Nat.le_refl _)] at h1
 refine Nat.lt_of_lt_of_le ?_ h1
 exact Nat.lt_of_lt_of_le (show 9223372036854775808 < 10 ^ 19 by decide) (Nat.pow_le_pow_right (by omega) (by omega))
theorem u48 (c : UInt8) : c = 48 ↔ c.toNat = 48 := ⟨fun h => by rw [h]; rfl, fun h => UInt8.toNat_inj.1 h⟩
theorem numR_d {s : L} {p : Nat} {l m : Int} (D : L) (hD : (s.take (runE isD s p)).drop p = D) (hdg : ∀ j, j < D.length → 48 ≤ (gB D j).toNat ∧ (gB D j).toNat ≤ 57) :
  numR s p p l m = if (valE false D l m).2 = true then some (valE false D l m).1 else none := by
 unfold numR
 rw [hD]
 by_cases h0 : D = []
 ·
  subst h0
  rfl
 ·
  have hl : 0 < D.length := List.length_pos_iff.2 h0
  rw [pi_d h0 (dv_mem hdg)]
  by_cases hz : 1 < D.length ∧ (gB D 0).toNat = 48
  ·
   rw [valE_no1 (.inr (.inr hz))]
   by_cases h2 : 9223372036854775808 ≤ dv D
   ·
    rw [if_pos h2]; rfl
   ·
    rw [if_neg h2]
    show (if _ then _ else _) = _
    rw [if_pos (.inl ⟨hz.1, (u48 _).2 hz.2⟩)]
    rfl
  ·
   by_cases h2 : 9223372036854775808 ≤ dv D
   ·
    rw [if_pos h2, valE_no2 h2]; rfl
   ·
    have h19 : ¬ 19 < D.length := fun h => h2 (Nat.le_of_lt (dv_big hdg h (fun h3 => hz ⟨by omega, h3⟩)))
    rw [if_neg h2, valE_d (fun h => h.elim (fun h => by omega) (fun h => h.elim h19 hz)) (by omega)]
    show (if _ then _ else _) = _
    by_cases hr : l ≤ (dv D : Int) ∧ (dv D : Int) ≤ m
    ·
     rw [if_neg (by
      rintro (h | h | h | h)
      ·
       exact hz ⟨h.1, (u48 _).1 h.2⟩
      ·
       exact h.2 rfl
      ·
       omega
      ·
       omega)]
     show _ = if decide _ = true then _ else _
     rw [if_pos (decide_eq_true hr)]
    ·
     rw [if_pos (by
      by_cases h5 : (dv D : Int) < l
      ·
       exact .inr (.inr (.inl h5))
      ·
       exact .inr (.inr (.inr (by omega))))]
     show _ = if decide _ = true then _ else _
     rw [if_neg (by rw [decide_eq_true_eq]; exact hr)]
theorem dv_pos {q : L} (hdg : ∀ j, j < q.length → 48 ≤ (gB q j).toNat ∧ (gB q j).toNat ≤ 57) (h : 0 < q.length) (h0 : (gB q 0).toNat ≠ 48) : 0 < dv q := by
 have key : ∀ i, i < q.length → 0 < dv (q.take (i + 1)) := by
  intro i
  induction i with
  | zero =>
   intro hi
   have h1 := hdg 0 hi
   have h2 := dv_step q 0 hi
   rw [List.take_zero, show dv [] = 0 from rfl] at h2
   omega
  | succ i ih =>
   intro hi
   have h1 := hdg (i + 1) hi
   have h2 := dv_step q (i + 1) hi
   have h3 := ih (by omega)
   omega
 have h1 := key (q.length - 1) (by omega)
 rw [show q.length - 1 + 1 = q.length by omega, List.take_of_length_le (Nat.le_refl _)] at h1
 exact h1
theorem numR_m {s : L} {p : Nat} {l m : Int} (D : L) (c : UInt8) (hc : c.toNat = 45) (hD : (s.take (runE isD s (p + 1))).drop (p + 1) = D) (hP : (s.take (runE isD s (p + 1))).drop p = c :: D) (hdg : ∀ j, j < D.length → 48 ≤ (gB D j).toNat ∧ (gB D j).toNat ≤ 57) :
  numR s p (p + 1) l m = if (valE true D l m).2 = true then some (valE true D l m).1 else none := by
 unfold numR
 rw [hD, hP]
 have hne : D ≠ c :: D := fun h => by
  have h1 := congrArg List.length h
  rw [List.length_cons] at h1
  omega
 by_cases h0 : D = []
 ·
  subst h0
  unfold Lib.parseIntB
  simp only [hc, or_true, if_true]
  rfl
 ·
  have hl : 0 < D.length := List.length_pos_iff.2 h0
  rw [pi_m hc h0 (dv_mem hdg)]
  by_cases hz : 1 < D.length ∧ (gB D 0).toNat = 48
  ·
   rw [valE_no1 (.inr (.inr hz))]
   by_cases h2 : 9223372036854775808 < dv D
   ·
    rw [if_pos h2]; rfl
   ·
    rw [if_neg h2]
    show (if _ then _ else _) = _
    rw [if_pos (.inl ⟨hz.1, (u48 _).2 hz.2⟩)]
    rfl
  ·
   by_cases h2 : 9223372036854775808 < dv D
   ·
    rw [if_pos h2, valE_no4 h2]; rfl
   ·
    rw [if_neg h2]
    show (if _ then _ else _) = _
    by_cases h48 : D = [48]
    ·
     rw [valE_no3 h48, if_pos (.inr (.inl ⟨by rw [h48]; rfl, hne⟩))]
     rfl
    ·
     have hg : (gB D 0).toNat ≠ 48 := fun h3 => by
      by_cases h4 : 1 < D.length
      ·
       exact hz ⟨h4, h3⟩
      ·
       match D, hl, h4, h3, h48 with
       | [x], _, _, h3, h48 => exact h48 (by rw [(u48 x).2 h3])
       | x :: y :: r, _, h4, _, _ => exact h4 (by simp)
     have hp := dv_pos hdg hl hg
     have h19 : ¬ 19 < D.length := fun h => h2 (dv_big hdg h hg)
     rw [valE_m (fun h => h.elim (fun h => by omega) (fun h => h.elim h19 hz)) h48 (by omega)]
     by_cases hr : l ≤ - (dv D : Int) ∧ - (dv D : Int) ≤ m
     ·
      rw [if_neg (by
       rintro (h | h | h | h)
       ·
        exact hz ⟨h.1, (u48 _).1 h.2⟩
       ·
        omega
       ·
        omega
       ·
        omega)]
      show _ = if decide _ = true then _ else _
      rw [if_pos (decide_eq_true hr)]
     ·
      rw [if_pos (by
       by_cases h5 : - (dv D : Int) < l
       ·
        exact .inr (.inr (.inl h5))
       ·
        exact .inr (.inr (.inr (by omega))))]
      show _ = if decide _ = true then _ else _
      rw [if_neg (by rw [decide_eq_true_eq]; exact hr)]
theorem isD_in {c : UInt8} (h : isD c = true) : 48 ≤ c.toNat ∧ c.toNat ≤ 57 := by
 unfold isD at h
 simpa only [Bool.and_eq_true, decide_eq_true_eq] using h
theorem takeW (pr : UInt8 → Bool) : ∀ l : L, l.take (l.takeWhile pr).length = l.takeWhile pr
 | [] => rfl
 | c :: r => by
  rw [List.takeWhile_cons]
  by_cases h : pr c = true
  ·
   rw [if_pos h, List.length_cons, List.take_succ_cons, takeW pr r]
  ·
   rw [if_neg h]
   rfl
theorem takeW_mem (pr : UInt8 → Bool) : ∀ l : L, ∀ c, c ∈ l.takeWhile pr → pr c = true
 | [], c, h => by cases h
 | x :: r, c, h => by
  rw [List.takeWhile_cons] at h
  by_cases hx : pr x = true
  ·
   rw [if_pos hx, List.mem_cons] at h
   rcases h with rfl | h
   ·
    exact hx
   ·
    exact takeW_mem pr r c h
  ·
   rw [if_neg hx] at h
   cases h
theorem run_part (pr : UInt8 → Bool) (s : L) (p : Nat) : (s.take (runE pr s p)).drop p = (s.drop p).takeWhile pr := by
 rw [List.drop_take, show runE pr s p - p = ((s.drop p).takeWhile pr).length from by unfold runE; omega]
 exact takeW pr _
theorem run_digits (s : L) (p : Nat) : ∀ j, j < ((s.take (runE isD s p)).drop p).length → 48 ≤ (gB ((s.take (runE isD s p)).drop p) j).toNat ∧ (gB ((s.take (runE isD s p)).drop p) j).toNat ≤ 57 := by
 rw [run_part]
 intro j hj
 have h1 := gB_some _ j hj
 exact isD_in (takeW_mem isD _ _ (List.mem_of_getElem? h1))
theorem run_minus {s : L} {p : Nat} (h : p < s.length) : (s.take (runE isD s (p + 1))).drop p = gB s p :: (s.take (runE isD s (p + 1))).drop (p + 1) := by
 have h1 := runE_ge isD s (p + 1)
 have hl : p < (s.take (runE isD s (p + 1))).length := by rw [List.length_take]; omega
 rw [List.drop_eq_getElem_cons hl]
 congr 1
 rw [List.getElem_take]
 have h2 := gB_some s p h
 rw [List.getElem?_eq_getElem h] at h2
 exact Option.some.inj h2
end Go.Proofs.YtdhonbahpcmmnaaGreatDoor.Line
end
section
set_option maxHeartbeats 400000
namespace Go.Proofs.YtdhonbahpcmmnaaGreatDoor.Line
open Go Go.RowKit Go.Proofs.YtdhonbahpcmmnaaGreatDoor Go.Proofs.YtdhonbahpcmmnaaGreatDoor.Eng Go.Proofs.YtdhonbahpcmmnaaGreatDoorW.PrintWords
def numB (s : L) (p : Nat) : Nat := if p < s.length ∧ (gB s p).toNat = 45 then p + 1 else p
def numE (s : L) (p : Nat) : Nat := runE isD s (numB s p)
def numP (s : L) (p : Nat) (least most : Int) : Option Int := numR s p (numB s p) least most
theorem value_part (s : L) (p : Nat) (w : World) (least most : Int) (hs : s.length ≤ 1000000) (hp : p ≤ s.length) :
  Calls Tryz.prog 106 #[.string (str ((s.take (numE s p)).drop p)), .int .i64 least, .int .i64 most] w fun e w' =>
   ∃ v b, e = .returned (.tuple #[.int .i64 v, .bool b]) ∧ (if b = true then some v else none) = numP s p least most ∧ Fr [] w w' := by
 have hl : ((s.take (numE s p)).drop p).length ≤ 1000000 := by rw [List.length_drop, List.length_take]; omega
 by_cases h : p < s.length ∧ (gB s p).toNat = 45
 ·
  have e1 : numB s p = p + 1 := if_pos h
  unfold numP numE
  unfold numE at hl
  rw [e1] at hl ⊢
  rw [run_minus h.1] at hl ⊢
  refine Calls.mono (value_m _ _ w least most hl rfl (by rw [List.length_cons]; omega) h.2 (by exact run_digits s (p + 1))) ?_
  rintro e w' ⟨rfl, hF⟩
  exact ⟨_, _, rfl, (numR_m _ (gB s p) h.2 rfl (run_minus h.1) (run_digits s (p + 1))).symm, hF⟩
 ·
  have e1 : numB s p = p := if_neg h
  unfold numP numE
  unfold numE at hl
  rw [e1] at hl ⊢
  have hd := run_digits s p
  refine Calls.mono (value_d _ w least most hl (fun h_ => by have := hd 0 h_.1; omega) hd) ?_
  rintro e w' ⟨rfl, hF⟩
  exact ⟨_, _, rfl, (numR_d _ rfl hd).symm, hF⟩
end Go.Proofs.YtdhonbahpcmmnaaGreatDoor.Line
end
section
namespace Go.Proofs.YtdhonbahpcmmnaaGreatDoor.Line
open Go Go.RowKit Go.Proofs.YtdhonbahpcmmnaaGreatDoor Go.Proofs.YtdhonbahpcmmnaaGreatDoor.Eng Go.Proofs.YtdhonbahpcmmnaaGreatDoorW.PrintWords
def isAt (s : L) (p : Nat) (c : Nat) : Prop := p < s.length ∧ (gB s p).toNat = c
instance (s : L) (p c : Nat) : Decidable (isAt s p c) := inferInstanceAs (Decidable (_ ∧ _))
def part (s : L) (p : Nat) : L := (s.take (runE inW s p)).drop p
def tagsP (s : L) : Nat → Nat → List (L × L) → Sum (List (L × L) × Nat) Nat
 | k, p, acc =>
  if isAt s p 44 then
   match k with
   | 0 => .inr p
   | k + 1 =>
    if isWord (part s (p + 1)) = false then .inr (p + 1)
    else if ¬ isAt s (runE inW s (p + 1)) 61 then .inr (runE inW s (p + 1))
    else if isWord (part s (runE inW s (p + 1) + 1)) = false then .inr (runE inW s (p + 1) + 1)
    else tagsP s k (runE inW s (runE inW s (p + 1) + 1)) (acc ++ [(part s (p + 1), part s (runE inW s (p + 1) + 1))])
  else .inl (acc, p)
def kindP (c : UInt8) : Int := if c.toNat = 99 then 1 else if c.toNat = 103 then 2 else if c.toNat = 104 then 3 else 0
def timeP (s : L) (ts : List (L × L)) (k v : Int) (p : Nat) : Option Int → Sum Ev Nat
 | none => .inr p
 | some t => if numE s p < s.length then .inr (numE s p) else .inl { name := part s 0, tags := ts, kind := k, value := v, time := t }
def valP (s : L) (ts : List (L × L)) (k : Int) (p : Nat) : Option Int → Sum Ev Nat
 | none => .inr p
 | some v => if ¬ isAt s (numE s p) 32 then .inr (numE s p) else timeP s ts k v (numE s p + 1) (numP s (numE s p + 1) 0 1099511627776)
def restP (s : L) (ts : List (L × L)) (p : Nat) : Sum Ev Nat :=
 if ¬ isAt s p 32 then .inr p
 else if s.length ≤ p + 1 then .inr (p + 1)
 else if kindP (gB s (p + 1)) = 0 then .inr (p + 1)
 else if ¬ isAt s (p + 2) 32 then .inr (p + 2)
 else valP s ts (kindP (gB s (p + 1))) (p + 3) (numP s (p + 3) (-9223372036854775808) 9223372036854775807)
def afterP (s : L) : Sum (List (L × L) × Nat) Nat → Sum Ev Nat
 | .inr p => .inr p
 | .inl x => restP s x.1 x.2
def parseP (s : L) : Sum Ev Nat :=
 if isWord (part s 0) = false then .inr 0
 else afterP s (tagsP s 6 (runE inW s 0) [])
variable {s : L} {ts : List (L × L)} {p : Nat} {k v t : Int}
theorem pp_name (h : isWord (part s 0) = false) : parseP s = .inr 0 := if_pos h
theorem pp_tags (h : isWord (part s 0) = true) : parseP s = afterP s (tagsP s 6 (runE inW s 0) []) := if_neg (by rw [h]; simp)
theorem rp_1 (h : ¬ isAt s p 32) : restP s ts p = .inr p := if_pos h
theorem rp_2 (h : isAt s p 32) (h1 : s.length ≤ p + 1) : restP s ts p = .inr (p + 1) := by
 unfold restP
 rw [if_neg (fun c => c h), if_pos h1]
theorem rp_3 (h : isAt s p 32) (h1 : ¬ s.length ≤ p + 1) (h2 : kindP (gB s (p + 1)) = 0) : restP s ts p = .inr (p + 1) := by
 unfold restP
 rw [if_neg (fun c => c h), if_neg h1, if_pos h2]
theorem rp_4 (h : isAt s p 32) (h1 : ¬ s.length ≤ p + 1) (h2 : kindP (gB s (p + 1)) ≠ 0) (h3 : ¬ isAt s (p + 2) 32) : restP s ts p = .inr (p + 2) := by
 unfold restP
 rw [if_neg (fun c => c h), if_neg h1, if_neg h2, if_pos h3]
theorem rp_5 (h : isAt s p 32) (h1 : ¬ s.length ≤ p + 1) (h2 : kindP (gB s (p + 1)) ≠ 0) (h3 : isAt s (p + 2) 32) : restP s ts p = valP s ts (kindP (gB s (p + 1))) (p + 3) (numP s (p + 3) (-9223372036854775808) 9223372036854775807) := by
 unfold restP
 rw [if_neg (fun c => c h), if_neg h1, if_neg h2, if_neg (fun c => c h3)]
theorem vp_1 (h : ¬ isAt s (numE s p) 32) : valP s ts k p (some v) = .inr (numE s p) := if_pos h
theorem vp_2 (h : isAt s (numE s p) 32) : valP s ts k p (some v) = timeP s ts k v (numE s p + 1) (numP s (numE s p + 1) 0 1099511627776) := if_neg (fun c => c h)
theorem tp_1 (h : numE s p < s.length) : timeP s ts k v p (some t) = .inr (numE s p) := if_pos h
theorem tp_2 (h : ¬ numE s p < s.length) : timeP s ts k v p (some t) = .inl { name := part s 0, tags := ts, kind := k, value := v, time := t } := if_neg h
end Go.Proofs.YtdhonbahpcmmnaaGreatDoor.Line
end
section
set_option linter.unusedVariables false
set_option linter.unusedSimpArgs false
namespace Go.Proofs.YtdhonbahpcmmnaaGreatDoor.Line
open Go Go.RowKit Go.Proofs.YtdhonbahpcmmnaaGreatDoor Go.Proofs.YtdhonbahpcmmnaaGreatDoor.Eng Go.Proofs.YtdhonbahpcmmnaaGreatDoorW.PrintWords
def dig (n : Nat) : UInt8 := UInt8.ofNat (48 + n)
theorem digs_lo {n : Nat} (h : n < 10) : digs n = [dig (n % 10)] := by
  rw [digs, dif_pos h]
  unfold dig
  rw [Nat.mod_eq_of_lt h]
theorem digs_hi {n : Nat} (h : ¬ n < 10) : digs n = digs (n / 10) ++ [dig (n % 10)] := by
  rw [digs, dif_neg h]
  rfl
theorem digs_len : ∀ (k n : Nat), n < 10 ^ (k + 1) → (digs n).length ≤ k + 1
  | 0, n, h => by
    rw [digs_lo (by simpa using h)]
    simp
  | k + 1, n, h => by
    by_cases hn : n < 10
    · rw [digs_lo hn]
      simp
    · rw [digs_hi hn, List.length_append]
      have := digs_len k (n / 10) (by rw [Nat.pow_succ] at h; omega)
      simp only [List.length_cons, List.length_nil]
      omega
theorem num_len (z : Int) (h : -9223372036854775808 ≤ z ∧ z ≤ 9223372036854775807) : (numT z).length ≤ 21 := by
  unfold numT
  split
  · have := digs_len 19 z.natAbs (by omega)
    simp only [List.length_cons]
    omega
  · have := digs_len 19 z.toNat (by omega)
    omega
def tagT (t : L × L) : L := 44 :: t.1 ++ (61 :: t.2)
def hd (ev : Ev) (i : Nat) : L := ev.name ++ ((ev.tags.take i).map tagT).flatten
theorem hd_0 (ev : Ev) : hd ev 0 = ev.name := by simp [hd]
theorem hd_s (ev : Ev) (i : Nat) (h : i < ev.tags.length) : hd ev (i + 1) = hd ev i ++ (44 :: (gT ev.tags i).1 ++ (61 :: (gT ev.tags i).2)) := by
  unfold hd
  rw [List.take_add_one, gT_some ev.tags i h]
  simp [tagT]
theorem hd_all (ev : Ev) : hd ev ev.tags.length = headT ev := by
  unfold hd headT
  rw [List.take_length]
  rfl
theorem few_n {ev : Ev} (h : fewE ev = true) : ev.tags.length ≤ 20 ∧ ev.name.length ≤ 100 := by
  unfold fewE at h
  simp only [Bool.and_eq_true, decide_eq_true_eq] at h
  omega
theorem few_tag {ev : Ev} (h : fewE ev = true) (i : Nat) (hi : i < ev.tags.length) : (gT ev.tags i).1.length ≤ 100 ∧ (gT ev.tags i).2.length ≤ 100 := by
  unfold fewE at h
  simp only [Bool.and_eq_true] at h
  have := all_gT.1 h.1.1 i hi
  simpa using this
theorem hd_len {ev : Ev} (h : fewE ev = true) : ∀ i, i ≤ ev.tags.length → (hd ev i).length ≤ 100 + i * 202
  | 0, _ => by
    rw [hd_0]
    have := few_n h
    omega
  | i + 1, hi => by
    have h1 := hd_len h i (by omega)
    have h2 := few_tag h i (by omega)
    rw [hd_s ev i (by omega)]
    simp only [List.length_append, List.length_cons]
    omega
theorem letter_eq {k : Int} (h : 1 ≤ k ∧ k ≤ 3) : (([99, 103, 104] : List UInt8).take k.toNat).drop (k - 1).toNat = letter k := by
  have : k = 1 ∨ k = 2 ∨ k = 3 := by omega
  rcases this with rfl | rfl | rfl <;> rfl
set_option maxRecDepth 100000 in
set_option maxHeartbeats 400000 in
theorem head_f (ev : Ev) (A : Option Addr) (n cp : Nat) (F : List Nat) (w : World) (HT : VX cT 2 w F A ev.tags) (hn : ev.tags.length = n) (hnn : n ≤ 9223372036854775807) (hfew : fewE ev = true) :
    Calls Tryz.prog 108 #[.agg #[.string (str ev.name), .slice A n cp, .int .i64 ev.kind, .int .i64 ev.value, .int .i64 ev.time]] w fun e w' => e = .returned (.string (str (headT ev))) ∧ Fr [] w w' := by
 have HA := Fr.refl [] w
 refine Ze Tryz.func108 _ <| Zsg <| Zb 1 #[.string (str ev.name), .slice A n cp, J ev.kind, J ev.value, J ev.time] 91 (fun g => Pt g 0) ?_
 intro g1 w2 HB4 F3 le5 _
 refine Zr 1 <| Zdn <| Zsg <| Zr 1 <| Zl 6 (.string (str ev.name)) (HB4.s 0) <| Zr 1 <| Zdn <| Zq <| Zsg <| Zr 1 <| Zd <| WQ.keep [0, 1, 2, 3, 4] (e' := [(0, .agg #[.string (str ev.name), .slice A n cp, J ev.kind, J ev.value, J ev.time]), (1, Pt g1 0), (2, .string (⟨#[]⟩)), (3, .string (str ev.name)), (4, J 0)]) (by kernel_rfl) <| Zn <| WE.block <| WE.env (e' := [(0, .agg #[.string (str ev.name), .slice A n cp, J ev.kind, J ev.value, J ev.time]), (1, Pt g1 0), (2, .string (⟨#[]⟩)), (3, .string (str (hd ev 0))), (4, J 0)]) (by rw [hd_0]) <| WE.loop (α := Nat) (E := fun i => [(0, .agg #[.string (str ev.name), .slice A n cp, J ev.kind, J ev.value, J ev.time]), (1, Pt g1 0), (3, .string (str (hd ev i))), (4, J (i : Int))]) (I := fun i wr => i ≤ n ∧ Blk wr g1 #[.string (str ev.name), .slice A n cp, J ev.kind, J ev.value, J ev.time] 91 ∧ VX cT 2 wr F A ev.tags ∧ Fr [] w wr) (m := fun i => n - i) 0 [0, 1, 3, 4] (by kernel_rfl) ?_ ?_
 ·
  exact ⟨Nat.zero_le _, HB4, (HT.keep F3 dj0), (HA.step0 F3)⟩
 rintro i wr ⟨hi, HB, HT, HA⟩
 refine Zq <| Zsg <| Zr 2 <| Zl 9 (.slice A n cp) (HB.s 1) <| Zr 1 <| ZoP 11 (((i : Int) : Int) < (n : Int)) ?_ ?_
 ·
  intro h6
  refine Zdn <| ZT <| Zk <| Zq <| WE.block ?_
  have hhl := hd_len hfew i (by omega)
  obtain ⟨ht1, ht2⟩ := few_tag hfew i (by omega)
  have hn20 := few_n hfew
  refine ZE [3, 7, 11, 15] [] [] 18 ?_
  intro w7 F8 _
  have HB := HB.k F8
  have HT := HT.keep F8 dj0
  refine Yq 0 1 <| Yct 1 15 (str (hd ev i)) (str ([44] : List UInt8)) (by simp only [str_size, List.length_append, List.length_cons, List.length_nil]; omega) <| WO.top (v' := .string (str ((hd ev i) ++ ([44] : List UInt8)))) (congrArg Value.string (str_app _ _)) <| Yq 2 1 <| Yl 3 17 (.slice A n cp) (HB.s 1) <| Yq 4 1 ?_
  obtain ⟨ad9, hA10⟩ := HT.addr (i := i) (by have := hn; omega)
  refine Yio 5 19 n 2 i (i : Int) hA10 <| Yq 6 1 <| Yl 7 21 (.string (str (gT ev.tags i).1)) (same (HT.at0 hA10 (gT_some ev.tags i (by have := hn; omega)) (by kernel_rfl))) <| Yct 8 22 (str ((hd ev i) ++ ([44] : List UInt8))) (str (gT ev.tags i).1) (by simp only [str_size, List.length_append, List.length_cons, List.length_nil]; omega) <| WO.top (v' := .string (str (((hd ev i) ++ ([44] : List UInt8)) ++ (gT ev.tags i).1))) (congrArg Value.string (str_app _ _)) <| Yct 9 23 (str (((hd ev i) ++ ([44] : List UInt8)) ++ (gT ev.tags i).1)) (str ([61] : List UInt8)) (by simp only [str_size, List.length_append, List.length_cons, List.length_nil]; omega) <| WO.top (v' := .string (str ((((hd ev i) ++ ([44] : List UInt8)) ++ (gT ev.tags i).1) ++ ([61] : List UInt8)))) (congrArg Value.string (str_app _ _)) <| Yq 10 1 <| Yl 11 25 (.slice A n cp) (HB.s 1) <| Yq 12 1 ?_
  obtain ⟨ad11, hA12⟩ := HT.addr (i := i) (by have := hn; omega)
  refine Yio 13 27 n 2 i (i : Int) hA12 <| Yq 14 1 <| Yl 15 29 (.string (str (gT ev.tags i).2)) (same (HT.at hA12 (gT_some ev.tags i (by have := hn; omega)) 1 (by kernel_rfl))) <| Yct 16 30 (str ((((hd ev i) ++ ([44] : List UInt8)) ++ (gT ev.tags i).1) ++ ([61] : List UInt8))) (str (gT ev.tags i).2) (by simp only [str_size, List.length_append, List.length_cons, List.length_nil]; omega) <| WO.top (v' := .string (str (((((hd ev i) ++ ([44] : List UInt8)) ++ (gT ev.tags i).1) ++ ([61] : List UInt8)) ++ (gT ev.tags i).2))) (congrArg Value.string (str_app _ _)) <| Yq 17 1 <| Yd <| WQ.blkN <| Zn <| WE.region <| Zr 1 <| Zw 13 ((i : Int) + 1) ((i + 1 : Nat) : Int) <| Zr 1 <| Zd <| WQ.keep [0, 1, 3, 4, 11] (e' := [(0, .agg #[.string (str ev.name), .slice A n cp, J ev.kind, J ev.value, J ev.time]), (1, Pt g1 0), (3, .string (str (((((hd ev i) ++ ([44] : List UInt8)) ++ (gT ev.tags i).1) ++ ([61] : List UInt8)) ++ (gT ev.tags i).2))), (4, J ((i + 1 : Nat) : Int)), (11, .bool true)]) (by kernel_rfl) <| WQ.env (e' := [(0, .agg #[.string (str ev.name), .slice A n cp, J ev.kind, J ev.value, J ev.time]), (1, Pt g1 0), (3, .string (str (hd ev (i + 1)))), (4, J ((i + 1 : Nat) : Int)), (11, .bool true)]) (by rw [hd_s ev i (by omega)]; simp only [List.append_assoc, List.cons_append, List.nil_append, List.singleton_append]) <| WQ.round ?_
  intro a_ ha_
  refine ⟨i + 1, ?_, ha_.keep [0, 1, 3, 4] (by kernel_rfl), ?_⟩
  ·
   omega
  ·
   exact ⟨by omega, HB, HT, (HA.step0 F8)⟩
 intro h6
 refine Zdn <| ZF <| WE.exit <| WQ.thenE <| WQ.thenE <| WQ.blkE <| Zn <| Zsg <| Zr 2 <| Zdn <| WE.ret <| ZR (.string (str (hd ev i))) ?_
 exact ⟨by rw [show i = ev.tags.length by omega, hd_all], HA⟩
end Go.Proofs.YtdhonbahpcmmnaaGreatDoor.Line
end
section
set_option maxHeartbeats 400000
set_option linter.unusedVariables false
set_option linter.unusedSimpArgs false
namespace Go.Proofs.YtdhonbahpcmmnaaGreatDoor.Line
open Go Go.RowKit Go.Proofs.YtdhonbahpcmmnaaGreatDoor Go.Proofs.YtdhonbahpcmmnaaGreatDoor.Eng Go.Proofs.YtdhonbahpcmmnaaGreatDoorW.PrintWords
theorem run_bwd (pr : UInt8 → Bool) (s : L) (p : Nat) : s.drop p = (s.take (runE pr s p)).drop p ++ s.drop (runE pr s p) := by
 have h1 := takeW pr (s.drop p)
 have h2 := List.take_append_drop ((s.drop p).takeWhile pr).length (s.drop p)
 rw [h1, List.drop_drop] at h2
 rw [run_part]
 exact h2.symm
theorem isAt_drop {s : L} {p c : Nat} (h : isAt s p c) : s.drop p = gB s p :: s.drop (p + 1) ∧ (gB s p).toNat = c := ⟨drop_gB s p h.1, h.2⟩
theorem u8_of {a : UInt8} {n : Nat} (hn : n < 256) (h : a.toNat = n) : a = UInt8.ofNat n := by
 apply UInt8.toNat_inj.1
 have e : (UInt8.ofNat n).toNat = n % 256 := rfl
 omega
theorem word_in {w : L} (h : isWord w = true) : ∀ c ∈ w, inW c = true := by
 unfold isWord at h
 simp only [Bool.and_eq_true] at h
 exact List.all_eq_true.1 h.1.1
theorem word_len {w : L} (h : isWord w = true) : w.length ≤ 16 := by
 unfold isWord at h
 simp only [Bool.and_eq_true, decide_eq_true_eq] at h
 exact h.2
def tagsT (ts : List (L × L)) : L := (ts.map tagT).flatten
theorem tagsT_cons (t : L × L) (ts : List (L × L)) : tagsT (t :: ts) = 44 :: (t.1 ++ (61 :: (t.2 ++ tagsT ts))) := by
 simp [tagsT, tagT]
theorem tags_stop {s : L} {k p : Nat} {acc : List (L × L)} (h : ¬ isAt s p 44) : tagsP s k p acc = .inl (acc, p) := by
 unfold tagsP
 exact if_neg h
theorem tags_many {s : L} {p : Nat} {acc : List (L × L)} (h : isAt s p 44) : tagsP s 0 p acc = .inr p := by
 unfold tagsP
 exact if_pos h
theorem tags_key {s : L} {k p : Nat} {acc : List (L × L)} (h : isAt s p 44) (h1 : isWord (part s (p + 1)) = false) : tagsP s (k + 1) p acc = .inr (p + 1) := by
 unfold tagsP
 rw [if_pos h]
 exact if_pos h1
theorem tags_eq {s : L} {k p : Nat} {acc : List (L × L)} (h : isAt s p 44) (h1 : isWord (part s (p + 1)) = true) (h2 : ¬ isAt s (runE inW s (p + 1)) 61) : tagsP s (k + 1) p acc = .inr (runE inW s (p + 1)) := by
 unfold tagsP
 rw [if_pos h]
 show (if _ then _ else _) = _
 rw [if_neg (by rw [h1]; simp), if_pos h2]
theorem tags_val {s : L} {k p : Nat} {acc : List (L × L)} (h : isAt s p 44) (h1 : isWord (part s (p + 1)) = true) (h2 : isAt s (runE inW s (p + 1)) 61) (h3 : isWord (part s (runE inW s (p + 1) + 1)) = false) : tagsP s (k + 1) p acc = .inr (runE inW s (p + 1) + 1) := by
 unfold tagsP
 rw [if_pos h]
 show (if _ then _ else _) = _
 rw [if_neg (by rw [h1]; simp), if_neg (fun k_ => k_ h2), if_pos h3]
theorem tags_on {s : L} {k p : Nat} {acc : List (L × L)} (h : isAt s p 44) (h1 : isWord (part s (p + 1)) = true) (h2 : isAt s (runE inW s (p + 1)) 61) (h3 : isWord (part s (runE inW s (p + 1) + 1)) = true) : tagsP s (k + 1) p acc = tagsP s k (runE inW s (runE inW s (p + 1) + 1)) (acc ++ [(part s (p + 1), part s (runE inW s (p + 1) + 1))]) := by
 rw [tagsP, if_pos h]
 show (if _ then _ else _) = _
 rw [if_neg (by rw [h1]; simp), if_neg (fun k_ => k_ h2), if_neg (by rw [h3]; simp)]
theorem tags_bwd {s : L} : ∀ (k p : Nat) (acc ts : List (L × L)) (q : Nat), tagsP s k p acc = .inl (ts, q) → ∃ ts', ts = acc ++ ts' ∧ s.drop p = tagsT ts' ++ s.drop q ∧ (∀ t ∈ ts', isWord t.1 = true ∧ isWord t.2 = true) ∧ ts'.length ≤ k := by
 intro k
 induction k with
 | zero =>
  intro p acc ts q h
  by_cases h0 : isAt s p 44
  ·
   rw [tags_many h0] at h; cases h
  ·
   rw [tags_stop h0] at h
   injection h with h
   injection h with h1 h2
   subst h1 h2
   exact ⟨[], by simp, by simp [tagsT], by simp, by simp⟩
 | succ k ih =>
  intro p acc ts q h
  by_cases h0 : isAt s p 44
  ·
   cases h1 : isWord (part s (p + 1)) with
   | false => rw [tags_key h0 h1] at h; cases h
   | true =>
    by_cases h2 : isAt s (runE inW s (p + 1)) 61
    ·
     cases h3 : isWord (part s (runE inW s (p + 1) + 1)) with
     | false => rw [tags_val h0 h1 h2 h3] at h; cases h
     | true =>
      rw [tags_on h0 h1 h2 h3] at h
      obtain ⟨ts', e1, e2, e3, e4⟩ := ih _ _ _ _ h
      refine ⟨(part s (p + 1), part s (runE inW s (p + 1) + 1)) :: ts', by rw [e1]; simp, ?_, ?_, by simp; exact e4⟩
      ·
       rw [tagsT_cons, (isAt_drop h0).1, run_bwd inW s (p + 1), (isAt_drop h2).1, run_bwd inW s (runE inW s (p + 1) + 1), e2, u8_of (by decide) h0.2, u8_of (by decide) h2.2]
       simp only [part, List.cons_append, List.append_assoc]
       rfl
      ·
       intro t ht
       rcases List.mem_cons.1 ht with rfl | ht
       ·
        exact ⟨h1, h3⟩
       ·
        exact e3 t ht
    ·
     rw [tags_eq h0 h1 h2] at h; cases h
  ·
   rw [tags_stop h0] at h
   injection h with h
   injection h with h1 h2
   subst h1 h2
   exact ⟨[], by simp, by simp [tagsT], by simp, by simp⟩
theorem dv_snoc (q : L) (c : UInt8) : dv (q ++ [c]) = 10 * dv q + c.toNat - 48 := by
 unfold dv
 rw [List.foldl_append]
 rfl
theorem dig_nat {n : Nat} (h : n < 10) : (dig n).toNat = 48 + n := by
 unfold dig
 have e : (UInt8.ofNat (48 + n)).toNat = (48 + n) % 256 := rfl
 omega
theorem gB_app0 {a b : L} (h : 0 < a.length) : gB (a ++ b) 0 = gB a 0 := by
 unfold gB
 cases a with
 | nil => simp at h
 | cons x a => rfl
theorem idx_of {D : L} (h : ∀ c ∈ D, isD c = true) : ∀ j, j < D.length → 48 ≤ (gB D j).toNat ∧ (gB D j).toNat ≤ 57 := fun j hj => isD_in (h _ (List.mem_of_getElem? (gB_some D j hj)))
theorem digs_of (D : L) : D ≠ [] → (∀ c ∈ D, isD c = true) → (1 < D.length → (gB D 0).toNat ≠ 48) → digs (dv D) = D := by
 induction h : D.length using Nat.strongRecOn generalizing D with
 | _ n ih =>
  intro h0 hd hh
  rcases List.eq_nil_or_concat D with e | ⟨q, c, e⟩
  ·
   exact absurd e h0
  ·
   rw [List.concat_eq_append] at e
   subst e
   have hc := isD_in (hd c (by simp))
   rw [dv_snoc]
   by_cases hq : q = []
   ·
    subst hq
    rw [show dv [] = 0 from rfl]
    rw [digs_lo (by omega)]
    simp only [List.nil_append]
    congr 1
    apply UInt8.toNat_inj.1
    rw [dig_nat (by omega)]
    omega
   ·
    have hlq : 0 < q.length := List.length_pos_iff.2 hq
    have hg : (gB q 0).toNat ≠ 48 := by
     rw [← gB_app0 (b := [c]) hlq]
     exact hh (by rw [← h]; simp; omega)
    have hp := dv_pos (idx_of fun x hx => hd x (by simp [hx])) hlq hg
    rw [digs_hi (by omega), show (10 * dv q + c.toNat - 48) / 10 = dv q by omega, ih q.length (by rw [← h]; simp) q rfl hq (fun x hx => hd x (by simp [hx])) (fun _ => hg)]
    congr 2
    apply UInt8.toNat_inj.1
    rw [dig_nat (by omega)]
    omega
theorem valE_ok {b : Bool} {q : L} {l m : Int} (h : (valE b q l m).2 = true) : q.length ≠ 0 ∧ (1 < q.length → (gB q 0).toNat ≠ 48) ∧ ¬ (b = true ∧ q = [48]) ∧ (valE b q l m).1 = (if b = true then - (dv q : Int) else (dv q : Int)) ∧ l ≤ (valE b q l m).1 ∧ (valE b q l m).1 ≤ m := by
 unfold valE at h ⊢
 by_cases h1 : q.length = 0 ∨ 19 < q.length ∨ (1 < q.length ∧ (gB q 0).toNat = 48)
 ·
  rw [if_pos h1] at h; cases h
 ·
  rw [if_neg h1] at h ⊢
  by_cases h2 : b = true ∧ q = [48]
  ·
   rw [if_pos h2] at h; cases h
  ·
   rw [if_neg h2] at h ⊢
   by_cases h3 : 9223372036854775808 < dv q ∨ (dv q = 9223372036854775808 ∧ b = false)
   ·
    rw [if_pos h3] at h; cases h
   ·
    rw [if_neg h3] at h ⊢
    have h4 := of_decide_eq_true h
    exact ⟨fun e => h1 (.inl e), fun e e2 => h1 (.inr (.inr ⟨e, e2⟩)), h2, rfl, h4.1, h4.2⟩
theorem num_bwd {s : L} {p : Nat} {l m v : Int} (h : numP s p l m = some v) : s.drop p = numT v ++ s.drop (numE s p) ∧ l ≤ v ∧ v ≤ m := by
 by_cases hb : p < s.length ∧ (gB s p).toNat = 45
 ·
  have e1 : numB s p = p + 1 := if_pos hb
  unfold numP at h
  unfold numE
  rw [e1] at h ⊢
  rw [numR_m _ (gB s p) hb.2 rfl (run_minus hb.1) (run_digits s (p + 1))] at h
  obtain ⟨D, hD⟩ : ∃ D, D = (s.take (runE isD s (p + 1))).drop (p + 1) := ⟨_, rfl⟩
  have hr := run_bwd isD s (p + 1)
  have hdg := run_digits s (p + 1)
  rw [← hD] at h hr hdg
  cases hv : (valE true D l m).2 with
  | false => rw [hv] at h; cases h
  | true =>
   rw [hv, if_pos rfl] at h
   injection h with h
   obtain ⟨a1, a2, a3, a4, a5, a6⟩ := valE_ok hv
   rw [h] at a4 a5 a6
   rw [if_pos rfl] at a4
   have hD0 : D ≠ [] := fun e => a1 (by rw [e]; rfl)
   have hl : 0 < D.length := List.length_pos_iff.2 hD0
   have hg : (gB D 0).toNat ≠ 48 := fun h3 => by
    by_cases h4 : 1 < D.length
    ·
     exact a2 h4 h3
    ·
     match D, hl, h4, h3, a3 with
     | [x], _, _, h3, h48 => exact h48 ⟨rfl, by rw [(u48 x).2 h3]⟩
     | x :: y :: r, _, h4, _, _ => exact h4 (by simp)
   have hp := dv_pos hdg hl hg
   have hmem : ∀ c ∈ D, isD c = true := fun c hc => isD_t (dv_mem hdg c hc)
   refine ⟨?_, a5, a6⟩
   rw [drop_gB s p hb.1, hr]
   unfold numT
   rw [if_pos (by omega), show v.natAbs = dv D by omega, digs_of D hD0 hmem a2, u8_of (by decide) hb.2]
   rfl
 ·
  have e1 : numB s p = p := if_neg hb
  unfold numP at h
  unfold numE
  rw [e1] at h ⊢
  rw [numR_d _ rfl (run_digits s p)] at h
  obtain ⟨D, hD⟩ : ∃ D, D = (s.take (runE isD s p)).drop p := ⟨_, rfl⟩
  have hr := run_bwd isD s p
  have hdg := run_digits s p
  rw [← hD] at h hr hdg
  cases hv : (valE false D l m).2 with
  | false => rw [hv] at h; cases h
  | true =>
   rw [hv, if_pos rfl] at h
   injection h with h
   obtain ⟨a1, a2, a3, a4, a5, a6⟩ := valE_ok hv
   rw [h] at a4 a5 a6
   rw [if_neg (by simp)] at a4
   have hD0 : D ≠ [] := fun e => a1 (by rw [e]; rfl)
   have hmem : ∀ c ∈ D, isD c = true := fun c hc => isD_t (dv_mem hdg c hc)
   refine ⟨?_, a5, a6⟩
   rw [hr]
   unfold numT
   rw [if_neg (by omega), show v.toNat = dv D by omega, digs_of D hD0 hmem a2]
end Go.Proofs.YtdhonbahpcmmnaaGreatDoor.Line
end
section
set_option maxHeartbeats 400000
set_option linter.unusedVariables false
set_option linter.unusedSimpArgs false
namespace Go.Proofs.YtdhonbahpcmmnaaGreatDoor.Line
open Go Go.RowKit Go.Proofs.YtdhonbahpcmmnaaGreatDoor Go.Proofs.YtdhonbahpcmmnaaGreatDoor.Eng Go.Proofs.YtdhonbahpcmmnaaGreatDoorW.PrintWords
theorem head_eq (e : Ev) : headT e = e.name ++ tagsT e.tags := rfl
theorem may_parts {e : Ev} (h : mayE e = true) : (∀ t ∈ e.tags, isWord t.1 = true ∧ isWord t.2 = true) ∧ isWord e.name = true ∧ e.tags.length ≤ 6 ∧ (1 ≤ e.kind ∧ e.kind ≤ 3) ∧ 0 ≤ e.time ∧ e.time ≤ 1099511627776 := by
 unfold mayE at h
 simp only [Bool.and_eq_true, decide_eq_true_eq] at h
 refine ⟨fun t ht => ?_, h.1.1.1.1.1.2, h.1.1.1.1.2, ⟨h.1.1.1.2, h.1.1.2⟩, h.1.2, h.2⟩
 have := List.all_eq_true.1 h.1.1.1.1.1.1 t ht
 simpa only [Bool.and_eq_true] using this
theorem may_of {e : Ev} (h1 : ∀ t ∈ e.tags, isWord t.1 = true ∧ isWord t.2 = true) (h2 : isWord e.name = true) (h3 : e.tags.length ≤ 6) (h4 : 1 ≤ e.kind ∧ e.kind ≤ 3) (h5 : 0 ≤ e.time ∧ e.time ≤ 1099511627776) : mayE e = true := by
 unfold mayE
 simp only [Bool.and_eq_true, decide_eq_true_eq]
 refine ⟨⟨⟨⟨⟨⟨List.all_eq_true.2 fun t ht => ?_, h2⟩, h3⟩, h4.1⟩, h4.2⟩, h5.1⟩, h5.2⟩
 simp only [Bool.and_eq_true]
 exact h1 t ht
theorem letter_fwd {k : Int} (h : 1 ≤ k ∧ k ≤ 3) : ∃ c, letter k = [c] ∧ kindP c = k := by
 have : k = 1 ∨ k = 2 ∨ k = 3 := by omega
 rcases this with rfl | rfl | rfl
 ·
  exact ⟨99, rfl, rfl⟩
 ·
  exact ⟨103, rfl, rfl⟩
 ·
  exact ⟨104, rfl, rfl⟩
theorem letter_bwd {c : UInt8} (h : kindP c ≠ 0) : letter (kindP c) = [c] ∧ 1 ≤ kindP c ∧ kindP c ≤ 3 := by
 unfold kindP at h ⊢
 by_cases h1 : c.toNat = 99
 ·
  rw [if_pos h1]; exact ⟨by rw [u8_of (by decide) h1]; rfl, by decide, by decide⟩
 ·
  rw [if_neg h1] at h ⊢
  by_cases h2 : c.toNat = 103
  ·
   rw [if_pos h2]; exact ⟨by rw [u8_of (by decide) h2]; rfl, by decide, by decide⟩
  ·
   rw [if_neg h2] at h ⊢
   by_cases h3 : c.toNat = 104
   ·
    rw [if_pos h3]; exact ⟨by rw [u8_of (by decide) h3]; rfl, by decide, by decide⟩
   ·
    rw [if_neg h3] at h; exact absurd rfl h
theorem parse_bwd {s : L} {y : Ev} (h : parseP s = .inl y) : mayE y = true ∧ printT y = s ∧ -9223372036854775808 ≤ y.value ∧ y.value ≤ 9223372036854775807 := by
 cases h0 : isWord (part s 0) with
 | false => rw [pp_name h0] at h; cases h
 | true =>
  rw [pp_tags h0] at h
  cases h1 : tagsP s 6 (runE inW s 0) [] with
  | inr p => rw [h1] at h; cases h
  | inl x =>
   obtain ⟨ts, p⟩ := x
   rw [h1] at h
   obtain ⟨ts', t1, t2, t3, t4⟩ := tags_bwd _ _ _ _ _ h1
   rw [List.nil_append] at t1
   subst t1
   change restP s ts p = _ at h
   by_cases h2 : isAt s p 32
   ·
    by_cases h3 : s.length ≤ p + 1
    ·
     rw [rp_2 h2 h3] at h; cases h
    ·
     by_cases h4 : kindP (gB s (p + 1)) = 0
     ·
      rw [rp_3 h2 h3 h4] at h; cases h
     ·
      by_cases h5 : isAt s (p + 2) 32
      ·
       rw [rp_5 h2 h3 h4 h5] at h
       cases h6 : numP s (p + 3) (-9223372036854775808) 9223372036854775807 with
       | none => rw [h6] at h; cases h
       | some v =>
        rw [h6] at h
        by_cases h7 : isAt s (numE s (p + 3)) 32
        ·
         rw [vp_2 h7] at h
         cases h8 : numP s (numE s (p + 3) + 1) 0 1099511627776 with
         | none => rw [h8] at h; cases h
         | some t =>
          rw [h8] at h
          by_cases h9 : numE s (numE s (p + 3) + 1) < s.length
          ·
           rw [tp_1 h9] at h; cases h
          ·
           rw [tp_2 h9] at h
           injection h with h
           subst h
           obtain ⟨v1, v2, v3⟩ := num_bwd h6
           obtain ⟨w1, w2, w3⟩ := num_bwd h8
           obtain ⟨l1, l2, l3⟩ := letter_bwd h4
           refine ⟨may_of t3 h0 t4 ⟨l2, l3⟩ ⟨w2, w3⟩, ?_, v2, v3⟩
           have e1 : s = part s 0 ++ s.drop (runE inW s 0) := run_bwd inW s 0
           rw [t2, (isAt_drop h2).1, drop_gB s (p + 1) (by omega), (isAt_drop h5).1, v1, (isAt_drop h7).1, w1, List.drop_of_length_le (Nat.le_of_not_lt h9), u8_of (by decide) h2.2, u8_of (by decide) h5.2, u8_of (by decide) h7.2] at e1
           refine Eq.trans ?_ e1.symm
           unfold printT
           rw [head_eq]
           simp only [l1, List.append_assoc, List.append_nil, List.singleton_append, List.cons_append, List.nil_append]
           rfl
        ·
         rw [vp_1 h7] at h; cases h
      ·
       rw [rp_4 h2 h3 h4 h5] at h; cases h
   ·
    rw [rp_1 h2] at h; cases h
theorem tagsT_len {ts : List (L × L)} (h : ∀ t ∈ ts, isWord t.1 = true ∧ isWord t.2 = true) : (tagsT ts).length ≤ 34 * ts.length := by
 induction ts with
 | nil => simp [tagsT]
 | cons t ts ih =>
  have h1 := ih (fun u hu => h u (by simp [hu]))
  have h2 := word_len (h t (by simp)).1
  have h3 := word_len (h t (by simp)).2
  rw [tagsT_cons]
  simp only [List.length_cons, List.length_append]
  omega
theorem print_len {e : Ev} (hm : mayE e = true) (hv : -9223372036854775808 ≤ e.value ∧ e.value ≤ 9223372036854775807) : (printT e).length ≤ 300 := by
 obtain ⟨h1, h2, h3, h4, h5, h6⟩ := may_parts hm
 have a1 := tagsT_len h1
 have a2 := word_len h2
 have a3 := num_len e.value hv
 have a4 := num_len e.time (by omega)
 obtain ⟨c, hc, _⟩ := letter_fwd h4
 unfold printT
 rw [head_eq, hc]
 simp only [List.length_append, List.length_cons, List.length_nil]
 omega
end Go.Proofs.YtdhonbahpcmmnaaGreatDoor.Line
end
section
set_option linter.unusedVariables false
namespace Go.Proofs.YtdhonbahpcmmnaaGreatDoor.Eng
open Go Go.Proofs.YtdhonbahpcmmnaaGreatDoor
def ltS (a b : List UInt8) : Bool := Go.Op.bytesLess a b
theorem toList_str (l : List UInt8) : (str l).toList = l := ByteArray.toList_eq (str l)
theorem lss_str (a b : List UInt8) : Go.Op.bytesLess (str a).toList (str b).toList = ltS a b := by rw [toList_str, toList_str]; rfl
theorem ltS_cons (x y : UInt8) (a b : List UInt8) : ltS (x :: a) (y :: b) = true ↔ x.toNat < y.toNat ∨ (x = y ∧ ltS a b = true) := by
 show (decide (x < y) || (x == y && ltS a b)) = true ↔ _
 simp only [Bool.or_eq_true, Bool.and_eq_true, decide_eq_true_eq, beq_iff_eq]
 exact Iff.rfl
theorem ltS_nil (a : List UInt8) : ltS a [] = false := by cases a <;> rfl
theorem ltS_irrefl : ∀ a : List UInt8, ltS a a = false
 | [] => rfl
 | x :: a => by
  rw [Bool.eq_false_iff]
  intro h
  rcases (ltS_cons x x a a).1 h with h | h
  ·
   omega
  ·
   rw [ltS_irrefl a] at h
   cases h.2
theorem ltS_trans : ∀ a b c : List UInt8, ltS a b = true → ltS b c = true → ltS a c = true
 | _, _, [], _, h => by rw [ltS_nil] at h; cases h
 | _, [], _ :: _, h, _ => by rw [ltS_nil] at h; cases h
 | [], _ :: _, _ :: _, _, _ => rfl
 | x :: a, y :: b, z :: c, h1, h2 => by
  rw [ltS_cons] at h1 h2 ⊢
  rcases h1 with h1 | ⟨rfl, h1⟩
  ·
   rcases h2 with h2 | ⟨rfl, h2⟩
   ·
    exact .inl (by omega)
   ·
    exact .inl h1
  ·
   rcases h2 with h2 | ⟨rfl, h2⟩
   ·
    exact .inl h2
   ·
    exact .inr ⟨rfl, ltS_trans a b c h1 h2⟩
theorem ltS_tri : ∀ a b : List UInt8, ltS a b = false → ltS b a = false → a = b
 | [], [], _, _ => rfl
 | [], _ :: _, h, _ => by cases h
 | _ :: _, [], _, h => by cases h
 | x :: a, y :: b, h1, h2 => by
  rw [Bool.eq_false_iff, ne_eq, ltS_cons] at h1 h2
  have e : x = y := UInt8.toNat_inj.1 (by omega)
  subst e
  rw [ltS_tri a b (by rw [Bool.eq_false_iff]; exact fun h => h1 (.inr ⟨rfl, h⟩)) (by rw [Bool.eq_false_iff]; exact fun h => h2 (.inr ⟨rfl, h⟩))]
theorem ltS_asymm {a b : List UInt8} (h : ltS a b = true) : ltS b a = false := by
 rw [Bool.eq_false_iff]
 intro h2
 have := ltS_trans a b a h h2
 rw [ltS_irrefl] at this
 cases this
theorem gtr_str (a b : List UInt8) : (!(Go.Op.bytesLess (str a).toList (str b).toList || (str a).toList == (str b).toList)) = ltS b a := by
 rw [toList_str, toList_str]
 show (!(ltS a b || a == b)) = ltS b a
 cases h : ltS a b with
 | true => rw [ltS_asymm h]; rfl
 | false =>
  cases h2 : ltS b a with
  | true =>
   have : (a == b) = false := by
    rw [Bool.eq_false_iff]
    intro e
    rw [eq_of_beq e, ltS_irrefl] at h2
    cases h2
   rw [this]; rfl
  | false => rw [ltS_tri a b h h2]; simp
end Go.Proofs.YtdhonbahpcmmnaaGreatDoor.Eng
end
section
set_option maxHeartbeats 400000
set_option linter.unusedVariables false
set_option linter.unusedSimpArgs false
namespace Go.Proofs.YtdhonbahpcmmnaaGreatDoor.Line
open Go Go.RowKit Go.Proofs.YtdhonbahpcmmnaaGreatDoor Go.Proofs.YtdhonbahpcmmnaaGreatDoor.Eng Go.Proofs.YtdhonbahpcmmnaaGreatDoorW.PrintWords
abbrev Tgs := List (L × L)
def Asc (l : Tgs) : Prop := l.Pairwise fun a b => ltS b.1 a.1 = false
def StrA (l : Tgs) : Prop := l.Pairwise fun a b => ltS a.1 b.1 = true
def insK (x : L × L) : Tgs → Tgs
 | [] => [x]
 | y :: l => if ltS y.1 x.1 = true then y :: insK x l else x :: y :: l
def sortK (l : Tgs) : Tgs := l.foldl (fun s x => insK x s) []
def dupA : Tgs → Bool
 | a :: b :: l => decide (a.1 = b.1) || dupA (b :: l)
 | _ => false
def canonE (e : Ev) : Sum Ev Int := if mayE e = false then .inr 1 else if dupA (sortK e.tags) = true then .inr 5 else .inl { e with tags := sortK e.tags }
def keyE (e : Ev) : Sum L Int :=
 match canonE e with
 | .inr c => .inr c
 | .inl c => .inl (headT c)
theorem insK_perm (x : L × L) : ∀ l, (insK x l).Perm (x :: l)
 | [] => List.Perm.refl _
 | y :: l => by
  unfold insK
  split
  ·
   exact ((insK_perm x l).cons y).trans (List.Perm.swap x y l)
  ·
   exact List.Perm.refl _
theorem fold_perm : ∀ (l s : Tgs), (l.foldl (fun s x => insK x s) s).Perm (s ++ l)
 | [], s => by simp
 | x :: l, s => by
  rw [List.foldl_cons]
  refine (fold_perm l (insK x s)).trans ?_
  have h := (insK_perm x s).append_right l
  refine h.trans ?_
  exact (List.perm_middle (a := x) (l₁ := s) (l₂ := l)).symm
theorem sortK_perm (l : Tgs) : (sortK l).Perm l := fold_perm l []
theorem insK_asc {x : L × L} : ∀ {l : Tgs}, Asc l → Asc (insK x l)
 | [], _ => by simp [insK, Asc]
 | y :: l, h => by
  obtain ⟨h1, h2⟩ := List.pairwise_cons.1 h
  unfold insK
  split
  ·
   rename_i hxy
   refine List.pairwise_cons.2 ⟨fun z hz => ?_, insK_asc h2⟩
   rcases List.mem_cons.1 ((insK_perm x l).mem_iff.1 hz) with rfl | hz
   ·
    exact ltS_asymm hxy
   ·
    exact h1 z hz
  ·
   rename_i hxy
   have hxy : ltS y.1 x.1 = false := by simpa using hxy
   refine List.pairwise_cons.2 ⟨fun z hz => ?_, h⟩
   rcases List.mem_cons.1 hz with rfl | hz
   ·
    exact hxy
   ·
    rw [Bool.eq_false_iff]
    intro hzx
    have h3 := h1 z hz
    rw [Bool.eq_false_iff] at h3 hxy
    by_cases hyz : ltS y.1 z.1 = true
    ·
     exact hxy (ltS_trans _ _ _ hyz hzx)
    ·
     have e := ltS_tri _ _ (by simpa using hyz) (by simpa using h3)
     rw [e] at hxy
     exact hxy hzx
theorem fold_asc : ∀ (l : Tgs) {s : Tgs}, Asc s → Asc (l.foldl (fun s x => insK x s) s)
 | [], _, h => h
 | x :: l, _, h => fold_asc l (insK_asc h)
theorem sortK_asc (l : Tgs) : Asc (sortK l) := fold_asc l List.Pairwise.nil
theorem asc_str : ∀ {l : Tgs}, Asc l → dupA l = false → StrA l
 | [], _, _ => List.Pairwise.nil
 | [a], _, _ => by simp [StrA]
 | a :: b :: l, h, hd => by
  obtain ⟨h1, h2⟩ := List.pairwise_cons.1 h
  unfold dupA at hd
  simp only [Bool.or_eq_false_iff, decide_eq_false_iff_not] at hd
  have ih := asc_str h2 hd.2
  refine List.pairwise_cons.2 ⟨fun z hz => ?_, ih⟩
  have hab : ltS a.1 b.1 = true := by
   cases hab : ltS a.1 b.1 with
   | true => rfl
   | false => exact absurd (ltS_tri _ _ hab (h1 b (by simp))) hd.1
  rcases List.mem_cons.1 hz with rfl | hz
  ·
   exact hab
  ·
   exact ltS_trans _ _ _ hab ((List.pairwise_cons.1 ih).1 z hz)
theorem str_dup : ∀ {l : Tgs}, StrA l → dupA l = false
 | [], _ => rfl
 | [a], _ => rfl
 | a :: b :: l, h => by
  obtain ⟨h1, h2⟩ := List.pairwise_cons.1 h
  unfold dupA
  rw [str_dup h2, Bool.or_false, decide_eq_false_iff_not]
  intro e
  have := h1 b (by simp)
  rw [e, ltS_irrefl] at this
  cases this
theorem str_asc {l : Tgs} (h : StrA l) : Asc l := h.imp fun h => ltS_asymm h
theorem str_uniq : ∀ {l m : Tgs}, l.Perm m → StrA l → StrA m → l = m
 | [], m, h, _, _ => (List.nil_perm.1 h).symm
 | a :: l, [], h, _, _ => absurd h.length_eq (by simp)
 | a :: l, b :: m, h, h1, h2 => by
  obtain ⟨a1, a2⟩ := List.pairwise_cons.1 h1
  obtain ⟨b1, b2⟩ := List.pairwise_cons.1 h2
  have e : a = b := by
   rcases List.mem_cons.1 (h.mem_iff.1 (List.mem_cons_self (a := a) (l := l))) with e | ha
   ·
    exact e
   ·
    rcases List.mem_cons.1 (h.mem_iff.2 (List.mem_cons_self (a := b) (l := m))) with e | hb
    ·
     exact e.symm
    ·
     have k1 := a1 b hb
     have k2 := b1 a ha
     rw [ltS_asymm k1] at k2
     cases k2
  subst e
  rw [str_uniq ((List.perm_cons a).1 h) a2 b2]
theorem asc_nodup {l : Tgs} (h : Asc l) : dupA l = false ↔ (l.map Prod.fst).Nodup := by
 constructor
 ·
  intro hd
  have := asc_str h hd
  rw [List.nodup_iff_pairwise_ne, List.pairwise_map]
  refine this.imp fun {a b} hab e => ?_
  rw [e, ltS_irrefl] at hab
  cases hab
 ·
  intro hn
  clear h
  induction l with
  | nil => rfl
  | cons a l ih =>
   rw [List.map_cons, List.nodup_cons] at hn
   cases l with
   | nil => rfl
   | cons b l =>
    unfold dupA
    rw [ih hn.2, Bool.or_false, decide_eq_false_iff_not]
    intro e
    exact hn.1 (by rw [e]; simp)
theorem dup_perm {l m : Tgs} (h : l.Perm m) (h1 : Asc l) (h2 : Asc m) : dupA l = dupA m := by
 have h3 := asc_nodup h1
 have h4 := asc_nodup h2
 have h5 : (l.map Prod.fst).Nodup ↔ (m.map Prod.fst).Nodup := (h.map Prod.fst).nodup_iff
 cases ha : dupA l <;> cases hb : dupA m
 ·
  rfl
 ·
  rw [ha] at h3; rw [hb] at h4
  exact absurd (h4.2 (h5.1 (h3.1 rfl))) (by simp)
 ·
  rw [ha] at h3; rw [hb] at h4
  exact absurd (h3.2 (h5.2 (h4.1 rfl))) (by simp)
 ·
  rfl
theorem canon_of {e : Ev} {ts : Tgs} (hp : ts.Perm e.tags) (ha : Asc ts) (hm : mayE e = true) : canonE e = if dupA ts = true then .inr 5 else .inl { e with tags := ts } := by
 have hq := hp.trans (sortK_perm e.tags).symm
 have hd := dup_perm hq ha (sortK_asc e.tags)
 unfold canonE
 rw [if_neg (by rw [hm]; simp), ← hd]
 cases h : dupA ts with
 | true => rfl
 | false =>
  rw [← str_uniq hq (asc_str ha h) (asc_str (sortK_asc _) (by rw [← hd]; exact h))]
theorem canon_no {e : Ev} (h : mayE e = false) : canonE e = .inr 1 := if_pos h
theorem may_perm {e : Ev} {r : Tgs} (h : r.Perm e.tags) : mayE { e with tags := r } = mayE e := by
 have h1 : r.all (fun t => isWord t.1 && isWord t.2) = e.tags.all (fun t => isWord t.1 && isWord t.2) := by
  rw [Bool.eq_iff_iff, List.all_eq_true, List.all_eq_true]
  exact ⟨fun k x hx => k x (h.mem_iff.2 hx), fun k x hx => k x (h.mem_iff.1 hx)⟩
 unfold mayE
 simp only [h1, h.length_eq]
theorem canon_may {e c : Ev} (h : canonE e = .inl c) : mayE e = true ∧ c = { e with tags := sortK e.tags } ∧ dupA (sortK e.tags) = false ∧ mayE c = true := by
 unfold canonE at h
 by_cases h1 : mayE e = false
 ·
  rw [if_pos h1] at h; cases h
 ·
  rw [if_neg h1] at h
  have h1 : mayE e = true := by simpa using h1
  by_cases h2 : dupA (sortK e.tags) = true
  ·
   rw [if_pos h2] at h; cases h
  ·
   rw [if_neg h2] at h
   injection h with h
   exact ⟨h1, h.symm, by simpa using h2, by rw [← h, may_perm (sortK_perm _)]; exact h1⟩
def tailT : L := [32, 99, 32, 48, 32, 48]
def ofE (k : L) : Option (L × Tgs) :=
 if 294 < k.length then none
 else match parseP (k ++ tailT) with
 | .inr _ => none
 | .inl e => if keyE e = .inl k then some (e.name, e.tags) else none
theorem canon_fix {c : Ev} (hm : mayE c = true) (hs : StrA c.tags) : canonE c = .inl c := by
 rw [canon_of (List.Perm.refl _) (str_asc hs) hm, if_neg (by rw [str_dup hs]; simp)]
theorem index_first : ∀ (a r : L), 32 ∉ a → Lib.index (a ++ 32 :: r) [32] = (a.length : Int)
 | [], r, _ => by simp [Lib.index, List.isPrefixOf]
 | b :: a, r, h => by
  have hb : (32 : UInt8) ≠ b := fun e => h (by rw [e]; simp)
  have ih := index_first a r (fun k => h (by simp [k]))
  rw [List.cons_append, Lib.index]
  have e1 : ([32] : L).isPrefixOf (b :: (a ++ 32 :: r)) = false := by simp [List.isPrefixOf, hb]
  rw [e1, ih]
  have e2 : ((a.length : Int) == -1) = false := by
   rw [Bool.eq_false_iff]
   intro k
   have := eq_of_beq k
   omega
  rw [e2]
  simp
theorem head_no32 {c : Ev} (h : mayE c = true) : (32 : UInt8) ∉ headT c := by
 obtain ⟨h1, h2, h3, _⟩ := may_parts h
 have hw : ∀ w : L, isWord w = true → (32 : UInt8) ∉ w := fun w hw hm => by
  have := word_in hw 32 hm
  cases this
 intro hm
 rw [head_eq] at hm
 rcases List.mem_append.1 hm with hm | hm
 ·
  exact hw _ h2 hm
 ·
  have key : ∀ ts : Tgs, (∀ t ∈ ts, isWord t.1 = true ∧ isWord t.2 = true) → (32 : UInt8) ∉ tagsT ts := by
   intro ts
   induction ts with
   | nil => intro _; simp [tagsT]
   | cons t ts ih =>
    intro hh hm
    rw [tagsT_cons] at hm
    obtain ⟨k1, k2⟩ := hh t (by simp)
    simp only [List.mem_cons, List.mem_append] at hm
    rcases hm with hm | hm | hm | hm | hm
    ·
     cases hm
    ·
     exact hw _ k1 hm
    ·
     cases hm
    ·
     exact hw _ k2 hm
    ·
     exact ih (fun u hu => hh u (by simp [hu])) hm
  exact key _ h1 hm
theorem cut_print {c : Ev} (h : mayE c = true) : Lib.cut (printT c) [32] = (headT c, letter c.kind ++ 32 :: (numT c.value ++ 32 :: numT c.time), true) := by
 unfold Lib.cut printT
 rw [index_first _ _ (head_no32 h)]
 rw [if_pos (by omega)]
 simp [List.drop_append]
end Go.Proofs.YtdhonbahpcmmnaaGreatDoor.Line
end
section
set_option linter.unusedVariables false
set_option linter.unusedSimpArgs false
namespace Go.Proofs.YtdhonbahpcmmnaaGreatDoor.Bat
open Go Go.Proofs.YtdhonbahpcmmnaaGreatDoor.Wire
open Go.Proofs.YtdhonbahpcmmnaaGreatDoor.Line (ofE)
open Go.Proofs.YtdhonbahpcmmnaaGreatDoor.Eng (ltS)
abbrev L := List UInt8
structure Rw where
 key : L
 kind : Int
 many : Nat
 sum : Int
 least : Int
 most : Int
 over : Bool
 bk : List Nat
structure Bt where
 seq : Int
 start : Int
 rows : List Rw
def rw0 : Rw := ⟨[], 0, 0, 0, 0, 0, false, []⟩
def gW (q : List Rw) (i : Nat) : Rw := q.getD i rw0
theorem gW_at {q : List Rw} {i : Nat} (h : i < q.length) : q[i]? = some (gW q i) := by
 rw [gW, List.getD_eq_getElem?_getD, List.getElem?_eq_getElem h]
 rfl
theorem gW_mem {q : List Rw} {i : Nat} (h : i < q.length) : gW q i ∈ q := List.mem_of_getElem? (gW_at h)
def bkOk (r : Rw) : Bool := if r.kind = 3 then decide (0 < r.bk.length) && decide (r.bk.getD (r.bk.length - 1) 0 ≠ 0) else decide (r.bk.length = 0)
def rowOk (r : Rw) : Bool := (ofE r.key).isSome && (decide (1 ≤ r.kind) && (decide (r.kind ≤ 3) && (decide (1 ≤ r.many) && (decide (r.least ≤ r.most) && (decide (r.bk.length ≤ 65) && bkOk r)))))
def ordR (p r : Rw) : Bool := !(ltS r.key p.key) && !(decide (p.key = r.key) && decide (r.kind ≤ p.kind))
def okAt (l : List Rw) (i : Nat) : Bool := rowOk (gW l i) && (decide (i = 0) || ordR (gW l (i - 1)) (gW l i))
def mayB (b : Bt) : Bool := decide (0 ≤ b.seq) && (decide (b.seq ≤ 2147483647) && (decide (0 ≤ b.start) && (decide (b.start ≤ 1099511627776) && (decide (b.rows.length ≤ 200) && (List.range b.rows.length).all (okAt b.rows)))))
theorem rowOk_iff {r : Rw} : rowOk r = true ↔ (ofE r.key).isSome = true ∧ 1 ≤ r.kind ∧ r.kind ≤ 3 ∧ 1 ≤ r.many ∧ r.least ≤ r.most ∧ r.bk.length ≤ 65 ∧ bkOk r = true := by
 unfold rowOk
 simp only [Bool.and_eq_true, decide_eq_true_eq]
theorem mayB_iff {b : Bt} : mayB b = true ↔ 0 ≤ b.seq ∧ b.seq ≤ 2147483647 ∧ 0 ≤ b.start ∧ b.start ≤ 1099511627776 ∧ b.rows.length ≤ 200 ∧ ∀ i, i < b.rows.length → okAt b.rows i = true := by
 unfold mayB
 simp only [Bool.and_eq_true, decide_eq_true_eq, List.all_eq_true, List.mem_range]
theorem key_le {k : L} (h : (ofE k).isSome = true) : k.length ≤ 294 := by
 rcases Nat.lt_or_ge 294 k.length with h1 | h1
 ·
  unfold ofE at h
  rw [if_pos h1] at h
  cases h
 ·
  exact h1
def Rw.In (r : Rw) : Prop := r.many < 18446744073709551616 ∧ (-9223372036854775808 ≤ r.sum ∧ r.sum ≤ 9223372036854775807) ∧ (-9223372036854775808 ≤ r.least ∧ r.least ≤ 9223372036854775807) ∧ (-9223372036854775808 ≤ r.most ∧ r.most ≤ 9223372036854775807) ∧ ∀ x ∈ r.bk, x < 18446744073709551616
def Rd (l : L) (s : St) (x : L) (t : St) : Prop := s.bad = false ∧ s.p ≤ t.p ∧ l.take t.p = l.take s.p ++ x
theorem Rd.app {l x y : L} {s t u : St} (h1 : Rd l s x t) (h2 : Rd l t y u) : Rd l s (x ++ y) u :=
 ⟨h1.1, Nat.le_trans h1.2.1 h2.2.1, by rw [h2.2.2, h1.2.2, List.append_assoc]⟩
end Go.Proofs.YtdhonbahpcmmnaaGreatDoor.Bat
end
