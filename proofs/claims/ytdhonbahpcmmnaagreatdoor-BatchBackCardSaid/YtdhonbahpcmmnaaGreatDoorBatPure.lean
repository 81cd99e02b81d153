/- Layer 7, in plain Lean: batches, their bytes, and how they are read. No program. -/
import Derived.Test.YtdhonbahpcmmnaaGreatDoorWFoot
import Derived.Test.YtdhonbahpcmmnaaGreatDoorSerPure
set_option linter.unusedVariables false
set_option linter.unusedSimpArgs false
namespace Go.Proofs.YtdhonbahpcmmnaaGreatDoor.Bat
open Go Go.Proofs.YtdhonbahpcmmnaaGreatDoor.Wire
open Go.Proofs.YtdhonbahpcmmnaaGreatDoor.Line (ofE)
open Go.Proofs.YtdhonbahpcmmnaaGreatDoor.Eng (ltS)
abbrev L := List UInt8
structure Rw where
 key : L
 kind : Int
 many : Nat
 sum : Int
 least : Int
 most : Int
 over : Bool
 bk : List Nat
structure Bt where
 seq : Int
 start : Int
 rows : List Rw
def rw0 : Rw := ⟨[], 0, 0, 0, 0, 0, false, []⟩
def gW (q : List Rw) (i : Nat) : Rw := q.getD i rw0
theorem gW_at {q : List Rw} {i : Nat} (h : i < q.length) : q[i]? = some (gW q i) := by
 rw [gW, List.getD_eq_getElem?_getD, List.getElem?_eq_getElem h]
 rfl
def bkOk (r : Rw) : Bool := if r.kind = 3 then decide (0 < r.bk.length) && decide (r.bk.getD (r.bk.length - 1) 0 ≠ 0) else decide (r.bk.length = 0)
def rowOk (r : Rw) : Bool := (ofE r.key).isSome && (decide (1 ≤ r.kind) && (decide (r.kind ≤ 3) && (decide (1 ≤ r.many) && (decide (r.least ≤ r.most) && (decide (r.bk.length ≤ 65) && bkOk r)))))
def ordR (p r : Rw) : Bool := !(ltS r.key p.key) && !(decide (p.key = r.key) && decide (r.kind ≤ p.kind))
def okAt (l : List Rw) (i : Nat) : Bool := rowOk (gW l i) && (decide (i = 0) || ordR (gW l (i - 1)) (gW l i))
def mayB (b : Bt) : Bool := decide (0 ≤ b.seq) && (decide (b.seq ≤ 2147483647) && (decide (0 ≤ b.start) && (decide (b.start ≤ 1099511627776) && (decide (b.rows.length ≤ 200) && (List.range b.rows.length).all (okAt b.rows)))))
theorem rowOk_iff {r : Rw} : rowOk r = true ↔ (ofE r.key).isSome = true ∧ 1 ≤ r.kind ∧ r.kind ≤ 3 ∧ 1 ≤ r.many ∧ r.least ≤ r.most ∧ r.bk.length ≤ 65 ∧ bkOk r = true := by
 unfold rowOk
 simp only [Bool.and_eq_true, decide_eq_true_eq]
theorem mayB_iff {b : Bt} : mayB b = true ↔ 0 ≤ b.seq ∧ b.seq ≤ 2147483647 ∧ 0 ≤ b.start ∧ b.start ≤ 1099511627776 ∧ b.rows.length ≤ 200 ∧ ∀ i, i < b.rows.length → okAt b.rows i = true := by
 unfold mayB
 simp only [Bool.and_eq_true, decide_eq_true_eq, List.all_eq_true, List.mem_range]
theorem okAt_row {l : List Rw} {i : Nat} (h : okAt l i = true) : rowOk (gW l i) = true := by
 unfold okAt at h
 simp only [Bool.and_eq_true] at h
 exact h.1
theorem mayB_row {b : Bt} (h : mayB b = true) {r : Rw} (hr : r ∈ b.rows) : rowOk r = true := by
 obtain ⟨i, hi, he⟩ := List.mem_iff_getElem.1 hr
 have := okAt_row ((mayB_iff.1 h).2.2.2.2.2 i hi)
 have e : gW b.rows i = r := by
  have h1 := gW_at hi
  rw [List.getElem?_eq_getElem hi, he] at h1
  exact (Option.some.inj h1).symm
 rwa [e] at this
theorem key_le {k : L} (h : (ofE k).isSome = true) : k.length ≤ 294 := by
 rcases Nat.lt_or_ge 294 k.length with h1 | h1
 ·
  unfold ofE at h
  rw [if_pos h1] at h
  cases h
 ·
  exact h1
def Rw.In (r : Rw) : Prop := r.many < 18446744073709551616 ∧ (-9223372036854775808 ≤ r.sum ∧ r.sum ≤ 9223372036854775807) ∧ (-9223372036854775808 ≤ r.least ∧ r.least ≤ 9223372036854775807) ∧ (-9223372036854775808 ≤ r.most ∧ r.most ≤ 9223372036854775807) ∧ ∀ x ∈ r.bk, x < 18446744073709551616
def ob (o : Bool) : Nat := if o = true then 1 else 0
def encN (l : List Nat) : L := l.flatMap enc
def encR (r : Rw) : L := encT r.key ++ (enc r.kind.toNat ++ (enc r.many ++ (enc (zig r.sum) ++ (enc (zig r.least) ++ (enc (zig r.most) ++ (enc (ob r.over) ++ (enc r.bk.length ++ encN r.bk)))))))
def encB (b : Bt) : L := enc b.seq.toNat ++ (enc b.start.toNat ++ (enc b.rows.length ++ b.rows.flatMap encR))
theorem encN_snoc (l : List Nat) (i : Nat) (h : i < l.length) : encN (l.take i) ++ enc (l.getD i 0) = encN (l.take (i + 1)) := by
 unfold encN
 rw [List.take_add_one, List.flatMap_append, List.getD_eq_getElem?_getD, List.getElem?_eq_getElem h]
 simp
theorem encR_snoc (l : List Rw) (i : Nat) (h : i < l.length) : (l.take i).flatMap encR ++ encR (gW l i) = (l.take (i + 1)).flatMap encR := by
 rw [List.take_add_one, List.flatMap_append, gW_at h]
 simp
def readN (l : L) : Nat → St → List Nat × St
 | 0, s => ([], s)
 | n + 1, s => ((rNum l s).1 :: (readN l n (rNum l s).2).1, (readN l n (rNum l s).2).2)
def readR (l : L) (s : St) : Option (Rw × St) :=
 let a := rText l 300 s
 let b := rNum l a.2
 let c := rNum l b.2
 let d := rWhole l c.2
 let e := rWhole l d.2
 let f := rWhole l e.2
 let g := rNum l f.2
 let h := rNum l g.2
 if 3 < b.1 ∨ 1 < g.1 ∨ 65 < h.1 then none
 else some (⟨a.1, (b.1 : Int), c.1, d.1, e.1, f.1, decide (g.1 = 1), (readN l h.1 h.2).1⟩, (readN l h.1 h.2).2)
def readRows (l : L) : Nat → St → Option (List Rw × St)
 | 0, s => some ([], s)
 | n + 1, s => match readR l s with
  | none => none
  | some (r, s1) => match readRows l n s1 with
   | none => none
   | some (rs, s2) => some (r :: rs, s2)
def getP (l : L) : Option Bt :=
 let a := rNum l ⟨0, false⟩
 let b := rNum l a.2
 let c := rNum l b.2
 if 2147483647 < a.1 ∨ 1099511627776 < b.1 ∨ 200 < c.1 then none
 else match readRows l c.1 c.2 with
  | none => none
  | some (rs, s) => if (rEnd l s).bad = true ∨ mayB ⟨(a.1 : Int), (b.1 : Int), rs⟩ = false then none else some ⟨(a.1 : Int), (b.1 : Int), rs⟩
theorem readN_enc : ∀ (q : List Nat) (a t : L), (∀ x ∈ q, x < 18446744073709551616) → readN (a ++ (encN q ++ t)) q.length ⟨a.length, false⟩ = (q, ⟨(a ++ encN q).length, false⟩)
 | [], a, t, _ => by simp [readN, encN]
 | x :: q, a, t, h => by
  have e : a ++ (encN (x :: q) ++ t) = a ++ (enc x ++ (encN q ++ t)) := by simp [encN]
  have e2 : a ++ (encN (x :: q) ++ t) = (a ++ enc x) ++ (encN q ++ t) := by rw [e, List.append_assoc]
  have h1 : rNum (a ++ (encN (x :: q) ++ t)) ⟨a.length, false⟩ = (x, ⟨(a ++ enc x).length, false⟩) := by rw [e]; exact rNum_enc (h x (by simp))
  have h2 : readN (a ++ (encN (x :: q) ++ t)) q.length ⟨(a ++ enc x).length, false⟩ = (q, ⟨((a ++ enc x) ++ encN q).length, false⟩) := by rw [e2]; exact readN_enc q (a ++ enc x) t (fun y hy => h y (by simp [hy]))
  rw [List.length_cons, readN, h1]
  simp only
  rw [h2]
  simp [encN]
theorem readR_enc {r : Rw} (a t : L) (hr : rowOk r = true) (hi : r.In) : readR (a ++ (encR r ++ t)) ⟨a.length, false⟩ = some (r, ⟨(a ++ encR r).length, false⟩) := by
 obtain ⟨h1, h2, h3, h4, h5, h6, h7⟩ := rowOk_iff.1 hr
 obtain ⟨i1, i2, i3, i4, i5⟩ := hi
 have hk := key_le h1
 generalize hl : a ++ (encR r ++ t) = l
 have l1 : l = a ++ (encT r.key ++ (enc r.kind.toNat ++ (enc r.many ++ (enc (zig r.sum) ++ (enc (zig r.least) ++ (enc (zig r.most) ++ (enc (ob r.over) ++ (enc r.bk.length ++ (encN r.bk ++ t))))))))) := by rw [← hl]; simp [encR]
 have e1 : rText l 300 ⟨a.length, false⟩ = (r.key, ⟨(a ++ encT r.key).length, false⟩) := by rw [l1]; exact rText_enc (by omega) (by omega)
 have l2 := l1
 rw [← List.append_assoc] at l2
 have e2 : rNum l ⟨(a ++ encT r.key).length, false⟩ = (r.kind.toNat, ⟨((a ++ encT r.key) ++ enc r.kind.toNat).length, false⟩) := by rw [l2]; exact rNum_enc (by omega)
 have l3 := l2
 rw [← List.append_assoc] at l3
 have e3 : rNum l ⟨((a ++ encT r.key) ++ enc r.kind.toNat).length, false⟩ = (r.many, ⟨(((a ++ encT r.key) ++ enc r.kind.toNat) ++ enc r.many).length, false⟩) := by rw [l3]; exact rNum_enc i1
 have l4 := l3
 rw [← List.append_assoc] at l4
 have e4 : rWhole l ⟨(((a ++ encT r.key) ++ enc r.kind.toNat) ++ enc r.many).length, false⟩ = (r.sum, ⟨((((a ++ encT r.key) ++ enc r.kind.toNat) ++ enc r.many) ++ enc (zig r.sum)).length, false⟩) := by rw [l4]; exact rWhole_enc i2
 have l5 := l4
 rw [← List.append_assoc] at l5
 have e5 : rWhole l ⟨((((a ++ encT r.key) ++ enc r.kind.toNat) ++ enc r.many) ++ enc (zig r.sum)).length, false⟩ = (r.least, ⟨(((((a ++ encT r.key) ++ enc r.kind.toNat) ++ enc r.many) ++ enc (zig r.sum)) ++ enc (zig r.least)).length, false⟩) := by rw [l5]; exact rWhole_enc i3
 have l6 := l5
 rw [← List.append_assoc] at l6
 have e6 : rWhole l ⟨(((((a ++ encT r.key) ++ enc r.kind.toNat) ++ enc r.many) ++ enc (zig r.sum)) ++ enc (zig r.least)).length, false⟩ = (r.most, ⟨((((((a ++ encT r.key) ++ enc r.kind.toNat) ++ enc r.many) ++ enc (zig r.sum)) ++ enc (zig r.least)) ++ enc (zig r.most)).length, false⟩) := by rw [l6]; exact rWhole_enc i4
 have l7 := l6
 rw [← List.append_assoc] at l7
 have ho : ob r.over ≤ 1 := by unfold ob; split <;> omega
 have e7 : rNum l ⟨((((((a ++ encT r.key) ++ enc r.kind.toNat) ++ enc r.many) ++ enc (zig r.sum)) ++ enc (zig r.least)) ++ enc (zig r.most)).length, false⟩ = (ob r.over, ⟨(((((((a ++ encT r.key) ++ enc r.kind.toNat) ++ enc r.many) ++ enc (zig r.sum)) ++ enc (zig r.least)) ++ enc (zig r.most)) ++ enc (ob r.over)).length, false⟩) := by rw [l7]; exact rNum_enc (by omega)
 have l8 := l7
 rw [← List.append_assoc] at l8
 have e8 : rNum l ⟨(((((((a ++ encT r.key) ++ enc r.kind.toNat) ++ enc r.many) ++ enc (zig r.sum)) ++ enc (zig r.least)) ++ enc (zig r.most)) ++ enc (ob r.over)).length, false⟩ = (r.bk.length, ⟨((((((((a ++ encT r.key) ++ enc r.kind.toNat) ++ enc r.many) ++ enc (zig r.sum)) ++ enc (zig r.least)) ++ enc (zig r.most)) ++ enc (ob r.over)) ++ enc r.bk.length).length, false⟩) := by rw [l8]; exact rNum_enc (by omega)
 have l9 := l8
 rw [← List.append_assoc] at l9
 have e9 : readN l r.bk.length ⟨((((((((a ++ encT r.key) ++ enc r.kind.toNat) ++ enc r.many) ++ enc (zig r.sum)) ++ enc (zig r.least)) ++ enc (zig r.most)) ++ enc (ob r.over)) ++ enc r.bk.length).length, false⟩ = (r.bk, ⟨(((((((((a ++ encT r.key) ++ enc r.kind.toNat) ++ enc r.many) ++ enc (zig r.sum)) ++ enc (zig r.least)) ++ enc (zig r.most)) ++ enc (ob r.over)) ++ enc r.bk.length) ++ encN r.bk).length, false⟩) := by rw [l9]; exact readN_enc _ _ _ i5
 unfold readR
 simp only [e1, e2, e3, e4, e5, e6, e7, e8, e9]
 rw [if_neg (by omega)]
 have hov : decide (ob r.over = 1) = r.over := by unfold ob; cases r.over <;> rfl
 have hkd : ((r.kind.toNat : Nat) : Int) = r.kind := by omega
 rw [hov, hkd]
 simp [encR]
theorem readRows_enc : ∀ (q : List Rw) (a t : L), (∀ r ∈ q, rowOk r = true ∧ r.In) → readRows (a ++ (q.flatMap encR ++ t)) q.length ⟨a.length, false⟩ = some (q, ⟨(a ++ q.flatMap encR).length, false⟩)
 | [], a, t, _ => by simp [readRows]
 | r :: q, a, t, h => by
  have e : a ++ ((r :: q).flatMap encR ++ t) = a ++ (encR r ++ (q.flatMap encR ++ t)) := by simp
  have e2 : a ++ ((r :: q).flatMap encR ++ t) = (a ++ encR r) ++ (q.flatMap encR ++ t) := by rw [e, List.append_assoc]
  have h1 : readR (a ++ ((r :: q).flatMap encR ++ t)) ⟨a.length, false⟩ = some (r, ⟨(a ++ encR r).length, false⟩) := by rw [e]; exact readR_enc _ _ (h r (by simp)).1 (h r (by simp)).2
  have h2 : readRows (a ++ ((r :: q).flatMap encR ++ t)) q.length ⟨(a ++ encR r).length, false⟩ = some (q, ⟨((a ++ encR r) ++ q.flatMap encR).length, false⟩) := by rw [e2]; exact readRows_enc q (a ++ encR r) t (fun y hy => h y (by simp [hy]))
  rw [List.length_cons, readRows, h1]
  simp only
  rw [h2]
  simp
theorem get_fwd {b : Bt} (hm : mayB b = true) (hi : ∀ r ∈ b.rows, r.In) : getP (encB b) = some b := by
 obtain ⟨h1, h2, h3, h4, h5, h6⟩ := mayB_iff.1 hm
 generalize hl : encB b = l
 have l1 : l = [] ++ (enc b.seq.toNat ++ (enc b.start.toNat ++ (enc b.rows.length ++ (b.rows.flatMap encR ++ [])))) := by rw [← hl]; simp [encB]
 have e1 : rNum l ⟨0, false⟩ = (b.seq.toNat, ⟨([] ++ enc b.seq.toNat : L).length, false⟩) := by rw [l1]; exact rNum_enc (a := []) (by omega)
 have l2 := l1
 rw [← List.append_assoc] at l2
 have e2 : rNum l ⟨([] ++ enc b.seq.toNat : L).length, false⟩ = (b.start.toNat, ⟨(([] ++ enc b.seq.toNat) ++ enc b.start.toNat : L).length, false⟩) := by rw [l2]; exact rNum_enc (by omega)
 have l3 := l2
 rw [← List.append_assoc] at l3
 have e3 : rNum l ⟨(([] ++ enc b.seq.toNat) ++ enc b.start.toNat : L).length, false⟩ = (b.rows.length, ⟨((([] ++ enc b.seq.toNat) ++ enc b.start.toNat) ++ enc b.rows.length : L).length, false⟩) := by rw [l3]; exact rNum_enc (by omega)
 have l4 := l3
 rw [← List.append_assoc] at l4
 have e4 : readRows l b.rows.length ⟨((([] ++ enc b.seq.toNat) ++ enc b.start.toNat) ++ enc b.rows.length : L).length, false⟩ = some (b.rows, ⟨(((([] ++ enc b.seq.toNat) ++ enc b.start.toNat) ++ enc b.rows.length) ++ b.rows.flatMap encR : L).length, false⟩) := by
  rw [l4]
  exact readRows_enc _ _ _ fun r hr => ⟨mayB_row hm hr, hi r hr⟩
 unfold getP
 simp only [e1, e2, e3, e4]
 rw [if_neg (by omega)]
 have hs : ((b.seq.toNat : Nat) : Int) = b.seq := by omega
 have ht : ((b.start.toNat : Nat) : Int) = b.start := by omega
 rw [hs, ht]
 have hle : l.length ≤ (((([] ++ enc b.seq.toNat) ++ enc b.start.toNat) ++ enc b.rows.length) ++ b.rows.flatMap encR : L).length := by rw [l4]; simp
 rw [if_neg]
 rintro (h | h)
 ·
  unfold rEnd at h
  rw [if_neg (by simp only; omega)] at h
  cases h
 ·
  rw [hm] at h
  cases h
def Rd (l : L) (s : St) (x : L) (t : St) : Prop := s.bad = false ∧ s.p ≤ t.p ∧ l.take t.p = l.take s.p ++ x
theorem Rd.app {l x y : L} {s t u : St} (h1 : Rd l s x t) (h2 : Rd l t y u) : Rd l s (x ++ y) u :=
 ⟨h1.1, Nat.le_trans h1.2.1 h2.2.1, by rw [h2.2.2, h1.2.2, List.append_assoc]⟩
theorem rNum_rd {l : L} {s : St} (h : (rNum l s).2.bad = false) : Rd l s (enc (rNum l s).1) (rNum l s).2 := by
 unfold rNum at h ⊢
 split
 ·
  rename_i hb
  rw [if_pos hb] at h
  rw [hb] at h
  cases h
 ·
  rename_i hb
  rw [if_neg hb] at h
  cases hn : num (l.drop s.p) with
  | none => rw [hn] at h; cases h
  | some x =>
   obtain ⟨n, c⟩ := x
   obtain ⟨r, h1, h2, h3⟩ := num_spec hn
   refine ⟨by simpa using hb, by simp only; omega, ?_⟩
   simp only
   rw [List.take_add, h1, h2]
   simp
theorem rWhole_rd {l : L} {s : St} (h : (rWhole l s).2.bad = false) : Rd l s (enc (zig (rWhole l s).1)) (rWhole l s).2 := by
 unfold rWhole at h ⊢
 simp only at h ⊢
 rw [zig_unzig]
 exact rNum_rd h
theorem rText_rd {l : L} {s : St} {m : Int} (hs : s.ok l) (h : (rText l m s).2.bad = false) : Rd l s (encT (rText l m s).1) (rText l m s).2 := by
 unfold rText at h ⊢
 simp only at h ⊢
 split
 ·
  rename_i hb
  rw [if_pos hb] at h
  rw [hb] at h
  cases h
 ·
  rename_i hb
  rw [if_neg hb] at h
  split
  ·
   rename_i h2
   rw [if_pos h2] at h
   cases h
  ·
   rename_i h2
   have hb' : (rNum l s).2.bad = false := by simpa using hb
   have h3 := rNum_rd hb'
   have h4 : (rNum l s).2.p ≤ l.length := rNum_ok hs
   have hlen : ((l.drop (rNum l s).2.p).take (rNum l s).1).length = (rNum l s).1 := by
    rw [List.length_take, List.length_drop]
    omega
   unfold encT
   rw [hlen]
   refine h3.app ⟨hb', by simp only; omega, ?_⟩
   simp only
   rw [List.take_add]
theorem readN_rd : ∀ {n : Nat} {l : L} {s : St}, (readN l n s).2.bad = false → Rd l s (encN (readN l n s).1) (readN l n s).2
 | 0, l, s, h => ⟨h, Nat.le_refl _, by simp [readN, encN]⟩
 | n + 1, l, s, h => by
  have h1 := readN_rd (n := n) (l := l) (s := (rNum l s).2) h
  have h2 := rNum_rd h1.1
  have h3 := h2.app h1
  simpa [readN, encN] using h3
theorem readN_len : ∀ (l : L) (n : Nat) (s : St), (readN l n s).1.length = n
 | l, 0, s => rfl
 | l, n + 1, s => by rw [readN, List.length_cons, readN_len]
theorem readN_in : ∀ (l : L) (n : Nat) (s : St), ∀ x ∈ (readN l n s).1, x < 18446744073709551616
 | l, 0, s, x, h => by cases h
 | l, n + 1, s, x, h => by
  rw [readN] at h
  rcases List.mem_cons.1 h with rfl | h
  ·
   exact rNum_lt l s
  ·
   exact readN_in l n _ x h
theorem readN_ok : ∀ {l : L} {n : Nat} {s : St}, s.ok l → (readN l n s).2.ok l
 | l, 0, s, h => h
 | l, n + 1, s, h => readN_ok (n := n) (rNum_ok h)
theorem readN_snoc : ∀ (l : L) (n : Nat) (s : St), readN l (n + 1) s = ((readN l n s).1 ++ [(rNum l (readN l n s).2).1], (rNum l (readN l n s).2).2)
 | l, 0, s => rfl
 | l, n + 1, s => by
  rw [readN, readN_snoc l n]
  rfl
theorem readR_some {l : L} {s t : St} {r : Rw} (h : readR l s = some (r, t)) : ∃ k o n : Nat, k ≤ 3 ∧ o ≤ 1 ∧ n ≤ 65 ∧ r.In ∧ r.kind = (k : Int) ∧ r.over = decide (o = 1) ∧ r.bk.length = n ∧ (s.ok l → t.ok l) ∧ (s.ok l → t.bad = false → Rd l s (encR r) t) := by
 unfold readR at h
 simp only at h
 split at h
 ·
  cases h
 ·
  rename_i hn
  simp only [Option.some.injEq, Prod.mk.injEq] at h
  obtain ⟨rfl, rfl⟩ := h
  refine ⟨_, _, _, by omega, by omega, by omega, ⟨rNum_lt _ _, unzig_in (rNum_lt _ _), unzig_in (rNum_lt _ _), unzig_in (rNum_lt _ _), readN_in _ _ _⟩, rfl, rfl, readN_len _ _ _, fun hs => readN_ok (rNum_ok (rNum_ok (rNum_ok (rNum_ok (rNum_ok (rNum_ok (rNum_ok (rText_ok hs)))))))), fun hs hb => ?_⟩
  have h9 := readN_rd hb
  have h8 := rNum_rd h9.1
  have h7 := rNum_rd h8.1
  have h6 := rWhole_rd h7.1
  have h5 := rWhole_rd h6.1
  have h4 := rWhole_rd h5.1
  have h3 := rNum_rd h4.1
  have h2 := rNum_rd h3.1
  have h1 := rText_rd hs h2.1
  have hh := h1.app (h2.app (h3.app (h4.app (h5.app (h6.app (h7.app (h8.app h9)))))))
  unfold encR
  simp only
  rw [readN_len]
  have ho : ∀ o : Nat, ¬ 1 < o → ob (decide (o = 1)) = o := fun o h => by
   unfold ob
   simp only [decide_eq_true_eq]
   split <;> omega
  rw [ho _ (by omega)]
  exact hh
theorem readRows_some : ∀ {n : Nat} {l : L} {s t : St} {q : List Rw}, readRows l n s = some (q, t) → q.length = n ∧ (∀ r ∈ q, r.In) ∧ (s.ok l → t.ok l) ∧ (s.ok l → t.bad = false → Rd l s (q.flatMap encR) t)
 | 0, l, s, t, q, h => by
  simp only [readRows, Option.some.injEq, Prod.mk.injEq] at h
  obtain ⟨rfl, rfl⟩ := h
  exact ⟨rfl, by simp, id, fun _ hb => ⟨hb, Nat.le_refl _, by simp⟩⟩
 | n + 1, l, s, t, q, h => by
  rw [readRows] at h
  cases h1 : readR l s with
  | none => rw [h1] at h; cases h
  | some x =>
   obtain ⟨r, s1⟩ := x
   rw [h1] at h
   simp only at h
   cases h2 : readRows l n s1 with
   | none => rw [h2] at h; cases h
   | some y =>
    obtain ⟨rs, s2⟩ := y
    rw [h2] at h
    simp only [Option.some.injEq, Prod.mk.injEq] at h
    obtain ⟨rfl, rfl⟩ := h
    obtain ⟨k, o, m, _, _, _, hin, _, _, _, hok, hrd⟩ := readR_some h1
    obtain ⟨g1, g2, g3, g4⟩ := readRows_some h2
    refine ⟨by simp [g1], fun z hz => ?_, fun hs => g3 (hok hs), fun hs hb => ?_⟩
    ·
     rcases List.mem_cons.1 hz with rfl | hz
     ·
      exact hin
     ·
      exact g2 z hz
    ·
     have h3 := g4 (hok hs) hb
     have h4 := hrd hs h3.1
     simpa using h4.app h3
theorem readRows_next {l : L} {n : Nat} {s : St} : readRows l (n + 1) s = match readR l s with | none => none | some (r, s1) => (readRows l n s1).map fun x => (r :: x.1, x.2) := by
 rw [readRows]
 cases readR l s with
 | none => rfl
 | some x =>
  obtain ⟨r, s1⟩ := x
  simp only
  cases readRows l n s1 with
  | none => rfl
  | some y => rfl
theorem get_bwd {l : L} {b : Bt} (h : getP l = some b) : mayB b = true ∧ encB b = l ∧ ∀ r ∈ b.rows, r.In := by
 unfold getP at h
 simp only at h
 split at h
 ·
  cases h
 ·
  rename_i hn
  cases h1 : readRows l (rNum l (rNum l (rNum l ⟨0, false⟩).2).2).1 (rNum l (rNum l (rNum l ⟨0, false⟩).2).2).2 with
  | none => rw [h1] at h; cases h
  | some x =>
   obtain ⟨rs, s⟩ := x
   rw [h1] at h
   simp only at h
   split at h
   ·
    cases h
   ·
    rename_i hm
    simp only [Option.some.injEq] at h
    subst h
    obtain ⟨g1, g2, g3, g4⟩ := readRows_some h1
    have hm1 : (rEnd l s).bad = false := by
     cases hh : (rEnd l s).bad with
     | true => exact absurd (Or.inl hh) hm
     | false => rfl
    have hm2 : mayB ⟨((rNum l ⟨0, false⟩).1 : Int), ((rNum l (rNum l ⟨0, false⟩).2).1 : Int), rs⟩ = true := by
     cases hh : mayB ⟨((rNum l ⟨0, false⟩).1 : Int), ((rNum l (rNum l ⟨0, false⟩).2).1 : Int), rs⟩ with
     | false => exact absurd (Or.inr hh) hm
     | true => rfl
    have hok0 : St.ok l ⟨0, false⟩ := Nat.zero_le _
    have hok3 := rNum_ok (rNum_ok (rNum_ok hok0))
    have hend : s.bad = false ∧ l.length ≤ s.p := by
     unfold rEnd at hm1
     split at hm1
     ·
      cases hm1
     ·
      rename_i hq
      exact ⟨hm1, by
       rcases Nat.lt_or_ge s.p l.length with h2 | h2
       ·
        exact absurd ⟨hm1, h2⟩ hq
       ·
        exact h2⟩
    have r4 := g4 hok3 hend.1
    have r3 := rNum_rd r4.1
    have r2 := rNum_rd r3.1
    have r1 := rNum_rd r2.1
    have hh := r1.app (r2.app (r3.app r4))
    refine ⟨hm2, ?_, g2⟩
    have e := hh.2.2
    rw [List.take_of_length_le hend.2] at e
    simp only [List.take_zero, List.nil_append] at e
    unfold encB
    simp only [Int.toNat_natCast]
    rw [g1]
    exact e.symm
theorem enc_len10 {n : Nat} (h : n < 18446744073709551616) : (enc n).length ≤ 10 := enc_len64 n h
theorem encN_len {l : List Nat} (h : ∀ x ∈ l, x < 18446744073709551616) : (encN l).length ≤ 10 * l.length := by
 induction l with
 | nil => simp [encN]
 | cons x l ih =>
  have h1 := enc_len10 (h x (by simp))
  have h2 := ih fun y hy => h y (by simp [hy])
  have e : encN (x :: l) = enc x ++ encN l := by simp [encN]
  rw [e, List.length_append, List.length_cons]
  omega
theorem encR_len {r : Rw} (h : r.In) (hk : r.key.length ≤ 1000) (hkd : r.kind.toNat ≤ 100) (hb : r.bk.length ≤ 100) : (encR r).length ≤ 2100 := by
 obtain ⟨i1, i2, i3, i4, i5⟩ := h
 have a1 := enc_len10 (n := r.key.length) (by omega)
 have a2 := enc_len10 (n := r.kind.toNat) (by omega)
 have a3 := enc_len10 i1
 have a4 := enc_len10 (zig_lt i2)
 have a5 := enc_len10 (zig_lt i3)
 have a6 := enc_len10 (zig_lt i4)
 have a7 := enc_len10 (n := ob r.over) (by unfold ob; split <;> omega)
 have a8 := enc_len10 (n := r.bk.length) (by omega)
 have a9 := encN_len i5
 unfold encR encT
 simp only [List.length_append]
 omega
theorem encB_len {b : Bt} (hm : mayB b = true) (hi : ∀ r ∈ b.rows, r.In) : (encB b).length ≤ 500000 := by
 obtain ⟨h1, h2, h3, h4, h5, h6⟩ := mayB_iff.1 hm
 have hr : ∀ q : List Rw, (∀ r ∈ q, rowOk r = true ∧ r.In) → (q.flatMap encR).length ≤ 2100 * q.length := by
  intro q
  induction q with
  | nil => simp
  | cons r q ih =>
   intro h
   obtain ⟨c1, c2, c3, c4, c5, c6, c7⟩ := rowOk_iff.1 (h r (by simp)).1
   have b1 := encR_len (h r (by simp)).2 (by have := key_le c1; omega) (by omega) (by omega)
   have b2 := ih fun y hy => h y (by simp [hy])
   rw [List.flatMap_cons, List.length_append, List.length_cons]
   omega
 have b1 := hr b.rows fun r hh => ⟨mayB_row hm hh, hi r hh⟩
 have a1 := enc_len10 (n := b.seq.toNat) (by omega)
 have a2 := enc_len10 (n := b.start.toNat) (by omega)
 have a3 := enc_len10 (n := b.rows.length) (by omega)
 unfold encB
 simp only [List.length_append]
 omega
end Go.Proofs.YtdhonbahpcmmnaaGreatDoor.Bat
