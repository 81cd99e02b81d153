/- Layer 5 in plain Lean: tags in order, the key of an event, what a key is of. No program. -/
import Derived.Test.YtdhonbahpcmmnaaDoorLineG
import Derived.Test.YtdhonbahpcmmnaaDoorStr
set_option maxHeartbeats 400000
set_option linter.unusedVariables false
set_option linter.unusedSimpArgs false
namespace Go.Proofs.YtdhonbahpcmmnaaDoor.Line
open Go Go.RowKit Go.Proofs.YtdhonbahpcmmnaaDoor Go.Proofs.YtdhonbahpcmmnaaDoor.Eng Go.Proofs.YtdhonbahpcmmnaaDoorW.PrintWords
abbrev Tgs := List (L × L)
def Asc (l : Tgs) : Prop := l.Pairwise fun a b => ltS b.1 a.1 = false
def StrA (l : Tgs) : Prop := l.Pairwise fun a b => ltS a.1 b.1 = true
def insK (x : L × L) : Tgs → Tgs
 | [] => [x]
 | y :: l => if ltS y.1 x.1 = true then y :: insK x l else x :: y :: l
def sortK (l : Tgs) : Tgs := l.foldl (fun s x => insK x s) []
def dupA : Tgs → Bool
 | a :: b :: l => decide (a.1 = b.1) || dupA (b :: l)
 | _ => false
def canonE (e : Ev) : Sum Ev Int := if mayE e = false then .inr 1 else if dupA (sortK e.tags) = true then .inr 5 else .inl { e with tags := sortK e.tags }
def keyE (e : Ev) : Sum L Int :=
 match canonE e with
 | .inr c => .inr c
 | .inl c => .inl (headT c)
theorem insK_perm (x : L × L) : ∀ l, (insK x l).Perm (x :: l)
 | [] => List.Perm.refl _
 | y :: l => by
  unfold insK
  split
  ·
   exact ((insK_perm x l).cons y).trans (List.Perm.swap x y l)
  ·
   exact List.Perm.refl _
theorem fold_perm : ∀ (l s : Tgs), (l.foldl (fun s x => insK x s) s).Perm (s ++ l)
 | [], s => by simp
 | x :: l, s => by
  rw [List.foldl_cons]
  refine (fold_perm l (insK x s)).trans ?_
  have h := (insK_perm x s).append_right l
  refine h.trans ?_
  exact (List.perm_middle (a := x) (l₁ := s) (l₂ := l)).symm
theorem sortK_perm (l : Tgs) : (sortK l).Perm l := fold_perm l []
theorem insK_asc {x : L × L} : ∀ {l : Tgs}, Asc l → Asc (insK x l)
 | [], _ => by simp [insK, Asc]
 | y :: l, h => by
  obtain ⟨h1, h2⟩ := List.pairwise_cons.1 h
  unfold insK
  split
  ·
   rename_i hxy
   refine List.pairwise_cons.2 ⟨fun z hz => ?_, insK_asc h2⟩
   rcases List.mem_cons.1 ((insK_perm x l).mem_iff.1 hz) with rfl | hz
   ·
    exact ltS_asymm hxy
   ·
    exact h1 z hz
  ·
   rename_i hxy
   have hxy : ltS y.1 x.1 = false := by simpa using hxy
   refine List.pairwise_cons.2 ⟨fun z hz => ?_, h⟩
   rcases List.mem_cons.1 hz with rfl | hz
   ·
    exact hxy
   ·
    rw [Bool.eq_false_iff]
    intro hzx
    have h3 := h1 z hz
    rw [Bool.eq_false_iff] at h3 hxy
    by_cases hyz : ltS y.1 z.1 = true
    ·
     exact hxy (ltS_trans _ _ _ hyz hzx)
    ·
     have e := ltS_tri _ _ (by simpa using hyz) (by simpa using h3)
     rw [e] at hxy
     exact hxy hzx
theorem fold_asc : ∀ (l : Tgs) {s : Tgs}, Asc s → Asc (l.foldl (fun s x => insK x s) s)
 | [], _, h => h
 | x :: l, _, h => fold_asc l (insK_asc h)
theorem sortK_asc (l : Tgs) : Asc (sortK l) := fold_asc l List.Pairwise.nil
theorem asc_str : ∀ {l : Tgs}, Asc l → dupA l = false → StrA l
 | [], _, _ => List.Pairwise.nil
 | [a], _, _ => by simp [StrA]
 | a :: b :: l, h, hd => by
  obtain ⟨h1, h2⟩ := List.pairwise_cons.1 h
  unfold dupA at hd
  simp only [Bool.or_eq_false_iff, decide_eq_false_iff_not] at hd
  have ih := asc_str h2 hd.2
  refine List.pairwise_cons.2 ⟨fun z hz => ?_, ih⟩
  have hab : ltS a.1 b.1 = true := by
   cases hab : ltS a.1 b.1 with
   | true => rfl
   | false => exact absurd (ltS_tri _ _ hab (h1 b (by simp))) hd.1
  rcases List.mem_cons.1 hz with rfl | hz
  ·
   exact hab
  ·
   exact ltS_trans _ _ _ hab ((List.pairwise_cons.1 ih).1 z hz)
theorem str_dup : ∀ {l : Tgs}, StrA l → dupA l = false
 | [], _ => rfl
 | [a], _ => rfl
 | a :: b :: l, h => by
  obtain ⟨h1, h2⟩ := List.pairwise_cons.1 h
  unfold dupA
  rw [str_dup h2, Bool.or_false, decide_eq_false_iff_not]
  intro e
  have := h1 b (by simp)
  rw [e, ltS_irrefl] at this
  cases this
theorem str_asc {l : Tgs} (h : StrA l) : Asc l := h.imp fun h => ltS_asymm h
theorem str_uniq : ∀ {l m : Tgs}, l.Perm m → StrA l → StrA m → l = m
 | [], m, h, _, _ => (List.nil_perm.1 h).symm
 | a :: l, [], h, _, _ => absurd h.length_eq (by simp)
 | a :: l, b :: m, h, h1, h2 => by
  obtain ⟨a1, a2⟩ := List.pairwise_cons.1 h1
  obtain ⟨b1, b2⟩ := List.pairwise_cons.1 h2
  have e : a = b := by
   rcases List.mem_cons.1 (h.mem_iff.1 (List.mem_cons_self (a := a) (l := l))) with e | ha
   ·
    exact e
   ·
    rcases List.mem_cons.1 (h.mem_iff.2 (List.mem_cons_self (a := b) (l := m))) with e | hb
    ·
     exact e.symm
    ·
     have k1 := a1 b hb
     have k2 := b1 a ha
     rw [ltS_asymm k1] at k2
     cases k2
  subst e
  rw [str_uniq ((List.perm_cons a).1 h) a2 b2]
theorem asc_nodup {l : Tgs} (h : Asc l) : dupA l = false ↔ (l.map Prod.fst).Nodup := by
 constructor
 ·
  intro hd
  have := asc_str h hd
  rw [List.nodup_iff_pairwise_ne, List.pairwise_map]
  refine this.imp fun {a b} hab e => ?_
  rw [e, ltS_irrefl] at hab
  cases hab
 ·
  intro hn
  clear h
  induction l with
  | nil => rfl
  | cons a l ih =>
   rw [List.map_cons, List.nodup_cons] at hn
   cases l with
   | nil => rfl
   | cons b l =>
    unfold dupA
    rw [ih hn.2, Bool.or_false, decide_eq_false_iff_not]
    intro e
    exact hn.1 (by rw [e]; simp)
theorem dup_perm {l m : Tgs} (h : l.Perm m) (h1 : Asc l) (h2 : Asc m) : dupA l = dupA m := by
 have h3 := asc_nodup h1
 have h4 := asc_nodup h2
 have h5 : (l.map Prod.fst).Nodup ↔ (m.map Prod.fst).Nodup := (h.map Prod.fst).nodup_iff
 cases ha : dupA l <;> cases hb : dupA m
 ·
  rfl
 ·
  rw [ha] at h3; rw [hb] at h4
  exact absurd (h4.2 (h5.1 (h3.1 rfl))) (by simp)
 ·
  rw [ha] at h3; rw [hb] at h4
  exact absurd (h3.2 (h5.2 (h4.1 rfl))) (by simp)
 ·
  rfl
theorem canon_of {e : Ev} {ts : Tgs} (hp : ts.Perm e.tags) (ha : Asc ts) (hm : mayE e = true) : canonE e = if dupA ts = true then .inr 5 else .inl { e with tags := ts } := by
 have hq := hp.trans (sortK_perm e.tags).symm
 have hd := dup_perm hq ha (sortK_asc e.tags)
 unfold canonE
 rw [if_neg (by rw [hm]; simp), ← hd]
 cases h : dupA ts with
 | true => rfl
 | false =>
  rw [← str_uniq hq (asc_str ha h) (asc_str (sortK_asc _) (by rw [← hd]; exact h))]
theorem canon_no {e : Ev} (h : mayE e = false) : canonE e = .inr 1 := if_pos h
theorem may_perm {e : Ev} {r : Tgs} (h : r.Perm e.tags) : mayE { e with tags := r } = mayE e := by
 have h1 : r.all (fun t => isWord t.1 && isWord t.2) = e.tags.all (fun t => isWord t.1 && isWord t.2) := by
  rw [Bool.eq_iff_iff, List.all_eq_true, List.all_eq_true]
  exact ⟨fun k x hx => k x (h.mem_iff.2 hx), fun k x hx => k x (h.mem_iff.1 hx)⟩
 unfold mayE
 simp only [h1, h.length_eq]
theorem canon_may {e c : Ev} (h : canonE e = .inl c) : mayE e = true ∧ c = { e with tags := sortK e.tags } ∧ dupA (sortK e.tags) = false ∧ mayE c = true := by
 unfold canonE at h
 by_cases h1 : mayE e = false
 ·
  rw [if_pos h1] at h; cases h
 ·
  rw [if_neg h1] at h
  have h1 : mayE e = true := by simpa using h1
  by_cases h2 : dupA (sortK e.tags) = true
  ·
   rw [if_pos h2] at h; cases h
  ·
   rw [if_neg h2] at h
   injection h with h
   exact ⟨h1, h.symm, by simpa using h2, by rw [← h, may_perm (sortK_perm _)]; exact h1⟩
theorem key_perm {e : Ev} {r : Tgs} (h : r.Perm e.tags) : keyE { e with tags := r } = keyE e := by
 unfold keyE
 cases hm : mayE e with
 | false => rw [canon_no hm, canon_no (by rw [may_perm h]; exact hm)]
 | true =>
  have h1 := canon_of (e := e) ((sortK_perm r).trans h) (sortK_asc r) hm
  have h2 := canon_of (e := { e with tags := r }) (sortK_perm r) (sortK_asc r) (by rw [may_perm h]; exact hm)
  rw [h1, h2]
def tailT : L := [32, 99, 32, 48, 32, 48]
theorem numT_0 : numT 0 = [48] := by
 unfold numT
 rw [if_neg (by decide), show (0 : Int).toNat = 0 from rfl, digs_lo (by decide)]
 rfl
def ev0 (c : Ev) : Ev := { name := c.name, tags := c.tags, kind := 1, value := 0, time := 0 }
theorem print_ev0 (c : Ev) : printT (ev0 c) = headT c ++ tailT := by
 show headT c ++ 32 :: (letter 1 ++ 32 :: (numT 0 ++ 32 :: numT 0)) = _
 rw [numT_0]
 rfl
theorem may_ev0 {c : Ev} (h : mayE c = true) : mayE (ev0 c) = true := by
 obtain ⟨h1, h2, h3, _⟩ := may_parts h
 exact may_of h1 h2 h3 (show (1 : Int) ≤ 1 ∧ (1 : Int) ≤ 3 by decide) (show (0 : Int) ≤ 0 ∧ (0 : Int) ≤ 1099511627776 by decide)
theorem head_le {c : Ev} (h : mayE c = true) : (headT c).length ≤ 250 := by
 obtain ⟨h1, h2, h3, _⟩ := may_parts h
 have a1 := tagsT_len h1
 have a2 := word_len h2
 rw [head_eq, List.length_append]
 omega
def ofE (k : L) : Option (L × Tgs) :=
 if 294 < k.length then none
 else match parseP (k ++ tailT) with
 | .inr _ => none
 | .inl e => if keyE e = .inl k then some (e.name, e.tags) else none
theorem canon_fix {c : Ev} (hm : mayE c = true) (hs : StrA c.tags) : canonE c = .inl c := by
 rw [canon_of (List.Perm.refl _) (str_asc hs) hm, if_neg (by rw [str_dup hs]; simp)]
theorem key_ev0 {e c : Ev} (h : canonE e = .inl c) : keyE (ev0 c) = .inl (headT c) ∧ StrA c.tags := by
 obtain ⟨h1, h2, h3, h4⟩ := canon_may h
 have hs : StrA c.tags := by rw [h2]; exact asc_str (sortK_asc _) h3
 unfold keyE
 rw [canon_fix (may_ev0 h4) hs]
 exact ⟨rfl, hs⟩
theorem of_key {e c : Ev} (h : canonE e = .inl c) : parseP (headT c ++ tailT) = .inl (ev0 c) ∧ ofE (headT c) = some (c.name, c.tags) := by
 obtain ⟨h1, h2, h3, h4⟩ := canon_may h
 have hp := parse_fwd (may_ev0 h4) (show -9223372036854775808 ≤ (0 : Int) ∧ (0 : Int) ≤ 9223372036854775807 by decide)
 rw [print_ev0] at hp
 refine ⟨hp, ?_⟩
 have hl := head_le h4
 unfold ofE
 rw [if_neg (by omega), hp]
 show (if keyE (ev0 c) = .inl (headT c) then some (c.name, c.tags) else none) = _
 rw [if_pos (key_ev0 h).1]
theorem index_first : ∀ (a r : L), 32 ∉ a → Lib.index (a ++ 32 :: r) [32] = (a.length : Int)
 | [], r, _ => by simp [Lib.index, List.isPrefixOf]
 | b :: a, r, h => by
  have hb : (32 : UInt8) ≠ b := fun e => h (by rw [e]; simp)
  have ih := index_first a r (fun k => h (by simp [k]))
  rw [List.cons_append, Lib.index]
  have e1 : ([32] : L).isPrefixOf (b :: (a ++ 32 :: r)) = false := by simp [List.isPrefixOf, hb]
  rw [e1, ih]
  have e2 : ((a.length : Int) == -1) = false := by
   rw [Bool.eq_false_iff]
   intro k
   have := eq_of_beq k
   omega
  rw [e2]
  simp
theorem head_no32 {c : Ev} (h : mayE c = true) : (32 : UInt8) ∉ headT c := by
 obtain ⟨h1, h2, h3, _⟩ := may_parts h
 have hw : ∀ w : L, isWord w = true → (32 : UInt8) ∉ w := fun w hw hm => by
  have := word_in hw 32 hm
  cases this
 intro hm
 rw [head_eq] at hm
 rcases List.mem_append.1 hm with hm | hm
 ·
  exact hw _ h2 hm
 ·
  have key : ∀ ts : Tgs, (∀ t ∈ ts, isWord t.1 = true ∧ isWord t.2 = true) → (32 : UInt8) ∉ tagsT ts := by
   intro ts
   induction ts with
   | nil => intro _; simp [tagsT]
   | cons t ts ih =>
    intro hh hm
    rw [tagsT_cons] at hm
    obtain ⟨k1, k2⟩ := hh t (by simp)
    simp only [List.mem_cons, List.mem_append] at hm
    rcases hm with hm | hm | hm | hm | hm
    ·
     cases hm
    ·
     exact hw _ k1 hm
    ·
     cases hm
    ·
     exact hw _ k2 hm
    ·
     exact ih (fun u hu => hh u (by simp [hu])) hm
  exact key _ h1 hm
theorem cut_print {c : Ev} (h : mayE c = true) : Lib.cut (printT c) [32] = (headT c, letter c.kind ++ 32 :: (numT c.value ++ 32 :: numT c.time), true) := by
 unfold Lib.cut printT
 rw [index_first _ _ (head_no32 h)]
 rw [if_pos (by omega)]
 simp [List.drop_append]
end Go.Proofs.YtdhonbahpcmmnaaDoor.Line
