/- The plain side of layer 20: starts and rows are sorted, one of each. -/
import Derived.Test.YtdhonbahpcmmnaaGreatDoorWinF
import Derived.Test.YtdhonbahpcmmnaaGreatDoorEngC
section
set_option linter.unusedVariables false
set_option linter.unusedSimpArgs false
namespace Go.Proofs.YtdhonbahpcmmnaaGreatDoor.Bat
open Go Go.Proofs.YtdhonbahpcmmnaaGreatDoor.Eng
theorem gW_some (q : List Rw) (i : Nat) (h : i < q.length) : q[i]? = some (gW q i) := by
 unfold gW
 rw [List.getD_eq_getElem?_getD, List.getElem?_eq_getElem h]
 rfl
theorem take_front {α : Type} (p : α → Bool) (l : List α) : l.take (frontN p l) = l.takeWhile p := by
 have h := List.take_left (l₁ := l.takeWhile p) (l₂ := l.dropWhile p)
 rwa [List.takeWhile_append_dropWhile] at h
theorem front_in {α : Type} {p : α → Bool} {l : List α} {x : α} (hx : x ∈ l.take (frontN p l)) : p x = true := by
 rw [take_front] at hx
 exact List.all_eq_true.1 List.all_takeWhile x hx
theorem front_stop {α : Type} {p : α → Bool} : ∀ {l : List α} {x : α}, l[frontN p l]? = some x → p x = false
 | [], x, h => by simp at h
 | a :: l, x, h => by
  unfold frontN at h
  rw [List.takeWhile_cons] at h
  cases hp : p a with
  | false =>
   rw [hp] at h
   simp at h
   exact h ▸ hp
  | true =>
   rw [hp] at h
   simp at h
   exact front_stop (p := p) (l := l) h
theorem front_out {α : Type} {p : α → Bool} {l : List α} {R : α → α → Prop} (hs : l.Pairwise R) {y : α} (hy : y ∈ l.drop (frontN p l)) : ∃ x, l[frontN p l]? = some x ∧ p x = false ∧ (y = x ∨ R x y) := by
 cases hd : l.drop (frontN p l) with
 | nil => rw [hd] at hy; cases hy
 | cons x r =>
  have hx : l[frontN p l]? = some x := by
   have h := List.getElem?_drop (xs := l) (i := frontN p l) (j := 0)
   rw [hd] at h
   simpa using h.symm
  have hp : (x :: r).Pairwise R := by rw [← hd]; exact hs.sublist (List.drop_sublist _ _)
  rw [hd] at hy
  refine ⟨x, hx, front_stop hx, ?_⟩
  rcases List.mem_cons.1 hy with h | h
  ·
   exact .inl h
  ·
   exact .inr ((List.pairwise_cons.1 hp).1 y h)
theorem insS_mem {q : List Int} {s t : Int} : t ∈ insS q s ↔ t ∈ q ∨ t = s := by
 unfold insS
 simp only
 split
 ·
  rename_i h
  exact ⟨.inl, fun h2 => h2.elim id fun e => by rw [e, ← h.2]; exact List.mem_of_getElem? (g0_some q _ h.1)⟩
 ·
  rw [List.mem_append, List.mem_append, List.mem_singleton]
  have h := List.mem_append (a := t) (s := q.take (frontN (fun x => decide (x < s)) q)) (t := q.drop (frontN (fun x => decide (x < s)) q))
  rw [List.take_append_drop] at h
  rw [h]
  constructor
  ·
   rintro ((h | h) | h)
   ·
    exact .inl (.inl h)
   ·
    exact .inr h
   ·
    exact .inl (.inr h)
  ·
   rintro ((h | h) | h)
   ·
    exact .inl (.inl h)
   ·
    exact .inr h
   ·
    exact .inl (.inr h)
theorem ins_sorted {α : Type} {p : α → Bool} {l : List α} {R : α → α → Prop} {a : α} (hs : l.Pairwise R) (h1 : ∀ x, p x = true → R x a) (h2 : ∀ y ∈ l.drop (frontN p l), R a y) : (l.take (frontN p l) ++ [a] ++ l.drop (frontN p l)).Pairwise R := by
 have h : (l.take (frontN p l) ++ l.drop (frontN p l)).Pairwise R := by rw [List.take_append_drop]; exact hs
 obtain ⟨ha, hb, hc⟩ := List.pairwise_append.1 h
 rw [List.append_assoc]
 refine List.pairwise_append.2 ⟨ha, List.pairwise_cons.2 ⟨h2, hb⟩, fun x hx y hy => ?_⟩
 rcases List.mem_cons.1 hy with rfl | hy
 ·
  exact h1 x (front_in hx)
 ·
  exact hc x hx y hy
theorem insS_sorted {q : List Int} {s : Int} (hs : q.Pairwise (· < ·)) : (insS q s).Pairwise (· < ·) := by
 unfold insS
 simp only
 split
 ·
  exact hs
 ·
  rename_i h
  refine ins_sorted hs (fun x hx => by simpa using hx) (fun y hy => ?_)
  obtain ⟨x, hx, hp, hr⟩ := front_out hs hy
  have hl := (List.getElem?_eq_some_iff.1 hx).1
  have hg := g0_some q _ hl
  rw [hx] at hg
  have hne : ¬ x = s := fun e => h ⟨hl, by rw [← Option.some.inj hg]; exact e⟩
  have hge : ¬ x < s := by simpa using hp
  show s < y
  rcases hr with rfl | hr
  ·
   omega
  ·
   have : x < y := hr
   omega
theorem starts_snoc (pts : List Pn) (p : Pn) : startsP (pts ++ [p]) = insS (startsP pts) p.start := by
 unfold startsP
 rw [List.foldl_append]
 rfl
theorem rowsP_snoc (pts : List Pn) (p : Pn) (s : Int) : rowsP (pts ++ [p]) s = if p.start = s then insR (rowsP pts s) p else rowsP pts s := by
 unfold rowsP
 rw [List.filter_append, List.foldl_append]
 split
 ·
  rename_i h
  simp [h]
 ·
  rename_i h
  simp [h]
theorem snoc_ind {α : Type} {P : List α → Prop} (h0 : P []) (h1 : ∀ l a, P l → P (l ++ [a])) (l : List α) : P l := by
 rw [← List.reverse_reverse l]
 induction l.reverse with
 | nil => exact h0
 | cons a r ih =>
  rw [List.reverse_cons]
  exact h1 _ _ ih
theorem starts_sorted (pts : List Pn) : (startsP pts).Pairwise (· < ·) := by
 refine snoc_ind (P := fun pts => (startsP pts).Pairwise (· < ·)) .nil (fun l a ih => ?_) pts
 rw [starts_snoc]
 exact insS_sorted ih
theorem starts_mem (pts : List Pn) (s : Int) : s ∈ startsP pts ↔ ∃ p ∈ pts, p.start = s := by
 refine snoc_ind (P := fun pts => s ∈ startsP pts ↔ ∃ p ∈ pts, p.start = s) (by simp [startsP]) (fun l a ih => ?_) pts
 rw [starts_snoc, insS_mem, ih]
 simp only [List.mem_append, List.mem_singleton]
 constructor
 ·
  rintro (⟨p, h1, h2⟩ | h)
  ·
   exact ⟨p, .inl h1, h2⟩
  ·
   exact ⟨a, .inr rfl, h.symm⟩
 ·
  rintro ⟨p, h1 | rfl, h2⟩
  ·
   exact .inl ⟨p, h1, h2⟩
  ·
   exact .inr h2.symm
theorem ltP_eq (k : L) (kd v : Int) (r : Rw) : ltP k kd r = ltR r (begR k kd v) := rfl
def RSort (q : List Rw) : Prop := q.Pairwise fun a b => ltR a b = true
theorem ltR_kk {a b c : Rw} (h1 : b.key = c.key) (h2 : b.kind = c.kind) : ltR a b = ltR a c ∧ ltR b a = ltR c a := by
 unfold ltR
 rw [h1, h2]
 exact ⟨rfl, rfl⟩
theorem set_sorted {q : List Rw} {k : Nat} {r : Rw} (hk : k < q.length) (h1 : r.key = (gW q k).key) (h2 : r.kind = (gW q k).kind) (hs : RSort q) : RSort (q.set k r) := by
 have e : q.map (fun r => (r.key, r.kind)) = (q.set k r).map (fun r => (r.key, r.kind)) := by
  refine List.ext_getElem? fun i => ?_
  rw [List.getElem?_map, List.getElem?_map, List.getElem?_set]
  by_cases hi : k = i
  ·
   subst hi
   rw [if_pos rfl, if_pos hk, gW_some q k hk]
   simp [h1, h2]
  ·
   rw [if_neg hi]
 have hm : ∀ l : List Rw, RSort l ↔ (l.map fun r => (r.key, r.kind)).Pairwise (fun a b => (ltS a.1 b.1 || (decide (a.1 = b.1) && decide (a.2 < b.2))) = true) := fun l => by
  rw [List.pairwise_map]
  rfl
 rw [hm, ← e, ← hm]
 exact hs
theorem front_met {q : List Rw} {k : L} {kd : Int} (hs : RSort q) (h : (q.any fun r => decide (r.key = k ∧ r.kind = kd)) = true) : frontN (ltP k kd) q < q.length ∧ (gW q (frontN (ltP k kd) q)).key = k ∧ (gW q (frontN (ltP k kd) q)).kind = kd := by
 obtain ⟨r, hr, hk⟩ := List.any_eq_true.1 h
 have hk := of_decide_eq_true hk
 have hpr : ltP k kd r = false := by
  rw [ltP_eq k kd 0, (ltR_kk (a := r) (b := begR k kd 0) (c := r) hk.1.symm hk.2.symm).1]
  exact ltR_irrefl r
 have hd : r ∈ q.drop (frontN (ltP k kd) q) := by
  have h2 : r ∈ q.take (frontN (ltP k kd) q) ++ q.drop (frontN (ltP k kd) q) := by rw [List.take_append_drop]; exact hr
  rcases List.mem_append.1 h2 with h3 | h3
  ·
   rw [front_in h3] at hpr
   cases hpr
  ·
   exact h3
 obtain ⟨x, hx, hp, hxr⟩ := front_out hs hd
 have hl := (List.getElem?_eq_some_iff.1 hx).1
 have hg := gW_some q _ hl
 rw [hx] at hg
 rw [← Option.some.inj hg]
 rcases hxr with rfl | hxr
 ·
  exact ⟨hl, hk⟩
 ·
  rw [ltP_eq k kd 0, (ltR_kk (a := x) (b := begR k kd 0) (c := r) hk.1.symm hk.2.symm).1, hxr] at hp
  cases hp
theorem insR_met {q : List Rw} {p : Pn} (hs : RSort q) (h : (q.any fun r => decide (r.key = p.key ∧ r.kind = p.kind)) = true) : ∃ k, k < q.length ∧ (gW q k).key = p.key ∧ (gW q k).kind = p.kind ∧ insR q p = q.set k (addR (gW q k) p.value) := by
 have h2 := front_met hs h
 refine ⟨_, h2.1, h2.2.1, h2.2.2, ?_⟩
 unfold insR
 simp only
 rw [if_pos h2]
theorem insR_not {q : List Rw} {p : Pn} (h : (q.any fun r => decide (r.key = p.key ∧ r.kind = p.kind)) = false) : insR q p = q.take (frontN (ltP p.key p.kind) q) ++ [begR p.key p.kind p.value] ++ q.drop (frontN (ltP p.key p.kind) q) := by
 unfold insR
 simp only
 rw [if_neg]
 intro h2
 have h3 := List.any_eq_false.1 h _ (List.mem_of_getElem? (gW_some q _ h2.1))
 simp [h2.2] at h3
theorem insR_sorted {q : List Rw} {p : Pn} (hs : RSort q) : RSort (insR q p) := by
 cases h : q.any fun r => decide (r.key = p.key ∧ r.kind = p.kind) with
 | true =>
  obtain ⟨k, h1, h2, h3, e⟩ := insR_met hs h
  rw [e]
  exact set_sorted h1 rfl rfl hs
 | false =>
  rw [insR_not h]
  refine ins_sorted hs (fun x hx => by rwa [ltP_eq _ _ p.value] at hx) (fun y hy => ?_)
  obtain ⟨x, hx, hp, hr⟩ := front_out hs hy
  have hne := List.any_eq_false.1 h x (List.mem_of_getElem? hx)
  rw [ltP_eq _ _ p.value] at hp
  have hlt : ltR (begR p.key p.kind p.value) x = true := by
   cases h4 : ltR (begR p.key p.kind p.value) x with
   | true => rfl
   | false =>
    have h5 := ltR_tri hp h4
    exact absurd (decide_eq_true (show x.key = p.key ∧ x.kind = p.kind from h5)) hne
  rcases hr with rfl | hr
  ·
   exact hlt
  ·
   exact ltR_trans hlt hr
theorem rows_sorted (pts : List Pn) (s : Int) : RSort (rowsP pts s) := by
 refine snoc_ind (P := fun pts => RSort (rowsP pts s)) .nil (fun l a ih => ?_) pts
 rw [rowsP_snoc]
 split
 ·
  exact insR_sorted ih
 ·
  exact ih
end Go.Proofs.YtdhonbahpcmmnaaGreatDoor.Bat
end
section
set_option linter.unusedVariables false
set_option linter.unusedSimpArgs false
namespace Go.Proofs.YtdhonbahpcmmnaaGreatDoor.Bat
open Go Go.Proofs.YtdhonbahpcmmnaaGreatDoor.Eng Go.Proofs Go.Maps
structure Rel (wx : List WX) (pts : List Pn) : Prop where
 st : (wx.map (·.1)).Perm (startsP pts)
 rows : ∀ x ∈ wx, (rws x.2.2).Perm (rowsP pts x.1)
theorem starts_nodup (pts : List Pn) : (startsP pts).Nodup := (starts_sorted pts).imp fun h => Int.ne_of_lt h
theorem Rel.nil : Rel [] [] := ⟨.nil, fun x hx => by cases hx⟩
theorem Rel.perm {wx wy : List WX} {pts : List Pn} (h : Rel wx pts) (hp : wy.Perm wx) : Rel wy pts := ⟨(hp.map _).trans h.st, fun x hx => h.rows x (hp.mem_iff.1 hx)⟩
theorem Rel.len {wx : List WX} {pts : List Pn} (h : Rel wx pts) : wx.length = (startsP pts).length := by rw [← h.st.length_eq, List.length_map]
theorem Rel.find {wx : List WX} {pts : List Pn} {s : Int} (h : Rel wx pts) (hs : s ∈ startsP pts) : ∃ mi xs wr, wx.Perm ((s, mi, xs) :: wr) := by
 obtain ⟨x, hx, rfl⟩ := List.mem_map.1 (h.st.mem_iff.2 hs)
 obtain ⟨a, b, rfl⟩ := List.append_of_mem hx
 exact ⟨x.2.1, x.2.2, a ++ b, List.perm_middle⟩
theorem Rel.no {wx : List WX} {pts : List Pn} {s : Int} (h : Rel wx pts) (hs : s ∉ startsP pts) : hasE (eO wx) s = false := by
 unfold hasE eO
 rw [List.any_map, List.any_eq_false]
 intro x hx hk
 exact hs (h.st.mem_iff.1 (List.mem_map.2 ⟨x, hx, of_decide_eq_true hk⟩))
theorem Rel.rlen {wx : List WX} {pts : List Pn} {x : WX} (h : Rel wx pts) (hx : x ∈ wx) : x.2.2.length = (rowsP pts x.1).length := by rw [← (h.rows x hx).length_eq, rws_len]
theorem any_perm {α : Type} {p : α → Bool} {a b : List α} (h : a.Perm b) : a.any p = b.any p := by
 rw [Bool.eq_iff_iff, List.any_eq_true, List.any_eq_true]
 exact ⟨fun ⟨x, hx, hp⟩ => ⟨x, h.mem_iff.1 hx, hp⟩, fun ⟨x, hx, hp⟩ => ⟨x, h.mem_iff.2 hx, hp⟩⟩
theorem eI_any (xs : List RX) (k : L) (kd : Int) : hasE (eI xs) (k, kd) = (rws xs).any fun r => decide (r.key = k ∧ r.kind = kd) := by
 unfold hasE eI rws
 rw [List.any_map, List.any_map]
 congr 1
 funext x
 simp
theorem Rel.met {wx : List WX} {pts : List Pn} {x : WX} (h : Rel wx pts) (hx : x ∈ wx) (k : L) (kd : Int) : hasE (eI x.2.2) (k, kd) = metP pts x.1 k kd := by
 rw [eI_any]
 exact any_perm (h.rows x hx)
theorem insS_in {q : List Int} {s : Int} (hs : q.Pairwise (· < ·)) (h : s ∈ q) : insS q s = q := by
 refine List.Perm.eq_of_pairwise (le := fun a b => a < b) (fun a b _ _ h1 h2 => absurd (show a < b from h1) (by have : b < a := h2; omega)) (insS_sorted hs) hs ?_
 have h1 : (insS q s).Nodup := (insS_sorted hs).imp fun h => Int.ne_of_lt h
 have h2 : q.Nodup := hs.imp fun h => Int.ne_of_lt h
 rw [List.perm_iff_count]
 intro t
 have h3 : t ∈ insS q s ↔ t ∈ q := by rw [insS_mem]; exact ⟨fun h4 => h4.elim id fun e => e ▸ h, .inl⟩
 rw [h1.count, h2.count]
 simp only [h3]
theorem insS_out {q : List Int} {s : Int} (h : s ∉ q) : (insS q s).Perm (s :: q) := by
 unfold insS
 simp only
 split
 ·
  rename_i h2
  exact absurd (by rw [← h2.2]; exact List.mem_of_getElem? (g0_some q _ h2.1)) h
 ·
  have h3 := List.perm_middle (a := s) (l₁ := q.take (frontN (fun x => decide (x < s)) q)) (l₂ := q.drop (frontN (fun x => decide (x < s)) q))
  rw [List.take_append_drop] at h3
  rw [List.append_assoc]
  exact h3
theorem rowsP_nil {pts : List Pn} {s : Int} (h : s ∉ startsP pts) : rowsP pts s = [] := by
 unfold rowsP
 rw [List.filter_eq_nil_iff.2 (fun p hp hk => h ((starts_mem pts s).2 ⟨p, hp, of_decide_eq_true hk⟩))]
 rfl
theorem Rel.add_new {wx : List WX} {pts : List Pn} {p : Pn} {mi : Nat} {a : Option Addr × Nat} (h : Rel wx pts) (hs : p.start ∉ startsP pts) : Rel ((p.start, mi, [(begR p.key p.kind p.value, a)]) :: wx) (pts ++ [p]) := by
 refine ⟨?_, fun x hx => ?_⟩
 ·
  rw [starts_snoc]
  exact ((h.st.cons p.start).trans (insS_out hs).symm)
 ·
  rw [rowsP_snoc]
  rcases List.mem_cons.1 hx with rfl | hx
  ·
   rw [if_pos rfl, rowsP_nil hs]
   exact .refl _
  ·
   rw [if_neg (fun e => hs (by rw [e]; exact h.st.mem_iff.1 (List.mem_map.2 ⟨x, hx, rfl⟩)))]
   exact h.rows x hx
theorem Rel.upd {s : Int} {mi : Nat} {xs ys : List RX} {wr : List WX} {pts : List Pn} {p : Pn} (h : Rel ((s, mi, xs) :: wr) pts) (hp : p.start = s) (hy : (rws ys).Perm (insR (rowsP pts s) p)) : Rel ((s, mi, ys) :: wr) (pts ++ [p]) := by
 have hs : s ∈ startsP pts := h.st.mem_iff.1 List.mem_cons_self
 have hn : (((s, mi, xs) :: wr).map (·.1)).Nodup := h.st.nodup_iff.2 (starts_nodup pts)
 refine ⟨?_, fun x hx => ?_⟩
 ·
  rw [starts_snoc, hp, insS_in (starts_sorted pts) hs]
  exact h.st
 ·
  rw [rowsP_snoc]
  rcases List.mem_cons.1 hx with rfl | hx
  ·
   rw [if_pos hp]
   exact hy
  ·
   rw [if_neg (fun e => (List.nodup_cons.1 hn).1 (List.mem_map.2 ⟨x, hx, e.symm.trans hp⟩))]
   exact h.rows x (List.mem_cons_of_mem _ hx)
theorem Rel.add_beg {s : Int} {mi : Nat} {xs : List RX} {wr : List WX} {pts : List Pn} {p : Pn} {a : Option Addr × Nat} (h : Rel ((s, mi, xs) :: wr) pts) (hp : p.start = s) (hm : metP pts s p.key p.kind = false) : Rel ((s, mi, (begR p.key p.kind p.value, a) :: xs) :: wr) (pts ++ [p]) := by
 refine h.upd hp ?_
 rw [insR_not hm, List.append_assoc]
 have h3 := List.perm_middle (a := begR p.key p.kind p.value) (l₁ := (rowsP pts s).take (frontN (ltP p.key p.kind) (rowsP pts s))) (l₂ := (rowsP pts s).drop (frontN (ltP p.key p.kind) (rowsP pts s)))
 rw [List.take_append_drop] at h3
 exact ((h.rows _ List.mem_cons_self).cons _).trans h3.symm
theorem set_perm {q : List Rw} {k : Nat} (r : Rw) (hk : k < q.length) : ∃ q', q.Perm (gW q k :: q') ∧ (q.set k r).Perm (r :: q') := by
 refine ⟨q.take k ++ q.drop (k + 1), ?_, ?_⟩
 ·
  have h1 := List.take_append_drop k q
  rw [List.drop_eq_getElem_cons hk] at h1
  have h2 := gW_some q k hk
  rw [List.getElem?_eq_getElem hk] at h2
  rw [Option.some.inj h2] at h1
  have h3 := List.perm_middle (a := gW q k) (l₁ := q.take k) (l₂ := q.drop (k + 1))
  rwa [h1] at h3
 ·
  rw [List.set_eq_take_append_cons_drop, if_pos hk]
  exact List.perm_middle
theorem kk_uniq {q : List Rw} (hs : RSort q) {a b : Rw} (ha : a ∈ q) (hb : b ∈ q) (h1 : a.key = b.key) (h2 : a.kind = b.kind) : a = b := by
 induction q with
 | nil => cases ha
 | cons x q ih =>
  have hc := List.pairwise_cons.1 hs
  rcases List.mem_cons.1 ha with rfl | ha2 <;> rcases List.mem_cons.1 hb with rfl | hb2
  ·
   rfl
  ·
   have h3 := hc.1 b hb2
   rw [(ltR_kk (a := a) h1.symm h2.symm).1, ltR_irrefl] at h3
   cases h3
  ·
   have h3 := hc.1 a ha2
   rw [(ltR_kk (a := b) h1 h2).1, ltR_irrefl] at h3
   cases h3
  ·
   exact ih hc.2 ha2 hb2
theorem Rel.add_more {s : Int} {mi : Nat} {r : RX} {xs : List RX} {wr : List WX} {pts : List Pn} {p : Pn} {a : Option Addr × Nat} (h : Rel ((s, mi, r :: xs) :: wr) pts) (hp : p.start = s) (h1 : r.1.key = p.key) (h2 : r.1.kind = p.kind) : Rel ((s, mi, (addR r.1 p.value, a) :: xs) :: wr) (pts ++ [p]) := by
 refine h.upd hp ?_
 have hr : (r.1 :: rws xs).Perm (rowsP pts s) := h.rows _ List.mem_cons_self
 have hm : ((rowsP pts s).any fun r => decide (r.key = p.key ∧ r.kind = p.kind)) = true := by
  rw [← any_perm hr]
  simp [h1, h2]
 obtain ⟨k, hk, hk1, hk2, e⟩ := insR_met (rows_sorted pts s) hm
 have he : gW (rowsP pts s) k = r.1 := kk_uniq (rows_sorted pts s) (List.mem_of_getElem? (gW_some _ k hk)) (hr.mem_iff.1 List.mem_cons_self) (hk1.trans h1.symm) (hk2.trans h2.symm)
 obtain ⟨q', ha, hb⟩ := set_perm (addR r.1 p.value) hk
 rw [e, he]
 rw [he] at ha
 have hc : (rws xs).Perm q' := (hr.trans ha).cons_inv
 exact (hc.cons _).trans hb.symm
theorem Rel.tot {wx : List WX} {pts : List Pn} (h : Rel wx pts) : totR wx = manyP pts := by
 unfold totR manyP
 have h1 : (wx.map fun x => x.2.2.length) = (wx.map (·.1)).map fun s => (rowsP pts s).length := by
  rw [List.map_map]
  exact List.map_congr_left fun x hx => h.rlen hx
 rw [h1]
 exact (h.st.map _).sum_nat
theorem Rel.due {wx : List WX} {pts : List Pn} (h : Rel wx pts) (width mark : Int) : dueS width mark wx = (startsP pts).filter fun s => decide (s + width ≤ mark) := by
 have h1 : (dueO width mark (eO wx)).Perm ((startsP pts).filter fun s => decide (s + width ≤ mark)) := by
  have h2 : dueO width mark (eO wx) = (wx.map (·.1)).filter fun s => decide (s + width ≤ mark) := by
   unfold dueO eO
   rw [List.filter_map, List.filter_map, List.map_map]
   rfl
  rw [h2]
  exact h.st.filter _
 unfold dueS
 refine List.Perm.eq_of_pairwise (le := fun a b => a ≤ b) (fun a b _ _ h1 h2 => Int.le_antisymm h1 h2) ?_ (((starts_sorted pts).sublist List.filter_sublist).imp fun h => Int.le_of_lt h) ((List.mergeSort_perm _ _).trans h1)
 exact (List.pairwise_mergeSort (fun a b c h1 h2 => by simp only [decide_eq_true_eq] at *; omega) (fun a b => by simp only [Bool.or_eq_true, decide_eq_true_eq]; omega) _).imp fun h => by simpa using h
theorem due_head {pts : List Pn} {width mark l0 : Int} {dl : List Int} (h : (startsP pts).filter (fun s => decide (s + width ≤ mark)) = l0 :: dl) : ∃ tl, startsP pts = l0 :: tl := by
 have hs := starts_sorted pts
 cases hq : startsP pts with
 | nil => rw [hq] at h; cases h
 | cons a tl =>
  rw [hq] at h hs
  by_cases ha : a + width ≤ mark
  ·
   rw [List.filter_cons_of_pos (by simpa using ha)] at h
   injection h with h1 h2
   exact ⟨tl, by rw [h1]⟩
  ·
   exfalso
   rw [List.filter_cons_of_neg (by simpa using ha)] at h
   have hm : l0 ∈ tl.filter fun s => decide (s + width ≤ mark) := by rw [h]; exact List.mem_cons_self
   have h2 := List.mem_filter.1 hm
   have h3 : a < l0 := (List.pairwise_cons.1 hs).1 l0 h2.1
   have h4 : l0 + width ≤ mark := by simpa using h2.2
   omega
theorem starts_left (pts : List Pn) (s : Int) : startsP (leftP pts s) = (startsP pts).filter fun t => decide (t ≠ s) := by
 refine List.Perm.eq_of_pairwise (le := fun a b => a < b) (fun a b _ _ h1 h2 => absurd (show a < b from h1) (by have : b < a := h2; omega)) (starts_sorted _) ((starts_sorted pts).sublist List.filter_sublist) ?_
 rw [List.perm_iff_count]
 intro t
 have h3 : t ∈ startsP (leftP pts s) ↔ t ∈ (startsP pts).filter fun t => decide (t ≠ s) := by
  rw [List.mem_filter, starts_mem, starts_mem]
  unfold leftP
  constructor
  ·
   rintro ⟨p, hp, rfl⟩
   have := List.mem_filter.1 hp
   exact ⟨⟨p, this.1, rfl⟩, this.2⟩
  ·
   rintro ⟨⟨p, hp, rfl⟩, h⟩
   exact ⟨p, List.mem_filter.2 ⟨hp, h⟩, rfl⟩
 rw [(starts_nodup _).count, ((starts_nodup pts).sublist List.filter_sublist).count]
 simp only [h3]
theorem rows_left {pts : List Pn} {s t : Int} (h : t ≠ s) : rowsP (leftP pts s) t = rowsP pts t := by
 unfold rowsP leftP
 rw [List.filter_filter]
 congr 1
 refine List.filter_congr fun p _ => ?_
 by_cases hp : p.start = t
 ·
  simp [hp, h]
 ·
  simp [hp]
theorem Rel.clo {l0 : Int} {mi : Nat} {xs : List RX} {wr : List WX} {pts : List Pn} (h : Rel ((l0, mi, xs) :: wr) pts) : Rel wr (leftP pts l0) := by
 have hn : (((l0, mi, xs) :: wr).map (·.1)).Nodup := h.st.nodup_iff.2 (starts_nodup pts)
 have hne : ∀ x ∈ wr, x.1 ≠ l0 := fun x hx e => (List.nodup_cons.1 hn).1 (List.mem_map.2 ⟨x, hx, e⟩)
 refine ⟨?_, fun x hx => ?_⟩
 ·
  rw [starts_left]
  have h1 := h.st.filter fun t => decide (t ≠ l0)
  rw [List.map_cons, List.filter_cons_of_neg (by simp), List.filter_eq_self.2 (fun t ht => by
   obtain ⟨x, hx, rfl⟩ := List.mem_map.1 ht
   simpa using hne x hx)] at h1
  exact h1
 ·
  rw [rows_left (hne x hx)]
  exact h.rows x (List.mem_cons_of_mem _ hx)
theorem rows_eq {zs : List Rw} {pts : List Pn} {s : Int} (hp : zs.Perm (rowsP pts s)) (hz : zs.Pairwise fun a b => ltR b a = false) : zs = rowsP pts s := by
 refine List.Perm.eq_of_pairwise (le := fun a b => ltR b a = false) (fun a b ha hb h1 h2 => ?_) hz ((rows_sorted pts s).imp fun h => ltR_asymm h) hp
 have h3 := ltR_tri h1 h2
 exact kk_uniq (rows_sorted pts s) (hp.mem_iff.1 ha) hb h3.1.symm h3.2.symm
end Go.Proofs.YtdhonbahpcmmnaaGreatDoor.Bat
end
section
set_option linter.unusedVariables false
set_option linter.unusedSimpArgs false
namespace Go.Proofs.YtdhonbahpcmmnaaGreatDoor.Bat
open Go Go.RowKit Go.Proofs.YtdhonbahpcmmnaaGreatDoor Go.Proofs.YtdhonbahpcmmnaaGreatDoor.Eng Go.Proofs.YtdhonbahpcmmnaaGreatDoorW.PrintWords
open Go.Proofs Go.Maps
open Go.Proofs.YtdhonbahpcmmnaaGreatDoor.Line
def allR (wx : List WX) : List RX := wx.flatMap (·.2.2)
theorem allR_mem {wx : List WX} {x : WX} {r : RX} (hx : x ∈ wx) (hr : r ∈ x.2.2) : r ∈ allR wx := List.mem_flatMap.2 ⟨x, hx, hr⟩
theorem EV.sub {w : World} {F : List Nat} {xs ys : List RX} (h : EV w F xs) (hs : ∀ y ∈ ys, y ∈ xs) : EV w F ys := ⟨h.1, fun y hy => h.2 y (hs y hy)⟩
def okR (r : Rw) : Prop := r.In ∧ r.bk.length ≤ 65 ∧ 1 ≤ r.many
structure TBI (w : World) (tb mo : Nat) (FI FB : List Nat) (width windows rows seq : Int) (wx : List WX) (pts : List Pn) : Prop where
 blk : Blk w tb #[.int .i64 width, .int .i64 windows, .int .i64 rows, .int .i64 seq, .map (some mo)] 88
 out : MapG Tryz.prog 2 Li oki Em w mo (eO wx)
 im : IM w FI wx
 ev : EV w FB (allR wx)
 tbo : tb ≠ mo
 tbI : tb ∉ FI
 moI : mo ∉ FI
 tbB : tb ∉ FB
 moB : mo ∉ FB
 iB : ∀ y ∈ FI, y ∉ FB
 ok : ∀ x ∈ wx, ∀ r ∈ x.2.2, okR r.1
 rel : Rel wx pts
theorem TBI.keep {w w1 : World} {S : List Nat} {tb mo : Nat} {FI FB : List Nat} {width windows rows seq : Int} {wx : List WX} {pts : List Pn} (h : TBI w tb mo FI FB width windows rows seq wx pts) (k : Fr S w w1) (h1 : tb ∉ S) (h2 : mo ∉ S) (h3 : ∀ y ∈ FI, y ∉ S) (h4 : ∀ y ∈ FB, y ∉ S) : TBI w1 tb mo FI FB width windows rows seq wx pts :=
 ⟨h.blk.keep k h1, h.out.keep k h2, h.im.keep k h3, h.ev.keep k h4, h.tbo, h.tbI, h.moI, h.tbB, h.moB, h.iB, h.ok, h.rel⟩
theorem TBI.perm {w : World} {tb mo : Nat} {FI FB : List Nat} {width windows rows seq : Int} {wx wy : List WX} {pts : List Pn} (h : TBI w tb mo FI FB width windows rows seq wx pts) (hp : wx.Perm wy) : ∃ FJ, (∀ y, y ∈ FJ ↔ y ∈ FI) ∧ TBI w tb mo FJ FB width windows rows seq wy pts := by
 have hm : ∀ y, y ∈ wy.map (·.2.1) ↔ y ∈ FI := fun y => by rw [h.im.1]; exact ((hp.map _).mem_iff).symm
 refine ⟨wy.map (·.2.1), hm, h.blk, h.out.perm (hp.map _), ⟨rfl, ?_, fun x hx => h.im.2.2 x (hp.mem_iff.2 hx)⟩, h.ev.sub fun y hy => ?_, h.tbo, fun hc => h.tbI ((hm _).1 hc), fun hc => h.moI ((hm _).1 hc), h.tbB, h.moB, fun y hy => h.iB y ((hm y).1 hy), fun x hx => h.ok x (hp.mem_iff.2 hx), h.rel.perm hp.symm⟩
 ·
  have := h.im.2.1
  rw [h.im.1] at this
  exact (hp.map _).nodup_iff.1 this
 ·
  obtain ⟨x, hx, hr⟩ := List.mem_flatMap.1 hy
  exact allR_mem (hp.mem_iff.2 hx) hr
theorem TBI.upd {w w1 : World} {tb mo : Nat} {FI FB : List Nat} {width windows rows seq : Int} {s : Int} {mi : Nat} {xs ys : List RX} {wr : List WX} {pts pts' : List Pn} {r : Rw} {A : Option Addr} {c : Nat} {F' : List Nat}
  (h : TBI w tb mo FI FB width windows rows seq ((s, mi, xs) :: wr) pts) (k : Fr [mi] w w1) (hM : MapG Tryz.prog 97 Lp okp Er w1 mi (eI ys)) (hv : VX cN 1 w1 F' A r.bk) (hc : r.bk.length ≤ c) (hn : ∀ y ∈ F', w.heap.size ≤ y)
  (hy : ∀ y ∈ ys, y ∈ xs ∨ y = (r, (A, c))) (hr : okR r) (hrel : Rel ((s, mi, ys) :: wr) pts') : TBI w1 tb mo FI (FB ++ F') width windows rows seq ((s, mi, ys) :: wr) pts' := by
 have hmi : mi ∈ FI := by rw [h.im.1]; exact List.mem_cons_self
 have hnew : ∀ y, y < w.heap.size → y ∉ F' := fun y h1 h2 => absurd (hn y h2) (by omega)
 have hnd := h.im.2.1
 rw [h.im.1] at hnd
 have hne : ∀ x ∈ wr, x.2.1 ≠ mi := fun x hx e => (List.nodup_cons.1 hnd).1 (List.mem_map.2 ⟨x, hx, e⟩)
 have ss : ∀ {y : Nat}, y ≠ mi → y ∉ [mi] := fun hy h2 => hy (List.mem_singleton.1 h2)
 refine ⟨h.blk.keep k (ss fun e => h.tbI (e ▸ hmi)), h.out.keep k (ss fun e => h.moI (e ▸ hmi)), ⟨h.im.1, h.im.2.1, fun x hx => ?_⟩, ?_, h.tbo, h.tbI, h.moI, ?_, ?_, ?_, ?_, hrel⟩
 ·
  rcases List.mem_cons.1 hx with rfl | hx
  ·
   exact hM
  ·
   exact (h.im.2.2 x (List.mem_cons_of_mem _ hx)).keep k (ss (hne x hx))
 ·
  have h1 : EV w1 FB (allR ((s, mi, xs) :: wr)) := h.ev.keep k fun y hy => ss fun e => h.iB mi hmi (e ▸ hy)
  refine h1.more hv hc fun y hy2 => ?_
  obtain ⟨x, hx, hr⟩ := List.mem_flatMap.1 hy2
  rcases List.mem_cons.1 hx with rfl | hx
  ·
   rcases hy y hr with h2 | h2
   ·
    exact .inl (allR_mem List.mem_cons_self h2)
   ·
    exact .inr h2
  ·
   exact .inl (allR_mem (List.mem_cons_of_mem _ hx) hr)
 ·
  exact fun hc => (List.mem_append.1 hc).elim h.tbB (hnew _ h.blk.lt)
 ·
  exact fun hc => (List.mem_append.1 hc).elim h.moB (hnew _ h.out.lt)
 ·
  exact fun y hy hc => (List.mem_append.1 hc).elim (h.iB y hy) (hnew _ (h.im.lt y hy))
 ·
  intro x hx q hq
  rcases List.mem_cons.1 hx with rfl | hx
  ·
   rcases hy q hq with h2 | rfl
   ·
    exact h.ok _ List.mem_cons_self q h2
   ·
    exact hr
  ·
   exact h.ok x (List.mem_cons_of_mem _ hx) q hq
theorem TBI.new {w w1 : World} {tb mo mi : Nat} {FI FB : List Nat} {width windows rows seq : Int} {s : Int} {wx : List WX} {pts pts' : List Pn} {r : Rw} {A : Option Addr} {c : Nat} {F' : List Nat}
  (h : TBI w tb mo FI FB width windows rows seq wx pts) (k : Fr [mo] w w1) (hO : MapG Tryz.prog 2 Li oki Em w1 mo (eO ((s, mi, [(r, A, c)]) :: wx))) (hM : MapG Tryz.prog 97 Lp okp Er w1 mi (eI [(r, A, c)])) (hv : VX cN 1 w1 F' A r.bk) (hc : r.bk.length ≤ c) (hmi : w.heap.size ≤ mi) (hn : ∀ y ∈ F', w.heap.size ≤ y) (hd : mi ∉ F')
  (hr : okR r) (hrel : Rel ((s, mi, [(r, A, c)]) :: wx) pts') : TBI w1 tb mo (mi :: FI) (FB ++ F') width windows rows seq ((s, mi, [(r, A, c)]) :: wx) pts' := by
 have hnew : ∀ y, y < w.heap.size → y ∉ F' := fun y h1 h2 => absurd (hn y h2) (by omega)
 have ss : ∀ {y : Nat}, y ≠ mo → y ∉ [mo] := fun hy h2 => hy (List.mem_singleton.1 h2)
 have hlt : ∀ y ∈ FI, y < w.heap.size := h.im.lt
 have hltB : ∀ y ∈ FB, y < w.heap.size := h.ev.1
 have ht := h.blk.lt
 have ho := h.out.lt
 refine ⟨h.blk.keep k (ss h.tbo), hO, ⟨by rw [h.im.1]; rfl, List.nodup_cons.2 ⟨fun hc => absurd (hlt _ hc) (by omega), h.im.2.1⟩, fun x hx => ?_⟩, ?_, h.tbo, ?_, ?_, ?_, ?_, ?_, ?_, hrel⟩
 ·
  rcases List.mem_cons.1 hx with rfl | hx
  ·
   exact hM
  ·
   exact (h.im.2.2 x hx).keep k (ss fun e => h.moI (by rw [h.im.1, ← e]; exact List.mem_map.2 ⟨x, hx, rfl⟩))
 ·
  have h1 : EV w1 FB (allR wx) := h.ev.keep k fun y hy => ss fun e => h.moB (e ▸ hy)
  refine h1.more hv hc fun y hy2 => ?_
  obtain ⟨x, hx, hq⟩ := List.mem_flatMap.1 hy2
  rcases List.mem_cons.1 hx with rfl | hx
  ·
   exact .inr (List.mem_singleton.1 hq)
  ·
   exact .inl (allR_mem hx hq)
 ·
  exact fun hc => (List.mem_cons.1 hc).elim (fun e => by omega) h.tbI
 ·
  exact fun hc => (List.mem_cons.1 hc).elim (fun e => by omega) h.moI
 ·
  exact fun hc => (List.mem_append.1 hc).elim h.tbB (hnew _ ht)
 ·
  exact fun hc => (List.mem_append.1 hc).elim h.moB (hnew _ ho)
 ·
  intro y hy hc
  rcases List.mem_cons.1 hy with rfl | hy
  ·
   exact (List.mem_append.1 hc).elim (fun h2 => absurd (hltB _ h2) (by omega)) hd
  ·
   exact (List.mem_append.1 hc).elim (h.iB y hy) (hnew _ (hlt y hy))
 ·
  intro x hx q hq
  rcases List.mem_cons.1 hx with rfl | hx
  ·
   rw [List.mem_singleton.1 hq]
   exact hr
  ·
   exact h.ok x hx q hq
theorem TBI.clo {w w1 : World} {tb mo mi : Nat} {FI FB : List Nat} {width windows rows seq seq' : Int} {s : Int} {xs : List RX} {wr : List WX} {pts pts' : List Pn}
  (h : TBI w tb mo FI FB width windows rows seq ((s, mi, xs) :: wr) pts) (k : Fr [tb, mo] w w1) (hB : Blk w1 tb #[.int .i64 width, .int .i64 windows, .int .i64 rows, .int .i64 seq', .map (some mo)] 88) (hO : MapG Tryz.prog 2 Li oki Em w1 mo (eO wr)) (hrel : Rel wr pts') : TBI w1 tb mo (wr.map (·.2.1)) FB width windows rows seq' wr pts' := by
 have hs : ∀ y ∈ wr.map (·.2.1), y ∈ FI := fun y hy => by rw [h.im.1]; exact List.mem_cons_of_mem _ hy
 have hnd := h.im.2.1
 rw [h.im.1] at hnd
 have ss : ∀ {y : Nat}, y ≠ tb → y ≠ mo → y ∉ [tb, mo] := fun h1 h2 h3 => by
  rcases List.mem_cons.1 h3 with h4 | h4
  ·
   exact h1 h4
  ·
   exact h2 (List.mem_singleton.1 h4)
 refine ⟨hB, hO, ⟨rfl, (List.nodup_cons.1 hnd).2, fun x hx => ?_⟩, ?_, h.tbo, fun hc => h.tbI (hs _ hc), fun hc => h.moI (hs _ hc), h.tbB, h.moB, fun y hy => h.iB y (hs y hy), fun x hx => h.ok x (List.mem_cons_of_mem _ hx), hrel⟩
 ·
  have hm := hs _ (List.mem_map.2 ⟨x, hx, rfl⟩)
  exact (h.im.2.2 x (List.mem_cons_of_mem _ hx)).keep k (ss (fun e => h.tbI (e ▸ hm)) (fun e => h.moI (e ▸ hm)))
 ·
  refine EV.sub (h.ev.keep k fun y hy => ss (fun e => h.tbB (e ▸ hy)) (fun e => h.moB (e ▸ hy))) fun y hy => ?_
  obtain ⟨x, hx, hr⟩ := List.mem_flatMap.1 hy
  exact allR_mem (List.mem_cons_of_mem _ hx) hr
end Go.Proofs.YtdhonbahpcmmnaaGreatDoor.Bat
end
section
set_option linter.unusedVariables false
set_option linter.unusedSimpArgs false
namespace Go.Proofs.YtdhonbahpcmmnaaGreatDoor.Bat
open Go Go.RowKit Go.Proofs.YtdhonbahpcmmnaaGreatDoor Go.Proofs.YtdhonbahpcmmnaaGreatDoor.Eng Go.Proofs.YtdhonbahpcmmnaaGreatDoorW.PrintWords
open Go.Proofs Go.Maps
open Go.Proofs.YtdhonbahpcmmnaaGreatDoor.Line
def TB (w : World) (F : List Nat) (tb : Nat) (width windows rows seq : Int) (pts : List Pn) : Prop :=
 ∃ mo FI FB wx, (∀ y, y ∈ F ↔ y = tb ∨ y = mo ∨ y ∈ FI ∨ y ∈ FB) ∧ TBI w tb mo FI FB width windows rows seq wx pts
theorem TB.lt {w : World} {F : List Nat} {tb : Nat} {width windows rows seq : Int} {pts : List Pn} (h : TB w F tb width windows rows seq pts) : ∀ y ∈ F, y < w.heap.size := by
 obtain ⟨mo, FI, FB, wx, hF, h⟩ := h
 intro y hy
 rcases (hF y).1 hy with rfl | rfl | h1 | h1
 ·
  exact h.blk.lt
 ·
  exact h.out.lt
 ·
  exact h.im.lt y h1
 ·
  exact h.ev.1 y h1
theorem TB.keep {w w1 : World} {S F : List Nat} {tb : Nat} {width windows rows seq : Int} {pts : List Pn} (h : TB w F tb width windows rows seq pts) (k : Fr S w w1) (hn : ∀ y ∈ F, y ∉ S) : TB w1 F tb width windows rows seq pts := by
 obtain ⟨mo, FI, FB, wx, hF, h⟩ := h
 exact ⟨mo, FI, FB, wx, hF, h.keep k (hn _ ((hF _).2 (.inl rfl))) (hn _ ((hF _).2 (.inr (.inl rfl)))) (fun y hy => hn _ ((hF _).2 (.inr (.inr (.inl hy))))) (fun y hy => hn _ ((hF _).2 (.inr (.inr (.inr hy)))))⟩
theorem rowsP_ne {pts : List Pn} {s : Int} (h : s ∈ startsP pts) : 1 ≤ (rowsP pts s).length := by
 refine snoc_ind (P := fun pts => s ∈ startsP pts → 1 ≤ (rowsP pts s).length) (fun h => by cases h) (fun l a ih h => ?_) pts h
 rw [rowsP_snoc]
 split
 ·
  unfold insR
  simp only
  split
  ·
   rename_i h2
   rw [List.length_set]
   omega
  ·
   simp only [List.length_append, List.length_cons]
   omega
 ·
  rename_i h2
  rw [starts_snoc, insS_mem] at h
  exact ih (h.elim id fun e => absurd e.symm h2)
variable {w : World} {F : List Nat} {tb : Nat} {width windows rows seq : Int} {pts : List Pn}
theorem TBI.oks {mo : Nat} {FI FB : List Nat} {wx : List WX} (h : TBI w tb mo FI FB width windows rows seq wx pts) (hps : ∀ s ∈ startsP pts, 0 ≤ s ∧ s ≤ 1099511627776) : ∀ e ∈ eO wx, 0 ≤ e.1 ∧ e.1 ≤ 1099511627776 := by
 intro e he
 obtain ⟨x, hx, rfl⟩ := List.mem_map.1 he
 exact hps _ (h.rel.st.mem_iff.1 (List.mem_map.2 ⟨x, hx, rfl⟩))
theorem TBI.wl {mo : Nat} {FI FB : List Nat} {wx : List WX} (h : TBI w tb mo FI FB width windows rows seq wx pts) (hpl : pts.length ≤ 100000) : wx.length ≤ 100000 := by
 have h1 := h.rel.len
 have h2 := starts_len pts
 omega
theorem tb_new (hg : 1 ≤ width ∧ width ≤ 1099511627776 ∧ 1 ≤ windows ∧ windows ≤ 100 ∧ 1 ≤ rows ∧ rows ≤ 200 ∧ 0 ≤ seq ∧ seq ≤ 1000000) :
  Calls Tryz.prog 19 #[.int .i64 width, .int .i64 windows, .int .i64 rows, .int .i64 seq] w fun e w' => ∃ tb F, e = .returned (.tuple #[.pointer (some ⟨tb, 0, none⟩), .nilIface]) ∧ TB w' F tb width windows rows seq [] ∧ tb ∈ F ∧ (∀ y ∈ F, w.heap.size ≤ y) ∧ Fr [] w w' := by
 refine (new_ok width windows rows seq w hg).mono fun e w' ⟨tb, mo, h1, h2, h3, h4, h5, h6, h7⟩ => ⟨tb, [tb, mo], h1, ⟨mo, [], [], [], fun y => by simp, ⟨h2, h3, ⟨rfl, .nil, fun x hx => absurd hx List.not_mem_nil⟩, ⟨fun y hy => absurd hy List.not_mem_nil, fun x hx => absurd hx List.not_mem_nil⟩, h4, nin0 _, nin0 _, nin0 _, nin0 _, fun y hy => absurd hy List.not_mem_nil, fun x hx => absurd hx List.not_mem_nil, Rel.nil⟩⟩, by simp, fun y hy => ?_, h7⟩
 rcases List.mem_cons.1 hy with rfl | hy
 ·
  exact h5
 ·
  rw [List.mem_singleton.1 hy]
  exact h6
theorem tb_opn (HT : TB w F tb width windows rows seq pts) :
  Calls Tryz.prog 22 #[.pointer (some ⟨tb, 0, none⟩)] w fun e w' => e = .returned (.int .i64 ((startsP pts).length : Int)) ∧ Fr [] w w' := by
 obtain ⟨mo, FI, FB, wx, hF, h⟩ := HT
 have h1 := opn_f tb mo width windows rows seq wx w h.blk h.out h.tbo
 rwa [h.rel.len] at h1
theorem tb_rows (HT : TB w F tb width windows rows seq pts) (hm : manyP pts ≤ 1000000) :
  Calls Tryz.prog 23 #[.pointer (some ⟨tb, 0, none⟩)] w fun e w' => e = .returned (.int .i64 (manyP pts : Int)) ∧ Fr [] w w' := by
 obtain ⟨mo, FI, FB, wx, hF, h⟩ := HT
 have h1 := rows_f tb mo width windows rows seq wx w h.blk h.out FI h.im h.tbo h.tbI h.moI (by rw [h.rel.tot]; exact hm)
 rwa [h.rel.tot] at h1
theorem tb_seq (HT : TB w F tb width windows rows seq pts) :
  Calls Tryz.prog 32 #[.pointer (some ⟨tb, 0, none⟩)] w fun e w' => e = .returned (.int .i64 seq) ∧ Fr [] w w' := by
 obtain ⟨mo, FI, FB, wx, hF, h⟩ := HT
 exact seq_f tb mo width windows rows seq w h.blk
theorem tb_late (mark : Int) (key : L) (kind value time st : Int) (HT : TB w F tb width windows rows seq pts) (hW : 1 ≤ width ∧ width ≤ 1099511627776) (hkey : key.length ≤ 100000) (hof : (ofE key).isSome = true) (hkd : 1 ≤ kind ∧ kind ≤ 3) (htm : 0 ≤ time ∧ time ≤ 1099511627776) (hst : st = time - time % width) (hlate : st + width ≤ mark)
  (HS : VarI w "strconv.ErrSyntax") (HR : VarI w "strconv.ErrRange") (HTab : Lib.TabIs Tryz.prog w "internal/strconv.uint64pow10" .u64 Lib.pow10Tab) (HM : MaxI w) :
  Calls Tryz.prog 20 #[.pointer (some ⟨tb, 0, none⟩), .int .i64 mark, .string (str key), .int .i64 kind, .int .i64 value, .int .i64 time] w fun e w' => e = .returned (.iface 32 (.int .i64 8)) ∧ Fr [] w w' := by
 obtain ⟨mo, FI, FB, wx, hF, h⟩ := HT
 exact add_late tb mo width windows rows seq mark key kind value time w h.blk hW hkey hof hkd htm st hst hlate HS HR HTab HM
def FullP (windows rows : Int) (pts : List Pn) (st : Int) (key : L) (kind : Int) : Prop := ((rowsP pts st).length = 0 ∧ windows ≤ (startsP pts).length) ∨ (metP pts st key kind = false ∧ rows ≤ (rowsP pts st).length)
theorem find_row {xs : List RX} {key : L} {kind : Int} (h : hasE (eI xs) (key, kind) = true) : ∃ r xs', xs.Perm (r :: xs') ∧ r.1.key = key ∧ r.1.kind = kind := by
 rw [eI_any] at h
 obtain ⟨q, hq, hk⟩ := List.any_eq_true.1 h
 obtain ⟨r, hr, rfl⟩ := List.mem_map.1 hq
 obtain ⟨a, b, rfl⟩ := List.append_of_mem hr
 have := of_decide_eq_true hk
 exact ⟨r, a ++ b, List.perm_middle, this.1, this.2⟩
theorem TBI.rows_perm {mo : Nat} {FI FB : List Nat} {s : Int} {mi : Nat} {xs ys : List RX} {wr : List WX} (h : TBI w tb mo FI FB width windows rows seq ((s, mi, xs) :: wr) pts) (hp : xs.Perm ys) : TBI w tb mo FI FB width windows rows seq ((s, mi, ys) :: wr) pts := by
 refine ⟨h.blk, h.out, ⟨h.im.1, h.im.2.1, fun x hx => ?_⟩, h.ev.sub fun y hy => ?_, h.tbo, h.tbI, h.moI, h.tbB, h.moB, h.iB, fun x hx q hq => ?_, ⟨h.rel.st, fun x hx => ?_⟩⟩
 ·
  rcases List.mem_cons.1 hx with rfl | hx
  ·
   exact (h.im.2.2 _ List.mem_cons_self).perm (hp.map _)
  ·
   exact h.im.2.2 x (List.mem_cons_of_mem _ hx)
 ·
  obtain ⟨x, hx, hr⟩ := List.mem_flatMap.1 hy
  rcases List.mem_cons.1 hx with rfl | hx
  ·
   exact allR_mem (x := (s, mi, xs)) List.mem_cons_self (hp.mem_iff.2 hr)
  ·
   exact allR_mem (List.mem_cons_of_mem _ hx) hr
 ·
  rcases List.mem_cons.1 hx with rfl | hx
  ·
   exact h.ok _ List.mem_cons_self q (hp.mem_iff.2 hq)
  ·
   exact h.ok x (List.mem_cons_of_mem _ hx) q hq
 ·
  rcases List.mem_cons.1 hx with rfl | hx
  ·
   exact ((hp.map _).symm).trans (h.rel.rows _ List.mem_cons_self)
  ·
   exact h.rel.rows x (List.mem_cons_of_mem _ hx)
theorem tb_add (mark : Int) (key : L) (kind value time st : Int) (HT : TB w F tb width windows rows seq pts) (hW : 1 ≤ width ∧ width ≤ 1099511627776) (hkey : key.length ≤ 100000) (hof : (ofE key).isSome = true) (hkd : 1 ≤ kind ∧ kind ≤ 3) (htm : 0 ≤ time ∧ time ≤ 1099511627776) (hst : st = time - time % width) (hin : ¬ st + width ≤ mark) (hv : I64 value) (hpl : pts.length ≤ 100000) (hr1 : 1 ≤ rows)
  (HS : VarI w "strconv.ErrSyntax") (HR : VarI w "strconv.ErrRange") (HTab : Lib.TabIs Tryz.prog w "internal/strconv.uint64pow10" .u64 Lib.pow10Tab) (HM : MaxI w) :
  Calls Tryz.prog 20 #[.pointer (some ⟨tb, 0, none⟩), .int .i64 mark, .string (str key), .int .i64 kind, .int .i64 value, .int .i64 time] w fun e w' =>
   (FullP windows rows pts st key kind ∧ e = .returned (.iface 32 (.int .i64 6)) ∧ Fr [] w w') ∨ (¬ FullP windows rows pts st key kind ∧ e = .returned .nilIface ∧ ∃ F', TB w' F' tb width windows rows seq (pts ++ [⟨st, key, kind, value⟩]) ∧ (∀ y ∈ F', y ∈ F ∨ w.heap.size ≤ y) ∧ Fr F w w') := by
 obtain ⟨mo, FI, FB, wx, hF, h⟩ := HT
 have hwl := h.wl hpl
 have hlen := h.rel.len
 have hok : okR (begR key kind value) := beg_ok hv
 by_cases hs : st ∈ startsP pts
 ·
  obtain ⟨mi, xs, wr, hp⟩ := h.rel.find hs
  obtain ⟨FJ, hJ, h2⟩ := h.perm hp
  have hmi : mi ∈ FJ := by rw [h2.im.1]; exact List.mem_cons_self
  have hne := rowsP_ne hs
  have hxl : xs.length = (rowsP pts st).length := h2.rel.rlen (x := (st, mi, xs)) List.mem_cons_self
  have hrl := rowsP_len pts st
  have hwr : wr.length ≤ 1000000 := by have := hp.length_eq; simp only [List.length_cons] at this; omega
  have hti : tb ≠ mi := fun e => h2.tbI (e ▸ hmi)
  have hoi : mo ≠ mi := fun e => h2.moI (e ▸ hmi)
  have hmF : mi ∈ F := (hF mi).2 (.inr (.inr (.inl ((hJ mi).1 hmi))))
  have hmet := h2.rel.met (x := (st, mi, xs)) List.mem_cons_self key kind
  have hsub : ∀ FN : List Nat, (∀ y ∈ FN, w.heap.size ≤ y) → ∀ y ∈ tb :: mo :: (FJ ++ (FB ++ FN)), y ∈ F ∨ w.heap.size ≤ y := by
   intro FN hn y hy
   rcases List.mem_cons.1 hy with rfl | hy
   ·
    exact .inl ((hF _).2 (.inl rfl))
   rcases List.mem_cons.1 hy with rfl | hy
   ·
    exact .inl ((hF _).2 (.inr (.inl rfl)))
   rcases List.mem_append.1 hy with hy | hy
   ·
    exact .inl ((hF _).2 (.inr (.inr (.inl ((hJ y).1 hy)))))
   rcases List.mem_append.1 hy with hy | hy
   ·
    exact .inl ((hF _).2 (.inr (.inr (.inr hy))))
   ·
    exact .inr (hn y hy)
  cases hm : metP pts st key kind with
  | true =>
   obtain ⟨r, ys, hpr, hk1, hk2⟩ := find_row (hmet.trans hm)
   have h3 := h2.rows_perm hpr
   have hl := hpr.length_eq
   have hrok : okR r.1 := h3.ok _ List.mem_cons_self r List.mem_cons_self
   refine (add_more tb mo width windows rows seq mark key kind value time w h.blk hW hkey hof hkd htm st hst mi r ys wr hin h3.out (h3.im.2.2 _ List.mem_cons_self) hwr (by simp only [List.length_cons] at hl; omega) hti hoi (by rw [hk1, hk2]) FB (h3.ev.sub fun y hy => allR_mem (x := (st, mi, r :: ys)) List.mem_cons_self hy) hrok.2.1 hrok.1 hv HS HR HTab HM).mono fun e w' ⟨A', c', F', e1, e2, e3, e4, e5, e6⟩ => .inr ⟨?_, e1, tb :: mo :: (FJ ++ (FB ++ F')), ⟨mo, FJ, FB ++ F', _, fun y => by simp, h3.upd e6 e2 e3 e4 e5 (fun y hy => ?_) (add_ok hrok hv) (h3.rel.add_more (p := ⟨st, key, kind, value⟩) rfl hk1 hk2)⟩, hsub F' e5, e6.only fun y hy => .inl ?_⟩
   ·
    rintro (⟨a, _⟩ | ⟨a, _⟩)
    ·
     omega
    ·
     rw [hm] at a; cases a
   ·
    rcases List.mem_cons.1 hy with rfl | hy
    ·
     exact .inr rfl
    ·
     exact .inl (List.mem_cons_of_mem _ hy)
   ·
    rw [List.mem_singleton.1 hy]; exact hmF
  | false =>
   by_cases hfl : rows ≤ xs.length
   ·
    refine (add_full2 tb mo width windows rows seq mark key kind value time w h.blk hW hkey hof hkd htm st hst mi xs wr hin h2.out (h2.im.2.2 _ List.mem_cons_self) hwr (by omega) hti hoi (hmet.trans hm) hfl HS HR HTab HM).mono fun e w' ⟨e1, e2⟩ => .inl ⟨.inr ⟨hm, by omega⟩, e1, e2⟩
   ·
    refine (add_beg tb mo width windows rows seq mark key kind value time w h.blk hW hkey hof hkd htm st hst mi xs wr hin h2.out (h2.im.2.2 _ List.mem_cons_self) hwr (by omega) hti hoi (hmet.trans hm) hfl hv HS HR HTab HM).mono fun e w' ⟨A', c', F', e1, e2, e3, e4, e5, e6⟩ => .inr ⟨?_, e1, tb :: mo :: (FJ ++ (FB ++ F')), ⟨mo, FJ, FB ++ F', _, fun y => by simp, h2.upd e6 e2 e3 e4 e5 (fun y hy => ?_) hok (h2.rel.add_beg (p := ⟨st, key, kind, value⟩) rfl hm)⟩, hsub F' e5, e6.only fun y hy => .inl ?_⟩
    ·
     rintro (⟨a, _⟩ | ⟨_, a⟩) <;> omega
    ·
     exact (List.mem_cons.1 hy).elim .inr .inl
    ·
     rw [List.mem_singleton.1 hy]; exact hmF
 ·
  have hno := h.rel.no hs
  have hr0 := rowsP_nil hs
  by_cases hfl : windows ≤ wx.length
  ·
   refine (add_full1 tb mo width windows rows seq mark key kind value time wx w h.blk hW hkey hof hkd htm st hst hin h.out hno hfl (by omega) HS HR HTab HM).mono fun e w' ⟨e1, e2⟩ => .inl ⟨.inl ⟨by rw [hr0]; rfl, by omega⟩, e1, e2⟩
  ·
   refine (add_new tb mo width windows rows seq mark key kind value time wx w h.blk hW hkey hof hkd htm st hst hin h.out hno hfl (by omega) hr1 h.tbo hv HS HR HTab HM).mono fun e w' ⟨mi, A', c', F', e1, e2, e3, e4, e5, e6, e7, e8, e9⟩ => .inr ⟨?_, e1, tb :: mo :: ((mi :: FI) ++ (FB ++ F')), ⟨mo, mi :: FI, FB ++ F', _, fun y => by simp [or_assoc], h.new e9 e2 e3 e4 e5 e6 e7 e8 hok (h.rel.add_new (p := ⟨st, key, kind, value⟩) hs)⟩, fun y hy => ?_, e9.only fun y hy => .inl ?_⟩
   ·
    rintro (⟨_, a⟩ | ⟨_, a⟩)
    ·
     omega
    ·
     rw [hr0] at a; simp only [List.length_nil] at a; omega
   ·
    rcases List.mem_cons.1 hy with rfl | hy
    ·
     exact .inl ((hF _).2 (.inl rfl))
    rcases List.mem_cons.1 hy with rfl | hy
    ·
     exact .inl ((hF _).2 (.inr (.inl rfl)))
    rcases List.mem_append.1 hy with hy | hy
    ·
     rcases List.mem_cons.1 hy with rfl | hy
     ·
      exact .inr e6
     ·
      exact .inl ((hF _).2 (.inr (.inr (.inl hy))))
    rcases List.mem_append.1 hy with hy | hy
    ·
     exact .inl ((hF _).2 (.inr (.inr (.inr hy))))
    ·
     exact .inr (e7 y hy)
   ·
    rw [List.mem_singleton.1 hy]; exact (hF mo).2 (.inr (.inl rfl))
theorem tb_clo_no (mark : Int) (HT : TB w F tb width windows rows seq pts) (hW : 1 ≤ width ∧ width ≤ 1099511627776) (hps : ∀ s ∈ startsP pts, 0 ≤ s ∧ s ≤ 1099511627776) (hpl : pts.length ≤ 100000) (hds : ((startsP pts).filter fun s => decide (s + width ≤ mark)).length = 0) :
  Calls Tryz.prog 21 #[.pointer (some ⟨tb, 0, none⟩), .int .i64 mark] w fun e w' => e = .returned (.tuple #[.agg #[.int .i64 0, .int .i64 0, .slice none 0 0], .bool false]) ∧ Fr [] w w' := by
 obtain ⟨mo, FI, FB, wx, hF, h⟩ := HT
 exact clo_no tb mo width windows rows seq mark wx w h.blk h.out hW (h.oks hps) (by have := h.wl hpl; omega) h.tbo (by rw [h.rel.due]; exact List.length_eq_zero_iff.1 hds)
theorem tb_clo_yes (mark : Int) (HT : TB w F tb width windows rows seq pts) (hW : 1 ≤ width ∧ width ≤ 1099511627776) (hps : ∀ s ∈ startsP pts, 0 ≤ s ∧ s ≤ 1099511627776) (hpl : pts.length ≤ 100000) (hds : 1 ≤ ((startsP pts).filter fun s => decide (s + width ≤ mark)).length) (hsq : 0 ≤ seq ∧ seq ≤ 1000000000) :
  Calls Tryz.prog 21 #[.pointer (some ⟨tb, 0, none⟩), .int .i64 mark] w fun e w' => ∃ (zs : List RX) (A' : Option Addr) (c' : Nat) (F' G' FT' : List Nat), e = .returned (.tuple #[.agg #[.int .i64 seq, .int .i64 (g0 (startsP pts) 0), .slice A' zs.length c'], .bool true]) ∧ rws zs = rowsP pts (g0 (startsP pts) 0) ∧ VX cW 8 w' F' A' zs ∧ EV w' G' zs ∧ zs.length ≤ c' ∧ (∀ y ∈ F', w.heap.size ≤ y) ∧ (∀ y ∈ G', w.heap.size ≤ y) ∧ (∀ y ∈ F', y ∉ G') ∧ (∀ x ∈ zs, okR x.1) ∧ TB w' FT' tb width windows rows (seq + 1) (leftP pts (g0 (startsP pts) 0)) ∧ (∀ y ∈ FT', y ∈ F) ∧ Fr F w w' := by
 obtain ⟨mo, FI, FB, wx, hF, h⟩ := HT
 cases hq : (startsP pts).filter fun s => decide (s + width ≤ mark) with
 | nil => rw [hq] at hds; simp at hds
 | cons l0 dl =>
  obtain ⟨tl, htl⟩ := due_head hq
  have hg : g0 (startsP pts) 0 = l0 := by rw [htl]; rfl
  have hs : l0 ∈ startsP pts := by rw [htl]; exact List.mem_cons_self
  obtain ⟨mi, xs, wr, hp⟩ := h.rel.find hs
  obtain ⟨FJ, hJ, h2⟩ := h.perm hp
  have hmi : mi ∈ FJ := by rw [h2.im.1]; exact List.mem_cons_self
  have hxl : xs.length = (rowsP pts l0).length := h2.rel.rlen (x := (l0, mi, xs)) List.mem_cons_self
  have hrl := rowsP_len pts l0
  rw [hg]
  refine (clo_yes tb mo width windows rows seq mark l0 mi xs wr w h2.blk h2.out hW (h2.oks hps) (by have := h2.wl hpl; omega) h2.tbo dl (by rw [h2.rel.due]; exact hq) (h2.im.2.2 _ List.mem_cons_self) FB (h2.ev.sub fun y hy => allR_mem (x := (l0, mi, xs)) List.mem_cons_self hy) (fun x hx => (h2.ok _ List.mem_cons_self x hx).2.1) (by omega) (fun e => h2.tbI (e ▸ hmi)) (fun e => h2.moI (e ▸ hmi)) h2.tbB h2.moB (h2.iB mi hmi) hsq).mono fun e w' ⟨zs, A', c', F', G', e1, e2, e3, e4, e5, e6, e7, e8, e9, e10, e11, e12⟩ => ?_
  have hr := h2.rel.rows _ List.mem_cons_self
  refine ⟨zs, A', c', F', G', tb :: mo :: (wr.map (·.2.1) ++ FB), e1, rows_eq (e2.trans hr) (by unfold rws; rw [List.pairwise_map]; exact e3), e4, e5, e6, e7, e8, e9, fun x hx => ?_, ⟨mo, _, FB, wr, fun y => by simp, h2.clo e12 e10 e11 h2.rel.clo⟩, fun y hy => ?_, e12.only fun y hy => .inl ?_⟩
  ·
   have hm : x.1 ∈ rws xs := e2.mem_iff.1 (List.mem_map.2 ⟨x, hx, rfl⟩)
   obtain ⟨r, hr1, hr2⟩ := List.mem_map.1 hm
   rw [← hr2]
   exact h2.ok _ List.mem_cons_self r hr1
  ·
   rcases List.mem_cons.1 hy with rfl | hy
   ·
    exact (hF _).2 (.inl rfl)
   rcases List.mem_cons.1 hy with rfl | hy
   ·
    exact (hF _).2 (.inr (.inl rfl))
   rcases List.mem_append.1 hy with hy | hy
   ·
    exact (hF _).2 (.inr (.inr (.inl ((hJ y).1 (by rw [h2.im.1]; exact List.mem_cons_of_mem _ hy)))))
   ·
    exact (hF _).2 (.inr (.inr (.inr hy)))
  ·
   rcases List.mem_cons.1 hy with rfl | hy
   ·
    exact (hF _).2 (.inl rfl)
   ·
    rw [List.mem_singleton.1 hy]
    exact (hF _).2 (.inr (.inl rfl))
end Go.Proofs.YtdhonbahpcmmnaaGreatDoor.Bat
end
section
set_option linter.unusedVariables false
set_option linter.unusedSimpArgs false
namespace Go.Proofs.YtdhonbahpcmmnaaGreatDoor.Bat
open Go Go.RowKit Go.Proofs.YtdhonbahpcmmnaaGreatDoor Go.Proofs.YtdhonbahpcmmnaaGreatDoor.Eng Go.Proofs.YtdhonbahpcmmnaaGreatDoorW.PrintWords
open Go.Proofs Go.Maps
open Go.Proofs.YtdhonbahpcmmnaaGreatDoor.Line
def DT (w : World) (F : List Nat) (m : Nat) (width windows rows seq : Int) (pts : List Pn) : Prop :=
 ∃ AL cL FP, (∀ y, y ∈ F ↔ y = m ∨ y ∈ FP) ∧ Blk w m #[.int .i64 width, .int .i64 windows, .int .i64 rows, .int .i64 seq, .slice AL pts.length cL] 59 ∧ VX cP 4 w FP AL pts ∧ m ∉ FP
theorem DT.lt {w : World} {F : List Nat} {m : Nat} {width windows rows seq : Int} {pts : List Pn} (h : DT w F m width windows rows seq pts) : ∀ y ∈ F, y < w.heap.size := by
 obtain ⟨AL, cL, FP, hF, hB, hP, hn⟩ := h
 intro y hy
 rcases (hF y).1 hy with rfl | h1
 ·
  exact hB.lt
 ·
  exact hP.lt y h1
theorem DT.keep {w w1 : World} {S F : List Nat} {m : Nat} {width windows rows seq : Int} {pts : List Pn} (h : DT w F m width windows rows seq pts) (k : Fr S w w1) (hn : ∀ y ∈ F, y ∉ S) : DT w1 F m width windows rows seq pts := by
 obtain ⟨AL, cL, FP, hF, hB, hP, hm⟩ := h
 exact ⟨AL, cL, FP, hF, hB.keep k (hn _ ((hF _).2 (.inl rfl))), hP.keep k (fun y hy => hn _ ((hF _).2 (.inr hy))), hm⟩
theorem DT.new {w : World} {m : Nat} {width windows rows seq : Int} (h : Blk w m #[.int .i64 width, .int .i64 windows, .int .i64 rows, .int .i64 seq, .slice none 0 0] 59) : DT w [m] m width windows rows seq [] :=
 ⟨none, 0, [], fun y => by simp, h, VX.nil w none, nin0 _⟩
def PtsOk (pts : List Pn) : Prop := pts.length ≤ 100000 ∧ ∀ p ∈ pts, (0 ≤ p.start ∧ p.start ≤ 1099511627776) ∧ I64 p.value
theorem PtsOk.ps {pts : List Pn} (h : PtsOk pts) : ∀ s ∈ startsP pts, 0 ≤ s ∧ s ≤ 1099511627776 := by
 intro s hs
 obtain ⟨p, hp, rfl⟩ := (starts_mem pts s).1 hs
 exact (h.2 p hp).1
theorem PtsOk.left {pts : List Pn} (h : PtsOk pts) (s : Int) : PtsOk (leftP pts s) := ⟨Nat.le_trans (leftP_len pts s) h.1, fun p hp => h.2 p (List.mem_filter.1 hp).1⟩
instance (windows rows : Int) (pts : List Pn) (st : Int) (key : L) (kind : Int) : Decidable (FullP windows rows pts st key kind) := by unfold FullP; exact inferInstance
def okA (key : L) (kind time : Int) : Prop := (ofE key).isSome = true ∧ (1 ≤ kind ∧ kind ≤ 3) ∧ (0 ≤ time ∧ time ≤ 1099511627776)
instance (key : L) (kind time : Int) : Decidable (okA key kind time) := by unfold okA; exact inferInstance
def addK (width windows rows mark : Int) (pts : List Pn) (key : L) (kind time : Int) : Int :=
 if ¬ okA key kind time then 1 else if (time - time % width) + width ≤ mark then 8 else if FullP windows rows pts (time - time % width) key kind then 6 else 0
def stepP (width windows rows mark : Int) (pts : List Pn) (key : L) (kind value time : Int) : List Pn :=
 if addK width windows rows mark pts key kind time = 0 then pts ++ [⟨time - time % width, key, kind, value⟩] else pts
def errK (k : Int) : Value := if k = 0 then .nilIface else .iface 32 (.int .i64 k)
theorem stepP_ok {width windows rows mark : Int} {pts : List Pn} {key : L} {kind value time : Int} (h : PtsOk pts) (hl : pts.length ≤ 99999) (hW : 1 ≤ width ∧ width ≤ 1099511627776) (hv : I64 value) : PtsOk (stepP width windows rows mark pts key kind value time) := by
 unfold stepP
 split
 ·
  rename_i hk
  have ho : okA key kind time := by
   unfold addK at hk
   split at hk
   ·
    cases hk
   ·
    rename_i h2
    exact Decidable.not_not.1 h2
  refine ⟨by rw [List.length_append]; simp only [List.length_cons, List.length_nil]; omega, fun p hp => ?_⟩
  rcases List.mem_append.1 hp with hp | hp
  ·
   exact h.2 p hp
  ·
   rw [List.mem_singleton.1 hp]
   exact ⟨st_in ho.2.2 hW rfl, hv⟩
 ·
  exact h
variable {w : World} {F : List Nat} {tb m : Nat} {width windows rows seq : Int} {pts : List Pn}
theorem tb_any (mark : Int) (key : L) (kind value time : Int) (HT : TB w F tb width windows rows seq pts) (hW : 1 ≤ width ∧ width ≤ 1099511627776) (hkey : key.length ≤ 100000) (hv : I64 value) (hp : PtsOk pts) (hr1 : 1 ≤ rows)
  (HS : VarI w "strconv.ErrSyntax") (HR : VarI w "strconv.ErrRange") (HTab : Lib.TabIs Tryz.prog w "internal/strconv.uint64pow10" .u64 Lib.pow10Tab) (HM : MaxI w) :
  Calls Tryz.prog 20 #[.pointer (some ⟨tb, 0, none⟩), .int .i64 mark, .string (str key), .int .i64 kind, .int .i64 value, .int .i64 time] w fun e w' =>
   e = .returned (errK (addK width windows rows mark pts key kind time)) ∧ ∃ F', TB w' F' tb width windows rows seq (stepP width windows rows mark pts key kind value time) ∧ (∀ y ∈ F', y ∈ F ∨ w.heap.size ≤ y) ∧ Fr F w w' := by
 have stay : ∀ {w' : World}, Fr [] w w' → addK width windows rows mark pts key kind time ≠ 0 → ∃ F', TB w' F' tb width windows rows seq (stepP width windows rows mark pts key kind value time) ∧ (∀ y ∈ F', y ∈ F ∨ w.heap.size ≤ y) ∧ Fr F w w' := fun hf hk => by
  unfold stepP
  rw [if_neg hk]
  exact ⟨F, HT.keep hf (fun _ _ => nin0 _), fun y hy => .inl hy, hf.only fun y hy => absurd hy List.not_mem_nil⟩
 by_cases ho : okA key kind time
 ·
  by_cases hl : (time - time % width) + width ≤ mark
  ·
   have hk : addK width windows rows mark pts key kind time = 8 := by unfold addK; rw [if_neg (not_not_intro ho), if_pos hl]
   rw [hk] at stay ⊢
   exact (tb_late mark key kind value time _ HT hW hkey ho.1 ho.2.1 ho.2.2 rfl hl HS HR HTab HM).mono fun e w' ⟨e1, e2⟩ => ⟨e1, stay e2 (by decide)⟩
  ·
   refine (tb_add mark key kind value time _ HT hW hkey ho.1 ho.2.1 ho.2.2 rfl hl hv hp.1 hr1 HS HR HTab HM).mono fun e w' hh => ?_
   rcases hh with ⟨h1, h2, h3⟩ | ⟨h1, h2, F', h3, h4, h5⟩
   ·
    have hk : addK width windows rows mark pts key kind time = 6 := by unfold addK; rw [if_neg (not_not_intro ho), if_neg hl, if_pos h1]
    rw [hk] at stay ⊢
    exact ⟨h2, stay h3 (by decide)⟩
   ·
    have hk : addK width windows rows mark pts key kind time = 0 := by unfold addK; rw [if_neg (not_not_intro ho), if_neg hl, if_neg h1]
    have hs : stepP width windows rows mark pts key kind value time = pts ++ [⟨time - time % width, key, kind, value⟩] := by unfold stepP; rw [if_pos hk]
    rw [hk, hs]
    exact ⟨h2, F', h3, h4, h5⟩
 ·
  have hk : addK width windows rows mark pts key kind time = 1 := by unfold addK; rw [if_pos ho]
  rw [hk] at stay ⊢
  exact (add_bad tb mark key kind value time w hkey ho HS HR HTab HM).mono fun e w' ⟨e1, e2⟩ => ⟨e1, stay e2 (by decide)⟩
end Go.Proofs.YtdhonbahpcmmnaaGreatDoor.Bat
end
section
set_option linter.unusedVariables false
set_option linter.unusedSimpArgs false
namespace Go.Proofs.YtdhonbahpcmmnaaGreatDoor.Bat
open Go Go.RowKit Go.Proofs.YtdhonbahpcmmnaaGreatDoor Go.Proofs.YtdhonbahpcmmnaaGreatDoor.Eng Go.Proofs.YtdhonbahpcmmnaaGreatDoorW.PrintWords
open Go.Proofs Go.Maps
open Go.Proofs.YtdhonbahpcmmnaaGreatDoor.Line
theorem up_k1 : addK 10 1 1 0 [] [97] 1 25 = 0 := by decide
theorem up_s1 : stepP 10 1 1 0 [] [97] 1 5 25 = [⟨20, [97], 1, 5⟩] := by
  unfold stepP
  rw [if_pos up_k1]
  rfl
theorem up_k2 : addK 10 1 1 30 [⟨20, [97], 1, 5⟩] [97] 1 25 = 8 := by decide
theorem up_s2 : stepP 10 1 1 30 [⟨20, [97], 1, 5⟩] [97] 1 5 25 = [⟨20, [97], 1, 5⟩] := by
  unfold stepP
  rw [if_neg (by rw [up_k2]; decide)]
theorem up_ok : PtsOk [⟨20, [97], 1, 5⟩] := ⟨by decide, fun p hp => by
  rw [List.mem_singleton.1 hp]
  exact ⟨by decide, by show I64 5; unfold I64; omega⟩⟩
theorem up_ok0 : PtsOk [] := ⟨by decide, fun p hp => absurd hp List.not_mem_nil⟩
theorem up_rows : (rowsP [⟨20, [97], 1, 5⟩] 20).length = 1 := by rfl
theorem up_g0 : g0 (startsP [⟨20, [97], 1, 5⟩]) 0 = 20 := by rfl
set_option maxRecDepth 100000 in
set_option maxHeartbeats 400000 in
theorem up_f (w : World) (HS : VarI w "strconv.ErrSyntax") (HR : VarI w "strconv.ErrRange") (HTab : Lib.TabIs Tryz.prog w "internal/strconv.uint64pow10" .u64 Lib.pow10Tab) (HM : MaxI w) :
    Calls Tryz.prog 17 #[] w fun e w' => e = .returned (.bool true) ∧ Fr [] w w' := by
 have HA := Fr.refl [] w
 refine Ze Tryz.func17 _ <| Zsg <| Zr 1 <| Zdn <| Zsg <| Zc 10 (tb_new (width := 10) (windows := 1) (rows := 1) (seq := 0) (by decide)) ?_
 rintro _ w1 ⟨tb, FT, rfl, HT, htb, hgT, F2⟩
 refine ⟨_, rfl, trivial, ?_⟩
 have hgTr := fun y hy => Or.inr (a := y ∈ ([] : List Nat)) (hgT y hy)
 have nin_1_FT := grow_nin hgTr (nin0 _) ((var_lt 1 (by kernel_rfl) HS))
 have nin_2_FT := grow_nin hgTr (nin0 _) ((var_lt 2 (by kernel_rfl) HR))
 have nin_3_FT := grow_nin hgTr (nin0 _) ((tab_lt HTab))
 have nin_0_FT := grow_nin hgTr (nin0 _) ((max_lt HM))
 have ge_HA_FT := grow_ge hgTr (by simp) HA.size
 refine Zr 5 <| Zdn <| Zsg <| Zc 14 (new_bad 0 1 1 0 _ (by decide)) ?_
 rintro _ w3 ⟨rfl, F4⟩
 have HS := (HS.k F2).k F4
 have HR := (HR.k F2).k F4
 have HTab := (HTab.k F2).k F4
 have HM := (HM.k F2).k F4
 refine ⟨_, rfl, trivial, Zr 5 <| Zdn <| Zq <| Zsg <| Zr 6 <| Zdn <| ZF <| Zk <| Zsg <| Zr 1 <| Zc 24 (tb_any 0 [97] 1 5 25 (HT.keep F4 dj0) (by decide) (by decide) (by unfold I64; omega) up_ok0 (by decide) HS HR HTab HM) ?_⟩
 rw [up_k1, up_s1]
 rintro _ w5 ⟨rfl, FT7, HT, hsT, F6⟩
 have HA := (HA.step0 F2).step0 F4
 refine ⟨_, rfl, trivial, ?_⟩
 have ge_HA_FT7 := grow_ge hsT ge_HA_FT HA.size
 refine Zr 1 <| Zdn <| Zsg <| Zr 1 <| Zc 26 (tb_any 30 [97] 1 5 25 HT (by decide) (by decide) (by unfold I64; omega) up_ok (by decide) (var_keep 1 (by kernel_rfl) HS F6 nin_1_FT) (var_keep 2 (by kernel_rfl) HR F6 nin_2_FT) (tab_keep HTab F6 nin_3_FT) (max_keep HM F6 nin_0_FT)) ?_
 rw [up_k2, up_s2]
 rintro _ w8 ⟨rfl, FT10, HT, hsT, F9⟩
 have HA := HA.step F6 (inF ge_HA_FT)
 refine ⟨_, rfl, trivial, ?_⟩
 have ge_HA_FT10 := grow_ge hsT ge_HA_FT7 HA.size
 refine Zr 1 <| Zdn <| Zsg <| Zr 1 <| Zc 29 (tb_clo_yes 30 HT (by decide) up_ok.ps (by decide) (by decide) (by decide)) ?_
 rintro _ w11 ⟨zs, Az, cz, Fz, Gz, FT13, rfl, hzr, HVz, HEz, hcz, hgz, hgz2, hdz, hokz, HT, hsT, F12⟩
 refine ⟨_, rfl, trivial, ?_⟩
 rw [up_g0] at hzr
 have hzl_ : zs.length = 1 := by rw [← rws_len, hzr]; exact up_rows
 have hsTr := fun y hy => Or.inl (b := (World.heap w8).size ≤ y) (hsT y hy)
 refine Zr 3 <| Zb 7 #[J 0, J 0, .slice none 0 0] 24 (fun g => Pt g 0) ?_
 intro g14 w15 HB17 F16 le18 _
 have nin_g14_FT13 := new_nin HT.lt le18
 have HA := (HA.step F9 (inF ge_HA_FT7)).step F12 (inF ge_HA_FT10)
 have ge_HA_g14 := Nat.le_trans HA.size le18
 refine Zst g14 0 #[J 0, J 20, .slice Az zs.length cz] HB17 ?_
 intro w19 HB21 F20 _
 refine Zr 1 <| Zdn <| Zsg <| Zr 17 <| Zl 49 (J 20) (HB21.s 1) <| Zr 4 <| Zl 54 (.slice Az zs.length cz) (HB21.s 2) <| Zr 1 <| ZoPT 56 (((zs.length : Int) : Int) = (1 : Int)) (by omega) <| Zr 3 <| Zcf 60 (tb_seq ((HT.keep F16 dj0).keep F20 (djB nin_g14_FT13))) ?_
 intro w22 F23
 refine Zr 3 <| Zdn <| WE.ret <| ZR (.bool true) ?_
 exact ⟨by first | rfl | (simp [hzl_]), (((HA.step0 F16).step F20 (inSR ge_HA_g14 inS0)).step0 F23)⟩
end Go.Proofs.YtdhonbahpcmmnaaGreatDoor.Bat
end
