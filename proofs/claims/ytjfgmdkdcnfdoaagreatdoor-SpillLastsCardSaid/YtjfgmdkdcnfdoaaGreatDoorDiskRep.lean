/- Slices of one's own that may begin within their block: what is dropped from the front stays behind. -/
import Derived.Test.YtjfgmdkdcnfdoaaGreatDoorSep
import Derived.Deep.AppendSrc
import Derived.Test.YtjfgmdkdcnfdoaaGreatDoorProg
section
set_option linter.unusedVariables false
namespace Go.Proofs.YtjfgmdkdcnfdoaaGreatDoor.Eng.Sep
open Go Go.Proofs.YtjfgmdkdcnfdoaaGreatDoor Go.Proofs.YtjfgmdkdcnfdoaaGreatDoor.Eng
def OwnY (T : TypeId) (size : Nat) (w : World) (F : List Nat) (v : Value) (xs : List (List Value)) : Prop :=
 (F = [] ∧ v = .slice none 0 0 ∧ xs = []) ∨ ∃ b cap c pre, F = [b] ∧ v = .slice (some ⟨b, pre.length * size, none⟩) xs.length c ∧ xs.length ≤ c ∧ pre.length + c ≤ cap ∧ RowB w b T size cap (pre ++ xs)
section
variable {T : TypeId} {size : Nat} {w w1 : World} {F S : List Nat} {v : Value} {xs : List (List Value)}
theorem OwnY.of (h : OwnX T size w F v xs) : OwnY T size w F v xs := h.imp id fun ⟨b, cap, h1, h2, h3⟩ => ⟨b, cap, cap, [], h1, by simpa using h2, h3.le, by simp, h3⟩
theorem OwnY.nil (T : TypeId) (size : Nat) (w : World) : OwnY T size w [] (.slice none 0 0) [] := .inl ⟨rfl, rfl, rfl⟩
theorem OwnY.keep (h : OwnY T size w F v xs) (k : Fr S w w1) (hn : ∀ y ∈ F, y ∉ S) : OwnY T size w1 F v xs := by
 rcases h with h | ⟨b, cap, c, pre, rfl, h2, h3, h4, h5⟩
 ·
  exact .inl h
 ·
  exact .inr ⟨b, cap, c, pre, rfl, h2, h3, h4, h5.keep k (hn b (List.mem_singleton.2 rfl))⟩
theorem OwnY.lt (h : OwnY T size w F v xs) : ∀ y ∈ F, y < w.heap.size := by
 rcases h with ⟨rfl, _⟩ | ⟨b, cap, c, pre, rfl, h2, h3, h4, h5⟩
 ·
  exact fun y hy => (List.not_mem_nil hy).elim
 ·
  intro y hy
  rw [List.mem_singleton.1 hy]
  exact h5.lt
theorem OwnY.sliceN {n : Nat} (h : OwnY T size w F v xs) (hn : xs.length = n) : ∃ A c, v = .slice A n c ∧ n ≤ c := by
 subst hn
 rcases h with ⟨_, rfl, rfl⟩ | ⟨b, cap, c, pre, _, rfl, h3, _, _⟩
 ·
  exact ⟨none, 0, rfl, Nat.le_refl _⟩
 ·
  exact ⟨_, c, rfl, h3⟩
theorem OwnY.view {α : Type} {cE : α → List Value} {q : List α} {A : Option Addr} {n c : Nat} (h : OwnY T size w F (.slice A n c) (q.map cE)) : VX cE size w F A q := by
 refine ⟨h.lt, fun hp => ?_⟩
 rcases h with ⟨_, _, h⟩ | ⟨b, cap, c', pre, rfl, h2, h3, h4, h5⟩
 ·
  rw [List.map_eq_nil_iff] at h
  subst h
  simp at hp
 ·
  injection h2 with h2 _ _
  subst h2
  refine ⟨_, rfl, List.mem_singleton.2 rfl, fun i x hx j u hu => ?_⟩
  have hi := (List.getElem?_eq_some_iff.1 hx).1
  have hxm : cE x ∈ pre ++ q.map cE := List.mem_append_right _ (List.mem_map.2 ⟨x, List.mem_of_getElem? hx, rfl⟩)
  have hj : j < size := by rw [← h5.len _ hxm]; exact (List.getElem?_eq_some_iff.1 hu).1
  have hc := h5.cell (pre.length + i) j (by rw [List.length_append, List.length_map]; omega) hj
  rw [add_blk, ← Nat.add_assoc, ← Nat.add_mul, hc]
  rw [List.getD_eq_getElem?_getD, List.getElem?_append_right (by omega), Nat.add_sub_cancel_left, List.getElem?_map, hx]
  exact hu
theorem OwnY.drop {A : Option Addr} {n c : Nat} (h : OwnY T size w F (.slice A n c) xs) (hn : xs.length = n) (k : Nat) (hk : k ≤ n) : OwnY T size w F (.slice (if c = k then A else A.map (·.add (k * size))) (n - k) (c - k)) (xs.drop k) := by
 subst hn
 rcases h with ⟨rfl, h2, rfl⟩ | ⟨b, cap, c', pre, rfl, h2, h3, h4, h5⟩
 ·
  injection h2 with h2 _ h3
  subst h2 h3
  simp only [List.length_nil, Nat.le_zero_eq] at hk
  subst hk
  exact .inl ⟨rfl, by simp, by simp⟩
 ·
  injection h2 with h2 _ h6
  subst h2 h6
  by_cases he : c = k
  ·
   rw [if_pos he]
   have hx : xs.drop k = [] := List.drop_eq_nil_iff.2 (by omega)
   refine .inr ⟨b, cap, c - k, pre, rfl, by rw [hx]; simp; omega, by rw [hx]; simp, by omega, ?_⟩
   rw [hx, List.append_nil]
   have := h5.take pre.length
   rwa [List.take_left] at this
  ·
   rw [if_neg he]
   refine .inr ⟨b, cap, c - k, pre ++ xs.take k, rfl, ?_, by rw [List.length_drop]; omega, by rw [List.length_append, List.length_take]; omega, by rw [List.append_assoc, List.take_append_drop]; exact h5⟩
   rw [List.length_drop, List.length_append, List.length_take, Nat.min_eq_left hk, Nat.add_mul]
   simp [add_blk]
end
theorem blk_setCells {b : Nat} {T : TypeId} : ∀ (vs : List Value) (o : Nat) (cs : Array Value) (w : World), Blk w b cs T → Blk (w.setCells b o vs) b (splice cs o vs) T
 | [], _, _, _, h => h
 | v :: vs, o, cs, w, h => blk_setCells vs (o + 1) _ _ (Blk.put h o v rfl)
theorem fr_setCells {b : Nat} : ∀ (vs : List Value) (o : Nat) (w : World), Fr [b] w (w.setCells b o vs)
 | [], _, w => Fr.refl _ _
 | v :: vs, o, w => ((Fr.refl [b] w).set (.inl (by simp)) o v).trans (fr_setCells vs (o + 1) _)
section
variable {P : Program} {ι : Type} {ops : Array Oper} {N : Nat} {S : ι → Act → World → Prop} {R : World → World → Prop} {x y : ι} {o : Oper} {e : Env} {w : World}
theorem WO.appRun (hT : TkE P ops R S x o y) (d : Nat) {t : TypeId} {v xv v' : Value} {w' : World} (h : appAt ops N e o = some (t, v, xv, some d)) (hr : ∀ ty, (Builtin.append_ #[t, t] ty #[v, xv]).run P w = .ok v' w') (hR : R w w') (k : WO S N y ((d, v') :: e) w') : WO S N x e w := by
 unfold appAt at h
 cases ho : onB ops N e o with
 | false => rw [ho] at h; cases h
 | true =>
  rw [ho] at h
  simp only [cond_true] at h
  split at h
  ·
   rename_i s z t' u' hop
   cases hb : Nat.beq t' u' with
   | false => rw [hb] at h; cases h
   | true =>
    rw [hb] at h
    have := Nat.eq_of_beq_eq_true hb
    subst this
    simp only [cond_true, Option.some.injEq, Prod.mk.injEq] at h
    obtain ⟨rfl, rfl, rfl, hd⟩ := h
    refine WO.on hT ho fun a ha h3 h4 hcv Q => ?_
    have hev : ∀ z ∈ o.op.operands, a.eval z = ev e z := fun z hz => by
     unfold cov at hcv
     rw [Bool.and_eq_true] at hcv
     have := List.all_eq_true.1 hcv.2 z (by simpa using hz)
     cases z with
     | tmp t => exact ha.get t this
     | _ => rfl
    have hs := hev s (by simp [hop, Op.operands, Call.operands])
    have hx := hev z (by simp [hop, Op.operands, Call.operands])
    have hp := ha.put o.dst v' h4
    unfold Oper.wp execOp
    simp only [hop, resolve, invoke, builtin, Sem.run_bind, Sem.run_pure, Result.andThen_ok, List.map_toArray, List.map_cons, List.map_nil, hs, hx, hr]
    rw [hd] at hp
    have hk := k _ hp
    rw [← hd] at hk
    exact ⟨hR, hk⟩
  ·
   cases h
theorem src_cells {size m : Nat} {xv : Value} {news : List Value} {tx e' : TypeId} (hk : P.underlying tx = some (.slice e')) (h : Go.Proofs.YtjfgmdkdcnfdoaaGreatDoor.Src w xv m news size) (hp : 0 < m) : Go.Src P size tx xv m news w := by
 obtain ⟨A, c, rfl, hl, hc, h1⟩ := h
 obtain ⟨ad, rfl, hcell⟩ := hc hp
 exact Go.Src.ofSlice w hk ad m c news hl hcell h1
theorem WO.appY (hT : TkE P ops R S x o y) (d : Nat) {t : TypeId} {v xv : Value} {el : TypeId} {size bytes m : Nat} {F : List Nat} {xs ys : List (List Value)} (E : ET P t el size bytes) (hx : OwnY el size w F v xs) (hm : ys.length = m) (hp : 0 < m) (hsrc : Go.Proofs.YtjfgmdkdcnfdoaaGreatDoor.Src w xv m ys.flatten size) (hl : ∀ x ∈ ys, x.length = size) (h1 : ∀ x ∈ ys, x.all oneB = true)
  (h : appAt ops N e o = some (t, v, xv, some d)) (hbytes : (xs.length + m) * bytes ≤ 140737488355328) (hnm : xs.length + m ≤ 140737488355328) (hR : ∀ w', Fr F w w' → R w w')
  (kk : ∀ v' w' F', OwnY el size w' F' v' (xs ++ ys) → Fr F w w' → (∀ y ∈ F', y ∈ F ∨ w.heap.size ≤ y) → WO S N y ((d, v') :: e) w') : WO S N x e w := by
 rcases hx with h0 | ⟨b, cap, c, pre, rfl, rfl, h3, h4, h5⟩
 ·
  exact WO.appX hT d E (.inl h0) hm hsrc hl h1 h hbytes hnm hR fun v' w' F' hO hF hn => kk v' w' F' (OwnY.of hO) hF hn
 ·
  subst hm
  obtain ⟨i, z, hi, hz, hsz, hb, hzs⟩ := E.hi
  subst hsz
  have hS := src_cells (tx := t) E.ht hsrc hp
  obtain ⟨cur, h6, h7, h8⟩ := h5.cur
  have hlx : ∀ x ∈ xs, x.length = i.size := fun x hx => h5.len x (List.mem_append_right _ hx)
  have hox : ∀ x ∈ xs, x.all oneB = true := fun x hx => h5.one x (List.mem_append_right _ hx)
  have hfy := flat_len ys hl
  by_cases hroom : xs.length + ys.length ≤ c
  ·
   have hle : (pre.length + xs.length + ys.length) * i.size ≤ cap * i.size := Nat.mul_le_mul_right _ (by omega)
   have hoff : pre.length * i.size + xs.length * i.size + ys.flatten.length ≤ cur.size := by
    rw [hfy, h7, ← Nat.add_mul, ← Nat.add_mul]
    exact hle
   have hr := fun ty => run_append_room_src w t t ty el i E.ht hi b (pre.length * i.size) xs.length c xv ys.length ys.flatten hS hroom
    (fun j hj => by rw [h6.cell, Array.getElem?_eq_getElem (by omega)]; rfl) (fun j hj => h6.frozen _)
   have hB := blk_setCells ys.flatten (pre.length * i.size + xs.length * i.size) cur w h6
   have hF := fr_setCells (b := b) ys.flatten (pre.length * i.size + xs.length * i.size) w
   have hall : ∀ x ∈ pre ++ (xs ++ ys), x.length = i.size := fun x hx => by
    rcases List.mem_append.1 hx with hx | hx
    ·
     exact h5.len x (List.mem_append_left _ hx)
    ·
     exact (List.mem_append.1 hx).elim (hlx x) (hl x)
   refine WO.appRun hT d h hr (hR _ hF) (kk _ _ [b] (.inr ⟨b, cap, c, pre, rfl, by rw [List.length_append], by rw [List.length_append]; exact hroom, h4, ⟨⟨_, hB, by rw [size_splice]; exact h7, ?_⟩, hall, fun x hx => ?_, by rw [List.length_append, List.length_append]; omega, h5.cap⟩⟩) hF (fun y hy => .inl hy))
   ·
    rw [← List.append_assoc, List.flatten_append, ← h8]
    have hpx : (pre ++ xs).length * i.size = pre.length * i.size + xs.length * i.size := by rw [List.length_append, Nat.add_mul]
    refine List.ext_getElem? fun k => ?_
    rw [List.getElem?_take, Array.getElem?_toList, splice_at _ _ _ _ hoff]
    have ht : (cur.toList.take ((pre ++ xs).length * i.size)).length = pre.length * i.size + xs.length * i.size := by
     have hcs : cur.toList.length = cur.size := Array.length_toList
     rw [List.length_take, hpx]
     omega
    have htot : (pre ++ xs ++ ys).length * i.size = pre.length * i.size + xs.length * i.size + ys.flatten.length := by
     rw [List.length_append, Nat.add_mul, hpx, hfy]
    rw [htot]
    by_cases hk : k < pre.length * i.size + xs.length * i.size
    ·
     rw [if_pos (by omega), if_neg (by omega), List.getElem?_append_left (by rw [ht]; exact hk), List.getElem?_take, if_pos (by rw [hpx]; exact hk), Array.getElem?_toList]
    ·
     rw [List.getElem?_append_right (by rw [ht]; omega), ht]
     by_cases hk2 : k < pre.length * i.size + xs.length * i.size + ys.flatten.length
     ·
      rw [if_pos hk2, if_pos (by omega)]
     ·
      rw [if_neg hk2, List.getElem?_eq_none (by omega)]
   ·
    rcases List.mem_append.1 hx with hx | hx
    ·
     exact h5.one x (List.mem_append_left _ hx)
    ·
     exact (List.mem_append.1 hx).elim (hox x) (h1 x)
  ·
   have hold : (Builtin.firstCells i.size xs.length (.slice (some ⟨b, pre.length * i.size, none⟩) xs.length c)).run P w.drew = .ok xs.flatten.toArray w.drew := by
    refine run_firstCells_some w.drew i.size xs.length _ xs.length c xs.flatten (flat_len xs hlx) fun j u hu => ?_
    have hj := (List.getElem?_eq_some_iff.1 hu).1
    rw [flat_len xs hlx] at hj
    have hs0 := E.pos
    obtain ⟨k, r, hq, hk', hr'⟩ : ∃ k r, j = k * i.size + r ∧ k < xs.length ∧ r < i.size := ⟨j / i.size, j % i.size, by rw [Nat.mul_comm]; exact (Nat.div_add_mod j i.size).symm, (Nat.div_lt_iff_lt_mul hs0).2 hj, Nat.mod_lt _ hs0⟩
    subst hq
    have hc := h5.cell (pre.length + k) r (by rw [List.length_append]; omega) hr'
    show w.cell? _ = _
    rw [add_blk, show pre.length * i.size + (k * i.size + r) = (pre.length + k) * i.size + r by rw [Nat.add_mul]; omega, hc, ← hu]
    rw [flat_at xs k r hlx hk' hr', List.getD_eq_getElem?_getD, List.getElem?_append_right (by omega), Nat.add_sub_cancel_left, ← List.getD_eq_getElem?_getD]
   have hcl : c ≤ 9223372036854775807 := by have := h5.cap; omega
   have hg : c < xs.length + ys.length := by omega
   have hr := fun ty => run_append_grow_src w t t ty el i z E.ht hi hz (some ⟨b, pre.length * i.size, none⟩) xs.length c xs.flatten hold xv ys.length ys.flatten hS hg (by omega) (by rw [hb]; exact growslice_fits hg hbytes)
   have hF : Fr [] w (w.drew.alloc (.cells ((xs.flatten ++ ys.flatten).toArray ++ Builtin.zeroCells z.cells (grownCap w (xs.length + ys.length) c el - (xs.length + ys.length))) el)) := ((Fr.refl [] w).drew).alloc _
   have hB : Blk (w.drew.alloc (.cells ((xs.flatten ++ ys.flatten).toArray ++ Builtin.zeroCells z.cells (grownCap w (xs.length + ys.length) c el - (xs.length + ys.length))) el)) w.heap.size ((xs.flatten ++ ys.flatten).toArray ++ Builtin.zeroCells z.cells (grownCap w (xs.length + ys.length) c el - (xs.length + ys.length))) el := Blk.new w.drew _ el
   have hge := grownCap_ge w (xs.length + ys.length) c el
   have hall : ∀ x ∈ xs ++ ys, x.length = i.size := fun x hx => (List.mem_append.1 hx).elim (hlx x) (hl x)
   have hft : (xs.flatten ++ ys.flatten).length = (xs.length + ys.length) * i.size := by rw [List.length_append, flat_len xs hlx, hfy, Nat.add_mul]
   have hF2 : Fr [b] w _ := hF.only fun y hy => absurd hy List.not_mem_nil
   refine WO.appRun hT d h hr (hR _ hF2) (kk _ _ [w.heap.size] (.inr ⟨w.heap.size, grownCap w (xs.length + ys.length) c el, grownCap w (xs.length + ys.length) c el, [], rfl, by simp, by rw [List.length_append]; exact hge, by simp, ⟨⟨_, hB, ?_, ?_⟩, hall, fun x hx => (List.mem_append.1 (show x ∈ xs ++ ys from hx)).elim (hox x) (h1 x), by rw [List.nil_append, List.length_append]; exact hge, ?_⟩⟩) hF2 (fun y hy => .inr (by rw [List.mem_singleton.1 hy]; exact Nat.le_refl _)))
   ·
    rw [Array.size_append, List.size_toArray, hft]
    have hz2 : (Builtin.zeroCells z.cells (grownCap w (xs.length + ys.length) c el - (xs.length + ys.length))).size = (grownCap w (xs.length + ys.length) c el - (xs.length + ys.length)) * i.size := by simp [Builtin.zeroCells, hzs]
    rw [hz2, ← Nat.add_mul]
    congr 1
    omega
   ·
    rw [List.nil_append, Array.toList_append, List.flatten_append, List.length_append, ← hft, List.take_left']
    simp
   ·
    have := grownCap_le_maxLen w (xs.length + ys.length) c el (by unfold maxLen; omega)
    unfold maxLen at this
    exact this
end
def rY (T : TypeId) (size : Nat) (v : Value) (xs : List (List Value)) : Res where
 P F w := OwnY T size w F v xs
 lt h := h.lt
 keep h k hn := h.keep k hn
 b := none
 hb e := by cases e
theorem one_of {xu : List RF} {r : Res} (h : xu.map (·.1) = [r]) : ∃ F, xu = [(r, F)] := by
 cases xu with
 | nil => cases h
 | cons x l =>
  simp only [List.map_cons, List.cons.injEq, List.map_eq_nil_iff] at h
  exact ⟨x.2, by rw [h.2, ← h.1]⟩
theorem two_of {xu : List RF} {r s : Res} (h : xu.map (·.1) = [r, s]) : ∃ F G, xu = [(r, F), (s, G)] := by
 cases xu with
 | nil => cases h
 | cons x l =>
  simp only [List.map_cons, List.cons.injEq] at h
  obtain ⟨G, rfl⟩ := one_of h.2
  exact ⟨x.2, G, by rw [← h.1]⟩
theorem Up.one {w : World} {r : Res} {F : List Nat} (h : Up w [(r, F)]) : r.P F w := h.p (r, F) (List.mem_singleton.2 rfl)
theorem Up.of {w : World} {r : Res} {F : List Nat} (h : r.P F w) : Up w [(r, F)] := ⟨fun x hx => by rw [List.mem_singleton.1 hx]; exact h, List.pairwise_singleton _ _⟩
theorem foot_one {r : Res} {F : List Nat} {y : Nat} : y ∈ foot [(r, F)] ↔ y ∈ F := by
 rw [mem_foot]
 simp
section
variable {T : List Nat} {w0 w : World} {ms fs : List Res}
theorem St.upd (H : St T w0 ms fs w) (i : Nat) (r : Res) {rest : List Res} (hp : Sep.pick ms [i] = some ([r], rest)) : ∃ F, r.P F w ∧ ∀ (w' : World) (F' : List Nat) (r' : Res), r'.P F' w' → Fr F w w' → (∀ y ∈ F', y ∈ F ∨ w.heap.size ≤ y) → St T w0 (r' :: rest) fs w' := by
 obtain ⟨⟨xm, xf, rfl, rfl, h3, h4⟩, hf⟩ := H
 obtain ⟨xa, xb, h5, rfl, h7⟩ := pick_map _ [i] xm hp
 obtain ⟨F, rfl⟩ := one_of h5
 have hU : Up w ([(r, F)] ++ (xb ++ xf)) := h3.perm (by rw [← List.append_assoc]; exact h7.append_right _)
 refine ⟨F, hU.left.one, fun w' F' r' hP k hn => ⟨⟨(r', F') :: xb, xf, rfl, rfl, ?_, fun y hy => ?_⟩, hf.step k fun y hy => h4 y ((foot_perm h7).1 (foot_app.2 (.inl (foot_one.2 hy))))⟩⟩
 ·
  exact hU.frame (o := [(r', F')]) (Up.of hP) (k.only fun y hy => .inl (foot_one.2 hy)) fun y hy => (hn y (foot_one.1 hy)).imp foot_one.2 id
 ·
  rcases foot_app.1 (show y ∈ foot ([(r', F')] ++ xb) from hy) with hy | hy
  ·
   rcases hn y (foot_one.1 hy) with h | h
   ·
    exact h4 y ((foot_perm h7).1 (foot_app.2 (.inl (foot_one.2 h))))
   ·
    exact .inr (Nat.le_trans hf.size h)
  ·
   exact h4 y ((foot_perm h7).1 (foot_app.2 (.inr hy)))
theorem St.new (H : St T w0 ms fs w) {w' : World} {F' : List Nat} (r' : Res) (hP : r'.P F' w') (k : Fr [] w w') (hn : ∀ y ∈ F', w.heap.size ≤ y) : St T w0 (r' :: ms) fs w' := by
 obtain ⟨⟨xm, xf, rfl, rfl, h3, h4⟩, hf⟩ := H
 refine ⟨⟨(r', F') :: xm, xf, rfl, rfl, ?_, fun y hy => ?_⟩, hf.step k (by simp)⟩
 ·
  exact Up.frame (a := []) (b := xm ++ xf) (o := [(r', F')]) h3 (Up.of hP) k fun y hy => .inr (hn y (foot_one.1 hy))
 ·
  rcases foot_app.1 (show y ∈ foot ([(r', F')] ++ xm) from hy) with hy | hy
  ·
   exact .inr (Nat.le_trans hf.size (hn y (foot_one.1 hy)))
  ·
   exact h4 y hy
theorem St.yaddr {α : Type} (H : St T w0 ms fs w) (i : Nat) (cE : α → List Value) (T' : TypeId) (size : Nat) (A : Option Addr) (n c : Nat) (q : List α) {k : Nat} (hk : k < q.length) (h : (ms ++ fs)[i]? = some (rY T' size (.slice A n c) (q.map cE)) := by kernel_rfl) : ∃ ad, A = some ad := by
 obtain ⟨F, hV⟩ := H.at i _ h
 exact (OwnY.view hV).addr hk
theorem St.ycell0 {α : Type} (H : St T w0 ms fs w) (i : Nat) (cE : α → List Value) (T' : TypeId) (size : Nat) (A : Option Addr) (n c : Nat) (q : List α) {ad : Addr} (hA : A = some ad) {k : Nat} {x : α} (hx : q[k]? = some x) {u : Value} (hu : (cE x)[0]? = some u := by kernel_rfl) (h : (ms ++ fs)[i]? = some (rY T' size (.slice A n c) (q.map cE)) := by kernel_rfl) : ∀ w', Same w w' → w'.cell? (ad.add (k * size)) = some u := by
 obtain ⟨F, hV⟩ := H.at i _ h
 exact same ((OwnY.view hV).at0 hA hx hu)
theorem Ent.ydrop (T : TypeId) (size : Nat) (A : Option Addr) (n c : Nat) (xs : List (List Value)) (hn : xs.length = n) (k : Nat) (hk : k ≤ n) : Ent [rY T size (.slice A n c) xs] [rY T size (.slice (if c = k then A else A.map (·.add (k * size))) (n - k) (c - k)) (xs.drop k)] := fun w xu h hU => by
 obtain ⟨F, rfl⟩ := one_of h
 exact ⟨[(_, F)], rfl, Up.of (r := rY ..) (OwnY.drop hU.one hn k hk), fun y hy => foot_one.2 (foot_one.1 hy)⟩
theorem Ent.yv {α : Type} (cE : α → List Value) (T : TypeId) (size : Nat) (A : Option Addr) (n c : Nat) (q : List α) : Ent [rY T size (.slice A n c) (q.map cE)] [rV cE size A q] := fun w xu h hU => by
 obtain ⟨F, rfl⟩ := one_of h
 exact ⟨[(_, F)], rfl, Up.of (r := rV ..) (OwnY.view hU.one), fun y hy => foot_one.2 (foot_one.1 hy)⟩
end
section
variable {P : Program} {ops : Array Oper} {N : Nat} {e : Env} {w w0 : World} {T : List Nat} {ms fs : List Res} {ι : Type} {S : ι → Act → World → Prop} {R : World → World → Prop} {x y : ι} {o : Oper}
theorem Gay (hT : TkE P ops R S x o y) (H : St T w0 ms fs w) (i d : Nat) {t : TypeId} {el : TypeId} {size bytes n m c : Nat} {A : Option Addr} {xv : Value} (E : ET P t el size bytes) (xs ys : List (List Value)) (hn : xs.length = n) (hm : ys.length = m) (hp0 : 0 < m) (hsrc : Go.Proofs.YtjfgmdkdcnfdoaaGreatDoor.Src w xv m ys.flatten size) (hl : ∀ x ∈ ys, x.length = size) (h1 : ∀ x ∈ ys, x.all oneB = true) (hbytes : (n + m) * bytes ≤ 140737488355328) (hnm : n + m ≤ 140737488355328) (hR : ∀ w', R w w')
  (kk : ∀ A' c' w', n + m ≤ c' → St T w0 (rY el size (.slice A' (n + m) c') (xs ++ ys) :: restD ms [i]) fs w' → WO S N y ((d, .slice A' (n + m) c') :: e) w') (h : appAt ops N e o = some (t, .slice A n c, xv, some d) := by kernel_rfl) (hp : pick ms [i] = some ([rY el size (.slice A n c) xs], restD ms [i]) := by kernel_rfl) : WO S N x e w := by
 subst hn hm
 obtain ⟨F, hP, hu⟩ := H.upd i _ hp
 refine WO.appY hT d E hP rfl hp0 hsrc hl h1 h hbytes hnm (fun w' _ => hR w') fun v' w' F' hO hF hn => ?_
 obtain ⟨A', c', rfl, hc⟩ := hO.sliceN List.length_append
 exact kk A' c' w' hc (hu w' F' (rY ..) hO hF hn)
end
end Go.Proofs.YtjfgmdkdcnfdoaaGreatDoor.Eng.Sep
end
section
set_option linter.unusedVariables false
set_option linter.unusedSimpArgs false
namespace Go.Proofs.YtjfgmdkdcnfdoaaGreatDoor.Disk
structure Pt where
 n : Int
 b : List UInt8
 s : Nat
structure Dk where
 room : Int
 l : List Pt
 down : Bool
def usedL (l : List Pt) : Nat := (l.map fun p => p.b.length).sum
def hasL (l : List Pt) (n : Int) : Bool := l.any fun p => decide (p.n = n)
def updL (l : List Pt) (n : Int) (f : Pt → Pt) : List Pt := l.map fun p => if p.n = n then f p else p
def insL (x : Pt) : List Pt → List Pt
 | [] => [x]
 | y :: r => if x.n < y.n then x :: y :: r else y :: insL x r
def addL (l : List Pt) (n : Int) (b : List UInt8) : List Pt := if hasL l n then updL l n (fun p => ⟨p.n, p.b ++ b, p.s⟩) else insL ⟨n, b, 0⟩ l
def append (d : Dk) (n : Int) (b : List UInt8) : Int × Dk :=
 if d.down then (10, d) else if n < 0 then (1, d) else if d.room - usedL d.l < (b.length : Int) then (6, d) else (0, { d with l := addL d.l n b })
def there (d : Dk) (n : Int) : Int := if d.down then 10 else if hasL d.l n then 0 else 4
def getL (l : List Pt) (n : Int) : Pt := (l.find? fun p => decide (p.n = n)).getD ⟨0, [], 0⟩
def sync (d : Dk) (n : Int) : Int × Dk := if there d n = 0 then (0, { d with l := updL d.l n fun p => ⟨p.n, p.b, p.b.length⟩ }) else (there d n, d)
def cut (d : Dk) (n size : Int) : Int × Dk :=
 if there d n = 0 then (if size < 0 ∨ ((getL d.l n).b.length : Int) < size then (1, d) else (0, { d with l := updL d.l n fun p => ⟨p.n, p.b.take size.toNat, size.toNat⟩ })) else (there d n, d)
def remove (d : Dk) (n : Int) : Int × Dk := if there d n = 0 then (0, { d with l := d.l.filter fun p => !decide (p.n = n) }) else (there d n, d)
def read (d : Dk) (n : Int) : List UInt8 × Int := if there d n = 0 then ((getL d.l n).b, 0) else ([], there d n)
def crashL : Nat → List Pt → List Pt
 | _, [] => []
 | keep, p :: r => ⟨p.n, p.b.take (p.s + min keep (p.b.length - p.s)), p.s + min keep (p.b.length - p.s)⟩ :: crashL (keep - min keep (p.b.length - p.s)) r
def crash (d : Dk) (keep : Int) : Dk := if d.down then d else { d with l := crashL keep.toNat d.l, down := true }
def up (d : Dk) : Dk := { d with down := false }
def Rise (l : List Pt) : Prop := l.Pairwise fun p q => p.n < q.n
structure Dk.Ok (d : Dk) : Prop where
 rise : Rise d.l
 sync : ∀ p ∈ d.l, p.s ≤ p.b.length
 room : 1 ≤ d.room ∧ d.room ≤ 65536
 fits : (usedL d.l : Int) ≤ d.room
 keys : ∀ p ∈ d.l, -9223372036854775808 ≤ p.n ∧ p.n ≤ 9223372036854775807
theorem hasL_iff {l : List Pt} {n : Int} : hasL l n = true ↔ ∃ p ∈ l, p.n = n := by
 unfold hasL
 rw [List.any_eq_true]
 simp
theorem hasL_no {l : List Pt} {n : Int} : hasL l n = false ↔ ∀ p ∈ l, p.n ≠ n := by
 unfold hasL
 rw [List.any_eq_false]
 simp
theorem usedL_cons (p : Pt) (l : List Pt) : usedL (p :: l) = p.b.length + usedL l := by
 unfold usedL
 simp
theorem usedL_app (l m : List Pt) : usedL (l ++ m) = usedL l + usedL m := by
 unfold usedL
 simp
theorem usedL_mem {p : Pt} : ∀ {l : List Pt}, p ∈ l → p.b.length ≤ usedL l
 | q :: l, h => by
  rw [usedL_cons]
  rcases List.mem_cons.1 h with rfl | h
  ·
   omega
  ·
   have := usedL_mem h
   omega
theorem rise_cons {p : Pt} {l : List Pt} : Rise (p :: l) ↔ (∀ q ∈ l, p.n < q.n) ∧ Rise l := List.pairwise_cons
theorem part_at {l : List Pt} {n : Int} (hr : Rise l) (h : hasL l n = true) : ∃ x p y, l = x ++ p :: y ∧ p.n = n ∧ hasL x n = false ∧ hasL y n = false := by
 obtain ⟨p, hp, hn⟩ := hasL_iff.1 h
 obtain ⟨x, y, rfl⟩ := List.append_of_mem hp
 refine ⟨x, p, y, rfl, hn, hasL_no.2 fun q hq => ?_, hasL_no.2 fun q hq => ?_⟩
 ·
  have := (List.pairwise_append.1 hr).2.2 q hq p (by simp)
  omega
 ·
  have := (rise_cons.1 (List.pairwise_append.1 hr).2.1).1 q hq
  omega
theorem updL_no {l : List Pt} {n : Int} {f : Pt → Pt} (h : hasL l n = false) : updL l n f = l := by
 unfold updL
 conv => rhs; rw [← List.map_id l]
 apply List.map_congr_left
 intro p hp
 rw [if_neg (hasL_no.1 h p hp)]
 rfl
theorem updL_at {x y : List Pt} {p : Pt} {n : Int} {f : Pt → Pt} (hx : hasL x n = false) (hy : hasL y n = false) (hp : p.n = n) : updL (x ++ p :: y) n f = x ++ f p :: y := by
 unfold updL
 rw [List.map_append, List.map_cons, if_pos hp]
 have h1 := updL_no (f := f) hx
 have h2 := updL_no (f := f) hy
 unfold updL at h1 h2
 rw [h1, h2]
theorem getL_at {x y : List Pt} {p : Pt} {n : Int} (hx : hasL x n = false) (hp : p.n = n) : getL (x ++ p :: y) n = p := by
 unfold getL
 rw [List.find?_append]
 have : x.find? (fun p => decide (p.n = n)) = none := List.find?_eq_none.2 (fun q hq => by simpa using hasL_no.1 hx q hq)
 rw [this]
 simp [hp]
theorem insL_mem {x p : Pt} : ∀ {l : List Pt}, p ∈ insL x l ↔ p = x ∨ p ∈ l
 | [] => by simp [insL]
 | y :: r => by
  unfold insL
  split
  ·
   simp
  ·
   rw [List.mem_cons, insL_mem (l := r), List.mem_cons]
   constructor
   ·
    rintro (h | h | h)
    ·
     exact .inr (.inl h)
    ·
     exact .inl h
    ·
     exact .inr (.inr h)
   ·
    rintro (h | h | h)
    ·
     exact .inr (.inl h)
    ·
     exact .inl h
    ·
     exact .inr (.inr h)
theorem insL_rise {x : Pt} : ∀ {l : List Pt}, Rise l → hasL l x.n = false → Rise (insL x l)
 | [], _, _ => List.pairwise_singleton _ _
 | y :: r, hr, hn => by
  have h1 := rise_cons.1 hr
  have hny : y.n ≠ x.n := hasL_no.1 hn y (by simp)
  unfold insL
  split
  ·
   rename_i hlt
   refine rise_cons.2 ⟨fun q hq => ?_, hr⟩
   rcases List.mem_cons.1 hq with rfl | hq
   ·
    exact hlt
   ·
    have := h1.1 q hq
    omega
  ·
   rename_i hge
   refine rise_cons.2 ⟨fun q hq => ?_, insL_rise h1.2 (hasL_no.2 fun q hq => hasL_no.1 hn q (List.mem_cons_of_mem _ hq))⟩
   rcases insL_mem.1 hq with rfl | hq
   ·
    omega
   ·
    exact h1.1 q hq
theorem insL_used (x : Pt) : ∀ (l : List Pt), usedL (insL x l) = x.b.length + usedL l
 | [] => by simp [insL, usedL]
 | y :: r => by
  unfold insL
  split
  ·
   rw [usedL_cons]
  ·
   rw [usedL_cons, insL_used x r, usedL_cons]
   omega
theorem rise_map {l : List Pt} {f : Pt → Pt} (h : Rise l) (hf : ∀ p ∈ l, (f p).n = p.n) : Rise (l.map f) := by
 unfold Rise at *
 rw [List.pairwise_map]
 refine List.Pairwise.imp_of_mem (fun {a b} ha hb hab => ?_) h
 rw [hf a ha, hf b hb]
 exact hab
theorem updL_rise {l : List Pt} {n : Int} {f : Pt → Pt} (h : Rise l) (hf : ∀ p, (f p).n = p.n) : Rise (updL l n f) := rise_map h fun p _ => by
 split
 ·
  exact hf p
 ·
  rfl
theorem rise_iff (l : List Pt) : Rise l ↔ (l.map (·.n)).Pairwise (· < ·) := by
 unfold Rise
 rw [List.pairwise_map]
theorem usedL_upd {x y : List Pt} {p q : Pt} : usedL (x ++ q :: y) + p.b.length = usedL (x ++ p :: y) + q.b.length := by
 simp only [usedL_app, usedL_cons]
 omega
theorem keys_map {K : Int → Prop} {l l' : List Pt} (h : ∀ p ∈ l, K p.n) (hm : ∀ p ∈ l', p.n ∈ l.map (·.n)) : ∀ p ∈ l', K p.n := fun p hp => by
 obtain ⟨q, hq, h1⟩ := List.mem_map.1 (hm p hp)
 rw [← h1]
 exact h q hq
theorem updL_n (l : List Pt) (n : Int) (f : Pt → Pt) (hf : ∀ p, (f p).n = p.n) : ∀ p ∈ updL l n f, p.n ∈ l.map (·.n) := fun p hp => by
 unfold updL at hp
 obtain ⟨q, hq, rfl⟩ := List.mem_map.1 hp
 refine List.mem_map.2 ⟨q, hq, ?_⟩
 split
 ·
  exact (hf q).symm
 ·
  rfl
theorem append_ok {d : Dk} (h : d.Ok) (n : Int) (b : List UInt8) (hj : n ≤ 9223372036854775807) : (append d n b).2.Ok := by
 unfold append
 split
 ·
  exact h
 ·
  split
  ·
   exact h
  ·
   split
   ·
    exact h
   ·
    rename_i hd hn hf
    unfold addL
    cases hh : hasL d.l n with
    | true =>
     obtain ⟨x, p, y, hl, hpn, hx, hy⟩ := part_at h.rise hh
     simp only [if_true]
     refine ⟨updL_rise h.rise fun _ => rfl, fun q hq => ?_, h.room, ?_, keys_map (K := fun n => -9223372036854775808 ≤ n ∧ n ≤ 9223372036854775807) h.keys (updL_n _ _ _ fun _ => rfl)⟩
     ·
      simp only [updL, List.mem_map] at hq
      obtain ⟨q', hq', rfl⟩ := hq
      have := h.sync q' hq'
      split
      ·
       simp only [List.length_append]; omega
      ·
       exact this
     ·
      simp only
      rw [hl, updL_at hx hy hpn]
      have h1 := h.fits
      rw [hl] at h1 hf
      have h2 := usedL_upd (x := x) (y := y) (p := p) (q := ⟨p.n, p.b ++ b, p.s⟩)
      simp only [List.length_append] at h2
      omega
    | false =>
     simp only [Bool.false_eq_true, if_false]
     refine ⟨insL_rise h.rise hh, fun q hq => ?_, h.room, ?_, fun q hq => (insL_mem.1 hq).elim (fun h1 => by rw [h1]; simp only; omega) (h.keys q)⟩
     ·
      rcases insL_mem.1 hq with rfl | hq
      ·
       simp
      ·
       exact h.sync q hq
     ·
      simp only
      rw [insL_used]
      simp only
      omega
theorem there_0 {d : Dk} {n : Int} (h : there d n = 0) : d.down = false ∧ hasL d.l n = true := by
 unfold there at h
 split at h
 ·
  cases h
 ·
  split at h
  ·
   rename_i h1 h2
   exact ⟨by simpa using h1, h2⟩
  ·
   cases h
theorem sync_ok {d : Dk} (h : d.Ok) (n : Int) : (sync d n).2.Ok := by
 unfold sync
 split
 ·
  refine ⟨updL_rise h.rise fun _ => rfl, fun q hq => ?_, h.room, ?_, keys_map (K := fun n => -9223372036854775808 ≤ n ∧ n ≤ 9223372036854775807) h.keys (updL_n _ _ _ fun _ => rfl)⟩
  ·
   simp only [updL, List.mem_map] at hq
   obtain ⟨q', hq', rfl⟩ := hq
   have := h.sync q' hq'
   split
   ·
    exact Nat.le_refl _
   ·
    exact this
  ·
   have : usedL (updL d.l n fun p => ⟨p.n, p.b, p.b.length⟩) = usedL d.l := by
    unfold usedL updL
    rw [List.map_map]
    congr 1
    apply List.map_congr_left
    intro p _
    simp only [Function.comp_def]
    split <;> rfl
   simp only [this]
   exact h.fits
 ·
  exact h
theorem cut_ok {d : Dk} (h : d.Ok) (n size : Int) : (cut d n size).2.Ok := by
 unfold cut
 split
 ·
  rename_i ht
  split
  ·
   exact h
  ·
   rename_i hs
   obtain ⟨x, p, y, hl, hpn, hx, hy⟩ := part_at h.rise (there_0 ht).2
   have hg : getL d.l n = p := by rw [hl]; exact getL_at hx hpn
   rw [hg] at hs
   refine ⟨updL_rise h.rise fun _ => rfl, fun q hq => ?_, h.room, ?_, keys_map (K := fun n => -9223372036854775808 ≤ n ∧ n ≤ 9223372036854775807) h.keys (updL_n _ _ _ fun _ => rfl)⟩
   ·
    simp only at hq
    rw [hl, updL_at hx hy hpn] at hq
    rcases List.mem_append.1 hq with hq | hq
    ·
     exact h.sync q (by rw [hl]; exact List.mem_append_left _ hq)
    ·
     rcases List.mem_cons.1 hq with rfl | hq
     ·
      simp only [List.length_take]; omega
     ·
      exact h.sync q (by rw [hl]; exact List.mem_append_right _ (List.mem_cons_of_mem _ hq))
   ·
    simp only
    rw [hl, updL_at hx hy hpn]
    have h1 := h.fits
    rw [hl] at h1
    have h2 := usedL_upd (x := x) (y := y) (p := p) (q := ⟨p.n, p.b.take size.toNat, size.toNat⟩)
    simp only [List.length_take] at h2
    omega
 ·
  exact h
theorem usedL_filter (l : List Pt) (f : Pt → Bool) : usedL (l.filter f) ≤ usedL l := by
 induction l with
 | nil => exact Nat.le_refl _
 | cons p r ih =>
  rw [List.filter_cons, usedL_cons]
  split
  ·
   rw [usedL_cons]; omega
  ·
   omega
theorem remove_ok {d : Dk} (h : d.Ok) (n : Int) : (remove d n).2.Ok := by
 unfold remove
 split
 ·
  refine ⟨List.Pairwise.filter _ h.rise, fun q hq => h.sync q (List.mem_filter.1 hq).1, h.room, ?_, fun q hq => h.keys q (List.mem_filter.1 hq).1⟩
  have := usedL_filter d.l fun p => !decide (p.n = n)
  have h1 := h.fits
  simp only
  omega
 ·
  exact h
theorem up_ok {d : Dk} (h : d.Ok) : (up d).Ok := ⟨h.rise, h.sync, h.room, h.fits, h.keys⟩
end Go.Proofs.YtjfgmdkdcnfdoaaGreatDoor.Disk
end
section
set_option linter.unusedVariables false
set_option linter.unusedSimpArgs false
namespace Go.Proofs.YtjfgmdkdcnfdoaaGreatDoor.Disk
open Go Go.RowKit Go.Proofs.YtjfgmdkdcnfdoaaGreatDoor Go.Proofs.YtjfgmdkdcnfdoaaGreatDoor.Eng Go.Proofs.YtjfgmdkdcnfdoaaGreatDoorW.PrintWords
structure GP where
 n : Int
 b : List UInt8
 s : Nat
 k : Nat
 v : Value
 F : List Nat
def GP.pt (e : GP) : Pt := ⟨e.n, e.b, e.s⟩
def GP.foot (e : GP) : List Nat := e.k :: e.F
def foot (es : List GP) : List Nat := es.flatMap GP.foot
def GPAt (w : World) (e : GP) : Prop := Blk w e.k #[e.v, .int .i64 (e.s : Int)] 193 ∧ OwnX 5 1 w e.F e.v (e.b.map cB)
def ents (es : List GP) : List (Int × Nat) := es.map fun e => (e.n, e.k)
structure GDm (w : World) (g m : Nat) (room : Int) (down : Bool) (es : List GP) : Prop where
 blk : Blk w g #[.int .i64 room, .map (some m), .bool down] 146
 map : MapI Tryz.prog 3 w m (ents es)
 parts : ∀ e ∈ es, GPAt w e
 nodup : (g :: m :: foot es).Nodup
def GDisk (w : World) (g : Nat) (F : List Nat) (d : Dk) : Prop := ∃ m es, F = g :: m :: foot es ∧ d.l = es.map GP.pt ∧ GDm w g m d.room d.down es
theorem GPAt.keep {w w1 : World} {S : List Nat} {e : GP} (h : GPAt w e) (k : Fr S w w1) (hn : ∀ y ∈ e.foot, y ∉ S) : GPAt w1 e :=
 ⟨h.1.keep k (hn _ (by simp [GP.foot])), h.2.keep k fun y hy => hn y (by simp [GP.foot, hy])⟩
theorem GPAt.lt {w : World} {e : GP} (h : GPAt w e) : ∀ y ∈ e.foot, y < w.heap.size := by
 intro y hy
 rcases List.mem_cons.1 hy with rfl | hy
 ·
  exact h.1.lt
 ·
  exact h.2.lt y hy
theorem mem_foot {es : List GP} {y : Nat} : y ∈ foot es ↔ ∃ e ∈ es, y ∈ e.foot := by
 unfold foot
 exact List.mem_flatMap
theorem foot_app (a b : List GP) : foot (a ++ b) = foot a ++ foot b := by
 unfold foot
 exact List.flatMap_append
theorem foot_cons (e : GP) (b : List GP) : foot (e :: b) = e.foot ++ foot b := rfl
theorem GDm.keep {w w1 : World} {S : List Nat} {g m : Nat} {room : Int} {down : Bool} {es : List GP} (h : GDm w g m room down es) (k : Fr S w w1) (hn : ∀ y ∈ g :: m :: foot es, y ∉ S) : GDm w1 g m room down es :=
 ⟨h.blk.keep k (hn g (by simp)), h.map.keep k (hn m (by simp)), fun e he => (h.parts e he).keep k fun y hy => hn y (by simp [mem_foot.2 ⟨e, he, hy⟩]), h.nodup⟩
theorem GDm.lt {w : World} {g m : Nat} {room : Int} {down : Bool} {es : List GP} (h : GDm w g m room down es) : ∀ y ∈ g :: m :: foot es, y < w.heap.size := by
 intro y hy
 rcases List.mem_cons.1 hy with rfl | hy
 ·
  exact h.blk.lt
 ·
  rcases List.mem_cons.1 hy with rfl | hy
  ·
   exact h.map.lt
  ·
   obtain ⟨e, he, hy⟩ := mem_foot.1 hy
   exact (h.parts e he).lt y hy
theorem GDisk.keep {w w1 : World} {S : List Nat} {g : Nat} {F : List Nat} {d : Dk} (h : GDisk w g F d) (k : Fr S w w1) (hn : ∀ y ∈ F, y ∉ S) : GDisk w1 g F d := by
 obtain ⟨m, es, rfl, hl, hd⟩ := h
 exact ⟨m, es, rfl, hl, hd.keep k hn⟩
theorem GDisk.lt {w : World} {g : Nat} {F : List Nat} {d : Dk} (h : GDisk w g F d) : ∀ y ∈ F, y < w.heap.size := by
 obtain ⟨m, es, rfl, hl, hd⟩ := h
 exact hd.lt
theorem ents_has (es : List GP) (n : Int) : (ents es).any (fun e => decide (e.1 = n)) = hasL (es.map GP.pt) n := by
 unfold ents hasL
 simp only [List.any_map, Function.comp_def, GP.pt]
 rfl
theorem ents_find {x y : List GP} {e : GP} {n : Int} (hx : hasL (x.map GP.pt) n = false) (he : e.n = n) : (ents (x ++ e :: y)).find? (fun e => decide (e.1 = n)) = some (n, e.k) := by
 unfold ents
 rw [List.map_append, List.find?_append]
 have : (x.map fun e => (e.n, e.k)).find? (fun e => decide (e.1 = n)) = none := List.find?_eq_none.2 (fun q hq => by
  obtain ⟨p, hp, rfl⟩ := List.mem_map.1 hq
  have := hasL_no.1 hx p.pt (List.mem_map.2 ⟨p, hp, rfl⟩)
  have h2 : ¬ p.n = n := this
  simpa using h2)
 rw [this]
 simp [he]
theorem lkV_at {x y : List GP} {e : GP} {n : Int} (hx : hasL (x.map GP.pt) n = false) (he : e.n = n) : lkV (ents (x ++ e :: y)) n = .pointer (some ⟨e.k, 0, none⟩) := by
 unfold lkV
 rw [ents_find hx he]
theorem gpart_at {es : List GP} {n : Int} (hr : Rise (es.map GP.pt)) (h : hasL (es.map GP.pt) n = true) : ∃ x e y, es = x ++ e :: y ∧ e.n = n ∧ hasL (x.map GP.pt) n = false ∧ hasL (y.map GP.pt) n = false := by
 obtain ⟨p, hp, hn⟩ := hasL_iff.1 h
 obtain ⟨e, he, rfl⟩ := List.mem_map.1 hp
 obtain ⟨x, y, rfl⟩ := List.append_of_mem he
 rw [List.map_append, List.map_cons] at hr
 refine ⟨x, e, y, rfl, hn, hasL_no.2 fun q hq => ?_, hasL_no.2 fun q hq => ?_⟩
 ·
  have := (List.pairwise_append.1 hr).2.2 q hq e.pt (by simp)
  rw [← hn]
  omega
 ·
  have := (rise_cons.1 (List.pairwise_append.1 hr).2.1).1 q hq
  rw [← hn]
  omega
theorem GDm.set {w w1 : World} {S : List Nat} {g m : Nat} {room : Int} {down : Bool} {x y : List GP} {e e' : GP} (h : GDm w g m room down (x ++ e :: y)) (k : Fr S w w1) (hS : ∀ z ∈ S, z ∈ e.foot) (hn : e'.n = e.n) (hk : e'.k = e.k) (hF : ∀ z ∈ e'.F, z ∈ e.F ∨ w.heap.size ≤ z) (hFn : e'.F.Nodup) (ha : GPAt w1 e') : GDm w1 g m room down (x ++ e' :: y) := by
 have hnd := h.nodup
 have hlt := h.lt
 rw [foot_app, foot_cons] at hnd hlt
 simp only [List.nodup_cons, List.mem_cons, List.mem_append, not_or] at hnd
 obtain ⟨⟨hgm, hgx, hge, hgy⟩, ⟨hmx, hme, hmy⟩, hnd⟩ := hnd
 obtain ⟨hx, hey, hxy⟩ := List.nodup_append.1 hnd
 obtain ⟨he, hy, hey2⟩ := List.nodup_append.1 hey
 have hxe : ∀ z ∈ foot x, z ∉ e.foot := fun z hz hze => hxy z hz z (List.mem_append_left _ hze) rfl
 have hye : ∀ z ∈ foot y, z ∉ e.foot := fun z hz hze => hey2 z hze z hz rfl
 have he' : ∀ z ∈ e'.foot, z ∈ e.foot ∨ w.heap.size ≤ z := fun z hz => by
  rcases List.mem_cons.1 hz with rfl | hz
  ·
   exact .inl (by rw [hk]; simp [GP.foot])
  ·
   rcases hF z hz with h1 | h1
   ·
    exact .inl (by simp [GP.foot, h1])
   ·
    exact .inr h1
 have old : ∀ z, z < w.heap.size → z ∉ e.foot → z ∉ e'.foot := fun z hz h1 h2 => by
  rcases he' z h2 with h3 | h3
  ·
   exact h1 h3
  ·
   omega
 refine ⟨h.blk.keep k fun hz => hge (hS g hz), ?_, fun q hq => ?_, ?_⟩
 ·
  have : ents (x ++ e' :: y) = ents (x ++ e :: y) := by
   unfold ents
   simp [hn, hk]
  rw [this]
  exact h.map.keep k fun hz => hme (hS m hz)
 ·
  rcases List.mem_append.1 hq with hq | hq
  ·
   exact (h.parts q (List.mem_append_left _ hq)).keep k fun z hz hzS => hxe z (mem_foot.2 ⟨q, hq, hz⟩) (hS z hzS)
  ·
   rcases List.mem_cons.1 hq with rfl | hq
   ·
    exact ha
   ·
    exact (h.parts q (List.mem_append_right _ (List.mem_cons_of_mem _ hq))).keep k fun z hz hzS => hye z (mem_foot.2 ⟨q, hq, hz⟩) (hS z hzS)
 ·
  have hg := hlt g (by simp)
  have hm := hlt m (by simp)
  rw [foot_app, foot_cons]
  simp only [List.nodup_cons, List.mem_cons, List.mem_append, not_or]
  refine ⟨⟨hgm, hgx, old g hg hge, hgy⟩, ⟨hmx, old m hm hme, hmy⟩, ?_⟩
  refine List.nodup_append.2 ⟨hx, List.nodup_append.2 ⟨?_, hy, fun z hz z' hz' e1 => ?_⟩, fun z hz z' hz' e1 => ?_⟩
  ·
   refine List.nodup_cons.2 ⟨fun hz => ?_, hFn⟩
   rcases hF _ hz with h1 | h1
   ·
    rw [hk] at h1
    exact (List.nodup_cons.1 he).1 h1
   ·
    have := hlt e.k (by simp [GP.foot])
    rw [hk] at h1
    omega
  ·
   subst e1
   have hz2 := hlt z (by simp [hz'])
   exact old z hz2 (hye z hz') hz
  ·
   subst e1
   rcases List.mem_append.1 hz' with h1 | h1
   ·
    exact old z (hlt z (by simp [hz])) (hxe z hz) h1
   ·
    exact hxy z hz z (List.mem_append_right _ h1) rfl
theorem own_nodup {T : TypeId} {size : Nat} {w : World} {F : List Nat} {v : Value} {xs : List (List Value)} (h : OwnX T size w F v xs) : F.Nodup := by
 rcases h with ⟨rfl, _⟩ | ⟨b, cap, rfl, _⟩ <;> simp
end Go.Proofs.YtjfgmdkdcnfdoaaGreatDoor.Disk
end
