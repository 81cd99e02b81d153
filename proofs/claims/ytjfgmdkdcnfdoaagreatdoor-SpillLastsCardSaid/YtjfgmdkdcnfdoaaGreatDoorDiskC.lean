/- Layer 8's contracts: the disk's operations on a disk in memory. -/
import Derived.Test.YtjfgmdkdcnfdoaaGreatDoorDiskW
section
set_option linter.unusedVariables false
set_option linter.unusedSimpArgs false
namespace Go.Proofs.YtjfgmdkdcnfdoaaGreatDoor.Disk
open Go Go.RowKit Go.Proofs.YtjfgmdkdcnfdoaaGreatDoor Go.Proofs.YtjfgmdkdcnfdoaaGreatDoor.Eng Go.Proofs.YtjfgmdkdcnfdoaaGreatDoorW.PrintWords
def codeV (c : Int) : Value := if c = 0 then .nilIface else .iface 88 (.int .i64 c)
def GPost (g : Nat) (F : List Nat) (w : World) (v : Value) (d' : Dk) (e : Ending) (w' : World) : Prop := e = .returned v ∧ ∃ F', GDisk w' g F' d' ∧ Fr F w w' ∧ ∀ y ∈ F', y ∈ F ∨ w.heap.size ≤ y
theorem GPost.same {g : Nat} {F : List Nat} {w : World} {v : Value} {d : Dk} {e : Ending} {w' : World} (h : GDisk w g F d) (he : e = .returned v) (hF : Fr [] w w') : GPost g F w v d e w' :=
 ⟨he, F, h.keep hF (by simp), hF.only (by simp), fun y hy => .inl hy⟩
theorem lkV_no {es : List (Int × Nat)} {n : Int} (h : es.any (fun e => decide (e.1 = n)) = false) : lkV es n = .pointer none := by
 unfold lkV
 rw [List.find?_eq_none.2 (fun e he => by have := List.any_eq_false.1 h e he; simpa using this)]
structure Found (w : World) (g : Nat) (F : List Nat) (d : Dk) (n : Int) (m : Nat) (x : List GP) (e : GP) (y : List GP) (A : Option Addr) (cap : Nat) : Prop where
 hF : F = g :: m :: foot (x ++ e :: y)
 hl : d.l = x.map GP.pt ++ e.pt :: y.map GP.pt
 hn : e.n = n
 hx : hasL (x.map GP.pt) n = false
 hy : hasL (y.map GP.pt) n = false
 gd : GDm w g m d.room false (x ++ e :: y)
 hv : e.v = .slice A e.b.length cap
 blk : Blk w e.k #[.slice A e.b.length cap, .int .i64 (e.s : Int)] 193
 own : OwnX 5 1 w e.F (.slice A e.b.length cap) (e.b.map cB)
 lk : lkV (ents (x ++ e :: y)) n = .pointer (some ⟨e.k, 0, none⟩)
 has : (ents (x ++ e :: y)).any (fun e => decide (e.1 = n)) = true
 gm : g ≠ m
 gk : g ≠ e.k
 mek : m ≠ e.k
 gF : g ∉ e.F
 mF : m ∉ e.F
 kF : e.k ∉ e.F
 dn : d.down = false
 cap : e.b.length ≤ cap
theorem found {w : World} {g : Nat} {F : List Nat} {d : Dk} {n : Int} (h : GDisk w g F d) (ho : d.Ok) (ht : there d n = 0) : ∃ m x e y A cap, Found w g F d n m x e y A cap := by
 obtain ⟨m, es, rfl, hl, hd⟩ := h
 obtain ⟨h1, h2⟩ := there_0 ht
 have hr := ho.rise
 rw [hl] at h2 hr
 obtain ⟨x, e, y, rfl, hn, hx, hy⟩ := gpart_at hr h2
 have he := hd.parts e (by simp)
 obtain ⟨A, cap, hv⟩ := he.2.sliceN (List.length_map _)
 have hnd := hd.nodup
 rw [foot_app, foot_cons] at hnd
 simp only [List.nodup_cons, List.mem_cons, List.mem_append, not_or, GP.foot, List.cons_append, List.nodup_append] at hnd
 have hcap : e.b.length ≤ cap := by
  have := he.2
  rw [hv] at this
  rcases this with ⟨_, h3, h4⟩ | ⟨b, cap', _, h3, h4⟩
  ·
   simp only [Value.slice.injEq] at h3
   omega
  ·
   simp only [Value.slice.injEq] at h3
   have := h4.le
   rw [List.length_map] at this
   omega
 refine ⟨m, x, e, y, A, cap, rfl, by rw [hl]; simp, hn, hx, hy, by rw [← h1]; exact hd, hv, by rw [← hv]; exact he.1, by rw [← hv]; exact he.2, lkV_at hx hn, ?_, hnd.1.1, ?_, ?_, ?_, ?_, ?_, h1, hcap⟩
 ·
  rw [ents_has]; exact h2
 all_goals first
  | exact hnd.1.2.2.1.1
  | exact hnd.2.1.2.1.1
  | exact hnd.1.2.2.1.2
  | exact hnd.2.1.2.1.2
  | (have h9 := hnd; simp_all; done)
theorem upd_found {w : World} {g : Nat} {F : List Nat} {d : Dk} {n : Int} {m : Nat} {x y : List GP} {e : GP} {A : Option Addr} {cap : Nat} (H : Found w g F d n m x e y A cap) {w' : World} {S : List Nat} {e' : GP} (f : Pt → Pt) (hf : f e.pt = e'.pt) (k : Fr S w w') (hS : ∀ z ∈ S, z ∈ e.foot) (hn : e'.n = e.n) (hk : e'.k = e.k) (hF : ∀ z ∈ e'.F, z ∈ e.F ∨ w.heap.size ≤ z) (ha : GPAt w' e') :
  ∃ F', GDisk w' g F' { d with l := updL d.l n f } ∧ Fr F w w' ∧ ∀ y ∈ F', y ∈ F ∨ w.heap.size ≤ y := by
 have hd := H.gd.set k hS hn hk hF (own_nodup ha.2) ha
 refine ⟨g :: m :: foot (x ++ e' :: y), ⟨m, x ++ e' :: y, rfl, ?_, ?_⟩, k.only fun z hz => .inl ?_, fun z hz => ?_⟩
 ·
  show updL d.l n f = _
  rw [H.hl, updL_at H.hx H.hy H.hn, hf]
  simp
 ·
  show GDm w' g m d.room d.down _
  rw [H.dn]
  exact hd
 ·
  rw [H.hF, foot_app, foot_cons]
  simp [hS z hz]
 ·
  rw [H.hF, foot_app, foot_cons]
  rw [foot_app, foot_cons] at hz
  simp only [List.mem_cons, List.mem_append, GP.foot] at hz ⊢
  rw [hk] at hz
  rcases hz with h | h | h | (h | h) | h
  ·
   exact .inl (.inl h)
  ·
   exact .inl (.inr (.inl h))
  ·
   exact .inl (.inr (.inr (.inl h)))
  ·
   exact .inl (.inr (.inr (.inr (.inl (.inl h)))))
  ·
   rcases hF z h with h | h
   ·
    exact .inl (.inr (.inr (.inr (.inl (.inr h)))))
   ·
    exact .inr h
  ·
   exact .inl (.inr (.inr (.inr (.inr h))))
theorem lost {w : World} {g : Nat} {F : List Nat} {d : Dk} {n : Int} (h : GDisk w g F d) (ht : there d n ≠ 0) : ∃ m es, F = g :: m :: foot es ∧ d.l = es.map GP.pt ∧ GDm w g m d.room d.down es ∧ g ≠ m ∧ ((d.down = true ∧ there d n = 10) ∨ (d.down = false ∧ there d n = 4 ∧ (ents es).any (fun e => decide (e.1 = n)) = false ∧ lkV (ents es) n = .pointer none)) := by
 obtain ⟨m, es, rfl, hl, hd⟩ := h
 have hgm : g ≠ m := by
  have := hd.nodup
  simp only [List.nodup_cons, List.mem_cons, not_or] at this
  exact this.1.1
 refine ⟨m, es, rfl, hl, hd, hgm, ?_⟩
 unfold there at ht ⊢
 cases hdn : d.down with
 | true => exact .inl ⟨by first | rfl | trivial, by simp⟩
 | false =>
  rw [hdn] at ht
  simp only [Bool.false_eq_true, if_false] at ht ⊢
  cases hh : hasL d.l n with
  | true => rw [hh] at ht; simp at ht
  | false =>
   have hany : (ents es).any (fun e => decide (e.1 = n)) = false := by rw [ents_has, ← hl]; exact hh
   exact .inr ⟨by first | rfl | trivial, by simp, hany, lkV_no hany⟩
theorem gsync (g : Nat) (F : List Nat) (d : Dk) (n : Int) (w : World) (h : GDisk w g F d) (ho : d.Ok) (hj : -9223372036854775808 ≤ n ∧ n ≤ 9223372036854775807) :
  Calls Tryz.prog 192 #[.pointer (some ⟨g, 0, none⟩), .int .i64 n] w (GPost g F w (codeV (sync d n).1) (sync d n).2) := by
 by_cases ht : there d n = 0
 ·
  have hs : sync d n = (0, { d with l := updL d.l n fun p => ⟨p.n, p.b, p.b.length⟩ }) := by unfold sync; rw [if_pos ht]
  rw [hs]
  obtain ⟨m, x, e, y, A, cap, H⟩ := found h ho ht
  refine (sync_some g m d.room _ n w A e.b.length cap e.s H.gd.blk H.gd.map H.gm hj e.k H.lk H.has H.blk H.gk H.mek).mono fun en w' hh => ?_
  obtain ⟨rfl, h2, h3⟩ := hh
  exact ⟨rfl, upd_found H (e' := { e with s := e.b.length }) _ rfl h3 (by simp [GP.foot]) rfl rfl (fun z hz => .inl hz) ⟨by rw [← H.hv] at h2; exact h2, by show OwnX _ 1 w' e.F e.v (e.b.map cB); rw [H.hv]; exact H.own.keep h3 (by intro z hz hz2; rw [List.mem_singleton.1 hz2] at hz; exact H.kF hz)⟩⟩
 ·
  have hs : sync d n = (there d n, d) := by unfold sync; rw [if_neg ht]
  rw [hs]
  obtain ⟨m, es, hF, hl, hd, hgm, ⟨hdn, h4⟩ | ⟨hdn, h4, h5, h6⟩⟩ := lost h ht
  ·
   rw [h4]
   have hb := hd.blk
   rw [hdn] at hb
   exact (sync_down g m d.room _ n w hb hd.map hgm hj).mono fun en w' hh => GPost.same h hh.1 hh.2
  ·
   rw [h4]
   have hb := hd.blk
   rw [hdn] at hb
   exact (sync_none g m d.room _ n w hb hd.map hgm hj h5 h6).mono fun en w' hh => GPost.same h hh.1 hh.2
theorem gcut (g : Nat) (F : List Nat) (d : Dk) (n z : Int) (w : World) (h : GDisk w g F d) (ho : d.Ok) (hj : -9223372036854775808 ≤ n ∧ n ≤ 9223372036854775807) :
  Calls Tryz.prog 236 #[.pointer (some ⟨g, 0, none⟩), .int .i64 n, .int .i64 z] w (GPost g F w (codeV (cut d n z).1) (cut d n z).2) := by
 by_cases ht : there d n = 0
 ·
  obtain ⟨m, x, e, y, A, cap, H⟩ := found h ho ht
  have hg : getL d.l n = e.pt := by rw [H.hl]; exact getL_at H.hx H.hn
  have hbl : e.b.length ≤ 1000000 := by
   have h1 := usedL_mem (p := e.pt) (l := d.l) (by rw [H.hl]; simp)
   have h2 := ho.fits
   have h3 := ho.room
   have h4 : e.pt.b = e.b := rfl
   rw [h4] at h1
   omega
  by_cases hz : z < 0 ∨ ((e.b.length : Int) < z)
  ·
   have hs : cut d n z = (1, d) := by unfold cut; rw [if_pos ht, hg]; exact if_pos hz
   rw [hs]
   exact (cut_bad g m d.room _ n w A e.b.length cap e.s z H.gd.blk H.gd.map H.gm hj e.k H.lk H.has H.blk H.gk H.mek hz).mono fun en w' hh => GPost.same h hh.1 hh.2
  ·
   have hs : cut d n z = (0, { d with l := updL d.l n fun p => ⟨p.n, p.b.take z.toNat, z.toNat⟩ }) := by unfold cut; rw [if_pos ht, hg]; exact if_neg hz
   rw [hs]
   obtain ⟨k, rfl⟩ := Int.eq_ofNat_of_zero_le (show 0 ≤ z by omega)
   refine (cut_some g m d.room _ n w A e.b.length cap e.s k H.gd.blk H.gd.map H.gm hj e.k H.lk H.has H.blk H.gk H.mek (by omega) H.cap hbl).mono fun en w' hh => ?_
   obtain ⟨rfl, h2, h3⟩ := hh
   refine ⟨rfl, upd_found H (e' := { e with b := e.b.take k, s := k, v := .slice A k cap }) _ rfl h3 (by simp [GP.foot]) rfl rfl (fun z hz => .inl hz) ⟨h2, ?_⟩⟩
   have hown := H.own.keep h3 (by intro z hz hz2; rw [List.mem_singleton.1 hz2] at hz; exact H.kF hz)
   show OwnX _ 1 w' e.F (.slice A k cap) ((e.b.take k).map cB)
   rcases hown with ⟨h5, h6, h7⟩ | ⟨b, cap', h5, h6, h7⟩
   ·
    have hb0 : e.b = [] := List.map_eq_nil_iff.1 h7
    simp only [Value.slice.injEq] at h6
    have hk0 : k = 0 := by rw [hb0] at hz; simp at hz; omega
    refine .inl ⟨h5, ?_, by rw [hb0]; simp⟩
    rw [h6.1, h6.2.2, hk0]
   ·
    simp only [Value.slice.injEq] at h6
    refine .inr ⟨b, cap, h5, ?_, ?_⟩
    ·
     rw [h6.1, List.length_map, List.length_take, Nat.min_eq_left (by omega)]
    ·
     rw [List.map_take, h6.2.2]
     exact h7.take k
 ·
  have hs : cut d n z = (there d n, d) := by unfold cut; rw [if_neg ht]
  rw [hs]
  obtain ⟨m, es, hF, hl, hd, hgm, ⟨hdn, h4⟩ | ⟨hdn, h4, h5, h6⟩⟩ := lost h ht
  ·
   rw [h4]
   have hb := hd.blk
   rw [hdn] at hb
   exact (cut_down g m d.room _ n w z hb hd.map hgm hj).mono fun en w' hh => GPost.same h hh.1 hh.2
  ·
   rw [h4]
   have hb := hd.blk
   rw [hdn] at hb
   exact (cut_none g m d.room _ n w z hb hd.map hgm hj h5 h6).mono fun en w' hh => GPost.same h hh.1 hh.2
theorem filter_ents (es : List GP) (n : Int) : (ents es).filter (fun e => !decide (e.1 = n)) = ents (es.filter fun e => !decide (e.n = n)) := by
 unfold ents
 rw [List.filter_map]
 rfl
theorem filter_pt (es : List GP) (n : Int) : (es.map GP.pt).filter (fun p => !decide (p.n = n)) = (es.filter fun e => !decide (e.n = n)).map GP.pt := by
 rw [List.filter_map]
 rfl
theorem foot_sub {a b : List GP} (h : a.Sublist b) : (foot a).Sublist (foot b) := by
 induction h with
 | slnil => exact List.Sublist.refl _
 | cons e _ ih => exact ih.trans (List.sublist_append_right _ _)
 | cons_cons e _ ih => exact List.Sublist.append (List.Sublist.refl _) ih
theorem gremove (g : Nat) (F : List Nat) (d : Dk) (n : Int) (w : World) (h : GDisk w g F d) (ho : d.Ok) (hj : -9223372036854775808 ≤ n ∧ n ≤ 9223372036854775807) :
  Calls Tryz.prog 197 #[.pointer (some ⟨g, 0, none⟩), .int .i64 n] w (GPost g F w (codeV (remove d n).1) (remove d n).2) := by
 by_cases ht : there d n = 0
 ·
  have hs : remove d n = (0, { d with l := d.l.filter fun p => !decide (p.n = n) }) := by unfold remove; rw [if_pos ht]
  rw [hs]
  obtain ⟨m, x, e, y, A, cap, H⟩ := found h ho ht
  refine (remove_some g m d.room _ n w H.gd.blk H.gd.map H.gm hj e.k H.lk H.has).mono fun en w' hh => ?_
  obtain ⟨rfl, h2, h3⟩ := hh
  have hnd := H.gd.nodup
  have hsub := foot_sub (List.filter_sublist (p := fun e : GP => !decide (e.n = n)) (l := x ++ e :: y))
  simp only [List.nodup_cons, List.mem_cons, not_or] at hnd
  refine ⟨rfl, g :: m :: foot ((x ++ e :: y).filter fun e => !decide (e.n = n)), ⟨m, _, rfl, ?_, ?_⟩, h3.only fun z hz => .inl ?_, fun z hz => .inl ?_⟩
  ·
   show d.l.filter _ = _
   rw [← filter_pt, H.hl]
   simp
  ·
   show GDm w' g m d.room d.down _
   rw [H.dn]
   refine ⟨H.gd.blk.keep h3 (by simpa using hnd.1.1), by rw [filter_ents] at h2; exact h2, fun q hq => (H.gd.parts q (List.mem_filter.1 hq).1).keep h3 fun z hz hz2 => ?_, ?_⟩
   ·
    rw [List.mem_singleton.1 hz2] at hz
    exact hnd.2.1 (mem_foot.2 ⟨q, (List.mem_filter.1 hq).1, hz⟩)
   ·
    refine List.nodup_cons.2 ⟨?_, List.nodup_cons.2 ⟨fun h1 => hnd.2.1 (hsub.subset h1), hsub.nodup hnd.2.2⟩⟩
    simp only [List.mem_cons, not_or]
    exact ⟨hnd.1.1, fun h1 => hnd.1.2 (hsub.subset h1)⟩
  ·
   rw [H.hF, List.mem_singleton.1 hz]
   simp
  ·
   rw [H.hF]
   simp only [List.mem_cons] at hz ⊢
   rcases hz with hz | hz | hz
   ·
    exact .inl hz
   ·
    exact .inr (.inl hz)
   ·
    exact .inr (.inr (hsub.subset hz))
 ·
  have hs : remove d n = (there d n, d) := by unfold remove; rw [if_neg ht]
  rw [hs]
  obtain ⟨m, es, hF, hl, hd, hgm, ⟨hdn, h4⟩ | ⟨hdn, h4, h5, h6⟩⟩ := lost h ht
  ·
   rw [h4]
   have hb := hd.blk
   rw [hdn] at hb
   exact (remove_down g m d.room _ n w hb hd.map hgm hj).mono fun en w' hh => GPost.same h hh.1 hh.2
  ·
   rw [h4]
   have hb := hd.blk
   rw [hdn] at hb
   exact (remove_none g m d.room _ n w hb hd.map hgm hj h5 h6).mono fun en w' hh => GPost.same h hh.1 hh.2
theorem gread (g : Nat) (F : List Nat) (d : Dk) (n : Int) (w : World) (h : GDisk w g F d) (ho : d.Ok) (hj : -9223372036854775808 ≤ n ∧ n ≤ 9223372036854775807) :
  Calls Tryz.prog 234 #[.pointer (some ⟨g, 0, none⟩), .int .i64 n] w fun e w' => ∃ v G, e = .returned (.tuple #[v, codeV (read d n).2]) ∧ OwnX 5 1 w' G v ((read d n).1.map cB) ∧ Fr [] w w' ∧ ∀ y ∈ G, w.heap.size ≤ y := by
 by_cases ht : there d n = 0
 ·
  obtain ⟨m, x, e, y, A, cap, H⟩ := found h ho ht
  have hg : getL d.l n = e.pt := by rw [H.hl]; exact getL_at H.hx H.hn
  have hs : read d n = (e.b, 0) := by unfold read; rw [if_pos ht, hg]; rfl
  have hbl : e.b.length ≤ 1000000 := by
   have h1 := usedL_mem (p := e.pt) (l := d.l) (by rw [H.hl]; simp)
   have h2 := ho.fits
   have h3 := ho.room
   have h4 : e.pt.b = e.b := rfl
   rw [h4] at h1
   omega
  rw [hs]
  exact (read_some g m d.room _ n w A cap e.s e.b e.F H.gd.blk H.gd.map H.gm hj e.k H.lk H.has H.blk H.gk H.mek H.own (by omega) H.gF H.mF H.kF).mono fun en w' hh => hh
 ·
  have hs : read d n = ([], there d n) := by unfold read; rw [if_neg ht]
  rw [hs]
  obtain ⟨m, es, hF, hl, hd, hgm, ⟨hdn, h4⟩ | ⟨hdn, h4, h5, h6⟩⟩ := lost h ht
  ·
   rw [h4]
   have hb := hd.blk
   rw [hdn] at hb
   exact (read_down g m d.room _ n w hb hd.map hgm hj).mono fun en w' hh => ⟨_, [], hh.1, .inl ⟨rfl, rfl, rfl⟩, hh.2, by simp⟩
  ·
   rw [h4]
   have hb := hd.blk
   rw [hdn] at hb
   exact (read_none g m d.room _ n w hb hd.map hgm hj h5 h6).mono fun en w' hh => ⟨_, [], hh.1, .inl ⟨rfl, rfl, rfl⟩, hh.2, by simp⟩
theorem gup (g : Nat) (F : List Nat) (d : Dk) (w : World) (h : GDisk w g F d) :
  Calls Tryz.prog 177 #[.pointer (some ⟨g, 0, none⟩)] w fun e w' => e = .returned (.tuple #[]) ∧ GDisk w' g F (up d) ∧ Fr F w w' := by
 obtain ⟨m, es, rfl, hl, hd⟩ := h
 refine (up_any g _ _ _ w hd.blk).mono fun en w' hh => ?_
 obtain ⟨rfl, h2, h3⟩ := hh
 have hnd := hd.nodup
 simp only [List.nodup_cons, List.mem_cons, not_or] at hnd
 refine ⟨rfl, ⟨m, es, rfl, hl, ⟨h2, hd.map.keep h3 (by simpa using Ne.symm hnd.1.1), fun e he => (hd.parts e he).keep h3 fun z hz hz2 => ?_, hd.nodup⟩⟩, h3.only (by simp)⟩
 rw [List.mem_singleton.1 hz2] at hz
 exact hnd.1.2 (mem_foot.2 ⟨e, he, hz⟩)
theorem pln_of {w : World} {g m : Nat} {room : Int} {down : Bool} {es : List GP} (hd : GDm w g m room down es) : ∃ ln, PLn w (es.map (·.k)) (ents es) ln ∧ sumL ln (ents es) = usedL (es.map GP.pt) ∧ g ∉ es.map (·.k) ∧ m ∉ es.map (·.k) := by
 have hnd := hd.nodup
 simp only [List.nodup_cons, List.mem_cons, not_or] at hnd
 have hk : ∀ e ∈ es, e.k ∈ foot es := fun e he => mem_foot.2 ⟨e, he, by simp [GP.foot]⟩
 have huniq : ∀ (es : List GP), (foot es).Nodup → ∃ ln : Nat → Nat, ∀ e ∈ es, ln e.k = e.b.length := by
  intro es
  induction es with
  | nil => exact fun _ => ⟨fun _ => 0, by simp⟩
  | cons e r ih =>
   intro hn
   rw [foot_cons] at hn
   obtain ⟨h1, h2, h3⟩ := List.nodup_append.1 hn
   obtain ⟨ln, hln⟩ := ih h2
   refine ⟨fun b => if b = e.k then e.b.length else ln b, fun q hq => ?_⟩
   rcases List.mem_cons.1 hq with rfl | hq
   ·
    simp
   ·
    have : q.k ≠ e.k := fun h4 => h3 e.k (by simp [GP.foot]) q.k (mem_foot.2 ⟨q, hq, by simp [GP.foot]⟩) h4.symm
    simp only [if_neg this]
    exact hln q hq
 obtain ⟨ln, hln⟩ := huniq es hnd.2.2
 refine ⟨ln, ⟨fun y hy => ?_, fun e he => ?_⟩, ?_, fun h => ?_, fun h => ?_⟩
 ·
  obtain ⟨e, he, rfl⟩ := List.mem_map.1 hy
  exact (hd.parts e he).1.lt
 ·
  obtain ⟨q, hq, rfl⟩ := List.mem_map.1 he
  obtain ⟨A, cap, hv⟩ := (hd.parts q hq).2.sliceN (List.length_map _)
  refine ⟨List.mem_map.2 ⟨q, hq, rfl⟩, A, cap, q.s, ?_⟩
  have := (hd.parts q hq).1
  rw [hv] at this
  simp only
  rw [hln q hq]
  exact this
 ·
  unfold sumL ents usedL
  rw [List.map_map, List.map_map]
  congr 1
  apply List.map_congr_left
  intro e he
  exact hln e he
 ·
  obtain ⟨e, he, rfl⟩ := List.mem_map.1 h
  exact hnd.1.2 (hk e he)
 ·
  obtain ⟨e, he, rfl⟩ := List.mem_map.1 h
  exact hnd.2.1 (hk e he)
theorem ents_nodup {es : List GP} (h : Rise (es.map GP.pt)) : ((ents es).map (·.1)).Nodup := by
 have : (ents es).map (·.1) = (es.map GP.pt).map (·.n) := by
  unfold ents
  simp [GP.pt]
 rw [this]
 have h2 := (rise_iff _).1 h
 exact List.Pairwise.imp (fun h => Int.ne_of_lt h) h2
def insG (x : GP) : List GP → List GP
 | [] => [x]
 | y :: r => if x.n < y.n then x :: y :: r else y :: insG x r
theorem insG_ents (x : GP) : ∀ es, ents (insG x es) = insE (x.n, x.k) (ents es)
 | [] => rfl
 | y :: r => by
  simp only [insG, ents, List.map_cons, insE]
  split
  ·
   simp
  ·
   have := insG_ents x r
   unfold ents at this
   rw [List.map_cons, this]
theorem insG_pt (x : GP) : ∀ es, (insG x es).map GP.pt = insL x.pt (es.map GP.pt)
 | [] => rfl
 | y :: r => by
  simp only [insG, List.map_cons, insL, GP.pt]
  split
  ·
   simp [GP.pt]
  ·
   have := insG_pt x r
   rw [List.map_cons]
   rw [this]
   rfl
theorem insG_foot (x : GP) : ∀ es, (foot (insG x es)).Perm (x.foot ++ foot es)
 | [] => List.Perm.refl _
 | y :: r => by
  unfold insG
  split
  ·
   exact List.Perm.refl _
  ·
   rw [foot_cons, foot_cons]
   refine (List.Perm.append_left _ (insG_foot x r)).trans ?_
   rw [← List.append_assoc, ← List.append_assoc]
   exact List.Perm.append_right _ List.perm_append_comm
theorem insG_mem {x e : GP} : ∀ {es : List GP}, e ∈ insG x es → e = x ∨ e ∈ es
 | [], h => .inl (by simpa [insG] using h)
 | y :: r, h => by
  unfold insG at h
  split at h
  ·
   simpa using h
  ·
   rcases List.mem_cons.1 h with h | h
   ·
    exact .inr (by simp [h])
   ·
    rcases insG_mem h with h | h
    ·
     exact .inl h
    ·
     exact .inr (List.mem_cons_of_mem _ h)
theorem gappend (g : Nat) (F : List Nat) (d : Dk) (n : Int) (Ab : Option Addr) (nb cb : Nat) (l : List UInt8) (FB : List Nat) (w : World) (h : GDisk w g F d) (ho : d.Ok) (hj : -9223372036854775808 ≤ n ∧ n ≤ 9223372036854775807) (HV : VX cB 1 w FB Ab l) (hn : l.length = nb) (hlb : l.length ≤ 1000000000) (hdj : ∀ y ∈ F, y ∉ FB) (hel : d.l.length ≤ 1000000) :
  Calls Tryz.prog 32 #[.pointer (some ⟨g, 0, none⟩), .int .i64 n, .slice Ab nb cb] w (GPost g F w (codeV (append d n l).1) (append d n l).2) := by
 have hG := h
 obtain ⟨m, es, hF, hl, hd⟩ := h
 have hnd := hd.nodup
 simp only [List.nodup_cons, List.mem_cons, not_or] at hnd
 have hgm := hnd.1.1
 have hr := ho.rise
 have hf := ho.fits
 have hm := ho.room
 rw [hl] at hr hf
 obtain ⟨ln, h1, h2, h3, h4⟩ := pln_of hd
 have hend := ents_nodup hr
 cases hdn : d.down with
 | true =>
  have hs : append d n l = (10, d) := by unfold append; rw [if_pos hdn]
  rw [hs]
  have hb := hd.blk
  rw [hdn] at hb
  exact (append_down g m d.room _ n w Ab nb cb l FB hb hd.map hgm hj).mono fun en w' hh => GPost.same hG hh.1 hh.2
 | false =>
  have hb := hd.blk
  rw [hdn] at hb
  by_cases hneg : n < 0
  ·
   have hs : append d n l = (1, d) := by unfold append; rw [if_neg (by rw [hdn]; simp), if_pos hneg]
   rw [hs]
   exact (append_neg g m d.room _ n w Ab nb cb l FB hb hd.map hgm hj hneg).mono fun en w' hh => GPost.same hG hh.1 hh.2
  ·
   have hu : usedL d.l = sumL ln (ents es) := by rw [hl, h2]
   by_cases hful : d.room - (sumL ln (ents es) : Int) < (nb : Int)
   ·
    have hs : append d n l = (6, d) := by unfold append; rw [if_neg (by rw [hdn]; simp), if_neg hneg, hu, if_pos (by rw [hn]; exact hful)]
    rw [hs]
    exact (append_full g m d.room _ n w Ab nb cb l FB ln _ hb hd.map hgm hj h1 h3 h4 hend (by omega) hm hneg hful (by omega)).mono fun en w' hh => GPost.same hG hh.1 hh.2
   ·
    have hs : append d n l = (0, { d with l := addL d.l n l }) := by unfold append; rw [if_neg (by rw [hdn]; simp), if_neg hneg, hu, if_neg (by rw [hn]; exact hful)]
    rw [hs]
    have hgB : g ∉ FB := hdj g (by rw [hF]; simp)
    have hmB : m ∉ FB := hdj m (by rw [hF]; simp)
    cases hh : hasL d.l n with
    | true =>
     have ht : there d n = 0 := by unfold there; rw [if_neg (by rw [hdn]; simp), if_pos hh]
     obtain ⟨m2, x, e, y, A, cap, H⟩ := found hG ho ht
     obtain ⟨rfl, hfe⟩ : m2 = m ∧ ents (x ++ e :: y) = ents es := by
      have h5 := H.gd.blk
      have h6 : m2 = m := by
       have := h5.symm.trans hb
       simpa using this
      subst h6
      refine ⟨rfl, ?_⟩
      have h7 := H.gd.map
      have h8 := hd.map
      obtain ⟨cs, clock, hb1, _, _, hD⟩ := h7
      obtain ⟨cs2, clock2, hb2, _, _, hD2⟩ := h8
      have h9 := hb1.symm.trans hb2
      simp only [Option.some.injEq, Obj.map.injEq] at h9
      rw [h9.1] at hD
      have h10 := hD.trans hD2.symm
      unfold Dm at h10
      simp only [DataW.map.injEq] at h10
      have hinj : Function.Injective fun e : Int × Nat => ((.int .i64 e.1 : Lit), (.held e.2 : DataW Nat)) := by
       rintro ⟨a, b⟩ ⟨c, d⟩ h11
       simp only [Prod.mk.injEq, Lit.int.injEq, DataW.held.injEq, true_and] at h11
       rw [h11.1, h11.2]
      exact (List.map_inj_right (fun _ _ h => hinj h)).1 h10
     have hbl : e.b.length ≤ 1000000 := by
      have h1 := usedL_mem (p := e.pt) (l := d.l) (by rw [H.hl]; simp)
      have h4 : e.pt.b = e.b := rfl
      rw [h4, hu, h2] at h1
      omega
     have hkB : e.k ∉ FB := hdj e.k (by rw [H.hF, foot_app, foot_cons]; simp [GP.foot])
     have hFB : ∀ z ∈ e.F, z ∉ FB := fun z hz => hdj z (by rw [H.hF, foot_app, foot_cons]; simp [GP.foot, hz])
     refine (append_some g m2 d.room _ n w Ab nb cb l FB ln _ A cap e.s e.b e.F hb hd.map hgm hj e.k (by rw [← hfe]; exact H.lk) (by rw [← hfe]; exact H.has) HV hn hlb h1 h3 h4 hend (by omega) hm H.blk H.own H.gk H.mek H.gF H.mF H.kF hgB hmB hkB hFB hneg hful hbl).mono fun en w' hh2 => ?_
     obtain ⟨A', cap', F', rfl, h5, h6, h7, h8⟩ := hh2
     refine ⟨rfl, ?_⟩
     have hal : addL d.l n l = updL d.l n fun p => ⟨p.n, p.b ++ l, p.s⟩ := by unfold addL; rw [hh]; rfl
     rw [hal]
     exact upd_found H (e' := { e with b := e.b ++ l, v := .slice A' (e.b ++ l).length cap', F := F' }) _ rfl h7 (by simp [GP.foot]) rfl rfl h8 ⟨h5, h6⟩
    | false =>
     have hno : (ents es).any (fun e => decide (e.1 = n)) = false := by rw [ents_has, ← hl]; exact hh
     refine (append_new g m d.room _ n w Ab nb cb l FB ln _ hb hd.map hgm hj hno (lkV_no hno) HV hn hlb h1 h3 h4 hend (by omega) hm hgB hmB hneg hful (by unfold ents; rw [List.length_map]; rw [hl, List.length_map] at hel; exact hel)).mono fun en w' hh2 => ?_
     obtain ⟨k, A', cap', F', rfl, h5, h6, h7, h8, h9, h10, h11⟩ := hh2
     rw [List.nil_append] at h6 h7
     have hal : addL d.l n l = insL ⟨n, l, 0⟩ d.l := by unfold addL; rw [hh]; rfl
     have hlt := hd.lt
     let e : GP := ⟨n, l, 0, k, .slice A' l.length cap', F'⟩
     have hP := insG_foot e es
     refine ⟨rfl, g :: m :: foot (insG e es), ⟨m, insG e es, rfl, ?_, ?_⟩, h8.only fun z hz => .inl ?_, fun z hz => ?_⟩
     ·
      show addL d.l n l = _
      rw [hal, insG_pt, hl]
      rfl
     ·
      show GDm w' g m d.room d.down _
      rw [hdn]
      refine ⟨hb.keep h8 (by simpa using hgm), by rw [insG_ents]; exact h5, fun q hq => ?_, ?_⟩
      ·
       rcases insG_mem hq with rfl | hq
       ·
        exact ⟨h6, h7⟩
       ·
        exact (hd.parts q hq).keep h8 fun z hz hz2 => by
         rw [List.mem_singleton.1 hz2] at hz
         exact hnd.2.1 (mem_foot.2 ⟨q, hq, hz⟩)
      ·
       have hbig : ∀ z ∈ e.foot, w.heap.size ≤ z := fun z hz => by
        rcases List.mem_cons.1 hz with rfl | hz
        ·
         exact h9
        ·
         exact h10 z hz
       have hn2 : (e.foot ++ foot es).Nodup := List.nodup_append.2 ⟨List.nodup_cons.2 ⟨h11, own_nodup h7⟩, hnd.2.2, fun a ha b hb2 hab => by
        have h12 := hbig a ha
        have h13 := hlt b (by simp [hb2])
        omega⟩
       refine List.nodup_cons.2 ⟨?_, List.nodup_cons.2 ⟨fun h12 => ?_, hP.symm.nodup hn2⟩⟩
       ·
        simp only [List.mem_cons, not_or]
        refine ⟨hgm, fun h12 => ?_⟩
        rcases List.mem_append.1 (hP.mem_iff.1 h12) with h13 | h13
        ·
         have h14 := hbig g h13
         have := hlt g (by simp)
         omega
        ·
         exact hnd.1.2 h13
       ·
        rcases List.mem_append.1 (hP.mem_iff.1 h12) with h13 | h13
        ·
         have h14 := hbig m h13
         have := hlt m (by simp)
         omega
        ·
         exact hnd.2.1 h13
     ·
      rw [hF, List.mem_singleton.1 hz]
      simp
     ·
      rw [hF]
      simp only [List.mem_cons] at hz ⊢
      rcases hz with hz | hz | hz
      ·
       exact .inl (.inl hz)
      ·
       exact .inl (.inr (.inl hz))
      ·
       rcases List.mem_append.1 (hP.mem_iff.1 hz) with h13 | h13
       ·
        rcases List.mem_cons.1 h13 with rfl | h13
        ·
         exact .inr h9
        ·
         exact .inr (h10 z h13)
       ·
        exact .inl (.inr (.inr h13))
end Go.Proofs.YtjfgmdkdcnfdoaaGreatDoor.Disk
end
section
set_option linter.unusedVariables false
set_option linter.unusedSimpArgs false
namespace Go.Proofs.YtjfgmdkdcnfdoaaGreatDoor.Disk
open Go Go.RowKit Go.Proofs.YtjfgmdkdcnfdoaaGreatDoor Go.Proofs.YtjfgmdkdcnfdoaaGreatDoor.Eng Go.Proofs.YtjfgmdkdcnfdoaaGreatDoorW.PrintWords
def g0 (l : List Int) (i : Nat) : Int := l.getD i 0
def cI (x : Int) : List Value := [.int .i64 x]
theorem cI_len (q : List Int) : ∀ x ∈ q.map cI, x.length = 1 := by
 intro x hx
 obtain ⟨e, _, rfl⟩ := List.mem_map.1 hx
 rfl
theorem cI_one (q : List Int) : ∀ x ∈ q.map cI, x.all oneB = true := by
 intro x hx
 obtain ⟨e, _, rfl⟩ := List.mem_map.1 hx
 rfl
theorem map_atI (q : List Int) (k : Nat) (h : k < q.length) : (q.map cI).getD k [] = cI (g0 q k) := by
 simp [g0, h]
theorem g0_some (q : List Int) (i : Nat) (h : i < q.length) : q[i]? = some (g0 q i) := by
 unfold g0
 rw [List.getD_eq_getElem?_getD, List.getElem?_eq_getElem h]
 rfl
def PartsIn : Prop := ∀ (g m : Nat) (room : Int) (down : Bool) (es : List GP) (w : World), GDm w g m room down es → Rise (es.map GP.pt) → es.length ≤ 1000000 →
 Calls Tryz.prog 116 #[.pointer (some ⟨g, 0, none⟩)] w fun e w' => ∃ v F', e = .returned v ∧ OwnX 3 1 w' F' v ((es.map (fun e => e.n)).map cI) ∧ Fr [] w w' ∧ ∀ y ∈ F', w.heap.size ≤ y
theorem own_take {w : World} {T : TypeId} {F : List Nat} {A : Option Addr} {n cap k : Nat} {q : List UInt8} (h : OwnX T 1 w F (.slice A n cap) (q.map cB)) (hk : k ≤ q.length) : OwnX T 1 w F (.slice A k cap) ((q.take k).map cB) := by
 rcases h with ⟨h5, h6, h7⟩ | ⟨b, cap', h5, h6, h7⟩
 ·
  have hb0 : q = [] := List.map_eq_nil_iff.1 h7
  simp only [Value.slice.injEq] at h6
  have hk0 : k = 0 := by rw [hb0] at hk; simpa using hk
  refine .inl ⟨h5, ?_, by rw [hb0]; simp⟩
  rw [h6.1, h6.2.2, hk0]
 ·
  simp only [Value.slice.injEq] at h6
  refine .inr ⟨b, cap, h5, ?_, ?_⟩
  ·
   rw [h6.1, List.length_map, List.length_take, Nat.min_eq_left (by omega)]
  ·
   rw [List.map_take, h6.2.2]
   exact h7.take k
theorem own_cap {w : World} {T : TypeId} {size : Nat} {F : List Nat} {A : Option Addr} {n cap : Nat} {xs : List (List Value)} (h : OwnX T size w F (.slice A n cap) xs) (hn : xs.length = n) : n ≤ cap := by
 rcases h with ⟨h5, h6, h7⟩ | ⟨b, cap', h5, h6, h7⟩
 ·
  simp only [Value.slice.injEq] at h6
  omega
 ·
  simp only [Value.slice.injEq] at h6
  have := h7.le
  omega
theorem GDm.down {w w1 : World} {g m : Nat} {room : Int} {d : Bool} {es : List GP} (h : GDm w g m room d es) (hb : Blk w1 g #[.int .i64 room, .map (some m), .bool true] 146) (k : Fr [g] w w1) : GDm w1 g m room true es := by
 have hnd := h.nodup
 simp only [List.nodup_cons, List.mem_cons, not_or] at hnd
 refine ⟨hb, h.map.keep k (by simpa using Ne.symm hnd.1.1), fun e he => (h.parts e he).keep k fun z hz hz2 => ?_, h.nodup⟩
 rw [List.mem_singleton.1 hz2] at hz
 exact hnd.1.2 (mem_foot.2 ⟨e, he, hz⟩)
theorem g0_at {a b : List Int} {e : Int} {i : Nat} (h : a.length = i) : g0 (a ++ e :: b) i = e := by
 subst h
 simp [g0]
theorem no_left {x y : List GP} {e : GP} (h : Rise ((x ++ e :: y).map GP.pt)) : ∀ q ∈ x.map GP.pt, q.n ≠ e.n := fun q hq => by
 rw [List.map_append, List.map_cons] at h
 have := (List.pairwise_append.1 h).2.2 q hq e.pt (by simp)
 have h2 : e.pt.n = e.n := rfl
 omega
set_option maxRecDepth 100000 in
set_option maxHeartbeats 400000 in
theorem crash_down (g m : Nat) (room : Int) (es : List (Int × Nat)) (keep : Int) (w : World) (HB : Blk w g #[.int .i64 room, .map (some m), .bool true] 146) (HM : MapI Tryz.prog 3 w m es) (hgm : g ≠ m) :
  Calls Tryz.prog 43 #[.pointer (some ⟨g, 0, none⟩), .int .i64 keep] w fun e w' => e = .returned (.tuple #[]) ∧ Fr [] w w' := by
 have HA := Fr.refl [] w
 refine enter (N := 66) Tryz.func43 (c := _) rfl (by kernel_rfl) (by kernel_rfl) (e := [(0, .pointer (some ⟨g, 0, none⟩)), (1, .int .i64 keep)]) (by kernel_rfl) ?_
 refine WE.seq ?_
 refine WE.seq ?_
 refine WE.region ?_
 refine WO.run 3 0 [(10, .pointer (some ⟨g, 2, none⟩)), (9, .pointer (some ⟨g, 0, none⟩)), (8, .pointer (some ⟨g, 0, none⟩))] (by kernel_rfl) (by kernel_rfl) ?_
 refine WO.ld (SQ.S 3 (by kernel_rfl)) 11 (.bool true) (by kernel_rfl) (same (HB.at 2 (by kernel_rfl))) ?_
 refine WO.done (by kernel_rfl) ?_
 refine WQ.keep [0, 1, 11] (e' := [(0, .pointer (some ⟨g, 0, none⟩)), (1, .int .i64 keep), (11, .bool true)]) (by kernel_rfl) ?_
 refine WQ.thenN ?_
 refine WE.condT (by kernel_rfl) ?_
 refine WE.ret ?_
 refine WQ.thenR ?_
 refine WQ.ret (v := .tuple #[]) (by kernel_rfl) ?_
 exact ⟨rfl, HA⟩
set_option maxRecDepth 100000 in
set_option maxHeartbeats 400000 in
theorem crash_run (hp : PartsIn) (g m : Nat) (room : Int) (es : List GP) (keep : Int) (F : List Nat) (w : World) (HD0 : GDm w g m room false es) (hF : F = g :: m :: foot es) (hr : Rise (es.map GP.pt)) (hel : es.length ≤ 1000000) (hkr : -9223372036854775808 ≤ keep ∧ keep ≤ 9223372036854775807) (hsy : ∀ e ∈ es, e.s ≤ e.b.length ∧ e.b.length ≤ 1000000 ∧ -9223372036854775808 ≤ e.n ∧ e.n ≤ 9223372036854775807) (hlt : ∀ y ∈ F, y < w.heap.size) :
  Calls Tryz.prog 43 #[.pointer (some ⟨g, 0, none⟩), .int .i64 keep] w fun e w' => e = .returned (.tuple #[]) ∧ ∃ es', crashL keep.toNat (es.map GP.pt) = es'.map GP.pt ∧ GDm w' g m room true es' ∧ F = g :: m :: foot es' ∧ Fr F w w' := by
 have HB := HD0.blk
 have HM := HD0.map
 have hgm : g ≠ m := by have h_ := HD0.nodup; intro h; subst h; simp at h_
 have HA := Fr.refl F w
 refine enter (N := 66) Tryz.func43 (c := _) rfl (by kernel_rfl) (by kernel_rfl) (e := [(0, .pointer (some ⟨g, 0, none⟩)), (1, .int .i64 keep)]) (by kernel_rfl) ?_
 refine WE.seq ?_
 refine WE.seq ?_
 refine WE.region ?_
 refine WO.run 3 0 [(10, .pointer (some ⟨g, 2, none⟩)), (9, .pointer (some ⟨g, 0, none⟩)), (8, .pointer (some ⟨g, 0, none⟩))] (by kernel_rfl) (by kernel_rfl) ?_
 refine WO.ld (SQ.S 3 (by kernel_rfl)) 11 (.bool false) (by kernel_rfl) (same (HB.at 2 (by kernel_rfl))) ?_
 refine WO.done (by kernel_rfl) ?_
 refine WQ.keep [0, 1, 11] (e' := [(0, .pointer (some ⟨g, 0, none⟩)), (1, .int .i64 keep), (11, .bool false)]) (by kernel_rfl) ?_
 refine WQ.thenN ?_
 refine WE.condF (by kernel_rfl) ?_
 refine WE.skip ?_
 refine WQ.thenN ?_
 refine WE.seq ?_
 refine WE.region ?_
 refine WO.run 1 0 [(12, .int .i64 keep)] (by kernel_rfl) (by kernel_rfl) ?_
 refine WO.one (SQ.F 1 (by kernel_rfl)) 13 (.int .i64 (if keep < 0 then 0 else keep)) (by kernel_rfl) ?_
 refine WO.top (v' := .int .i64 ((keep.toNat : Nat) : Int)) (congrArg (Value.int .i64) (by split <;> omega)) ?_
 refine WO.run 1 2 [(1, .int .i64 ((keep.toNat : Nat) : Int))] (by kernel_rfl) (by kernel_rfl) ?_
 refine WO.done (by kernel_rfl) ?_
 refine WQ.keep [0, 1, 11] (e' := [(0, .pointer (some ⟨g, 0, none⟩)), (1, .int .i64 ((keep.toNat : Nat) : Int)), (11, .bool false)]) (by kernel_rfl) ?_
 refine WQ.thenN ?_
 refine WE.seq ?_
 refine WE.seq ?_
 refine WE.region ?_
 refine WO.run 1 0 [(14, .pointer (some ⟨g, 0, none⟩))] (by kernel_rfl) (by kernel_rfl) ?_
 refine WO.call (SQ.E 1 (by kernel_rfl)) 15 (by kernel_rfl) (hp g m room false es _ HD0 hr hel) ?_
 rintro _ w1 ⟨v0, G0, rfl, HO0, F2, hG0⟩
 refine ⟨_, rfl, trivial, ?_⟩
 have HB := Blk.keep HB F2 (nin0 _)
 have HD0 := HD0.keep F2 (fun _ _ => nin0 _)
 have HM := HM.keep F2 (nin0 _)
 have HA := Fr.step0 HA F2
 rcases HO0 with ⟨_, rfl, h0⟩ | ⟨b, cap, rfl, rfl, HR⟩
 ·
  obtain rfl : es = [] := by simpa using h0
  refine WO.run 2 2 [(17, .int .i64 0), (16, .int .i64 0)] (by kernel_rfl) (by kernel_rfl) ?_
  refine WO.done (by kernel_rfl) ?_
  refine WQ.keep [0, 1, 11, 15, 16, 17] (e' := [(0, .pointer (some ⟨g, 0, none⟩)), (1, .int .i64 ((keep.toNat : Nat) : Int)), (11, .bool false), (15, .slice none 0 0), (16, .int .i64 0), (17, .int .i64 0)]) (by kernel_rfl) ?_
  refine WQ.thenN ?_
  refine WE.block ?_
  refine WE.loop (α := Unit) (E := fun _ => [(0, .pointer (some ⟨g, 0, none⟩)), (1, .int .i64 ((keep.toNat : Nat) : Int)), (11, .bool false), (15, .slice none 0 0), (16, .int .i64 0), (17, .int .i64 0)]) (I := fun _ wr => w1 = wr) (m := fun _ => 0) () [0, 1, 11, 15, 16, 17] (by kernel_rfl) ?_ ?_
  ·
   rfl
  rintro _ wr hw
  subst hw
  refine WE.seq ?_
  refine WE.region ?_
  refine WO.run 1 0 [(18, .bool false)] (by kernel_rfl) (by kernel_rfl) ?_
  refine WO.done (by kernel_rfl) ?_
  refine WQ.keep [0, 1, 11, 15, 16, 17, 18] (e' := [(0, .pointer (some ⟨g, 0, none⟩)), (1, .int .i64 ((keep.toNat : Nat) : Int)), (11, .bool false), (15, .slice none 0 0), (16, .int .i64 0), (17, .int .i64 0), (18, .bool false)]) (by kernel_rfl) ?_
  refine WQ.thenN ?_
  refine WE.seq ?_
  refine WE.condF (by kernel_rfl) ?_
  refine WE.exit ?_
  refine WQ.thenE ?_
  refine WQ.thenE ?_
  refine WQ.blkE ?_
  refine WQ.thenN ?_
  have HZ := Fr.refl [g] w1
  refine WE.region ?_
  refine WO.run 3 0 [(65, .pointer (some ⟨g, 2, none⟩)), (64, .pointer (some ⟨g, 0, none⟩)), (63, .pointer (some ⟨g, 0, none⟩))] (by kernel_rfl) (by kernel_rfl) ?_
  refine WO.st (SQ.E 3 (by kernel_rfl)) g 2 [.bool true] #[.int .i64 room, .map (some m), .bool true] (by kernel_rfl) HB (by kernel_rfl) (by kernel_rfl) (fun _ _ => trivial) ?_
  intro w3 HB5 F4 _
  have HM := HM.keep F4 (ninC (Ne.symm hgm) (nin0 _))
  have HZ := Fr.step HZ F4 (inSL (by simp) inS0)
  refine WO.done (by kernel_rfl) ?_
  refine WQ.keep [0, 1, 11, 15, 16, 17, 18] (e' := [(0, .pointer (some ⟨g, 0, none⟩)), (1, .int .i64 ((keep.toNat : Nat) : Int)), (11, .bool false), (15, .slice none 0 0), (16, .int .i64 0), (17, .int .i64 0), (18, .bool false)]) (by kernel_rfl) ?_
  refine WQ.fall (v := .tuple #[]) (by kernel_rfl) ?_
  exact ⟨rfl, [], rfl, HD0.down HB5 HZ, hF, HA.step HZ (fun z hz => .inl (by rw [List.mem_singleton.1 hz, hF]; simp))⟩
 ·
  have hlen : (es.map fun e => e.n).length = es.length := List.length_map _
  have hbge : w.heap.size ≤ b := hG0 b (by simp)
  rw [show (List.map cI (List.map (fun e => e.n) es)).length = es.length by simp]
  have hgb : g ≠ b := by have := hlt g (by rw [hF]; simp); omega
  have hmb : m ≠ b := by have := hlt m (by rw [hF]; simp); omega
  refine WO.run 2 2 [(17, .int .i64 0), (16, .int .i64 (es.length : Int))] (by kernel_rfl) (by kernel_rfl) ?_
  refine WO.done (by kernel_rfl) ?_
  refine WQ.keep [0, 1, 11, 15, 16, 17] (e' := [(0, .pointer (some ⟨g, 0, none⟩)), (1, .int .i64 ((keep.toNat : Nat) : Int)), (11, .bool false), (15, .slice (some ⟨b, 0, none⟩) es.length cap), (16, .int .i64 (es.length : Int)), (17, .int .i64 0)]) (by kernel_rfl) ?_
  refine WQ.thenN ?_
  refine WE.block ?_
  refine WE.loop (α := Nat × List GP × List GP × Nat) (E := fun ⟨i, x, y, kp⟩ => [(0, .pointer (some ⟨g, 0, none⟩)), (1, .int .i64 (kp : Int)), (11, .bool false), (15, .slice (some ⟨b, 0, none⟩) es.length cap), (16, .int .i64 (es.length : Int)), (17, .int .i64 (i : Int))]) (I := fun ⟨i, x, y, kp⟩ wr => x.length = i ∧ x.map (fun e => e.n) ++ y.map (fun e => e.n) = es.map (fun e => e.n) ∧ GDm wr g m room false (x ++ y) ∧ RowB wr b 3 1 cap ((es.map fun e => e.n).map cI) ∧ Fr F w wr ∧ (∀ e ∈ y, e.s ≤ e.b.length ∧ e.b.length ≤ 1000000 ∧ -9223372036854775808 ≤ e.n ∧ e.n ≤ 9223372036854775807) ∧ crashL keep.toNat (es.map GP.pt) = x.map GP.pt ++ crashL kp (y.map GP.pt) ∧ g :: m :: foot (x ++ y) = F ∧ kp ≤ keep.toNat) (m := fun ⟨i, x, y, kp⟩ => y.length) (0, [], es, keep.toNat) [0, 1, 11, 15, 16, 17] (by kernel_rfl) ?_ ?_
  ·
   exact ⟨rfl, rfl, HD0, HR, HA, hsy, rfl, hF.symm, Nat.le_refl _⟩
  rintro ⟨i, x, y, kp⟩ wr ⟨hi, hnn, HD, HR, HA, hsy, hcr, hfo, hkp⟩
  dsimp only at hi hnn HD HR hsy hcr hfo hkp ⊢
  have hlx := congrArg List.length hnn
  simp only [List.length_append, List.length_map] at hlx
  have HB := HD.blk
  have HM := HD.map
  refine WE.seq ?_
  refine WE.region ?_
  refine WO.one (SQ.F 0 (by kernel_rfl)) 18 (.bool (decide (((i : Int) : Int) < (es.length : Int)))) (by kernel_rfl) ?_
  refine WO.topP (((i : Int) : Int) < (es.length : Int)) ?_ ?_
  ·
   intro h6
   refine WO.done (by kernel_rfl) ?_
   refine WQ.keep [0, 1, 11, 15, 16, 17, 18] (e' := [(0, .pointer (some ⟨g, 0, none⟩)), (1, .int .i64 (kp : Int)), (11, .bool false), (15, .slice (some ⟨b, 0, none⟩) es.length cap), (16, .int .i64 (es.length : Int)), (17, .int .i64 (i : Int)), (18, .bool true)]) (by kernel_rfl) ?_
   refine WQ.thenN ?_
   refine WE.seq ?_
   refine WE.condT (by kernel_rfl) ?_
   refine WE.skip ?_
   refine WQ.thenN ?_
   refine WE.seq ?_
   refine WE.block ?_
   refine WE.seq ?_
   obtain ⟨e, y', rfl⟩ : ∃ e y', y = e :: y' := by cases y with | nil => simp at hlx; omega | cons a b => exact ⟨_, _, rfl⟩
   have hP := HD.parts e (by simp)
   obtain ⟨A, cp, hv⟩ := hP.2.sliceN (List.length_map _)
   have HK1 := hP.1
   rw [hv] at HK1
   have hcap : e.b.length ≤ cp := own_cap (hv ▸ hP.2) (List.length_map _)
   obtain ⟨hsl, hbl, hn1, hn2⟩ := hsy e (by simp)
   have hnd := HD.nodup
   rw [foot_app, foot_cons] at hnd
   have hgk : g ≠ e.k := by intro h; subst h; simp [GP.foot] at hnd
   have hmk : m ≠ e.k := by intro h; subst h; simp [GP.foot] at hnd
   have hkF : e.k ∉ e.F := by intro h; simp [GP.foot, h, List.nodup_append] at hnd
   have hbk : b ≠ e.k := by have h_ := hlt e.k (by rw [← hfo, foot_app, foot_cons]; simp [GP.foot]); omega
   have hg0 : g0 (es.map fun e => e.n) i = e.n := by rw [← hnn]; exact g0_at (by simp [hi])
   have hj : -9223372036854775808 ≤ g0 (es.map fun e => e.n) i ∧ g0 (es.map fun e => e.n) i ≤ 9223372036854775807 := by rw [hg0]; exact ⟨hn1, hn2⟩
   have h2_ : ((x ++ e :: y').map GP.pt).map (fun p => p.n) = (es.map GP.pt).map (fun p => p.n) := by simpa [GP.pt, Function.comp_def] using hnn
   have HDr : Rise ((x ++ e :: y').map GP.pt) := (rise_iff _).2 (by rw [h2_]; exact (rise_iff _).1 hr)
   have hv2 : lkV (ents (x ++ e :: y')) (g0 (es.map fun e => e.n) i) = .pointer (some ⟨e.k, 0, none⟩) := by rw [hg0]; exact lkV_at (hasL_no.2 (no_left HDr)) rfl
   have HK := Fr.refl [e.k] wr
   refine WE.region ?_
   refine WO.ixB (SQ.F 0 (by kernel_rfl)) 19 i b 0 es.length 1 (i : Int) (by kernel_rfl) (by omega) (by omega) (by omega) ?_
   refine WO.ld (SQ.S 1 (by kernel_rfl)) 20 (.int .i64 (g0 (es.map fun e => e.n) i)) (by kernel_rfl) (same (HR.at i 0 i _ (by rw [List.length_map]; have := hlen; omega) (by omega) (by rw [(map_atI (es.map fun e => e.n) i (by have := hlen; omega))]; rfl) (by omega))) ?_
   refine WO.run 1 2 [(5, .int .i64 (g0 (es.map fun e => e.n) i))] (by kernel_rfl) (by kernel_rfl) ?_
   refine WO.done (by kernel_rfl) ?_
   refine WQ.keep [0, 1, 5, 11, 15, 16, 17, 18] (e' := [(0, .pointer (some ⟨g, 0, none⟩)), (1, .int .i64 (kp : Int)), (5, .int .i64 (g0 (es.map fun e => e.n) i)), (11, .bool false), (15, .slice (some ⟨b, 0, none⟩) es.length cap), (16, .int .i64 (es.length : Int)), (17, .int .i64 (i : Int)), (18, .bool true)]) (by kernel_rfl) ?_
   refine WQ.thenN ?_
   refine WE.seq ?_
   refine WE.region ?_
   refine WO.run 3 0 [(23, .pointer (some ⟨g, 1, none⟩)), (22, .pointer (some ⟨g, 0, none⟩)), (21, .pointer (some ⟨g, 0, none⟩))] (by kernel_rfl) (by kernel_rfl) ?_
   refine WO.ld (SQ.S 3 (by kernel_rfl)) 24 (.map (some m)) (by kernel_rfl) (same (HB.at 1 (by kernel_rfl))) ?_
   refine WO.run 1 4 [(25, .int .i64 (g0 (es.map fun e => e.n) i))] (by kernel_rfl) (by kernel_rfl) ?_
   refine WO.lk1 (SQ.S 5 (by kernel_rfl)) 26 mt (j := g0 (es.map fun e => e.n) i) (by kernel_rfl) (same HM) hj ?_
   refine WO.top (v' := .pointer (some ⟨e.k, 0, none⟩)) (by rw [hv2]) ?_
   refine WO.run 1 6 [(6, .pointer (some ⟨e.k, 0, none⟩))] (by kernel_rfl) (by kernel_rfl) ?_
   refine WO.done (by kernel_rfl) ?_
   refine WQ.keep [0, 1, 5, 6, 11, 15, 16, 17, 18] (e' := [(0, .pointer (some ⟨g, 0, none⟩)), (1, .int .i64 (kp : Int)), (5, .int .i64 (g0 (es.map fun e => e.n) i)), (6, .pointer (some ⟨e.k, 0, none⟩)), (11, .bool false), (15, .slice (some ⟨b, 0, none⟩) es.length cap), (16, .int .i64 (es.length : Int)), (17, .int .i64 (i : Int)), (18, .bool true)]) (by kernel_rfl) ?_
   refine WQ.thenN ?_
   refine WE.seq ?_
   refine WE.draw [.free, .free, .free, .free, .still, .free, .free, .free, .free, .still, .free, .free, .free] Same sameR (by kernel_rfl) 13 (Array.replicate 13 false) (by kernel_rfl) rfl ?_
   intro w7 F8 _
   have HB := Blk.keep HB F8 (nin0 _)
   have HK1 := Blk.keep HK1 F8 (nin0 _)
   have HR := RowB.keep HR F8 (nin0 _)
   have HM := HM.keep F8 (nin0 _)
   have HK := Fr.step0 HK F8
   refine WO.one (SA.F sameR sameT _ 0 _ (by kernel_rfl)) 27 (.int .i64 (kp : Int)) (by kernel_rfl) ?_
   refine WO.one (SA.F sameR sameT _ 1 _ (by kernel_rfl)) 28 (.pointer (some ⟨e.k, 0, none⟩)) (by kernel_rfl) ?_
   refine WO.one (SA.F sameR sameT _ 2 _ (by kernel_rfl)) 29 (.pointer (some ⟨e.k, 0, none⟩)) (by kernel_rfl) ?_
   refine WO.one (SA.F sameR sameT _ 3 _ (by kernel_rfl)) 30 (.pointer (some ⟨e.k, 0, none⟩)) (by kernel_rfl) ?_
   refine WO.ld (SA.S sameR sameT _ 4 _ (by kernel_rfl)) 31 (.slice A e.b.length cp) (by kernel_rfl) (same (HK1.at 0 (by kernel_rfl))) ?_
   refine WO.one (SA.F sameR sameT _ 5 _ (by kernel_rfl)) 32 (.int .i64 (e.b.length : Int)) (by kernel_rfl) ?_
   refine WO.one (SA.F sameR sameT _ 6 _ (by kernel_rfl)) 33 (.pointer (some ⟨e.k, 0, none⟩)) (by kernel_rfl) ?_
   refine WO.one (SA.F sameR sameT _ 7 _ (by kernel_rfl)) 34 (.pointer (some ⟨e.k, 0, none⟩)) (by kernel_rfl) ?_
   refine WO.one (SA.F sameR sameT _ 8 _ (by kernel_rfl)) 35 (.pointer (some ⟨e.k, 1, none⟩)) (by kernel_rfl) ?_
   refine WO.ld (SA.S sameR sameT _ 9 _ (by kernel_rfl)) 36 (.int .i64 ((e.s : Nat) : Int)) (by kernel_rfl) (same (HK1.at 1 (by kernel_rfl))) ?_
   refine WO.one (SA.F sameR sameT _ 10 _ (by kernel_rfl)) 37 (.int .i64 (IntKind.i64.wrap ((e.b.length : Int) - ((e.s : Nat) : Int)))) (by kernel_rfl) ?_
   refine WO.top (v' := .int .i64 ((e.b.length - e.s : Nat) : Int)) (wrap_i64 (by omega) (by omega)) ?_
   refine WO.one (SA.F sameR sameT _ 11 _ (by kernel_rfl)) 38 (.int .i64 (if ((e.b.length - e.s : Nat) : Int) < (kp : Int) then ((e.b.length - e.s : Nat) : Int) else (kp : Int))) (by kernel_rfl) ?_
   refine WO.top (v' := .int .i64 ((min kp (e.b.length - e.s) : Nat) : Int)) (congrArg (Value.int .i64) (by split <;> omega)) ?_
   refine WO.one (SA.F sameR sameT _ 12 _ (by kernel_rfl)) 7 (.int .i64 ((min kp (e.b.length - e.s) : Nat) : Int)) (by kernel_rfl) ?_
   refine WO.doneA (by kernel_rfl) ?_
   refine WQ.keep [0, 1, 5, 6, 7, 11, 15, 16, 17, 18] (e' := [(0, .pointer (some ⟨g, 0, none⟩)), (1, .int .i64 (kp : Int)), (5, .int .i64 (g0 (es.map fun e => e.n) i)), (6, .pointer (some ⟨e.k, 0, none⟩)), (7, .int .i64 ((min kp (e.b.length - e.s) : Nat) : Int)), (11, .bool false), (15, .slice (some ⟨b, 0, none⟩) es.length cap), (16, .int .i64 (es.length : Int)), (17, .int .i64 (i : Int)), (18, .bool true)]) (by kernel_rfl) ?_
   refine WQ.thenN ?_
   refine WE.seq ?_
   refine WE.region ?_
   refine WO.run 2 0 [(40, .int .i64 ((min kp (e.b.length - e.s) : Nat) : Int)), (39, .int .i64 (kp : Int))] (by kernel_rfl) (by kernel_rfl) ?_
   refine WO.one (SQ.F 2 (by kernel_rfl)) 41 (.int .i64 (IntKind.i64.wrap ((kp : Int) - ((min kp (e.b.length - e.s) : Nat) : Int)))) (by kernel_rfl) ?_
   refine WO.top (v' := .int .i64 ((kp - (min kp (e.b.length - e.s)) : Nat) : Int)) (wrap_i64 (by omega) (by omega)) ?_
   refine WO.run 1 3 [(1, .int .i64 ((kp - (min kp (e.b.length - e.s)) : Nat) : Int))] (by kernel_rfl) (by kernel_rfl) ?_
   refine WO.done (by kernel_rfl) ?_
   refine WQ.keep [0, 1, 5, 6, 7, 11, 15, 16, 17, 18] (e' := [(0, .pointer (some ⟨g, 0, none⟩)), (1, .int .i64 ((kp - (min kp (e.b.length - e.s)) : Nat) : Int)), (5, .int .i64 (g0 (es.map fun e => e.n) i)), (6, .pointer (some ⟨e.k, 0, none⟩)), (7, .int .i64 ((min kp (e.b.length - e.s) : Nat) : Int)), (11, .bool false), (15, .slice (some ⟨b, 0, none⟩) es.length cap), (16, .int .i64 (es.length : Int)), (17, .int .i64 (i : Int)), (18, .bool true)]) (by kernel_rfl) ?_
   refine WQ.thenN ?_
   refine WE.seq ?_
   refine WE.region ?_
   refine WO.run 3 0 [(44, .pointer (some ⟨e.k, 1, none⟩)), (43, .pointer (some ⟨e.k, 0, none⟩)), (42, .pointer (some ⟨e.k, 0, none⟩))] (by kernel_rfl) (by kernel_rfl) ?_
   refine WO.ld (SQ.S 3 (by kernel_rfl)) 45 (.int .i64 ((e.s : Nat) : Int)) (by kernel_rfl) (same (HK1.at 1 (by kernel_rfl))) ?_
   refine WO.run 1 4 [(46, .int .i64 ((min kp (e.b.length - e.s) : Nat) : Int))] (by kernel_rfl) (by kernel_rfl) ?_
   refine WO.one (SQ.F 5 (by kernel_rfl)) 47 (.int .i64 (IntKind.i64.wrap (((e.s : Nat) : Int) + ((min kp (e.b.length - e.s) : Nat) : Int)))) (by kernel_rfl) ?_
   refine WO.top (v' := .int .i64 ((e.s + (min kp (e.b.length - e.s)) : Nat) : Int)) (wrap_i64 (by omega) (by omega)) ?_
   refine WO.run 2 6 [(49, .pointer (some ⟨e.k, 1, none⟩)), (48, .pointer (some ⟨e.k, 0, none⟩))] (by kernel_rfl) (by kernel_rfl) ?_
   refine WO.st (SQ.E 8 (by kernel_rfl)) e.k 1 [.int .i64 ((e.s + (min kp (e.b.length - e.s)) : Nat) : Int)] #[.slice A e.b.length cp, .int .i64 ((e.s + (min kp (e.b.length - e.s)) : Nat) : Int)] (by kernel_rfl) HK1 (by kernel_rfl) (by kernel_rfl) (fun _ _ => trivial) ?_
   intro w9 HB11 F10 _
   have HB := Blk.keep HB F10 (ninC hgk (nin0 _))
   have HR := RowB.keep HR F10 (ninC hbk (nin0 _))
   have HM := HM.keep F10 (ninC hmk (nin0 _))
   have HK := Fr.step HK F10 (inSL (by simp) inS0)
   refine WO.done (by kernel_rfl) ?_
   refine WQ.keep [0, 1, 5, 6, 7, 11, 15, 16, 17, 18] (e' := [(0, .pointer (some ⟨g, 0, none⟩)), (1, .int .i64 ((kp - (min kp (e.b.length - e.s)) : Nat) : Int)), (5, .int .i64 (g0 (es.map fun e => e.n) i)), (6, .pointer (some ⟨e.k, 0, none⟩)), (7, .int .i64 ((min kp (e.b.length - e.s) : Nat) : Int)), (11, .bool false), (15, .slice (some ⟨b, 0, none⟩) es.length cap), (16, .int .i64 (es.length : Int)), (17, .int .i64 (i : Int)), (18, .bool true)]) (by kernel_rfl) ?_
   refine WQ.thenN ?_
   refine WE.draw [.free, .free, .free, .free, .still, .free, .free, .free, .still, .free, .free, .free, .eff] Same sameR (by kernel_rfl) 13 (Array.replicate 13 false) (by kernel_rfl) rfl ?_
   intro w12 F13 _
   have HB := Blk.keep HB F13 (nin0 _)
   have HB11 := Blk.keep HB11 F13 (nin0 _)
   have HR := RowB.keep HR F13 (nin0 _)
   have HM := HM.keep F13 (nin0 _)
   have HK := Fr.step0 HK F13
   refine WO.one (SA.F sameR sameT _ 0 _ (by kernel_rfl)) 50 (.pointer (some ⟨e.k, 0, none⟩)) (by kernel_rfl) ?_
   refine WO.one (SA.F sameR sameT _ 1 _ (by kernel_rfl)) 51 (.pointer (some ⟨e.k, 0, none⟩)) (by kernel_rfl) ?_
   refine WO.one (SA.F sameR sameT _ 2 _ (by kernel_rfl)) 52 (.pointer (some ⟨e.k, 0, none⟩)) (by kernel_rfl) ?_
   refine WO.one (SA.F sameR sameT _ 3 _ (by kernel_rfl)) 53 (.pointer (some ⟨e.k, 0, none⟩)) (by kernel_rfl) ?_
   refine WO.ld (SA.S sameR sameT _ 4 _ (by kernel_rfl)) 54 (.slice A e.b.length cp) (by kernel_rfl) (same (HB11.at 0 (by kernel_rfl))) ?_
   refine WO.one (SA.F sameR sameT _ 5 _ (by kernel_rfl)) 55 (.pointer (some ⟨e.k, 0, none⟩)) (by kernel_rfl) ?_
   refine WO.one (SA.F sameR sameT _ 6 _ (by kernel_rfl)) 56 (.pointer (some ⟨e.k, 0, none⟩)) (by kernel_rfl) ?_
   refine WO.one (SA.F sameR sameT _ 7 _ (by kernel_rfl)) 57 (.pointer (some ⟨e.k, 1, none⟩)) (by kernel_rfl) ?_
   refine WO.ld (SA.S sameR sameT _ 8 _ (by kernel_rfl)) 58 (.int .i64 ((e.s + (min kp (e.b.length - e.s)) : Nat) : Int)) (by kernel_rfl) (same (HB11.at 1 (by kernel_rfl))) ?_
   refine WO.sl (SA.F sameR sameT _ 9 _ (by kernel_rfl)) 59 0 (e.s + (min kp (e.b.length - e.s))) A e.b.length cp 1 none (some ((e.s + (min kp (e.b.length - e.s)) : Nat) : Int)) (by kernel_rfl) (by rfl) (by simp only [Option.getD_some] <;> omega) (by omega) (by omega) ?_
   refine WO.top (sl0 _ _ _ _) ?_
   refine WO.one (SA.F sameR sameT _ 10 _ (by kernel_rfl)) 60 (.pointer (some ⟨e.k, 0, none⟩)) (by kernel_rfl) ?_
   refine WO.one (SA.F sameR sameT _ 11 _ (by kernel_rfl)) 61 (.pointer (some ⟨e.k, 0, none⟩)) (by kernel_rfl) ?_
   refine WO.st (SA.E _ 12 _ (by kernel_rfl) rfl) e.k 0 [.slice A (e.s + (min kp (e.b.length - e.s))) cp] #[.slice A (e.s + (min kp (e.b.length - e.s))) cp, .int .i64 ((e.s + (min kp (e.b.length - e.s)) : Nat) : Int)] (by kernel_rfl) HB11 (by kernel_rfl) (by kernel_rfl) (fun _ _ => trivial) ?_
   intro w14 HB16 F15 _
   have HB := Blk.keep HB F15 (ninC hgk (nin0 _))
   have HR := RowB.keep HR F15 (ninC hbk (nin0 _))
   have HM := HM.keep F15 (ninC hmk (nin0 _))
   have HK := Fr.step HK F15 (inSL (by simp) inS0)
   refine WO.doneA (by kernel_rfl) ?_
   refine WQ.keep [0, 1, 5, 6, 7, 11, 15, 16, 17, 18] (e' := [(0, .pointer (some ⟨g, 0, none⟩)), (1, .int .i64 ((kp - (min kp (e.b.length - e.s)) : Nat) : Int)), (5, .int .i64 (g0 (es.map fun e => e.n) i)), (6, .pointer (some ⟨e.k, 0, none⟩)), (7, .int .i64 ((min kp (e.b.length - e.s) : Nat) : Int)), (11, .bool false), (15, .slice (some ⟨b, 0, none⟩) es.length cap), (16, .int .i64 (es.length : Int)), (17, .int .i64 (i : Int)), (18, .bool true)]) (by kernel_rfl) ?_
   refine WQ.blkN ?_
   refine WQ.thenN ?_
   refine WE.region ?_
   refine WO.one (SQ.F 0 (by kernel_rfl)) 62 (.int .i64 (IntKind.i64.wrap ((i : Int) + 1))) (by kernel_rfl) ?_
   refine WO.top (v' := .int .i64 ((i + 1 : Nat) : Int)) (wrap_i64 (by omega) (by omega)) ?_
   refine WO.run 1 1 [(17, .int .i64 ((i + 1 : Nat) : Int))] (by kernel_rfl) (by kernel_rfl) ?_
   refine WO.done (by kernel_rfl) ?_
   refine WQ.keep [0, 1, 5, 6, 7, 11, 15, 16, 17, 18] (e' := [(0, .pointer (some ⟨g, 0, none⟩)), (1, .int .i64 ((kp - (min kp (e.b.length - e.s)) : Nat) : Int)), (5, .int .i64 (g0 (es.map fun e => e.n) i)), (6, .pointer (some ⟨e.k, 0, none⟩)), (7, .int .i64 ((min kp (e.b.length - e.s) : Nat) : Int)), (11, .bool false), (15, .slice (some ⟨b, 0, none⟩) es.length cap), (16, .int .i64 (es.length : Int)), (17, .int .i64 ((i + 1 : Nat) : Int)), (18, .bool true)]) (by kernel_rfl) ?_
   have HN := HD.set (e' := { e with b := e.b.take (e.s + min kp (e.b.length - e.s)), s := e.s + min kp (e.b.length - e.s), v := .slice A (e.s + min kp (e.b.length - e.s)) cp }) HK (by simp [GP.foot]) rfl rfl (fun z hz => .inl hz) (own_nodup hP.2) ⟨HB16, own_take (hv ▸ hP.2.keep HK (fun z hz hz2 => hkF (List.mem_singleton.1 hz2 ▸ hz))) (by omega)⟩
   refine WQ.round ?_
   intro a_ ha_
   refine ⟨(i + 1, x ++ [{ e with b := e.b.take (e.s + min kp (e.b.length - e.s)), s := e.s + min kp (e.b.length - e.s), v := .slice A (e.s + min kp (e.b.length - e.s)) cp }], y', kp - min kp (e.b.length - e.s)), ?_, ha_.keep [0, 1, 11, 15, 16, 17] (by kernel_rfl), ?_⟩
   ·
    exact Nat.lt_succ_self _
   ·
    exact ⟨by simp [hi], by rw [← hnn]; simp, by rw [List.append_assoc]; exact HN, HR, HA.step HK (fun z hz => .inl (by rw [List.mem_singleton.1 hz, ← hfo, foot_app, foot_cons]; simp [GP.foot])), fun q hq => hsy q (List.mem_cons_of_mem _ hq), by rw [hcr]; simp [crashL, GP.pt], by dsimp only; rw [← hfo, List.append_assoc, List.singleton_append, foot_app, foot_app, foot_cons, foot_cons]; rfl, by dsimp only; omega⟩
  intro h6
  refine WO.done (by kernel_rfl) ?_
  refine WQ.keep [0, 1, 11, 15, 16, 17, 18] (e' := [(0, .pointer (some ⟨g, 0, none⟩)), (1, .int .i64 (kp : Int)), (11, .bool false), (15, .slice (some ⟨b, 0, none⟩) es.length cap), (16, .int .i64 (es.length : Int)), (17, .int .i64 (i : Int)), (18, .bool false)]) (by kernel_rfl) ?_
  refine WQ.thenN ?_
  refine WE.seq ?_
  refine WE.condF (by kernel_rfl) ?_
  refine WE.exit ?_
  refine WQ.thenE ?_
  refine WQ.thenE ?_
  refine WQ.blkE ?_
  refine WQ.thenN ?_
  obtain rfl : y = [] := by cases y with | nil => rfl | cons a b => simp at hlx; omega
  rw [List.append_nil] at HD hfo
  rw [show crashL kp (List.map GP.pt []) = [] from rfl, List.append_nil] at hcr
  have HZ := Fr.refl [g] wr
  refine WE.region ?_
  refine WO.run 3 0 [(65, .pointer (some ⟨g, 2, none⟩)), (64, .pointer (some ⟨g, 0, none⟩)), (63, .pointer (some ⟨g, 0, none⟩))] (by kernel_rfl) (by kernel_rfl) ?_
  refine WO.st (SQ.E 3 (by kernel_rfl)) g 2 [.bool true] #[.int .i64 room, .map (some m), .bool true] (by kernel_rfl) HB (by kernel_rfl) (by kernel_rfl) (fun _ _ => trivial) ?_
  intro w17 HB19 F18 _
  have HR := RowB.keep HR F18 (ninC (Ne.symm hgb) (nin0 _))
  have HZ := Fr.step HZ F18 (inSL (by simp) inS0)
  refine WO.done (by kernel_rfl) ?_
  refine WQ.keep [0, 1, 11, 15, 16, 17, 18] (e' := [(0, .pointer (some ⟨g, 0, none⟩)), (1, .int .i64 (kp : Int)), (11, .bool false), (15, .slice (some ⟨b, 0, none⟩) es.length cap), (16, .int .i64 (es.length : Int)), (17, .int .i64 (i : Int)), (18, .bool false)]) (by kernel_rfl) ?_
  refine WQ.fall (v := .tuple #[]) (by kernel_rfl) ?_
  exact ⟨rfl, x, hcr, HD.down HB19 HZ, hfo.symm, HA.step HZ (fun z hz => .inl (by rw [List.mem_singleton.1 hz, ← hfo]; simp))⟩
end Go.Proofs.YtjfgmdkdcnfdoaaGreatDoor.Disk
end
