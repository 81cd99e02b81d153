/- Layer 8: the document's disk by contract. -/
import Derived.Test.YtkhibpdkgjapgaaDiskN
set_option linter.unusedVariables false
set_option linter.unusedSimpArgs false
namespace Go.Proofs.Ytkhibpdkgjapgaa.Disk
open Go Go.RowKit Go.Proofs.Ytkhibpdkgjapgaa Go.Proofs.Ytkhibpdkgjapgaa.Eng Go.Proofs.YtkhibpdkgjapgaaW.PrintWords
def MDisk (w : World) (g : Nat) (F : List Nat) (d : Dk) : Prop := ∃ v G, F = g :: G ∧ g ∉ G ∧ Blk w g #[.int .i64 d.room, v, .bool d.down] 40 ∧ OwnX 54 3 w G v (d.l.map cP)
def MPost (g : Nat) (F : List Nat) (w : World) (v : Value) (d' : Dk) (e : Ending) (w' : World) : Prop := e = .returned v ∧ ∃ F', MDisk w' g F' d' ∧ Fr F w w' ∧ ∀ y ∈ F', y ∈ F ∨ w.heap.size ≤ y
theorem MDisk.keep {w w1 : World} {S : List Nat} {g : Nat} {F : List Nat} {d : Dk} (h : MDisk w g F d) (k : Fr S w w1) (hn : ∀ y ∈ F, y ∉ S) : MDisk w1 g F d := by
  obtain ⟨v, G, rfl, h1, h2, h3⟩ := h
  exact ⟨v, G, rfl, h1, h2.keep k (hn g (by simp)), h3.keep k fun y hy => hn y (by simp [hy])⟩
theorem MDisk.lt {w : World} {g : Nat} {F : List Nat} {d : Dk} (h : MDisk w g F d) : ∀ y ∈ F, y < w.heap.size := by
  obtain ⟨v, G, rfl, h1, h2, h3⟩ := h
  intro y hy
  rcases List.mem_cons.1 hy with rfl | hy
  · exact h2.lt
  · exact h3.lt y hy
theorem MPost.same {g : Nat} {F : List Nat} {w : World} {v : Value} {d : Dk} {e : Ending} {w' : World} (h : MDisk w g F d) (he : e = .returned v) (hF : Fr [] w w') : MPost g F w v d e w' :=
  ⟨he, F, h.keep hF (by simp), hF.only (by simp), fun y hy => .inl hy⟩
structure MV (w : World) (g : Nat) (F : List Nat) (d : Dk) (A : Option Addr) (cap : Nat) (G : List Nat) : Prop where
  hF : F = g :: G
  hg : g ∉ G
  blk : Blk w g #[.int .i64 d.room, .slice A d.l.length cap, .bool d.down] 40
  view : VX cP 3 w G A d.l
  own : OwnX 54 3 w G (.slice A d.l.length cap) (d.l.map cP)
  cap : d.l.length ≤ cap
theorem mview {w : World} {g : Nat} {F : List Nat} {d : Dk} (h : MDisk w g F d) : ∃ A cap G, MV w g F d A cap G := by
  obtain ⟨v, G, rfl, h1, h2, h3⟩ := h
  obtain ⟨A, cap, rfl⟩ := h3.sliceN (List.length_map _)
  exact ⟨A, cap, G, rfl, h1, h2, VX.of_own h3, h3, own_cap h3 (List.length_map _)⟩
theorem gP_no {l : List Pt} {n : Int} (h : hasL l n = false) : ∀ j, j < l.length → (gP l j).n ≠ n := fun j hj => hasL_no.1 h _ (by
  have := List.getElem_mem hj
  unfold gP
  rw [List.getD_eq_getElem?_getD, List.getElem?_eq_getElem hj]
  exact this)
theorem gP_left {x y : List Pt} {j : Nat} (h : j < x.length) : gP (x ++ y) j = gP x j := by
  unfold gP
  rw [List.getD_eq_getElem?_getD, List.getD_eq_getElem?_getD, List.getElem?_append_left h]
theorem gP_mem {l : List Pt} {j : Nat} (h : j < l.length) : gP l j ∈ l := List.mem_of_getElem? (gP_some l j h)
structure MFd (w : World) (g b : Nat) (F : List Nat) (d : Dk) (n : Int) (cap k : Nat) (x : List Pt) (p : Pt) (y : List Pt) : Prop where
  dn : d.down = false
  hF : F = [g, b]
  hg : g ≠ b
  blk : Blk w g #[.int .i64 d.room, .slice (some ⟨b, 0, none⟩) d.l.length cap, .bool false] 40
  row : RowB w b 54 3 cap (d.l.map cP)
  hl : d.l = x ++ p :: y
  hk : x.length = k
  kl : k < d.l.length
  at' : gP d.l k = p
  n' : (gP d.l k).n = n
  bef : ∀ j, j < k → (gP d.l j).n ≠ n
  hx : hasL x n = false
  hy : hasL y n = false
  hp : p.n = n
theorem mfound {w : World} {g : Nat} {F : List Nat} {d : Dk} {n : Int} (h : MDisk w g F d) (ho : d.Ok) (hd : d.down = false) (hh : hasL d.l n = true) : ∃ b cap k x p y, MFd w g b F d n cap k x p y := by
  obtain ⟨A, cap, G, V⟩ := mview h
  obtain ⟨x, p, y, hl, hp, hx, hy⟩ := part_at ho.rise hh
  have hpos : 0 < (d.l.map cP).length := by rw [hl]; simp; omega
  obtain ⟨b, hG, rfl, hrow⟩ := V.own.pos hpos
  have hat : gP d.l x.length = p := by rw [hl]; exact gP_at _ _ _ _ rfl
  refine ⟨b, cap, x.length, x, p, y, hd, by rw [V.hF, hG], ?_, by have h_ := V.blk; rw [hd] at h_; exact h_, hrow, hl, rfl, by rw [hl]; simp, hat, by rw [hat]; exact hp, fun j hj => ?_, hx, hy, hp⟩
  · have := V.hg
    rw [hG] at this
    simpa using this
  · rw [hl, gP_left hj]
    exact gP_no hx j hj
theorem Dk.Ok.el {d : Dk} (ho : d.Ok) : ∀ j, j < d.l.length → (gP d.l j).s ≤ (gP d.l j).b.length ∧ (gP d.l j).b.length ≤ 1000000 := fun j hj => by
  have h1 := gP_mem hj
  have h2 := ho.sync _ h1
  have h3 := usedL_mem h1
  have h4 := ho.fits
  have h5 := ho.room
  exact ⟨h2, by omega⟩
/-- the row has turned -/
theorem MPost.row {w w' : World} {g b : Nat} {F : List Nat} {d d' : Dk} {n : Int} {cap k : Nat} {x y : List Pt} {p q : Pt} {v : Value} (H : MFd w g b F d n cap k x p y) (hd : d' = { d with l := x ++ q :: y }) (hrow : RowB w' b 54 3 cap ((d.l.set k q).map cP)) (hF : Fr [b] w w') : MPost g F w v d' (.returned v) w' := by
  have hs : d.l.set k q = x ++ q :: y := by rw [H.hl]; exact set_at _ _ _ _ _ H.hk
  rw [hs] at hrow
  have hlen : (x ++ q :: y).length = d.l.length := by rw [H.hl]; simp
  refine ⟨rfl, F, ⟨.slice (some ⟨b, 0, none⟩) d.l.length cap, [b], H.hF, by simpa using H.hg, ?_, ?_⟩, hF.only (by rw [H.hF]; simp), fun y hy => .inl hy⟩
  · rw [hd]
    show Blk w' g #[.int .i64 d.room, .slice (some ⟨b, 0, none⟩) d.l.length cap, .bool d.down] _
    rw [H.dn]
    exact H.blk.keep hF (by simpa using H.hg)
  · rw [hd]
    exact OwnX.row hrow (by rw [List.length_map]; exact hlen)
theorem mlost {d : Dk} {n : Int} (ht : there d n ≠ 0) : (d.down = true ∧ there d n = 10) ∨ (d.down = false ∧ there d n = 4 ∧ hasL d.l n = false) := by
  unfold there at ht ⊢
  cases hdn : d.down with
  | true => exact .inl ⟨rfl, by simp⟩
  | false =>
    rw [hdn] at ht
    cases hh : hasL d.l n with
    | true => rw [hh] at ht; simp at ht
    | false => exact .inr ⟨rfl, by simp, rfl⟩
theorem upd_set {x y : List Pt} {p q : Pt} {n : Int} {f : Pt → Pt} {l : List Pt} (hl : l = x ++ p :: y) (hx : hasL x n = false) (hy : hasL y n = false) (hp : p.n = n) (hf : f p = q) : updL l n f = x ++ q :: y := by
  rw [hl, updL_at hx hy hp, hf]
theorem mused (g : Nat) (F : List Nat) (d : Dk) (w : World) (h : MDisk w g F d) (ho : d.Ok) (hel : d.l.length ≤ 1000000) :
    Calls Try.prog 24 #[.pointer (some ⟨g, 0, none⟩)] w fun e w' => e = .returned (.int .i64 (usedL d.l : Int)) ∧ Fr [] w w' := by
  obtain ⟨A, cap, G, V⟩ := mview h
  have h1 := ho.fits
  have h2 := ho.room
  exact mused_any g d.room A _ cap d.l G w d.down V.blk V.view rfl V.hg hel (by omega)
theorem msync (g : Nat) (F : List Nat) (d : Dk) (n : Int) (w : World) (h : MDisk w g F d) (ho : d.Ok) (hel : d.l.length ≤ 1000000) :
    Calls Try.prog 15 #[.pointer (some ⟨g, 0, none⟩), .int .i64 n] w (MPost g F w (.int .i64 (sync d n).1) (sync d n).2) := by
  by_cases ht : there d n = 0
  · obtain ⟨hdn, hh⟩ := there_0 ht
    obtain ⟨b, cap, k, x, p, y, H⟩ := mfound h ho hdn hh
    have hs : sync d n = (0, { d with l := updL d.l n fun p => ⟨p.n, p.b, p.b.length⟩ }) := by unfold sync; rw [if_pos ht]
    rw [hs]
    refine (msync_some g b d.room _ cap d.l n w H.blk H.row rfl H.hg (by simpa using H.hg) hel k H.kl H.n' H.bef ho.el).mono fun e w' hh => ?_
    obtain ⟨rfl, h2, h3⟩ := hh
    rw [H.at'] at h2
    exact MPost.row H (by rw [upd_set H.hl H.hx H.hy H.hp rfl]) h2 h3
  · have hs : sync d n = (there d n, d) := by unfold sync; rw [if_neg ht]
    rw [hs]
    obtain ⟨A, cap, G, V⟩ := mview h
    have hb := V.blk
    rcases mlost ht with ⟨hdn, h4⟩ | ⟨hdn, h4, hno⟩ <;> (rw [hdn] at hb; rw [h4])
    · exact (msync_down g d.room A _ cap d.l G n w hb V.view rfl V.hg hel).mono fun en w' hh => MPost.same h hh.1 hh.2
    · exact (msync_none g d.room A _ cap d.l G n w hb V.view rfl V.hg hel (gP_no hno)).mono fun en w' hh => MPost.same h hh.1 hh.2
theorem mcut (g : Nat) (F : List Nat) (d : Dk) (n z : Int) (w : World) (h : MDisk w g F d) (ho : d.Ok) (hel : d.l.length ≤ 1000000) :
    Calls Try.prog 17 #[.pointer (some ⟨g, 0, none⟩), .int .i64 n, .int .i64 z] w (MPost g F w (.int .i64 (cut d n z).1) (cut d n z).2) := by
  by_cases ht : there d n = 0
  · obtain ⟨hdn, hh⟩ := there_0 ht
    obtain ⟨b, cap, k, x, p, y, H⟩ := mfound h ho hdn hh
    have hg : getL d.l n = p := by rw [H.hl]; exact getL_at H.hx H.hp
    by_cases hz : z < 0 ∨ ((p.b.length : Int) < z)
    · have hs : cut d n z = (1, d) := by unfold cut; rw [if_pos ht, hg]; exact if_pos hz
      rw [hs]
      exact (mcut_bad g b d.room _ cap d.l n w z H.blk H.row rfl H.hg (by simpa using H.hg) hel k H.kl H.n' H.bef ho.el (by rw [H.at']; exact hz)).mono fun en w' hh => MPost.same h hh.1 hh.2
    · have hs : cut d n z = (0, { d with l := updL d.l n fun p => ⟨p.n, p.b.take z.toNat, z.toNat⟩ }) := by unfold cut; rw [if_pos ht, hg]; exact if_neg hz
      rw [hs]
      obtain ⟨m, rfl⟩ := Int.eq_ofNat_of_zero_le (show 0 ≤ z by omega)
      refine (mcut_some g b d.room _ cap d.l n w m H.blk H.row rfl H.hg (by simpa using H.hg) hel k H.kl H.n' H.bef ho.el (by rw [H.at']; omega)).mono fun e w' hh => ?_
      obtain ⟨rfl, h2, h3⟩ := hh
      rw [H.at'] at h2
      exact MPost.row H (by rw [upd_set H.hl H.hx H.hy H.hp rfl]; rfl) h2 h3
  · have hs : cut d n z = (there d n, d) := by unfold cut; rw [if_neg ht]
    rw [hs]
    obtain ⟨A, cap, G, V⟩ := mview h
    have hb := V.blk
    rcases mlost ht with ⟨hdn, h4⟩ | ⟨hdn, h4, hno⟩ <;> (rw [hdn] at hb; rw [h4])
    · exact (mcut_down g d.room A _ cap d.l G n w z hb V.view rfl V.hg hel).mono fun en w' hh => MPost.same h hh.1 hh.2
    · exact (mcut_none g d.room A _ cap d.l G n w z hb V.view rfl V.hg hel (gP_no hno)).mono fun en w' hh => MPost.same h hh.1 hh.2
theorem mread (g : Nat) (F : List Nat) (d : Dk) (n : Int) (w : World) (h : MDisk w g F d) (ho : d.Ok) (hel : d.l.length ≤ 1000000) :
    Calls Try.prog 20 #[.pointer (some ⟨g, 0, none⟩), .int .i64 n] w fun e w' => e = .returned (.tuple #[.string (str (read d n).1), .int .i64 (read d n).2]) ∧ Fr [] w w' := by
  obtain ⟨A, cap, G, V⟩ := mview h
  have hb := V.blk
  by_cases ht : there d n = 0
  · obtain ⟨hdn, hh⟩ := there_0 ht
    obtain ⟨b, cap', k, x, p, y, H⟩ := mfound h ho hdn hh
    have hg : getL d.l n = p := by rw [H.hl]; exact getL_at H.hx H.hp
    have hs : read d n = (p.b, 0) := by unfold read; rw [if_pos ht, hg]
    rw [hs]
    rw [hdn] at hb
    have := mread_some g d.room A _ cap d.l G n w hb V.view rfl V.hg hel k H.kl H.n' H.bef
    rw [H.at'] at this
    exact this
  · have hs : read d n = ([], there d n) := by unfold read; rw [if_neg ht]
    rw [hs]
    rcases mlost ht with ⟨hdn, h4⟩ | ⟨hdn, h4, hno⟩ <;> (rw [hdn] at hb; rw [h4])
    · exact mread_down g d.room A _ cap d.l G n w hb V.view rfl V.hg hel
    · exact mread_none g d.room A _ cap d.l G n w hb V.view rfl V.hg hel (gP_no hno)
theorem mcrash (g : Nat) (F : List Nat) (d : Dk) (keep : Int) (w : World) (h : MDisk w g F d) (ho : d.Ok) (hel : d.l.length ≤ 1000000) (hk : -9223372036854775808 ≤ keep ∧ keep ≤ 9223372036854775807) :
    Calls Try.prog 21 #[.pointer (some ⟨g, 0, none⟩), .int .i64 keep] w fun e w' => e = .returned (.tuple #[]) ∧ MDisk w' g F (crash d keep) ∧ Fr F w w' := by
  obtain ⟨A, cap, G, V⟩ := mview h
  have hb := V.blk
  cases hdn : d.down with
  | true =>
    have hs : crash d keep = d := by unfold crash; rw [hdn]; rfl
    rw [hs]
    rw [hdn] at hb
    exact (mcrash_down g d.room A _ cap d.l G keep w hb V.view rfl V.hg hel).mono fun e w' hh => ⟨hh.1, h.keep hh.2 (by simp), hh.2.only (by simp)⟩
  | false =>
    have hs : crash d keep = { d with l := crashL keep.toNat d.l, down := true } := by unfold crash; rw [hdn]; rfl
    rw [hs]
    rw [hdn] at hb
    have hsy : ∀ p ∈ d.l, p.s ≤ p.b.length ∧ p.b.length ≤ 1000000 := fun p hp => by
      have h2 := ho.sync _ hp
      have h3 := usedL_mem hp
      have h4 := ho.fits
      have h5 := ho.room
      exact ⟨h2, by omega⟩
    have hlen : ∀ k, (crashL k d.l).length = d.l.length := fun k => by
      have := congrArg List.length (crashL_n d.l k)
      simpa using this
    rcases V.own with ⟨hG, hv, hnil⟩ | ⟨b, cap', hG, hv, hrow⟩
    · have h0 : d.l = [] := List.map_eq_nil_iff.1 hnil
      rw [hv] at hb
      refine (mcrash_nil g d.room keep w hb).mono fun e w' hh => ?_
      obtain ⟨rfl, h2, h3⟩ := hh
      refine ⟨rfl, ⟨_, [], by rw [V.hF, hG], by simp, h2, ?_⟩, h3.only (by rw [V.hF, hG]; simp)⟩
      show OwnX _ 3 w' [] _ ((crashL keep.toNat d.l).map cP)
      rw [h0]
      exact OwnX.nil _ _ _
    · simp only [Value.slice.injEq] at hv
      obtain ⟨rfl, h2, rfl⟩ := hv
      have hgb : g ≠ b := by
        have := V.hg
        rw [hG] at this
        simpa using this
      have fin : ∀ (k : Nat) (e : Ending) (w' : World), (e = .returned (.tuple #[]) ∧ Blk w' g #[.int .i64 d.room, .slice (some ⟨b, 0, none⟩) d.l.length cap, .bool true] 40 ∧ RowB w' b 54 3 cap ((crashL k d.l).map cP) ∧ Fr [b, g] w w') → e = .returned (.tuple #[]) ∧ MDisk w' g F { d with l := crashL k d.l, down := true } ∧ Fr F w w' := fun k e w' hh => by
        obtain ⟨rfl, h3, h4, h5⟩ := hh
        refine ⟨rfl, ⟨_, [b], by rw [V.hF, hG], by simpa using hgb, h3, ?_⟩, h5.only (by rw [V.hF, hG]; simp)⟩
        exact OwnX.row h4 (by rw [List.length_map]; exact hlen k)
      by_cases hneg : keep < 0
      · have hk0 : keep.toNat = 0 := by omega
        rw [hk0]
        exact (mcrash_neg g b d.room _ cap d.l keep w hb hrow rfl hgb (by simpa using hgb) hel hsy hneg).mono fun e w' hh => fin 0 e w' hh
      · obtain ⟨k, rfl⟩ := Int.eq_ofNat_of_zero_le (show 0 ≤ keep by omega)
        exact (mcrash_pos g b d.room _ cap d.l k w hb hrow rfl hgb (by simpa using hgb) hel hsy (by omega)).mono fun e w' hh => fin k e w' hh
theorem mremove (g : Nat) (F : List Nat) (d : Dk) (n : Int) (w : World) (h : MDisk w g F d) (ho : d.Ok) (hel : d.l.length ≤ 1000000) :
    Calls Try.prog 19 #[.pointer (some ⟨g, 0, none⟩), .int .i64 n] w (MPost g F w (.int .i64 (remove d n).1) (remove d n).2) := by
  obtain ⟨A, cap, G, V⟩ := mview h
  have hb := V.blk
  by_cases ht : there d n = 0
  · obtain ⟨hdn, hh⟩ := there_0 ht
    obtain ⟨b, cap', k, x, p, y, H⟩ := mfound h ho hdn hh
    have hs : remove d n = (0, { d with l := d.l.filter fun p => !decide (p.n = n) }) := by unfold remove; rw [if_pos ht]
    rw [hs]
    rw [hdn] at hb
    refine (mremove_some g d.room A _ cap d.l G n w hb V.view rfl V.hg hel k H.kl H.n' H.bef V.cap).mono fun e w' hh => ?_
    obtain ⟨rfl, v, G', h2, h3, h4, h5⟩ := hh
    have hfl : d.l.filter (fun p => !decide (p.n = n)) = d.l.take k ++ d.l.drop (k + 1) := by
      rw [H.hl, filter_at H.hx H.hy H.hp, ← H.hk]
      simp
    have hlt := V.blk.lt
    refine ⟨rfl, g :: G', ⟨v, G', rfl, fun hm => by have := h5 g hm; omega, ?_, ?_⟩, h4.only (by rw [V.hF]; simp), fun z hz => ?_⟩
    · show Blk w' g #[.int .i64 d.room, v, .bool d.down] _
      rw [hdn]
      exact h2
    · show OwnX _ 3 w' G' v ((d.l.filter fun p => !decide (p.n = n)).map cP)
      rw [hfl]
      exact h3
    · rcases List.mem_cons.1 hz with rfl | hz
      · exact .inl (by rw [V.hF]; simp)
      · exact .inr (h5 z hz)
  · have hs : remove d n = (there d n, d) := by unfold remove; rw [if_neg ht]
    rw [hs]
    rcases mlost ht with ⟨hdn, h4⟩ | ⟨hdn, h4, hno⟩ <;> (rw [hdn] at hb; rw [h4])
    · exact (mremove_down g d.room A _ cap d.l G n w hb V.view rfl V.hg hel).mono fun en w' hh => MPost.same h hh.1 hh.2
    · exact (mremove_none g d.room A _ cap d.l G n w hb V.view rfl V.hg hel (gP_no hno)).mono fun en w' hh => MPost.same h hh.1 hh.2
/-- where a new part goes in -/
theorem ins_at : ∀ (l : List Pt) (q : Pt) (i : Nat), i ≤ l.length → (∀ j, j < i → (gP l j).n < q.n) → (i = l.length ∨ (i < l.length ∧ q.n < (gP l i).n)) → insL q l = l.take i ++ q :: l.drop i
  | [], q, i, h1, _, _ => by
    obtain rfl : i = 0 := by simpa using h1
    rfl
  | y :: r, q, 0, _, _, h3 => by
    have : q.n < y.n := by
      rcases h3 with h3 | ⟨_, h3⟩
      · simp at h3
      · exact h3
    simp [insL, this]
  | y :: r, q, i + 1, h1, h2, h3 => by
    have hy : ¬ q.n < y.n := by
      have := h2 0 (by omega)
      have e : gP (y :: r) 0 = y := rfl
      rw [e] at this
      omega
    have ih := ins_at r q i (by simpa using h1) (fun j hj => h2 (j + 1) (by omega)) (by
      rcases h3 with h3 | ⟨h3, h4⟩
      · exact .inl (by simpa using h3)
      · exact .inr ⟨by simpa using h3, h4⟩)
    simp [insL, hy, ih]
theorem mappend (g : Nat) (F : List Nat) (d : Dk) (n : Int) (bt : List UInt8) (w : World) (h : MDisk w g F d) (ho : d.Ok) (hel : d.l.length ≤ 1000000) (hbt : bt.length ≤ 1000000) :
    Calls Try.prog 14 #[.pointer (some ⟨g, 0, none⟩), .int .i64 n, .string (str bt)] w (MPost g F w (.int .i64 (append d n bt).1) (append d n bt).2) := by
  obtain ⟨A, cap, G, V⟩ := mview h
  have hb := V.blk
  have hf := ho.fits
  have hm := ho.room
  cases hdn : d.down with
  | true =>
    have hs : append d n bt = (10, d) := by unfold append; rw [if_pos hdn]
    rw [hs]
    rw [hdn] at hb
    exact (mappend_down g d.room A _ cap d.l G n w bt hb V.view rfl V.hg hel).mono fun en w' hh => MPost.same h hh.1 hh.2
  | false =>
    rw [hdn] at hb
    by_cases hneg : n < 0
    · have hs : append d n bt = (1, d) := by unfold append; rw [if_neg (by rw [hdn]; simp), if_pos hneg]
      rw [hs]
      exact (mappend_neg g d.room A _ cap d.l G n w bt hb V.view rfl V.hg hel hneg).mono fun en w' hh => MPost.same h hh.1 hh.2
    · by_cases hful : d.room - (usedL d.l : Int) < (bt.length : Int)
      · have hs : append d n bt = (6, d) := by unfold append; rw [if_neg (by rw [hdn]; simp), if_neg hneg, if_pos hful]
        rw [hs]
        exact (mappend_full g d.room A _ cap d.l G n w bt hb V.view rfl V.hg hel (by omega) hm hbt hneg hful).mono fun en w' hh => MPost.same h hh.1 hh.2
      · have hs : append d n bt = (0, { d with l := addL d.l n bt }) := by unfold append; rw [if_neg (by rw [hdn]; simp), if_neg hneg, if_neg hful]
        rw [hs]
        cases hh : hasL d.l n with
        | true =>
          obtain ⟨b, cap', k, x, p, y, H⟩ := mfound h ho hdn hh
          refine (mappend_some g b d.room _ cap' d.l n w bt H.blk H.row rfl H.hg (by simpa using H.hg) hel k H.kl H.n' H.bef ho.el (by omega) hm hbt hneg hful).mono fun e w' hh2 => ?_
          obtain ⟨rfl, h2, h3⟩ := hh2
          rw [H.at'] at h2
          refine MPost.row H ?_ h2 h3
          have hal : addL d.l n bt = updL d.l n fun p => ⟨p.n, p.b ++ bt, p.s⟩ := by unfold addL; rw [hh]; rfl
          rw [hal, upd_set H.hl H.hx H.hy H.hp rfl]
        | false =>
          refine (mappend_none g d.room A _ cap d.l G n w bt hb V.view rfl V.hg hel (gP_no hh) V.cap (by omega) hm hbt hneg hful).mono fun e w' hh2 => ?_
          obtain ⟨rfl, v, G', i, h2, h3, h4, h5, h6, h7, h8⟩ := hh2
          have hal : addL d.l n bt = d.l.take i ++ ⟨n, bt, 0⟩ :: d.l.drop i := by
            unfold addL
            rw [hh]
            exact ins_at d.l ⟨n, bt, 0⟩ i h6 h7 h8
          have hlt := V.blk.lt
          refine ⟨rfl, g :: G', ⟨v, G', rfl, fun hm2 => by have := h5 g hm2; omega, ?_, ?_⟩, h4.only (by rw [V.hF]; simp), fun z hz => ?_⟩
          · show Blk w' g #[.int .i64 d.room, v, .bool d.down] _
            rw [hdn]
            exact h2
          · show OwnX _ 3 w' G' v ((addL d.l n bt).map cP)
            rw [hal]
            exact h3
          · rcases List.mem_cons.1 hz with rfl | hz
            · exact .inl (by rw [V.hF]; simp)
            · exact .inr (h5 z hz)
end Go.Proofs.Ytkhibpdkgjapgaa.Disk
