/- Layer 8: Crash, over the disk as it lies in memory. -/
import Derived.Test.YtkhibpdkgjapgaaDiskG
set_option linter.unusedVariables false
set_option linter.unusedSimpArgs false
namespace Go.Proofs.Ytkhibpdkgjapgaa.Disk
open Go Go.RowKit Go.Proofs.Ytkhibpdkgjapgaa Go.Proofs.Ytkhibpdkgjapgaa.Eng Go.Proofs.YtkhibpdkgjapgaaW.PrintWords
def g0 (l : List Int) (i : Nat) : Int := l.getD i 0
def cI (x : Int) : List Value := [.int .i64 x]
theorem cI_len (q : List Int) : ∀ x ∈ q.map cI, x.length = 1 := by
  intro x hx
  obtain ⟨e, _, rfl⟩ := List.mem_map.1 hx
  rfl
theorem cI_one (q : List Int) : ∀ x ∈ q.map cI, x.all oneB = true := by
  intro x hx
  obtain ⟨e, _, rfl⟩ := List.mem_map.1 hx
  rfl
theorem map_atI (q : List Int) (k : Nat) (h : k < q.length) : (q.map cI).getD k [] = cI (g0 q k) := by
  simp [g0, h]
theorem g0_some (q : List Int) (i : Nat) (h : i < q.length) : q[i]? = some (g0 q i) := by
  unfold g0
  rw [List.getD_eq_getElem?_getD, List.getElem?_eq_getElem h]
  rfl
/-- what Parts hands back -/
def PartsIn : Prop := ∀ (g m : Nat) (room : Int) (down : Bool) (es : List GP) (w : World), GDm w g m room down es → Rise (es.map GP.pt) → es.length ≤ 1000000 →
  Calls Try.prog 25 #[.pointer (some ⟨g, 0, none⟩)] w fun e w' => ∃ v F', e = .returned v ∧ OwnX 3 1 w' F' v ((es.map (fun e => e.n)).map cI) ∧ Fr [] w w' ∧ ∀ y ∈ F', w.heap.size ≤ y
theorem own_take {w : World} {T : TypeId} {F : List Nat} {A : Option Addr} {n cap k : Nat} {q : List UInt8} (h : OwnX T 1 w F (.slice A n cap) (q.map cB)) (hk : k ≤ q.length) : OwnX T 1 w F (.slice A k cap) ((q.take k).map cB) := by
  rcases h with ⟨h5, h6, h7⟩ | ⟨b, cap', h5, h6, h7⟩
  · have hb0 : q = [] := List.map_eq_nil_iff.1 h7
    simp only [Value.slice.injEq] at h6
    have hk0 : k = 0 := by rw [hb0] at hk; simpa using hk
    refine .inl ⟨h5, ?_, by rw [hb0]; simp⟩
    rw [h6.1, h6.2.2, hk0]
  · simp only [Value.slice.injEq] at h6
    refine .inr ⟨b, cap, h5, ?_, ?_⟩
    · rw [h6.1, List.length_map, List.length_take, Nat.min_eq_left (by omega)]
    · rw [List.map_take, h6.2.2]
      exact h7.take k
theorem own_cap {w : World} {T : TypeId} {size : Nat} {F : List Nat} {A : Option Addr} {n cap : Nat} {xs : List (List Value)} (h : OwnX T size w F (.slice A n cap) xs) (hn : xs.length = n) : n ≤ cap := by
  rcases h with ⟨h5, h6, h7⟩ | ⟨b, cap', h5, h6, h7⟩
  · simp only [Value.slice.injEq] at h6
    omega
  · simp only [Value.slice.injEq] at h6
    have := h7.le
    omega
theorem GDm.down {w w1 : World} {g m : Nat} {room : Int} {d : Bool} {es : List GP} (h : GDm w g m room d es) (hb : Blk w1 g #[.int .i64 room, .map (some m), .bool true] 65) (k : Fr [g] w w1) : GDm w1 g m room true es := by
  have hnd := h.nodup
  simp only [List.nodup_cons, List.mem_cons, not_or] at hnd
  refine ⟨hb, h.map.keep k (by simpa using Ne.symm hnd.1.1), fun e he => (h.parts e he).keep k fun z hz hz2 => ?_, h.nodup⟩
  rw [List.mem_singleton.1 hz2] at hz
  exact hnd.1.2 (mem_foot.2 ⟨e, he, hz⟩)
theorem g0_at {a b : List Int} {e : Int} {i : Nat} (h : a.length = i) : g0 (a ++ e :: b) i = e := by
  subst h
  simp [g0]
theorem no_left {x y : List GP} {e : GP} (h : Rise ((x ++ e :: y).map GP.pt)) : ∀ q ∈ x.map GP.pt, q.n ≠ e.n := fun q hq => by
  rw [List.map_append, List.map_cons] at h
  have := (List.pairwise_append.1 h).2.2 q hq e.pt (by simp)
  have h2 : e.pt.n = e.n := rfl
  omega
set_option maxRecDepth 100000 in
set_option maxHeartbeats 400000 in
theorem crash_down (g m : Nat) (room : Int) (es : List (Int × Nat)) (keep : Int) (w : World) (HB : Blk w g #[.int .i64 room, .map (some m), .bool true] 65) (HM : MapI Try.prog 3 w m es) (hgm : g ≠ m) :
    Calls Try.prog 10 #[.pointer (some ⟨g, 0, none⟩), .int .i64 keep] w fun e w' => e = .returned (.tuple #[]) ∧ Fr [] w w' := by
  have HA := Fr.refl [] w
  refine enter (N := 66) Try.func10 (c := _) rfl (by kernel_rfl) (by kernel_rfl) (e := [(0, .pointer (some ⟨g, 0, none⟩)), (1, .int .i64 keep)]) (by kernel_rfl) ?_
  refine WE.seq ?_
  refine WE.seq ?_
  refine WE.region ?_
  refine WO.run 3 0 [(10, .pointer (some ⟨g, 2, none⟩)), (9, .pointer (some ⟨g, 0, none⟩)), (8, .pointer (some ⟨g, 0, none⟩))] (by kernel_rfl) (by kernel_rfl) ?_
  refine WO.ld (SQ.S 3 (by kernel_rfl)) 11 (.bool true) (by kernel_rfl) (same (HB.at 2 (by kernel_rfl))) ?_
  refine WO.done (by kernel_rfl) ?_
  refine WQ.keep [0, 1, 11] (e' := [(0, .pointer (some ⟨g, 0, none⟩)), (1, .int .i64 keep), (11, .bool true)]) (by kernel_rfl) ?_
  refine WQ.thenN ?_
  refine WE.condT (by kernel_rfl) ?_
  refine WE.ret ?_
  refine WQ.thenR ?_
  refine WQ.ret (v := .tuple #[]) (by kernel_rfl) ?_
  exact ⟨rfl, HA⟩

set_option maxRecDepth 100000 in
set_option maxHeartbeats 400000 in
theorem crash_run (hp : PartsIn) (g m : Nat) (room : Int) (es : List GP) (keep : Int) (F : List Nat) (w : World) (HD0 : GDm w g m room false es) (hF : F = g :: m :: foot es) (hr : Rise (es.map GP.pt)) (hel : es.length ≤ 1000000) (hkr : -9223372036854775808 ≤ keep ∧ keep ≤ 9223372036854775807) (hsy : ∀ e ∈ es, e.s ≤ e.b.length ∧ e.b.length ≤ 1000000 ∧ -9223372036854775808 ≤ e.n ∧ e.n ≤ 9223372036854775807) (hlt : ∀ y ∈ F, y < w.heap.size) :
    Calls Try.prog 10 #[.pointer (some ⟨g, 0, none⟩), .int .i64 keep] w fun e w' => e = .returned (.tuple #[]) ∧ ∃ es', crashL keep.toNat (es.map GP.pt) = es'.map GP.pt ∧ GDm w' g m room true es' ∧ F = g :: m :: foot es' ∧ Fr F w w' := by
  have HB := HD0.blk
  have HM := HD0.map
  have hgm : g ≠ m := by have h_ := HD0.nodup; intro h; subst h; simp at h_
  have HA := Fr.refl F w
  refine enter (N := 66) Try.func10 (c := _) rfl (by kernel_rfl) (by kernel_rfl) (e := [(0, .pointer (some ⟨g, 0, none⟩)), (1, .int .i64 keep)]) (by kernel_rfl) ?_
  refine WE.seq ?_
  refine WE.seq ?_
  refine WE.region ?_
  refine WO.run 3 0 [(10, .pointer (some ⟨g, 2, none⟩)), (9, .pointer (some ⟨g, 0, none⟩)), (8, .pointer (some ⟨g, 0, none⟩))] (by kernel_rfl) (by kernel_rfl) ?_
  refine WO.ld (SQ.S 3 (by kernel_rfl)) 11 (.bool false) (by kernel_rfl) (same (HB.at 2 (by kernel_rfl))) ?_
  refine WO.done (by kernel_rfl) ?_
  refine WQ.keep [0, 1, 11] (e' := [(0, .pointer (some ⟨g, 0, none⟩)), (1, .int .i64 keep), (11, .bool false)]) (by kernel_rfl) ?_
  refine WQ.thenN ?_
  refine WE.condF (by kernel_rfl) ?_
  refine WE.skip ?_
  refine WQ.thenN ?_
  refine WE.seq ?_
  refine WE.region ?_
  refine WO.run 1 0 [(12, .int .i64 keep)] (by kernel_rfl) (by kernel_rfl) ?_
  refine WO.one (SQ.F 1 (by kernel_rfl)) 13 (.int .i64 (if keep < 0 then 0 else keep)) (by kernel_rfl) ?_
  refine WO.top (v' := .int .i64 ((keep.toNat : Nat) : Int)) (congrArg (Value.int .i64) (by split <;> omega)) ?_
  refine WO.run 1 2 [(1, .int .i64 ((keep.toNat : Nat) : Int))] (by kernel_rfl) (by kernel_rfl) ?_
  refine WO.done (by kernel_rfl) ?_
  refine WQ.keep [0, 1, 11] (e' := [(0, .pointer (some ⟨g, 0, none⟩)), (1, .int .i64 ((keep.toNat : Nat) : Int)), (11, .bool false)]) (by kernel_rfl) ?_
  refine WQ.thenN ?_
  refine WE.seq ?_
  refine WE.seq ?_
  refine WE.region ?_
  refine WO.run 1 0 [(14, .pointer (some ⟨g, 0, none⟩))] (by kernel_rfl) (by kernel_rfl) ?_
  refine WO.call (SQ.E 1 (by kernel_rfl)) 15 (by kernel_rfl) (hp g m room false es _ HD0 hr hel) ?_
  rintro _ w1 ⟨v0, G0, rfl, HO0, F2, hG0⟩
  refine ⟨_, rfl, trivial, ?_⟩
  have HB := Blk.keep HB F2 (nin0 _)
  have HD0 := HD0.keep F2 (fun _ _ => nin0 _)
  have HM := HM.keep F2 (nin0 _)
  have HA := Fr.step0 HA F2
  rcases HO0 with ⟨_, rfl, h0⟩ | ⟨b, cap, rfl, rfl, HR⟩
  · obtain rfl : es = [] := by simpa using h0
    refine WO.run 2 2 [(17, .int .i64 0), (16, .int .i64 0)] (by kernel_rfl) (by kernel_rfl) ?_
    refine WO.done (by kernel_rfl) ?_
    refine WQ.keep [0, 1, 11, 15, 16, 17] (e' := [(0, .pointer (some ⟨g, 0, none⟩)), (1, .int .i64 ((keep.toNat : Nat) : Int)), (11, .bool false), (15, .slice none 0 0), (16, .int .i64 0), (17, .int .i64 0)]) (by kernel_rfl) ?_
    refine WQ.thenN ?_
    refine WE.block ?_
    refine WE.loop (α := Unit) (E := fun _ => [(0, .pointer (some ⟨g, 0, none⟩)), (1, .int .i64 ((keep.toNat : Nat) : Int)), (11, .bool false), (15, .slice none 0 0), (16, .int .i64 0), (17, .int .i64 0)]) (I := fun _ wr => w1 = wr) (m := fun _ => 0) () [0, 1, 11, 15, 16, 17] (by kernel_rfl) ?_ ?_
    · rfl
    rintro _ wr hw
    subst hw
    refine WE.seq ?_
    refine WE.region ?_
    refine WO.run 1 0 [(18, .bool false)] (by kernel_rfl) (by kernel_rfl) ?_
    refine WO.done (by kernel_rfl) ?_
    refine WQ.keep [0, 1, 11, 15, 16, 17, 18] (e' := [(0, .pointer (some ⟨g, 0, none⟩)), (1, .int .i64 ((keep.toNat : Nat) : Int)), (11, .bool false), (15, .slice none 0 0), (16, .int .i64 0), (17, .int .i64 0), (18, .bool false)]) (by kernel_rfl) ?_
    refine WQ.thenN ?_
    refine WE.seq ?_
    refine WE.condF (by kernel_rfl) ?_
    refine WE.exit ?_
    refine WQ.thenE ?_
    refine WQ.thenE ?_
    refine WQ.blkE ?_
    refine WQ.thenN ?_
    have HZ := Fr.refl [g] w1
    refine WE.region ?_
    refine WO.run 3 0 [(65, .pointer (some ⟨g, 2, none⟩)), (64, .pointer (some ⟨g, 0, none⟩)), (63, .pointer (some ⟨g, 0, none⟩))] (by kernel_rfl) (by kernel_rfl) ?_
    refine WO.st (SQ.E 3 (by kernel_rfl)) g 2 [.bool true] #[.int .i64 room, .map (some m), .bool true] (by kernel_rfl) HB (by kernel_rfl) (by kernel_rfl) (fun _ _ => trivial) ?_
    intro w3 HB5 F4 _
    have HM := HM.keep F4 (ninC (Ne.symm hgm) (nin0 _))
    have HZ := Fr.step HZ F4 (inSL (by simp) inS0)
    refine WO.done (by kernel_rfl) ?_
    refine WQ.keep [0, 1, 11, 15, 16, 17, 18] (e' := [(0, .pointer (some ⟨g, 0, none⟩)), (1, .int .i64 ((keep.toNat : Nat) : Int)), (11, .bool false), (15, .slice none 0 0), (16, .int .i64 0), (17, .int .i64 0), (18, .bool false)]) (by kernel_rfl) ?_
    refine WQ.fall (v := .tuple #[]) (by kernel_rfl) ?_
    exact ⟨rfl, [], rfl, HD0.down HB5 HZ, hF, HA.step HZ (fun z hz => .inl (by rw [List.mem_singleton.1 hz, hF]; simp))⟩
  · have hlen : (es.map fun e => e.n).length = es.length := List.length_map _
    have hbge : w.heap.size ≤ b := hG0 b (by simp)
    rw [show (List.map cI (List.map (fun e => e.n) es)).length = es.length by simp]
    have hgb : g ≠ b := by have := hlt g (by rw [hF]; simp); omega
    have hmb : m ≠ b := by have := hlt m (by rw [hF]; simp); omega
    refine WO.run 2 2 [(17, .int .i64 0), (16, .int .i64 (es.length : Int))] (by kernel_rfl) (by kernel_rfl) ?_
    refine WO.done (by kernel_rfl) ?_
    refine WQ.keep [0, 1, 11, 15, 16, 17] (e' := [(0, .pointer (some ⟨g, 0, none⟩)), (1, .int .i64 ((keep.toNat : Nat) : Int)), (11, .bool false), (15, .slice (some ⟨b, 0, none⟩) es.length cap), (16, .int .i64 (es.length : Int)), (17, .int .i64 0)]) (by kernel_rfl) ?_
    refine WQ.thenN ?_
    refine WE.block ?_
    refine WE.loop (α := Nat × List GP × List GP × Nat) (E := fun ⟨i, x, y, kp⟩ => [(0, .pointer (some ⟨g, 0, none⟩)), (1, .int .i64 (kp : Int)), (11, .bool false), (15, .slice (some ⟨b, 0, none⟩) es.length cap), (16, .int .i64 (es.length : Int)), (17, .int .i64 (i : Int))]) (I := fun ⟨i, x, y, kp⟩ wr => x.length = i ∧ x.map (fun e => e.n) ++ y.map (fun e => e.n) = es.map (fun e => e.n) ∧ GDm wr g m room false (x ++ y) ∧ RowB wr b 3 1 cap ((es.map fun e => e.n).map cI) ∧ Fr F w wr ∧ (∀ e ∈ y, e.s ≤ e.b.length ∧ e.b.length ≤ 1000000 ∧ -9223372036854775808 ≤ e.n ∧ e.n ≤ 9223372036854775807) ∧ crashL keep.toNat (es.map GP.pt) = x.map GP.pt ++ crashL kp (y.map GP.pt) ∧ g :: m :: foot (x ++ y) = F ∧ kp ≤ keep.toNat) (m := fun ⟨i, x, y, kp⟩ => y.length) (0, [], es, keep.toNat) [0, 1, 11, 15, 16, 17] (by kernel_rfl) ?_ ?_
    · exact ⟨rfl, rfl, HD0, HR, HA, hsy, rfl, hF.symm, Nat.le_refl _⟩
    rintro ⟨i, x, y, kp⟩ wr ⟨hi, hnn, HD, HR, HA, hsy, hcr, hfo, hkp⟩
    dsimp only at hi hnn HD HR hsy hcr hfo hkp ⊢
    have hlx := congrArg List.length hnn
    simp only [List.length_append, List.length_map] at hlx
    have HB := HD.blk
    have HM := HD.map
    refine WE.seq ?_
    refine WE.region ?_
    refine WO.one (SQ.F 0 (by kernel_rfl)) 18 (.bool (decide (((i : Int) : Int) < (es.length : Int)))) (by kernel_rfl) ?_
    refine WO.topP (((i : Int) : Int) < (es.length : Int)) ?_ ?_
    · intro h6
      refine WO.done (by kernel_rfl) ?_
      refine WQ.keep [0, 1, 11, 15, 16, 17, 18] (e' := [(0, .pointer (some ⟨g, 0, none⟩)), (1, .int .i64 (kp : Int)), (11, .bool false), (15, .slice (some ⟨b, 0, none⟩) es.length cap), (16, .int .i64 (es.length : Int)), (17, .int .i64 (i : Int)), (18, .bool true)]) (by kernel_rfl) ?_
      refine WQ.thenN ?_
      refine WE.seq ?_
      refine WE.condT (by kernel_rfl) ?_
      refine WE.skip ?_
      refine WQ.thenN ?_
      refine WE.seq ?_
      refine WE.block ?_
      refine WE.seq ?_
      obtain ⟨e, y', rfl⟩ : ∃ e y', y = e :: y' := by cases y with | nil => simp at hlx; omega | cons a b => exact ⟨_, _, rfl⟩
      have hP := HD.parts e (by simp)
      obtain ⟨A, cp, hv⟩ := hP.2.sliceN (List.length_map _)
      have HK1 := hP.1
      rw [hv] at HK1
      have hcap : e.b.length ≤ cp := own_cap (hv ▸ hP.2) (List.length_map _)
      obtain ⟨hsl, hbl, hn1, hn2⟩ := hsy e (by simp)
      have hnd := HD.nodup
      rw [foot_app, foot_cons] at hnd
      have hgk : g ≠ e.k := by intro h; subst h; simp [GP.foot] at hnd
      have hmk : m ≠ e.k := by intro h; subst h; simp [GP.foot] at hnd
      have hkF : e.k ∉ e.F := by intro h; simp [GP.foot, h, List.nodup_append] at hnd
      have hbk : b ≠ e.k := by have h_ := hlt e.k (by rw [← hfo, foot_app, foot_cons]; simp [GP.foot]); omega
      have hg0 : g0 (es.map fun e => e.n) i = e.n := by rw [← hnn]; exact g0_at (by simp [hi])
      have hj : -9223372036854775808 ≤ g0 (es.map fun e => e.n) i ∧ g0 (es.map fun e => e.n) i ≤ 9223372036854775807 := by rw [hg0]; exact ⟨hn1, hn2⟩
      have h2_ : ((x ++ e :: y').map GP.pt).map (fun p => p.n) = (es.map GP.pt).map (fun p => p.n) := by simpa [GP.pt, Function.comp_def] using hnn
      have HDr : Rise ((x ++ e :: y').map GP.pt) := (rise_iff _).2 (by rw [h2_]; exact (rise_iff _).1 hr)
      have hv2 : lkV (ents (x ++ e :: y')) (g0 (es.map fun e => e.n) i) = .pointer (some ⟨e.k, 0, none⟩) := by rw [hg0]; exact lkV_at (hasL_no.2 (no_left HDr)) rfl
      have HK := Fr.refl [e.k] wr
      refine WE.region ?_
      refine WO.ixB (SQ.F 0 (by kernel_rfl)) 19 i b 0 es.length 1 (i : Int) (by kernel_rfl) (by omega) (by omega) (by omega) ?_
      refine WO.ld (SQ.S 1 (by kernel_rfl)) 20 (.int .i64 (g0 (es.map fun e => e.n) i)) (by kernel_rfl) (same (HR.at i 0 i _ (by rw [List.length_map]; have := hlen; omega) (by omega) (by rw [(map_atI (es.map fun e => e.n) i (by have := hlen; omega))]; rfl) (by omega))) ?_
      refine WO.run 1 2 [(5, .int .i64 (g0 (es.map fun e => e.n) i))] (by kernel_rfl) (by kernel_rfl) ?_
      refine WO.done (by kernel_rfl) ?_
      refine WQ.keep [0, 1, 5, 11, 15, 16, 17, 18] (e' := [(0, .pointer (some ⟨g, 0, none⟩)), (1, .int .i64 (kp : Int)), (5, .int .i64 (g0 (es.map fun e => e.n) i)), (11, .bool false), (15, .slice (some ⟨b, 0, none⟩) es.length cap), (16, .int .i64 (es.length : Int)), (17, .int .i64 (i : Int)), (18, .bool true)]) (by kernel_rfl) ?_
      refine WQ.thenN ?_
      refine WE.seq ?_
      refine WE.region ?_
      refine WO.run 3 0 [(23, .pointer (some ⟨g, 1, none⟩)), (22, .pointer (some ⟨g, 0, none⟩)), (21, .pointer (some ⟨g, 0, none⟩))] (by kernel_rfl) (by kernel_rfl) ?_
      refine WO.ld (SQ.S 3 (by kernel_rfl)) 24 (.map (some m)) (by kernel_rfl) (same (HB.at 1 (by kernel_rfl))) ?_
      refine WO.run 1 4 [(25, .int .i64 (g0 (es.map fun e => e.n) i))] (by kernel_rfl) (by kernel_rfl) ?_
      refine WO.lk1 (SQ.S 5 (by kernel_rfl)) 26 mt (j := g0 (es.map fun e => e.n) i) (by kernel_rfl) (same HM) hj ?_
      refine WO.top (v' := .pointer (some ⟨e.k, 0, none⟩)) (by rw [hv2]) ?_
      refine WO.run 1 6 [(6, .pointer (some ⟨e.k, 0, none⟩))] (by kernel_rfl) (by kernel_rfl) ?_
      refine WO.done (by kernel_rfl) ?_
      refine WQ.keep [0, 1, 5, 6, 11, 15, 16, 17, 18] (e' := [(0, .pointer (some ⟨g, 0, none⟩)), (1, .int .i64 (kp : Int)), (5, .int .i64 (g0 (es.map fun e => e.n) i)), (6, .pointer (some ⟨e.k, 0, none⟩)), (11, .bool false), (15, .slice (some ⟨b, 0, none⟩) es.length cap), (16, .int .i64 (es.length : Int)), (17, .int .i64 (i : Int)), (18, .bool true)]) (by kernel_rfl) ?_
      refine WQ.thenN ?_
      refine WE.seq ?_
      refine WE.draw [.free, .free, .free, .free, .still, .free, .free, .free, .free, .still, .free, .free, .free] Same sameR (by kernel_rfl) 13 (Array.replicate 13 false) (by kernel_rfl) rfl ?_
      intro w7 F8 _
      have HB := Blk.keep HB F8 (nin0 _)
      have HK1 := Blk.keep HK1 F8 (nin0 _)
      have HR := RowB.keep HR F8 (nin0 _)
      have HM := HM.keep F8 (nin0 _)
      have HK := Fr.step0 HK F8
      refine WO.one (SA.F sameR sameT _ 0 _ (by kernel_rfl)) 27 (.int .i64 (kp : Int)) (by kernel_rfl) ?_
      refine WO.one (SA.F sameR sameT _ 1 _ (by kernel_rfl)) 28 (.pointer (some ⟨e.k, 0, none⟩)) (by kernel_rfl) ?_
      refine WO.one (SA.F sameR sameT _ 2 _ (by kernel_rfl)) 29 (.pointer (some ⟨e.k, 0, none⟩)) (by kernel_rfl) ?_
      refine WO.one (SA.F sameR sameT _ 3 _ (by kernel_rfl)) 30 (.pointer (some ⟨e.k, 0, none⟩)) (by kernel_rfl) ?_
      refine WO.ld (SA.S sameR sameT _ 4 _ (by kernel_rfl)) 31 (.slice A e.b.length cp) (by kernel_rfl) (same (HK1.at 0 (by kernel_rfl))) ?_
      refine WO.one (SA.F sameR sameT _ 5 _ (by kernel_rfl)) 32 (.int .i64 (e.b.length : Int)) (by kernel_rfl) ?_
      refine WO.one (SA.F sameR sameT _ 6 _ (by kernel_rfl)) 33 (.pointer (some ⟨e.k, 0, none⟩)) (by kernel_rfl) ?_
      refine WO.one (SA.F sameR sameT _ 7 _ (by kernel_rfl)) 34 (.pointer (some ⟨e.k, 0, none⟩)) (by kernel_rfl) ?_
      refine WO.one (SA.F sameR sameT _ 8 _ (by kernel_rfl)) 35 (.pointer (some ⟨e.k, 1, none⟩)) (by kernel_rfl) ?_
      refine WO.ld (SA.S sameR sameT _ 9 _ (by kernel_rfl)) 36 (.int .i64 ((e.s : Nat) : Int)) (by kernel_rfl) (same (HK1.at 1 (by kernel_rfl))) ?_
      refine WO.one (SA.F sameR sameT _ 10 _ (by kernel_rfl)) 37 (.int .i64 (IntKind.i64.wrap ((e.b.length : Int) - ((e.s : Nat) : Int)))) (by kernel_rfl) ?_
      refine WO.top (v' := .int .i64 ((e.b.length - e.s : Nat) : Int)) (wrap_i64 (by omega) (by omega)) ?_
      refine WO.one (SA.F sameR sameT _ 11 _ (by kernel_rfl)) 38 (.int .i64 (if ((e.b.length - e.s : Nat) : Int) < (kp : Int) then ((e.b.length - e.s : Nat) : Int) else (kp : Int))) (by kernel_rfl) ?_
      refine WO.top (v' := .int .i64 ((min kp (e.b.length - e.s) : Nat) : Int)) (congrArg (Value.int .i64) (by split <;> omega)) ?_
      refine WO.one (SA.F sameR sameT _ 12 _ (by kernel_rfl)) 7 (.int .i64 ((min kp (e.b.length - e.s) : Nat) : Int)) (by kernel_rfl) ?_
      refine WO.doneA (by kernel_rfl) ?_
      refine WQ.keep [0, 1, 5, 6, 7, 11, 15, 16, 17, 18] (e' := [(0, .pointer (some ⟨g, 0, none⟩)), (1, .int .i64 (kp : Int)), (5, .int .i64 (g0 (es.map fun e => e.n) i)), (6, .pointer (some ⟨e.k, 0, none⟩)), (7, .int .i64 ((min kp (e.b.length - e.s) : Nat) : Int)), (11, .bool false), (15, .slice (some ⟨b, 0, none⟩) es.length cap), (16, .int .i64 (es.length : Int)), (17, .int .i64 (i : Int)), (18, .bool true)]) (by kernel_rfl) ?_
      refine WQ.thenN ?_
      refine WE.seq ?_
      refine WE.region ?_
      refine WO.run 2 0 [(40, .int .i64 ((min kp (e.b.length - e.s) : Nat) : Int)), (39, .int .i64 (kp : Int))] (by kernel_rfl) (by kernel_rfl) ?_
      refine WO.one (SQ.F 2 (by kernel_rfl)) 41 (.int .i64 (IntKind.i64.wrap ((kp : Int) - ((min kp (e.b.length - e.s) : Nat) : Int)))) (by kernel_rfl) ?_
      refine WO.top (v' := .int .i64 ((kp - (min kp (e.b.length - e.s)) : Nat) : Int)) (wrap_i64 (by omega) (by omega)) ?_
      refine WO.run 1 3 [(1, .int .i64 ((kp - (min kp (e.b.length - e.s)) : Nat) : Int))] (by kernel_rfl) (by kernel_rfl) ?_
      refine WO.done (by kernel_rfl) ?_
      refine WQ.keep [0, 1, 5, 6, 7, 11, 15, 16, 17, 18] (e' := [(0, .pointer (some ⟨g, 0, none⟩)), (1, .int .i64 ((kp - (min kp (e.b.length - e.s)) : Nat) : Int)), (5, .int .i64 (g0 (es.map fun e => e.n) i)), (6, .pointer (some ⟨e.k, 0, none⟩)), (7, .int .i64 ((min kp (e.b.length - e.s) : Nat) : Int)), (11, .bool false), (15, .slice (some ⟨b, 0, none⟩) es.length cap), (16, .int .i64 (es.length : Int)), (17, .int .i64 (i : Int)), (18, .bool true)]) (by kernel_rfl) ?_
      refine WQ.thenN ?_
      refine WE.seq ?_
      refine WE.region ?_
      refine WO.run 3 0 [(44, .pointer (some ⟨e.k, 1, none⟩)), (43, .pointer (some ⟨e.k, 0, none⟩)), (42, .pointer (some ⟨e.k, 0, none⟩))] (by kernel_rfl) (by kernel_rfl) ?_
      refine WO.ld (SQ.S 3 (by kernel_rfl)) 45 (.int .i64 ((e.s : Nat) : Int)) (by kernel_rfl) (same (HK1.at 1 (by kernel_rfl))) ?_
      refine WO.run 1 4 [(46, .int .i64 ((min kp (e.b.length - e.s) : Nat) : Int))] (by kernel_rfl) (by kernel_rfl) ?_
      refine WO.one (SQ.F 5 (by kernel_rfl)) 47 (.int .i64 (IntKind.i64.wrap (((e.s : Nat) : Int) + ((min kp (e.b.length - e.s) : Nat) : Int)))) (by kernel_rfl) ?_
      refine WO.top (v' := .int .i64 ((e.s + (min kp (e.b.length - e.s)) : Nat) : Int)) (wrap_i64 (by omega) (by omega)) ?_
      refine WO.run 2 6 [(49, .pointer (some ⟨e.k, 1, none⟩)), (48, .pointer (some ⟨e.k, 0, none⟩))] (by kernel_rfl) (by kernel_rfl) ?_
      refine WO.st (SQ.E 8 (by kernel_rfl)) e.k 1 [.int .i64 ((e.s + (min kp (e.b.length - e.s)) : Nat) : Int)] #[.slice A e.b.length cp, .int .i64 ((e.s + (min kp (e.b.length - e.s)) : Nat) : Int)] (by kernel_rfl) HK1 (by kernel_rfl) (by kernel_rfl) (fun _ _ => trivial) ?_
      intro w9 HB11 F10 _
      have HB := Blk.keep HB F10 (ninC hgk (nin0 _))
      have HR := RowB.keep HR F10 (ninC hbk (nin0 _))
      have HM := HM.keep F10 (ninC hmk (nin0 _))
      have HK := Fr.step HK F10 (inSL (by simp) inS0)
      refine WO.done (by kernel_rfl) ?_
      refine WQ.keep [0, 1, 5, 6, 7, 11, 15, 16, 17, 18] (e' := [(0, .pointer (some ⟨g, 0, none⟩)), (1, .int .i64 ((kp - (min kp (e.b.length - e.s)) : Nat) : Int)), (5, .int .i64 (g0 (es.map fun e => e.n) i)), (6, .pointer (some ⟨e.k, 0, none⟩)), (7, .int .i64 ((min kp (e.b.length - e.s) : Nat) : Int)), (11, .bool false), (15, .slice (some ⟨b, 0, none⟩) es.length cap), (16, .int .i64 (es.length : Int)), (17, .int .i64 (i : Int)), (18, .bool true)]) (by kernel_rfl) ?_
      refine WQ.thenN ?_
      refine WE.draw [.free, .free, .free, .free, .still, .free, .free, .free, .still, .free, .free, .free, .eff] Same sameR (by kernel_rfl) 13 (Array.replicate 13 false) (by kernel_rfl) rfl ?_
      intro w12 F13 _
      have HB := Blk.keep HB F13 (nin0 _)
      have HB11 := Blk.keep HB11 F13 (nin0 _)
      have HR := RowB.keep HR F13 (nin0 _)
      have HM := HM.keep F13 (nin0 _)
      have HK := Fr.step0 HK F13
      refine WO.one (SA.F sameR sameT _ 0 _ (by kernel_rfl)) 50 (.pointer (some ⟨e.k, 0, none⟩)) (by kernel_rfl) ?_
      refine WO.one (SA.F sameR sameT _ 1 _ (by kernel_rfl)) 51 (.pointer (some ⟨e.k, 0, none⟩)) (by kernel_rfl) ?_
      refine WO.one (SA.F sameR sameT _ 2 _ (by kernel_rfl)) 52 (.pointer (some ⟨e.k, 0, none⟩)) (by kernel_rfl) ?_
      refine WO.one (SA.F sameR sameT _ 3 _ (by kernel_rfl)) 53 (.pointer (some ⟨e.k, 0, none⟩)) (by kernel_rfl) ?_
      refine WO.ld (SA.S sameR sameT _ 4 _ (by kernel_rfl)) 54 (.slice A e.b.length cp) (by kernel_rfl) (same (HB11.at 0 (by kernel_rfl))) ?_
      refine WO.one (SA.F sameR sameT _ 5 _ (by kernel_rfl)) 55 (.pointer (some ⟨e.k, 0, none⟩)) (by kernel_rfl) ?_
      refine WO.one (SA.F sameR sameT _ 6 _ (by kernel_rfl)) 56 (.pointer (some ⟨e.k, 0, none⟩)) (by kernel_rfl) ?_
      refine WO.one (SA.F sameR sameT _ 7 _ (by kernel_rfl)) 57 (.pointer (some ⟨e.k, 1, none⟩)) (by kernel_rfl) ?_
      refine WO.ld (SA.S sameR sameT _ 8 _ (by kernel_rfl)) 58 (.int .i64 ((e.s + (min kp (e.b.length - e.s)) : Nat) : Int)) (by kernel_rfl) (same (HB11.at 1 (by kernel_rfl))) ?_
      refine WO.sl (SA.F sameR sameT _ 9 _ (by kernel_rfl)) 59 0 (e.s + (min kp (e.b.length - e.s))) A e.b.length cp 1 none (some ((e.s + (min kp (e.b.length - e.s)) : Nat) : Int)) (by kernel_rfl) (by rfl) (by simp only [Option.getD_some] <;> omega) (by omega) (by omega) ?_
      refine WO.top (sl0 _ _ _ _) ?_
      refine WO.one (SA.F sameR sameT _ 10 _ (by kernel_rfl)) 60 (.pointer (some ⟨e.k, 0, none⟩)) (by kernel_rfl) ?_
      refine WO.one (SA.F sameR sameT _ 11 _ (by kernel_rfl)) 61 (.pointer (some ⟨e.k, 0, none⟩)) (by kernel_rfl) ?_
      refine WO.st (SA.E _ 12 _ (by kernel_rfl) rfl) e.k 0 [.slice A (e.s + (min kp (e.b.length - e.s))) cp] #[.slice A (e.s + (min kp (e.b.length - e.s))) cp, .int .i64 ((e.s + (min kp (e.b.length - e.s)) : Nat) : Int)] (by kernel_rfl) HB11 (by kernel_rfl) (by kernel_rfl) (fun _ _ => trivial) ?_
      intro w14 HB16 F15 _
      have HB := Blk.keep HB F15 (ninC hgk (nin0 _))
      have HR := RowB.keep HR F15 (ninC hbk (nin0 _))
      have HM := HM.keep F15 (ninC hmk (nin0 _))
      have HK := Fr.step HK F15 (inSL (by simp) inS0)
      refine WO.doneA (by kernel_rfl) ?_
      refine WQ.keep [0, 1, 5, 6, 7, 11, 15, 16, 17, 18] (e' := [(0, .pointer (some ⟨g, 0, none⟩)), (1, .int .i64 ((kp - (min kp (e.b.length - e.s)) : Nat) : Int)), (5, .int .i64 (g0 (es.map fun e => e.n) i)), (6, .pointer (some ⟨e.k, 0, none⟩)), (7, .int .i64 ((min kp (e.b.length - e.s) : Nat) : Int)), (11, .bool false), (15, .slice (some ⟨b, 0, none⟩) es.length cap), (16, .int .i64 (es.length : Int)), (17, .int .i64 (i : Int)), (18, .bool true)]) (by kernel_rfl) ?_
      refine WQ.blkN ?_
      refine WQ.thenN ?_
      refine WE.region ?_
      refine WO.one (SQ.F 0 (by kernel_rfl)) 62 (.int .i64 (IntKind.i64.wrap ((i : Int) + 1))) (by kernel_rfl) ?_
      refine WO.top (v' := .int .i64 ((i + 1 : Nat) : Int)) (wrap_i64 (by omega) (by omega)) ?_
      refine WO.run 1 1 [(17, .int .i64 ((i + 1 : Nat) : Int))] (by kernel_rfl) (by kernel_rfl) ?_
      refine WO.done (by kernel_rfl) ?_
      refine WQ.keep [0, 1, 5, 6, 7, 11, 15, 16, 17, 18] (e' := [(0, .pointer (some ⟨g, 0, none⟩)), (1, .int .i64 ((kp - (min kp (e.b.length - e.s)) : Nat) : Int)), (5, .int .i64 (g0 (es.map fun e => e.n) i)), (6, .pointer (some ⟨e.k, 0, none⟩)), (7, .int .i64 ((min kp (e.b.length - e.s) : Nat) : Int)), (11, .bool false), (15, .slice (some ⟨b, 0, none⟩) es.length cap), (16, .int .i64 (es.length : Int)), (17, .int .i64 ((i + 1 : Nat) : Int)), (18, .bool true)]) (by kernel_rfl) ?_
      have HN := HD.set (e' := { e with b := e.b.take (e.s + min kp (e.b.length - e.s)), s := e.s + min kp (e.b.length - e.s), v := .slice A (e.s + min kp (e.b.length - e.s)) cp }) HK (by simp [GP.foot]) rfl rfl (fun z hz => .inl hz) (own_nodup hP.2) ⟨HB16, own_take (hv ▸ hP.2.keep HK (fun z hz hz2 => hkF (List.mem_singleton.1 hz2 ▸ hz))) (by omega)⟩
      refine WQ.round ?_
      intro a_ ha_
      refine ⟨(i + 1, x ++ [{ e with b := e.b.take (e.s + min kp (e.b.length - e.s)), s := e.s + min kp (e.b.length - e.s), v := .slice A (e.s + min kp (e.b.length - e.s)) cp }], y', kp - min kp (e.b.length - e.s)), ?_, ha_.keep [0, 1, 11, 15, 16, 17] (by kernel_rfl), ?_⟩
      · exact Nat.lt_succ_self _
      · exact ⟨by simp [hi], by rw [← hnn]; simp, by rw [List.append_assoc]; exact HN, HR, HA.step HK (fun z hz => .inl (by rw [List.mem_singleton.1 hz, ← hfo, foot_app, foot_cons]; simp [GP.foot])), fun q hq => hsy q (List.mem_cons_of_mem _ hq), by rw [hcr]; simp [crashL, GP.pt], by dsimp only; rw [← hfo, List.append_assoc, List.singleton_append, foot_app, foot_app, foot_cons, foot_cons]; rfl, by dsimp only; omega⟩
    intro h6
    refine WO.done (by kernel_rfl) ?_
    refine WQ.keep [0, 1, 11, 15, 16, 17, 18] (e' := [(0, .pointer (some ⟨g, 0, none⟩)), (1, .int .i64 (kp : Int)), (11, .bool false), (15, .slice (some ⟨b, 0, none⟩) es.length cap), (16, .int .i64 (es.length : Int)), (17, .int .i64 (i : Int)), (18, .bool false)]) (by kernel_rfl) ?_
    refine WQ.thenN ?_
    refine WE.seq ?_
    refine WE.condF (by kernel_rfl) ?_
    refine WE.exit ?_
    refine WQ.thenE ?_
    refine WQ.thenE ?_
    refine WQ.blkE ?_
    refine WQ.thenN ?_
    obtain rfl : y = [] := by cases y with | nil => rfl | cons a b => simp at hlx; omega
    rw [List.append_nil] at HD hfo
    rw [show crashL kp (List.map GP.pt []) = [] from rfl, List.append_nil] at hcr
    have HZ := Fr.refl [g] wr
    refine WE.region ?_
    refine WO.run 3 0 [(65, .pointer (some ⟨g, 2, none⟩)), (64, .pointer (some ⟨g, 0, none⟩)), (63, .pointer (some ⟨g, 0, none⟩))] (by kernel_rfl) (by kernel_rfl) ?_
    refine WO.st (SQ.E 3 (by kernel_rfl)) g 2 [.bool true] #[.int .i64 room, .map (some m), .bool true] (by kernel_rfl) HB (by kernel_rfl) (by kernel_rfl) (fun _ _ => trivial) ?_
    intro w17 HB19 F18 _
    have HR := RowB.keep HR F18 (ninC (Ne.symm hgb) (nin0 _))
    have HZ := Fr.step HZ F18 (inSL (by simp) inS0)
    refine WO.done (by kernel_rfl) ?_
    refine WQ.keep [0, 1, 11, 15, 16, 17, 18] (e' := [(0, .pointer (some ⟨g, 0, none⟩)), (1, .int .i64 (kp : Int)), (11, .bool false), (15, .slice (some ⟨b, 0, none⟩) es.length cap), (16, .int .i64 (es.length : Int)), (17, .int .i64 (i : Int)), (18, .bool false)]) (by kernel_rfl) ?_
    refine WQ.fall (v := .tuple #[]) (by kernel_rfl) ?_
    exact ⟨rfl, x, hcr, HD.down HB19 HZ, hfo.symm, HA.step HZ (fun z hz => .inl (by rw [List.mem_singleton.1 hz, ← hfo]; simp))⟩
end Go.Proofs.Ytkhibpdkgjapgaa.Disk
