/- Walks of layer 18's program: Begin, Add. -/
import Derived.Test.YtjnjkgoofkgiiaaTallyW
set_option linter.unusedVariables false
set_option linter.unusedSimpArgs false
namespace Go.Proofs.Ytjnjkgoofkgiiaa.Tally
open Go.RowKit Go.Proofs.YtjnjkgoofkgiiaaW.PrintWords Go.Proofs.YtjnjkgoofkgiiaaW.PrintLast

/-- a row by value -/
def RowV (key : ByteArray) (r : R) (bv : Value) : Value := .agg #[.string key, .int .i64 r.kind, .int .u64 r.many, .int .i64 r.sum, .int .i64 r.least, .int .i64 r.most, .bool r.over, bv]
def Ret (key : ByteArray) (r : R) (w : World) (e : Ending) (w' : World) : Prop := ∃ bv, e = .returned (RowV key r bv) ∧ Ow w' w.heap.size bv r.b ∧ Fr [] w w'

set_option maxRecDepth 100000 in
set_option maxHeartbeats 4000000 in
theorem begin_other (key : ByteArray) (kind v : Int) (hk : kind ≠ 3) (w : World) :
    Calls Try.prog 38 #[.string key, .int .i64 kind, .int .i64 v] w (Ret key (beginR kind v) w) := by
  have HB := Lib.hid (show beginR kind v = ⟨kind, 1, v, v, v, false, []⟩ by unfold beginR; rw [if_neg hk])
  have hkb : (kind == 3) = false := by simpa using hk
  have HP := Lib.hid (show ∀ w', Fr [] w w' → Ret key (beginR kind v) w (.returned (RowV key ⟨kind, 1, v, v, v, false, []⟩ (.slice none 0 0))) w' from fun w' h => ⟨_, by rw [HB.out], by rw [HB.out]; exact Ow.nil _ _, h⟩)
  clear hk
  go_enter Try.func38, Try.ntmps38
  go_wp2_with fail
  exact bodyPost_ret (v := RowV key ⟨kind, 1, v, v, v, false, []⟩ (.slice none 0 0)) (by simp [results, Try.results38, go_sem, RowV]) rfl (HP.out _ (((Fr.refl [] w).alloc _).alloc _))

/-- the result is the row at g -/
theorem ret_row {fn : Func} {R : Ending → World → Prop} {tmps : Array Value} {w : World} {p g : Nat} {cs : Array Value} (hB : Blk w g cs 49) (hfn : fn.results = #[.cell p 49]) (hcs : cs.size = 8)
    (hp : tmps.getD p undef = .pointer (some ⟨g, 0, none⟩)) (hR : R (.returned (.agg cs)) w) : bodyPost Try.prog fn R .ret ⟨tmps, []⟩ w :=
  bodyPost_ret (results_single hfn (.cell g 49 cs (0, 0) _ hp hB Try.underlying49 rfl (by rw [hcs]; kernel_rfl) .nil)) rfl hR

theorem Blk.fill8 {w : World} {g : Nat} {cs : Array Value} {t : TypeId} (h : Blk w g cs t) (hs : cs.size = 8) (a b c d e f i j : Value) : Blk ((((((((w.setCell ⟨g, 0, none⟩ a).setCell ⟨g, 1, none⟩ b).setCell ⟨g, 2, none⟩ c).setCell ⟨g, 3, none⟩ d).setCell ⟨g, 4, none⟩ e).setCell ⟨g, 5, none⟩ f).setCell ⟨g, 6, none⟩ i).setCell ⟨g, 7, none⟩ j) g #[a, b, c, d, e, f, i, j] t := by
  obtain ⟨x0, x1, x2, x3, x4, x5, x6, x7, rfl⟩ : ∃ x0 x1 x2 x3 x4 x5 x6 x7, cs = #[x0, x1, x2, x3, x4, x5, x6, x7] := by
    obtain ⟨l⟩ := cs
    match l, hs with
    | [x0, x1, x2, x3, x4, x5, x6, x7], _ => exact ⟨_, _, _, _, _, _, _, _, rfl⟩
  refine Blk.put (cs := #[a, b, c, d, e, f, i, x7]) ?_ 7 _ rfl
  refine Blk.put (cs := #[a, b, c, d, e, f, x6, x7]) ?_ 6 _ rfl
  refine Blk.put (cs := #[a, b, c, d, e, x5, x6, x7]) ?_ 5 _ rfl
  refine Blk.put (cs := #[a, b, c, d, x4, x5, x6, x7]) ?_ 4 _ rfl
  refine Blk.put (cs := #[a, b, c, x3, x4, x5, x6, x7]) ?_ 3 _ rfl
  refine Blk.put (cs := #[a, b, x2, x3, x4, x5, x6, x7]) ?_ 2 _ rfl
  refine Blk.put (cs := #[a, x1, x2, x3, x4, x5, x6, x7]) ?_ 1 _ rfl
  refine Blk.put (cs := #[x0, x1, x2, x3, x4, x5, x6, x7]) ?_ 0 _ rfl
  exact h

theorem Fr.fill8 {S : List Nat} {w w1 : World} (h : Fr S w w1) {g : Nat} (hg : g ∈ S ∨ w.heap.size ≤ g) (a b c d e f i j : Value) : Fr S w ((((((((w1.setCell ⟨g, 0, none⟩ a).setCell ⟨g, 1, none⟩ b).setCell ⟨g, 2, none⟩ c).setCell ⟨g, 3, none⟩ d).setCell ⟨g, 4, none⟩ e).setCell ⟨g, 5, none⟩ f).setCell ⟨g, 6, none⟩ i).setCell ⟨g, 7, none⟩ j) := ((((((((h.set hg 0 _).set hg 1 _).set hg 2 _).set hg 3 _).set hg 4 _).set hg 5 _).set hg 6 _).set hg 7 _)

/-- the facts of a row's block -/
theorem blk8 {w : World} {g : Nat} {a b c d e f i j : Value} {t : TypeId} (h : Blk w g #[a, b, c, d, e, f, i, j] t) :
    w.cell? ⟨g, 0, none⟩ = some a ∧ w.cell? ⟨g, 1, none⟩ = some b ∧ w.cell? ⟨g, 2, none⟩ = some c ∧ w.cell? ⟨g, 3, none⟩ = some d ∧ w.cell? ⟨g, 4, none⟩ = some e ∧ w.cell? ⟨g, 5, none⟩ = some f ∧ w.cell? ⟨g, 6, none⟩ = some i ∧ w.cell? ⟨g, 7, none⟩ = some j ∧
    w.frozen? ⟨g, 0, none⟩ = false ∧ w.frozen? ⟨g, 1, none⟩ = false ∧ w.frozen? ⟨g, 2, none⟩ = false ∧ w.frozen? ⟨g, 3, none⟩ = false ∧ w.frozen? ⟨g, 4, none⟩ = false ∧ w.frozen? ⟨g, 5, none⟩ = false ∧ w.frozen? ⟨g, 6, none⟩ = false ∧ w.frozen? ⟨g, 7, none⟩ = false :=
  ⟨h.cell 0, h.cell 1, h.cell 2, h.cell 3, h.cell 4, h.cell 5, h.cell 6, h.cell 7, h.frozen 0, h.frozen 1, h.frozen 2, h.frozen 3, h.frozen 4, h.frozen 5, h.frozen 6, h.frozen 7⟩

set_option maxRecDepth 100000 in
set_option maxHeartbeats 4000000 in
theorem begin_histo (key : ByteArray) (v : Int) (hv : I64 v) (w : World) :
    Calls Try.prog 38 #[.string key, .int .i64 3, .int .i64 v] w (Ret key (beginR 3 v) w) := by
  have HB := Lib.hid (show beginR 3 v = ⟨3, 1, v, v, v, false, bump [] (bl v)⟩ by unfold beginR; rw [if_pos rfl])
  have HP := Lib.hid (show ∀ w' bv, Ow w' w.heap.size bv (bump [] (bl v)) → Fr [] w w' → Ret key (beginR 3 v) w (.returned (RowV key ⟨3, 1, v, v, v, false, bump [] (bl v)⟩ bv)) w' from fun w' bv h1 h => ⟨_, by rw [HB.out], by rw [HB.out]; exact h1, h⟩)
  have HV := Lib.hid hv
  clear hv
  go_enter Try.func38, Try.ntmps38
  go_wp2_with fail
  refine (bucket_any (.slice none 0 0) [] v 0 HV.out (by decide) (by simp) _ (Ow.nil _ _)).mono ?_
  rintro e w3 ⟨bv, rfl, hO, hF⟩
  have BA := ((Blk.new w #[.string ⟨#[]⟩, .int .i64 0, .int .u64 0, .int .i64 0, .int .i64 0, .int .i64 0, .bool false, .slice none 0 0] 49).alloc (.cells #[.string key, .int .i64 3, .int .u64 1, .int .i64 v, .int .i64 v, .int .i64 v, .bool false, .slice none 0 0] 49)).keep hF (by simp)
  have BB := (Blk.new (w.alloc (.cells #[.string ⟨#[]⟩, .int .i64 0, .int .u64 0, .int .i64 0, .int .i64 0, .int .i64 0, .bool false, .slice none 0 0] 49)) #[.string key, .int .i64 3, .int .u64 1, .int .i64 v, .int .i64 v, .int .i64 v, .bool false, .slice none 0 0] 49).keep hF (by simp)
  rw [size_alloc] at BB
  have HF3 := Lib.hid (((Fr.refl [] w).alloc _).alloc _ |>.trans hF)
  rw [size_alloc, size_alloc] at hO
  have HO := Lib.hid hO
  have HBA := Lib.hid BA
  obtain ⟨x0, x1, x2, x3, x4, x5, x6, x7, y0, y1, y2, y3, y4, y5, y6, y7⟩ := blk8 BA
  obtain ⟨u0, u1, u2, u3, u4, u5, u6, u7, t0, t1, t2, t3, t4, t5, t6, t7⟩ := blk8 BB
  have hs : w.heap.size ≠ w.heap.size + 1 := by omega
  clear hO hF BA BB
  obtain ⟨A, n, c, hbv⟩ : ∃ A n c, bv = .slice A n c := by
    rcases HO.out.form with ⟨rfl, _⟩ | ⟨g, cap, rfl, _⟩
    · exact ⟨_, _, _, rfl⟩
    · exact ⟨_, _, _, rfl⟩
  subst hbv
  go_wp2_with fail
  refine ret_row (g := w.heap.size) (cs := #[.string key, .int .i64 3, .int .u64 1, .int .i64 v, .int .i64 v, .int .i64 v, .bool false, .slice A n c])
    (Blk.fill8 (HBA.out.far (by omega) _ _) rfl _ _ _ _ _ _ _ _) rfl rfl rfl ?_
  exact HP.out _ _ (Ow.base (b := w.heap.size + 1 + 1) (HO.out.keep (S := [w.heap.size, w.heap.size + 1]) (Fr.fill8 (g := w.heap.size) ((Fr.refl _ w3).set (b := w.heap.size + 1) (.inl (by simp)) _ _) (.inl (by simp)) _ _ _ _ _ _ _ _) (fun x hx h => by have h1 := (HO.out.lt x h).1; simp at hx; omega)) (by omega))
      (Fr.fill8 (g := w.heap.size) (HF3.out.set (b := w.heap.size + 1) (.inr (by omega)) _ _) (.inr (by omega)) _ _ _ _ _ _ _ _)

theorem begin_any (key : ByteArray) (kind v : Int) (hv : I64 v) (w : World) :
    Calls Try.prog 38 #[.string key, .int .i64 kind, .int .i64 v] w (Ret key (beginR kind v) w) := by
  by_cases h : kind = 3
  · subst h
    exact begin_histo key v hv w
  · exact begin_other key kind v h w
end Go.Proofs.Ytjnjkgoofkgiiaa.Tally
