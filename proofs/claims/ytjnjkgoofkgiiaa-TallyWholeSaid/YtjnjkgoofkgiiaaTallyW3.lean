/- Walks of layer 18's program: Add. -/
import Derived.Test.YtjnjkgoofkgiiaaTallyW2
set_option linter.unusedVariables false
set_option linter.unusedSimpArgs false
namespace Go.Proofs.Ytjnjkgoofkgiiaa.Tally
open Go.RowKit Go.Proofs.YtjnjkgoofkgiiaaW.PrintWords Go.Proofs.YtjnjkgoofkgiiaaW.PrintLast

set_option maxRecDepth 100000 in
set_option maxHeartbeats 4000000 in
theorem add_last (key : ByteArray) (m s le mo : Int) (ov : Bool) (bs : List Int) (k base : Nat) (A : Option Addr) (n c : Nat) (v : Int) (hv : I64 v) (hk : k ≤ 1000) (ho : Ok k ⟨2, m, s, le, mo, ov, bs⟩) (w : World) (hO : Ow w base (.slice A n c) bs) :
    Calls Try.prog 39 #[RowV key ⟨2, m, s, le, mo, ov, bs⟩ (.slice A n c), .int .i64 v] w (Ret key (addR ⟨2, m, s, le, mo, ov, bs⟩ v) w) := by
  have hm0 : m = (k : Int) := ho.many
  have HCF := Lib.hid (count_f m ⟨by omega, by omega⟩)
  have hlen : bs.length ≤ 64 := by have := ho.len; simpa using this
  have HB := Lib.hid (clone_any (.slice A n c) bs base (by omega))
  have HAE := Lib.hid (show addR ⟨2, m, s, le, mo, ov, bs⟩ v = ⟨2, m + 1, v, min le v, max mo v, ov, bs⟩ by
    unfold addR
    have e1 : (if v < le then v else le) = min le v := by split <;> omega
    have e2 : (if mo < v then v else mo) = max mo v := by split <;> omega
    simp [e1, e2])
  have HO := Lib.hid hO
  clear hm0 ho hv hlen hO
  show Calls Try.prog _ #[.agg #[.string key, .int .i64 2, .int .u64 m, .int .i64 s, .int .i64 le, .int .i64 mo, .bool ov, .slice A n c], .int .i64 v] w _
  obtain ⟨Q, hQ⟩ : ∃ Q, Q = Ret key (addR ⟨2, m, s, le, mo, ov, bs⟩ v) w := ⟨_, rfl⟩
  have HQ := Lib.hid hQ
  rw [← hQ]
  clear hQ
  go_enter Try.func39, Try.ntmps39
  go_wp2_with fail
  refine (PCount.sat_Count.calls m 1 (m + 1) false _ HCF.out).mono ?_
  rintro e w4 ⟨rfl, hd⟩
  have F4 := ((Fr.refl [] w).alloc (.cells #[.string key, .int .i64 2, .int .u64 m, .int .i64 s, .int .i64 le, .int .i64 mo, .bool ov, .slice A n c] 49)).alloc (.cells #[.string ⟨#[]⟩, .int .i64 0, .int .u64 0, .int .i64 0, .int .i64 0, .int .i64 0, .bool false, .slice none 0 0] 49) |>.trans (Fr.of_drawn hd)
  have BA := ((Blk.new w #[.string key, .int .i64 2, .int .u64 m, .int .i64 s, .int .i64 le, .int .i64 mo, .bool ov, .slice A n c] 49).alloc (.cells #[.string ⟨#[]⟩, .int .i64 0, .int .u64 0, .int .i64 0, .int .i64 0, .int .i64 0, .bool false, .slice none 0 0] 49)).keep (Fr.of_drawn hd) (by simp)
  have BB := (Blk.new (w.alloc (.cells #[.string key, .int .i64 2, .int .u64 m, .int .i64 s, .int .i64 le, .int .i64 mo, .bool ov, .slice A n c] 49)) #[.string ⟨#[]⟩, .int .i64 0, .int .u64 0, .int .i64 0, .int .i64 0, .int .i64 0, .bool false, .slice none 0 0] 49).keep (Fr.of_drawn hd) (by simp)
  rw [size_alloc] at BB
  clear hd
  obtain ⟨x0, x1, x2, x3, x4, x5, x6, x7, y0, y1, y2, y3, y4, y5, y6, y7⟩ := blk8 BA
  have HF4 := Lib.hid F4
  have HBA := Lib.hid BA
  have HBB := Lib.hid BB
  clear F4 BA BB
  go_wp2_with fail
  have F6 : Fr [] w ((((w4.setCell ⟨w.heap.size, 2, none⟩ (.int .u64 (m + 1))).setCell ⟨w.heap.size, 3, none⟩ (.int .i64 v)).setCell ⟨w.heap.size, 4, none⟩ (.int .i64 (min le v))).setCell ⟨w.heap.size, 5, none⟩ (.int .i64 (max mo v))) := ((((HF4.out.set (.inr (Nat.le_refl _)) _ _).set (.inr (Nat.le_refl _)) _ _).set (.inr (Nat.le_refl _)) _ _).set (.inr (Nat.le_refl _)) _ _)
  have BA := HBA.out
  have BB := HBB.out
  replace BA := BA.put (cs' := #[.string key, .int .i64 2, .int .u64 (m + 1), .int .i64 s, .int .i64 le, .int .i64 mo, .bool ov, .slice A n c]) 2 (.int .u64 (m + 1)) rfl
  replace BB := BB.far (b := w.heap.size) (by omega) 2 (.int .u64 (m + 1))
  replace BA := BA.put (cs' := #[.string key, .int .i64 2, .int .u64 (m + 1), .int .i64 v, .int .i64 le, .int .i64 mo, .bool ov, .slice A n c]) 3 (.int .i64 v) rfl
  replace BB := BB.far (b := w.heap.size) (by omega) 3 (.int .i64 v)
  replace BA := BA.put (cs' := #[.string key, .int .i64 2, .int .u64 (m + 1), .int .i64 v, .int .i64 (min le v), .int .i64 mo, .bool ov, .slice A n c]) 4 (.int .i64 (min le v)) rfl
  replace BB := BB.far (b := w.heap.size) (by omega) 4 (.int .i64 (min le v))
  replace BA := BA.put (cs' := #[.string key, .int .i64 2, .int .u64 (m + 1), .int .i64 v, .int .i64 (min le v), .int .i64 (max mo v), .bool ov, .slice A n c]) 5 (.int .i64 (max mo v)) rfl
  replace BB := BB.far (b := w.heap.size) (by omega) 5 (.int .i64 (max mo v))
  refine (HB.out _ (HO.out.keep0 F6)).mono ?_
  rintro e w7 ⟨v7, rfl, hO7, hF7⟩
  have F7 := F6.trans hF7
  replace BA := BA.keep hF7 (by simp)
  replace BB := BB.keep hF7 (by simp)
  have hsz : w.heap.size + 2 ≤ w7.heap.size := BB.lt
  have HO7 := Lib.hid (Ow.base (b' := w.heap.size + 2) hO7 (by have h1 := BB; have h2 := hsz; have h3 := HBB.out.lt; simp only [size_set]; omega))
  clear x0 x1 x2 x3 x4 x5 x6 x7 y0 y1 y2 y3 y4 y5 y6 y7 HF4 HBA HBB F6 hO7 hF7
  obtain ⟨x0, x1, x2, x3, x4, x5, x6, x7, y0, y1, y2, y3, y4, y5, y6, y7⟩ := blk8 BA
  have HF7 := Lib.hid F7
  have HBA := Lib.hid BA
  have HBB := Lib.hid BB
  clear F7 BA BB
  obtain ⟨A7, n7, c7, h7⟩ : ∃ A n c, v7 = .slice A n c := by
    rcases HO7.out.form with ⟨rfl, _⟩ | ⟨g, cap, rfl, _⟩
    · exact ⟨_, _, _, rfl⟩
    · exact ⟨_, _, _, rfl⟩
  subst h7
  have hne : w.heap.size ≠ w.heap.size + 1 := by omega
  obtain ⟨z0, z1, z2, z3, z4, z5, z6, z7, t0, t1, t2, t3, t4, t5, t6, t7⟩ := blk8 HBB.out
  go_wp2_with fail
  refine ret_row (g := w.heap.size + 1) (cs := #[.string key, .int .i64 2, .int .u64 (m + 1), .int .i64 v, .int .i64 (min le v), .int .i64 (max mo v), .bool ov, .slice A7 n7 c7]) (Blk.fill8 (HBB.out.far (by omega) _ _) rfl _ _ _ _ _ _ _ _) rfl rfl rfl ?_
  rw [HQ.out, HAE.out]
  refine ⟨.slice A7 n7 c7, rfl, ?_, ?_⟩
  · exact Ow.base (b := w.heap.size + 2) (HO7.out.keep (S := [w.heap.size, w.heap.size + 1]) (Fr.fill8 (g := w.heap.size + 1) ((Fr.refl _ w7).set (b := w.heap.size) (.inl (by simp)) _ _) (.inl (by simp)) _ _ _ _ _ _ _ _) (fun x hx h => by have h1 := (HO7.out.lt x h).1; simp at hx; omega)) (by omega)
  · exact Fr.fill8 (g := w.heap.size + 1) (HF7.out.set (b := w.heap.size) (.inr (by omega)) _ _) (.inr (by omega)) _ _ _ _ _ _ _ _

set_option maxRecDepth 100000 in
set_option maxHeartbeats 4000000 in
theorem add_histoF (key : ByteArray) (m s le mo : Int) (bs : List Int) (k base : Nat) (A : Option Addr) (n c : Nat) (v : Int) (hv : I64 v) (hk : k ≤ 1000) (ho : Ok k ⟨3, m, s, le, mo, false, bs⟩) (w : World) (hO : Ow w base (.slice A n c) bs) :
    Calls Try.prog 39 #[RowV key ⟨3, m, s, le, mo, false, bs⟩ (.slice A n c), .int .i64 v] w (Ret key (addR ⟨3, m, s, le, mo, false, bs⟩ v) w) := by
  have hm0 : m = (k : Int) := ho.many
  have HCF := Lib.hid (count_f m ⟨by omega, by omega⟩)
  have hlen : bs.length ≤ 64 := by have := ho.len; simpa using this
  have HAF := Lib.hid (add_f s v ho.sum hv)
  have HB := Lib.hid (bucket_any (.slice A n c) bs v base hv (by omega) (fun x hx => by have := ho.b x (by simpa using hx); omega))
  obtain ⟨s2, hs2⟩ : ∃ s2, s2 = (sadd s v).1 := ⟨_, rfl⟩
  obtain ⟨o2, ho2⟩ : ∃ o2, o2 = (sadd s v).2 := ⟨_, rfl⟩
  rw [show sadd s v = (s2, o2) by rw [hs2, ho2]] at HAF
  have HAE := Lib.hid (show addR ⟨3, m, s, le, mo, false, bs⟩ v = ⟨3, m + 1, s2, min le v, max mo v, o2, bump bs (bl v)⟩ by
    unfold addR
    have e1 : (if v < le then v else le) = min le v := by split <;> omega
    have e2 : (if mo < v then v else mo) = max mo v := by split <;> omega
    simp [e1, e2, hs2, ho2])
  have HO := Lib.hid hO
  clear hm0 ho hv hlen hO hs2 ho2
  show Calls Try.prog _ #[.agg #[.string key, .int .i64 3, .int .u64 m, .int .i64 s, .int .i64 le, .int .i64 mo, .bool false, .slice A n c], .int .i64 v] w _
  obtain ⟨Q, hQ⟩ : ∃ Q, Q = Ret key (addR ⟨3, m, s, le, mo, false, bs⟩ v) w := ⟨_, rfl⟩
  have HQ := Lib.hid hQ
  rw [← hQ]
  clear hQ
  go_enter Try.func39, Try.ntmps39
  go_wp2_with fail
  refine (PCount.sat_Count.calls m 1 (m + 1) false _ HCF.out).mono ?_
  rintro e w4 ⟨rfl, hd⟩
  have F4 := ((Fr.refl [] w).alloc (.cells #[.string key, .int .i64 3, .int .u64 m, .int .i64 s, .int .i64 le, .int .i64 mo, .bool false, .slice A n c] 49)).alloc (.cells #[.string ⟨#[]⟩, .int .i64 0, .int .u64 0, .int .i64 0, .int .i64 0, .int .i64 0, .bool false, .slice none 0 0] 49) |>.trans (Fr.of_drawn hd)
  have BA := ((Blk.new w #[.string key, .int .i64 3, .int .u64 m, .int .i64 s, .int .i64 le, .int .i64 mo, .bool false, .slice A n c] 49).alloc (.cells #[.string ⟨#[]⟩, .int .i64 0, .int .u64 0, .int .i64 0, .int .i64 0, .int .i64 0, .bool false, .slice none 0 0] 49)).keep (Fr.of_drawn hd) (by simp)
  have BB := (Blk.new (w.alloc (.cells #[.string key, .int .i64 3, .int .u64 m, .int .i64 s, .int .i64 le, .int .i64 mo, .bool false, .slice A n c] 49)) #[.string ⟨#[]⟩, .int .i64 0, .int .u64 0, .int .i64 0, .int .i64 0, .int .i64 0, .bool false, .slice none 0 0] 49).keep (Fr.of_drawn hd) (by simp)
  rw [size_alloc] at BB
  clear hd
  obtain ⟨x0, x1, x2, x3, x4, x5, x6, x7, y0, y1, y2, y3, y4, y5, y6, y7⟩ := blk8 BA
  have HF4 := Lib.hid F4
  have HBA := Lib.hid BA
  have HBB := Lib.hid BB
  clear F4 BA BB
  go_wp2_with fail
  refine (PAdd.sat_Add.calls 3 s v s2 o2 _ HAF.out).mono ?_
  rintro e w5 ⟨rfl, hd⟩
  have F5 := (HF4.out.set (b := w.heap.size) (.inr (Nat.le_refl _)) 2 (.int .u64 (m + 1))).trans (Fr.of_drawn hd)
  have BA := (HBA.out.put (cs' := #[.string key, .int .i64 3, .int .u64 (m + 1), .int .i64 s, .int .i64 le, .int .i64 mo, .bool false, .slice A n c]) 2 (.int .u64 (m + 1)) rfl).keep (Fr.of_drawn hd) (by simp)
  have BB := (HBB.out.far (b := w.heap.size) (by omega) 2 (.int .u64 (m + 1))).keep (Fr.of_drawn hd) (by simp)
  clear hd x0 x1 x2 x3 x4 x5 x6 x7 y0 y1 y2 y3 y4 y5 y6 y7 HF4 HBA HBB
  obtain ⟨x0, x1, x2, x3, x4, x5, x6, x7, y0, y1, y2, y3, y4, y5, y6, y7⟩ := blk8 BA
  have HF5 := Lib.hid F5
  have HBA := Lib.hid BA
  have HBB := Lib.hid BB
  clear F5 BA BB
  go_wp2_with fail
  have F6 : Fr [] w ((((w5.setCell ⟨w.heap.size, 3, none⟩ (.int .i64 s2)).setCell ⟨w.heap.size, 6, none⟩ (.bool o2)).setCell ⟨w.heap.size, 4, none⟩ (.int .i64 (min le v))).setCell ⟨w.heap.size, 5, none⟩ (.int .i64 (max mo v))) := ((((HF5.out.set (.inr (Nat.le_refl _)) _ _).set (.inr (Nat.le_refl _)) _ _).set (.inr (Nat.le_refl _)) _ _).set (.inr (Nat.le_refl _)) _ _)
  have BA := HBA.out
  have BB := HBB.out
  replace BA := BA.put (cs' := #[.string key, .int .i64 3, .int .u64 (m + 1), .int .i64 s2, .int .i64 le, .int .i64 mo, .bool false, .slice A n c]) 3 (.int .i64 s2) rfl
  replace BB := BB.far (b := w.heap.size) (by omega) 3 (.int .i64 s2)
  replace BA := BA.put (cs' := #[.string key, .int .i64 3, .int .u64 (m + 1), .int .i64 s2, .int .i64 le, .int .i64 mo, .bool o2, .slice A n c]) 6 (.bool o2) rfl
  replace BB := BB.far (b := w.heap.size) (by omega) 6 (.bool o2)
  replace BA := BA.put (cs' := #[.string key, .int .i64 3, .int .u64 (m + 1), .int .i64 s2, .int .i64 (min le v), .int .i64 mo, .bool o2, .slice A n c]) 4 (.int .i64 (min le v)) rfl
  replace BB := BB.far (b := w.heap.size) (by omega) 4 (.int .i64 (min le v))
  replace BA := BA.put (cs' := #[.string key, .int .i64 3, .int .u64 (m + 1), .int .i64 s2, .int .i64 (min le v), .int .i64 (max mo v), .bool o2, .slice A n c]) 5 (.int .i64 (max mo v)) rfl
  replace BB := BB.far (b := w.heap.size) (by omega) 5 (.int .i64 (max mo v))
  refine (HB.out _ (HO.out.keep0 F6)).mono ?_
  rintro e w7 ⟨v7, rfl, hO7, hF7⟩
  have F7 := F6.trans hF7
  replace BA := BA.keep hF7 (by simp)
  replace BB := BB.keep hF7 (by simp)
  have hsz : w.heap.size + 2 ≤ w7.heap.size := BB.lt
  have HO7 := Lib.hid (Ow.base (b' := w.heap.size + 2) hO7 (by have h1 := BB; have h2 := hsz; have h3 := HBB.out.lt; simp only [size_set]; omega))
  clear x0 x1 x2 x3 x4 x5 x6 x7 y0 y1 y2 y3 y4 y5 y6 y7 HF5 HBA HBB F6 hO7 hF7
  obtain ⟨x0, x1, x2, x3, x4, x5, x6, x7, y0, y1, y2, y3, y4, y5, y6, y7⟩ := blk8 BA
  have HF7 := Lib.hid F7
  have HBA := Lib.hid BA
  have HBB := Lib.hid BB
  clear F7 BA BB
  obtain ⟨A7, n7, c7, h7⟩ : ∃ A n c, v7 = .slice A n c := by
    rcases HO7.out.form with ⟨rfl, _⟩ | ⟨g, cap, rfl, _⟩
    · exact ⟨_, _, _, rfl⟩
    · exact ⟨_, _, _, rfl⟩
  subst h7
  have hne : w.heap.size ≠ w.heap.size + 1 := by omega
  obtain ⟨z0, z1, z2, z3, z4, z5, z6, z7, t0, t1, t2, t3, t4, t5, t6, t7⟩ := blk8 HBB.out
  go_wp2_with fail
  refine ret_row (g := w.heap.size + 1) (cs := #[.string key, .int .i64 3, .int .u64 (m + 1), .int .i64 s2, .int .i64 (min le v), .int .i64 (max mo v), .bool o2, .slice A7 n7 c7]) (Blk.fill8 (HBB.out.far (by omega) _ _) rfl _ _ _ _ _ _ _ _) rfl rfl rfl ?_
  rw [HQ.out, HAE.out]
  refine ⟨.slice A7 n7 c7, rfl, ?_, ?_⟩
  · exact Ow.base (b := w.heap.size + 2) (HO7.out.keep (S := [w.heap.size, w.heap.size + 1]) (Fr.fill8 (g := w.heap.size + 1) ((Fr.refl _ w7).set (b := w.heap.size) (.inl (by simp)) _ _) (.inl (by simp)) _ _ _ _ _ _ _ _) (fun x hx h => by have h1 := (HO7.out.lt x h).1; simp at hx; omega)) (by omega)
  · exact Fr.fill8 (g := w.heap.size + 1) (HF7.out.set (b := w.heap.size) (.inr (by omega)) _ _) (.inr (by omega)) _ _ _ _ _ _ _ _

set_option maxRecDepth 100000 in
set_option maxHeartbeats 4000000 in
theorem add_histoT (key : ByteArray) (m s le mo : Int) (bs : List Int) (k base : Nat) (A : Option Addr) (n c : Nat) (v : Int) (hv : I64 v) (hk : k ≤ 1000) (ho : Ok k ⟨3, m, s, le, mo, true, bs⟩) (w : World) (hO : Ow w base (.slice A n c) bs) :
    Calls Try.prog 39 #[RowV key ⟨3, m, s, le, mo, true, bs⟩ (.slice A n c), .int .i64 v] w (Ret key (addR ⟨3, m, s, le, mo, true, bs⟩ v) w) := by
  have hm0 : m = (k : Int) := ho.many
  have HCF := Lib.hid (count_f m ⟨by omega, by omega⟩)
  have hlen : bs.length ≤ 64 := by have := ho.len; simpa using this
  have HAF := Lib.hid (add_f s v ho.sum hv)
  have HB := Lib.hid (bucket_any (.slice A n c) bs v base hv (by omega) (fun x hx => by have := ho.b x (by simpa using hx); omega))
  obtain ⟨s2, hs2⟩ : ∃ s2, s2 = (sadd s v).1 := ⟨_, rfl⟩
  obtain ⟨o2, ho2⟩ : ∃ o2, o2 = (sadd s v).2 := ⟨_, rfl⟩
  rw [show sadd s v = (s2, o2) by rw [hs2, ho2]] at HAF
  have HAE := Lib.hid (show addR ⟨3, m, s, le, mo, true, bs⟩ v = ⟨3, m + 1, s2, min le v, max mo v, true, bump bs (bl v)⟩ by
    unfold addR
    have e1 : (if v < le then v else le) = min le v := by split <;> omega
    have e2 : (if mo < v then v else mo) = max mo v := by split <;> omega
    simp [e1, e2, hs2, ho2])
  have HO := Lib.hid hO
  clear hm0 ho hv hlen hO hs2 ho2
  show Calls Try.prog _ #[.agg #[.string key, .int .i64 3, .int .u64 m, .int .i64 s, .int .i64 le, .int .i64 mo, .bool true, .slice A n c], .int .i64 v] w _
  obtain ⟨Q, hQ⟩ : ∃ Q, Q = Ret key (addR ⟨3, m, s, le, mo, true, bs⟩ v) w := ⟨_, rfl⟩
  have HQ := Lib.hid hQ
  rw [← hQ]
  clear hQ
  go_enter Try.func39, Try.ntmps39
  go_wp2_with fail
  refine (PCount.sat_Count.calls m 1 (m + 1) false _ HCF.out).mono ?_
  rintro e w4 ⟨rfl, hd⟩
  have F4 := ((Fr.refl [] w).alloc (.cells #[.string key, .int .i64 3, .int .u64 m, .int .i64 s, .int .i64 le, .int .i64 mo, .bool true, .slice A n c] 49)).alloc (.cells #[.string ⟨#[]⟩, .int .i64 0, .int .u64 0, .int .i64 0, .int .i64 0, .int .i64 0, .bool false, .slice none 0 0] 49) |>.trans (Fr.of_drawn hd)
  have BA := ((Blk.new w #[.string key, .int .i64 3, .int .u64 m, .int .i64 s, .int .i64 le, .int .i64 mo, .bool true, .slice A n c] 49).alloc (.cells #[.string ⟨#[]⟩, .int .i64 0, .int .u64 0, .int .i64 0, .int .i64 0, .int .i64 0, .bool false, .slice none 0 0] 49)).keep (Fr.of_drawn hd) (by simp)
  have BB := (Blk.new (w.alloc (.cells #[.string key, .int .i64 3, .int .u64 m, .int .i64 s, .int .i64 le, .int .i64 mo, .bool true, .slice A n c] 49)) #[.string ⟨#[]⟩, .int .i64 0, .int .u64 0, .int .i64 0, .int .i64 0, .int .i64 0, .bool false, .slice none 0 0] 49).keep (Fr.of_drawn hd) (by simp)
  rw [size_alloc] at BB
  clear hd
  obtain ⟨x0, x1, x2, x3, x4, x5, x6, x7, y0, y1, y2, y3, y4, y5, y6, y7⟩ := blk8 BA
  have HF4 := Lib.hid F4
  have HBA := Lib.hid BA
  have HBB := Lib.hid BB
  clear F4 BA BB
  go_wp2_with fail
  refine (PAdd.sat_Add.calls 3 s v s2 o2 _ HAF.out).mono ?_
  rintro e w5 ⟨rfl, hd⟩
  have F5 := (HF4.out.set (b := w.heap.size) (.inr (Nat.le_refl _)) 2 (.int .u64 (m + 1))).trans (Fr.of_drawn hd)
  have BA := (HBA.out.put (cs' := #[.string key, .int .i64 3, .int .u64 (m + 1), .int .i64 s, .int .i64 le, .int .i64 mo, .bool true, .slice A n c]) 2 (.int .u64 (m + 1)) rfl).keep (Fr.of_drawn hd) (by simp)
  have BB := (HBB.out.far (b := w.heap.size) (by omega) 2 (.int .u64 (m + 1))).keep (Fr.of_drawn hd) (by simp)
  clear hd x0 x1 x2 x3 x4 x5 x6 x7 y0 y1 y2 y3 y4 y5 y6 y7 HF4 HBA HBB
  obtain ⟨x0, x1, x2, x3, x4, x5, x6, x7, y0, y1, y2, y3, y4, y5, y6, y7⟩ := blk8 BA
  have HF5 := Lib.hid F5
  have HBA := Lib.hid BA
  have HBB := Lib.hid BB
  clear F5 BA BB
  go_wp2_with fail
  have F6 : Fr [] w ((((w5.setCell ⟨w.heap.size, 3, none⟩ (.int .i64 s2)).setCell ⟨w.heap.size, 6, none⟩ (.bool true)).setCell ⟨w.heap.size, 4, none⟩ (.int .i64 (min le v))).setCell ⟨w.heap.size, 5, none⟩ (.int .i64 (max mo v))) := ((((HF5.out.set (.inr (Nat.le_refl _)) _ _).set (.inr (Nat.le_refl _)) _ _).set (.inr (Nat.le_refl _)) _ _).set (.inr (Nat.le_refl _)) _ _)
  have BA := HBA.out
  have BB := HBB.out
  replace BA := BA.put (cs' := #[.string key, .int .i64 3, .int .u64 (m + 1), .int .i64 s2, .int .i64 le, .int .i64 mo, .bool true, .slice A n c]) 3 (.int .i64 s2) rfl
  replace BB := BB.far (b := w.heap.size) (by omega) 3 (.int .i64 s2)
  replace BA := BA.put (cs' := #[.string key, .int .i64 3, .int .u64 (m + 1), .int .i64 s2, .int .i64 le, .int .i64 mo, .bool true, .slice A n c]) 6 (.bool true) rfl
  replace BB := BB.far (b := w.heap.size) (by omega) 6 (.bool true)
  replace BA := BA.put (cs' := #[.string key, .int .i64 3, .int .u64 (m + 1), .int .i64 s2, .int .i64 (min le v), .int .i64 mo, .bool true, .slice A n c]) 4 (.int .i64 (min le v)) rfl
  replace BB := BB.far (b := w.heap.size) (by omega) 4 (.int .i64 (min le v))
  replace BA := BA.put (cs' := #[.string key, .int .i64 3, .int .u64 (m + 1), .int .i64 s2, .int .i64 (min le v), .int .i64 (max mo v), .bool true, .slice A n c]) 5 (.int .i64 (max mo v)) rfl
  replace BB := BB.far (b := w.heap.size) (by omega) 5 (.int .i64 (max mo v))
  refine (HB.out _ (HO.out.keep0 F6)).mono ?_
  rintro e w7 ⟨v7, rfl, hO7, hF7⟩
  have F7 := F6.trans hF7
  replace BA := BA.keep hF7 (by simp)
  replace BB := BB.keep hF7 (by simp)
  have hsz : w.heap.size + 2 ≤ w7.heap.size := BB.lt
  have HO7 := Lib.hid (Ow.base (b' := w.heap.size + 2) hO7 (by have h1 := BB; have h2 := hsz; have h3 := HBB.out.lt; simp only [size_set]; omega))
  clear x0 x1 x2 x3 x4 x5 x6 x7 y0 y1 y2 y3 y4 y5 y6 y7 HF5 HBA HBB F6 hO7 hF7
  obtain ⟨x0, x1, x2, x3, x4, x5, x6, x7, y0, y1, y2, y3, y4, y5, y6, y7⟩ := blk8 BA
  have HF7 := Lib.hid F7
  have HBA := Lib.hid BA
  have HBB := Lib.hid BB
  clear F7 BA BB
  obtain ⟨A7, n7, c7, h7⟩ : ∃ A n c, v7 = .slice A n c := by
    rcases HO7.out.form with ⟨rfl, _⟩ | ⟨g, cap, rfl, _⟩
    · exact ⟨_, _, _, rfl⟩
    · exact ⟨_, _, _, rfl⟩
  subst h7
  have hne : w.heap.size ≠ w.heap.size + 1 := by omega
  obtain ⟨z0, z1, z2, z3, z4, z5, z6, z7, t0, t1, t2, t3, t4, t5, t6, t7⟩ := blk8 HBB.out
  go_wp2_with fail
  refine ret_row (g := w.heap.size + 1) (cs := #[.string key, .int .i64 3, .int .u64 (m + 1), .int .i64 s2, .int .i64 (min le v), .int .i64 (max mo v), .bool true, .slice A7 n7 c7]) (Blk.fill8 (HBB.out.far (by omega) _ _) rfl _ _ _ _ _ _ _ _) rfl rfl rfl ?_
  rw [HQ.out, HAE.out]
  refine ⟨.slice A7 n7 c7, rfl, ?_, ?_⟩
  · exact Ow.base (b := w.heap.size + 2) (HO7.out.keep (S := [w.heap.size, w.heap.size + 1]) (Fr.fill8 (g := w.heap.size + 1) ((Fr.refl _ w7).set (b := w.heap.size) (.inl (by simp)) _ _) (.inl (by simp)) _ _ _ _ _ _ _ _) (fun x hx h => by have h1 := (HO7.out.lt x h).1; simp at hx; omega)) (by omega)
  · exact Fr.fill8 (g := w.heap.size + 1) (HF7.out.set (b := w.heap.size) (.inr (by omega)) _ _) (.inr (by omega)) _ _ _ _ _ _ _ _

set_option maxRecDepth 100000 in
set_option maxHeartbeats 4000000 in
theorem add_otherF (key : ByteArray) (kind : Int) (h2 : kind ≠ 2) (h3 : kind ≠ 3) (m s le mo : Int) (bs : List Int) (k base : Nat) (A : Option Addr) (n c : Nat) (v : Int) (hv : I64 v) (hk : k ≤ 1000) (ho : Ok k ⟨kind, m, s, le, mo, false, bs⟩) (w : World) (hO : Ow w base (.slice A n c) bs) :
    Calls Try.prog 39 #[RowV key ⟨kind, m, s, le, mo, false, bs⟩ (.slice A n c), .int .i64 v] w (Ret key (addR ⟨kind, m, s, le, mo, false, bs⟩ v) w) := by
  have hm0 : m = (k : Int) := ho.many
  have HCF := Lib.hid (count_f m ⟨by omega, by omega⟩)
  have hlen : bs.length ≤ 64 := by have := ho.len; simpa using this
  have HAF := Lib.hid (add_f s v ho.sum hv)
  have HB := Lib.hid (clone_any (.slice A n c) bs base (by omega))
  obtain ⟨s2, hs2⟩ : ∃ s2, s2 = (sadd s v).1 := ⟨_, rfl⟩
  obtain ⟨o2, ho2⟩ : ∃ o2, o2 = (sadd s v).2 := ⟨_, rfl⟩
  rw [show sadd s v = (s2, o2) by rw [hs2, ho2]] at HAF
  have k2 : (kind == 2) = false := by simpa using h2
  have k3 : (kind == 3) = false := by simpa using h3
  have HAE := Lib.hid (show addR ⟨kind, m, s, le, mo, false, bs⟩ v = ⟨kind, m + 1, s2, min le v, max mo v, o2, bs⟩ by
    unfold addR
    have e1 : (if v < le then v else le) = min le v := by split <;> omega
    have e2 : (if mo < v then v else mo) = max mo v := by split <;> omega
    simp [e1, e2, hs2, ho2, h2, h3])
  have HO := Lib.hid hO
  clear hm0 ho hv hlen hO hs2 ho2 h2 h3
  show Calls Try.prog _ #[.agg #[.string key, .int .i64 kind, .int .u64 m, .int .i64 s, .int .i64 le, .int .i64 mo, .bool false, .slice A n c], .int .i64 v] w _
  obtain ⟨Q, hQ⟩ : ∃ Q, Q = Ret key (addR ⟨kind, m, s, le, mo, false, bs⟩ v) w := ⟨_, rfl⟩
  have HQ := Lib.hid hQ
  rw [← hQ]
  clear hQ
  go_enter Try.func39, Try.ntmps39
  go_wp2_with fail
  refine (PCount.sat_Count.calls m 1 (m + 1) false _ HCF.out).mono ?_
  rintro e w4 ⟨rfl, hd⟩
  have F4 := ((Fr.refl [] w).alloc (.cells #[.string key, .int .i64 kind, .int .u64 m, .int .i64 s, .int .i64 le, .int .i64 mo, .bool false, .slice A n c] 49)).alloc (.cells #[.string ⟨#[]⟩, .int .i64 0, .int .u64 0, .int .i64 0, .int .i64 0, .int .i64 0, .bool false, .slice none 0 0] 49) |>.trans (Fr.of_drawn hd)
  have BA := ((Blk.new w #[.string key, .int .i64 kind, .int .u64 m, .int .i64 s, .int .i64 le, .int .i64 mo, .bool false, .slice A n c] 49).alloc (.cells #[.string ⟨#[]⟩, .int .i64 0, .int .u64 0, .int .i64 0, .int .i64 0, .int .i64 0, .bool false, .slice none 0 0] 49)).keep (Fr.of_drawn hd) (by simp)
  have BB := (Blk.new (w.alloc (.cells #[.string key, .int .i64 kind, .int .u64 m, .int .i64 s, .int .i64 le, .int .i64 mo, .bool false, .slice A n c] 49)) #[.string ⟨#[]⟩, .int .i64 0, .int .u64 0, .int .i64 0, .int .i64 0, .int .i64 0, .bool false, .slice none 0 0] 49).keep (Fr.of_drawn hd) (by simp)
  rw [size_alloc] at BB
  clear hd
  obtain ⟨x0, x1, x2, x3, x4, x5, x6, x7, y0, y1, y2, y3, y4, y5, y6, y7⟩ := blk8 BA
  have HF4 := Lib.hid F4
  have HBA := Lib.hid BA
  have HBB := Lib.hid BB
  clear F4 BA BB
  go_wp2_with fail
  refine (PAdd.sat_Add.calls 3 s v s2 o2 _ HAF.out).mono ?_
  rintro e w5 ⟨rfl, hd⟩
  have F5 := (HF4.out.set (b := w.heap.size) (.inr (Nat.le_refl _)) 2 (.int .u64 (m + 1))).trans (Fr.of_drawn hd)
  have BA := (HBA.out.put (cs' := #[.string key, .int .i64 kind, .int .u64 (m + 1), .int .i64 s, .int .i64 le, .int .i64 mo, .bool false, .slice A n c]) 2 (.int .u64 (m + 1)) rfl).keep (Fr.of_drawn hd) (by simp)
  have BB := (HBB.out.far (b := w.heap.size) (by omega) 2 (.int .u64 (m + 1))).keep (Fr.of_drawn hd) (by simp)
  clear hd x0 x1 x2 x3 x4 x5 x6 x7 y0 y1 y2 y3 y4 y5 y6 y7 HF4 HBA HBB
  obtain ⟨x0, x1, x2, x3, x4, x5, x6, x7, y0, y1, y2, y3, y4, y5, y6, y7⟩ := blk8 BA
  have HF5 := Lib.hid F5
  have HBA := Lib.hid BA
  have HBB := Lib.hid BB
  clear F5 BA BB
  go_wp2_with fail
  have F6 : Fr [] w ((((w5.setCell ⟨w.heap.size, 3, none⟩ (.int .i64 s2)).setCell ⟨w.heap.size, 6, none⟩ (.bool o2)).setCell ⟨w.heap.size, 4, none⟩ (.int .i64 (min le v))).setCell ⟨w.heap.size, 5, none⟩ (.int .i64 (max mo v))) := ((((HF5.out.set (.inr (Nat.le_refl _)) _ _).set (.inr (Nat.le_refl _)) _ _).set (.inr (Nat.le_refl _)) _ _).set (.inr (Nat.le_refl _)) _ _)
  have BA := HBA.out
  have BB := HBB.out
  replace BA := BA.put (cs' := #[.string key, .int .i64 kind, .int .u64 (m + 1), .int .i64 s2, .int .i64 le, .int .i64 mo, .bool false, .slice A n c]) 3 (.int .i64 s2) rfl
  replace BB := BB.far (b := w.heap.size) (by omega) 3 (.int .i64 s2)
  replace BA := BA.put (cs' := #[.string key, .int .i64 kind, .int .u64 (m + 1), .int .i64 s2, .int .i64 le, .int .i64 mo, .bool o2, .slice A n c]) 6 (.bool o2) rfl
  replace BB := BB.far (b := w.heap.size) (by omega) 6 (.bool o2)
  replace BA := BA.put (cs' := #[.string key, .int .i64 kind, .int .u64 (m + 1), .int .i64 s2, .int .i64 (min le v), .int .i64 mo, .bool o2, .slice A n c]) 4 (.int .i64 (min le v)) rfl
  replace BB := BB.far (b := w.heap.size) (by omega) 4 (.int .i64 (min le v))
  replace BA := BA.put (cs' := #[.string key, .int .i64 kind, .int .u64 (m + 1), .int .i64 s2, .int .i64 (min le v), .int .i64 (max mo v), .bool o2, .slice A n c]) 5 (.int .i64 (max mo v)) rfl
  replace BB := BB.far (b := w.heap.size) (by omega) 5 (.int .i64 (max mo v))
  refine (HB.out _ (HO.out.keep0 F6)).mono ?_
  rintro e w7 ⟨v7, rfl, hO7, hF7⟩
  have F7 := F6.trans hF7
  replace BA := BA.keep hF7 (by simp)
  replace BB := BB.keep hF7 (by simp)
  have hsz : w.heap.size + 2 ≤ w7.heap.size := BB.lt
  have HO7 := Lib.hid (Ow.base (b' := w.heap.size + 2) hO7 (by have h1 := BB; have h2 := hsz; have h3 := HBB.out.lt; simp only [size_set]; omega))
  clear x0 x1 x2 x3 x4 x5 x6 x7 y0 y1 y2 y3 y4 y5 y6 y7 HF5 HBA HBB F6 hO7 hF7
  obtain ⟨x0, x1, x2, x3, x4, x5, x6, x7, y0, y1, y2, y3, y4, y5, y6, y7⟩ := blk8 BA
  have HF7 := Lib.hid F7
  have HBA := Lib.hid BA
  have HBB := Lib.hid BB
  clear F7 BA BB
  obtain ⟨A7, n7, c7, h7⟩ : ∃ A n c, v7 = .slice A n c := by
    rcases HO7.out.form with ⟨rfl, _⟩ | ⟨g, cap, rfl, _⟩
    · exact ⟨_, _, _, rfl⟩
    · exact ⟨_, _, _, rfl⟩
  subst h7
  have hne : w.heap.size ≠ w.heap.size + 1 := by omega
  obtain ⟨z0, z1, z2, z3, z4, z5, z6, z7, t0, t1, t2, t3, t4, t5, t6, t7⟩ := blk8 HBB.out
  go_wp2_with fail
  refine ret_row (g := w.heap.size + 1) (cs := #[.string key, .int .i64 kind, .int .u64 (m + 1), .int .i64 s2, .int .i64 (min le v), .int .i64 (max mo v), .bool o2, .slice A7 n7 c7]) (Blk.fill8 (HBB.out.far (by omega) _ _) rfl _ _ _ _ _ _ _ _) rfl rfl rfl ?_
  rw [HQ.out, HAE.out]
  refine ⟨.slice A7 n7 c7, rfl, ?_, ?_⟩
  · exact Ow.base (b := w.heap.size + 2) (HO7.out.keep (S := [w.heap.size, w.heap.size + 1]) (Fr.fill8 (g := w.heap.size + 1) ((Fr.refl _ w7).set (b := w.heap.size) (.inl (by simp)) _ _) (.inl (by simp)) _ _ _ _ _ _ _ _) (fun x hx h => by have h1 := (HO7.out.lt x h).1; simp at hx; omega)) (by omega)
  · exact Fr.fill8 (g := w.heap.size + 1) (HF7.out.set (b := w.heap.size) (.inr (by omega)) _ _) (.inr (by omega)) _ _ _ _ _ _ _ _

set_option maxRecDepth 100000 in
set_option maxHeartbeats 4000000 in
theorem add_otherT (key : ByteArray) (kind : Int) (h2 : kind ≠ 2) (h3 : kind ≠ 3) (m s le mo : Int) (bs : List Int) (k base : Nat) (A : Option Addr) (n c : Nat) (v : Int) (hv : I64 v) (hk : k ≤ 1000) (ho : Ok k ⟨kind, m, s, le, mo, true, bs⟩) (w : World) (hO : Ow w base (.slice A n c) bs) :
    Calls Try.prog 39 #[RowV key ⟨kind, m, s, le, mo, true, bs⟩ (.slice A n c), .int .i64 v] w (Ret key (addR ⟨kind, m, s, le, mo, true, bs⟩ v) w) := by
  have hm0 : m = (k : Int) := ho.many
  have HCF := Lib.hid (count_f m ⟨by omega, by omega⟩)
  have hlen : bs.length ≤ 64 := by have := ho.len; simpa using this
  have HAF := Lib.hid (add_f s v ho.sum hv)
  have HB := Lib.hid (clone_any (.slice A n c) bs base (by omega))
  obtain ⟨s2, hs2⟩ : ∃ s2, s2 = (sadd s v).1 := ⟨_, rfl⟩
  obtain ⟨o2, ho2⟩ : ∃ o2, o2 = (sadd s v).2 := ⟨_, rfl⟩
  rw [show sadd s v = (s2, o2) by rw [hs2, ho2]] at HAF
  have k2 : (kind == 2) = false := by simpa using h2
  have k3 : (kind == 3) = false := by simpa using h3
  have HAE := Lib.hid (show addR ⟨kind, m, s, le, mo, true, bs⟩ v = ⟨kind, m + 1, s2, min le v, max mo v, true, bs⟩ by
    unfold addR
    have e1 : (if v < le then v else le) = min le v := by split <;> omega
    have e2 : (if mo < v then v else mo) = max mo v := by split <;> omega
    simp [e1, e2, hs2, ho2, h2, h3])
  have HO := Lib.hid hO
  clear hm0 ho hv hlen hO hs2 ho2 h2 h3
  show Calls Try.prog _ #[.agg #[.string key, .int .i64 kind, .int .u64 m, .int .i64 s, .int .i64 le, .int .i64 mo, .bool true, .slice A n c], .int .i64 v] w _
  obtain ⟨Q, hQ⟩ : ∃ Q, Q = Ret key (addR ⟨kind, m, s, le, mo, true, bs⟩ v) w := ⟨_, rfl⟩
  have HQ := Lib.hid hQ
  rw [← hQ]
  clear hQ
  go_enter Try.func39, Try.ntmps39
  go_wp2_with fail
  refine (PCount.sat_Count.calls m 1 (m + 1) false _ HCF.out).mono ?_
  rintro e w4 ⟨rfl, hd⟩
  have F4 := ((Fr.refl [] w).alloc (.cells #[.string key, .int .i64 kind, .int .u64 m, .int .i64 s, .int .i64 le, .int .i64 mo, .bool true, .slice A n c] 49)).alloc (.cells #[.string ⟨#[]⟩, .int .i64 0, .int .u64 0, .int .i64 0, .int .i64 0, .int .i64 0, .bool false, .slice none 0 0] 49) |>.trans (Fr.of_drawn hd)
  have BA := ((Blk.new w #[.string key, .int .i64 kind, .int .u64 m, .int .i64 s, .int .i64 le, .int .i64 mo, .bool true, .slice A n c] 49).alloc (.cells #[.string ⟨#[]⟩, .int .i64 0, .int .u64 0, .int .i64 0, .int .i64 0, .int .i64 0, .bool false, .slice none 0 0] 49)).keep (Fr.of_drawn hd) (by simp)
  have BB := (Blk.new (w.alloc (.cells #[.string key, .int .i64 kind, .int .u64 m, .int .i64 s, .int .i64 le, .int .i64 mo, .bool true, .slice A n c] 49)) #[.string ⟨#[]⟩, .int .i64 0, .int .u64 0, .int .i64 0, .int .i64 0, .int .i64 0, .bool false, .slice none 0 0] 49).keep (Fr.of_drawn hd) (by simp)
  rw [size_alloc] at BB
  clear hd
  obtain ⟨x0, x1, x2, x3, x4, x5, x6, x7, y0, y1, y2, y3, y4, y5, y6, y7⟩ := blk8 BA
  have HF4 := Lib.hid F4
  have HBA := Lib.hid BA
  have HBB := Lib.hid BB
  clear F4 BA BB
  go_wp2_with fail
  refine (PAdd.sat_Add.calls 3 s v s2 o2 _ HAF.out).mono ?_
  rintro e w5 ⟨rfl, hd⟩
  have F5 := (HF4.out.set (b := w.heap.size) (.inr (Nat.le_refl _)) 2 (.int .u64 (m + 1))).trans (Fr.of_drawn hd)
  have BA := (HBA.out.put (cs' := #[.string key, .int .i64 kind, .int .u64 (m + 1), .int .i64 s, .int .i64 le, .int .i64 mo, .bool true, .slice A n c]) 2 (.int .u64 (m + 1)) rfl).keep (Fr.of_drawn hd) (by simp)
  have BB := (HBB.out.far (b := w.heap.size) (by omega) 2 (.int .u64 (m + 1))).keep (Fr.of_drawn hd) (by simp)
  clear hd x0 x1 x2 x3 x4 x5 x6 x7 y0 y1 y2 y3 y4 y5 y6 y7 HF4 HBA HBB
  obtain ⟨x0, x1, x2, x3, x4, x5, x6, x7, y0, y1, y2, y3, y4, y5, y6, y7⟩ := blk8 BA
  have HF5 := Lib.hid F5
  have HBA := Lib.hid BA
  have HBB := Lib.hid BB
  clear F5 BA BB
  go_wp2_with fail
  have F6 : Fr [] w ((((w5.setCell ⟨w.heap.size, 3, none⟩ (.int .i64 s2)).setCell ⟨w.heap.size, 6, none⟩ (.bool true)).setCell ⟨w.heap.size, 4, none⟩ (.int .i64 (min le v))).setCell ⟨w.heap.size, 5, none⟩ (.int .i64 (max mo v))) := ((((HF5.out.set (.inr (Nat.le_refl _)) _ _).set (.inr (Nat.le_refl _)) _ _).set (.inr (Nat.le_refl _)) _ _).set (.inr (Nat.le_refl _)) _ _)
  have BA := HBA.out
  have BB := HBB.out
  replace BA := BA.put (cs' := #[.string key, .int .i64 kind, .int .u64 (m + 1), .int .i64 s2, .int .i64 le, .int .i64 mo, .bool true, .slice A n c]) 3 (.int .i64 s2) rfl
  replace BB := BB.far (b := w.heap.size) (by omega) 3 (.int .i64 s2)
  replace BA := BA.put (cs' := #[.string key, .int .i64 kind, .int .u64 (m + 1), .int .i64 s2, .int .i64 le, .int .i64 mo, .bool true, .slice A n c]) 6 (.bool true) rfl
  replace BB := BB.far (b := w.heap.size) (by omega) 6 (.bool true)
  replace BA := BA.put (cs' := #[.string key, .int .i64 kind, .int .u64 (m + 1), .int .i64 s2, .int .i64 (min le v), .int .i64 mo, .bool true, .slice A n c]) 4 (.int .i64 (min le v)) rfl
  replace BB := BB.far (b := w.heap.size) (by omega) 4 (.int .i64 (min le v))
  replace BA := BA.put (cs' := #[.string key, .int .i64 kind, .int .u64 (m + 1), .int .i64 s2, .int .i64 (min le v), .int .i64 (max mo v), .bool true, .slice A n c]) 5 (.int .i64 (max mo v)) rfl
  replace BB := BB.far (b := w.heap.size) (by omega) 5 (.int .i64 (max mo v))
  refine (HB.out _ (HO.out.keep0 F6)).mono ?_
  rintro e w7 ⟨v7, rfl, hO7, hF7⟩
  have F7 := F6.trans hF7
  replace BA := BA.keep hF7 (by simp)
  replace BB := BB.keep hF7 (by simp)
  have hsz : w.heap.size + 2 ≤ w7.heap.size := BB.lt
  have HO7 := Lib.hid (Ow.base (b' := w.heap.size + 2) hO7 (by have h1 := BB; have h2 := hsz; have h3 := HBB.out.lt; simp only [size_set]; omega))
  clear x0 x1 x2 x3 x4 x5 x6 x7 y0 y1 y2 y3 y4 y5 y6 y7 HF5 HBA HBB F6 hO7 hF7
  obtain ⟨x0, x1, x2, x3, x4, x5, x6, x7, y0, y1, y2, y3, y4, y5, y6, y7⟩ := blk8 BA
  have HF7 := Lib.hid F7
  have HBA := Lib.hid BA
  have HBB := Lib.hid BB
  clear F7 BA BB
  obtain ⟨A7, n7, c7, h7⟩ : ∃ A n c, v7 = .slice A n c := by
    rcases HO7.out.form with ⟨rfl, _⟩ | ⟨g, cap, rfl, _⟩
    · exact ⟨_, _, _, rfl⟩
    · exact ⟨_, _, _, rfl⟩
  subst h7
  have hne : w.heap.size ≠ w.heap.size + 1 := by omega
  obtain ⟨z0, z1, z2, z3, z4, z5, z6, z7, t0, t1, t2, t3, t4, t5, t6, t7⟩ := blk8 HBB.out
  go_wp2_with fail
  refine ret_row (g := w.heap.size + 1) (cs := #[.string key, .int .i64 kind, .int .u64 (m + 1), .int .i64 s2, .int .i64 (min le v), .int .i64 (max mo v), .bool true, .slice A7 n7 c7]) (Blk.fill8 (HBB.out.far (by omega) _ _) rfl _ _ _ _ _ _ _ _) rfl rfl rfl ?_
  rw [HQ.out, HAE.out]
  refine ⟨.slice A7 n7 c7, rfl, ?_, ?_⟩
  · exact Ow.base (b := w.heap.size + 2) (HO7.out.keep (S := [w.heap.size, w.heap.size + 1]) (Fr.fill8 (g := w.heap.size + 1) ((Fr.refl _ w7).set (b := w.heap.size) (.inl (by simp)) _ _) (.inl (by simp)) _ _ _ _ _ _ _ _) (fun x hx h => by have h1 := (HO7.out.lt x h).1; simp at hx; omega)) (by omega)
  · exact Fr.fill8 (g := w.heap.size + 1) (HF7.out.set (b := w.heap.size) (.inr (by omega)) _ _) (.inr (by omega)) _ _ _ _ _ _ _ _

theorem add_any (key : ByteArray) (r : R) (k base : Nat) (bv : Value) (v : Int) (hv : I64 v) (hk : k ≤ 1000) (ho : Ok k r) (w : World) (hO : Ow w base bv r.b) :
    Calls Try.prog 39 #[RowV key r bv, .int .i64 v] w (Ret key (addR r v) w) := by
  obtain ⟨kind, m, s, le, mo, ov, bs⟩ := r
  obtain ⟨A, n, c, rfl⟩ : ∃ A n c, bv = .slice A n c := by
    rcases hO.form with ⟨rfl, _⟩ | ⟨g, cap, rfl, _⟩
    · exact ⟨_, _, _, rfl⟩
    · exact ⟨_, _, _, rfl⟩
  by_cases h2 : kind = 2
  · subst h2
    exact add_last key m s le mo ov bs k base A n c v hv hk ho w hO
  · by_cases h3 : kind = 3
    · subst h3
      cases ov
      · exact add_histoF key m s le mo bs k base A n c v hv hk ho w hO
      · exact add_histoT key m s le mo bs k base A n c v hv hk ho w hO
    · cases ov
      · exact add_otherF key kind h2 h3 m s le mo bs k base A n c v hv hk ho w hO
      · exact add_otherT key kind h2 h3 m s le mo bs k base A n c v hv hk ho w hO
end Go.Proofs.Ytjnjkgoofkgiiaa.Tally
