/- Walks of layer 18's reference: Fold. -/
import Derived.Test.YtjnjkgoofkgiiaaTallyW7
set_option linter.unusedVariables false
set_option linter.unusedSimpArgs false
namespace Go.Proofs.Ytjnjkgoofkgiiaa.Tally
open Go.RowKit Go.Proofs.YtjnjkgoofkgiiaaW.PrintWords Go.Proofs.YtjnjkgoofkgiiaaW.PrintLast

set_option maxRecDepth 100000 in
set_option maxHeartbeats 4000000 in
theorem ref_none (A : Option Addr) (c0 : Nat) (key : ByteArray) (kind : Int) (w : World) :
    Calls Try.prog 22 #[.string key, .int .i64 kind, .slice A 0 c0] w (Ret ⟨#[]⟩ (foldR kind []) w) := by
  have HP := Lib.hid (show ∀ w', Fr [] w w' → Ret ⟨#[]⟩ (foldR kind []) w (.returned (.agg #[.string ⟨#[]⟩, .int .i64 0, .int .u64 0, .int .i64 0, .int .i64 0, .int .i64 0, .bool false, .slice none 0 0])) w' from fun w' h => ⟨.slice none 0 0, rfl, Ow.nil _ _, h⟩)
  go_enter Try.func22, Try.ntmps22
  go_wp2_with fail
  exact ret_row (g := w.heap.size) (Blk.new w _ _) rfl rfl rfl (HP.out _ ((Fr.refl [] w).alloc _))

set_option maxRecDepth 100000 in
set_option maxHeartbeats 4000000 in
theorem ref_some (ad : Addr) (c0 : Nat) (key : ByteArray) (kind : Int) (l : List Int) (w : World) (hn : 0 < l.length) (hl : l.length ≤ 200) (hI : ∀ x ∈ l, I64 x) (hc : ∀ j, j < l.length → w.cell? (ad.add j) = some (.int .i64 (l.getD j 0))) :
    Calls Try.prog 22 #[.string key, .int .i64 kind, .slice (some ad) l.length c0] w (Ret key (foldR kind l) w) := by
  have HC := Lib.hid hc
  have HCF := Lib.hid (come_fold key kind l hI hl)
  have HALL := Lib.hid (rowAt_all kind l hn)
  obtain ⟨n, hnl⟩ : ∃ n, n = l.length := ⟨_, rfl⟩
  have HN := Lib.hid hnl
  rw [← hnl] at hn hl ⊢
  have h0 : ((n : Int) == 0) = false := by simp; omega
  obtain ⟨Q, hQ⟩ : ∃ Q, Q = Ret key (foldR kind l) w := ⟨_, rfl⟩
  have HQ := Lib.hid hQ
  rw [← hQ]
  clear hQ hc hI hnl
  have HS0 := Lib.hid (show ∃ A c' n', (Value.slice A n' c') = .slice none 0 0 ∧ Blk ((w.alloc (.cells ZA 49)).alloc (.cells (RowA key (zeroR kind) (.slice none 0 0)) 49)) (w.heap.size + 1) (RowA key (rowAt kind l 0) (.slice A n' c')) 49 from
    ⟨none, 0, 0, rfl, by have := Blk.new (w.alloc (.cells ZA 49)) (RowA key (zeroR kind) (.slice none 0 0)) 49; rw [size_alloc] at this; exact this⟩)
  have HZ0 := Lib.hid ((Blk.new w ZA 49).alloc (.cells (RowA key (zeroR kind) (.slice none 0 0)) 49))
  have HF0 := Lib.hid (((Fr.refl [] w).alloc (.cells ZA 49)).alloc (.cells (RowA key (zeroR kind) (.slice none 0 0)) 49))
  go_enter Try.func22, Try.ntmps22
  go_wp2_with fail
  go_loopw [8] (fun i wr => ∃ (k : Nat) (A : Option Addr) (m c : Nat), i = .int .i64 k ∧ k ≤ n ∧ Blk wr (w.heap.size + 1) (RowA key (rowAt kind l k) (.slice A m c)) 49 ∧ Blk wr w.heap.size ZA 49 ∧ Ow wr (w.heap.size + 1 + 1) (.slice A m c) (rowAt kind l k).b ∧ (k = 0 → Value.slice A m c = .slice none 0 0) ∧ Fr [] w wr) (fun i _ => n - (intOf i).toNat)
  case atStart =>
    obtain ⟨A, c', n', e, hB⟩ := HS0.out
    simp only [Value.slice.injEq] at e
    obtain ⟨rfl, rfl, rfl⟩ := e
    exact ⟨0, none, 0, 0, rfl, Nat.zero_le _, hB, HZ0.out, Ow.nil _ _, fun _ => rfl, HF0.out⟩
  case round =>
    obtain ⟨k, A4, n4, c4, rfl, hk, hB, hZ, hO, hA, hF⟩ := hrel
    clear HS0 HZ0 HF0
    have HB := Lib.hid hB
    have HZ := Lib.hid hZ
    have HO := Lib.hid hO
    have HF := Lib.hid hF
    have HBF := Lib.hid (blk8 hB)
    clear hB hZ hO hF
    by_cases hlt : k < n
    · have HCOME := Lib.hid (HCF.out k (by rw [← HN.out]; exact hlt) (w.heap.size + 1 + 1) A4 n4 c4 hA)
      obtain ⟨x, hx⟩ : ∃ x, x = l.getD k 0 := ⟨_, rfl⟩
      have hcell : wr.cell? (ad.add k) = some (.int .i64 x) := HF.out.cell0 (by rw [hx]; exact HC.out k (by rw [← HN.out]; exact hlt))
      rw [← hx] at HCOME
      obtain ⟨r, hr⟩ : ∃ r, r = rowAt kind l k := ⟨_, rfl⟩
      obtain ⟨r', hr'⟩ : ∃ r', r' = rowAt kind l (k + 1) := ⟨_, rfl⟩
      have HR' := Lib.hid hr'
      rw [← hr] at HB HO HBF HCOME
      rw [← hr'] at HCOME
      have HCOME := Lib.hid (show ∀ W, Ow W (w.heap.size + 1 + 1) (.slice A4 n4 c4) r.b → Calls Try.prog 40 #[.agg #[.string key, .int .i64 r.kind, .int .u64 r.many, .int .i64 r.sum, .int .i64 r.least, .int .i64 r.most, .bool r.over, .slice A4 n4 c4], .int .i64 x] W fun e w' =>
        ∃ A' n' c', e = .returned (.agg #[.string key, .int .i64 r'.kind, .int .u64 r'.many, .int .i64 r'.sum, .int .i64 r'.least, .int .i64 r'.most, .bool r'.over, .slice A' n' c']) ∧ Ow w' W.heap.size (.slice A' n' c') r'.b ∧ Fr [] W w' from fun W h => HCOME.out W h)
      clear hx hr hr' hA
      obtain ⟨x0, x1, x2, x3, x4, x5, x6, x7, y0, y1, y2, y3, y4, y5, y6, y7⟩ := HBF.out
      have F0 : Fr [] wr wr.drew := (Fr.refl [] wr).drew
      go_wp2_with fail
      refine start_ (n := 7) (S := fun w' => w'.cell? ⟨w.heap.size + 1, 0, none⟩ = some (.string key) ∧ w'.cell? ⟨w.heap.size + 1, 1, none⟩ = some (.int .i64 r.kind) ∧ w'.cell? ⟨w.heap.size + 1, 2, none⟩ = some (.int .u64 r.many) ∧ w'.cell? ⟨w.heap.size + 1, 3, none⟩ = some (.int .i64 r.sum) ∧ w'.cell? ⟨w.heap.size + 1, 4, none⟩ = some (.int .i64 r.least) ∧ w'.cell? ⟨w.heap.size + 1, 5, none⟩ = some (.int .i64 r.most) ∧ w'.cell? ⟨w.heap.size + 1, 6, none⟩ = some (.bool r.over) ∧ w'.cell? ⟨w.heap.size + 1, 7, none⟩ = some (.slice A4 n4 c4) ∧ w'.cell? (ad.add k) = some (.int .i64 x)) (ds := [6]) #[false, false, false, false, false, false, false] (by kernel_rfl) rfl rfl ⟨x0, x1, x2, x3, x4, x5, x6, x7, hcell⟩ (fun hHeld => ?_)
      refine pure_ (i := 1) (N := some 23) (v := ?_) (a' := ?_) #[false, true, false, false, false, false, false] rfl rfl (by kernel_rfl) (fun _ _ _ h => h) (Or.inl ⟨by rfl, ?_⟩) ?_ ?_
      rotate_left
      · intro w'
        go_simp
        with_reducible rfl
      rotate_left
      · simp only [Act.put, List.setIfInBounds_toArray, List.set_cons_zero, List.set_cons_succ, i64_w, i32_w]
        rfl
      refine pure_ (i := 2) (N := some 24) (v := ?_) (a' := ?_) #[false, true, true, false, false, false, false] rfl rfl (by kernel_rfl) (fun _ _ _ h => h) (Or.inl ⟨by rfl, ?_⟩) ?_ ?_
      rotate_left
      · intro w'
        go_simp
        with_reducible rfl
      rotate_left
      · simp only [Act.put, List.setIfInBounds_toArray, List.set_cons_zero, List.set_cons_succ, i64_w, i32_w]
        rfl
      refine pure_ (i := 3) (N := some 25) (v := ?_) (a' := ?_) #[false, true, true, true, false, false, false] rfl rfl (by kernel_rfl) (fun _ _ _ h => h) (Or.inl ⟨by rfl, ?_⟩) ?_ ?_
      rotate_left
      · intro w'
        go_simp
        with_reducible rfl
      rotate_left
      · simp only [Act.put, List.setIfInBounds_toArray, List.set_cons_zero, List.set_cons_succ, i64_w, i32_w]
        rfl
      refine take_ (i := 0) (N := some 22) (v := ?_) (a' := ?_) #[true, true, true, true, false, false, false] rfl rfl (by kernel_rfl) (fun _ _ _ h => h) (Or.inl ⟨by rfl, ?_⟩) hHeld ?_ ?_
      rotate_left
      · rintro w' ⟨s0, s1, s2, s3, s4, s5, s6, s7, s8⟩
        go_simp
        with_reducible rfl
      rotate_left
      · simp only [Act.put, List.setIfInBounds_toArray, List.set_cons_zero, List.set_cons_succ, i64_w, i32_w]
        rfl
      refine take_ (i := 4) (N := some 26) (v := ?_) (a' := ?_) #[true, true, true, true, true, false, false] rfl rfl (by kernel_rfl) (fun _ _ _ h => h) (Or.inl ⟨by rfl, ?_⟩) hHeld ?_ ?_
      rotate_left
      · rintro w' ⟨s0, s1, s2, s3, s4, s5, s6, s7, s8⟩
        go_simp
        with_reducible rfl
      rotate_left
      · simp only [Act.put, List.setIfInBounds_toArray, List.set_cons_zero, List.set_cons_succ, i64_w, i32_w]
        rfl
      refine one_ (i := 5) (N := some 27) #[true, true, true, true, true, true, false] rfl rfl (by kernel_rfl) (by decide) (fun K hK => ?_)
      refine goes_ Try.func40 (by kernel_rfl) rfl #[.agg #[.string key, .int .i64 r.kind, .int .u64 r.many, .int .i64 r.sum, .int .i64 r.least, .int .i64 r.most, .bool r.over, .slice A4 n4 c4], .int .i64 x] (by rfl) rfl rfl (by simp only [List.map_toArray, List.map_cons, List.map_nil]; rfl) ?_
      with_reducible refine (HCOME.out wr.drew (HO.out.keep0 F0)).mono ?_
      rintro e w5 ⟨A5, n5, c5, rfl, hO5, hF5⟩
      refine ⟨_, rfl, ?_⟩
      replace hF5 := F0.trans hF5
      have HO5 := Lib.hid hO5
      have HB5 := Lib.hid (HB.out.keep hF5 (by simp))
      have HZ5 := Lib.hid (HZ.out.keep hF5 (by simp))
      have HF5 := Lib.hid (HF.out.trans hF5)
      have HLT := Lib.hid HB.out.lt
      have hcell5 := hF5.cell0 hcell
      clear hO5 hF5
      obtain ⟨v0, v1, v2, v3, v4, v5, v6, v7, g0, g1, g2, g3, g4, g5, g6, g7⟩ := blk8 HB5.out
      refine hK.out _ _ ⟨v0, v1, v2, v3, v4, v5, v6, v7, hcell5⟩ (fun hHeld => ?_)
      clear hK K
      refine norm_ (a' := ?_) ?_ ?_
      rotate_left
      · show Act.put _ (some 27) _ = _
        simp only [Act.put, List.setIfInBounds_toArray, List.set_cons_zero, List.set_cons_succ, i64_w, i32_w]
        rfl
      refine last_ (i := 6) (N := none) #[true, true, true, true, true, true, true] rfl rfl (by kernel_rfl) (by decide) (fun K hK => ?_)
      refine skip_ (w1 := ?_) (by rfl) rfl ?_ ?_
      rotate_left
      · go_simp
        rfl
      refine hK.out _ _ ?_
      clear hK K
      refine done_ (by kernel_rfl) ?_
      have hb5 := HO5.out
      have HB6 := Lib.hid (Blk.fill8 HB5.out rfl (.string key) (.int .i64 r'.kind) (.int .u64 r'.many) (.int .i64 r'.sum) (.int .i64 r'.least) (.int .i64 r'.most) (.bool r'.over) (.slice A5 n5 c5))
      have HZ6 := Lib.hid ((((((((HZ5.out.far (b := w.heap.size + 1) (by omega) 0 (.string key)).far (b := w.heap.size + 1) (by omega) 1 (.int .i64 r'.kind)).far (b := w.heap.size + 1) (by omega) 2 (.int .u64 r'.many)).far (b := w.heap.size + 1) (by omega) 3 (.int .i64 r'.sum)).far (b := w.heap.size + 1) (by omega) 4 (.int .i64 r'.least)).far (b := w.heap.size + 1) (by omega) 5 (.int .i64 r'.most)).far (b := w.heap.size + 1) (by omega) 6 (.bool r'.over)).far (b := w.heap.size + 1) (by omega) 7 (.slice A5 n5 c5))
      have HF6 := Lib.hid (Fr.fill8 (g := w.heap.size + 1) HF5.out (.inr (by omega)) (.string key) (.int .i64 r'.kind) (.int .u64 r'.many) (.int .i64 r'.sum) (.int .i64 r'.least) (.int .i64 r'.most) (.bool r'.over) (.slice A5 n5 c5))
      have HO6 := Lib.hid (Ow.base (b' := w.heap.size + 1 + 1) (HO5.out.keep (S := [w.heap.size + 1]) (Fr.fill8 (g := w.heap.size + 1) (Fr.refl _ w5) (.inl (by simp)) (.string key) (.int .i64 r'.kind) (.int .u64 r'.many) (.int .i64 r'.sum) (.int .i64 r'.least) (.int .i64 r'.most) (.bool r'.over) (.slice A5 n5 c5)) (fun x hx h => by
        have h1 : wr.heap.size ≤ x := (HO5.out.lt x h).1
        have h2 := HLT.out
        simp at hx
        omega)) (by have h2 := HLT.out; show w.heap.size + 1 + 1 ≤ wr.heap.size; omega))
      go_wp2_with fail
      go_roundw
      case rel => exact ⟨k + 1, A5, n5, c5, by go_num, by omega, by rw [← HR'.out]; exact HB6.out, HZ6.out, by rw [← HR'.out]; exact HO6.out, fun h => by omega, HF6.out⟩
      case measure => simp [intOf]; omega
    · have hkn : n = k := by omega
      have HK := Lib.hid (show rowAt kind l k = foldR kind l by rw [← hkn, HN.out]; exact HALL.out)
      rw [HK.out] at HB HO HBF
      obtain ⟨r, hr⟩ : ∃ r, r = foldR kind l := ⟨_, rfl⟩
      rw [← hr] at HB HO HBF
      have HRR := Lib.hid hr
      clear hr hA
      obtain ⟨x0, x1, x2, x3, x4, x5, x6, x7, y0, y1, y2, y3, y4, y5, y6, y7⟩ := HBF.out
      obtain ⟨z0, z1, z2, z3, z4, z5, z6, z7, t0, t1, t2, t3, t4, t5, t6, t7⟩ := blk8 HZ.out
      have hnk : ¬ k < n := by omega
      go_wp2_with fail
      refine ret_row (g := w.heap.size) (cs := RowA key r (.slice A4 n4 c4)) (Blk.fill8 HZ.out rfl _ _ _ _ _ _ _ _) rfl rfl rfl ?_
      rw [HQ.out, ← HRR.out]
      refine ⟨.slice A4 n4 c4, rfl, ?_, ?_⟩
      · exact Ow.base (b := w.heap.size + 1 + 1) (HO.out.keep (S := [w.heap.size]) (Fr.fill8 (g := w.heap.size) (Fr.refl _ wr) (.inl (by simp)) _ _ _ _ _ _ _ _) (fun x hx h => by have h1 := (HO.out.lt x h).1; simp at hx; omega)) (by omega)
      · exact Fr.fill8 (g := w.heap.size) HF.out (.inr (Nat.le_refl _)) _ _ _ _ _ _ _ _

theorem ref_any (A : Option Addr) (c0 : Nat) (key : ByteArray) (kind : Int) (l : List Int) (w : World) (hl : l.length ≤ 200) (hI : ∀ x ∈ l, I64 x) (hc : Kd.C (Kd.int .i64) w A l.length l) :
    Calls Try.prog 22 #[.string key, .int .i64 kind, .slice A l.length c0] w (Ret (if l = [] then ⟨#[]⟩ else key) (foldR kind l) w) := by
  rcases Lists.C_ints hc with rfl | ⟨ad, rfl, hc2⟩
  · exact ref_none A c0 key kind w
  · cases l with
    | nil => exact ref_none (some ad) c0 key kind w
    | cons v l =>
      rw [if_neg (by simp)]
      exact ref_some ad c0 key kind (v :: l) w (by simp) hl hI hc2
end Go.Proofs.Ytjnjkgoofkgiiaa.Tally
