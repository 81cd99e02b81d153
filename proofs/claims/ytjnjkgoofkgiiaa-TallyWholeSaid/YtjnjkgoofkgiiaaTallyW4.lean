/- Walks of layer 18's program: Fold. -/
import Derived.Test.YtjnjkgoofkgiiaaTallyW3
import Derived.Test.YtjnjkgoofkgiiaaLists
set_option linter.unusedVariables false
set_option linter.unusedSimpArgs false
namespace Go.Proofs.Ytjnjkgoofkgiiaa.Tally
open Go.RowKit Go.Proofs.YtjnjkgoofkgiiaaW.PrintWords Go.Proofs.YtjnjkgoofkgiiaaW.PrintLast

def RowA (key : ByteArray) (r : R) (bv : Value) : Array Value := #[.string key, .int .i64 r.kind, .int .u64 r.many, .int .i64 r.sum, .int .i64 r.least, .int .i64 r.most, .bool r.over, bv]
def ZA : Array Value := #[.string ⟨#[]⟩, .int .i64 0, .int .u64 0, .int .i64 0, .int .i64 0, .int .i64 0, .bool false, .slice none 0 0]
theorem Ow.slice {w : World} {b : Nat} {v : Value} {bs : List Int} (h : Ow w b v bs) : ∃ A n c, v = .slice A n c := by
  rcases h.form with ⟨rfl, _⟩ | ⟨g, cap, rfl, _⟩
  · exact ⟨_, _, _, rfl⟩
  · exact ⟨_, _, _, rfl⟩

theorem Ow.len {w : World} {b : Nat} {A : Option Addr} {n c : Nat} {bs : List Int} (h : Ow w b (.slice A n c) bs) : n = bs.length := by
  rcases h.form with ⟨h1, rfl⟩ | ⟨g, cap, h1, _⟩
  · simp only [Value.slice.injEq] at h1
    exact h1.2.1
  · simp only [Value.slice.injEq] at h1
    exact h1.2.1

set_option maxRecDepth 100000 in
set_option maxHeartbeats 4000000 in
theorem fold_none (A : Option Addr) (c0 : Nat) (key : ByteArray) (kind : Int) (w : World) :
    Calls Try.prog 21 #[.string key, .int .i64 kind, .slice A 0 c0] w (Ret ⟨#[]⟩ (foldR kind []) w) := by
  have HP := Lib.hid (show ∀ w', Fr [] w w' → Ret ⟨#[]⟩ (foldR kind []) w (.returned (.agg #[.string ⟨#[]⟩, .int .i64 0, .int .u64 0, .int .i64 0, .int .i64 0, .int .i64 0, .bool false, .slice none 0 0])) w' from fun w' h => ⟨.slice none 0 0, rfl, Ow.nil _ _, h⟩)
  go_enter Try.func21, Try.ntmps21
  go_wp2_with fail
  exact ret_row (g := w.heap.size) (Blk.new w _ _) rfl rfl rfl (HP.out _ ((Fr.refl [] w).alloc _))

/-- the row so far -/
def SoFar (key : ByteArray) (kind : Int) (l : List Int) (w : World) (g k : Nat) (wr : World) : Prop :=
  ∃ bv, Blk wr g (RowA key (foldR kind (l.take (k + 1))) bv) 49 ∧ Blk wr w.heap.size ZA 49 ∧ Ow wr (w.heap.size + 1) bv (foldR kind (l.take (k + 1))).b ∧ Fr [] w wr

set_option maxRecDepth 100000 in
set_option maxHeartbeats 4000000 in
theorem fold_some (ad : Addr) (c0 : Nat) (key : ByteArray) (kind : Int) (l : List Int) (w : World) (hn : 0 < l.length) (hl : l.length ≤ 200) (hI : ∀ x ∈ l, I64 x) (hc : ∀ j, j < l.length → w.cell? (ad.add j) = some (.int .i64 (l.getD j 0))) (hcap : l.length ≤ c0) (hc1 : c0 ≠ 1) :
    Calls Try.prog 21 #[.string key, .int .i64 kind, .slice (some ad) l.length c0] w (Ret key (foldR kind l) w) := by
  obtain ⟨n, hnl⟩ : ∃ n, n = l.length := ⟨_, rfl⟩
  have HN := Lib.hid hnl
  rw [← hnl] at hn hl hcap ⊢
  have HC := Lib.hid hc
  have h0 : ((n : Int) == 0) = false := by simp; omega
  obtain ⟨v, hv⟩ : ∃ v, v = l.getD 0 0 := ⟨_, rfl⟩
  have x0 : w.cell? ad = some (.int .i64 v) := by have := hc 0 (by omega); rw [hv]; exact this
  have x1 : (w.alloc (.cells #[.string ⟨#[]⟩, .int .i64 0, .int .u64 0, .int .i64 0, .int .i64 0, .int .i64 0, .bool false, .slice none 0 0] 49)).cell? ad = some (.int .i64 v) := ((Fr.refl [] w).alloc _).cell0 x0
  clear x0
  have HG := Lib.hid (show ∀ j, j < n → I64 (l.getD j 0) from fun j hj => by
    rw [List.getD_eq_getElem?_getD, List.getElem?_eq_getElem (by omega)]
    exact hI _ (List.getElem_mem _))
  have HV := Lib.hid (show I64 v by rw [hv]; exact HG.out 0 hn)
  have HB := Lib.hid (show foldR kind (l.take 1) = beginR kind v by
    rw [hv]
    cases l with
    | nil => simp at hnl; omega
    | cons a l => rfl)
  have HOK := Lib.hid (fold_ok kind l hI)
  obtain ⟨Q, hQ⟩ : ∃ Q, Q = Ret key (foldR kind l) w := ⟨_, rfl⟩
  have HQ := Lib.hid hQ
  rw [← hQ]
  clear hQ hc hv hI hnl
  go_enter Try.func21, Try.ntmps21
  go_wp2_with fail
  refine (begin_any key kind v HV.out _).mono ?_
  rintro e w3 ⟨bv, rfl, hO, hF⟩
  have HZ := Lib.hid ((Blk.new w ZA 49).keep hF (by simp))
  have HF3 := Lib.hid (((Fr.refl [] w).alloc (.cells ZA 49)).trans hF)
  rw [size_alloc] at hO
  have HO := Lib.hid hO
  clear hO hF
  obtain ⟨A3, n3, c3, rfl⟩ := HO.out.slice
  simp only [RowV]
  have HS0 := Lib.hid (show SoFar key kind l w w3.heap.size 0 (w3.alloc (.cells (RowA key (beginR kind v) (.slice A3 n3 c3)) 49)) from
    ⟨.slice A3 n3 c3, by rw [Nat.zero_add, HB.out]; exact Blk.new w3 _ _, HZ.out.alloc _, by rw [Nat.zero_add, HB.out]; exact HO.out.alloc _, HF3.out.alloc _⟩)
  obtain ⟨g, hg⟩ : ∃ g, g = w3.heap.size := ⟨_, rfl⟩
  have HGE := Lib.hid (show w.heap.size + 1 ≤ g by rw [hg]; exact HZ.out.lt)
  go_wp2_with fail
  rw [← hg] at HS0 ⊢
  clear hg x1
  obtain ⟨wz, hwz⟩ : ∃ wz, wz = w3.alloc (.cells (RowA key (beginR kind v) (.slice A3 n3 c3)) 49) := ⟨_, rfl⟩
  rw [← hwz] at HS0
  show Code.wp _ _ _ _ (w3.alloc (.cells (RowA key (beginR kind v) (.slice A3 n3 c3)) 49))
  rw [← hwz]
  clear hwz HO HZ HF3 HB HV
  go_loopw [23] (fun i wr => ∃ k : Nat, k + 1 ≤ n ∧ i = .int .i64 k ∧ SoFar key kind l w g k wr) (fun i _ => n - (intOf i).toNat)
  case atStart => exact ⟨0, by omega, rfl, HS0.out⟩
  case round =>
    obtain ⟨k, hk, rfl, bv, hB, hZ, hO, hF⟩ := hrel
    clear HS0
    have HB := Lib.hid hB
    have HZ := Lib.hid hZ
    have HO := Lib.hid hO
    have HF := Lib.hid hF
    obtain ⟨A4, n4, c4, rfl⟩ := HO.out.slice
    have HBF := Lib.hid (blk8 hB)
    clear hB hZ hO hF
    by_cases hlt : k + 1 < n
    · obtain ⟨x, hx⟩ : ∃ x, x = l.getD (k + 1) 0 := ⟨_, rfl⟩
      have HX := Lib.hid (show I64 x by rw [hx]; exact HG.out _ hlt)
      have HT := Lib.hid (show foldR kind (l.take (k + 1 + 1)) = addR (foldR kind (l.take (k + 1))) x by rw [hx]; exact fold_take kind l (k + 1) (by rw [← HN.out]; exact hlt) (by omega))
      have hcell : wr.cell? ⟨ad.block, ad.off + 1 + k, none⟩ = some (.int .i64 x) := HF.out.cell0 (by
        have := HC.out (k + 1) (by rw [← HN.out]; exact hlt)
        rw [hx, ← this]
        unfold Addr.add
        rw [if_neg (by omega)]
        congr 2
        omega)
      have hok := HOK.out (k + 1) (by omega) (by rw [← HN.out]; omega)
      obtain ⟨r, hr⟩ : ∃ r, r = foldR kind (l.take (k + 1)) := ⟨_, rfl⟩
      rw [← hr] at HB HO HT hok HBF
      have HOK2 := Lib.hid hok
      clear hr hx hok
      have hi : decide ((k : Int) < ((n - 1 : Nat) : Int)) = true := by simp; omega
      obtain ⟨x0, x1, x2, x3, x4, x5, x6, x7, y0, y1, y2, y3, y4, y5, y6, y7⟩ := HBF.out
      go_wp2_with fail
      refine (add_any key r (k + 1) (w.heap.size + 1) (.slice A4 n4 c4) x HX.out (by omega) HOK2.out wr HO.out).mono ?_
      rintro e w5 ⟨bv5, rfl, hO5, hF5⟩
      rw [← HT.out] at hO5 ⊢
      have HO5 := Lib.hid hO5
      have HB5 := Lib.hid (HB.out.keep hF5 (by simp))
      have HZ5 := Lib.hid (HZ.out.keep hF5 (by simp))
      have HF5 := Lib.hid (HF.out.trans hF5)
      have HLT := Lib.hid HB.out.lt
      clear hO5 hF5 HBF x0 x1 x2 x3 x4 x5 x6 x7 y0 y1 y2 y3 y4 y5 y6 y7 HB HZ HO HF
      obtain ⟨A5, n5, c5, rfl⟩ := HO5.out.slice
      obtain ⟨x0, x1, x2, x3, x4, x5, x6, x7, y0, y1, y2, y3, y4, y5, y6, y7⟩ := blk8 HB5.out
      simp only [RowV]
      go_wp2_with fail
      have HB6 := Lib.hid (Blk.fill8 HB5.out rfl (.string key) (.int .i64 (foldR kind (l.take (k + 1 + 1))).kind) (.int .u64 (foldR kind (l.take (k + 1 + 1))).many) (.int .i64 (foldR kind (l.take (k + 1 + 1))).sum) (.int .i64 (foldR kind (l.take (k + 1 + 1))).least) (.int .i64 (foldR kind (l.take (k + 1 + 1))).most) (.bool (foldR kind (l.take (k + 1 + 1))).over) (.slice A5 n5 c5))
      have hgw : g ≠ w.heap.size := by have := HGE.out; omega
      have HZ6 := Lib.hid (((((((((HZ5.out.far hgw.symm 0 (.string key)).far hgw.symm 1 (.int .i64 (foldR kind (l.take (k + 1 + 1))).kind)).far hgw.symm 2 (.int .u64 (foldR kind (l.take (k + 1 + 1))).many)).far hgw.symm 3 (.int .i64 (foldR kind (l.take (k + 1 + 1))).sum)).far hgw.symm 4 (.int .i64 (foldR kind (l.take (k + 1 + 1))).least)).far hgw.symm 5 (.int .i64 (foldR kind (l.take (k + 1 + 1))).most)).far hgw.symm 6 (.bool (foldR kind (l.take (k + 1 + 1))).over)).far hgw.symm 7 (.slice A5 n5 c5)))
      have HF6 := Lib.hid (Fr.fill8 HF5.out (g := g) (.inr (by have := HGE.out; omega)) (.string key) (.int .i64 (foldR kind (l.take (k + 1 + 1))).kind) (.int .u64 (foldR kind (l.take (k + 1 + 1))).many) (.int .i64 (foldR kind (l.take (k + 1 + 1))).sum) (.int .i64 (foldR kind (l.take (k + 1 + 1))).least) (.int .i64 (foldR kind (l.take (k + 1 + 1))).most) (.bool (foldR kind (l.take (k + 1 + 1))).over) (.slice A5 n5 c5))
      have HO6 := Lib.hid (Ow.base (b' := w.heap.size + 1) (HO5.out.keep (S := [g]) (Fr.fill8 (g := g) (Fr.refl _ w5) (.inl (by simp)) (.string key) (.int .i64 (foldR kind (l.take (k + 1 + 1))).kind) (.int .u64 (foldR kind (l.take (k + 1 + 1))).many) (.int .i64 (foldR kind (l.take (k + 1 + 1))).sum) (.int .i64 (foldR kind (l.take (k + 1 + 1))).least) (.int .i64 (foldR kind (l.take (k + 1 + 1))).most) (.bool (foldR kind (l.take (k + 1 + 1))).over) (.slice A5 n5 c5)) (fun x hx h => by
        have h1 := (HO5.out.lt x h).1
        have h2 := HLT.out
        simp at hx
        omega)) (by have h2 := HLT.out; have := HGE.out; omega))
      go_roundw
      case rel => exact ⟨k + 1, by omega, by go_num, .slice A5 n5 c5, HB6.out, HZ6.out, HO6.out, HF6.out⟩
      case measure => simp [intOf]; omega
    · obtain rfl : n = k + 1 := by omega
      have HT := Lib.hid (show l.take (k + 1) = l by rw [HN.out, List.take_length])
      rw [HT.out] at HB HO HBF
      have hi : decide ((k : Int) < ((k + 1 - 1 : Nat) : Int)) = false := by simp
      obtain ⟨x0, x1, x2, x3, x4, x5, x6, x7, y0, y1, y2, y3, y4, y5, y6, y7⟩ := HBF.out
      obtain ⟨z0, z1, z2, z3, z4, z5, z6, z7, t0, t1, t2, t3, t4, t5, t6, t7⟩ := blk8 HZ.out
      go_wp2_with fail
      refine ret_row (g := w.heap.size) (cs := RowA key (foldR kind l) (.slice A4 n4 c4)) (Blk.fill8 HZ.out rfl _ _ _ _ _ _ _ _) rfl rfl rfl ?_
      rw [HQ.out]
      refine ⟨.slice A4 n4 c4, rfl, ?_, ?_⟩
      · exact Ow.base (b := w.heap.size + 1) (HO.out.keep (S := [w.heap.size]) (Fr.fill8 (g := w.heap.size) (Fr.refl _ wr) (.inl (by simp)) _ _ _ _ _ _ _ _) (fun x hx h => by have h1 := (HO.out.lt x h).1; simp at hx; omega)) (by omega)
      · exact Fr.fill8 (g := w.heap.size) HF.out (.inr (Nat.le_refl _)) _ _ _ _ _ _ _ _

set_option maxRecDepth 100000 in
set_option maxHeartbeats 4000000 in
theorem fold_one (ad : Addr) (key : ByteArray) (kind v : Int) (w : World) (hv : I64 v) (hc : w.cell? ad = some (.int .i64 v)) :
    Calls Try.prog 21 #[.string key, .int .i64 kind, .slice (some ad) 1 1] w (Ret key (foldR kind [v]) w) := by
  have HV := Lib.hid hv
  have HB := Lib.hid (show foldR kind [v] = beginR kind v from rfl)
  have x1 : (w.alloc (.cells #[.string ⟨#[]⟩, .int .i64 0, .int .u64 0, .int .i64 0, .int .i64 0, .int .i64 0, .bool false, .slice none 0 0] 49)).cell? ad = some (.int .i64 v) := ((Fr.refl [] w).alloc _).cell0 hc
  obtain ⟨Q, hQ⟩ : ∃ Q, Q = Ret key (foldR kind [v]) w := ⟨_, rfl⟩
  have HQ := Lib.hid hQ
  rw [← hQ]
  clear hQ hc hv
  go_enter Try.func21, Try.ntmps21
  go_wp2_with fail
  refine (begin_any key kind v HV.out _).mono ?_
  rintro e w3 ⟨bv, rfl, hO, hF⟩
  have HZ := Lib.hid ((Blk.new w ZA 49).keep hF (by simp))
  have HF3 := Lib.hid (((Fr.refl [] w).alloc (.cells ZA 49)).trans hF)
  rw [size_alloc] at hO
  have HO := Lib.hid hO
  clear hO hF
  obtain ⟨A3, n3, c3, rfl⟩ := HO.out.slice
  simp only [RowV]
  rw [← HB.out] at HO ⊢
  obtain ⟨g, hg⟩ : ∃ g, g = w3.heap.size := ⟨_, rfl⟩
  have hgw : w.heap.size ≠ g := by have := HZ.out.lt; omega
  have HB3 := Lib.hid (Blk.new w3 (RowA key (foldR kind [v]) (.slice A3 n3 c3)) 49)
  have HZ3 := Lib.hid (HZ.out.alloc (.cells (RowA key (foldR kind [v]) (.slice A3 n3 c3)) 49))
  have HO3 := Lib.hid (HO.out.alloc (.cells (RowA key (foldR kind [v]) (.slice A3 n3 c3)) 49))
  have HF4 := Lib.hid (HF3.out.alloc (.cells (RowA key (foldR kind [v]) (.slice A3 n3 c3)) 49))
  go_wp2_with fail
  rw [← hg] at HB3 ⊢
  clear hg x1
  obtain ⟨wz, hwz⟩ : ∃ wz, wz = w3.alloc (.cells (RowA key (foldR kind [v]) (.slice A3 n3 c3)) 49) := ⟨_, rfl⟩
  rw [← hwz] at HB3 HZ3 HO3 HF4
  show Code.wp _ _ _ _ (w3.alloc (.cells (RowA key (foldR kind [v]) (.slice A3 n3 c3)) 49))
  rw [← hwz]
  clear hwz HO HZ HF3 HB HV
  obtain ⟨x0, x1, x2, x3, x4, x5, x6, x7, y0, y1, y2, y3, y4, y5, y6, y7⟩ := blk8 HB3.out
  obtain ⟨z0, z1, z2, z3, z4, z5, z6, z7, t0, t1, t2, t3, t4, t5, t6, t7⟩ := blk8 HZ3.out
  go_loopw [23] (fun i wr => i = .int .i64 0 ∧ wr = wz) (fun i _ => 0)
  case atStart => exact ⟨rfl, rfl⟩
  case round =>
    obtain ⟨rfl, rfl⟩ := hrel
    go_wp2_with fail
    refine ret_row (g := w.heap.size) (cs := RowA key (foldR kind [v]) (.slice A3 n3 c3)) (Blk.fill8 HZ3.out rfl _ _ _ _ _ _ _ _) rfl rfl rfl ?_
    rw [HQ.out]
    refine ⟨.slice A3 n3 c3, rfl, ?_, ?_⟩
    · exact Ow.base (b := w.heap.size + 1) (HO3.out.keep (S := [w.heap.size]) (Fr.fill8 (g := w.heap.size) (Fr.refl _ _) (.inl (by simp)) _ _ _ _ _ _ _ _) (fun x hx h => by have h1 := (HO3.out.lt x h).1; simp at hx; omega)) (by omega)
    · exact Fr.fill8 (g := w.heap.size) HF4.out (.inr (Nat.le_refl _)) _ _ _ _ _ _ _ _

theorem fold_any (A : Option Addr) (c0 : Nat) (key : ByteArray) (kind : Int) (l : List Int) (w : World) (hl : l.length ≤ 200) (hI : ∀ x ∈ l, I64 x) (hc : Kd.C (Kd.int .i64) w A l.length l) (hcap : l.length ≤ c0) :
    Calls Try.prog 21 #[.string key, .int .i64 kind, .slice A l.length c0] w (Ret (if l = [] then ⟨#[]⟩ else key) (foldR kind l) w) := by
  rcases Lists.C_ints hc with rfl | ⟨ad, rfl, hc2⟩
  · exact fold_none A c0 key kind w
  · cases l with
    | nil => exact fold_none (some ad) c0 key kind w
    | cons v l =>
      rw [if_neg (by simp)]
      by_cases h1 : c0 = 1
      · subst h1
        obtain rfl : l = [] := List.length_eq_zero_iff.1 (by simpa using hcap)
        exact fold_one ad key kind v w (hI v (by simp)) (hc2 0 (by simp))
      · exact fold_some ad c0 key kind (v :: l) w (by simp) hl hI hc2 hcap h1
end Go.Proofs.Ytjnjkgoofkgiiaa.Tally
