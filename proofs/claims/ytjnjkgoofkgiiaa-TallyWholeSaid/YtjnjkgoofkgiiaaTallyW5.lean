/- Walks of layer 18's reference: Come. -/
import Derived.Test.YtjnjkgoofkgiiaaTallyW4
set_option linter.unusedVariables false
set_option linter.unusedSimpArgs false
namespace Go.Proofs.Ytjnjkgoofkgiiaa.Tally
open Go.RowKit Go.Proofs.YtjnjkgoofkgiiaaW.PrintWords Go.Proofs.YtjnjkgoofkgiiaaW.PrintLast

set_option maxRecDepth 100000 in
set_option maxHeartbeats 4000000 in
theorem come_first (key : ByteArray) (kind : Int) (h3 : kind ≠ 3) (v : Int) (hv : I64 v) (w : World) :
    Calls Try.prog 40 #[RowV key ⟨kind, 0, 0, 0, 0, false, []⟩ (.slice none 0 0), .int .i64 v] w (Ret key (beginR kind v) w) := by
  have hlen : ([] : List Int).length ≤ 64 := by simp
  have HBD := Lib.hid (show ∀ x ∈ ([] : List Int), 0 ≤ x ∧ x ≤ 1000 by simp)
  have k3 : (kind != 3) = true := by simpa using h3
  have hbl := bl_le v hv
  have HAE := Lib.hid (show beginR kind v = ⟨kind, 1, v, v, v, false, ([] : List Int)⟩ by
    unfold beginR
    simp [h3])
  have HV := Lib.hid hv
  have HEU := Lib.hid EU
  have HO := Lib.hid (show Ow w 0 (.slice none 0 0) ([] : List Int) from Ow.nil _ _)
  obtain ⟨Q, hQ⟩ : ∃ Q, Q = Ret key (beginR kind v) w := ⟨_, rfl⟩
  have HQ := Lib.hid hQ
  rw [← hQ]
  clear h3 hv hQ
  show Calls Try.prog _ #[.agg #[.string key, .int .i64 kind, .int .u64 0, .int .i64 0, .int .i64 0, .int .i64 0, .bool false, .slice none 0 0], .int .i64 v] w _
  go_enter Try.func40, Try.ntmps40
  have F3 := (((Fr.refl [] w).alloc (.cells #[.string key, .int .i64 kind, .int .u64 0, .int .i64 0, .int .i64 0, .int .i64 0, .bool false, .slice none 0 0] 49)).alloc (.cells #[.string ⟨#[]⟩, .int .i64 0, .int .u64 0, .int .i64 0, .int .i64 0, .int .i64 0, .bool false, .slice none 0 0] 49)).alloc (.cells #[.string key, .int .i64 kind, .int .u64 1, .int .i64 v, .int .i64 v, .int .i64 v, .bool false, .slice none 0 0] 49)
  have B0 := ((Blk.new w #[.string key, .int .i64 kind, .int .u64 0, .int .i64 0, .int .i64 0, .int .i64 0, .bool false, .slice none 0 0] 49).alloc (.cells #[.string ⟨#[]⟩, .int .i64 0, .int .u64 0, .int .i64 0, .int .i64 0, .int .i64 0, .bool false, .slice none 0 0] 49)).alloc (.cells #[.string key, .int .i64 kind, .int .u64 1, .int .i64 v, .int .i64 v, .int .i64 v, .bool false, .slice none 0 0] 49)
  have BZ := (Blk.new (w.alloc (.cells #[.string key, .int .i64 kind, .int .u64 0, .int .i64 0, .int .i64 0, .int .i64 0, .bool false, .slice none 0 0] 49)) #[.string ⟨#[]⟩, .int .i64 0, .int .u64 0, .int .i64 0, .int .i64 0, .int .i64 0, .bool false, .slice none 0 0] 49).alloc (.cells #[.string key, .int .i64 kind, .int .u64 1, .int .i64 v, .int .i64 v, .int .i64 v, .bool false, .slice none 0 0] 49)
  have BA := Blk.new ((w.alloc (.cells #[.string key, .int .i64 kind, .int .u64 0, .int .i64 0, .int .i64 0, .int .i64 0, .bool false, .slice none 0 0] 49)).alloc (.cells #[.string ⟨#[]⟩, .int .i64 0, .int .u64 0, .int .i64 0, .int .i64 0, .int .i64 0, .bool false, .slice none 0 0] 49)) #[.string key, .int .i64 kind, .int .u64 1, .int .i64 v, .int .i64 v, .int .i64 v, .bool false, .slice none 0 0] 49
  simp only [size_alloc] at BZ BA
  have HF := Lib.hid F3
  have HB0 := Lib.hid B0
  have HBZ := Lib.hid BZ
  have HBA := Lib.hid BA
  clear F3 B0 BZ BA
  have F := HF.out
  have BA := HBA.out
  have BZ := HBZ.out
  have B0 := HB0.out
  have HF6 := Lib.hid F
  have HBA6 := Lib.hid BA
  have HBZ6 := Lib.hid BZ
  have HB06 := Lib.hid B0
  have HSRC := Lib.hid ((HO.out.keep0 F).src)
  clear F BA BZ B0
  have hsz := HBA6.out.lt
  go_wp2_with (
    at_builtin
    refine wpList_app (by rfl) _ _ _ (by rfl) (w.heap.size + 1 + 1 + 1) 46 1 8 HEU.out (.slice none 0 0) 0 [] (by rfl) (Ow.nil _ _) (.slice none 0 0) 0 (([] : List Int).map (Value.int .u64)) (by rfl) HSRC.out (by omega) (by omega) (by omega) ?_
    intro v6 w6 ho6 hg6 hat6
    have HO6 := Lib.hid (show Ow w6 (w.heap.size + 1 + 1 + 1) v6 ([] : List Int) by exact ho6)
    have hF6 := Fr.of_grown (S := []) hg6 (fun k hk => by have h2 : (none : Option Nat) = some k := hk; cases h2)
    have BA7 := HBA6.out.keep hF6 (by simp)
    have BZ7 := HBZ6.out.keep hF6 (by simp)
    have HF7 := Lib.hid (HF6.out.trans hF6)
    have B07 := HB06.out.keep hF6 (by simp)
    clear ho6 hg6 hat6 hF6 HF6 HBA6 HBZ6 HB06
    obtain ⟨A6, n6, c6, rfl⟩ := HO6.out.slice
    have HBA7 := Lib.hid BA7
    have HBZ7 := Lib.hid BZ7
    have HB07 := Lib.hid B07
    clear BA7 BZ7 B07
    obtain ⟨x0, x1, x2, x3, x4, x5, x6, x7, y0, y1, y2, y3, y4, y5, y6, y7⟩ := blk8 HBA7.out
    obtain ⟨q0, q1, q2, q3, q4, q5, q6, q7, p0, p1, p2, p3, p4, p5, p6, p7⟩ := blk8 HBZ7.out
    obtain ⟨z0, z1, z2, z3, z4, z5, z6, z7, t0, t1, t2, t3, t4, t5, t6, t7⟩ := blk8 HB07.out)
  refine ret_row (g := w.heap.size + 1) (cs := #[.string key, .int .i64 kind, .int .u64 1, .int .i64 v, .int .i64 v, .int .i64 v, .bool false, .slice A6 n6 c6]) (Blk.fill8 (HBZ7.out.far (b := w.heap.size + 1 + 1) (by omega) _ _) rfl _ _ _ _ _ _ _ _) rfl rfl rfl ?_
  rw [HQ.out, HAE.out]
  refine ⟨.slice A6 n6 c6, rfl, ?_, ?_⟩
  · exact Ow.base (b := w.heap.size + 1 + 1 + 1) (HO6.out.keep (S := [w.heap.size + 1, w.heap.size + 1 + 1]) (Fr.fill8 (g := w.heap.size + 1) ((Fr.refl _ w6).set (b := w.heap.size + 1 + 1) (.inl (by simp)) _ _) (.inl (by simp)) _ _ _ _ _ _ _ _) (fun x hx h => by have h1 := (HO6.out.lt x h).1; simp at hx; omega)) (by omega)
  · exact Fr.fill8 (g := w.heap.size + 1) (HF7.out.set (b := w.heap.size + 1 + 1) (.inr (by omega)) _ _) (.inr (by omega)) _ _ _ _ _ _ _ _

set_option maxRecDepth 100000 in
set_option maxHeartbeats 4000000 in
theorem come_last (key : ByteArray) (m s le mo : Int) (ov : Bool) (bs : List Int) (k base : Nat) (A : Option Addr) (c : Nat) (v : Int) (hv : I64 v) (hk : 1 ≤ k ∧ k ≤ 1000) (ho : Ok k ⟨2, m, s, le, mo, ov, bs⟩) (hlt : le ≤ v) (hgt : v ≤ mo) (w : World) (hO : Ow w base (.slice A bs.length c) bs) :
    Calls Try.prog 40 #[RowV key ⟨2, m, s, le, mo, ov, bs⟩ (.slice A bs.length c), .int .i64 v] w (Ret key (addR ⟨2, m, s, le, mo, ov, bs⟩ v) w) := by
  have hm0 : m = (k : Int) := ho.many
  have HCF := Lib.hid (rcount_f m ⟨by omega, by omega⟩)
  have hlen : bs.length ≤ 64 := by have := ho.len; simpa using this
  have HBD := Lib.hid (show ∀ x ∈ bs, 0 ≤ x ∧ x ≤ 1000 from fun x hx => by have := ho.b x (by simpa using hx); omega)
  have hmp : decide ((0 : Int) < m) = true := by simp; omega
  have hcl : decide (v < le) = false := by simp; omega
  have hcg : decide (mo < v) = false := by simp; omega
  have hbl := bl_le v hv
  have HAE := Lib.hid (show addR ⟨2, m, s, le, mo, ov, bs⟩ v = ⟨2, (m + 1), v, le, mo, ov, bs⟩ by
    unfold addR
    have e1 : (if v < le then v else le) = le := by split <;> omega
    have e2 : (if mo < v then v else mo) = mo := by split <;> omega
    simp [e1, e2])
  have HV := Lib.hid hv
  have HEU := Lib.hid EU
  have HO := Lib.hid (show Ow w base (.slice A bs.length c) bs from hO)
  obtain ⟨n, hn⟩ : ∃ n, n = bs.length := ⟨_, rfl⟩
  have HN := Lib.hid hn
  rw [← hn] at HO hlen ⊢
  obtain ⟨Q, hQ⟩ : ∃ Q, Q = Ret key (addR ⟨2, m, s, le, mo, ov, bs⟩ v) w := ⟨_, rfl⟩
  have HQ := Lib.hid hQ
  rw [← hQ]
  clear hm0 ho hO hlt hgt hv hn hQ
  show Calls Try.prog _ #[.agg #[.string key, .int .i64 2, .int .u64 m, .int .i64 s, .int .i64 le, .int .i64 mo, .bool ov, .slice A n c], .int .i64 v] w _
  go_enter Try.func40, Try.ntmps40
  have F3 := (((Fr.refl [] w).alloc (.cells #[.string key, .int .i64 2, .int .u64 m, .int .i64 s, .int .i64 le, .int .i64 mo, .bool ov, .slice A n c] 49)).alloc (.cells #[.string ⟨#[]⟩, .int .i64 0, .int .u64 0, .int .i64 0, .int .i64 0, .int .i64 0, .bool false, .slice none 0 0] 49)).alloc (.cells #[.string key, .int .i64 2, .int .u64 1, .int .i64 v, .int .i64 v, .int .i64 v, .bool false, .slice none 0 0] 49)
  have B0 := ((Blk.new w #[.string key, .int .i64 2, .int .u64 m, .int .i64 s, .int .i64 le, .int .i64 mo, .bool ov, .slice A n c] 49).alloc (.cells #[.string ⟨#[]⟩, .int .i64 0, .int .u64 0, .int .i64 0, .int .i64 0, .int .i64 0, .bool false, .slice none 0 0] 49)).alloc (.cells #[.string key, .int .i64 2, .int .u64 1, .int .i64 v, .int .i64 v, .int .i64 v, .bool false, .slice none 0 0] 49)
  have BZ := (Blk.new (w.alloc (.cells #[.string key, .int .i64 2, .int .u64 m, .int .i64 s, .int .i64 le, .int .i64 mo, .bool ov, .slice A n c] 49)) #[.string ⟨#[]⟩, .int .i64 0, .int .u64 0, .int .i64 0, .int .i64 0, .int .i64 0, .bool false, .slice none 0 0] 49).alloc (.cells #[.string key, .int .i64 2, .int .u64 1, .int .i64 v, .int .i64 v, .int .i64 v, .bool false, .slice none 0 0] 49)
  have BA := Blk.new ((w.alloc (.cells #[.string key, .int .i64 2, .int .u64 m, .int .i64 s, .int .i64 le, .int .i64 mo, .bool ov, .slice A n c] 49)).alloc (.cells #[.string ⟨#[]⟩, .int .i64 0, .int .u64 0, .int .i64 0, .int .i64 0, .int .i64 0, .bool false, .slice none 0 0] 49)) #[.string key, .int .i64 2, .int .u64 1, .int .i64 v, .int .i64 v, .int .i64 v, .bool false, .slice none 0 0] 49
  simp only [size_alloc] at BZ BA
  have HF := Lib.hid F3
  have HB0 := Lib.hid B0
  have HBZ := Lib.hid BZ
  have HBA := Lib.hid BA
  clear F3 B0 BZ BA
  go_wp2_with fail
  refine (PTallyFolds.nogginref01_Count.calls m 1 (m + 1) false _ HCF.out).mono ?_
  rintro e w4 ⟨rfl, hd⟩
  have F := HF.out
  have BA := HBA.out
  have B0 := HB0.out
  have BZ := HBZ.out
  replace F := F.trans (Fr.of_drawn hd)
  replace BA := BA.keep (Fr.of_drawn hd) (by simp)
  replace B0 := B0.keep (Fr.of_drawn hd) (by simp)
  replace BZ := BZ.keep (Fr.of_drawn hd) (by simp)
  clear hd HF HB0 HBZ HBA
  have HF := Lib.hid F
  have HB0 := Lib.hid B0
  have HBZ := Lib.hid BZ
  have HBA := Lib.hid BA
  clear F BA B0 BZ
  obtain ⟨x0, x1, x2, x3, x4, x5, x6, x7, y0, y1, y2, y3, y4, y5, y6, y7⟩ := blk8 HBA.out
  obtain ⟨z0, z1, z2, z3, z4, z5, z6, z7, t0, t1, t2, t3, t4, t5, t6, t7⟩ := blk8 HB0.out
  have F := HF.out
  have BA := HBA.out
  have BZ := HBZ.out
  have B0 := HB0.out
  replace F := F.set (b := w.heap.size + 1 + 1) (.inr (by omega)) 2 (.int .u64 (m + 1))
  replace BA := BA.put (cs' := #[.string key, .int .i64 2, .int .u64 (m + 1), .int .i64 v, .int .i64 v, .int .i64 v, .bool false, .slice none 0 0]) 2 (.int .u64 (m + 1)) rfl
  replace BZ := BZ.far (b := w.heap.size + 1 + 1) (by omega) 2 (.int .u64 (m + 1))
  replace B0 := B0.far (b := w.heap.size + 1 + 1) (by omega) 2 (.int .u64 (m + 1))
  replace F := F.set (b := w.heap.size + 1 + 1) (.inr (by omega)) 4 (.int .i64 le)
  replace BA := BA.put (cs' := #[.string key, .int .i64 2, .int .u64 (m + 1), .int .i64 v, .int .i64 le, .int .i64 v, .bool false, .slice none 0 0]) 4 (.int .i64 le) rfl
  replace BZ := BZ.far (b := w.heap.size + 1 + 1) (by omega) 4 (.int .i64 le)
  replace B0 := B0.far (b := w.heap.size + 1 + 1) (by omega) 4 (.int .i64 le)
  replace F := F.set (b := w.heap.size + 1 + 1) (.inr (by omega)) 5 (.int .i64 mo)
  replace BA := BA.put (cs' := #[.string key, .int .i64 2, .int .u64 (m + 1), .int .i64 v, .int .i64 le, .int .i64 mo, .bool false, .slice none 0 0]) 5 (.int .i64 mo) rfl
  replace BZ := BZ.far (b := w.heap.size + 1 + 1) (by omega) 5 (.int .i64 mo)
  replace B0 := B0.far (b := w.heap.size + 1 + 1) (by omega) 5 (.int .i64 mo)
  replace F := F.set (b := w.heap.size + 1 + 1) (.inr (by omega)) 6 (.bool ov)
  replace BA := BA.put (cs' := #[.string key, .int .i64 2, .int .u64 (m + 1), .int .i64 v, .int .i64 le, .int .i64 mo, .bool ov, .slice none 0 0]) 6 (.bool ov) rfl
  replace BZ := BZ.far (b := w.heap.size + 1 + 1) (by omega) 6 (.bool ov)
  replace B0 := B0.far (b := w.heap.size + 1 + 1) (by omega) 6 (.bool ov)
  have HF6 := Lib.hid F
  have HBA6 := Lib.hid BA
  have HBZ6 := Lib.hid BZ
  have HB06 := Lib.hid B0
  have HSRC := Lib.hid ((HO.out.keep0 F).src)
  clear F BA BZ B0
  have hsz := HBA6.out.lt
  go_wp2_with (
    at_builtin
    refine wpList_app (by rfl) _ _ _ (by rfl) (w.heap.size + 1 + 1 + 1) 46 1 8 HEU.out (.slice none 0 0) 0 [] (by rfl) (Ow.nil _ _) (.slice A n c) n (bs.map (Value.int .u64)) (by rfl) (by have h := HSRC.out; rw [← HN.out] at h; exact h) (by omega) (by omega) (by omega) ?_
    intro v6 w6 ho6 hg6 hat6
    have HO6 := Lib.hid (show Ow w6 (w.heap.size + 1 + 1 + 1) v6 bs by unfold Ow; rw [← HN.out, ← Nat.zero_add n]; exact ho6)
    have hF6 := Fr.of_grown (S := []) hg6 (fun k hk => by have h2 : (none : Option Nat) = some k := hk; cases h2)
    have BA7 := HBA6.out.keep hF6 (by simp)
    have BZ7 := HBZ6.out.keep hF6 (by simp)
    have HF7 := Lib.hid (HF6.out.trans hF6)
    have B07 := HB06.out.keep hF6 (by simp)
    clear ho6 hg6 hat6 hF6 HF6 HBA6 HBZ6 HB06 x0 x1 x2 x3 x4 x5 x6 x7 y0 y1 y2 y3 y4 y5 y6 y7 z0 z1 z2 z3 z4 z5 z6 z7 t0 t1 t2 t3 t4 t5 t6 t7
    obtain ⟨A6, n6, c6, rfl⟩ := HO6.out.slice
    have HBA7 := Lib.hid BA7
    have HBZ7 := Lib.hid BZ7
    have HB07 := Lib.hid B07
    clear BA7 BZ7 B07
    obtain ⟨x0, x1, x2, x3, x4, x5, x6, x7, y0, y1, y2, y3, y4, y5, y6, y7⟩ := blk8 HBA7.out
    obtain ⟨q0, q1, q2, q3, q4, q5, q6, q7, p0, p1, p2, p3, p4, p5, p6, p7⟩ := blk8 HBZ7.out
    obtain ⟨z0, z1, z2, z3, z4, z5, z6, z7, t0, t1, t2, t3, t4, t5, t6, t7⟩ := blk8 HB07.out)
  refine ret_row (g := w.heap.size + 1) (cs := #[.string key, .int .i64 2, .int .u64 (m + 1), .int .i64 v, .int .i64 le, .int .i64 mo, .bool ov, .slice A6 n6 c6]) (Blk.fill8 (HBZ7.out.far (b := w.heap.size + 1 + 1) (by omega) _ _) rfl _ _ _ _ _ _ _ _) rfl rfl rfl ?_
  rw [HQ.out, HAE.out]
  refine ⟨.slice A6 n6 c6, rfl, ?_, ?_⟩
  · exact Ow.base (b := w.heap.size + 1 + 1 + 1) (HO6.out.keep (S := [w.heap.size + 1, w.heap.size + 1 + 1]) (Fr.fill8 (g := w.heap.size + 1) ((Fr.refl _ w6).set (b := w.heap.size + 1 + 1) (.inl (by simp)) _ _) (.inl (by simp)) _ _ _ _ _ _ _ _) (fun x hx h => by have h1 := (HO6.out.lt x h).1; simp at hx; omega)) (by omega)
  · exact Fr.fill8 (g := w.heap.size + 1) (HF7.out.set (b := w.heap.size + 1 + 1) (.inr (by omega)) _ _) (.inr (by omega)) _ _ _ _ _ _ _ _

set_option maxRecDepth 100000 in
set_option maxHeartbeats 4000000 in
theorem come_otherf (key : ByteArray) (kind : Int) (h2 : kind ≠ 2) (h3 : kind ≠ 3) (m s le mo : Int) (bs : List Int) (k base : Nat) (A : Option Addr) (c : Nat) (v : Int) (hv : I64 v) (hk : 1 ≤ k ∧ k ≤ 1000) (ho : Ok k ⟨kind, m, s, le, mo, false, bs⟩) (hlt : le ≤ v) (hgt : v ≤ mo) (w : World) (hO : Ow w base (.slice A bs.length c) bs) :
    Calls Try.prog 40 #[RowV key ⟨kind, m, s, le, mo, false, bs⟩ (.slice A bs.length c), .int .i64 v] w (Ret key (addR ⟨kind, m, s, le, mo, false, bs⟩ v) w) := by
  have hm0 : m = (k : Int) := ho.many
  have HCF := Lib.hid (rcount_f m ⟨by omega, by omega⟩)
  have hlen : bs.length ≤ 64 := by have := ho.len; simpa using this
  have HBD := Lib.hid (show ∀ x ∈ bs, 0 ≤ x ∧ x ≤ 1000 from fun x hx => by have := ho.b x (by simpa using hx); omega)
  have hmp : decide ((0 : Int) < m) = true := by simp; omega
  have HAF := Lib.hid (radd_f s v ho.sum hv)
  obtain ⟨s2, hs2⟩ : ∃ s2, s2 = (sadd s v).1 := ⟨_, rfl⟩
  obtain ⟨o2, ho2⟩ : ∃ o2, o2 = (sadd s v).2 := ⟨_, rfl⟩
  rw [show sadd s v = (s2, o2) by rw [hs2, ho2]] at HAF
  have hcl : decide (v < le) = false := by simp; omega
  have hcg : decide (mo < v) = false := by simp; omega
  have k2 : (kind != 2) = true := by simpa using h2
  have k3 : (kind != 3) = true := by simpa using h3
  have hbl := bl_le v hv
  have HAE := Lib.hid (show addR ⟨kind, m, s, le, mo, false, bs⟩ v = ⟨kind, (m + 1), s2, le, mo, o2, bs⟩ by
    unfold addR
    have e1 : (if v < le then v else le) = le := by split <;> omega
    have e2 : (if mo < v then v else mo) = mo := by split <;> omega
    simp [e1, e2, hs2, ho2, h2, h3])
  have HV := Lib.hid hv
  have HEU := Lib.hid EU
  have HO := Lib.hid (show Ow w base (.slice A bs.length c) bs from hO)
  obtain ⟨n, hn⟩ : ∃ n, n = bs.length := ⟨_, rfl⟩
  have HN := Lib.hid hn
  rw [← hn] at HO hlen ⊢
  obtain ⟨Q, hQ⟩ : ∃ Q, Q = Ret key (addR ⟨kind, m, s, le, mo, false, bs⟩ v) w := ⟨_, rfl⟩
  have HQ := Lib.hid hQ
  rw [← hQ]
  clear hm0 ho hO hlt hgt hs2 ho2 h2 h3 hv hn hQ
  show Calls Try.prog _ #[.agg #[.string key, .int .i64 kind, .int .u64 m, .int .i64 s, .int .i64 le, .int .i64 mo, .bool false, .slice A n c], .int .i64 v] w _
  go_enter Try.func40, Try.ntmps40
  have F3 := (((Fr.refl [] w).alloc (.cells #[.string key, .int .i64 kind, .int .u64 m, .int .i64 s, .int .i64 le, .int .i64 mo, .bool false, .slice A n c] 49)).alloc (.cells #[.string ⟨#[]⟩, .int .i64 0, .int .u64 0, .int .i64 0, .int .i64 0, .int .i64 0, .bool false, .slice none 0 0] 49)).alloc (.cells #[.string key, .int .i64 kind, .int .u64 1, .int .i64 v, .int .i64 v, .int .i64 v, .bool false, .slice none 0 0] 49)
  have B0 := ((Blk.new w #[.string key, .int .i64 kind, .int .u64 m, .int .i64 s, .int .i64 le, .int .i64 mo, .bool false, .slice A n c] 49).alloc (.cells #[.string ⟨#[]⟩, .int .i64 0, .int .u64 0, .int .i64 0, .int .i64 0, .int .i64 0, .bool false, .slice none 0 0] 49)).alloc (.cells #[.string key, .int .i64 kind, .int .u64 1, .int .i64 v, .int .i64 v, .int .i64 v, .bool false, .slice none 0 0] 49)
  have BZ := (Blk.new (w.alloc (.cells #[.string key, .int .i64 kind, .int .u64 m, .int .i64 s, .int .i64 le, .int .i64 mo, .bool false, .slice A n c] 49)) #[.string ⟨#[]⟩, .int .i64 0, .int .u64 0, .int .i64 0, .int .i64 0, .int .i64 0, .bool false, .slice none 0 0] 49).alloc (.cells #[.string key, .int .i64 kind, .int .u64 1, .int .i64 v, .int .i64 v, .int .i64 v, .bool false, .slice none 0 0] 49)
  have BA := Blk.new ((w.alloc (.cells #[.string key, .int .i64 kind, .int .u64 m, .int .i64 s, .int .i64 le, .int .i64 mo, .bool false, .slice A n c] 49)).alloc (.cells #[.string ⟨#[]⟩, .int .i64 0, .int .u64 0, .int .i64 0, .int .i64 0, .int .i64 0, .bool false, .slice none 0 0] 49)) #[.string key, .int .i64 kind, .int .u64 1, .int .i64 v, .int .i64 v, .int .i64 v, .bool false, .slice none 0 0] 49
  simp only [size_alloc] at BZ BA
  have HF := Lib.hid F3
  have HB0 := Lib.hid B0
  have HBZ := Lib.hid BZ
  have HBA := Lib.hid BA
  clear F3 B0 BZ BA
  go_wp2_with fail
  refine (PTallyFolds.nogginref01_Count.calls m 1 (m + 1) false _ HCF.out).mono ?_
  rintro e w4 ⟨rfl, hd⟩
  have F := HF.out
  have BA := HBA.out
  have B0 := HB0.out
  have BZ := HBZ.out
  replace F := F.trans (Fr.of_drawn hd)
  replace BA := BA.keep (Fr.of_drawn hd) (by simp)
  replace B0 := B0.keep (Fr.of_drawn hd) (by simp)
  replace BZ := BZ.keep (Fr.of_drawn hd) (by simp)
  clear hd HF HB0 HBZ HBA
  have HF := Lib.hid F
  have HB0 := Lib.hid B0
  have HBZ := Lib.hid BZ
  have HBA := Lib.hid BA
  clear F BA B0 BZ
  obtain ⟨x0, x1, x2, x3, x4, x5, x6, x7, y0, y1, y2, y3, y4, y5, y6, y7⟩ := blk8 HBA.out
  obtain ⟨z0, z1, z2, z3, z4, z5, z6, z7, t0, t1, t2, t3, t4, t5, t6, t7⟩ := blk8 HB0.out
  go_wp2_with fail
  refine (PTallyFolds.nogginref01_Add.calls 3 s v s2 o2 _ HAF.out).mono ?_
  rintro e w5 ⟨rfl, hd⟩
  have F := HF.out
  have BA := HBA.out
  have B0 := HB0.out
  have BZ := HBZ.out
  replace F := F.set (b := w.heap.size + 1 + 1) (.inr (by omega)) 2 (.int .u64 (m + 1))
  replace BA := BA.put (cs' := #[.string key, .int .i64 kind, .int .u64 (m + 1), .int .i64 v, .int .i64 v, .int .i64 v, .bool false, .slice none 0 0]) 2 (.int .u64 (m + 1)) rfl
  replace B0 := B0.far (b := w.heap.size + 1 + 1) (by omega) 2 (.int .u64 (m + 1))
  replace BZ := BZ.far (b := w.heap.size + 1 + 1) (by omega) 2 (.int .u64 (m + 1))
  replace F := F.set (b := w.heap.size + 1 + 1) (.inr (by omega)) 4 (.int .i64 le)
  replace BA := BA.put (cs' := #[.string key, .int .i64 kind, .int .u64 (m + 1), .int .i64 v, .int .i64 le, .int .i64 v, .bool false, .slice none 0 0]) 4 (.int .i64 le) rfl
  replace B0 := B0.far (b := w.heap.size + 1 + 1) (by omega) 4 (.int .i64 le)
  replace BZ := BZ.far (b := w.heap.size + 1 + 1) (by omega) 4 (.int .i64 le)
  replace F := F.set (b := w.heap.size + 1 + 1) (.inr (by omega)) 5 (.int .i64 mo)
  replace BA := BA.put (cs' := #[.string key, .int .i64 kind, .int .u64 (m + 1), .int .i64 v, .int .i64 le, .int .i64 mo, .bool false, .slice none 0 0]) 5 (.int .i64 mo) rfl
  replace B0 := B0.far (b := w.heap.size + 1 + 1) (by omega) 5 (.int .i64 mo)
  replace BZ := BZ.far (b := w.heap.size + 1 + 1) (by omega) 5 (.int .i64 mo)
  replace F := F.set (b := w.heap.size + 1 + 1) (.inr (by omega)) 6 (.bool false)
  replace BA := BA.put (cs' := #[.string key, .int .i64 kind, .int .u64 (m + 1), .int .i64 v, .int .i64 le, .int .i64 mo, .bool false, .slice none 0 0]) 6 (.bool false) rfl
  replace B0 := B0.far (b := w.heap.size + 1 + 1) (by omega) 6 (.bool false)
  replace BZ := BZ.far (b := w.heap.size + 1 + 1) (by omega) 6 (.bool false)
  replace F := F.trans (Fr.of_drawn hd)
  replace BA := BA.keep (Fr.of_drawn hd) (by simp)
  replace B0 := B0.keep (Fr.of_drawn hd) (by simp)
  replace BZ := BZ.keep (Fr.of_drawn hd) (by simp)
  clear hd HF HB0 HBZ HBA x0 x1 x2 x3 x4 x5 x6 x7 y0 y1 y2 y3 y4 y5 y6 y7 z0 z1 z2 z3 z4 z5 z6 z7 t0 t1 t2 t3 t4 t5 t6 t7
  have HF := Lib.hid F
  have HB0 := Lib.hid B0
  have HBZ := Lib.hid BZ
  have HBA := Lib.hid BA
  clear F BA B0 BZ
  obtain ⟨x0, x1, x2, x3, x4, x5, x6, x7, y0, y1, y2, y3, y4, y5, y6, y7⟩ := blk8 HBA.out
  obtain ⟨z0, z1, z2, z3, z4, z5, z6, z7, t0, t1, t2, t3, t4, t5, t6, t7⟩ := blk8 HB0.out
  have F := HF.out
  have BA := HBA.out
  have BZ := HBZ.out
  have B0 := HB0.out
  replace F := F.set (b := w.heap.size + 1 + 1) (.inr (by omega)) 3 (.int .i64 s2)
  replace BA := BA.put (cs' := #[.string key, .int .i64 kind, .int .u64 (m + 1), .int .i64 s2, .int .i64 le, .int .i64 mo, .bool false, .slice none 0 0]) 3 (.int .i64 s2) rfl
  replace BZ := BZ.far (b := w.heap.size + 1 + 1) (by omega) 3 (.int .i64 s2)
  replace B0 := B0.far (b := w.heap.size + 1 + 1) (by omega) 3 (.int .i64 s2)
  replace F := F.set (b := w.heap.size + 1 + 1) (.inr (by omega)) 6 (.bool o2)
  replace BA := BA.put (cs' := #[.string key, .int .i64 kind, .int .u64 (m + 1), .int .i64 s2, .int .i64 le, .int .i64 mo, .bool o2, .slice none 0 0]) 6 (.bool o2) rfl
  replace BZ := BZ.far (b := w.heap.size + 1 + 1) (by omega) 6 (.bool o2)
  replace B0 := B0.far (b := w.heap.size + 1 + 1) (by omega) 6 (.bool o2)
  have HF6 := Lib.hid F
  have HBA6 := Lib.hid BA
  have HBZ6 := Lib.hid BZ
  have HB06 := Lib.hid B0
  have HSRC := Lib.hid ((HO.out.keep0 F).src)
  clear F BA BZ B0
  have hsz := HBA6.out.lt
  go_wp2_with (
    at_builtin
    refine wpList_app (by rfl) _ _ _ (by rfl) (w.heap.size + 1 + 1 + 1) 46 1 8 HEU.out (.slice none 0 0) 0 [] (by rfl) (Ow.nil _ _) (.slice A n c) n (bs.map (Value.int .u64)) (by rfl) (by have h := HSRC.out; rw [← HN.out] at h; exact h) (by omega) (by omega) (by omega) ?_
    intro v6 w6 ho6 hg6 hat6
    have HO6 := Lib.hid (show Ow w6 (w.heap.size + 1 + 1 + 1) v6 bs by unfold Ow; rw [← HN.out, ← Nat.zero_add n]; exact ho6)
    have hF6 := Fr.of_grown (S := []) hg6 (fun k hk => by have h2 : (none : Option Nat) = some k := hk; cases h2)
    have BA7 := HBA6.out.keep hF6 (by simp)
    have BZ7 := HBZ6.out.keep hF6 (by simp)
    have HF7 := Lib.hid (HF6.out.trans hF6)
    have B07 := HB06.out.keep hF6 (by simp)
    clear ho6 hg6 hat6 hF6 HF6 HBA6 HBZ6 HB06 x0 x1 x2 x3 x4 x5 x6 x7 y0 y1 y2 y3 y4 y5 y6 y7 z0 z1 z2 z3 z4 z5 z6 z7 t0 t1 t2 t3 t4 t5 t6 t7
    obtain ⟨A6, n6, c6, rfl⟩ := HO6.out.slice
    have HBA7 := Lib.hid BA7
    have HBZ7 := Lib.hid BZ7
    have HB07 := Lib.hid B07
    clear BA7 BZ7 B07
    obtain ⟨x0, x1, x2, x3, x4, x5, x6, x7, y0, y1, y2, y3, y4, y5, y6, y7⟩ := blk8 HBA7.out
    obtain ⟨q0, q1, q2, q3, q4, q5, q6, q7, p0, p1, p2, p3, p4, p5, p6, p7⟩ := blk8 HBZ7.out
    obtain ⟨z0, z1, z2, z3, z4, z5, z6, z7, t0, t1, t2, t3, t4, t5, t6, t7⟩ := blk8 HB07.out)
  refine ret_row (g := w.heap.size + 1) (cs := #[.string key, .int .i64 kind, .int .u64 (m + 1), .int .i64 s2, .int .i64 le, .int .i64 mo, .bool o2, .slice A6 n6 c6]) (Blk.fill8 (HBZ7.out.far (b := w.heap.size + 1 + 1) (by omega) _ _) rfl _ _ _ _ _ _ _ _) rfl rfl rfl ?_
  rw [HQ.out, HAE.out]
  refine ⟨.slice A6 n6 c6, rfl, ?_, ?_⟩
  · exact Ow.base (b := w.heap.size + 1 + 1 + 1) (HO6.out.keep (S := [w.heap.size + 1, w.heap.size + 1 + 1]) (Fr.fill8 (g := w.heap.size + 1) ((Fr.refl _ w6).set (b := w.heap.size + 1 + 1) (.inl (by simp)) _ _) (.inl (by simp)) _ _ _ _ _ _ _ _) (fun x hx h => by have h1 := (HO6.out.lt x h).1; simp at hx; omega)) (by omega)
  · exact Fr.fill8 (g := w.heap.size + 1) (HF7.out.set (b := w.heap.size + 1 + 1) (.inr (by omega)) _ _) (.inr (by omega)) _ _ _ _ _ _ _ _

set_option maxRecDepth 100000 in
set_option maxHeartbeats 4000000 in
theorem come_othert (key : ByteArray) (kind : Int) (h2 : kind ≠ 2) (h3 : kind ≠ 3) (m s le mo : Int) (bs : List Int) (k base : Nat) (A : Option Addr) (c : Nat) (v : Int) (hv : I64 v) (hk : 1 ≤ k ∧ k ≤ 1000) (ho : Ok k ⟨kind, m, s, le, mo, true, bs⟩) (hlt : le ≤ v) (hgt : v ≤ mo) (w : World) (hO : Ow w base (.slice A bs.length c) bs) :
    Calls Try.prog 40 #[RowV key ⟨kind, m, s, le, mo, true, bs⟩ (.slice A bs.length c), .int .i64 v] w (Ret key (addR ⟨kind, m, s, le, mo, true, bs⟩ v) w) := by
  have hm0 : m = (k : Int) := ho.many
  have HCF := Lib.hid (rcount_f m ⟨by omega, by omega⟩)
  have hlen : bs.length ≤ 64 := by have := ho.len; simpa using this
  have HBD := Lib.hid (show ∀ x ∈ bs, 0 ≤ x ∧ x ≤ 1000 from fun x hx => by have := ho.b x (by simpa using hx); omega)
  have hmp : decide ((0 : Int) < m) = true := by simp; omega
  have HAF := Lib.hid (radd_f s v ho.sum hv)
  obtain ⟨s2, hs2⟩ : ∃ s2, s2 = (sadd s v).1 := ⟨_, rfl⟩
  obtain ⟨o2, ho2⟩ : ∃ o2, o2 = (sadd s v).2 := ⟨_, rfl⟩
  rw [show sadd s v = (s2, o2) by rw [hs2, ho2]] at HAF
  have hcl : decide (v < le) = false := by simp; omega
  have hcg : decide (mo < v) = false := by simp; omega
  have k2 : (kind != 2) = true := by simpa using h2
  have k3 : (kind != 3) = true := by simpa using h3
  have hbl := bl_le v hv
  have HAE := Lib.hid (show addR ⟨kind, m, s, le, mo, true, bs⟩ v = ⟨kind, (m + 1), s2, le, mo, true, bs⟩ by
    unfold addR
    have e1 : (if v < le then v else le) = le := by split <;> omega
    have e2 : (if mo < v then v else mo) = mo := by split <;> omega
    simp [e1, e2, hs2, ho2, h2, h3])
  have HV := Lib.hid hv
  have HEU := Lib.hid EU
  have HO := Lib.hid (show Ow w base (.slice A bs.length c) bs from hO)
  obtain ⟨n, hn⟩ : ∃ n, n = bs.length := ⟨_, rfl⟩
  have HN := Lib.hid hn
  rw [← hn] at HO hlen ⊢
  obtain ⟨Q, hQ⟩ : ∃ Q, Q = Ret key (addR ⟨kind, m, s, le, mo, true, bs⟩ v) w := ⟨_, rfl⟩
  have HQ := Lib.hid hQ
  rw [← hQ]
  clear hm0 ho hO hlt hgt hs2 ho2 h2 h3 hv hn hQ
  show Calls Try.prog _ #[.agg #[.string key, .int .i64 kind, .int .u64 m, .int .i64 s, .int .i64 le, .int .i64 mo, .bool true, .slice A n c], .int .i64 v] w _
  go_enter Try.func40, Try.ntmps40
  have F3 := (((Fr.refl [] w).alloc (.cells #[.string key, .int .i64 kind, .int .u64 m, .int .i64 s, .int .i64 le, .int .i64 mo, .bool true, .slice A n c] 49)).alloc (.cells #[.string ⟨#[]⟩, .int .i64 0, .int .u64 0, .int .i64 0, .int .i64 0, .int .i64 0, .bool false, .slice none 0 0] 49)).alloc (.cells #[.string key, .int .i64 kind, .int .u64 1, .int .i64 v, .int .i64 v, .int .i64 v, .bool false, .slice none 0 0] 49)
  have B0 := ((Blk.new w #[.string key, .int .i64 kind, .int .u64 m, .int .i64 s, .int .i64 le, .int .i64 mo, .bool true, .slice A n c] 49).alloc (.cells #[.string ⟨#[]⟩, .int .i64 0, .int .u64 0, .int .i64 0, .int .i64 0, .int .i64 0, .bool false, .slice none 0 0] 49)).alloc (.cells #[.string key, .int .i64 kind, .int .u64 1, .int .i64 v, .int .i64 v, .int .i64 v, .bool false, .slice none 0 0] 49)
  have BZ := (Blk.new (w.alloc (.cells #[.string key, .int .i64 kind, .int .u64 m, .int .i64 s, .int .i64 le, .int .i64 mo, .bool true, .slice A n c] 49)) #[.string ⟨#[]⟩, .int .i64 0, .int .u64 0, .int .i64 0, .int .i64 0, .int .i64 0, .bool false, .slice none 0 0] 49).alloc (.cells #[.string key, .int .i64 kind, .int .u64 1, .int .i64 v, .int .i64 v, .int .i64 v, .bool false, .slice none 0 0] 49)
  have BA := Blk.new ((w.alloc (.cells #[.string key, .int .i64 kind, .int .u64 m, .int .i64 s, .int .i64 le, .int .i64 mo, .bool true, .slice A n c] 49)).alloc (.cells #[.string ⟨#[]⟩, .int .i64 0, .int .u64 0, .int .i64 0, .int .i64 0, .int .i64 0, .bool false, .slice none 0 0] 49)) #[.string key, .int .i64 kind, .int .u64 1, .int .i64 v, .int .i64 v, .int .i64 v, .bool false, .slice none 0 0] 49
  simp only [size_alloc] at BZ BA
  have HF := Lib.hid F3
  have HB0 := Lib.hid B0
  have HBZ := Lib.hid BZ
  have HBA := Lib.hid BA
  clear F3 B0 BZ BA
  go_wp2_with fail
  refine (PTallyFolds.nogginref01_Count.calls m 1 (m + 1) false _ HCF.out).mono ?_
  rintro e w4 ⟨rfl, hd⟩
  have F := HF.out
  have BA := HBA.out
  have B0 := HB0.out
  have BZ := HBZ.out
  replace F := F.trans (Fr.of_drawn hd)
  replace BA := BA.keep (Fr.of_drawn hd) (by simp)
  replace B0 := B0.keep (Fr.of_drawn hd) (by simp)
  replace BZ := BZ.keep (Fr.of_drawn hd) (by simp)
  clear hd HF HB0 HBZ HBA
  have HF := Lib.hid F
  have HB0 := Lib.hid B0
  have HBZ := Lib.hid BZ
  have HBA := Lib.hid BA
  clear F BA B0 BZ
  obtain ⟨x0, x1, x2, x3, x4, x5, x6, x7, y0, y1, y2, y3, y4, y5, y6, y7⟩ := blk8 HBA.out
  obtain ⟨z0, z1, z2, z3, z4, z5, z6, z7, t0, t1, t2, t3, t4, t5, t6, t7⟩ := blk8 HB0.out
  go_wp2_with fail
  refine (PTallyFolds.nogginref01_Add.calls 3 s v s2 o2 _ HAF.out).mono ?_
  rintro e w5 ⟨rfl, hd⟩
  have F := HF.out
  have BA := HBA.out
  have B0 := HB0.out
  have BZ := HBZ.out
  replace F := F.set (b := w.heap.size + 1 + 1) (.inr (by omega)) 2 (.int .u64 (m + 1))
  replace BA := BA.put (cs' := #[.string key, .int .i64 kind, .int .u64 (m + 1), .int .i64 v, .int .i64 v, .int .i64 v, .bool false, .slice none 0 0]) 2 (.int .u64 (m + 1)) rfl
  replace B0 := B0.far (b := w.heap.size + 1 + 1) (by omega) 2 (.int .u64 (m + 1))
  replace BZ := BZ.far (b := w.heap.size + 1 + 1) (by omega) 2 (.int .u64 (m + 1))
  replace F := F.set (b := w.heap.size + 1 + 1) (.inr (by omega)) 4 (.int .i64 le)
  replace BA := BA.put (cs' := #[.string key, .int .i64 kind, .int .u64 (m + 1), .int .i64 v, .int .i64 le, .int .i64 v, .bool false, .slice none 0 0]) 4 (.int .i64 le) rfl
  replace B0 := B0.far (b := w.heap.size + 1 + 1) (by omega) 4 (.int .i64 le)
  replace BZ := BZ.far (b := w.heap.size + 1 + 1) (by omega) 4 (.int .i64 le)
  replace F := F.set (b := w.heap.size + 1 + 1) (.inr (by omega)) 5 (.int .i64 mo)
  replace BA := BA.put (cs' := #[.string key, .int .i64 kind, .int .u64 (m + 1), .int .i64 v, .int .i64 le, .int .i64 mo, .bool false, .slice none 0 0]) 5 (.int .i64 mo) rfl
  replace B0 := B0.far (b := w.heap.size + 1 + 1) (by omega) 5 (.int .i64 mo)
  replace BZ := BZ.far (b := w.heap.size + 1 + 1) (by omega) 5 (.int .i64 mo)
  replace F := F.set (b := w.heap.size + 1 + 1) (.inr (by omega)) 6 (.bool true)
  replace BA := BA.put (cs' := #[.string key, .int .i64 kind, .int .u64 (m + 1), .int .i64 v, .int .i64 le, .int .i64 mo, .bool true, .slice none 0 0]) 6 (.bool true) rfl
  replace B0 := B0.far (b := w.heap.size + 1 + 1) (by omega) 6 (.bool true)
  replace BZ := BZ.far (b := w.heap.size + 1 + 1) (by omega) 6 (.bool true)
  replace F := F.trans (Fr.of_drawn hd)
  replace BA := BA.keep (Fr.of_drawn hd) (by simp)
  replace B0 := B0.keep (Fr.of_drawn hd) (by simp)
  replace BZ := BZ.keep (Fr.of_drawn hd) (by simp)
  clear hd HF HB0 HBZ HBA x0 x1 x2 x3 x4 x5 x6 x7 y0 y1 y2 y3 y4 y5 y6 y7 z0 z1 z2 z3 z4 z5 z6 z7 t0 t1 t2 t3 t4 t5 t6 t7
  have HF := Lib.hid F
  have HB0 := Lib.hid B0
  have HBZ := Lib.hid BZ
  have HBA := Lib.hid BA
  clear F BA B0 BZ
  obtain ⟨x0, x1, x2, x3, x4, x5, x6, x7, y0, y1, y2, y3, y4, y5, y6, y7⟩ := blk8 HBA.out
  obtain ⟨z0, z1, z2, z3, z4, z5, z6, z7, t0, t1, t2, t3, t4, t5, t6, t7⟩ := blk8 HB0.out
  have F := HF.out
  have BA := HBA.out
  have BZ := HBZ.out
  have B0 := HB0.out
  replace F := F.set (b := w.heap.size + 1 + 1) (.inr (by omega)) 3 (.int .i64 s2)
  replace BA := BA.put (cs' := #[.string key, .int .i64 kind, .int .u64 (m + 1), .int .i64 s2, .int .i64 le, .int .i64 mo, .bool true, .slice none 0 0]) 3 (.int .i64 s2) rfl
  replace BZ := BZ.far (b := w.heap.size + 1 + 1) (by omega) 3 (.int .i64 s2)
  replace B0 := B0.far (b := w.heap.size + 1 + 1) (by omega) 3 (.int .i64 s2)
  replace F := F.set (b := w.heap.size + 1 + 1) (.inr (by omega)) 6 (.bool true)
  replace BA := BA.put (cs' := #[.string key, .int .i64 kind, .int .u64 (m + 1), .int .i64 s2, .int .i64 le, .int .i64 mo, .bool true, .slice none 0 0]) 6 (.bool true) rfl
  replace BZ := BZ.far (b := w.heap.size + 1 + 1) (by omega) 6 (.bool true)
  replace B0 := B0.far (b := w.heap.size + 1 + 1) (by omega) 6 (.bool true)
  have HF6 := Lib.hid F
  have HBA6 := Lib.hid BA
  have HBZ6 := Lib.hid BZ
  have HB06 := Lib.hid B0
  have HSRC := Lib.hid ((HO.out.keep0 F).src)
  clear F BA BZ B0
  have hsz := HBA6.out.lt
  go_wp2_with (
    at_builtin
    refine wpList_app (by rfl) _ _ _ (by rfl) (w.heap.size + 1 + 1 + 1) 46 1 8 HEU.out (.slice none 0 0) 0 [] (by rfl) (Ow.nil _ _) (.slice A n c) n (bs.map (Value.int .u64)) (by rfl) (by have h := HSRC.out; rw [← HN.out] at h; exact h) (by omega) (by omega) (by omega) ?_
    intro v6 w6 ho6 hg6 hat6
    have HO6 := Lib.hid (show Ow w6 (w.heap.size + 1 + 1 + 1) v6 bs by unfold Ow; rw [← HN.out, ← Nat.zero_add n]; exact ho6)
    have hF6 := Fr.of_grown (S := []) hg6 (fun k hk => by have h2 : (none : Option Nat) = some k := hk; cases h2)
    have BA7 := HBA6.out.keep hF6 (by simp)
    have BZ7 := HBZ6.out.keep hF6 (by simp)
    have HF7 := Lib.hid (HF6.out.trans hF6)
    have B07 := HB06.out.keep hF6 (by simp)
    clear ho6 hg6 hat6 hF6 HF6 HBA6 HBZ6 HB06 x0 x1 x2 x3 x4 x5 x6 x7 y0 y1 y2 y3 y4 y5 y6 y7 z0 z1 z2 z3 z4 z5 z6 z7 t0 t1 t2 t3 t4 t5 t6 t7
    obtain ⟨A6, n6, c6, rfl⟩ := HO6.out.slice
    have HBA7 := Lib.hid BA7
    have HBZ7 := Lib.hid BZ7
    have HB07 := Lib.hid B07
    clear BA7 BZ7 B07
    obtain ⟨x0, x1, x2, x3, x4, x5, x6, x7, y0, y1, y2, y3, y4, y5, y6, y7⟩ := blk8 HBA7.out
    obtain ⟨q0, q1, q2, q3, q4, q5, q6, q7, p0, p1, p2, p3, p4, p5, p6, p7⟩ := blk8 HBZ7.out
    obtain ⟨z0, z1, z2, z3, z4, z5, z6, z7, t0, t1, t2, t3, t4, t5, t6, t7⟩ := blk8 HB07.out)
  refine ret_row (g := w.heap.size + 1) (cs := #[.string key, .int .i64 kind, .int .u64 (m + 1), .int .i64 s2, .int .i64 le, .int .i64 mo, .bool true, .slice A6 n6 c6]) (Blk.fill8 (HBZ7.out.far (b := w.heap.size + 1 + 1) (by omega) _ _) rfl _ _ _ _ _ _ _ _) rfl rfl rfl ?_
  rw [HQ.out, HAE.out]
  refine ⟨.slice A6 n6 c6, rfl, ?_, ?_⟩
  · exact Ow.base (b := w.heap.size + 1 + 1 + 1) (HO6.out.keep (S := [w.heap.size + 1, w.heap.size + 1 + 1]) (Fr.fill8 (g := w.heap.size + 1) ((Fr.refl _ w6).set (b := w.heap.size + 1 + 1) (.inl (by simp)) _ _) (.inl (by simp)) _ _ _ _ _ _ _ _) (fun x hx h => by have h1 := (HO6.out.lt x h).1; simp at hx; omega)) (by omega)
  · exact Fr.fill8 (g := w.heap.size + 1) (HF7.out.set (b := w.heap.size + 1 + 1) (.inr (by omega)) _ _) (.inr (by omega)) _ _ _ _ _ _ _ _

set_option maxRecDepth 100000 in
set_option maxHeartbeats 4000000 in
theorem come_lastG (key : ByteArray) (m s le mo : Int) (ov : Bool) (bs : List Int) (k base : Nat) (A : Option Addr) (c : Nat) (v : Int) (hv : I64 v) (hk : 1 ≤ k ∧ k ≤ 1000) (ho : Ok k ⟨2, m, s, le, mo, ov, bs⟩) (hlt : le ≤ v) (hgt : mo < v) (w : World) (hO : Ow w base (.slice A bs.length c) bs) :
    Calls Try.prog 40 #[RowV key ⟨2, m, s, le, mo, ov, bs⟩ (.slice A bs.length c), .int .i64 v] w (Ret key (addR ⟨2, m, s, le, mo, ov, bs⟩ v) w) := by
  have hm0 : m = (k : Int) := ho.many
  have HCF := Lib.hid (rcount_f m ⟨by omega, by omega⟩)
  have hlen : bs.length ≤ 64 := by have := ho.len; simpa using this
  have HBD := Lib.hid (show ∀ x ∈ bs, 0 ≤ x ∧ x ≤ 1000 from fun x hx => by have := ho.b x (by simpa using hx); omega)
  have hmp : decide ((0 : Int) < m) = true := by simp; omega
  have hcl : decide (v < le) = false := by simp; omega
  have hcg : decide (mo < v) = true := by simp; omega
  have hbl := bl_le v hv
  have HAE := Lib.hid (show addR ⟨2, m, s, le, mo, ov, bs⟩ v = ⟨2, (m + 1), v, le, v, ov, bs⟩ by
    unfold addR
    have e1 : (if v < le then v else le) = le := by split <;> omega
    have e2 : (if mo < v then v else mo) = v := by split <;> omega
    simp [e1, e2])
  have HV := Lib.hid hv
  have HEU := Lib.hid EU
  have HO := Lib.hid (show Ow w base (.slice A bs.length c) bs from hO)
  obtain ⟨n, hn⟩ : ∃ n, n = bs.length := ⟨_, rfl⟩
  have HN := Lib.hid hn
  rw [← hn] at HO hlen ⊢
  obtain ⟨Q, hQ⟩ : ∃ Q, Q = Ret key (addR ⟨2, m, s, le, mo, ov, bs⟩ v) w := ⟨_, rfl⟩
  have HQ := Lib.hid hQ
  rw [← hQ]
  clear hm0 ho hO hlt hgt hv hn hQ
  show Calls Try.prog _ #[.agg #[.string key, .int .i64 2, .int .u64 m, .int .i64 s, .int .i64 le, .int .i64 mo, .bool ov, .slice A n c], .int .i64 v] w _
  go_enter Try.func40, Try.ntmps40
  have F3 := (((Fr.refl [] w).alloc (.cells #[.string key, .int .i64 2, .int .u64 m, .int .i64 s, .int .i64 le, .int .i64 mo, .bool ov, .slice A n c] 49)).alloc (.cells #[.string ⟨#[]⟩, .int .i64 0, .int .u64 0, .int .i64 0, .int .i64 0, .int .i64 0, .bool false, .slice none 0 0] 49)).alloc (.cells #[.string key, .int .i64 2, .int .u64 1, .int .i64 v, .int .i64 v, .int .i64 v, .bool false, .slice none 0 0] 49)
  have B0 := ((Blk.new w #[.string key, .int .i64 2, .int .u64 m, .int .i64 s, .int .i64 le, .int .i64 mo, .bool ov, .slice A n c] 49).alloc (.cells #[.string ⟨#[]⟩, .int .i64 0, .int .u64 0, .int .i64 0, .int .i64 0, .int .i64 0, .bool false, .slice none 0 0] 49)).alloc (.cells #[.string key, .int .i64 2, .int .u64 1, .int .i64 v, .int .i64 v, .int .i64 v, .bool false, .slice none 0 0] 49)
  have BZ := (Blk.new (w.alloc (.cells #[.string key, .int .i64 2, .int .u64 m, .int .i64 s, .int .i64 le, .int .i64 mo, .bool ov, .slice A n c] 49)) #[.string ⟨#[]⟩, .int .i64 0, .int .u64 0, .int .i64 0, .int .i64 0, .int .i64 0, .bool false, .slice none 0 0] 49).alloc (.cells #[.string key, .int .i64 2, .int .u64 1, .int .i64 v, .int .i64 v, .int .i64 v, .bool false, .slice none 0 0] 49)
  have BA := Blk.new ((w.alloc (.cells #[.string key, .int .i64 2, .int .u64 m, .int .i64 s, .int .i64 le, .int .i64 mo, .bool ov, .slice A n c] 49)).alloc (.cells #[.string ⟨#[]⟩, .int .i64 0, .int .u64 0, .int .i64 0, .int .i64 0, .int .i64 0, .bool false, .slice none 0 0] 49)) #[.string key, .int .i64 2, .int .u64 1, .int .i64 v, .int .i64 v, .int .i64 v, .bool false, .slice none 0 0] 49
  simp only [size_alloc] at BZ BA
  have HF := Lib.hid F3
  have HB0 := Lib.hid B0
  have HBZ := Lib.hid BZ
  have HBA := Lib.hid BA
  clear F3 B0 BZ BA
  go_wp2_with fail
  refine (PTallyFolds.nogginref01_Count.calls m 1 (m + 1) false _ HCF.out).mono ?_
  rintro e w4 ⟨rfl, hd⟩
  have F := HF.out
  have BA := HBA.out
  have B0 := HB0.out
  have BZ := HBZ.out
  replace F := F.trans (Fr.of_drawn hd)
  replace BA := BA.keep (Fr.of_drawn hd) (by simp)
  replace B0 := B0.keep (Fr.of_drawn hd) (by simp)
  replace BZ := BZ.keep (Fr.of_drawn hd) (by simp)
  clear hd HF HB0 HBZ HBA
  have HF := Lib.hid F
  have HB0 := Lib.hid B0
  have HBZ := Lib.hid BZ
  have HBA := Lib.hid BA
  clear F BA B0 BZ
  obtain ⟨x0, x1, x2, x3, x4, x5, x6, x7, y0, y1, y2, y3, y4, y5, y6, y7⟩ := blk8 HBA.out
  obtain ⟨z0, z1, z2, z3, z4, z5, z6, z7, t0, t1, t2, t3, t4, t5, t6, t7⟩ := blk8 HB0.out
  have F := HF.out
  have BA := HBA.out
  have BZ := HBZ.out
  have B0 := HB0.out
  replace F := F.set (b := w.heap.size + 1 + 1) (.inr (by omega)) 2 (.int .u64 (m + 1))
  replace BA := BA.put (cs' := #[.string key, .int .i64 2, .int .u64 (m + 1), .int .i64 v, .int .i64 v, .int .i64 v, .bool false, .slice none 0 0]) 2 (.int .u64 (m + 1)) rfl
  replace BZ := BZ.far (b := w.heap.size + 1 + 1) (by omega) 2 (.int .u64 (m + 1))
  replace B0 := B0.far (b := w.heap.size + 1 + 1) (by omega) 2 (.int .u64 (m + 1))
  replace F := F.set (b := w.heap.size + 1 + 1) (.inr (by omega)) 4 (.int .i64 le)
  replace BA := BA.put (cs' := #[.string key, .int .i64 2, .int .u64 (m + 1), .int .i64 v, .int .i64 le, .int .i64 v, .bool false, .slice none 0 0]) 4 (.int .i64 le) rfl
  replace BZ := BZ.far (b := w.heap.size + 1 + 1) (by omega) 4 (.int .i64 le)
  replace B0 := B0.far (b := w.heap.size + 1 + 1) (by omega) 4 (.int .i64 le)
  replace F := F.set (b := w.heap.size + 1 + 1) (.inr (by omega)) 5 (.int .i64 mo)
  replace BA := BA.put (cs' := #[.string key, .int .i64 2, .int .u64 (m + 1), .int .i64 v, .int .i64 le, .int .i64 mo, .bool false, .slice none 0 0]) 5 (.int .i64 mo) rfl
  replace BZ := BZ.far (b := w.heap.size + 1 + 1) (by omega) 5 (.int .i64 mo)
  replace B0 := B0.far (b := w.heap.size + 1 + 1) (by omega) 5 (.int .i64 mo)
  replace F := F.set (b := w.heap.size + 1 + 1) (.inr (by omega)) 6 (.bool ov)
  replace BA := BA.put (cs' := #[.string key, .int .i64 2, .int .u64 (m + 1), .int .i64 v, .int .i64 le, .int .i64 mo, .bool ov, .slice none 0 0]) 6 (.bool ov) rfl
  replace BZ := BZ.far (b := w.heap.size + 1 + 1) (by omega) 6 (.bool ov)
  replace B0 := B0.far (b := w.heap.size + 1 + 1) (by omega) 6 (.bool ov)
  replace F := F.set (b := w.heap.size + 1 + 1) (.inr (by omega)) 5 (.int .i64 v)
  replace BA := BA.put (cs' := #[.string key, .int .i64 2, .int .u64 (m + 1), .int .i64 v, .int .i64 le, .int .i64 v, .bool ov, .slice none 0 0]) 5 (.int .i64 v) rfl
  replace BZ := BZ.far (b := w.heap.size + 1 + 1) (by omega) 5 (.int .i64 v)
  replace B0 := B0.far (b := w.heap.size + 1 + 1) (by omega) 5 (.int .i64 v)
  have HF6 := Lib.hid F
  have HBA6 := Lib.hid BA
  have HBZ6 := Lib.hid BZ
  have HB06 := Lib.hid B0
  have HSRC := Lib.hid ((HO.out.keep0 F).src)
  clear F BA BZ B0
  have hsz := HBA6.out.lt
  go_wp2_with (
    at_builtin
    refine wpList_app (by rfl) _ _ _ (by rfl) (w.heap.size + 1 + 1 + 1) 46 1 8 HEU.out (.slice none 0 0) 0 [] (by rfl) (Ow.nil _ _) (.slice A n c) n (bs.map (Value.int .u64)) (by rfl) (by have h := HSRC.out; rw [← HN.out] at h; exact h) (by omega) (by omega) (by omega) ?_
    intro v6 w6 ho6 hg6 hat6
    have HO6 := Lib.hid (show Ow w6 (w.heap.size + 1 + 1 + 1) v6 bs by unfold Ow; rw [← HN.out, ← Nat.zero_add n]; exact ho6)
    have hF6 := Fr.of_grown (S := []) hg6 (fun k hk => by have h2 : (none : Option Nat) = some k := hk; cases h2)
    have BA7 := HBA6.out.keep hF6 (by simp)
    have BZ7 := HBZ6.out.keep hF6 (by simp)
    have HF7 := Lib.hid (HF6.out.trans hF6)
    have B07 := HB06.out.keep hF6 (by simp)
    clear ho6 hg6 hat6 hF6 HF6 HBA6 HBZ6 HB06 x0 x1 x2 x3 x4 x5 x6 x7 y0 y1 y2 y3 y4 y5 y6 y7 z0 z1 z2 z3 z4 z5 z6 z7 t0 t1 t2 t3 t4 t5 t6 t7
    obtain ⟨A6, n6, c6, rfl⟩ := HO6.out.slice
    have HBA7 := Lib.hid BA7
    have HBZ7 := Lib.hid BZ7
    have HB07 := Lib.hid B07
    clear BA7 BZ7 B07
    obtain ⟨x0, x1, x2, x3, x4, x5, x6, x7, y0, y1, y2, y3, y4, y5, y6, y7⟩ := blk8 HBA7.out
    obtain ⟨q0, q1, q2, q3, q4, q5, q6, q7, p0, p1, p2, p3, p4, p5, p6, p7⟩ := blk8 HBZ7.out
    obtain ⟨z0, z1, z2, z3, z4, z5, z6, z7, t0, t1, t2, t3, t4, t5, t6, t7⟩ := blk8 HB07.out)
  refine ret_row (g := w.heap.size + 1) (cs := #[.string key, .int .i64 2, .int .u64 (m + 1), .int .i64 v, .int .i64 le, .int .i64 v, .bool ov, .slice A6 n6 c6]) (Blk.fill8 (HBZ7.out.far (b := w.heap.size + 1 + 1) (by omega) _ _) rfl _ _ _ _ _ _ _ _) rfl rfl rfl ?_
  rw [HQ.out, HAE.out]
  refine ⟨.slice A6 n6 c6, rfl, ?_, ?_⟩
  · exact Ow.base (b := w.heap.size + 1 + 1 + 1) (HO6.out.keep (S := [w.heap.size + 1, w.heap.size + 1 + 1]) (Fr.fill8 (g := w.heap.size + 1) ((Fr.refl _ w6).set (b := w.heap.size + 1 + 1) (.inl (by simp)) _ _) (.inl (by simp)) _ _ _ _ _ _ _ _) (fun x hx h => by have h1 := (HO6.out.lt x h).1; simp at hx; omega)) (by omega)
  · exact Fr.fill8 (g := w.heap.size + 1) (HF7.out.set (b := w.heap.size + 1 + 1) (.inr (by omega)) _ _) (.inr (by omega)) _ _ _ _ _ _ _ _

set_option maxRecDepth 100000 in
set_option maxHeartbeats 4000000 in
theorem come_otherfG (key : ByteArray) (kind : Int) (h2 : kind ≠ 2) (h3 : kind ≠ 3) (m s le mo : Int) (bs : List Int) (k base : Nat) (A : Option Addr) (c : Nat) (v : Int) (hv : I64 v) (hk : 1 ≤ k ∧ k ≤ 1000) (ho : Ok k ⟨kind, m, s, le, mo, false, bs⟩) (hlt : le ≤ v) (hgt : mo < v) (w : World) (hO : Ow w base (.slice A bs.length c) bs) :
    Calls Try.prog 40 #[RowV key ⟨kind, m, s, le, mo, false, bs⟩ (.slice A bs.length c), .int .i64 v] w (Ret key (addR ⟨kind, m, s, le, mo, false, bs⟩ v) w) := by
  have hm0 : m = (k : Int) := ho.many
  have HCF := Lib.hid (rcount_f m ⟨by omega, by omega⟩)
  have hlen : bs.length ≤ 64 := by have := ho.len; simpa using this
  have HBD := Lib.hid (show ∀ x ∈ bs, 0 ≤ x ∧ x ≤ 1000 from fun x hx => by have := ho.b x (by simpa using hx); omega)
  have hmp : decide ((0 : Int) < m) = true := by simp; omega
  have HAF := Lib.hid (radd_f s v ho.sum hv)
  obtain ⟨s2, hs2⟩ : ∃ s2, s2 = (sadd s v).1 := ⟨_, rfl⟩
  obtain ⟨o2, ho2⟩ : ∃ o2, o2 = (sadd s v).2 := ⟨_, rfl⟩
  rw [show sadd s v = (s2, o2) by rw [hs2, ho2]] at HAF
  have hcl : decide (v < le) = false := by simp; omega
  have hcg : decide (mo < v) = true := by simp; omega
  have k2 : (kind != 2) = true := by simpa using h2
  have k3 : (kind != 3) = true := by simpa using h3
  have hbl := bl_le v hv
  have HAE := Lib.hid (show addR ⟨kind, m, s, le, mo, false, bs⟩ v = ⟨kind, (m + 1), s2, le, v, o2, bs⟩ by
    unfold addR
    have e1 : (if v < le then v else le) = le := by split <;> omega
    have e2 : (if mo < v then v else mo) = v := by split <;> omega
    simp [e1, e2, hs2, ho2, h2, h3])
  have HV := Lib.hid hv
  have HEU := Lib.hid EU
  have HO := Lib.hid (show Ow w base (.slice A bs.length c) bs from hO)
  obtain ⟨n, hn⟩ : ∃ n, n = bs.length := ⟨_, rfl⟩
  have HN := Lib.hid hn
  rw [← hn] at HO hlen ⊢
  obtain ⟨Q, hQ⟩ : ∃ Q, Q = Ret key (addR ⟨kind, m, s, le, mo, false, bs⟩ v) w := ⟨_, rfl⟩
  have HQ := Lib.hid hQ
  rw [← hQ]
  clear hm0 ho hO hlt hgt hs2 ho2 h2 h3 hv hn hQ
  show Calls Try.prog _ #[.agg #[.string key, .int .i64 kind, .int .u64 m, .int .i64 s, .int .i64 le, .int .i64 mo, .bool false, .slice A n c], .int .i64 v] w _
  go_enter Try.func40, Try.ntmps40
  have F3 := (((Fr.refl [] w).alloc (.cells #[.string key, .int .i64 kind, .int .u64 m, .int .i64 s, .int .i64 le, .int .i64 mo, .bool false, .slice A n c] 49)).alloc (.cells #[.string ⟨#[]⟩, .int .i64 0, .int .u64 0, .int .i64 0, .int .i64 0, .int .i64 0, .bool false, .slice none 0 0] 49)).alloc (.cells #[.string key, .int .i64 kind, .int .u64 1, .int .i64 v, .int .i64 v, .int .i64 v, .bool false, .slice none 0 0] 49)
  have B0 := ((Blk.new w #[.string key, .int .i64 kind, .int .u64 m, .int .i64 s, .int .i64 le, .int .i64 mo, .bool false, .slice A n c] 49).alloc (.cells #[.string ⟨#[]⟩, .int .i64 0, .int .u64 0, .int .i64 0, .int .i64 0, .int .i64 0, .bool false, .slice none 0 0] 49)).alloc (.cells #[.string key, .int .i64 kind, .int .u64 1, .int .i64 v, .int .i64 v, .int .i64 v, .bool false, .slice none 0 0] 49)
  have BZ := (Blk.new (w.alloc (.cells #[.string key, .int .i64 kind, .int .u64 m, .int .i64 s, .int .i64 le, .int .i64 mo, .bool false, .slice A n c] 49)) #[.string ⟨#[]⟩, .int .i64 0, .int .u64 0, .int .i64 0, .int .i64 0, .int .i64 0, .bool false, .slice none 0 0] 49).alloc (.cells #[.string key, .int .i64 kind, .int .u64 1, .int .i64 v, .int .i64 v, .int .i64 v, .bool false, .slice none 0 0] 49)
  have BA := Blk.new ((w.alloc (.cells #[.string key, .int .i64 kind, .int .u64 m, .int .i64 s, .int .i64 le, .int .i64 mo, .bool false, .slice A n c] 49)).alloc (.cells #[.string ⟨#[]⟩, .int .i64 0, .int .u64 0, .int .i64 0, .int .i64 0, .int .i64 0, .bool false, .slice none 0 0] 49)) #[.string key, .int .i64 kind, .int .u64 1, .int .i64 v, .int .i64 v, .int .i64 v, .bool false, .slice none 0 0] 49
  simp only [size_alloc] at BZ BA
  have HF := Lib.hid F3
  have HB0 := Lib.hid B0
  have HBZ := Lib.hid BZ
  have HBA := Lib.hid BA
  clear F3 B0 BZ BA
  go_wp2_with fail
  refine (PTallyFolds.nogginref01_Count.calls m 1 (m + 1) false _ HCF.out).mono ?_
  rintro e w4 ⟨rfl, hd⟩
  have F := HF.out
  have BA := HBA.out
  have B0 := HB0.out
  have BZ := HBZ.out
  replace F := F.trans (Fr.of_drawn hd)
  replace BA := BA.keep (Fr.of_drawn hd) (by simp)
  replace B0 := B0.keep (Fr.of_drawn hd) (by simp)
  replace BZ := BZ.keep (Fr.of_drawn hd) (by simp)
  clear hd HF HB0 HBZ HBA
  have HF := Lib.hid F
  have HB0 := Lib.hid B0
  have HBZ := Lib.hid BZ
  have HBA := Lib.hid BA
  clear F BA B0 BZ
  obtain ⟨x0, x1, x2, x3, x4, x5, x6, x7, y0, y1, y2, y3, y4, y5, y6, y7⟩ := blk8 HBA.out
  obtain ⟨z0, z1, z2, z3, z4, z5, z6, z7, t0, t1, t2, t3, t4, t5, t6, t7⟩ := blk8 HB0.out
  go_wp2_with fail
  refine (PTallyFolds.nogginref01_Add.calls 3 s v s2 o2 _ HAF.out).mono ?_
  rintro e w5 ⟨rfl, hd⟩
  have F := HF.out
  have BA := HBA.out
  have B0 := HB0.out
  have BZ := HBZ.out
  replace F := F.set (b := w.heap.size + 1 + 1) (.inr (by omega)) 2 (.int .u64 (m + 1))
  replace BA := BA.put (cs' := #[.string key, .int .i64 kind, .int .u64 (m + 1), .int .i64 v, .int .i64 v, .int .i64 v, .bool false, .slice none 0 0]) 2 (.int .u64 (m + 1)) rfl
  replace B0 := B0.far (b := w.heap.size + 1 + 1) (by omega) 2 (.int .u64 (m + 1))
  replace BZ := BZ.far (b := w.heap.size + 1 + 1) (by omega) 2 (.int .u64 (m + 1))
  replace F := F.set (b := w.heap.size + 1 + 1) (.inr (by omega)) 4 (.int .i64 le)
  replace BA := BA.put (cs' := #[.string key, .int .i64 kind, .int .u64 (m + 1), .int .i64 v, .int .i64 le, .int .i64 v, .bool false, .slice none 0 0]) 4 (.int .i64 le) rfl
  replace B0 := B0.far (b := w.heap.size + 1 + 1) (by omega) 4 (.int .i64 le)
  replace BZ := BZ.far (b := w.heap.size + 1 + 1) (by omega) 4 (.int .i64 le)
  replace F := F.set (b := w.heap.size + 1 + 1) (.inr (by omega)) 5 (.int .i64 mo)
  replace BA := BA.put (cs' := #[.string key, .int .i64 kind, .int .u64 (m + 1), .int .i64 v, .int .i64 le, .int .i64 mo, .bool false, .slice none 0 0]) 5 (.int .i64 mo) rfl
  replace B0 := B0.far (b := w.heap.size + 1 + 1) (by omega) 5 (.int .i64 mo)
  replace BZ := BZ.far (b := w.heap.size + 1 + 1) (by omega) 5 (.int .i64 mo)
  replace F := F.set (b := w.heap.size + 1 + 1) (.inr (by omega)) 6 (.bool false)
  replace BA := BA.put (cs' := #[.string key, .int .i64 kind, .int .u64 (m + 1), .int .i64 v, .int .i64 le, .int .i64 mo, .bool false, .slice none 0 0]) 6 (.bool false) rfl
  replace B0 := B0.far (b := w.heap.size + 1 + 1) (by omega) 6 (.bool false)
  replace BZ := BZ.far (b := w.heap.size + 1 + 1) (by omega) 6 (.bool false)
  replace F := F.set (b := w.heap.size + 1 + 1) (.inr (by omega)) 5 (.int .i64 v)
  replace BA := BA.put (cs' := #[.string key, .int .i64 kind, .int .u64 (m + 1), .int .i64 v, .int .i64 le, .int .i64 v, .bool false, .slice none 0 0]) 5 (.int .i64 v) rfl
  replace B0 := B0.far (b := w.heap.size + 1 + 1) (by omega) 5 (.int .i64 v)
  replace BZ := BZ.far (b := w.heap.size + 1 + 1) (by omega) 5 (.int .i64 v)
  replace F := F.trans (Fr.of_drawn hd)
  replace BA := BA.keep (Fr.of_drawn hd) (by simp)
  replace B0 := B0.keep (Fr.of_drawn hd) (by simp)
  replace BZ := BZ.keep (Fr.of_drawn hd) (by simp)
  clear hd HF HB0 HBZ HBA x0 x1 x2 x3 x4 x5 x6 x7 y0 y1 y2 y3 y4 y5 y6 y7 z0 z1 z2 z3 z4 z5 z6 z7 t0 t1 t2 t3 t4 t5 t6 t7
  have HF := Lib.hid F
  have HB0 := Lib.hid B0
  have HBZ := Lib.hid BZ
  have HBA := Lib.hid BA
  clear F BA B0 BZ
  obtain ⟨x0, x1, x2, x3, x4, x5, x6, x7, y0, y1, y2, y3, y4, y5, y6, y7⟩ := blk8 HBA.out
  obtain ⟨z0, z1, z2, z3, z4, z5, z6, z7, t0, t1, t2, t3, t4, t5, t6, t7⟩ := blk8 HB0.out
  have F := HF.out
  have BA := HBA.out
  have BZ := HBZ.out
  have B0 := HB0.out
  replace F := F.set (b := w.heap.size + 1 + 1) (.inr (by omega)) 3 (.int .i64 s2)
  replace BA := BA.put (cs' := #[.string key, .int .i64 kind, .int .u64 (m + 1), .int .i64 s2, .int .i64 le, .int .i64 v, .bool false, .slice none 0 0]) 3 (.int .i64 s2) rfl
  replace BZ := BZ.far (b := w.heap.size + 1 + 1) (by omega) 3 (.int .i64 s2)
  replace B0 := B0.far (b := w.heap.size + 1 + 1) (by omega) 3 (.int .i64 s2)
  replace F := F.set (b := w.heap.size + 1 + 1) (.inr (by omega)) 6 (.bool o2)
  replace BA := BA.put (cs' := #[.string key, .int .i64 kind, .int .u64 (m + 1), .int .i64 s2, .int .i64 le, .int .i64 v, .bool o2, .slice none 0 0]) 6 (.bool o2) rfl
  replace BZ := BZ.far (b := w.heap.size + 1 + 1) (by omega) 6 (.bool o2)
  replace B0 := B0.far (b := w.heap.size + 1 + 1) (by omega) 6 (.bool o2)
  have HF6 := Lib.hid F
  have HBA6 := Lib.hid BA
  have HBZ6 := Lib.hid BZ
  have HB06 := Lib.hid B0
  have HSRC := Lib.hid ((HO.out.keep0 F).src)
  clear F BA BZ B0
  have hsz := HBA6.out.lt
  go_wp2_with (
    at_builtin
    refine wpList_app (by rfl) _ _ _ (by rfl) (w.heap.size + 1 + 1 + 1) 46 1 8 HEU.out (.slice none 0 0) 0 [] (by rfl) (Ow.nil _ _) (.slice A n c) n (bs.map (Value.int .u64)) (by rfl) (by have h := HSRC.out; rw [← HN.out] at h; exact h) (by omega) (by omega) (by omega) ?_
    intro v6 w6 ho6 hg6 hat6
    have HO6 := Lib.hid (show Ow w6 (w.heap.size + 1 + 1 + 1) v6 bs by unfold Ow; rw [← HN.out, ← Nat.zero_add n]; exact ho6)
    have hF6 := Fr.of_grown (S := []) hg6 (fun k hk => by have h2 : (none : Option Nat) = some k := hk; cases h2)
    have BA7 := HBA6.out.keep hF6 (by simp)
    have BZ7 := HBZ6.out.keep hF6 (by simp)
    have HF7 := Lib.hid (HF6.out.trans hF6)
    have B07 := HB06.out.keep hF6 (by simp)
    clear ho6 hg6 hat6 hF6 HF6 HBA6 HBZ6 HB06 x0 x1 x2 x3 x4 x5 x6 x7 y0 y1 y2 y3 y4 y5 y6 y7 z0 z1 z2 z3 z4 z5 z6 z7 t0 t1 t2 t3 t4 t5 t6 t7
    obtain ⟨A6, n6, c6, rfl⟩ := HO6.out.slice
    have HBA7 := Lib.hid BA7
    have HBZ7 := Lib.hid BZ7
    have HB07 := Lib.hid B07
    clear BA7 BZ7 B07
    obtain ⟨x0, x1, x2, x3, x4, x5, x6, x7, y0, y1, y2, y3, y4, y5, y6, y7⟩ := blk8 HBA7.out
    obtain ⟨q0, q1, q2, q3, q4, q5, q6, q7, p0, p1, p2, p3, p4, p5, p6, p7⟩ := blk8 HBZ7.out
    obtain ⟨z0, z1, z2, z3, z4, z5, z6, z7, t0, t1, t2, t3, t4, t5, t6, t7⟩ := blk8 HB07.out)
  refine ret_row (g := w.heap.size + 1) (cs := #[.string key, .int .i64 kind, .int .u64 (m + 1), .int .i64 s2, .int .i64 le, .int .i64 v, .bool o2, .slice A6 n6 c6]) (Blk.fill8 (HBZ7.out.far (b := w.heap.size + 1 + 1) (by omega) _ _) rfl _ _ _ _ _ _ _ _) rfl rfl rfl ?_
  rw [HQ.out, HAE.out]
  refine ⟨.slice A6 n6 c6, rfl, ?_, ?_⟩
  · exact Ow.base (b := w.heap.size + 1 + 1 + 1) (HO6.out.keep (S := [w.heap.size + 1, w.heap.size + 1 + 1]) (Fr.fill8 (g := w.heap.size + 1) ((Fr.refl _ w6).set (b := w.heap.size + 1 + 1) (.inl (by simp)) _ _) (.inl (by simp)) _ _ _ _ _ _ _ _) (fun x hx h => by have h1 := (HO6.out.lt x h).1; simp at hx; omega)) (by omega)
  · exact Fr.fill8 (g := w.heap.size + 1) (HF7.out.set (b := w.heap.size + 1 + 1) (.inr (by omega)) _ _) (.inr (by omega)) _ _ _ _ _ _ _ _

set_option maxRecDepth 100000 in
set_option maxHeartbeats 4000000 in
theorem come_othertG (key : ByteArray) (kind : Int) (h2 : kind ≠ 2) (h3 : kind ≠ 3) (m s le mo : Int) (bs : List Int) (k base : Nat) (A : Option Addr) (c : Nat) (v : Int) (hv : I64 v) (hk : 1 ≤ k ∧ k ≤ 1000) (ho : Ok k ⟨kind, m, s, le, mo, true, bs⟩) (hlt : le ≤ v) (hgt : mo < v) (w : World) (hO : Ow w base (.slice A bs.length c) bs) :
    Calls Try.prog 40 #[RowV key ⟨kind, m, s, le, mo, true, bs⟩ (.slice A bs.length c), .int .i64 v] w (Ret key (addR ⟨kind, m, s, le, mo, true, bs⟩ v) w) := by
  have hm0 : m = (k : Int) := ho.many
  have HCF := Lib.hid (rcount_f m ⟨by omega, by omega⟩)
  have hlen : bs.length ≤ 64 := by have := ho.len; simpa using this
  have HBD := Lib.hid (show ∀ x ∈ bs, 0 ≤ x ∧ x ≤ 1000 from fun x hx => by have := ho.b x (by simpa using hx); omega)
  have hmp : decide ((0 : Int) < m) = true := by simp; omega
  have HAF := Lib.hid (radd_f s v ho.sum hv)
  obtain ⟨s2, hs2⟩ : ∃ s2, s2 = (sadd s v).1 := ⟨_, rfl⟩
  obtain ⟨o2, ho2⟩ : ∃ o2, o2 = (sadd s v).2 := ⟨_, rfl⟩
  rw [show sadd s v = (s2, o2) by rw [hs2, ho2]] at HAF
  have hcl : decide (v < le) = false := by simp; omega
  have hcg : decide (mo < v) = true := by simp; omega
  have k2 : (kind != 2) = true := by simpa using h2
  have k3 : (kind != 3) = true := by simpa using h3
  have hbl := bl_le v hv
  have HAE := Lib.hid (show addR ⟨kind, m, s, le, mo, true, bs⟩ v = ⟨kind, (m + 1), s2, le, v, true, bs⟩ by
    unfold addR
    have e1 : (if v < le then v else le) = le := by split <;> omega
    have e2 : (if mo < v then v else mo) = v := by split <;> omega
    simp [e1, e2, hs2, ho2, h2, h3])
  have HV := Lib.hid hv
  have HEU := Lib.hid EU
  have HO := Lib.hid (show Ow w base (.slice A bs.length c) bs from hO)
  obtain ⟨n, hn⟩ : ∃ n, n = bs.length := ⟨_, rfl⟩
  have HN := Lib.hid hn
  rw [← hn] at HO hlen ⊢
  obtain ⟨Q, hQ⟩ : ∃ Q, Q = Ret key (addR ⟨kind, m, s, le, mo, true, bs⟩ v) w := ⟨_, rfl⟩
  have HQ := Lib.hid hQ
  rw [← hQ]
  clear hm0 ho hO hlt hgt hs2 ho2 h2 h3 hv hn hQ
  show Calls Try.prog _ #[.agg #[.string key, .int .i64 kind, .int .u64 m, .int .i64 s, .int .i64 le, .int .i64 mo, .bool true, .slice A n c], .int .i64 v] w _
  go_enter Try.func40, Try.ntmps40
  have F3 := (((Fr.refl [] w).alloc (.cells #[.string key, .int .i64 kind, .int .u64 m, .int .i64 s, .int .i64 le, .int .i64 mo, .bool true, .slice A n c] 49)).alloc (.cells #[.string ⟨#[]⟩, .int .i64 0, .int .u64 0, .int .i64 0, .int .i64 0, .int .i64 0, .bool false, .slice none 0 0] 49)).alloc (.cells #[.string key, .int .i64 kind, .int .u64 1, .int .i64 v, .int .i64 v, .int .i64 v, .bool false, .slice none 0 0] 49)
  have B0 := ((Blk.new w #[.string key, .int .i64 kind, .int .u64 m, .int .i64 s, .int .i64 le, .int .i64 mo, .bool true, .slice A n c] 49).alloc (.cells #[.string ⟨#[]⟩, .int .i64 0, .int .u64 0, .int .i64 0, .int .i64 0, .int .i64 0, .bool false, .slice none 0 0] 49)).alloc (.cells #[.string key, .int .i64 kind, .int .u64 1, .int .i64 v, .int .i64 v, .int .i64 v, .bool false, .slice none 0 0] 49)
  have BZ := (Blk.new (w.alloc (.cells #[.string key, .int .i64 kind, .int .u64 m, .int .i64 s, .int .i64 le, .int .i64 mo, .bool true, .slice A n c] 49)) #[.string ⟨#[]⟩, .int .i64 0, .int .u64 0, .int .i64 0, .int .i64 0, .int .i64 0, .bool false, .slice none 0 0] 49).alloc (.cells #[.string key, .int .i64 kind, .int .u64 1, .int .i64 v, .int .i64 v, .int .i64 v, .bool false, .slice none 0 0] 49)
  have BA := Blk.new ((w.alloc (.cells #[.string key, .int .i64 kind, .int .u64 m, .int .i64 s, .int .i64 le, .int .i64 mo, .bool true, .slice A n c] 49)).alloc (.cells #[.string ⟨#[]⟩, .int .i64 0, .int .u64 0, .int .i64 0, .int .i64 0, .int .i64 0, .bool false, .slice none 0 0] 49)) #[.string key, .int .i64 kind, .int .u64 1, .int .i64 v, .int .i64 v, .int .i64 v, .bool false, .slice none 0 0] 49
  simp only [size_alloc] at BZ BA
  have HF := Lib.hid F3
  have HB0 := Lib.hid B0
  have HBZ := Lib.hid BZ
  have HBA := Lib.hid BA
  clear F3 B0 BZ BA
  go_wp2_with fail
  refine (PTallyFolds.nogginref01_Count.calls m 1 (m + 1) false _ HCF.out).mono ?_
  rintro e w4 ⟨rfl, hd⟩
  have F := HF.out
  have BA := HBA.out
  have B0 := HB0.out
  have BZ := HBZ.out
  replace F := F.trans (Fr.of_drawn hd)
  replace BA := BA.keep (Fr.of_drawn hd) (by simp)
  replace B0 := B0.keep (Fr.of_drawn hd) (by simp)
  replace BZ := BZ.keep (Fr.of_drawn hd) (by simp)
  clear hd HF HB0 HBZ HBA
  have HF := Lib.hid F
  have HB0 := Lib.hid B0
  have HBZ := Lib.hid BZ
  have HBA := Lib.hid BA
  clear F BA B0 BZ
  obtain ⟨x0, x1, x2, x3, x4, x5, x6, x7, y0, y1, y2, y3, y4, y5, y6, y7⟩ := blk8 HBA.out
  obtain ⟨z0, z1, z2, z3, z4, z5, z6, z7, t0, t1, t2, t3, t4, t5, t6, t7⟩ := blk8 HB0.out
  go_wp2_with fail
  refine (PTallyFolds.nogginref01_Add.calls 3 s v s2 o2 _ HAF.out).mono ?_
  rintro e w5 ⟨rfl, hd⟩
  have F := HF.out
  have BA := HBA.out
  have B0 := HB0.out
  have BZ := HBZ.out
  replace F := F.set (b := w.heap.size + 1 + 1) (.inr (by omega)) 2 (.int .u64 (m + 1))
  replace BA := BA.put (cs' := #[.string key, .int .i64 kind, .int .u64 (m + 1), .int .i64 v, .int .i64 v, .int .i64 v, .bool false, .slice none 0 0]) 2 (.int .u64 (m + 1)) rfl
  replace B0 := B0.far (b := w.heap.size + 1 + 1) (by omega) 2 (.int .u64 (m + 1))
  replace BZ := BZ.far (b := w.heap.size + 1 + 1) (by omega) 2 (.int .u64 (m + 1))
  replace F := F.set (b := w.heap.size + 1 + 1) (.inr (by omega)) 4 (.int .i64 le)
  replace BA := BA.put (cs' := #[.string key, .int .i64 kind, .int .u64 (m + 1), .int .i64 v, .int .i64 le, .int .i64 v, .bool false, .slice none 0 0]) 4 (.int .i64 le) rfl
  replace B0 := B0.far (b := w.heap.size + 1 + 1) (by omega) 4 (.int .i64 le)
  replace BZ := BZ.far (b := w.heap.size + 1 + 1) (by omega) 4 (.int .i64 le)
  replace F := F.set (b := w.heap.size + 1 + 1) (.inr (by omega)) 5 (.int .i64 mo)
  replace BA := BA.put (cs' := #[.string key, .int .i64 kind, .int .u64 (m + 1), .int .i64 v, .int .i64 le, .int .i64 mo, .bool false, .slice none 0 0]) 5 (.int .i64 mo) rfl
  replace B0 := B0.far (b := w.heap.size + 1 + 1) (by omega) 5 (.int .i64 mo)
  replace BZ := BZ.far (b := w.heap.size + 1 + 1) (by omega) 5 (.int .i64 mo)
  replace F := F.set (b := w.heap.size + 1 + 1) (.inr (by omega)) 6 (.bool true)
  replace BA := BA.put (cs' := #[.string key, .int .i64 kind, .int .u64 (m + 1), .int .i64 v, .int .i64 le, .int .i64 mo, .bool true, .slice none 0 0]) 6 (.bool true) rfl
  replace B0 := B0.far (b := w.heap.size + 1 + 1) (by omega) 6 (.bool true)
  replace BZ := BZ.far (b := w.heap.size + 1 + 1) (by omega) 6 (.bool true)
  replace F := F.set (b := w.heap.size + 1 + 1) (.inr (by omega)) 5 (.int .i64 v)
  replace BA := BA.put (cs' := #[.string key, .int .i64 kind, .int .u64 (m + 1), .int .i64 v, .int .i64 le, .int .i64 v, .bool true, .slice none 0 0]) 5 (.int .i64 v) rfl
  replace B0 := B0.far (b := w.heap.size + 1 + 1) (by omega) 5 (.int .i64 v)
  replace BZ := BZ.far (b := w.heap.size + 1 + 1) (by omega) 5 (.int .i64 v)
  replace F := F.trans (Fr.of_drawn hd)
  replace BA := BA.keep (Fr.of_drawn hd) (by simp)
  replace B0 := B0.keep (Fr.of_drawn hd) (by simp)
  replace BZ := BZ.keep (Fr.of_drawn hd) (by simp)
  clear hd HF HB0 HBZ HBA x0 x1 x2 x3 x4 x5 x6 x7 y0 y1 y2 y3 y4 y5 y6 y7 z0 z1 z2 z3 z4 z5 z6 z7 t0 t1 t2 t3 t4 t5 t6 t7
  have HF := Lib.hid F
  have HB0 := Lib.hid B0
  have HBZ := Lib.hid BZ
  have HBA := Lib.hid BA
  clear F BA B0 BZ
  obtain ⟨x0, x1, x2, x3, x4, x5, x6, x7, y0, y1, y2, y3, y4, y5, y6, y7⟩ := blk8 HBA.out
  obtain ⟨z0, z1, z2, z3, z4, z5, z6, z7, t0, t1, t2, t3, t4, t5, t6, t7⟩ := blk8 HB0.out
  have F := HF.out
  have BA := HBA.out
  have BZ := HBZ.out
  have B0 := HB0.out
  replace F := F.set (b := w.heap.size + 1 + 1) (.inr (by omega)) 3 (.int .i64 s2)
  replace BA := BA.put (cs' := #[.string key, .int .i64 kind, .int .u64 (m + 1), .int .i64 s2, .int .i64 le, .int .i64 v, .bool true, .slice none 0 0]) 3 (.int .i64 s2) rfl
  replace BZ := BZ.far (b := w.heap.size + 1 + 1) (by omega) 3 (.int .i64 s2)
  replace B0 := B0.far (b := w.heap.size + 1 + 1) (by omega) 3 (.int .i64 s2)
  replace F := F.set (b := w.heap.size + 1 + 1) (.inr (by omega)) 6 (.bool true)
  replace BA := BA.put (cs' := #[.string key, .int .i64 kind, .int .u64 (m + 1), .int .i64 s2, .int .i64 le, .int .i64 v, .bool true, .slice none 0 0]) 6 (.bool true) rfl
  replace BZ := BZ.far (b := w.heap.size + 1 + 1) (by omega) 6 (.bool true)
  replace B0 := B0.far (b := w.heap.size + 1 + 1) (by omega) 6 (.bool true)
  have HF6 := Lib.hid F
  have HBA6 := Lib.hid BA
  have HBZ6 := Lib.hid BZ
  have HB06 := Lib.hid B0
  have HSRC := Lib.hid ((HO.out.keep0 F).src)
  clear F BA BZ B0
  have hsz := HBA6.out.lt
  go_wp2_with (
    at_builtin
    refine wpList_app (by rfl) _ _ _ (by rfl) (w.heap.size + 1 + 1 + 1) 46 1 8 HEU.out (.slice none 0 0) 0 [] (by rfl) (Ow.nil _ _) (.slice A n c) n (bs.map (Value.int .u64)) (by rfl) (by have h := HSRC.out; rw [← HN.out] at h; exact h) (by omega) (by omega) (by omega) ?_
    intro v6 w6 ho6 hg6 hat6
    have HO6 := Lib.hid (show Ow w6 (w.heap.size + 1 + 1 + 1) v6 bs by unfold Ow; rw [← HN.out, ← Nat.zero_add n]; exact ho6)
    have hF6 := Fr.of_grown (S := []) hg6 (fun k hk => by have h2 : (none : Option Nat) = some k := hk; cases h2)
    have BA7 := HBA6.out.keep hF6 (by simp)
    have BZ7 := HBZ6.out.keep hF6 (by simp)
    have HF7 := Lib.hid (HF6.out.trans hF6)
    have B07 := HB06.out.keep hF6 (by simp)
    clear ho6 hg6 hat6 hF6 HF6 HBA6 HBZ6 HB06 x0 x1 x2 x3 x4 x5 x6 x7 y0 y1 y2 y3 y4 y5 y6 y7 z0 z1 z2 z3 z4 z5 z6 z7 t0 t1 t2 t3 t4 t5 t6 t7
    obtain ⟨A6, n6, c6, rfl⟩ := HO6.out.slice
    have HBA7 := Lib.hid BA7
    have HBZ7 := Lib.hid BZ7
    have HB07 := Lib.hid B07
    clear BA7 BZ7 B07
    obtain ⟨x0, x1, x2, x3, x4, x5, x6, x7, y0, y1, y2, y3, y4, y5, y6, y7⟩ := blk8 HBA7.out
    obtain ⟨q0, q1, q2, q3, q4, q5, q6, q7, p0, p1, p2, p3, p4, p5, p6, p7⟩ := blk8 HBZ7.out
    obtain ⟨z0, z1, z2, z3, z4, z5, z6, z7, t0, t1, t2, t3, t4, t5, t6, t7⟩ := blk8 HB07.out)
  refine ret_row (g := w.heap.size + 1) (cs := #[.string key, .int .i64 kind, .int .u64 (m + 1), .int .i64 s2, .int .i64 le, .int .i64 v, .bool true, .slice A6 n6 c6]) (Blk.fill8 (HBZ7.out.far (b := w.heap.size + 1 + 1) (by omega) _ _) rfl _ _ _ _ _ _ _ _) rfl rfl rfl ?_
  rw [HQ.out, HAE.out]
  refine ⟨.slice A6 n6 c6, rfl, ?_, ?_⟩
  · exact Ow.base (b := w.heap.size + 1 + 1 + 1) (HO6.out.keep (S := [w.heap.size + 1, w.heap.size + 1 + 1]) (Fr.fill8 (g := w.heap.size + 1) ((Fr.refl _ w6).set (b := w.heap.size + 1 + 1) (.inl (by simp)) _ _) (.inl (by simp)) _ _ _ _ _ _ _ _) (fun x hx h => by have h1 := (HO6.out.lt x h).1; simp at hx; omega)) (by omega)
  · exact Fr.fill8 (g := w.heap.size + 1) (HF7.out.set (b := w.heap.size + 1 + 1) (.inr (by omega)) _ _) (.inr (by omega)) _ _ _ _ _ _ _ _

set_option maxRecDepth 100000 in
set_option maxHeartbeats 4000000 in
theorem come_lastL (key : ByteArray) (m s le mo : Int) (ov : Bool) (bs : List Int) (k base : Nat) (A : Option Addr) (c : Nat) (v : Int) (hv : I64 v) (hk : 1 ≤ k ∧ k ≤ 1000) (ho : Ok k ⟨2, m, s, le, mo, ov, bs⟩) (hlt : v < le) (hgt : v ≤ mo) (w : World) (hO : Ow w base (.slice A bs.length c) bs) :
    Calls Try.prog 40 #[RowV key ⟨2, m, s, le, mo, ov, bs⟩ (.slice A bs.length c), .int .i64 v] w (Ret key (addR ⟨2, m, s, le, mo, ov, bs⟩ v) w) := by
  have hm0 : m = (k : Int) := ho.many
  have HCF := Lib.hid (rcount_f m ⟨by omega, by omega⟩)
  have hlen : bs.length ≤ 64 := by have := ho.len; simpa using this
  have HBD := Lib.hid (show ∀ x ∈ bs, 0 ≤ x ∧ x ≤ 1000 from fun x hx => by have := ho.b x (by simpa using hx); omega)
  have hmp : decide ((0 : Int) < m) = true := by simp; omega
  have hcl : decide (v < le) = true := by simp; omega
  have hcg : decide (mo < v) = false := by simp; omega
  have hbl := bl_le v hv
  have HAE := Lib.hid (show addR ⟨2, m, s, le, mo, ov, bs⟩ v = ⟨2, (m + 1), v, v, mo, ov, bs⟩ by
    unfold addR
    have e1 : (if v < le then v else le) = v := by split <;> omega
    have e2 : (if mo < v then v else mo) = mo := by split <;> omega
    simp [e1, e2])
  have HV := Lib.hid hv
  have HEU := Lib.hid EU
  have HO := Lib.hid (show Ow w base (.slice A bs.length c) bs from hO)
  obtain ⟨n, hn⟩ : ∃ n, n = bs.length := ⟨_, rfl⟩
  have HN := Lib.hid hn
  rw [← hn] at HO hlen ⊢
  obtain ⟨Q, hQ⟩ : ∃ Q, Q = Ret key (addR ⟨2, m, s, le, mo, ov, bs⟩ v) w := ⟨_, rfl⟩
  have HQ := Lib.hid hQ
  rw [← hQ]
  clear hm0 ho hO hlt hgt hv hn hQ
  show Calls Try.prog _ #[.agg #[.string key, .int .i64 2, .int .u64 m, .int .i64 s, .int .i64 le, .int .i64 mo, .bool ov, .slice A n c], .int .i64 v] w _
  go_enter Try.func40, Try.ntmps40
  have F3 := (((Fr.refl [] w).alloc (.cells #[.string key, .int .i64 2, .int .u64 m, .int .i64 s, .int .i64 le, .int .i64 mo, .bool ov, .slice A n c] 49)).alloc (.cells #[.string ⟨#[]⟩, .int .i64 0, .int .u64 0, .int .i64 0, .int .i64 0, .int .i64 0, .bool false, .slice none 0 0] 49)).alloc (.cells #[.string key, .int .i64 2, .int .u64 1, .int .i64 v, .int .i64 v, .int .i64 v, .bool false, .slice none 0 0] 49)
  have B0 := ((Blk.new w #[.string key, .int .i64 2, .int .u64 m, .int .i64 s, .int .i64 le, .int .i64 mo, .bool ov, .slice A n c] 49).alloc (.cells #[.string ⟨#[]⟩, .int .i64 0, .int .u64 0, .int .i64 0, .int .i64 0, .int .i64 0, .bool false, .slice none 0 0] 49)).alloc (.cells #[.string key, .int .i64 2, .int .u64 1, .int .i64 v, .int .i64 v, .int .i64 v, .bool false, .slice none 0 0] 49)
  have BZ := (Blk.new (w.alloc (.cells #[.string key, .int .i64 2, .int .u64 m, .int .i64 s, .int .i64 le, .int .i64 mo, .bool ov, .slice A n c] 49)) #[.string ⟨#[]⟩, .int .i64 0, .int .u64 0, .int .i64 0, .int .i64 0, .int .i64 0, .bool false, .slice none 0 0] 49).alloc (.cells #[.string key, .int .i64 2, .int .u64 1, .int .i64 v, .int .i64 v, .int .i64 v, .bool false, .slice none 0 0] 49)
  have BA := Blk.new ((w.alloc (.cells #[.string key, .int .i64 2, .int .u64 m, .int .i64 s, .int .i64 le, .int .i64 mo, .bool ov, .slice A n c] 49)).alloc (.cells #[.string ⟨#[]⟩, .int .i64 0, .int .u64 0, .int .i64 0, .int .i64 0, .int .i64 0, .bool false, .slice none 0 0] 49)) #[.string key, .int .i64 2, .int .u64 1, .int .i64 v, .int .i64 v, .int .i64 v, .bool false, .slice none 0 0] 49
  simp only [size_alloc] at BZ BA
  have HF := Lib.hid F3
  have HB0 := Lib.hid B0
  have HBZ := Lib.hid BZ
  have HBA := Lib.hid BA
  clear F3 B0 BZ BA
  go_wp2_with fail
  refine (PTallyFolds.nogginref01_Count.calls m 1 (m + 1) false _ HCF.out).mono ?_
  rintro e w4 ⟨rfl, hd⟩
  have F := HF.out
  have BA := HBA.out
  have B0 := HB0.out
  have BZ := HBZ.out
  replace F := F.trans (Fr.of_drawn hd)
  replace BA := BA.keep (Fr.of_drawn hd) (by simp)
  replace B0 := B0.keep (Fr.of_drawn hd) (by simp)
  replace BZ := BZ.keep (Fr.of_drawn hd) (by simp)
  clear hd HF HB0 HBZ HBA
  have HF := Lib.hid F
  have HB0 := Lib.hid B0
  have HBZ := Lib.hid BZ
  have HBA := Lib.hid BA
  clear F BA B0 BZ
  obtain ⟨x0, x1, x2, x3, x4, x5, x6, x7, y0, y1, y2, y3, y4, y5, y6, y7⟩ := blk8 HBA.out
  obtain ⟨z0, z1, z2, z3, z4, z5, z6, z7, t0, t1, t2, t3, t4, t5, t6, t7⟩ := blk8 HB0.out
  have F := HF.out
  have BA := HBA.out
  have BZ := HBZ.out
  have B0 := HB0.out
  replace F := F.set (b := w.heap.size + 1 + 1) (.inr (by omega)) 2 (.int .u64 (m + 1))
  replace BA := BA.put (cs' := #[.string key, .int .i64 2, .int .u64 (m + 1), .int .i64 v, .int .i64 v, .int .i64 v, .bool false, .slice none 0 0]) 2 (.int .u64 (m + 1)) rfl
  replace BZ := BZ.far (b := w.heap.size + 1 + 1) (by omega) 2 (.int .u64 (m + 1))
  replace B0 := B0.far (b := w.heap.size + 1 + 1) (by omega) 2 (.int .u64 (m + 1))
  replace F := F.set (b := w.heap.size + 1 + 1) (.inr (by omega)) 4 (.int .i64 le)
  replace BA := BA.put (cs' := #[.string key, .int .i64 2, .int .u64 (m + 1), .int .i64 v, .int .i64 le, .int .i64 v, .bool false, .slice none 0 0]) 4 (.int .i64 le) rfl
  replace BZ := BZ.far (b := w.heap.size + 1 + 1) (by omega) 4 (.int .i64 le)
  replace B0 := B0.far (b := w.heap.size + 1 + 1) (by omega) 4 (.int .i64 le)
  replace F := F.set (b := w.heap.size + 1 + 1) (.inr (by omega)) 5 (.int .i64 mo)
  replace BA := BA.put (cs' := #[.string key, .int .i64 2, .int .u64 (m + 1), .int .i64 v, .int .i64 le, .int .i64 mo, .bool false, .slice none 0 0]) 5 (.int .i64 mo) rfl
  replace BZ := BZ.far (b := w.heap.size + 1 + 1) (by omega) 5 (.int .i64 mo)
  replace B0 := B0.far (b := w.heap.size + 1 + 1) (by omega) 5 (.int .i64 mo)
  replace F := F.set (b := w.heap.size + 1 + 1) (.inr (by omega)) 6 (.bool ov)
  replace BA := BA.put (cs' := #[.string key, .int .i64 2, .int .u64 (m + 1), .int .i64 v, .int .i64 le, .int .i64 mo, .bool ov, .slice none 0 0]) 6 (.bool ov) rfl
  replace BZ := BZ.far (b := w.heap.size + 1 + 1) (by omega) 6 (.bool ov)
  replace B0 := B0.far (b := w.heap.size + 1 + 1) (by omega) 6 (.bool ov)
  replace F := F.set (b := w.heap.size + 1 + 1) (.inr (by omega)) 4 (.int .i64 v)
  replace BA := BA.put (cs' := #[.string key, .int .i64 2, .int .u64 (m + 1), .int .i64 v, .int .i64 v, .int .i64 mo, .bool ov, .slice none 0 0]) 4 (.int .i64 v) rfl
  replace BZ := BZ.far (b := w.heap.size + 1 + 1) (by omega) 4 (.int .i64 v)
  replace B0 := B0.far (b := w.heap.size + 1 + 1) (by omega) 4 (.int .i64 v)
  have HF6 := Lib.hid F
  have HBA6 := Lib.hid BA
  have HBZ6 := Lib.hid BZ
  have HB06 := Lib.hid B0
  have HSRC := Lib.hid ((HO.out.keep0 F).src)
  clear F BA BZ B0
  have hsz := HBA6.out.lt
  go_wp2_with (
    at_builtin
    refine wpList_app (by rfl) _ _ _ (by rfl) (w.heap.size + 1 + 1 + 1) 46 1 8 HEU.out (.slice none 0 0) 0 [] (by rfl) (Ow.nil _ _) (.slice A n c) n (bs.map (Value.int .u64)) (by rfl) (by have h := HSRC.out; rw [← HN.out] at h; exact h) (by omega) (by omega) (by omega) ?_
    intro v6 w6 ho6 hg6 hat6
    have HO6 := Lib.hid (show Ow w6 (w.heap.size + 1 + 1 + 1) v6 bs by unfold Ow; rw [← HN.out, ← Nat.zero_add n]; exact ho6)
    have hF6 := Fr.of_grown (S := []) hg6 (fun k hk => by have h2 : (none : Option Nat) = some k := hk; cases h2)
    have BA7 := HBA6.out.keep hF6 (by simp)
    have BZ7 := HBZ6.out.keep hF6 (by simp)
    have HF7 := Lib.hid (HF6.out.trans hF6)
    have B07 := HB06.out.keep hF6 (by simp)
    clear ho6 hg6 hat6 hF6 HF6 HBA6 HBZ6 HB06 x0 x1 x2 x3 x4 x5 x6 x7 y0 y1 y2 y3 y4 y5 y6 y7 z0 z1 z2 z3 z4 z5 z6 z7 t0 t1 t2 t3 t4 t5 t6 t7
    obtain ⟨A6, n6, c6, rfl⟩ := HO6.out.slice
    have HBA7 := Lib.hid BA7
    have HBZ7 := Lib.hid BZ7
    have HB07 := Lib.hid B07
    clear BA7 BZ7 B07
    obtain ⟨x0, x1, x2, x3, x4, x5, x6, x7, y0, y1, y2, y3, y4, y5, y6, y7⟩ := blk8 HBA7.out
    obtain ⟨q0, q1, q2, q3, q4, q5, q6, q7, p0, p1, p2, p3, p4, p5, p6, p7⟩ := blk8 HBZ7.out
    obtain ⟨z0, z1, z2, z3, z4, z5, z6, z7, t0, t1, t2, t3, t4, t5, t6, t7⟩ := blk8 HB07.out)
  refine ret_row (g := w.heap.size + 1) (cs := #[.string key, .int .i64 2, .int .u64 (m + 1), .int .i64 v, .int .i64 v, .int .i64 mo, .bool ov, .slice A6 n6 c6]) (Blk.fill8 (HBZ7.out.far (b := w.heap.size + 1 + 1) (by omega) _ _) rfl _ _ _ _ _ _ _ _) rfl rfl rfl ?_
  rw [HQ.out, HAE.out]
  refine ⟨.slice A6 n6 c6, rfl, ?_, ?_⟩
  · exact Ow.base (b := w.heap.size + 1 + 1 + 1) (HO6.out.keep (S := [w.heap.size + 1, w.heap.size + 1 + 1]) (Fr.fill8 (g := w.heap.size + 1) ((Fr.refl _ w6).set (b := w.heap.size + 1 + 1) (.inl (by simp)) _ _) (.inl (by simp)) _ _ _ _ _ _ _ _) (fun x hx h => by have h1 := (HO6.out.lt x h).1; simp at hx; omega)) (by omega)
  · exact Fr.fill8 (g := w.heap.size + 1) (HF7.out.set (b := w.heap.size + 1 + 1) (.inr (by omega)) _ _) (.inr (by omega)) _ _ _ _ _ _ _ _

set_option maxRecDepth 100000 in
set_option maxHeartbeats 4000000 in
theorem come_otherfL (key : ByteArray) (kind : Int) (h2 : kind ≠ 2) (h3 : kind ≠ 3) (m s le mo : Int) (bs : List Int) (k base : Nat) (A : Option Addr) (c : Nat) (v : Int) (hv : I64 v) (hk : 1 ≤ k ∧ k ≤ 1000) (ho : Ok k ⟨kind, m, s, le, mo, false, bs⟩) (hlt : v < le) (hgt : v ≤ mo) (w : World) (hO : Ow w base (.slice A bs.length c) bs) :
    Calls Try.prog 40 #[RowV key ⟨kind, m, s, le, mo, false, bs⟩ (.slice A bs.length c), .int .i64 v] w (Ret key (addR ⟨kind, m, s, le, mo, false, bs⟩ v) w) := by
  have hm0 : m = (k : Int) := ho.many
  have HCF := Lib.hid (rcount_f m ⟨by omega, by omega⟩)
  have hlen : bs.length ≤ 64 := by have := ho.len; simpa using this
  have HBD := Lib.hid (show ∀ x ∈ bs, 0 ≤ x ∧ x ≤ 1000 from fun x hx => by have := ho.b x (by simpa using hx); omega)
  have hmp : decide ((0 : Int) < m) = true := by simp; omega
  have HAF := Lib.hid (radd_f s v ho.sum hv)
  obtain ⟨s2, hs2⟩ : ∃ s2, s2 = (sadd s v).1 := ⟨_, rfl⟩
  obtain ⟨o2, ho2⟩ : ∃ o2, o2 = (sadd s v).2 := ⟨_, rfl⟩
  rw [show sadd s v = (s2, o2) by rw [hs2, ho2]] at HAF
  have hcl : decide (v < le) = true := by simp; omega
  have hcg : decide (mo < v) = false := by simp; omega
  have k2 : (kind != 2) = true := by simpa using h2
  have k3 : (kind != 3) = true := by simpa using h3
  have hbl := bl_le v hv
  have HAE := Lib.hid (show addR ⟨kind, m, s, le, mo, false, bs⟩ v = ⟨kind, (m + 1), s2, v, mo, o2, bs⟩ by
    unfold addR
    have e1 : (if v < le then v else le) = v := by split <;> omega
    have e2 : (if mo < v then v else mo) = mo := by split <;> omega
    simp [e1, e2, hs2, ho2, h2, h3])
  have HV := Lib.hid hv
  have HEU := Lib.hid EU
  have HO := Lib.hid (show Ow w base (.slice A bs.length c) bs from hO)
  obtain ⟨n, hn⟩ : ∃ n, n = bs.length := ⟨_, rfl⟩
  have HN := Lib.hid hn
  rw [← hn] at HO hlen ⊢
  obtain ⟨Q, hQ⟩ : ∃ Q, Q = Ret key (addR ⟨kind, m, s, le, mo, false, bs⟩ v) w := ⟨_, rfl⟩
  have HQ := Lib.hid hQ
  rw [← hQ]
  clear hm0 ho hO hlt hgt hs2 ho2 h2 h3 hv hn hQ
  show Calls Try.prog _ #[.agg #[.string key, .int .i64 kind, .int .u64 m, .int .i64 s, .int .i64 le, .int .i64 mo, .bool false, .slice A n c], .int .i64 v] w _
  go_enter Try.func40, Try.ntmps40
  have F3 := (((Fr.refl [] w).alloc (.cells #[.string key, .int .i64 kind, .int .u64 m, .int .i64 s, .int .i64 le, .int .i64 mo, .bool false, .slice A n c] 49)).alloc (.cells #[.string ⟨#[]⟩, .int .i64 0, .int .u64 0, .int .i64 0, .int .i64 0, .int .i64 0, .bool false, .slice none 0 0] 49)).alloc (.cells #[.string key, .int .i64 kind, .int .u64 1, .int .i64 v, .int .i64 v, .int .i64 v, .bool false, .slice none 0 0] 49)
  have B0 := ((Blk.new w #[.string key, .int .i64 kind, .int .u64 m, .int .i64 s, .int .i64 le, .int .i64 mo, .bool false, .slice A n c] 49).alloc (.cells #[.string ⟨#[]⟩, .int .i64 0, .int .u64 0, .int .i64 0, .int .i64 0, .int .i64 0, .bool false, .slice none 0 0] 49)).alloc (.cells #[.string key, .int .i64 kind, .int .u64 1, .int .i64 v, .int .i64 v, .int .i64 v, .bool false, .slice none 0 0] 49)
  have BZ := (Blk.new (w.alloc (.cells #[.string key, .int .i64 kind, .int .u64 m, .int .i64 s, .int .i64 le, .int .i64 mo, .bool false, .slice A n c] 49)) #[.string ⟨#[]⟩, .int .i64 0, .int .u64 0, .int .i64 0, .int .i64 0, .int .i64 0, .bool false, .slice none 0 0] 49).alloc (.cells #[.string key, .int .i64 kind, .int .u64 1, .int .i64 v, .int .i64 v, .int .i64 v, .bool false, .slice none 0 0] 49)
  have BA := Blk.new ((w.alloc (.cells #[.string key, .int .i64 kind, .int .u64 m, .int .i64 s, .int .i64 le, .int .i64 mo, .bool false, .slice A n c] 49)).alloc (.cells #[.string ⟨#[]⟩, .int .i64 0, .int .u64 0, .int .i64 0, .int .i64 0, .int .i64 0, .bool false, .slice none 0 0] 49)) #[.string key, .int .i64 kind, .int .u64 1, .int .i64 v, .int .i64 v, .int .i64 v, .bool false, .slice none 0 0] 49
  simp only [size_alloc] at BZ BA
  have HF := Lib.hid F3
  have HB0 := Lib.hid B0
  have HBZ := Lib.hid BZ
  have HBA := Lib.hid BA
  clear F3 B0 BZ BA
  go_wp2_with fail
  refine (PTallyFolds.nogginref01_Count.calls m 1 (m + 1) false _ HCF.out).mono ?_
  rintro e w4 ⟨rfl, hd⟩
  have F := HF.out
  have BA := HBA.out
  have B0 := HB0.out
  have BZ := HBZ.out
  replace F := F.trans (Fr.of_drawn hd)
  replace BA := BA.keep (Fr.of_drawn hd) (by simp)
  replace B0 := B0.keep (Fr.of_drawn hd) (by simp)
  replace BZ := BZ.keep (Fr.of_drawn hd) (by simp)
  clear hd HF HB0 HBZ HBA
  have HF := Lib.hid F
  have HB0 := Lib.hid B0
  have HBZ := Lib.hid BZ
  have HBA := Lib.hid BA
  clear F BA B0 BZ
  obtain ⟨x0, x1, x2, x3, x4, x5, x6, x7, y0, y1, y2, y3, y4, y5, y6, y7⟩ := blk8 HBA.out
  obtain ⟨z0, z1, z2, z3, z4, z5, z6, z7, t0, t1, t2, t3, t4, t5, t6, t7⟩ := blk8 HB0.out
  go_wp2_with fail
  refine (PTallyFolds.nogginref01_Add.calls 3 s v s2 o2 _ HAF.out).mono ?_
  rintro e w5 ⟨rfl, hd⟩
  have F := HF.out
  have BA := HBA.out
  have B0 := HB0.out
  have BZ := HBZ.out
  replace F := F.set (b := w.heap.size + 1 + 1) (.inr (by omega)) 2 (.int .u64 (m + 1))
  replace BA := BA.put (cs' := #[.string key, .int .i64 kind, .int .u64 (m + 1), .int .i64 v, .int .i64 v, .int .i64 v, .bool false, .slice none 0 0]) 2 (.int .u64 (m + 1)) rfl
  replace B0 := B0.far (b := w.heap.size + 1 + 1) (by omega) 2 (.int .u64 (m + 1))
  replace BZ := BZ.far (b := w.heap.size + 1 + 1) (by omega) 2 (.int .u64 (m + 1))
  replace F := F.set (b := w.heap.size + 1 + 1) (.inr (by omega)) 4 (.int .i64 le)
  replace BA := BA.put (cs' := #[.string key, .int .i64 kind, .int .u64 (m + 1), .int .i64 v, .int .i64 le, .int .i64 v, .bool false, .slice none 0 0]) 4 (.int .i64 le) rfl
  replace B0 := B0.far (b := w.heap.size + 1 + 1) (by omega) 4 (.int .i64 le)
  replace BZ := BZ.far (b := w.heap.size + 1 + 1) (by omega) 4 (.int .i64 le)
  replace F := F.set (b := w.heap.size + 1 + 1) (.inr (by omega)) 5 (.int .i64 mo)
  replace BA := BA.put (cs' := #[.string key, .int .i64 kind, .int .u64 (m + 1), .int .i64 v, .int .i64 le, .int .i64 mo, .bool false, .slice none 0 0]) 5 (.int .i64 mo) rfl
  replace B0 := B0.far (b := w.heap.size + 1 + 1) (by omega) 5 (.int .i64 mo)
  replace BZ := BZ.far (b := w.heap.size + 1 + 1) (by omega) 5 (.int .i64 mo)
  replace F := F.set (b := w.heap.size + 1 + 1) (.inr (by omega)) 6 (.bool false)
  replace BA := BA.put (cs' := #[.string key, .int .i64 kind, .int .u64 (m + 1), .int .i64 v, .int .i64 le, .int .i64 mo, .bool false, .slice none 0 0]) 6 (.bool false) rfl
  replace B0 := B0.far (b := w.heap.size + 1 + 1) (by omega) 6 (.bool false)
  replace BZ := BZ.far (b := w.heap.size + 1 + 1) (by omega) 6 (.bool false)
  replace F := F.set (b := w.heap.size + 1 + 1) (.inr (by omega)) 4 (.int .i64 v)
  replace BA := BA.put (cs' := #[.string key, .int .i64 kind, .int .u64 (m + 1), .int .i64 v, .int .i64 v, .int .i64 mo, .bool false, .slice none 0 0]) 4 (.int .i64 v) rfl
  replace B0 := B0.far (b := w.heap.size + 1 + 1) (by omega) 4 (.int .i64 v)
  replace BZ := BZ.far (b := w.heap.size + 1 + 1) (by omega) 4 (.int .i64 v)
  replace F := F.trans (Fr.of_drawn hd)
  replace BA := BA.keep (Fr.of_drawn hd) (by simp)
  replace B0 := B0.keep (Fr.of_drawn hd) (by simp)
  replace BZ := BZ.keep (Fr.of_drawn hd) (by simp)
  clear hd HF HB0 HBZ HBA x0 x1 x2 x3 x4 x5 x6 x7 y0 y1 y2 y3 y4 y5 y6 y7 z0 z1 z2 z3 z4 z5 z6 z7 t0 t1 t2 t3 t4 t5 t6 t7
  have HF := Lib.hid F
  have HB0 := Lib.hid B0
  have HBZ := Lib.hid BZ
  have HBA := Lib.hid BA
  clear F BA B0 BZ
  obtain ⟨x0, x1, x2, x3, x4, x5, x6, x7, y0, y1, y2, y3, y4, y5, y6, y7⟩ := blk8 HBA.out
  obtain ⟨z0, z1, z2, z3, z4, z5, z6, z7, t0, t1, t2, t3, t4, t5, t6, t7⟩ := blk8 HB0.out
  have F := HF.out
  have BA := HBA.out
  have BZ := HBZ.out
  have B0 := HB0.out
  replace F := F.set (b := w.heap.size + 1 + 1) (.inr (by omega)) 3 (.int .i64 s2)
  replace BA := BA.put (cs' := #[.string key, .int .i64 kind, .int .u64 (m + 1), .int .i64 s2, .int .i64 v, .int .i64 mo, .bool false, .slice none 0 0]) 3 (.int .i64 s2) rfl
  replace BZ := BZ.far (b := w.heap.size + 1 + 1) (by omega) 3 (.int .i64 s2)
  replace B0 := B0.far (b := w.heap.size + 1 + 1) (by omega) 3 (.int .i64 s2)
  replace F := F.set (b := w.heap.size + 1 + 1) (.inr (by omega)) 6 (.bool o2)
  replace BA := BA.put (cs' := #[.string key, .int .i64 kind, .int .u64 (m + 1), .int .i64 s2, .int .i64 v, .int .i64 mo, .bool o2, .slice none 0 0]) 6 (.bool o2) rfl
  replace BZ := BZ.far (b := w.heap.size + 1 + 1) (by omega) 6 (.bool o2)
  replace B0 := B0.far (b := w.heap.size + 1 + 1) (by omega) 6 (.bool o2)
  have HF6 := Lib.hid F
  have HBA6 := Lib.hid BA
  have HBZ6 := Lib.hid BZ
  have HB06 := Lib.hid B0
  have HSRC := Lib.hid ((HO.out.keep0 F).src)
  clear F BA BZ B0
  have hsz := HBA6.out.lt
  go_wp2_with (
    at_builtin
    refine wpList_app (by rfl) _ _ _ (by rfl) (w.heap.size + 1 + 1 + 1) 46 1 8 HEU.out (.slice none 0 0) 0 [] (by rfl) (Ow.nil _ _) (.slice A n c) n (bs.map (Value.int .u64)) (by rfl) (by have h := HSRC.out; rw [← HN.out] at h; exact h) (by omega) (by omega) (by omega) ?_
    intro v6 w6 ho6 hg6 hat6
    have HO6 := Lib.hid (show Ow w6 (w.heap.size + 1 + 1 + 1) v6 bs by unfold Ow; rw [← HN.out, ← Nat.zero_add n]; exact ho6)
    have hF6 := Fr.of_grown (S := []) hg6 (fun k hk => by have h2 : (none : Option Nat) = some k := hk; cases h2)
    have BA7 := HBA6.out.keep hF6 (by simp)
    have BZ7 := HBZ6.out.keep hF6 (by simp)
    have HF7 := Lib.hid (HF6.out.trans hF6)
    have B07 := HB06.out.keep hF6 (by simp)
    clear ho6 hg6 hat6 hF6 HF6 HBA6 HBZ6 HB06 x0 x1 x2 x3 x4 x5 x6 x7 y0 y1 y2 y3 y4 y5 y6 y7 z0 z1 z2 z3 z4 z5 z6 z7 t0 t1 t2 t3 t4 t5 t6 t7
    obtain ⟨A6, n6, c6, rfl⟩ := HO6.out.slice
    have HBA7 := Lib.hid BA7
    have HBZ7 := Lib.hid BZ7
    have HB07 := Lib.hid B07
    clear BA7 BZ7 B07
    obtain ⟨x0, x1, x2, x3, x4, x5, x6, x7, y0, y1, y2, y3, y4, y5, y6, y7⟩ := blk8 HBA7.out
    obtain ⟨q0, q1, q2, q3, q4, q5, q6, q7, p0, p1, p2, p3, p4, p5, p6, p7⟩ := blk8 HBZ7.out
    obtain ⟨z0, z1, z2, z3, z4, z5, z6, z7, t0, t1, t2, t3, t4, t5, t6, t7⟩ := blk8 HB07.out)
  refine ret_row (g := w.heap.size + 1) (cs := #[.string key, .int .i64 kind, .int .u64 (m + 1), .int .i64 s2, .int .i64 v, .int .i64 mo, .bool o2, .slice A6 n6 c6]) (Blk.fill8 (HBZ7.out.far (b := w.heap.size + 1 + 1) (by omega) _ _) rfl _ _ _ _ _ _ _ _) rfl rfl rfl ?_
  rw [HQ.out, HAE.out]
  refine ⟨.slice A6 n6 c6, rfl, ?_, ?_⟩
  · exact Ow.base (b := w.heap.size + 1 + 1 + 1) (HO6.out.keep (S := [w.heap.size + 1, w.heap.size + 1 + 1]) (Fr.fill8 (g := w.heap.size + 1) ((Fr.refl _ w6).set (b := w.heap.size + 1 + 1) (.inl (by simp)) _ _) (.inl (by simp)) _ _ _ _ _ _ _ _) (fun x hx h => by have h1 := (HO6.out.lt x h).1; simp at hx; omega)) (by omega)
  · exact Fr.fill8 (g := w.heap.size + 1) (HF7.out.set (b := w.heap.size + 1 + 1) (.inr (by omega)) _ _) (.inr (by omega)) _ _ _ _ _ _ _ _

set_option maxRecDepth 100000 in
set_option maxHeartbeats 4000000 in
theorem come_othertL (key : ByteArray) (kind : Int) (h2 : kind ≠ 2) (h3 : kind ≠ 3) (m s le mo : Int) (bs : List Int) (k base : Nat) (A : Option Addr) (c : Nat) (v : Int) (hv : I64 v) (hk : 1 ≤ k ∧ k ≤ 1000) (ho : Ok k ⟨kind, m, s, le, mo, true, bs⟩) (hlt : v < le) (hgt : v ≤ mo) (w : World) (hO : Ow w base (.slice A bs.length c) bs) :
    Calls Try.prog 40 #[RowV key ⟨kind, m, s, le, mo, true, bs⟩ (.slice A bs.length c), .int .i64 v] w (Ret key (addR ⟨kind, m, s, le, mo, true, bs⟩ v) w) := by
  have hm0 : m = (k : Int) := ho.many
  have HCF := Lib.hid (rcount_f m ⟨by omega, by omega⟩)
  have hlen : bs.length ≤ 64 := by have := ho.len; simpa using this
  have HBD := Lib.hid (show ∀ x ∈ bs, 0 ≤ x ∧ x ≤ 1000 from fun x hx => by have := ho.b x (by simpa using hx); omega)
  have hmp : decide ((0 : Int) < m) = true := by simp; omega
  have HAF := Lib.hid (radd_f s v ho.sum hv)
  obtain ⟨s2, hs2⟩ : ∃ s2, s2 = (sadd s v).1 := ⟨_, rfl⟩
  obtain ⟨o2, ho2⟩ : ∃ o2, o2 = (sadd s v).2 := ⟨_, rfl⟩
  rw [show sadd s v = (s2, o2) by rw [hs2, ho2]] at HAF
  have hcl : decide (v < le) = true := by simp; omega
  have hcg : decide (mo < v) = false := by simp; omega
  have k2 : (kind != 2) = true := by simpa using h2
  have k3 : (kind != 3) = true := by simpa using h3
  have hbl := bl_le v hv
  have HAE := Lib.hid (show addR ⟨kind, m, s, le, mo, true, bs⟩ v = ⟨kind, (m + 1), s2, v, mo, true, bs⟩ by
    unfold addR
    have e1 : (if v < le then v else le) = v := by split <;> omega
    have e2 : (if mo < v then v else mo) = mo := by split <;> omega
    simp [e1, e2, hs2, ho2, h2, h3])
  have HV := Lib.hid hv
  have HEU := Lib.hid EU
  have HO := Lib.hid (show Ow w base (.slice A bs.length c) bs from hO)
  obtain ⟨n, hn⟩ : ∃ n, n = bs.length := ⟨_, rfl⟩
  have HN := Lib.hid hn
  rw [← hn] at HO hlen ⊢
  obtain ⟨Q, hQ⟩ : ∃ Q, Q = Ret key (addR ⟨kind, m, s, le, mo, true, bs⟩ v) w := ⟨_, rfl⟩
  have HQ := Lib.hid hQ
  rw [← hQ]
  clear hm0 ho hO hlt hgt hs2 ho2 h2 h3 hv hn hQ
  show Calls Try.prog _ #[.agg #[.string key, .int .i64 kind, .int .u64 m, .int .i64 s, .int .i64 le, .int .i64 mo, .bool true, .slice A n c], .int .i64 v] w _
  go_enter Try.func40, Try.ntmps40
  have F3 := (((Fr.refl [] w).alloc (.cells #[.string key, .int .i64 kind, .int .u64 m, .int .i64 s, .int .i64 le, .int .i64 mo, .bool true, .slice A n c] 49)).alloc (.cells #[.string ⟨#[]⟩, .int .i64 0, .int .u64 0, .int .i64 0, .int .i64 0, .int .i64 0, .bool false, .slice none 0 0] 49)).alloc (.cells #[.string key, .int .i64 kind, .int .u64 1, .int .i64 v, .int .i64 v, .int .i64 v, .bool false, .slice none 0 0] 49)
  have B0 := ((Blk.new w #[.string key, .int .i64 kind, .int .u64 m, .int .i64 s, .int .i64 le, .int .i64 mo, .bool true, .slice A n c] 49).alloc (.cells #[.string ⟨#[]⟩, .int .i64 0, .int .u64 0, .int .i64 0, .int .i64 0, .int .i64 0, .bool false, .slice none 0 0] 49)).alloc (.cells #[.string key, .int .i64 kind, .int .u64 1, .int .i64 v, .int .i64 v, .int .i64 v, .bool false, .slice none 0 0] 49)
  have BZ := (Blk.new (w.alloc (.cells #[.string key, .int .i64 kind, .int .u64 m, .int .i64 s, .int .i64 le, .int .i64 mo, .bool true, .slice A n c] 49)) #[.string ⟨#[]⟩, .int .i64 0, .int .u64 0, .int .i64 0, .int .i64 0, .int .i64 0, .bool false, .slice none 0 0] 49).alloc (.cells #[.string key, .int .i64 kind, .int .u64 1, .int .i64 v, .int .i64 v, .int .i64 v, .bool false, .slice none 0 0] 49)
  have BA := Blk.new ((w.alloc (.cells #[.string key, .int .i64 kind, .int .u64 m, .int .i64 s, .int .i64 le, .int .i64 mo, .bool true, .slice A n c] 49)).alloc (.cells #[.string ⟨#[]⟩, .int .i64 0, .int .u64 0, .int .i64 0, .int .i64 0, .int .i64 0, .bool false, .slice none 0 0] 49)) #[.string key, .int .i64 kind, .int .u64 1, .int .i64 v, .int .i64 v, .int .i64 v, .bool false, .slice none 0 0] 49
  simp only [size_alloc] at BZ BA
  have HF := Lib.hid F3
  have HB0 := Lib.hid B0
  have HBZ := Lib.hid BZ
  have HBA := Lib.hid BA
  clear F3 B0 BZ BA
  go_wp2_with fail
  refine (PTallyFolds.nogginref01_Count.calls m 1 (m + 1) false _ HCF.out).mono ?_
  rintro e w4 ⟨rfl, hd⟩
  have F := HF.out
  have BA := HBA.out
  have B0 := HB0.out
  have BZ := HBZ.out
  replace F := F.trans (Fr.of_drawn hd)
  replace BA := BA.keep (Fr.of_drawn hd) (by simp)
  replace B0 := B0.keep (Fr.of_drawn hd) (by simp)
  replace BZ := BZ.keep (Fr.of_drawn hd) (by simp)
  clear hd HF HB0 HBZ HBA
  have HF := Lib.hid F
  have HB0 := Lib.hid B0
  have HBZ := Lib.hid BZ
  have HBA := Lib.hid BA
  clear F BA B0 BZ
  obtain ⟨x0, x1, x2, x3, x4, x5, x6, x7, y0, y1, y2, y3, y4, y5, y6, y7⟩ := blk8 HBA.out
  obtain ⟨z0, z1, z2, z3, z4, z5, z6, z7, t0, t1, t2, t3, t4, t5, t6, t7⟩ := blk8 HB0.out
  go_wp2_with fail
  refine (PTallyFolds.nogginref01_Add.calls 3 s v s2 o2 _ HAF.out).mono ?_
  rintro e w5 ⟨rfl, hd⟩
  have F := HF.out
  have BA := HBA.out
  have B0 := HB0.out
  have BZ := HBZ.out
  replace F := F.set (b := w.heap.size + 1 + 1) (.inr (by omega)) 2 (.int .u64 (m + 1))
  replace BA := BA.put (cs' := #[.string key, .int .i64 kind, .int .u64 (m + 1), .int .i64 v, .int .i64 v, .int .i64 v, .bool false, .slice none 0 0]) 2 (.int .u64 (m + 1)) rfl
  replace B0 := B0.far (b := w.heap.size + 1 + 1) (by omega) 2 (.int .u64 (m + 1))
  replace BZ := BZ.far (b := w.heap.size + 1 + 1) (by omega) 2 (.int .u64 (m + 1))
  replace F := F.set (b := w.heap.size + 1 + 1) (.inr (by omega)) 4 (.int .i64 le)
  replace BA := BA.put (cs' := #[.string key, .int .i64 kind, .int .u64 (m + 1), .int .i64 v, .int .i64 le, .int .i64 v, .bool false, .slice none 0 0]) 4 (.int .i64 le) rfl
  replace B0 := B0.far (b := w.heap.size + 1 + 1) (by omega) 4 (.int .i64 le)
  replace BZ := BZ.far (b := w.heap.size + 1 + 1) (by omega) 4 (.int .i64 le)
  replace F := F.set (b := w.heap.size + 1 + 1) (.inr (by omega)) 5 (.int .i64 mo)
  replace BA := BA.put (cs' := #[.string key, .int .i64 kind, .int .u64 (m + 1), .int .i64 v, .int .i64 le, .int .i64 mo, .bool false, .slice none 0 0]) 5 (.int .i64 mo) rfl
  replace B0 := B0.far (b := w.heap.size + 1 + 1) (by omega) 5 (.int .i64 mo)
  replace BZ := BZ.far (b := w.heap.size + 1 + 1) (by omega) 5 (.int .i64 mo)
  replace F := F.set (b := w.heap.size + 1 + 1) (.inr (by omega)) 6 (.bool true)
  replace BA := BA.put (cs' := #[.string key, .int .i64 kind, .int .u64 (m + 1), .int .i64 v, .int .i64 le, .int .i64 mo, .bool true, .slice none 0 0]) 6 (.bool true) rfl
  replace B0 := B0.far (b := w.heap.size + 1 + 1) (by omega) 6 (.bool true)
  replace BZ := BZ.far (b := w.heap.size + 1 + 1) (by omega) 6 (.bool true)
  replace F := F.set (b := w.heap.size + 1 + 1) (.inr (by omega)) 4 (.int .i64 v)
  replace BA := BA.put (cs' := #[.string key, .int .i64 kind, .int .u64 (m + 1), .int .i64 v, .int .i64 v, .int .i64 mo, .bool true, .slice none 0 0]) 4 (.int .i64 v) rfl
  replace B0 := B0.far (b := w.heap.size + 1 + 1) (by omega) 4 (.int .i64 v)
  replace BZ := BZ.far (b := w.heap.size + 1 + 1) (by omega) 4 (.int .i64 v)
  replace F := F.trans (Fr.of_drawn hd)
  replace BA := BA.keep (Fr.of_drawn hd) (by simp)
  replace B0 := B0.keep (Fr.of_drawn hd) (by simp)
  replace BZ := BZ.keep (Fr.of_drawn hd) (by simp)
  clear hd HF HB0 HBZ HBA x0 x1 x2 x3 x4 x5 x6 x7 y0 y1 y2 y3 y4 y5 y6 y7 z0 z1 z2 z3 z4 z5 z6 z7 t0 t1 t2 t3 t4 t5 t6 t7
  have HF := Lib.hid F
  have HB0 := Lib.hid B0
  have HBZ := Lib.hid BZ
  have HBA := Lib.hid BA
  clear F BA B0 BZ
  obtain ⟨x0, x1, x2, x3, x4, x5, x6, x7, y0, y1, y2, y3, y4, y5, y6, y7⟩ := blk8 HBA.out
  obtain ⟨z0, z1, z2, z3, z4, z5, z6, z7, t0, t1, t2, t3, t4, t5, t6, t7⟩ := blk8 HB0.out
  have F := HF.out
  have BA := HBA.out
  have BZ := HBZ.out
  have B0 := HB0.out
  replace F := F.set (b := w.heap.size + 1 + 1) (.inr (by omega)) 3 (.int .i64 s2)
  replace BA := BA.put (cs' := #[.string key, .int .i64 kind, .int .u64 (m + 1), .int .i64 s2, .int .i64 v, .int .i64 mo, .bool true, .slice none 0 0]) 3 (.int .i64 s2) rfl
  replace BZ := BZ.far (b := w.heap.size + 1 + 1) (by omega) 3 (.int .i64 s2)
  replace B0 := B0.far (b := w.heap.size + 1 + 1) (by omega) 3 (.int .i64 s2)
  replace F := F.set (b := w.heap.size + 1 + 1) (.inr (by omega)) 6 (.bool true)
  replace BA := BA.put (cs' := #[.string key, .int .i64 kind, .int .u64 (m + 1), .int .i64 s2, .int .i64 v, .int .i64 mo, .bool true, .slice none 0 0]) 6 (.bool true) rfl
  replace BZ := BZ.far (b := w.heap.size + 1 + 1) (by omega) 6 (.bool true)
  replace B0 := B0.far (b := w.heap.size + 1 + 1) (by omega) 6 (.bool true)
  have HF6 := Lib.hid F
  have HBA6 := Lib.hid BA
  have HBZ6 := Lib.hid BZ
  have HB06 := Lib.hid B0
  have HSRC := Lib.hid ((HO.out.keep0 F).src)
  clear F BA BZ B0
  have hsz := HBA6.out.lt
  go_wp2_with (
    at_builtin
    refine wpList_app (by rfl) _ _ _ (by rfl) (w.heap.size + 1 + 1 + 1) 46 1 8 HEU.out (.slice none 0 0) 0 [] (by rfl) (Ow.nil _ _) (.slice A n c) n (bs.map (Value.int .u64)) (by rfl) (by have h := HSRC.out; rw [← HN.out] at h; exact h) (by omega) (by omega) (by omega) ?_
    intro v6 w6 ho6 hg6 hat6
    have HO6 := Lib.hid (show Ow w6 (w.heap.size + 1 + 1 + 1) v6 bs by unfold Ow; rw [← HN.out, ← Nat.zero_add n]; exact ho6)
    have hF6 := Fr.of_grown (S := []) hg6 (fun k hk => by have h2 : (none : Option Nat) = some k := hk; cases h2)
    have BA7 := HBA6.out.keep hF6 (by simp)
    have BZ7 := HBZ6.out.keep hF6 (by simp)
    have HF7 := Lib.hid (HF6.out.trans hF6)
    have B07 := HB06.out.keep hF6 (by simp)
    clear ho6 hg6 hat6 hF6 HF6 HBA6 HBZ6 HB06 x0 x1 x2 x3 x4 x5 x6 x7 y0 y1 y2 y3 y4 y5 y6 y7 z0 z1 z2 z3 z4 z5 z6 z7 t0 t1 t2 t3 t4 t5 t6 t7
    obtain ⟨A6, n6, c6, rfl⟩ := HO6.out.slice
    have HBA7 := Lib.hid BA7
    have HBZ7 := Lib.hid BZ7
    have HB07 := Lib.hid B07
    clear BA7 BZ7 B07
    obtain ⟨x0, x1, x2, x3, x4, x5, x6, x7, y0, y1, y2, y3, y4, y5, y6, y7⟩ := blk8 HBA7.out
    obtain ⟨q0, q1, q2, q3, q4, q5, q6, q7, p0, p1, p2, p3, p4, p5, p6, p7⟩ := blk8 HBZ7.out
    obtain ⟨z0, z1, z2, z3, z4, z5, z6, z7, t0, t1, t2, t3, t4, t5, t6, t7⟩ := blk8 HB07.out)
  refine ret_row (g := w.heap.size + 1) (cs := #[.string key, .int .i64 kind, .int .u64 (m + 1), .int .i64 s2, .int .i64 v, .int .i64 mo, .bool true, .slice A6 n6 c6]) (Blk.fill8 (HBZ7.out.far (b := w.heap.size + 1 + 1) (by omega) _ _) rfl _ _ _ _ _ _ _ _) rfl rfl rfl ?_
  rw [HQ.out, HAE.out]
  refine ⟨.slice A6 n6 c6, rfl, ?_, ?_⟩
  · exact Ow.base (b := w.heap.size + 1 + 1 + 1) (HO6.out.keep (S := [w.heap.size + 1, w.heap.size + 1 + 1]) (Fr.fill8 (g := w.heap.size + 1) ((Fr.refl _ w6).set (b := w.heap.size + 1 + 1) (.inl (by simp)) _ _) (.inl (by simp)) _ _ _ _ _ _ _ _) (fun x hx h => by have h1 := (HO6.out.lt x h).1; simp at hx; omega)) (by omega)
  · exact Fr.fill8 (g := w.heap.size + 1) (HF7.out.set (b := w.heap.size + 1 + 1) (.inr (by omega)) _ _) (.inr (by omega)) _ _ _ _ _ _ _ _

set_option maxRecDepth 100000 in
set_option maxHeartbeats 4000000 in
theorem come_lastLG (key : ByteArray) (m s le mo : Int) (ov : Bool) (bs : List Int) (k base : Nat) (A : Option Addr) (c : Nat) (v : Int) (hv : I64 v) (hk : 1 ≤ k ∧ k ≤ 1000) (ho : Ok k ⟨2, m, s, le, mo, ov, bs⟩) (hlt : v < le) (hgt : mo < v) (w : World) (hO : Ow w base (.slice A bs.length c) bs) :
    Calls Try.prog 40 #[RowV key ⟨2, m, s, le, mo, ov, bs⟩ (.slice A bs.length c), .int .i64 v] w (Ret key (addR ⟨2, m, s, le, mo, ov, bs⟩ v) w) := by
  have hm0 : m = (k : Int) := ho.many
  have HCF := Lib.hid (rcount_f m ⟨by omega, by omega⟩)
  have hlen : bs.length ≤ 64 := by have := ho.len; simpa using this
  have HBD := Lib.hid (show ∀ x ∈ bs, 0 ≤ x ∧ x ≤ 1000 from fun x hx => by have := ho.b x (by simpa using hx); omega)
  have hmp : decide ((0 : Int) < m) = true := by simp; omega
  have hcl : decide (v < le) = true := by simp; omega
  have hcg : decide (mo < v) = true := by simp; omega
  have hbl := bl_le v hv
  have HAE := Lib.hid (show addR ⟨2, m, s, le, mo, ov, bs⟩ v = ⟨2, (m + 1), v, v, v, ov, bs⟩ by
    unfold addR
    have e1 : (if v < le then v else le) = v := by split <;> omega
    have e2 : (if mo < v then v else mo) = v := by split <;> omega
    simp [e1, e2])
  have HV := Lib.hid hv
  have HEU := Lib.hid EU
  have HO := Lib.hid (show Ow w base (.slice A bs.length c) bs from hO)
  obtain ⟨n, hn⟩ : ∃ n, n = bs.length := ⟨_, rfl⟩
  have HN := Lib.hid hn
  rw [← hn] at HO hlen ⊢
  obtain ⟨Q, hQ⟩ : ∃ Q, Q = Ret key (addR ⟨2, m, s, le, mo, ov, bs⟩ v) w := ⟨_, rfl⟩
  have HQ := Lib.hid hQ
  rw [← hQ]
  clear hm0 ho hO hlt hgt hv hn hQ
  show Calls Try.prog _ #[.agg #[.string key, .int .i64 2, .int .u64 m, .int .i64 s, .int .i64 le, .int .i64 mo, .bool ov, .slice A n c], .int .i64 v] w _
  go_enter Try.func40, Try.ntmps40
  have F3 := (((Fr.refl [] w).alloc (.cells #[.string key, .int .i64 2, .int .u64 m, .int .i64 s, .int .i64 le, .int .i64 mo, .bool ov, .slice A n c] 49)).alloc (.cells #[.string ⟨#[]⟩, .int .i64 0, .int .u64 0, .int .i64 0, .int .i64 0, .int .i64 0, .bool false, .slice none 0 0] 49)).alloc (.cells #[.string key, .int .i64 2, .int .u64 1, .int .i64 v, .int .i64 v, .int .i64 v, .bool false, .slice none 0 0] 49)
  have B0 := ((Blk.new w #[.string key, .int .i64 2, .int .u64 m, .int .i64 s, .int .i64 le, .int .i64 mo, .bool ov, .slice A n c] 49).alloc (.cells #[.string ⟨#[]⟩, .int .i64 0, .int .u64 0, .int .i64 0, .int .i64 0, .int .i64 0, .bool false, .slice none 0 0] 49)).alloc (.cells #[.string key, .int .i64 2, .int .u64 1, .int .i64 v, .int .i64 v, .int .i64 v, .bool false, .slice none 0 0] 49)
  have BZ := (Blk.new (w.alloc (.cells #[.string key, .int .i64 2, .int .u64 m, .int .i64 s, .int .i64 le, .int .i64 mo, .bool ov, .slice A n c] 49)) #[.string ⟨#[]⟩, .int .i64 0, .int .u64 0, .int .i64 0, .int .i64 0, .int .i64 0, .bool false, .slice none 0 0] 49).alloc (.cells #[.string key, .int .i64 2, .int .u64 1, .int .i64 v, .int .i64 v, .int .i64 v, .bool false, .slice none 0 0] 49)
  have BA := Blk.new ((w.alloc (.cells #[.string key, .int .i64 2, .int .u64 m, .int .i64 s, .int .i64 le, .int .i64 mo, .bool ov, .slice A n c] 49)).alloc (.cells #[.string ⟨#[]⟩, .int .i64 0, .int .u64 0, .int .i64 0, .int .i64 0, .int .i64 0, .bool false, .slice none 0 0] 49)) #[.string key, .int .i64 2, .int .u64 1, .int .i64 v, .int .i64 v, .int .i64 v, .bool false, .slice none 0 0] 49
  simp only [size_alloc] at BZ BA
  have HF := Lib.hid F3
  have HB0 := Lib.hid B0
  have HBZ := Lib.hid BZ
  have HBA := Lib.hid BA
  clear F3 B0 BZ BA
  go_wp2_with fail
  refine (PTallyFolds.nogginref01_Count.calls m 1 (m + 1) false _ HCF.out).mono ?_
  rintro e w4 ⟨rfl, hd⟩
  have F := HF.out
  have BA := HBA.out
  have B0 := HB0.out
  have BZ := HBZ.out
  replace F := F.trans (Fr.of_drawn hd)
  replace BA := BA.keep (Fr.of_drawn hd) (by simp)
  replace B0 := B0.keep (Fr.of_drawn hd) (by simp)
  replace BZ := BZ.keep (Fr.of_drawn hd) (by simp)
  clear hd HF HB0 HBZ HBA
  have HF := Lib.hid F
  have HB0 := Lib.hid B0
  have HBZ := Lib.hid BZ
  have HBA := Lib.hid BA
  clear F BA B0 BZ
  obtain ⟨x0, x1, x2, x3, x4, x5, x6, x7, y0, y1, y2, y3, y4, y5, y6, y7⟩ := blk8 HBA.out
  obtain ⟨z0, z1, z2, z3, z4, z5, z6, z7, t0, t1, t2, t3, t4, t5, t6, t7⟩ := blk8 HB0.out
  have F := HF.out
  have BA := HBA.out
  have BZ := HBZ.out
  have B0 := HB0.out
  replace F := F.set (b := w.heap.size + 1 + 1) (.inr (by omega)) 2 (.int .u64 (m + 1))
  replace BA := BA.put (cs' := #[.string key, .int .i64 2, .int .u64 (m + 1), .int .i64 v, .int .i64 v, .int .i64 v, .bool false, .slice none 0 0]) 2 (.int .u64 (m + 1)) rfl
  replace BZ := BZ.far (b := w.heap.size + 1 + 1) (by omega) 2 (.int .u64 (m + 1))
  replace B0 := B0.far (b := w.heap.size + 1 + 1) (by omega) 2 (.int .u64 (m + 1))
  replace F := F.set (b := w.heap.size + 1 + 1) (.inr (by omega)) 4 (.int .i64 le)
  replace BA := BA.put (cs' := #[.string key, .int .i64 2, .int .u64 (m + 1), .int .i64 v, .int .i64 le, .int .i64 v, .bool false, .slice none 0 0]) 4 (.int .i64 le) rfl
  replace BZ := BZ.far (b := w.heap.size + 1 + 1) (by omega) 4 (.int .i64 le)
  replace B0 := B0.far (b := w.heap.size + 1 + 1) (by omega) 4 (.int .i64 le)
  replace F := F.set (b := w.heap.size + 1 + 1) (.inr (by omega)) 5 (.int .i64 mo)
  replace BA := BA.put (cs' := #[.string key, .int .i64 2, .int .u64 (m + 1), .int .i64 v, .int .i64 le, .int .i64 mo, .bool false, .slice none 0 0]) 5 (.int .i64 mo) rfl
  replace BZ := BZ.far (b := w.heap.size + 1 + 1) (by omega) 5 (.int .i64 mo)
  replace B0 := B0.far (b := w.heap.size + 1 + 1) (by omega) 5 (.int .i64 mo)
  replace F := F.set (b := w.heap.size + 1 + 1) (.inr (by omega)) 6 (.bool ov)
  replace BA := BA.put (cs' := #[.string key, .int .i64 2, .int .u64 (m + 1), .int .i64 v, .int .i64 le, .int .i64 mo, .bool ov, .slice none 0 0]) 6 (.bool ov) rfl
  replace BZ := BZ.far (b := w.heap.size + 1 + 1) (by omega) 6 (.bool ov)
  replace B0 := B0.far (b := w.heap.size + 1 + 1) (by omega) 6 (.bool ov)
  replace F := F.set (b := w.heap.size + 1 + 1) (.inr (by omega)) 4 (.int .i64 v)
  replace BA := BA.put (cs' := #[.string key, .int .i64 2, .int .u64 (m + 1), .int .i64 v, .int .i64 v, .int .i64 mo, .bool ov, .slice none 0 0]) 4 (.int .i64 v) rfl
  replace BZ := BZ.far (b := w.heap.size + 1 + 1) (by omega) 4 (.int .i64 v)
  replace B0 := B0.far (b := w.heap.size + 1 + 1) (by omega) 4 (.int .i64 v)
  replace F := F.set (b := w.heap.size + 1 + 1) (.inr (by omega)) 5 (.int .i64 v)
  replace BA := BA.put (cs' := #[.string key, .int .i64 2, .int .u64 (m + 1), .int .i64 v, .int .i64 v, .int .i64 v, .bool ov, .slice none 0 0]) 5 (.int .i64 v) rfl
  replace BZ := BZ.far (b := w.heap.size + 1 + 1) (by omega) 5 (.int .i64 v)
  replace B0 := B0.far (b := w.heap.size + 1 + 1) (by omega) 5 (.int .i64 v)
  have HF6 := Lib.hid F
  have HBA6 := Lib.hid BA
  have HBZ6 := Lib.hid BZ
  have HB06 := Lib.hid B0
  have HSRC := Lib.hid ((HO.out.keep0 F).src)
  clear F BA BZ B0
  have hsz := HBA6.out.lt
  go_wp2_with (
    at_builtin
    refine wpList_app (by rfl) _ _ _ (by rfl) (w.heap.size + 1 + 1 + 1) 46 1 8 HEU.out (.slice none 0 0) 0 [] (by rfl) (Ow.nil _ _) (.slice A n c) n (bs.map (Value.int .u64)) (by rfl) (by have h := HSRC.out; rw [← HN.out] at h; exact h) (by omega) (by omega) (by omega) ?_
    intro v6 w6 ho6 hg6 hat6
    have HO6 := Lib.hid (show Ow w6 (w.heap.size + 1 + 1 + 1) v6 bs by unfold Ow; rw [← HN.out, ← Nat.zero_add n]; exact ho6)
    have hF6 := Fr.of_grown (S := []) hg6 (fun k hk => by have h2 : (none : Option Nat) = some k := hk; cases h2)
    have BA7 := HBA6.out.keep hF6 (by simp)
    have BZ7 := HBZ6.out.keep hF6 (by simp)
    have HF7 := Lib.hid (HF6.out.trans hF6)
    have B07 := HB06.out.keep hF6 (by simp)
    clear ho6 hg6 hat6 hF6 HF6 HBA6 HBZ6 HB06 x0 x1 x2 x3 x4 x5 x6 x7 y0 y1 y2 y3 y4 y5 y6 y7 z0 z1 z2 z3 z4 z5 z6 z7 t0 t1 t2 t3 t4 t5 t6 t7
    obtain ⟨A6, n6, c6, rfl⟩ := HO6.out.slice
    have HBA7 := Lib.hid BA7
    have HBZ7 := Lib.hid BZ7
    have HB07 := Lib.hid B07
    clear BA7 BZ7 B07
    obtain ⟨x0, x1, x2, x3, x4, x5, x6, x7, y0, y1, y2, y3, y4, y5, y6, y7⟩ := blk8 HBA7.out
    obtain ⟨q0, q1, q2, q3, q4, q5, q6, q7, p0, p1, p2, p3, p4, p5, p6, p7⟩ := blk8 HBZ7.out
    obtain ⟨z0, z1, z2, z3, z4, z5, z6, z7, t0, t1, t2, t3, t4, t5, t6, t7⟩ := blk8 HB07.out)
  refine ret_row (g := w.heap.size + 1) (cs := #[.string key, .int .i64 2, .int .u64 (m + 1), .int .i64 v, .int .i64 v, .int .i64 v, .bool ov, .slice A6 n6 c6]) (Blk.fill8 (HBZ7.out.far (b := w.heap.size + 1 + 1) (by omega) _ _) rfl _ _ _ _ _ _ _ _) rfl rfl rfl ?_
  rw [HQ.out, HAE.out]
  refine ⟨.slice A6 n6 c6, rfl, ?_, ?_⟩
  · exact Ow.base (b := w.heap.size + 1 + 1 + 1) (HO6.out.keep (S := [w.heap.size + 1, w.heap.size + 1 + 1]) (Fr.fill8 (g := w.heap.size + 1) ((Fr.refl _ w6).set (b := w.heap.size + 1 + 1) (.inl (by simp)) _ _) (.inl (by simp)) _ _ _ _ _ _ _ _) (fun x hx h => by have h1 := (HO6.out.lt x h).1; simp at hx; omega)) (by omega)
  · exact Fr.fill8 (g := w.heap.size + 1) (HF7.out.set (b := w.heap.size + 1 + 1) (.inr (by omega)) _ _) (.inr (by omega)) _ _ _ _ _ _ _ _

set_option maxRecDepth 100000 in
set_option maxHeartbeats 4000000 in
theorem come_otherfLG (key : ByteArray) (kind : Int) (h2 : kind ≠ 2) (h3 : kind ≠ 3) (m s le mo : Int) (bs : List Int) (k base : Nat) (A : Option Addr) (c : Nat) (v : Int) (hv : I64 v) (hk : 1 ≤ k ∧ k ≤ 1000) (ho : Ok k ⟨kind, m, s, le, mo, false, bs⟩) (hlt : v < le) (hgt : mo < v) (w : World) (hO : Ow w base (.slice A bs.length c) bs) :
    Calls Try.prog 40 #[RowV key ⟨kind, m, s, le, mo, false, bs⟩ (.slice A bs.length c), .int .i64 v] w (Ret key (addR ⟨kind, m, s, le, mo, false, bs⟩ v) w) := by
  have hm0 : m = (k : Int) := ho.many
  have HCF := Lib.hid (rcount_f m ⟨by omega, by omega⟩)
  have hlen : bs.length ≤ 64 := by have := ho.len; simpa using this
  have HBD := Lib.hid (show ∀ x ∈ bs, 0 ≤ x ∧ x ≤ 1000 from fun x hx => by have := ho.b x (by simpa using hx); omega)
  have hmp : decide ((0 : Int) < m) = true := by simp; omega
  have HAF := Lib.hid (radd_f s v ho.sum hv)
  obtain ⟨s2, hs2⟩ : ∃ s2, s2 = (sadd s v).1 := ⟨_, rfl⟩
  obtain ⟨o2, ho2⟩ : ∃ o2, o2 = (sadd s v).2 := ⟨_, rfl⟩
  rw [show sadd s v = (s2, o2) by rw [hs2, ho2]] at HAF
  have hcl : decide (v < le) = true := by simp; omega
  have hcg : decide (mo < v) = true := by simp; omega
  have k2 : (kind != 2) = true := by simpa using h2
  have k3 : (kind != 3) = true := by simpa using h3
  have hbl := bl_le v hv
  have HAE := Lib.hid (show addR ⟨kind, m, s, le, mo, false, bs⟩ v = ⟨kind, (m + 1), s2, v, v, o2, bs⟩ by
    unfold addR
    have e1 : (if v < le then v else le) = v := by split <;> omega
    have e2 : (if mo < v then v else mo) = v := by split <;> omega
    simp [e1, e2, hs2, ho2, h2, h3])
  have HV := Lib.hid hv
  have HEU := Lib.hid EU
  have HO := Lib.hid (show Ow w base (.slice A bs.length c) bs from hO)
  obtain ⟨n, hn⟩ : ∃ n, n = bs.length := ⟨_, rfl⟩
  have HN := Lib.hid hn
  rw [← hn] at HO hlen ⊢
  obtain ⟨Q, hQ⟩ : ∃ Q, Q = Ret key (addR ⟨kind, m, s, le, mo, false, bs⟩ v) w := ⟨_, rfl⟩
  have HQ := Lib.hid hQ
  rw [← hQ]
  clear hm0 ho hO hlt hgt hs2 ho2 h2 h3 hv hn hQ
  show Calls Try.prog _ #[.agg #[.string key, .int .i64 kind, .int .u64 m, .int .i64 s, .int .i64 le, .int .i64 mo, .bool false, .slice A n c], .int .i64 v] w _
  go_enter Try.func40, Try.ntmps40
  have F3 := (((Fr.refl [] w).alloc (.cells #[.string key, .int .i64 kind, .int .u64 m, .int .i64 s, .int .i64 le, .int .i64 mo, .bool false, .slice A n c] 49)).alloc (.cells #[.string ⟨#[]⟩, .int .i64 0, .int .u64 0, .int .i64 0, .int .i64 0, .int .i64 0, .bool false, .slice none 0 0] 49)).alloc (.cells #[.string key, .int .i64 kind, .int .u64 1, .int .i64 v, .int .i64 v, .int .i64 v, .bool false, .slice none 0 0] 49)
  have B0 := ((Blk.new w #[.string key, .int .i64 kind, .int .u64 m, .int .i64 s, .int .i64 le, .int .i64 mo, .bool false, .slice A n c] 49).alloc (.cells #[.string ⟨#[]⟩, .int .i64 0, .int .u64 0, .int .i64 0, .int .i64 0, .int .i64 0, .bool false, .slice none 0 0] 49)).alloc (.cells #[.string key, .int .i64 kind, .int .u64 1, .int .i64 v, .int .i64 v, .int .i64 v, .bool false, .slice none 0 0] 49)
  have BZ := (Blk.new (w.alloc (.cells #[.string key, .int .i64 kind, .int .u64 m, .int .i64 s, .int .i64 le, .int .i64 mo, .bool false, .slice A n c] 49)) #[.string ⟨#[]⟩, .int .i64 0, .int .u64 0, .int .i64 0, .int .i64 0, .int .i64 0, .bool false, .slice none 0 0] 49).alloc (.cells #[.string key, .int .i64 kind, .int .u64 1, .int .i64 v, .int .i64 v, .int .i64 v, .bool false, .slice none 0 0] 49)
  have BA := Blk.new ((w.alloc (.cells #[.string key, .int .i64 kind, .int .u64 m, .int .i64 s, .int .i64 le, .int .i64 mo, .bool false, .slice A n c] 49)).alloc (.cells #[.string ⟨#[]⟩, .int .i64 0, .int .u64 0, .int .i64 0, .int .i64 0, .int .i64 0, .bool false, .slice none 0 0] 49)) #[.string key, .int .i64 kind, .int .u64 1, .int .i64 v, .int .i64 v, .int .i64 v, .bool false, .slice none 0 0] 49
  simp only [size_alloc] at BZ BA
  have HF := Lib.hid F3
  have HB0 := Lib.hid B0
  have HBZ := Lib.hid BZ
  have HBA := Lib.hid BA
  clear F3 B0 BZ BA
  go_wp2_with fail
  refine (PTallyFolds.nogginref01_Count.calls m 1 (m + 1) false _ HCF.out).mono ?_
  rintro e w4 ⟨rfl, hd⟩
  have F := HF.out
  have BA := HBA.out
  have B0 := HB0.out
  have BZ := HBZ.out
  replace F := F.trans (Fr.of_drawn hd)
  replace BA := BA.keep (Fr.of_drawn hd) (by simp)
  replace B0 := B0.keep (Fr.of_drawn hd) (by simp)
  replace BZ := BZ.keep (Fr.of_drawn hd) (by simp)
  clear hd HF HB0 HBZ HBA
  have HF := Lib.hid F
  have HB0 := Lib.hid B0
  have HBZ := Lib.hid BZ
  have HBA := Lib.hid BA
  clear F BA B0 BZ
  obtain ⟨x0, x1, x2, x3, x4, x5, x6, x7, y0, y1, y2, y3, y4, y5, y6, y7⟩ := blk8 HBA.out
  obtain ⟨z0, z1, z2, z3, z4, z5, z6, z7, t0, t1, t2, t3, t4, t5, t6, t7⟩ := blk8 HB0.out
  go_wp2_with fail
  refine (PTallyFolds.nogginref01_Add.calls 3 s v s2 o2 _ HAF.out).mono ?_
  rintro e w5 ⟨rfl, hd⟩
  have F := HF.out
  have BA := HBA.out
  have B0 := HB0.out
  have BZ := HBZ.out
  replace F := F.set (b := w.heap.size + 1 + 1) (.inr (by omega)) 2 (.int .u64 (m + 1))
  replace BA := BA.put (cs' := #[.string key, .int .i64 kind, .int .u64 (m + 1), .int .i64 v, .int .i64 v, .int .i64 v, .bool false, .slice none 0 0]) 2 (.int .u64 (m + 1)) rfl
  replace B0 := B0.far (b := w.heap.size + 1 + 1) (by omega) 2 (.int .u64 (m + 1))
  replace BZ := BZ.far (b := w.heap.size + 1 + 1) (by omega) 2 (.int .u64 (m + 1))
  replace F := F.set (b := w.heap.size + 1 + 1) (.inr (by omega)) 4 (.int .i64 le)
  replace BA := BA.put (cs' := #[.string key, .int .i64 kind, .int .u64 (m + 1), .int .i64 v, .int .i64 le, .int .i64 v, .bool false, .slice none 0 0]) 4 (.int .i64 le) rfl
  replace B0 := B0.far (b := w.heap.size + 1 + 1) (by omega) 4 (.int .i64 le)
  replace BZ := BZ.far (b := w.heap.size + 1 + 1) (by omega) 4 (.int .i64 le)
  replace F := F.set (b := w.heap.size + 1 + 1) (.inr (by omega)) 5 (.int .i64 mo)
  replace BA := BA.put (cs' := #[.string key, .int .i64 kind, .int .u64 (m + 1), .int .i64 v, .int .i64 le, .int .i64 mo, .bool false, .slice none 0 0]) 5 (.int .i64 mo) rfl
  replace B0 := B0.far (b := w.heap.size + 1 + 1) (by omega) 5 (.int .i64 mo)
  replace BZ := BZ.far (b := w.heap.size + 1 + 1) (by omega) 5 (.int .i64 mo)
  replace F := F.set (b := w.heap.size + 1 + 1) (.inr (by omega)) 6 (.bool false)
  replace BA := BA.put (cs' := #[.string key, .int .i64 kind, .int .u64 (m + 1), .int .i64 v, .int .i64 le, .int .i64 mo, .bool false, .slice none 0 0]) 6 (.bool false) rfl
  replace B0 := B0.far (b := w.heap.size + 1 + 1) (by omega) 6 (.bool false)
  replace BZ := BZ.far (b := w.heap.size + 1 + 1) (by omega) 6 (.bool false)
  replace F := F.set (b := w.heap.size + 1 + 1) (.inr (by omega)) 4 (.int .i64 v)
  replace BA := BA.put (cs' := #[.string key, .int .i64 kind, .int .u64 (m + 1), .int .i64 v, .int .i64 v, .int .i64 mo, .bool false, .slice none 0 0]) 4 (.int .i64 v) rfl
  replace B0 := B0.far (b := w.heap.size + 1 + 1) (by omega) 4 (.int .i64 v)
  replace BZ := BZ.far (b := w.heap.size + 1 + 1) (by omega) 4 (.int .i64 v)
  replace F := F.set (b := w.heap.size + 1 + 1) (.inr (by omega)) 5 (.int .i64 v)
  replace BA := BA.put (cs' := #[.string key, .int .i64 kind, .int .u64 (m + 1), .int .i64 v, .int .i64 v, .int .i64 v, .bool false, .slice none 0 0]) 5 (.int .i64 v) rfl
  replace B0 := B0.far (b := w.heap.size + 1 + 1) (by omega) 5 (.int .i64 v)
  replace BZ := BZ.far (b := w.heap.size + 1 + 1) (by omega) 5 (.int .i64 v)
  replace F := F.trans (Fr.of_drawn hd)
  replace BA := BA.keep (Fr.of_drawn hd) (by simp)
  replace B0 := B0.keep (Fr.of_drawn hd) (by simp)
  replace BZ := BZ.keep (Fr.of_drawn hd) (by simp)
  clear hd HF HB0 HBZ HBA x0 x1 x2 x3 x4 x5 x6 x7 y0 y1 y2 y3 y4 y5 y6 y7 z0 z1 z2 z3 z4 z5 z6 z7 t0 t1 t2 t3 t4 t5 t6 t7
  have HF := Lib.hid F
  have HB0 := Lib.hid B0
  have HBZ := Lib.hid BZ
  have HBA := Lib.hid BA
  clear F BA B0 BZ
  obtain ⟨x0, x1, x2, x3, x4, x5, x6, x7, y0, y1, y2, y3, y4, y5, y6, y7⟩ := blk8 HBA.out
  obtain ⟨z0, z1, z2, z3, z4, z5, z6, z7, t0, t1, t2, t3, t4, t5, t6, t7⟩ := blk8 HB0.out
  have F := HF.out
  have BA := HBA.out
  have BZ := HBZ.out
  have B0 := HB0.out
  replace F := F.set (b := w.heap.size + 1 + 1) (.inr (by omega)) 3 (.int .i64 s2)
  replace BA := BA.put (cs' := #[.string key, .int .i64 kind, .int .u64 (m + 1), .int .i64 s2, .int .i64 v, .int .i64 v, .bool false, .slice none 0 0]) 3 (.int .i64 s2) rfl
  replace BZ := BZ.far (b := w.heap.size + 1 + 1) (by omega) 3 (.int .i64 s2)
  replace B0 := B0.far (b := w.heap.size + 1 + 1) (by omega) 3 (.int .i64 s2)
  replace F := F.set (b := w.heap.size + 1 + 1) (.inr (by omega)) 6 (.bool o2)
  replace BA := BA.put (cs' := #[.string key, .int .i64 kind, .int .u64 (m + 1), .int .i64 s2, .int .i64 v, .int .i64 v, .bool o2, .slice none 0 0]) 6 (.bool o2) rfl
  replace BZ := BZ.far (b := w.heap.size + 1 + 1) (by omega) 6 (.bool o2)
  replace B0 := B0.far (b := w.heap.size + 1 + 1) (by omega) 6 (.bool o2)
  have HF6 := Lib.hid F
  have HBA6 := Lib.hid BA
  have HBZ6 := Lib.hid BZ
  have HB06 := Lib.hid B0
  have HSRC := Lib.hid ((HO.out.keep0 F).src)
  clear F BA BZ B0
  have hsz := HBA6.out.lt
  go_wp2_with (
    at_builtin
    refine wpList_app (by rfl) _ _ _ (by rfl) (w.heap.size + 1 + 1 + 1) 46 1 8 HEU.out (.slice none 0 0) 0 [] (by rfl) (Ow.nil _ _) (.slice A n c) n (bs.map (Value.int .u64)) (by rfl) (by have h := HSRC.out; rw [← HN.out] at h; exact h) (by omega) (by omega) (by omega) ?_
    intro v6 w6 ho6 hg6 hat6
    have HO6 := Lib.hid (show Ow w6 (w.heap.size + 1 + 1 + 1) v6 bs by unfold Ow; rw [← HN.out, ← Nat.zero_add n]; exact ho6)
    have hF6 := Fr.of_grown (S := []) hg6 (fun k hk => by have h2 : (none : Option Nat) = some k := hk; cases h2)
    have BA7 := HBA6.out.keep hF6 (by simp)
    have BZ7 := HBZ6.out.keep hF6 (by simp)
    have HF7 := Lib.hid (HF6.out.trans hF6)
    have B07 := HB06.out.keep hF6 (by simp)
    clear ho6 hg6 hat6 hF6 HF6 HBA6 HBZ6 HB06 x0 x1 x2 x3 x4 x5 x6 x7 y0 y1 y2 y3 y4 y5 y6 y7 z0 z1 z2 z3 z4 z5 z6 z7 t0 t1 t2 t3 t4 t5 t6 t7
    obtain ⟨A6, n6, c6, rfl⟩ := HO6.out.slice
    have HBA7 := Lib.hid BA7
    have HBZ7 := Lib.hid BZ7
    have HB07 := Lib.hid B07
    clear BA7 BZ7 B07
    obtain ⟨x0, x1, x2, x3, x4, x5, x6, x7, y0, y1, y2, y3, y4, y5, y6, y7⟩ := blk8 HBA7.out
    obtain ⟨q0, q1, q2, q3, q4, q5, q6, q7, p0, p1, p2, p3, p4, p5, p6, p7⟩ := blk8 HBZ7.out
    obtain ⟨z0, z1, z2, z3, z4, z5, z6, z7, t0, t1, t2, t3, t4, t5, t6, t7⟩ := blk8 HB07.out)
  refine ret_row (g := w.heap.size + 1) (cs := #[.string key, .int .i64 kind, .int .u64 (m + 1), .int .i64 s2, .int .i64 v, .int .i64 v, .bool o2, .slice A6 n6 c6]) (Blk.fill8 (HBZ7.out.far (b := w.heap.size + 1 + 1) (by omega) _ _) rfl _ _ _ _ _ _ _ _) rfl rfl rfl ?_
  rw [HQ.out, HAE.out]
  refine ⟨.slice A6 n6 c6, rfl, ?_, ?_⟩
  · exact Ow.base (b := w.heap.size + 1 + 1 + 1) (HO6.out.keep (S := [w.heap.size + 1, w.heap.size + 1 + 1]) (Fr.fill8 (g := w.heap.size + 1) ((Fr.refl _ w6).set (b := w.heap.size + 1 + 1) (.inl (by simp)) _ _) (.inl (by simp)) _ _ _ _ _ _ _ _) (fun x hx h => by have h1 := (HO6.out.lt x h).1; simp at hx; omega)) (by omega)
  · exact Fr.fill8 (g := w.heap.size + 1) (HF7.out.set (b := w.heap.size + 1 + 1) (.inr (by omega)) _ _) (.inr (by omega)) _ _ _ _ _ _ _ _

set_option maxRecDepth 100000 in
set_option maxHeartbeats 4000000 in
theorem come_othertLG (key : ByteArray) (kind : Int) (h2 : kind ≠ 2) (h3 : kind ≠ 3) (m s le mo : Int) (bs : List Int) (k base : Nat) (A : Option Addr) (c : Nat) (v : Int) (hv : I64 v) (hk : 1 ≤ k ∧ k ≤ 1000) (ho : Ok k ⟨kind, m, s, le, mo, true, bs⟩) (hlt : v < le) (hgt : mo < v) (w : World) (hO : Ow w base (.slice A bs.length c) bs) :
    Calls Try.prog 40 #[RowV key ⟨kind, m, s, le, mo, true, bs⟩ (.slice A bs.length c), .int .i64 v] w (Ret key (addR ⟨kind, m, s, le, mo, true, bs⟩ v) w) := by
  have hm0 : m = (k : Int) := ho.many
  have HCF := Lib.hid (rcount_f m ⟨by omega, by omega⟩)
  have hlen : bs.length ≤ 64 := by have := ho.len; simpa using this
  have HBD := Lib.hid (show ∀ x ∈ bs, 0 ≤ x ∧ x ≤ 1000 from fun x hx => by have := ho.b x (by simpa using hx); omega)
  have hmp : decide ((0 : Int) < m) = true := by simp; omega
  have HAF := Lib.hid (radd_f s v ho.sum hv)
  obtain ⟨s2, hs2⟩ : ∃ s2, s2 = (sadd s v).1 := ⟨_, rfl⟩
  obtain ⟨o2, ho2⟩ : ∃ o2, o2 = (sadd s v).2 := ⟨_, rfl⟩
  rw [show sadd s v = (s2, o2) by rw [hs2, ho2]] at HAF
  have hcl : decide (v < le) = true := by simp; omega
  have hcg : decide (mo < v) = true := by simp; omega
  have k2 : (kind != 2) = true := by simpa using h2
  have k3 : (kind != 3) = true := by simpa using h3
  have hbl := bl_le v hv
  have HAE := Lib.hid (show addR ⟨kind, m, s, le, mo, true, bs⟩ v = ⟨kind, (m + 1), s2, v, v, true, bs⟩ by
    unfold addR
    have e1 : (if v < le then v else le) = v := by split <;> omega
    have e2 : (if mo < v then v else mo) = v := by split <;> omega
    simp [e1, e2, hs2, ho2, h2, h3])
  have HV := Lib.hid hv
  have HEU := Lib.hid EU
  have HO := Lib.hid (show Ow w base (.slice A bs.length c) bs from hO)
  obtain ⟨n, hn⟩ : ∃ n, n = bs.length := ⟨_, rfl⟩
  have HN := Lib.hid hn
  rw [← hn] at HO hlen ⊢
  obtain ⟨Q, hQ⟩ : ∃ Q, Q = Ret key (addR ⟨kind, m, s, le, mo, true, bs⟩ v) w := ⟨_, rfl⟩
  have HQ := Lib.hid hQ
  rw [← hQ]
  clear hm0 ho hO hlt hgt hs2 ho2 h2 h3 hv hn hQ
  show Calls Try.prog _ #[.agg #[.string key, .int .i64 kind, .int .u64 m, .int .i64 s, .int .i64 le, .int .i64 mo, .bool true, .slice A n c], .int .i64 v] w _
  go_enter Try.func40, Try.ntmps40
  have F3 := (((Fr.refl [] w).alloc (.cells #[.string key, .int .i64 kind, .int .u64 m, .int .i64 s, .int .i64 le, .int .i64 mo, .bool true, .slice A n c] 49)).alloc (.cells #[.string ⟨#[]⟩, .int .i64 0, .int .u64 0, .int .i64 0, .int .i64 0, .int .i64 0, .bool false, .slice none 0 0] 49)).alloc (.cells #[.string key, .int .i64 kind, .int .u64 1, .int .i64 v, .int .i64 v, .int .i64 v, .bool false, .slice none 0 0] 49)
  have B0 := ((Blk.new w #[.string key, .int .i64 kind, .int .u64 m, .int .i64 s, .int .i64 le, .int .i64 mo, .bool true, .slice A n c] 49).alloc (.cells #[.string ⟨#[]⟩, .int .i64 0, .int .u64 0, .int .i64 0, .int .i64 0, .int .i64 0, .bool false, .slice none 0 0] 49)).alloc (.cells #[.string key, .int .i64 kind, .int .u64 1, .int .i64 v, .int .i64 v, .int .i64 v, .bool false, .slice none 0 0] 49)
  have BZ := (Blk.new (w.alloc (.cells #[.string key, .int .i64 kind, .int .u64 m, .int .i64 s, .int .i64 le, .int .i64 mo, .bool true, .slice A n c] 49)) #[.string ⟨#[]⟩, .int .i64 0, .int .u64 0, .int .i64 0, .int .i64 0, .int .i64 0, .bool false, .slice none 0 0] 49).alloc (.cells #[.string key, .int .i64 kind, .int .u64 1, .int .i64 v, .int .i64 v, .int .i64 v, .bool false, .slice none 0 0] 49)
  have BA := Blk.new ((w.alloc (.cells #[.string key, .int .i64 kind, .int .u64 m, .int .i64 s, .int .i64 le, .int .i64 mo, .bool true, .slice A n c] 49)).alloc (.cells #[.string ⟨#[]⟩, .int .i64 0, .int .u64 0, .int .i64 0, .int .i64 0, .int .i64 0, .bool false, .slice none 0 0] 49)) #[.string key, .int .i64 kind, .int .u64 1, .int .i64 v, .int .i64 v, .int .i64 v, .bool false, .slice none 0 0] 49
  simp only [size_alloc] at BZ BA
  have HF := Lib.hid F3
  have HB0 := Lib.hid B0
  have HBZ := Lib.hid BZ
  have HBA := Lib.hid BA
  clear F3 B0 BZ BA
  go_wp2_with fail
  refine (PTallyFolds.nogginref01_Count.calls m 1 (m + 1) false _ HCF.out).mono ?_
  rintro e w4 ⟨rfl, hd⟩
  have F := HF.out
  have BA := HBA.out
  have B0 := HB0.out
  have BZ := HBZ.out
  replace F := F.trans (Fr.of_drawn hd)
  replace BA := BA.keep (Fr.of_drawn hd) (by simp)
  replace B0 := B0.keep (Fr.of_drawn hd) (by simp)
  replace BZ := BZ.keep (Fr.of_drawn hd) (by simp)
  clear hd HF HB0 HBZ HBA
  have HF := Lib.hid F
  have HB0 := Lib.hid B0
  have HBZ := Lib.hid BZ
  have HBA := Lib.hid BA
  clear F BA B0 BZ
  obtain ⟨x0, x1, x2, x3, x4, x5, x6, x7, y0, y1, y2, y3, y4, y5, y6, y7⟩ := blk8 HBA.out
  obtain ⟨z0, z1, z2, z3, z4, z5, z6, z7, t0, t1, t2, t3, t4, t5, t6, t7⟩ := blk8 HB0.out
  go_wp2_with fail
  refine (PTallyFolds.nogginref01_Add.calls 3 s v s2 o2 _ HAF.out).mono ?_
  rintro e w5 ⟨rfl, hd⟩
  have F := HF.out
  have BA := HBA.out
  have B0 := HB0.out
  have BZ := HBZ.out
  replace F := F.set (b := w.heap.size + 1 + 1) (.inr (by omega)) 2 (.int .u64 (m + 1))
  replace BA := BA.put (cs' := #[.string key, .int .i64 kind, .int .u64 (m + 1), .int .i64 v, .int .i64 v, .int .i64 v, .bool false, .slice none 0 0]) 2 (.int .u64 (m + 1)) rfl
  replace B0 := B0.far (b := w.heap.size + 1 + 1) (by omega) 2 (.int .u64 (m + 1))
  replace BZ := BZ.far (b := w.heap.size + 1 + 1) (by omega) 2 (.int .u64 (m + 1))
  replace F := F.set (b := w.heap.size + 1 + 1) (.inr (by omega)) 4 (.int .i64 le)
  replace BA := BA.put (cs' := #[.string key, .int .i64 kind, .int .u64 (m + 1), .int .i64 v, .int .i64 le, .int .i64 v, .bool false, .slice none 0 0]) 4 (.int .i64 le) rfl
  replace B0 := B0.far (b := w.heap.size + 1 + 1) (by omega) 4 (.int .i64 le)
  replace BZ := BZ.far (b := w.heap.size + 1 + 1) (by omega) 4 (.int .i64 le)
  replace F := F.set (b := w.heap.size + 1 + 1) (.inr (by omega)) 5 (.int .i64 mo)
  replace BA := BA.put (cs' := #[.string key, .int .i64 kind, .int .u64 (m + 1), .int .i64 v, .int .i64 le, .int .i64 mo, .bool false, .slice none 0 0]) 5 (.int .i64 mo) rfl
  replace B0 := B0.far (b := w.heap.size + 1 + 1) (by omega) 5 (.int .i64 mo)
  replace BZ := BZ.far (b := w.heap.size + 1 + 1) (by omega) 5 (.int .i64 mo)
  replace F := F.set (b := w.heap.size + 1 + 1) (.inr (by omega)) 6 (.bool true)
  replace BA := BA.put (cs' := #[.string key, .int .i64 kind, .int .u64 (m + 1), .int .i64 v, .int .i64 le, .int .i64 mo, .bool true, .slice none 0 0]) 6 (.bool true) rfl
  replace B0 := B0.far (b := w.heap.size + 1 + 1) (by omega) 6 (.bool true)
  replace BZ := BZ.far (b := w.heap.size + 1 + 1) (by omega) 6 (.bool true)
  replace F := F.set (b := w.heap.size + 1 + 1) (.inr (by omega)) 4 (.int .i64 v)
  replace BA := BA.put (cs' := #[.string key, .int .i64 kind, .int .u64 (m + 1), .int .i64 v, .int .i64 v, .int .i64 mo, .bool true, .slice none 0 0]) 4 (.int .i64 v) rfl
  replace B0 := B0.far (b := w.heap.size + 1 + 1) (by omega) 4 (.int .i64 v)
  replace BZ := BZ.far (b := w.heap.size + 1 + 1) (by omega) 4 (.int .i64 v)
  replace F := F.set (b := w.heap.size + 1 + 1) (.inr (by omega)) 5 (.int .i64 v)
  replace BA := BA.put (cs' := #[.string key, .int .i64 kind, .int .u64 (m + 1), .int .i64 v, .int .i64 v, .int .i64 v, .bool true, .slice none 0 0]) 5 (.int .i64 v) rfl
  replace B0 := B0.far (b := w.heap.size + 1 + 1) (by omega) 5 (.int .i64 v)
  replace BZ := BZ.far (b := w.heap.size + 1 + 1) (by omega) 5 (.int .i64 v)
  replace F := F.trans (Fr.of_drawn hd)
  replace BA := BA.keep (Fr.of_drawn hd) (by simp)
  replace B0 := B0.keep (Fr.of_drawn hd) (by simp)
  replace BZ := BZ.keep (Fr.of_drawn hd) (by simp)
  clear hd HF HB0 HBZ HBA x0 x1 x2 x3 x4 x5 x6 x7 y0 y1 y2 y3 y4 y5 y6 y7 z0 z1 z2 z3 z4 z5 z6 z7 t0 t1 t2 t3 t4 t5 t6 t7
  have HF := Lib.hid F
  have HB0 := Lib.hid B0
  have HBZ := Lib.hid BZ
  have HBA := Lib.hid BA
  clear F BA B0 BZ
  obtain ⟨x0, x1, x2, x3, x4, x5, x6, x7, y0, y1, y2, y3, y4, y5, y6, y7⟩ := blk8 HBA.out
  obtain ⟨z0, z1, z2, z3, z4, z5, z6, z7, t0, t1, t2, t3, t4, t5, t6, t7⟩ := blk8 HB0.out
  have F := HF.out
  have BA := HBA.out
  have BZ := HBZ.out
  have B0 := HB0.out
  replace F := F.set (b := w.heap.size + 1 + 1) (.inr (by omega)) 3 (.int .i64 s2)
  replace BA := BA.put (cs' := #[.string key, .int .i64 kind, .int .u64 (m + 1), .int .i64 s2, .int .i64 v, .int .i64 v, .bool true, .slice none 0 0]) 3 (.int .i64 s2) rfl
  replace BZ := BZ.far (b := w.heap.size + 1 + 1) (by omega) 3 (.int .i64 s2)
  replace B0 := B0.far (b := w.heap.size + 1 + 1) (by omega) 3 (.int .i64 s2)
  replace F := F.set (b := w.heap.size + 1 + 1) (.inr (by omega)) 6 (.bool true)
  replace BA := BA.put (cs' := #[.string key, .int .i64 kind, .int .u64 (m + 1), .int .i64 s2, .int .i64 v, .int .i64 v, .bool true, .slice none 0 0]) 6 (.bool true) rfl
  replace BZ := BZ.far (b := w.heap.size + 1 + 1) (by omega) 6 (.bool true)
  replace B0 := B0.far (b := w.heap.size + 1 + 1) (by omega) 6 (.bool true)
  have HF6 := Lib.hid F
  have HBA6 := Lib.hid BA
  have HBZ6 := Lib.hid BZ
  have HB06 := Lib.hid B0
  have HSRC := Lib.hid ((HO.out.keep0 F).src)
  clear F BA BZ B0
  have hsz := HBA6.out.lt
  go_wp2_with (
    at_builtin
    refine wpList_app (by rfl) _ _ _ (by rfl) (w.heap.size + 1 + 1 + 1) 46 1 8 HEU.out (.slice none 0 0) 0 [] (by rfl) (Ow.nil _ _) (.slice A n c) n (bs.map (Value.int .u64)) (by rfl) (by have h := HSRC.out; rw [← HN.out] at h; exact h) (by omega) (by omega) (by omega) ?_
    intro v6 w6 ho6 hg6 hat6
    have HO6 := Lib.hid (show Ow w6 (w.heap.size + 1 + 1 + 1) v6 bs by unfold Ow; rw [← HN.out, ← Nat.zero_add n]; exact ho6)
    have hF6 := Fr.of_grown (S := []) hg6 (fun k hk => by have h2 : (none : Option Nat) = some k := hk; cases h2)
    have BA7 := HBA6.out.keep hF6 (by simp)
    have BZ7 := HBZ6.out.keep hF6 (by simp)
    have HF7 := Lib.hid (HF6.out.trans hF6)
    have B07 := HB06.out.keep hF6 (by simp)
    clear ho6 hg6 hat6 hF6 HF6 HBA6 HBZ6 HB06 x0 x1 x2 x3 x4 x5 x6 x7 y0 y1 y2 y3 y4 y5 y6 y7 z0 z1 z2 z3 z4 z5 z6 z7 t0 t1 t2 t3 t4 t5 t6 t7
    obtain ⟨A6, n6, c6, rfl⟩ := HO6.out.slice
    have HBA7 := Lib.hid BA7
    have HBZ7 := Lib.hid BZ7
    have HB07 := Lib.hid B07
    clear BA7 BZ7 B07
    obtain ⟨x0, x1, x2, x3, x4, x5, x6, x7, y0, y1, y2, y3, y4, y5, y6, y7⟩ := blk8 HBA7.out
    obtain ⟨q0, q1, q2, q3, q4, q5, q6, q7, p0, p1, p2, p3, p4, p5, p6, p7⟩ := blk8 HBZ7.out
    obtain ⟨z0, z1, z2, z3, z4, z5, z6, z7, t0, t1, t2, t3, t4, t5, t6, t7⟩ := blk8 HB07.out)
  refine ret_row (g := w.heap.size + 1) (cs := #[.string key, .int .i64 kind, .int .u64 (m + 1), .int .i64 s2, .int .i64 v, .int .i64 v, .bool true, .slice A6 n6 c6]) (Blk.fill8 (HBZ7.out.far (b := w.heap.size + 1 + 1) (by omega) _ _) rfl _ _ _ _ _ _ _ _) rfl rfl rfl ?_
  rw [HQ.out, HAE.out]
  refine ⟨.slice A6 n6 c6, rfl, ?_, ?_⟩
  · exact Ow.base (b := w.heap.size + 1 + 1 + 1) (HO6.out.keep (S := [w.heap.size + 1, w.heap.size + 1 + 1]) (Fr.fill8 (g := w.heap.size + 1) ((Fr.refl _ w6).set (b := w.heap.size + 1 + 1) (.inl (by simp)) _ _) (.inl (by simp)) _ _ _ _ _ _ _ _) (fun x hx h => by have h1 := (HO6.out.lt x h).1; simp at hx; omega)) (by omega)
  · exact Fr.fill8 (g := w.heap.size + 1) (HF7.out.set (b := w.heap.size + 1 + 1) (.inr (by omega)) _ _) (.inr (by omega)) _ _ _ _ _ _ _ _

end Go.Proofs.Ytjnjkgoofkgiiaa.Tally
