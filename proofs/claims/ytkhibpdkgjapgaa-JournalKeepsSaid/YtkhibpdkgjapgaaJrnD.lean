/- Layer 9: Sync, and what is left behind a crash. -/
import Derived.Test.YtkhibpdkgjapgaaJrnC
set_option linter.unusedVariables false
set_option linter.unusedSimpArgs false
namespace Go.Proofs.Ytkhibpdkgjapgaa.Jrn
open Go Go.RowKit Go.Proofs.Ytkhibpdkgjapgaa Go.Proofs.Ytkhibpdkgjapgaa.Eng Go.Proofs.Ytkhibpdkgjapgaa.Disk Go.Proofs.YtkhibpdkgjapgaaW.PrintWords
open Go.Proofs.Ytkhibpdkgjapgaa.Wire (encT rText enc_len64 enc_pos)
theorem jsync (R : Int) (gj gd : Nat) (many : Int) (d : Dk) (segs : List Seg) (k : Nat) (F J : List Nat) (w : World) (HG : GDisk w gd F d) (HJ : Jn w gj J gd many (segs.map fun g => g.n) (allR segs)) (ho : JOk R d segs k) (hdj : ∀ y ∈ F, y ∉ J) (hcnt : (allR segs).length ≤ 50) (hne : 0 < (allR segs).length) :
    Calls Try.prog 29 #[.pointer (some ⟨gj, 0, none⟩)] w (JPost R gd gj many F J w (allR segs) (allR segs).length) := by
  obtain ⟨vP, vL, FP, FL, FE, xs, hJe, nP, nL, nE, dPL, dPE, dLE, HB, HP, HL, HE⟩ := HJ
  obtain ⟨Ap, cp, rfl⟩ := HP.sliceN (n := (segs.map fun g => g.n).length) (by simp)
  have hsc := seg_count segs ho.full
  have hlen : (segs.map fun g => g.n).length = segs.length := List.length_map _
  have hin : ∀ y, y ∈ gj :: (FP ++ (FL ++ FE)) → y ∉ F := fun y hy h => hdj y h (by rw [hJe]; exact hy)
  rcases ho.sync with hnil | ⟨init, g, hsg, hini, hgs, hgk⟩
  · subst hnil
    simp [allR] at hne
  · have hno : hasL (init.map Seg.pt) g.n = false := no_init (by rw [← hsg]; exact ho.chain) (by rw [← hsg]; exact ho.full)
    have hgn : g.n = ((allR init).length : Int) := last_of (by rw [← hsg]; exact ho.chain)
    have htot : (allR segs).length = (allR init).length + g.rs.length := by rw [hsg, allR_app, List.length_append]; simp [allR]
    have hlast : g0 (segs.map fun x => x.n) ((segs.map fun x => x.n).length - 1) = g.n := by rw [hsg]; exact g0_last
    have hpos : 0 < (segs.map fun x => x.n).length := by rw [hlen, hsg]; simp
    have hgm : g ∈ segs := by rw [hsg]; simp
    have hcl := (chain_app init [g] 0).1 (by rw [← hsg]; exact ho.chain)
    have hS := sync_at (d := d) (init := init) (g := g) (by rw [← hsg]; exact ho.l) ho.down hno
    have hokA := sync_ok ho.ok g.n
    rw [hS] at hokA
    refine (jsync_n gj gd many Ap _ cp vL _ FP w HB (VX.of_own HP) nP rfl hpos g.n hlast d F HG ho.ok (by omega) (hin gj (by simp)) (fun y hy h => hin y (by simp [h]) hy) (by omega)).mono fun e w' hh => ?_
    rw [hS] at hh
    obtain ⟨rfl, F', h1, h2, h3⟩ := hh
    have hlt : ∀ y ∈ J, y < w.heap.size := Jn.lt ⟨_, _, FP, FL, FE, xs, hJe, nP, nL, nE, dPL, dPE, dLE, HB, HP, HL, HE⟩
    have HJ2 := Jn.keep ⟨_, _, FP, FL, FE, xs, hJe, nP, nL, nE, dPL, dPE, dLE, HB, HP, HL, HE⟩ h2 fun y hy h => hdj y h hy
    have hps : (segs.map fun x => x.n) = (init ++ [(⟨g.n, g.rs, (flat g.rs).length⟩ : Seg)]).map fun x : Seg => x.n := by rw [hsg]; simp
    have hrs : allR segs = allR (init ++ [(⟨g.n, g.rs, (flat g.rs).length⟩ : Seg)]) := by rw [hsg, allR_app, allR_app]; simp [allR]
    refine ⟨rfl, F', J, _, init ++ [(⟨g.n, g.rs, (flat g.rs).length⟩ : Seg)], h1, by rw [← hps, ← hrs]; exact HJ2, hrs.symm, ⟨rfl, ho.down, ho.room, hokA, (chain_app _ _ 0).2 ⟨hcl.1, hcl.2.1, trivial⟩, fun x hx => ?_, by rw [← hrs]; exact ho.recs, by rw [← hrs]; exact Nat.le_refl _, .inr ⟨init, _, rfl, hini, Nat.le_refl _, ?_⟩⟩, h2.only (fun z hz => .inl (by simp [hz])), fun y hy => (h3 y hy).imp (fun h => by simp [h]) id, fun y hy => .inl (by simp [hy]), fun y hy h => ?_⟩
    · rcases List.mem_append.1 hx with h | h
      · exact ho.full x (by rw [hsg]; simp [h])
      · rw [List.mem_singleton.1 h]; exact ho.full g hgm
    · simp only
      rw [show (((allR segs).length : Int) - g.n).toNat = g.rs.length by omega, List.take_length]
      exact Nat.le_refl _
    · rcases h3 y hy with h4 | h4
      · exact hdj y h4 h
      · have := hlt y h
        omega
theorem crash_synced : ∀ (init : List Seg) (k : Nat) (r : List Pt), (∀ x ∈ init, x.s = (flat x.rs).length) → crashL k (init.map Seg.pt ++ r) = init.map Seg.pt ++ crashL k r
  | [], _, _, _ => rfl
  | x :: init, k, r, h => by
    have h1 : x.pt.s = x.pt.b.length := h x (by simp)
    have e : min k (x.pt.b.length - x.pt.s) = 0 := by omega
    rw [List.map_cons, List.cons_append]
    show (⟨x.pt.n, x.pt.b.take (x.pt.s + min k (x.pt.b.length - x.pt.s)), x.pt.s + min k (x.pt.b.length - x.pt.s)⟩ : Pt) :: crashL (k - min k (x.pt.b.length - x.pt.s)) (init.map Seg.pt ++ r) = _
    rw [e, Nat.sub_zero, crash_synced init k r fun y hy => h y (by simp [hy]), Nat.add_zero, h1, List.take_length]
    congr 1
    show (⟨x.pt.n, x.pt.b, x.pt.b.length⟩ : Pt) = x.pt
    rw [← h1]
theorem crash_segs {R : Int} {d : Dk} {segs : List Seg} {k : Nat} (ho : JOk R d segs k) (keep : Int) (hcnt : (allR segs).length ≤ 50) : ∃ gs : List (Seg × List UInt8), (crash d keep).l = gs.map tailP ∧ Chain 0 (gs.map Prod.fst) ∧ (∀ x ∈ gs, (∀ r ∈ x.1.rs, recOk r) ∧ Stops x.2) ∧ (gs.length ≤ 100000 ∧ (allR (gs.map Prod.fst)).length ≤ 100000) ∧ ∃ q, k ≤ q ∧ q ≤ (allR segs).length ∧ allR (gs.map Prod.fst) = (allR segs).take q := by
  have hc : (crash d keep).l = crashL keep.toNat (segs.map Seg.pt) := by
    unfold crash
    rw [ho.down, ho.l]
    rfl
  have hsc := seg_count segs ho.full
  rcases ho.sync with hnil | ⟨init, g, hsg, hini, hgs, hgk⟩
  · subst hnil
    exact ⟨[], hc, trivial, by simp, by simp [allR], k, Nat.le_refl _, ho.kle, by simp [allR]⟩
  · have hgm : g ∈ segs := by rw [hsg]; simp
    have hgn : g.n = ((allR init).length : Int) := last_of (by rw [← hsg]; exact ho.chain)
    have htot : (allR segs).length = (allR init).length + g.rs.length := by rw [hsg, allR_app, List.length_append]; simp [allR]
    have hcl := (chain_app init [g] 0).1 (by rw [← hsg]; exact ho.chain)
    obtain ⟨q, t, h1, h2, h3, h4⟩ := cut_flat g.rs (g.s + min keep.toNat ((flat g.rs).length - g.s)) fun r hr => (ho.recs r (mem_recs hgm hr)).1
    have hk := ho.kle
    have hq := h4 ((k : Int) - g.n).toNat (by omega) (by omega)
    have hall : allR ((init.map fun x => (x, ([] : List UInt8))).map Prod.fst ++ [(⟨g.n, g.rs.take q, g.s + min keep.toNat ((flat g.rs).length - g.s)⟩ : Seg)]) = (allR segs).take ((allR init).length + q) := by
      rw [allR_app, hsg, allR_app, List.take_append]
      have e1 : (init.map fun x => (x, ([] : List UInt8))).map Prod.fst = init := by simp [Function.comp_def]
      rw [e1, List.take_of_length_le (l := allR init) (by omega), show (allR init).length + q - (allR init).length = q by omega]
      simp [allR]
    have e1 : (init.map fun x => (x, ([] : List UInt8))).map Prod.fst = init := by simp [Function.comp_def]
    refine ⟨init.map (fun x => (x, [])) ++ [((⟨g.n, g.rs.take q, g.s + min keep.toNat ((flat g.rs).length - g.s)⟩ : Seg), t)], ?_, ?_, ?_, ⟨?_, ?_⟩, (allR init).length + q, by omega, by omega, ?_⟩
    · rw [hc, hsg, List.map_append, crash_synced init _ _ hini, List.map_append]
      congr 1
      · rw [List.map_map]
        apply List.map_congr_left
        intro x _
        simp [tailP, Seg.pt]
      · show [(⟨g.pt.n, g.pt.b.take (g.pt.s + min keep.toNat (g.pt.b.length - g.pt.s)), g.pt.s + min keep.toNat (g.pt.b.length - g.pt.s)⟩ : Pt)] = _
        simp only [List.map_cons, List.map_nil, tailP]
        rw [← h1]
        rfl
    · rw [List.map_append, e1]
      exact (chain_app _ _ 0).2 ⟨hcl.1, hcl.2.1, trivial⟩
    · intro x hx
      rcases List.mem_append.1 hx with h | h
      · obtain ⟨y, hy, rfl⟩ := List.mem_map.1 h
        exact ⟨fun r hr => (ho.recs r (mem_recs (g := y) (by rw [hsg]; simp [hy]) hr)).1, stops_nil⟩
      · rw [List.mem_singleton.1 h]
        exact ⟨fun r hr => (ho.recs r (mem_recs hgm (List.mem_of_mem_take hr))).1, h2⟩
    · have := congrArg List.length hsg
      simp at this ⊢
      omega
    · rw [List.map_append]
      simp only [List.map_cons, List.map_nil]
      rw [hall, List.length_take]
      omega
    · rw [List.map_append]
      simp only [List.map_cons, List.map_nil]
      exact hall
end Go.Proofs.Ytkhibpdkgjapgaa.Jrn
