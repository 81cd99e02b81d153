/- Layer 9's walks: load, Open, Sync, Record. -/
import Derived.Test.YtkhibpdkgjapgaaJrnW
set_option linter.unusedVariables false
set_option linter.unusedSimpArgs false
namespace Go.Proofs.Ytkhibpdkgjapgaa.Jrn
open Go Go.RowKit Go.Proofs.Ytkhibpdkgjapgaa Go.Proofs.Ytkhibpdkgjapgaa.Eng Go.Proofs.YtkhibpdkgjapgaaW.PrintWords
open Go.Proofs.Ytkhibpdkgjapgaa.Disk
open Go.Proofs.Ytkhibpdkgjapgaa.Wire (encT rText)
theorem et_i : ET Try.prog 51 3 1 8 := by
  obtain ⟨i, h1, h2, h3, h4⟩ := info_parts (P := Try.prog) (e := 3) (z := .int .i64 0) (size := 1) (bytes := 8) (by kernel_rfl)
  exact ⟨by kernel_rfl, ⟨i, _, h1, h2, h3, h4, rfl⟩, by decide⟩
/-- a journal in memory -/
def Jn (w : World) (gj : Nat) (J : List Nat) (gd : Nat) (many : Int) (ps : List Int) (rs : List (List UInt8)) : Prop := ∃ vP vL FP FL FE xs, J = gj :: (FP ++ (FL ++ FE)) ∧ gj ∉ FP ∧ gj ∉ FL ∧ gj ∉ FE ∧ (∀ y ∈ FP, y ∉ FL) ∧ (∀ y ∈ FP, y ∉ FE) ∧ (∀ y ∈ FL, y ∉ FE) ∧
  Blk w gj #[.pointer (some ⟨gd, 0, none⟩), .int .i64 many, vP, vL] 80 ∧ OwnX 3 1 w FP vP (ps.map cI) ∧ OwnX 22 1 w FL vL (xs.map cR) ∧ EV w FE xs rs
def tailP (x : Seg × List UInt8) : Pt := ⟨x.1.n, flat x.1.rs ++ x.2, x.1.s⟩
def cutP (x : Seg × List UInt8) : Pt := ⟨x.1.n, flat x.1.rs, (flat x.1.rs).length⟩
theorem allR_snoc (dn : List (Seg × List UInt8)) (x : Seg × List UInt8) : allR ((dn ++ [x]).map Prod.fst) = allR (dn.map Prod.fst) ++ x.1.rs := by
  rw [List.map_append, allR_app]
  simp [allR]
theorem allR_le {gs dn lf : List (Seg × List UInt8)} (h : dn ++ lf = gs) (ht : gs.length ≤ 100000 ∧ (allR (gs.map Prod.fst)).length ≤ 100000) : (allR (dn.map Prod.fst)).length ≤ 100000 := by
  have := ht.2
  rw [← h, List.map_append, allR_app, List.length_append] at this
  omega
theorem load_next {gs dn lf : List (Seg × List UInt8)} {x : Seg × List UInt8} (h : dn ++ x :: lf = gs) (hc : Chain 0 (gs.map Prod.fst)) : x.1.n = ((allR (dn.map Prod.fst)).length : Int) := by
  rw [← h, List.map_append, chain_app, List.map_cons] at hc
  have := hc.2.1
  omega
theorem load_first {gs dn lf : List (Seg × List UInt8)} (h : dn ++ lf = gs) (hc : Chain 0 (gs.map Prod.fst)) : firstN (dn.map fun x => x.1.n) = 0 := by
  cases dn with
  | nil => rfl
  | cons a dn =>
    rw [← h] at hc
    exact hc.1
theorem load_rise {d : Dk} {dn lf : List (Seg × List UInt8)} {x : Seg × List UInt8} (ho : Dk.Ok { d with l := dn.map cutP ++ (x :: lf).map tailP }) : hasL (dn.map cutP) x.1.n = false ∧ hasL (lf.map tailP) x.1.n = false := by
  have hr := ho.rise
  simp only [List.map_cons] at hr
  obtain ⟨h1, h2, h3⟩ := List.pairwise_append.1 hr
  refine ⟨hasL_no.2 fun q hq => ?_, hasL_no.2 fun q hq => ?_⟩
  · have := h3 q hq (tailP x) (by simp)
    have e : (tailP x).n = x.1.n := rfl
    omega
  · have := (rise_cons.1 h2).1 q hq
    have e : (tailP x).n = x.1.n := rfl
    omega
theorem load_there {d : Dk} {dn lf : List (Seg × List UInt8)} {x : Seg × List UInt8} (hd : d.down = false) : there { d with l := dn.map cutP ++ (x :: lf).map tailP } x.1.n = 0 := by
  unfold there
  have : hasL (dn.map cutP ++ (x :: lf).map tailP) x.1.n = true := hasL_iff.2 ⟨tailP x, by simp, rfl⟩
  simp only [hd, this]
  rfl
theorem load_read {d : Dk} {dn lf : List (Seg × List UInt8)} {x : Seg × List UInt8} (ho : Dk.Ok { d with l := dn.map cutP ++ (x :: lf).map tailP }) (hd : d.down = false) : Disk.read { d with l := dn.map cutP ++ (x :: lf).map tailP } x.1.n = (flat x.1.rs ++ x.2, 0) := by
  unfold Disk.read
  rw [if_pos (load_there hd)]
  simp only [List.map_cons]
  rw [getL_at (load_rise ho).1 rfl]
  rfl
theorem load_cut {d : Dk} {dn lf : List (Seg × List UInt8)} {x : Seg × List UInt8} (ho : Dk.Ok { d with l := dn.map cutP ++ (x :: lf).map tailP }) (hd : d.down = false) : cut { d with l := dn.map cutP ++ (x :: lf).map tailP } x.1.n ((flat x.1.rs).length : Int) = (0, { d with l := (dn ++ [x]).map cutP ++ lf.map tailP }) := by
  unfold cut
  rw [if_pos (load_there hd)]
  simp only [List.map_cons]
  rw [getL_at (load_rise ho).1 rfl, if_neg, updL_at (load_rise ho).1 (load_rise ho).2 rfl]
  · have e : (flat x.1.rs ++ x.2).take ((flat x.1.rs).length : Int).toNat = flat x.1.rs := by simp
    simp only [tailP, e]
    simp [cutP]
  · have e : (tailP x).b.length = (flat x.1.rs).length + x.2.length := by simp [tailP]
    omega
theorem load_len {d : Dk} {dn lf : List (Seg × List UInt8)} {x : Seg × List UInt8} (ho : Dk.Ok { d with l := dn.map cutP ++ (x :: lf).map tailP }) : (flat x.1.rs ++ x.2).length ≤ 1000000 := by
  have h1 := usedL_mem (p := tailP x) (l := dn.map cutP ++ (x :: lf).map tailP) (by simp)
  have h2 := ho.fits
  have h3 := ho.room
  have e : (tailP x).b = flat x.1.rs ++ x.2 := rfl
  rw [e] at h1
  simp only at h2 h3
  omega
theorem load_count {gs dn lf : List (Seg × List UInt8)} {x : Seg × List UInt8} (h : dn ++ x :: lf = gs) (ht : gs.length ≤ 100000 ∧ (allR (gs.map Prod.fst)).length ≤ 100000) : x.1.rs.length ≤ 100000 := by
  have := ht.2
  rw [← h, List.map_append, allR_app, List.map_cons, allR_cons, List.length_append, List.length_append] at this
  omega
theorem in_gj {gj B : Nat} {F F0 : List Nat} (h : ∀ y ∈ F, y ∈ gj :: F0 ∨ B ≤ y) (hg : gj ∉ F) : ∀ y ∈ F, y ∈ F0 ∨ B ≤ y := fun y hy => by
  rcases h y hy with h1 | h1
  · rcases List.mem_cons.1 h1 with rfl | h1
    · exact absurd hy hg
    · exact .inl h1
  · exact .inr h1
theorem jn_ge {gj B : Nat} {FP FL FE : List Nat} (h1 : ∀ y ∈ FP, B ≤ y) (h2 : ∀ y ∈ FL, B ≤ y) (h3 : ∀ y ∈ FE, B ≤ y) : ∀ y ∈ gj :: (FP ++ (FL ++ FE)), y = gj ∨ B ≤ y := fun y hy => by
  simp only [List.mem_cons, List.mem_append] at hy
  rcases hy with h | h | h | h
  · exact .inl h
  · exact .inr (h1 y h)
  · exact .inr (h2 y h)
  · exact .inr (h3 y h)
theorem jn_dj {gj : Nat} {F FP FL FE : List Nat} (h0 : gj ∉ F) (h1 : ∀ y ∈ F, y ∉ FP) (h2 : ∀ y ∈ F, y ∉ FL) (h3 : ∀ y ∈ F, y ∉ FE) : ∀ y ∈ F, y ∉ gj :: (FP ++ (FL ++ FE)) := fun y hy h => by
  simp only [List.mem_cons, List.mem_append] at h
  rcases h with rfl | h | h | h
  · exact h0 hy
  · exact h1 y hy h
  · exact h2 y hy h
  · exact h3 y hy h
set_option maxRecDepth 100000 in
set_option maxHeartbeats 400000 in
theorem load_f (gj gd : Nat) (many : Int) (d : Dk) (gs : List (Seg × List UInt8)) (F0 : List Nat) (w : World) (HJ : Blk w gj #[.pointer (some ⟨gd, 0, none⟩), .int .i64 many, .slice none 0 0, .slice none 0 0] 80) (HG : GDisk w gd F0 d) (hok : d.Ok) (hdn0 : d.down = false) (hd : d.l = gs.map tailP) (hch : Chain 0 (gs.map Prod.fst)) (hgs : ∀ x ∈ gs, (∀ r ∈ x.1.rs, recOk r) ∧ Stops x.2) (hgF : gj ∉ F0) (htot : gs.length ≤ 100000 ∧ (allR (gs.map Prod.fst)).length ≤ 100000) :
    Calls Try.prog 39 #[.pointer (some ⟨gj, 0, none⟩)] w fun e w' => e = .returned .nilIface ∧ ∃ F' J, GDisk w' gd F' { d with l := gs.map cutP } ∧ Jn w' gj J gd many (gs.map fun x => x.1.n) (allR (gs.map Prod.fst)) ∧ Fr (gj :: F0) w w' ∧ (∀ y ∈ F', y ∈ F0 ∨ w.heap.size ≤ y) ∧ (∀ y ∈ J, y = gj ∨ w.heap.size ≤ y) ∧ (∀ y ∈ F', y ∉ J) := by
  have hgjl := HJ.lt
  have HA := Fr.refl (gj :: F0) w
  refine enter (N := 91) Try.func39 (c := _) rfl (by kernel_rfl) (by kernel_rfl) (e := [(0, .pointer (some ⟨gj, 0, none⟩))]) (by kernel_rfl) ?_
  refine WE.seq ?_
  refine WE.region ?_
  refine WO.run 1 0 [(2, .nilIface)] (by kernel_rfl) (by kernel_rfl) ?_
  refine WO.done (by kernel_rfl) ?_
  refine WQ.keep [0, 2] (e' := [(0, .pointer (some ⟨gj, 0, none⟩)), (2, .nilIface)]) (by kernel_rfl) ?_
  refine WQ.thenN ?_
  refine WE.seq ?_
  refine WE.region ?_
  refine WO.run 1 0 [(3, .bool true)] (by kernel_rfl) (by kernel_rfl) ?_
  refine WO.done (by kernel_rfl) ?_
  refine WQ.keep [0, 2, 3] (e' := [(0, .pointer (some ⟨gj, 0, none⟩)), (2, .nilIface), (3, .bool true)]) (by kernel_rfl) ?_
  refine WQ.thenN ?_
  refine WE.seq ?_
  refine WE.seq ?_
  refine WE.region ?_
  refine WO.run 3 0 [(14, .pointer (some ⟨gj, 0, none⟩)), (13, .pointer (some ⟨gj, 0, none⟩)), (12, .pointer (some ⟨gj, 0, none⟩))] (by kernel_rfl) (by kernel_rfl) ?_
  refine WO.ld (SQ.S 3 (by kernel_rfl)) 15 (.pointer (some ⟨gd, 0, none⟩)) (by kernel_rfl) (same (HJ.at 0 (by kernel_rfl))) ?_
  refine WO.call (SQ.E 4 (by kernel_rfl)) 16 (by kernel_rfl) (gparts gd F0 d _ HG hok (by rw [hd, List.length_map]; omega)) ?_
  rintro _ w1 ⟨v3, G4, rfl, HO5, F2, ge6⟩
  rw [show d.l.map (fun p => p.n) = (gs.map fun x => x.1.n) by rw [hd, List.map_map]; rfl] at HO5
  refine ⟨_, rfl, trivial, ?_⟩
  obtain ⟨Ad7, cp8, rfl⟩ := HO5.sliceN (n := gs.length) (by simp)
  have HVp := VX.of_own HO5
  have ge6r := fun y hy => Or.inr (a := y ∈ ([] : List Nat)) (ge6 y hy)
  have hpl : (gs.map fun x => x.1.n).length = gs.length := List.length_map _
  have nin_gj_G4 : gj ∉ G4 := grow_nin ge6r (nin0 _) HJ.lt
  have dj_G4_F0 : ∀ y ∈ G4, y ∉ F0 := grow_dj ge6r (by simp) (GDisk.lt HG)
  have ge_HA_G4 : ∀ y ∈ G4, (World.heap w).size ≤ y := grow_ge ge6r (by simp) HA.size
  have HJ := Blk.keep HJ F2 (nin0 _)
  have HG := GDisk.keep HG F2 (fun _ _ => nin0 _)
  have HA := Fr.step0 HA F2
  refine WO.run 2 5 [(18, .int .i64 0), (17, .int .i64 (gs.length : Int))] (by kernel_rfl) (by kernel_rfl) ?_
  refine WO.done (by kernel_rfl) ?_
  refine WQ.keep [0, 2, 3, 16, 17, 18] (e' := [(0, .pointer (some ⟨gj, 0, none⟩)), (2, .nilIface), (3, .bool true), (16, .slice Ad7 gs.length cp8), (17, .int .i64 (gs.length : Int)), (18, .int .i64 0)]) (by kernel_rfl) ?_
  refine WQ.thenN ?_
  refine WE.block ?_
  refine WE.loop (α := Nat × List (Seg × List UInt8) × List (Seg × List UInt8) × List Nat × (Option Addr × Nat × List Nat) × (Option Addr × Nat × List RX × List Nat) × List Nat) (E := fun ⟨i, dn, lf, F, ⟨Ap, cp, FP⟩, ⟨Al, cl, xs, FL⟩, FE⟩ => [(0, .pointer (some ⟨gj, 0, none⟩)), (2, .nilIface), (3, .bool true), (16, .slice Ad7 gs.length cp8), (17, .int .i64 (gs.length : Int)), (18, .int .i64 (i : Int))]) (I := fun ⟨i, dn, lf, F, ⟨Ap, cp, FP⟩, ⟨Al, cl, xs, FL⟩, FE⟩ wr => dn.length = i ∧ dn ++ lf = gs ∧ GDisk wr gd F ({ d with l := dn.map cutP ++ lf.map tailP }) ∧ Dk.Ok ({ d with l := dn.map cutP ++ lf.map tailP }) ∧ Blk wr gj #[.pointer (some ⟨gd, 0, none⟩), .int .i64 many, .slice Ap dn.length cp, .slice Al xs.length cl] 80 ∧ OwnX 3 1 wr FP (.slice Ap dn.length cp) ((dn.map fun x => x.1.n).map cI) ∧ OwnX 22 1 wr FL (.slice Al xs.length cl) (xs.map cR) ∧ EV wr FE xs (allR (dn.map Prod.fst)) ∧ VX cI 1 wr G4 Ad7 (gs.map fun x => x.1.n) ∧ (∀ y ∈ F, y ∈ gj :: F0 ∨ w.heap.size ≤ y) ∧ gj ∉ F ∧ (∀ y ∈ FP, w.heap.size ≤ y) ∧ (∀ y ∈ FL, w.heap.size ≤ y) ∧ (∀ y ∈ FE, w.heap.size ≤ y) ∧ (∀ y ∈ FP, y ∉ FL) ∧ (∀ y ∈ FP, y ∉ FE) ∧ (∀ y ∈ FL, y ∉ FE) ∧ (∀ y ∈ F, y ∉ FP) ∧ (∀ y ∈ F, y ∉ FL) ∧ (∀ y ∈ F, y ∉ FE) ∧ (∀ y ∈ G4, y ∉ FP) ∧ (∀ y ∈ G4, y ∉ FL) ∧ (∀ y ∈ G4, y ∉ F) ∧ Fr (gj :: F0) w wr) (m := fun ⟨i, dn, lf, F, ⟨Ap, cp, FP⟩, ⟨Al, cl, xs, FL⟩, FE⟩ => lf.length) (0, [], gs, F0, (none, 0, []), (none, 0, [], []), []) [0, 2, 3, 16, 17, 18] (by kernel_rfl) ?_ ?_
  · exact ⟨rfl, rfl, by rw [show ({ d with l := [].map cutP ++ gs.map tailP } : Dk) = d by rw [show ([].map cutP ++ gs.map tailP : List Pt) = d.l by rw [hd]; rfl]]; exact HG, by rw [show ({ d with l := [].map cutP ++ gs.map tailP } : Dk) = d by rw [show ([].map cutP ++ gs.map tailP : List Pt) = d.l by rw [hd]; rfl]]; exact hok, HJ, OwnX.nil _ _ _, OwnX.nil _ _ _, EV.nil _, HVp, fun y hy => .inl (List.mem_cons_of_mem _ hy), hgF, by simp, by simp, by simp, by simp, by simp, by simp, by simp, by simp, by simp, by simp, by simp, dj_G4_F0, HA⟩
  rintro ⟨i, dn, lf, F, ⟨Ap, cp, FP⟩, ⟨Al, cl, xs, FL⟩, FE⟩ wr ⟨hdi, hdl, HG, hokd, HJ, HOP, HOL, HE, HVp, hinF, hgF2, hgP, hgL, hgE, dPL, dPE, dLE, dFP, dFL, dFE, dGP, dGL, dGF, HA⟩
  dsimp only at hdi hdl HG hokd HJ HOP HOL HE hinF hgF2 hgP hgL hgE dPL dPE dLE dFP dFL dFE dGP dGL dGF ⊢
  have hlen := congrArg List.length hdl
  rw [List.length_append] at hlen
  have hgjw : gj < w.heap.size := hgjl
  have nP : gj ∉ FP := fun h_ => absurd hgjw (Nat.not_lt.2 (hgP _ h_))
  have nL : gj ∉ FL := fun h_ => absurd hgjw (Nat.not_lt.2 (hgL _ h_))
  have nE : gj ∉ FE := fun h_ => absurd hgjw (Nat.not_lt.2 (hgE _ h_))
  have hxl := HE.len
  have hal := allR_le hdl htot
  refine WE.seq ?_
  refine WE.region ?_
  refine WO.one (SQ.F 0 (by kernel_rfl)) 19 (.bool (decide (((i : Int) : Int) < (gs.length : Int)))) (by kernel_rfl) ?_
  refine WO.topP (((i : Int) : Int) < (gs.length : Int)) ?_ ?_
  · intro h9
    refine WO.done (by kernel_rfl) ?_
    refine WQ.keep [0, 2, 3, 16, 17, 18, 19] (e' := [(0, .pointer (some ⟨gj, 0, none⟩)), (2, .nilIface), (3, .bool true), (16, .slice Ad7 gs.length cp8), (17, .int .i64 (gs.length : Int)), (18, .int .i64 (i : Int)), (19, .bool true)]) (by kernel_rfl) ?_
    refine WQ.thenN ?_
    refine WE.seq ?_
    refine WE.condT (by kernel_rfl) ?_
    refine WE.skip ?_
    refine WQ.thenN ?_
    refine WE.seq ?_
    refine WE.block ?_
    refine WE.seq ?_
    obtain ⟨x, lf', rfl⟩ : ∃ x lf', lf = x :: lf' := by cases lf with | nil => simp at hlen; omega | cons a b => exact ⟨_, _, rfl⟩
    have hgx : g0 (gs.map fun x => x.1.n) i = x.1.n := by rw [← hdl, List.map_append, List.map_cons]; exact g0_at (by rw [List.length_map]; exact hdi)
    have hfn := load_next hdl hch
    have hfn0 := load_first hdl hch
    have hxm : x ∈ gs := by rw [← hdl]; simp
    obtain ⟨hxr, hxs⟩ := hgs x hxm
    have hrd := load_read (d := d) hokd hdn0
    have hct := load_cut (d := d) hokd hdn0
    have hxn := hokd.keys (tailP x) (by simp)
    have hok2 : Dk.Ok ({ d with l := (dn ++ [x]).map cutP ++ lf'.map tailP }) := by have h_ := cut_ok hokd x.1.n ((flat x.1.rs).length : Int); rw [hct] at h_; exact h_
    have hbl := load_len hokd
    have hxrl := load_count hdl htot
    have HVP := VX.of_own HOP
    have hPn : (dn.map fun x => x.1.n).length = dn.length := List.length_map _
    refine WE.region ?_
    refine WO.run 1 0 [(20, .int .i64 (i : Int))] (by kernel_rfl) (by kernel_rfl) ?_
    obtain ⟨ad10, hA11⟩ := HVp.addr (i := i) (by have := hpl; omega)
    refine WO.ixo (SQ.F 1 (by kernel_rfl)) 21 gs.length 1 i (i : Int) hA11 (by kernel_rfl) rfl (by omega) ?_
    refine WO.ld (SQ.S 2 (by kernel_rfl)) 22 (.int .i64 (g0 (gs.map fun x => x.1.n) i)) (by kernel_rfl) (same (HVp.at0 hA11 (g0_some (gs.map fun x => x.1.n) i (by have := hpl; omega)) (by kernel_rfl))) ?_
    refine WO.run 2 3 [(5, .int .i64 (g0 (gs.map fun x => x.1.n) i)), (4, .int .i64 (i : Int))] (by kernel_rfl) (by kernel_rfl) ?_
    refine WO.done (by kernel_rfl) ?_
    refine WQ.keep [0, 2, 3, 4, 5, 16, 17, 18, 19] (e' := [(0, .pointer (some ⟨gj, 0, none⟩)), (2, .nilIface), (3, .bool true), (4, .int .i64 (i : Int)), (5, .int .i64 (g0 (gs.map fun x => x.1.n) i)), (16, .slice Ad7 gs.length cp8), (17, .int .i64 (gs.length : Int)), (18, .int .i64 (i : Int)), (19, .bool true)]) (by kernel_rfl) ?_
    refine WQ.thenN ?_
    refine WE.seq ?_
    refine WE.seq ?_
    rw [hgx]
    refine WE.region ?_
    refine WO.run 4 0 [(26, .int .i64 (i : Int)), (25, .bool false), (24, .bool false), (23, .bool true)] (by kernel_rfl) (by kernel_rfl) ?_
    refine WO.one (SQ.F 4 (by kernel_rfl)) 27 (.bool (decide (((i : Int) : Int) > (0 : Int)))) (by kernel_rfl) ?_
    refine WO.topP (((i : Int) : Int) > (0 : Int)) ?_ ?_
    · intro h12
      refine WO.run 3 5 [(30, .pointer (some ⟨gj, 0, none⟩)), (29, .int .i64 x.1.n), (28, .bool true)] (by kernel_rfl) (by kernel_rfl) ?_
      have HVP := VX.of_own HOP
      refine WO.call (SQ.E 8 (by kernel_rfl)) 31 (by kernel_rfl) (next_j gj gd many Ap Al dn.length cp xs.length cl (dn.map fun x => x.1.n) FP _ HJ HVP hPn nP (by omega) (by omega) (by rw [hfn0]; omega)) ?_
      rintro _ w13 ⟨rfl, F14⟩
      rw [hfn0]
      refine ⟨_, rfl, trivial, ?_⟩
      have HJ := Blk.keep HJ F14 (nin0 _)
      have HG := GDisk.keep HG F14 (fun _ _ => nin0 _)
      have HOP := HOP.keep F14 (fun _ _ => nin0 _)
      have HOL := HOL.keep F14 (fun _ _ => nin0 _)
      have HE := EV.keep HE F14 (fun _ _ => nin0 _)
      have HVp := HVp.keep F14 (fun _ _ => nin0 _)
      have HA := Fr.step0 HA F14
      refine WO.one (SQ.F 9 (by kernel_rfl)) 32 (.bool (!decide ((x.1.n : Int) = (0 + (xs.length : Int))))) (by kernel_rfl) ?_
      refine WO.topNT ((x.1.n : Int) = (0 + (xs.length : Int))) (by omega) ?_
      refine WO.run 2 10 [(34, .bool false), (33, .bool false)] (by kernel_rfl) (by kernel_rfl) ?_
      refine WO.done (by kernel_rfl) ?_
      refine WQ.keep [0, 2, 3, 4, 5, 16, 17, 18, 19, 34] (e' := [(0, .pointer (some ⟨gj, 0, none⟩)), (2, .nilIface), (3, .bool true), (4, .int .i64 (i : Int)), (5, .int .i64 x.1.n), (16, .slice Ad7 gs.length cp8), (17, .int .i64 (gs.length : Int)), (18, .int .i64 (i : Int)), (19, .bool true), (34, .bool false)]) (by kernel_rfl) ?_
      refine WQ.thenN ?_
      refine WE.condF (by kernel_rfl) ?_
      refine WE.skip ?_
      refine WQ.thenN ?_
      refine WE.seq ?_
      refine WE.region ?_
      refine WO.run 3 0 [(47, .pointer (some ⟨gj, 0, none⟩)), (46, .pointer (some ⟨gj, 0, none⟩)), (45, .pointer (some ⟨gj, 0, none⟩))] (by kernel_rfl) (by kernel_rfl) ?_
      refine WO.ld (SQ.S 3 (by kernel_rfl)) 48 (.pointer (some ⟨gd, 0, none⟩)) (by kernel_rfl) (same (HJ.at 0 (by kernel_rfl))) ?_
      refine WO.run 1 4 [(49, .int .i64 x.1.n)] (by kernel_rfl) (by kernel_rfl) ?_
      refine WO.call (SQ.E 5 (by kernel_rfl)) 50 (by kernel_rfl) (gread gd F ({ d with l := dn.map cutP ++ (x :: lf').map tailP }) x.1.n _ HG hokd hxn) ?_
      rintro _ w15 ⟨v17, G18, rfl, HO19, F16, ge20⟩
      rw [hrd] at HO19 ⊢
      refine ⟨_, rfl, trivial, ?_⟩
      obtain ⟨Ad21, cp22, rfl⟩ := HO19.sliceN (n := (flat x.1.rs ++ x.2).length) (List.length_map _)
      have hcp_ := own_cap HO19 (List.length_map _)
      have HVr23 := VX.of_own HO19
      have ge20r := fun y hy => Or.inr (a := y ∈ ([] : List Nat)) (ge20 y hy)
      have nin_gj_G18 : gj ∉ G18 := grow_nin ge20r (nin0 _) HJ.lt
      have dj_G18_F : ∀ y ∈ G18, y ∉ F := grow_dj ge20r (by simp) (GDisk.lt HG)
      have dj_G18_FP : ∀ y ∈ G18, y ∉ FP := grow_dj ge20r (by simp) HOP.lt
      have dj_G18_FL : ∀ y ∈ G18, y ∉ FL := grow_dj ge20r (by simp) HOL.lt
      have dj_G18_FE : ∀ y ∈ G18, y ∉ FE := grow_dj ge20r (by simp) (EV.lt HE)
      have dj_G18_G4 : ∀ y ∈ G18, y ∉ G4 := grow_dj ge20r (by simp) HVp.lt
      have ge_HA_G18 : ∀ y ∈ G18, (World.heap w).size ≤ y := grow_ge ge20r (by simp) HA.size
      have HJ := Blk.keep HJ F16 (nin0 _)
      have HG := GDisk.keep HG F16 (fun _ _ => nin0 _)
      have HOP := HOP.keep F16 (fun _ _ => nin0 _)
      have HOL := HOL.keep F16 (fun _ _ => nin0 _)
      have HE := EV.keep HE F16 (fun _ _ => nin0 _)
      have HVp := HVp.keep F16 (fun _ _ => nin0 _)
      have HA := Fr.step0 HA F16
      refine WO.run 5 6 [(8, .nilIface), (7, .slice Ad21 ((flat x.1.rs ++ x.2).length) cp22), (52, .nilIface), (51, .slice Ad21 ((flat x.1.rs ++ x.2).length) cp22), (44, .tuple #[.slice Ad21 ((flat x.1.rs ++ x.2).length) cp22, .nilIface])] (by kernel_rfl) (by kernel_rfl) ?_
      refine WO.done (by kernel_rfl) ?_
      refine WQ.keep [0, 2, 3, 4, 5, 7, 8, 16, 17, 18, 19, 34] (e' := [(0, .pointer (some ⟨gj, 0, none⟩)), (2, .nilIface), (3, .bool true), (4, .int .i64 (i : Int)), (5, .int .i64 x.1.n), (7, .slice Ad21 ((flat x.1.rs ++ x.2).length) cp22), (8, .nilIface), (16, .slice Ad7 gs.length cp8), (17, .int .i64 (gs.length : Int)), (18, .int .i64 (i : Int)), (19, .bool true), (34, .bool false)]) (by kernel_rfl) ?_
      refine WQ.thenN ?_
      refine WE.seq ?_
      refine WE.seq ?_
      refine WE.region ?_
      refine WO.run 2 0 [(54, .bool false), (53, .nilIface)] (by kernel_rfl) (by kernel_rfl) ?_
      refine WO.done (by kernel_rfl) ?_
      refine WQ.keep [0, 2, 3, 4, 5, 7, 8, 16, 17, 18, 19, 34, 54] (e' := [(0, .pointer (some ⟨gj, 0, none⟩)), (2, .nilIface), (3, .bool true), (4, .int .i64 (i : Int)), (5, .int .i64 x.1.n), (7, .slice Ad21 ((flat x.1.rs ++ x.2).length) cp22), (8, .nilIface), (16, .slice Ad7 gs.length cp8), (17, .int .i64 (gs.length : Int)), (18, .int .i64 (i : Int)), (19, .bool true), (34, .bool false), (54, .bool false)]) (by kernel_rfl) ?_
      refine WQ.thenN ?_
      refine WE.condF (by kernel_rfl) ?_
      refine WE.skip ?_
      refine WQ.thenN ?_
      refine WE.seq ?_
      refine WE.region ?_
      refine WO.run 1 0 [(57, .slice Ad21 ((flat x.1.rs ++ x.2).length) cp22)] (by kernel_rfl) (by kernel_rfl) ?_
      refine WO.call (SQ.E 1 (by kernel_rfl)) 58 (by kernel_rfl) (records_f Ad21 ((flat x.1.rs ++ x.2).length) cp22 (flat x.1.rs ++ x.2) x.1.rs x.2 G18 _ HVr23 rfl hcp_ hbl rfl hxr hxs (by omega)) ?_
      rintro _ w24 ⟨Ao, co, xs2, FO, FE2, rfl, HO2, HE2, hgO2, hgE2, dOE2, F25⟩
      refine ⟨_, rfl, trivial, ?_⟩
      have hgO2r := fun y hy => Or.inr (a := y ∈ ([] : List Nat)) (hgO2 y hy)
      have hgE2r := fun y hy => Or.inr (a := y ∈ ([] : List Nat)) (hgE2 y hy)
      have nin_gj_FO : gj ∉ FO := grow_nin hgO2r (nin0 _) HJ.lt
      have dj_FO_F : ∀ y ∈ FO, y ∉ F := grow_dj hgO2r (by simp) (GDisk.lt HG)
      have dj_FO_FP : ∀ y ∈ FO, y ∉ FP := grow_dj hgO2r (by simp) HOP.lt
      have dj_FO_FL : ∀ y ∈ FO, y ∉ FL := grow_dj hgO2r (by simp) HOL.lt
      have dj_FO_FE : ∀ y ∈ FO, y ∉ FE := grow_dj hgO2r (by simp) (EV.lt HE)
      have dj_FO_G4 : ∀ y ∈ FO, y ∉ G4 := grow_dj hgO2r (by simp) HVp.lt
      have dj_FO_G18 : ∀ y ∈ FO, y ∉ G18 := grow_dj hgO2r (by simp) HVr23.lt
      have ge_HA_FO : ∀ y ∈ FO, (World.heap w).size ≤ y := grow_ge hgO2r (by simp) HA.size
      have nin_gj_FE2 : gj ∉ FE2 := grow_nin hgE2r (nin0 _) HJ.lt
      have dj_FE2_F : ∀ y ∈ FE2, y ∉ F := grow_dj hgE2r (by simp) (GDisk.lt HG)
      have dj_FE2_FP : ∀ y ∈ FE2, y ∉ FP := grow_dj hgE2r (by simp) HOP.lt
      have dj_FE2_FL : ∀ y ∈ FE2, y ∉ FL := grow_dj hgE2r (by simp) HOL.lt
      have dj_FE2_FE : ∀ y ∈ FE2, y ∉ FE := grow_dj hgE2r (by simp) (EV.lt HE)
      have dj_FE2_G4 : ∀ y ∈ FE2, y ∉ G4 := grow_dj hgE2r (by simp) HVp.lt
      have dj_FE2_G18 : ∀ y ∈ FE2, y ∉ G18 := grow_dj hgE2r (by simp) HVr23.lt
      have ge_HA_FE2 : ∀ y ∈ FE2, (World.heap w).size ≤ y := grow_ge hgE2r (by simp) HA.size
      have HJ := Blk.keep HJ F25 (nin0 _)
      have HG := GDisk.keep HG F25 (fun _ _ => nin0 _)
      have HOP := HOP.keep F25 (fun _ _ => nin0 _)
      have HOL := HOL.keep F25 (fun _ _ => nin0 _)
      have HE := EV.keep HE F25 (fun _ _ => nin0 _)
      have HVp := HVp.keep F25 (fun _ _ => nin0 _)
      have HVr23 := HVr23.keep F25 (fun _ _ => nin0 _)
      have HA := Fr.step0 HA F25
      have hx2l := HE2.len
      refine WO.run 5 2 [(10, .int .i64 (((flat x.1.rs).length : Nat) : Int)), (9, .slice Ao xs2.length co), (60, .int .i64 (((flat x.1.rs).length : Nat) : Int)), (59, .slice Ao xs2.length co), (56, .tuple #[.slice Ao xs2.length co, .int .i64 (((flat x.1.rs).length : Nat) : Int)])] (by kernel_rfl) (by kernel_rfl) ?_
      refine WO.done (by kernel_rfl) ?_
      refine WQ.keep [0, 2, 3, 4, 5, 7, 8, 9, 10, 16, 17, 18, 19, 34, 54] (e' := [(0, .pointer (some ⟨gj, 0, none⟩)), (2, .nilIface), (3, .bool true), (4, .int .i64 (i : Int)), (5, .int .i64 x.1.n), (7, .slice Ad21 ((flat x.1.rs ++ x.2).length) cp22), (8, .nilIface), (9, .slice Ao xs2.length co), (10, .int .i64 (((flat x.1.rs).length : Nat) : Int)), (16, .slice Ad7 gs.length cp8), (17, .int .i64 (gs.length : Int)), (18, .int .i64 (i : Int)), (19, .bool true), (34, .bool false), (54, .bool false)]) (by kernel_rfl) ?_
      refine WQ.thenN ?_
      refine WE.seq ?_
      refine WE.seq ?_
      refine WE.region ?_
      refine WO.run 3 0 [(63, .pointer (some ⟨gj, 0, none⟩)), (62, .pointer (some ⟨gj, 0, none⟩)), (61, .pointer (some ⟨gj, 0, none⟩))] (by kernel_rfl) (by kernel_rfl) ?_
      refine WO.ld (SQ.S 3 (by kernel_rfl)) 64 (.pointer (some ⟨gd, 0, none⟩)) (by kernel_rfl) (same (HJ.at 0 (by kernel_rfl))) ?_
      refine WO.run 2 4 [(66, .int .i64 (((flat x.1.rs).length : Nat) : Int)), (65, .int .i64 x.1.n)] (by kernel_rfl) (by kernel_rfl) ?_
      refine WO.call (SQ.E 6 (by kernel_rfl)) 67 (by kernel_rfl) (gcut gd F ({ d with l := dn.map cutP ++ (x :: lf').map tailP }) x.1.n ((flat x.1.rs).length : Int) _ HG hokd hxn) ?_
      rintro _ w26 ⟨rfl, D28, HG30, F27, hg29⟩
      rw [hct] at HG30 ⊢
      refine ⟨_, rfl, trivial, ?_⟩
      have nin_gj_D28 : gj ∉ D28 := grow_nin hg29 hgF2 HJ.lt
      have dj_D28_FP : ∀ y ∈ D28, y ∉ FP := grow_dj hg29 dFP HOP.lt
      have dj_D28_FL : ∀ y ∈ D28, y ∉ FL := grow_dj hg29 dFL HOL.lt
      have dj_D28_FE : ∀ y ∈ D28, y ∉ FE := grow_dj hg29 dFE (EV.lt HE)
      have dj_D28_G4 : ∀ y ∈ D28, y ∉ G4 := grow_dj hg29 (dj_symm dGF) HVp.lt
      have dj_D28_FO : ∀ y ∈ D28, y ∉ FO := grow_dj hg29 (dj_symm dj_FO_F) HO2.lt
      have dj_D28_FE2 : ∀ y ∈ D28, y ∉ FE2 := grow_dj hg29 (dj_symm dj_FE2_F) (EV.lt HE2)
      have inF_HA_D28 : ∀ y ∈ D28, y ∈ gj :: F0 ∨ (World.heap w).size ≤ y := grow_in hg29 hinF HA.size
      have HJ := Blk.keep HJ F27 hgF2
      have HOP := HOP.keep F27 (dj_symm dFP)
      have HOL := HOL.keep F27 (dj_symm dFL)
      have HE := EV.keep HE F27 (dj_symm dFE)
      have HVp := HVp.keep F27 dGF
      have HO2 := HO2.keep F27 dj_FO_F
      have HE2 := EV.keep HE2 F27 dj_FE2_F
      have HA := Fr.step HA F27 hinF
      refine WO.run 1 7 [(11, .nilIface)] (by kernel_rfl) (by kernel_rfl) ?_
      refine WO.done (by kernel_rfl) ?_
      refine WQ.keep [0, 2, 3, 4, 5, 7, 8, 9, 10, 11, 16, 17, 18, 19, 34, 54] (e' := [(0, .pointer (some ⟨gj, 0, none⟩)), (2, .nilIface), (3, .bool true), (4, .int .i64 (i : Int)), (5, .int .i64 x.1.n), (7, .slice Ad21 ((flat x.1.rs ++ x.2).length) cp22), (8, .nilIface), (9, .slice Ao xs2.length co), (10, .int .i64 (((flat x.1.rs).length : Nat) : Int)), (11, .nilIface), (16, .slice Ad7 gs.length cp8), (17, .int .i64 (gs.length : Int)), (18, .int .i64 (i : Int)), (19, .bool true), (34, .bool false), (54, .bool false)]) (by kernel_rfl) ?_
      refine WQ.thenN ?_
      refine WE.seq ?_
      refine WE.region ?_
      refine WO.run 2 0 [(69, .bool false), (68, .nilIface)] (by kernel_rfl) (by kernel_rfl) ?_
      refine WO.done (by kernel_rfl) ?_
      refine WQ.keep [0, 2, 3, 4, 5, 7, 8, 9, 10, 11, 16, 17, 18, 19, 34, 54, 69] (e' := [(0, .pointer (some ⟨gj, 0, none⟩)), (2, .nilIface), (3, .bool true), (4, .int .i64 (i : Int)), (5, .int .i64 x.1.n), (7, .slice Ad21 ((flat x.1.rs ++ x.2).length) cp22), (8, .nilIface), (9, .slice Ao xs2.length co), (10, .int .i64 (((flat x.1.rs).length : Nat) : Int)), (11, .nilIface), (16, .slice Ad7 gs.length cp8), (17, .int .i64 (gs.length : Int)), (18, .int .i64 (i : Int)), (19, .bool true), (34, .bool false), (54, .bool false), (69, .bool false)]) (by kernel_rfl) ?_
      refine WQ.thenN ?_
      refine WE.condF (by kernel_rfl) ?_
      refine WE.skip ?_
      refine WQ.thenN ?_
      have ltz_gj := hgjl
      have hz31 := HA.size
      refine WE.draw [.free, .free, .free, .free, .free, .still, .free, .effR, .effR, .free, .free, .free, .still, .free, .eff, .free, .free, .eff, .free, .free, .eff] (FrB (World.heap w).size) (frBR _) (by kernel_rfl) 21 (Array.replicate 21 false) (by kernel_rfl) rfl ?_
      intro w32 F33 _
      have HJ := Blk.keep HJ F33 (nin0 _)
      have HOP := HOP.keep F33 (fun _ _ => nin0 _)
      have HOL := HOL.keep F33 (fun _ _ => nin0 _)
      have HE := EV.keep HE F33 (fun _ _ => nin0 _)
      have HVp := HVp.keep F33 (fun _ _ => nin0 _)
      have HO2 := HO2.keep F33 (fun _ _ => nin0 _)
      have HE2 := EV.keep HE2 F33 (fun _ _ => nin0 _)
      have HG30 := GDisk.keep HG30 F33 (fun _ _ => nin0 _)
      have hz31 := Nat.le_trans hz31 F33.size
      have HA := Fr.step0 HA F33
      refine WO.one (SA.F (frBR _) (frBT _) _ 0 _ (by kernel_rfl)) 71 (.pointer (some ⟨gj, 0, none⟩)) (by kernel_rfl) ?_
      refine WO.one (SA.F (frBR _) (frBT _) _ 1 _ (by kernel_rfl)) 72 (.pointer (some ⟨gj, 0, none⟩)) (by kernel_rfl) ?_
      refine WO.one (SA.F (frBR _) (frBT _) _ 2 _ (by kernel_rfl)) 73 (.pointer (some ⟨gj, 0, none⟩)) (by kernel_rfl) ?_
      refine WO.one (SA.F (frBR _) (frBT _) _ 3 _ (by kernel_rfl)) 74 (.pointer (some ⟨gj, 0, none⟩)) (by kernel_rfl) ?_
      refine WO.one (SA.F (frBR _) (frBT _) _ 4 _ (by kernel_rfl)) 75 (.pointer (some ⟨gj, 2, none⟩)) (by kernel_rfl) ?_
      refine WO.ld (SA.S (frBR _) (frBT _) _ 5 _ (by kernel_rfl)) 76 (.slice Ap dn.length cp) (by kernel_rfl) (fun _ k => (HJ.keepB k ltz_gj).at 2 (by kernel_rfl)) ?_
      refine WO.one (SA.F (frBR _) (frBT _) _ 6 _ (by kernel_rfl)) 77 (.int .i64 x.1.n) (by kernel_rfl) ?_
      refine WO.one (SA.F (frBR _) (frBT _) _ 9 _ (by kernel_rfl)) 80 (.pointer (some ⟨gj, 0, none⟩)) (by kernel_rfl) ?_
      refine WO.one (SA.F (frBR _) (frBT _) _ 10 _ (by kernel_rfl)) 81 (.pointer (some ⟨gj, 0, none⟩)) (by kernel_rfl) ?_
      refine WO.one (SA.F (frBR _) (frBT _) _ 11 _ (by kernel_rfl)) 82 (.pointer (some ⟨gj, 3, none⟩)) (by kernel_rfl) ?_
      refine WO.ld (SA.S (frBR _) (frBT _) _ 12 _ (by kernel_rfl)) 83 (.slice Al xs.length cl) (by kernel_rfl) (fun _ k => (HJ.keepB k ltz_gj).at 3 (by kernel_rfl)) ?_
      refine WO.one (SA.F (frBR _) (frBT _) _ 13 _ (by kernel_rfl)) 84 (.slice Ao xs2.length co) (by kernel_rfl) ?_
      refine WO.bx (SA.ER _ 7 _ (by kernel_rfl) rfl) 78 #[.int .i64 x.1.n] 3 (fun g => .slice (some ⟨g, 0, none⟩) 1 1) (by kernel_rfl) (frB_of hz31 (by simp)) ?_
      intro g34 w35 HB37 F36 le38 _
      have ne_gj_g34 : gj ≠ g34 := Nat.ne_of_lt (Nat.lt_of_lt_of_le HJ.lt le38)
      have nin_g34_FP : g34 ∉ FP := new_nin HOP.lt le38
      have nin_g34_FL : g34 ∉ FL := new_nin HOL.lt le38
      have nin_g34_FE : g34 ∉ FE := new_nin (EV.lt HE) le38
      have nin_g34_G4 : g34 ∉ G4 := new_nin HVp.lt le38
      have nin_g34_FO : g34 ∉ FO := new_nin HO2.lt le38
      have nin_g34_FE2 : g34 ∉ FE2 := new_nin (EV.lt HE2) le38
      have nin_g34_D28 : g34 ∉ D28 := new_nin (GDisk.lt HG30) le38
      have ge_HA_g34 := Nat.le_trans HA.size le38
      have gz_hz31_g34 := Nat.le_trans hz31 le38
      have HJ := Blk.keep HJ F36 (nin0 _)
      have HOP := HOP.keep F36 (fun _ _ => nin0 _)
      have HOL := HOL.keep F36 (fun _ _ => nin0 _)
      have HE := EV.keep HE F36 (fun _ _ => nin0 _)
      have HVp := HVp.keep F36 (fun _ _ => nin0 _)
      have HO2 := HO2.keep F36 (fun _ _ => nin0 _)
      have HE2 := EV.keep HE2 F36 (fun _ _ => nin0 _)
      have HG30 := GDisk.keep HG30 F36 (fun _ _ => nin0 _)
      have hz31 := Nat.le_trans hz31 F36.size
      have HA := Fr.step0 HA F36
      refine WO.appX (SA.ER _ 8 _ (by kernel_rfl) rfl) 79 (m := 1) (ys := List.map cI ([x.1.n])) et_i HOP (by rw [List.length_map] <;> first | rfl | omega | (simp <;> omega)) (RowB.src (RowB.of_blk (n := 1) HB37 (List.map cI [x.1.n]) rfl rfl (cI_len _) (cI_one _) (by omega))) (cI_len _) (cI_one _) (by kernel_rfl) (by rw [List.length_map]; first | omega | (simp only [List.length_nil]; omega)) (by rw [List.length_map]; first | omega | (simp only [List.length_nil]; omega)) (frB_of hz31 hgP) ?_
      intro v44 w45 G46 HO47 F48 hg49
      rw [← List.map_append] at HO47
      have nin_gj_G46 : gj ∉ G46 := grow_nin hg49 nP HJ.lt
      have nin_g34_G46 : g34 ∉ G46 := grow_nin hg49 nin_g34_FP HB37.lt
      have dj_G46_FL : ∀ y ∈ G46, y ∉ FL := grow_dj hg49 dPL HOL.lt
      have dj_G46_FE : ∀ y ∈ G46, y ∉ FE := grow_dj hg49 dPE (EV.lt HE)
      have dj_G46_G4 : ∀ y ∈ G46, y ∉ G4 := grow_dj hg49 (dj_symm dGP) HVp.lt
      have dj_G46_FO : ∀ y ∈ G46, y ∉ FO := grow_dj hg49 (dj_symm dj_FO_FP) HO2.lt
      have dj_G46_FE2 : ∀ y ∈ G46, y ∉ FE2 := grow_dj hg49 (dj_symm dj_FE2_FP) (EV.lt HE2)
      have dj_G46_D28 : ∀ y ∈ G46, y ∉ D28 := grow_dj hg49 (dj_symm dj_D28_FP) (GDisk.lt HG30)
      have ge_HA_G46 : ∀ y ∈ G46, (World.heap w).size ≤ y := grow_ge hg49 hgP HA.size
      have HJ := Blk.keep HJ F48 nP
      have HB37 := Blk.keep HB37 F48 nin_g34_FP
      have HOL := HOL.keep F48 (dj_symm dPL)
      have HE := EV.keep HE F48 (dj_symm dPE)
      have HVp := HVp.keep F48 dGP
      have HO2 := HO2.keep F48 dj_FO_FP
      have HE2 := EV.keep HE2 F48 dj_FE2_FP
      have HG30 := GDisk.keep HG30 F48 dj_D28_FP
      have hz31 := Nat.le_trans hz31 F48.size
      have HA := Fr.step HA F48 (inF hgP)
      obtain ⟨A50, cap51, rfl⟩ := HO47.sliceN (List.length_map _)
      have := @List.length_append _ (dn.map fun x => x.1.n) ([x.1.n])
      refine WO.appX (SA.E _ 14 _ (by kernel_rfl) rfl) 85 (m := xs2.length) (ys := List.map cR xs2) et_r HOL (by rw [List.length_map] <;> first | rfl | omega | (simp <;> omega)) (HO2.srcN (List.length_map _)) (cR_len _) (cR_one _) (by kernel_rfl) (by rw [List.length_map]; first | omega | (simp only [List.length_nil]; omega)) (by rw [List.length_map]; first | omega | (simp only [List.length_nil]; omega)) (fun _ _ => trivial) ?_
      intro v57 w58 G59 HO60 F61 hg62
      rw [← List.map_append] at HO60
      have nin_gj_G59 : gj ∉ G59 := grow_nin hg62 nL HJ.lt
      have nin_g34_G59 : g34 ∉ G59 := grow_nin hg62 nin_g34_FL HB37.lt
      have dj_G59_FE : ∀ y ∈ G59, y ∉ FE := grow_dj hg62 dLE (EV.lt HE)
      have dj_G59_G4 : ∀ y ∈ G59, y ∉ G4 := grow_dj hg62 (dj_symm dGL) HVp.lt
      have dj_G59_FO : ∀ y ∈ G59, y ∉ FO := grow_dj hg62 (dj_symm dj_FO_FL) HO2.lt
      have dj_G59_FE2 : ∀ y ∈ G59, y ∉ FE2 := grow_dj hg62 (dj_symm dj_FE2_FL) (EV.lt HE2)
      have dj_G59_D28 : ∀ y ∈ G59, y ∉ D28 := grow_dj hg62 (dj_symm dj_D28_FL) (GDisk.lt HG30)
      have dj_G59_G46 : ∀ y ∈ G59, y ∉ G46 := grow_dj hg62 (dj_symm dj_G46_FL) HO47.lt
      have ge_HA_G59 : ∀ y ∈ G59, (World.heap w).size ≤ y := grow_ge hg62 hgL HA.size
      have HJ := Blk.keep HJ F61 nL
      have HB37 := Blk.keep HB37 F61 nin_g34_FL
      have HE := EV.keep HE F61 (dj_symm dLE)
      have HVp := HVp.keep F61 dGL
      have HO2 := HO2.keep F61 dj_FO_FL
      have HE2 := EV.keep HE2 F61 dj_FE2_FL
      have HG30 := GDisk.keep HG30 F61 dj_D28_FL
      have HO47 := HO47.keep F61 dj_G46_FL
      have hz31 := Nat.le_trans hz31 F61.size
      have HA := Fr.step HA F61 (inF hgL)
      obtain ⟨A63, cap64, rfl⟩ := HO60.sliceN (List.length_map _)
      have := @List.length_append _ xs xs2
      refine WO.one (SA.F (frBR _) (frBT _) _ 15 _ (by kernel_rfl)) 86 (.pointer (some ⟨gj, 0, none⟩)) (by kernel_rfl) ?_
      refine WO.one (SA.F (frBR _) (frBT _) _ 16 _ (by kernel_rfl)) 87 (.pointer (some ⟨gj, 2, none⟩)) (by kernel_rfl) ?_
      refine WO.st (SA.E _ 17 _ (by kernel_rfl) rfl) gj 2 [.slice A50 (((dn.map fun x => x.1.n) ++ [x.1.n]).length) cap51] #[.pointer (some ⟨gd, 0, none⟩), .int .i64 many, .slice A50 (((dn.map fun x => x.1.n) ++ [x.1.n]).length) cap51, .slice Al xs.length cl] (by kernel_rfl) HJ (by kernel_rfl) (by kernel_rfl) (fun _ _ => trivial) ?_
      intro w65 HB67 F66 _
      have HB37 := Blk.keep HB37 F66 (ninC (Ne.symm ne_gj_g34) (nin0 _))
      have HE := EV.keep HE F66 (djB nE)
      have HVp := HVp.keep F66 (djB nin_gj_G4)
      have HO2 := HO2.keep F66 (djB nin_gj_FO)
      have HE2 := EV.keep HE2 F66 (djB nin_gj_FE2)
      have HG30 := GDisk.keep HG30 F66 (djB nin_gj_D28)
      have HO47 := HO47.keep F66 (djB nin_gj_G46)
      have HO60 := HO60.keep F66 (djB nin_gj_G59)
      have hz31 := Nat.le_trans hz31 F66.size
      have HA := Fr.step HA F66 (inSL (by simp) inS0)
      refine WO.one (SA.F (frBR _) (frBT _) _ 18 _ (by kernel_rfl)) 88 (.pointer (some ⟨gj, 0, none⟩)) (by kernel_rfl) ?_
      refine WO.one (SA.F (frBR _) (frBT _) _ 19 _ (by kernel_rfl)) 89 (.pointer (some ⟨gj, 3, none⟩)) (by kernel_rfl) ?_
      refine WO.st (SA.E _ 20 _ (by kernel_rfl) rfl) gj 3 [.slice A63 ((xs ++ xs2).length) cap64] #[.pointer (some ⟨gd, 0, none⟩), .int .i64 many, .slice A50 (((dn.map fun x => x.1.n) ++ [x.1.n]).length) cap51, .slice A63 ((xs ++ xs2).length) cap64] (by kernel_rfl) HB67 (by kernel_rfl) (by kernel_rfl) (fun _ _ => trivial) ?_
      intro w68 HB70 F69 _
      have HB37 := Blk.keep HB37 F69 (ninC (Ne.symm ne_gj_g34) (nin0 _))
      have HE := EV.keep HE F69 (djB nE)
      have HVp := HVp.keep F69 (djB nin_gj_G4)
      have HO2 := HO2.keep F69 (djB nin_gj_FO)
      have HE2 := EV.keep HE2 F69 (djB nin_gj_FE2)
      have HG30 := GDisk.keep HG30 F69 (djB nin_gj_D28)
      have HO47 := HO47.keep F69 (djB nin_gj_G46)
      have HO60 := HO60.keep F69 (djB nin_gj_G59)
      have hz31 := Nat.le_trans hz31 F69.size
      have HA := Fr.step HA F69 (inSL (by simp) inS0)
      refine WO.doneA (by kernel_rfl) ?_
      refine WQ.keep [0, 2, 3, 4, 5, 7, 8, 9, 10, 11, 16, 17, 18, 19, 34, 54, 69] (e' := [(0, .pointer (some ⟨gj, 0, none⟩)), (2, .nilIface), (3, .bool true), (4, .int .i64 (i : Int)), (5, .int .i64 x.1.n), (7, .slice Ad21 ((flat x.1.rs ++ x.2).length) cp22), (8, .nilIface), (9, .slice Ao xs2.length co), (10, .int .i64 (((flat x.1.rs).length : Nat) : Int)), (11, .nilIface), (16, .slice Ad7 gs.length cp8), (17, .int .i64 (gs.length : Int)), (18, .int .i64 (i : Int)), (19, .bool true), (34, .bool false), (54, .bool false), (69, .bool false)]) (by kernel_rfl) ?_
      refine WQ.blkN ?_
      refine WQ.thenN ?_
      have HE3 := HE.app HE2
      rw [← allR_snoc] at HE3
      have hE3 : ∀ y ∈ FE ++ FE2, w.heap.size ≤ y := fun y hy => (List.mem_append.1 hy).elim (hgE y) (ge_HA_FE2 y)
      refine WE.region ?_
      refine WO.one (SQ.F 0 (by kernel_rfl)) 90 (.int .i64 (IntKind.i64.wrap ((i : Int) + 1))) (by kernel_rfl) ?_
      refine WO.top (v' := .int .i64 ((i + 1 : Nat) : Int)) (wrap_i64 (by omega) (by omega)) ?_
      refine WO.run 1 1 [(18, .int .i64 ((i + 1 : Nat) : Int))] (by kernel_rfl) (by kernel_rfl) ?_
      refine WO.done (by kernel_rfl) ?_
      refine WQ.keep [0, 2, 3, 4, 5, 7, 8, 9, 10, 11, 16, 17, 18, 19, 34, 54, 69] (e' := [(0, .pointer (some ⟨gj, 0, none⟩)), (2, .nilIface), (3, .bool true), (4, .int .i64 (i : Int)), (5, .int .i64 x.1.n), (7, .slice Ad21 ((flat x.1.rs ++ x.2).length) cp22), (8, .nilIface), (9, .slice Ao xs2.length co), (10, .int .i64 (((flat x.1.rs).length : Nat) : Int)), (11, .nilIface), (16, .slice Ad7 gs.length cp8), (17, .int .i64 (gs.length : Int)), (18, .int .i64 ((i + 1 : Nat) : Int)), (19, .bool true), (34, .bool false), (54, .bool false), (69, .bool false)]) (by kernel_rfl) ?_
      refine WQ.round ?_
      intro a_ ha_
      refine ⟨(i + 1, dn ++ [x], lf', D28, (A50, cap51, G46), (A63, cap64, (xs ++ xs2), G59), FE ++ FE2), ?_, ha_.keep [0, 2, 3, 16, 17, 18] (by kernel_rfl), ?_⟩
      · exact Nat.lt_succ_self _
      · exact ⟨by simp [hdi], by rw [← hdl]; simp, HG30, hok2, by have h_ := HB70; simpa using h_, by have h_ := HO47; simpa using h_, HO60, HE3, HVp, inF_HA_D28, nin_gj_D28, ge_HA_G46, ge_HA_G59, hE3, (dj_symm dj_G59_G46), fun y hy h_ => (List.mem_append.1 h_).elim (dj_G46_FE y hy) (dj_G46_FE2 y hy), fun y hy h_ => (List.mem_append.1 h_).elim (dj_G59_FE y hy) (dj_G59_FE2 y hy), (dj_symm dj_G46_D28), (dj_symm dj_G59_D28), fun y hy h_ => (List.mem_append.1 h_).elim (dj_D28_FE y hy) (dj_D28_FE2 y hy), (dj_symm dj_G46_G4), (dj_symm dj_G59_G4), (dj_symm dj_D28_G4), HA⟩
    intro h12
    refine WO.run 7 5 [(34, .bool false), (33, .bool false), (32, undef), (31, undef), (30, undef), (29, undef), (28, .bool false)] (by kernel_rfl) (by kernel_rfl) ?_
    refine WO.done (by kernel_rfl) ?_
    refine WQ.keep [0, 2, 3, 4, 5, 16, 17, 18, 19, 34] (e' := [(0, .pointer (some ⟨gj, 0, none⟩)), (2, .nilIface), (3, .bool true), (4, .int .i64 (i : Int)), (5, .int .i64 x.1.n), (16, .slice Ad7 gs.length cp8), (17, .int .i64 (gs.length : Int)), (18, .int .i64 (i : Int)), (19, .bool true), (34, .bool false)]) (by kernel_rfl) ?_
    refine WQ.thenN ?_
    refine WE.condF (by kernel_rfl) ?_
    refine WE.skip ?_
    refine WQ.thenN ?_
    refine WE.seq ?_
    refine WE.region ?_
    refine WO.run 3 0 [(47, .pointer (some ⟨gj, 0, none⟩)), (46, .pointer (some ⟨gj, 0, none⟩)), (45, .pointer (some ⟨gj, 0, none⟩))] (by kernel_rfl) (by kernel_rfl) ?_
    refine WO.ld (SQ.S 3 (by kernel_rfl)) 48 (.pointer (some ⟨gd, 0, none⟩)) (by kernel_rfl) (same (HJ.at 0 (by kernel_rfl))) ?_
    refine WO.run 1 4 [(49, .int .i64 x.1.n)] (by kernel_rfl) (by kernel_rfl) ?_
    refine WO.call (SQ.E 5 (by kernel_rfl)) 50 (by kernel_rfl) (gread gd F ({ d with l := dn.map cutP ++ (x :: lf').map tailP }) x.1.n _ HG hokd hxn) ?_
    rintro _ w71 ⟨v73, G74, rfl, HO75, F72, ge76⟩
    rw [hrd] at HO75 ⊢
    refine ⟨_, rfl, trivial, ?_⟩
    obtain ⟨Ad77, cp78, rfl⟩ := HO75.sliceN (n := (flat x.1.rs ++ x.2).length) (List.length_map _)
    have hcp_ := own_cap HO75 (List.length_map _)
    have HVr79 := VX.of_own HO75
    have ge76r := fun y hy => Or.inr (a := y ∈ ([] : List Nat)) (ge76 y hy)
    have nin_gj_G74 : gj ∉ G74 := grow_nin ge76r (nin0 _) HJ.lt
    have dj_G74_F : ∀ y ∈ G74, y ∉ F := grow_dj ge76r (by simp) (GDisk.lt HG)
    have dj_G74_FP : ∀ y ∈ G74, y ∉ FP := grow_dj ge76r (by simp) HOP.lt
    have dj_G74_FL : ∀ y ∈ G74, y ∉ FL := grow_dj ge76r (by simp) HOL.lt
    have dj_G74_FE : ∀ y ∈ G74, y ∉ FE := grow_dj ge76r (by simp) (EV.lt HE)
    have dj_G74_G4 : ∀ y ∈ G74, y ∉ G4 := grow_dj ge76r (by simp) HVp.lt
    have ge_HA_G74 : ∀ y ∈ G74, (World.heap w).size ≤ y := grow_ge ge76r (by simp) HA.size
    have HJ := Blk.keep HJ F72 (nin0 _)
    have HG := GDisk.keep HG F72 (fun _ _ => nin0 _)
    have HOP := HOP.keep F72 (fun _ _ => nin0 _)
    have HOL := HOL.keep F72 (fun _ _ => nin0 _)
    have HE := EV.keep HE F72 (fun _ _ => nin0 _)
    have HVp := HVp.keep F72 (fun _ _ => nin0 _)
    have HA := Fr.step0 HA F72
    refine WO.run 5 6 [(8, .nilIface), (7, .slice Ad77 ((flat x.1.rs ++ x.2).length) cp78), (52, .nilIface), (51, .slice Ad77 ((flat x.1.rs ++ x.2).length) cp78), (44, .tuple #[.slice Ad77 ((flat x.1.rs ++ x.2).length) cp78, .nilIface])] (by kernel_rfl) (by kernel_rfl) ?_
    refine WO.done (by kernel_rfl) ?_
    refine WQ.keep [0, 2, 3, 4, 5, 7, 8, 16, 17, 18, 19, 34] (e' := [(0, .pointer (some ⟨gj, 0, none⟩)), (2, .nilIface), (3, .bool true), (4, .int .i64 (i : Int)), (5, .int .i64 x.1.n), (7, .slice Ad77 ((flat x.1.rs ++ x.2).length) cp78), (8, .nilIface), (16, .slice Ad7 gs.length cp8), (17, .int .i64 (gs.length : Int)), (18, .int .i64 (i : Int)), (19, .bool true), (34, .bool false)]) (by kernel_rfl) ?_
    refine WQ.thenN ?_
    refine WE.seq ?_
    refine WE.seq ?_
    refine WE.region ?_
    refine WO.run 2 0 [(54, .bool false), (53, .nilIface)] (by kernel_rfl) (by kernel_rfl) ?_
    refine WO.done (by kernel_rfl) ?_
    refine WQ.keep [0, 2, 3, 4, 5, 7, 8, 16, 17, 18, 19, 34, 54] (e' := [(0, .pointer (some ⟨gj, 0, none⟩)), (2, .nilIface), (3, .bool true), (4, .int .i64 (i : Int)), (5, .int .i64 x.1.n), (7, .slice Ad77 ((flat x.1.rs ++ x.2).length) cp78), (8, .nilIface), (16, .slice Ad7 gs.length cp8), (17, .int .i64 (gs.length : Int)), (18, .int .i64 (i : Int)), (19, .bool true), (34, .bool false), (54, .bool false)]) (by kernel_rfl) ?_
    refine WQ.thenN ?_
    refine WE.condF (by kernel_rfl) ?_
    refine WE.skip ?_
    refine WQ.thenN ?_
    refine WE.seq ?_
    refine WE.region ?_
    refine WO.run 1 0 [(57, .slice Ad77 ((flat x.1.rs ++ x.2).length) cp78)] (by kernel_rfl) (by kernel_rfl) ?_
    refine WO.call (SQ.E 1 (by kernel_rfl)) 58 (by kernel_rfl) (records_f Ad77 ((flat x.1.rs ++ x.2).length) cp78 (flat x.1.rs ++ x.2) x.1.rs x.2 G74 _ HVr79 rfl hcp_ hbl rfl hxr hxs (by omega)) ?_
    rintro _ w80 ⟨Ao, co, xs2, FO, FE2, rfl, HO2, HE2, hgO2, hgE2, dOE2, F81⟩
    refine ⟨_, rfl, trivial, ?_⟩
    have hgO2r := fun y hy => Or.inr (a := y ∈ ([] : List Nat)) (hgO2 y hy)
    have hgE2r := fun y hy => Or.inr (a := y ∈ ([] : List Nat)) (hgE2 y hy)
    have nin_gj_FO : gj ∉ FO := grow_nin hgO2r (nin0 _) HJ.lt
    have dj_FO_F : ∀ y ∈ FO, y ∉ F := grow_dj hgO2r (by simp) (GDisk.lt HG)
    have dj_FO_FP : ∀ y ∈ FO, y ∉ FP := grow_dj hgO2r (by simp) HOP.lt
    have dj_FO_FL : ∀ y ∈ FO, y ∉ FL := grow_dj hgO2r (by simp) HOL.lt
    have dj_FO_FE : ∀ y ∈ FO, y ∉ FE := grow_dj hgO2r (by simp) (EV.lt HE)
    have dj_FO_G4 : ∀ y ∈ FO, y ∉ G4 := grow_dj hgO2r (by simp) HVp.lt
    have dj_FO_G74 : ∀ y ∈ FO, y ∉ G74 := grow_dj hgO2r (by simp) HVr79.lt
    have ge_HA_FO : ∀ y ∈ FO, (World.heap w).size ≤ y := grow_ge hgO2r (by simp) HA.size
    have nin_gj_FE2 : gj ∉ FE2 := grow_nin hgE2r (nin0 _) HJ.lt
    have dj_FE2_F : ∀ y ∈ FE2, y ∉ F := grow_dj hgE2r (by simp) (GDisk.lt HG)
    have dj_FE2_FP : ∀ y ∈ FE2, y ∉ FP := grow_dj hgE2r (by simp) HOP.lt
    have dj_FE2_FL : ∀ y ∈ FE2, y ∉ FL := grow_dj hgE2r (by simp) HOL.lt
    have dj_FE2_FE : ∀ y ∈ FE2, y ∉ FE := grow_dj hgE2r (by simp) (EV.lt HE)
    have dj_FE2_G4 : ∀ y ∈ FE2, y ∉ G4 := grow_dj hgE2r (by simp) HVp.lt
    have dj_FE2_G74 : ∀ y ∈ FE2, y ∉ G74 := grow_dj hgE2r (by simp) HVr79.lt
    have ge_HA_FE2 : ∀ y ∈ FE2, (World.heap w).size ≤ y := grow_ge hgE2r (by simp) HA.size
    have HJ := Blk.keep HJ F81 (nin0 _)
    have HG := GDisk.keep HG F81 (fun _ _ => nin0 _)
    have HOP := HOP.keep F81 (fun _ _ => nin0 _)
    have HOL := HOL.keep F81 (fun _ _ => nin0 _)
    have HE := EV.keep HE F81 (fun _ _ => nin0 _)
    have HVp := HVp.keep F81 (fun _ _ => nin0 _)
    have HVr79 := HVr79.keep F81 (fun _ _ => nin0 _)
    have HA := Fr.step0 HA F81
    have hx2l := HE2.len
    refine WO.run 5 2 [(10, .int .i64 (((flat x.1.rs).length : Nat) : Int)), (9, .slice Ao xs2.length co), (60, .int .i64 (((flat x.1.rs).length : Nat) : Int)), (59, .slice Ao xs2.length co), (56, .tuple #[.slice Ao xs2.length co, .int .i64 (((flat x.1.rs).length : Nat) : Int)])] (by kernel_rfl) (by kernel_rfl) ?_
    refine WO.done (by kernel_rfl) ?_
    refine WQ.keep [0, 2, 3, 4, 5, 7, 8, 9, 10, 16, 17, 18, 19, 34, 54] (e' := [(0, .pointer (some ⟨gj, 0, none⟩)), (2, .nilIface), (3, .bool true), (4, .int .i64 (i : Int)), (5, .int .i64 x.1.n), (7, .slice Ad77 ((flat x.1.rs ++ x.2).length) cp78), (8, .nilIface), (9, .slice Ao xs2.length co), (10, .int .i64 (((flat x.1.rs).length : Nat) : Int)), (16, .slice Ad7 gs.length cp8), (17, .int .i64 (gs.length : Int)), (18, .int .i64 (i : Int)), (19, .bool true), (34, .bool false), (54, .bool false)]) (by kernel_rfl) ?_
    refine WQ.thenN ?_
    refine WE.seq ?_
    refine WE.seq ?_
    refine WE.region ?_
    refine WO.run 3 0 [(63, .pointer (some ⟨gj, 0, none⟩)), (62, .pointer (some ⟨gj, 0, none⟩)), (61, .pointer (some ⟨gj, 0, none⟩))] (by kernel_rfl) (by kernel_rfl) ?_
    refine WO.ld (SQ.S 3 (by kernel_rfl)) 64 (.pointer (some ⟨gd, 0, none⟩)) (by kernel_rfl) (same (HJ.at 0 (by kernel_rfl))) ?_
    refine WO.run 2 4 [(66, .int .i64 (((flat x.1.rs).length : Nat) : Int)), (65, .int .i64 x.1.n)] (by kernel_rfl) (by kernel_rfl) ?_
    refine WO.call (SQ.E 6 (by kernel_rfl)) 67 (by kernel_rfl) (gcut gd F ({ d with l := dn.map cutP ++ (x :: lf').map tailP }) x.1.n ((flat x.1.rs).length : Int) _ HG hokd hxn) ?_
    rintro _ w82 ⟨rfl, D84, HG86, F83, hg85⟩
    rw [hct] at HG86 ⊢
    refine ⟨_, rfl, trivial, ?_⟩
    have nin_gj_D84 : gj ∉ D84 := grow_nin hg85 hgF2 HJ.lt
    have dj_D84_FP : ∀ y ∈ D84, y ∉ FP := grow_dj hg85 dFP HOP.lt
    have dj_D84_FL : ∀ y ∈ D84, y ∉ FL := grow_dj hg85 dFL HOL.lt
    have dj_D84_FE : ∀ y ∈ D84, y ∉ FE := grow_dj hg85 dFE (EV.lt HE)
    have dj_D84_G4 : ∀ y ∈ D84, y ∉ G4 := grow_dj hg85 (dj_symm dGF) HVp.lt
    have dj_D84_FO : ∀ y ∈ D84, y ∉ FO := grow_dj hg85 (dj_symm dj_FO_F) HO2.lt
    have dj_D84_FE2 : ∀ y ∈ D84, y ∉ FE2 := grow_dj hg85 (dj_symm dj_FE2_F) (EV.lt HE2)
    have inF_HA_D84 : ∀ y ∈ D84, y ∈ gj :: F0 ∨ (World.heap w).size ≤ y := grow_in hg85 hinF HA.size
    have HJ := Blk.keep HJ F83 hgF2
    have HOP := HOP.keep F83 (dj_symm dFP)
    have HOL := HOL.keep F83 (dj_symm dFL)
    have HE := EV.keep HE F83 (dj_symm dFE)
    have HVp := HVp.keep F83 dGF
    have HO2 := HO2.keep F83 dj_FO_F
    have HE2 := EV.keep HE2 F83 dj_FE2_F
    have HA := Fr.step HA F83 hinF
    refine WO.run 1 7 [(11, .nilIface)] (by kernel_rfl) (by kernel_rfl) ?_
    refine WO.done (by kernel_rfl) ?_
    refine WQ.keep [0, 2, 3, 4, 5, 7, 8, 9, 10, 11, 16, 17, 18, 19, 34, 54] (e' := [(0, .pointer (some ⟨gj, 0, none⟩)), (2, .nilIface), (3, .bool true), (4, .int .i64 (i : Int)), (5, .int .i64 x.1.n), (7, .slice Ad77 ((flat x.1.rs ++ x.2).length) cp78), (8, .nilIface), (9, .slice Ao xs2.length co), (10, .int .i64 (((flat x.1.rs).length : Nat) : Int)), (11, .nilIface), (16, .slice Ad7 gs.length cp8), (17, .int .i64 (gs.length : Int)), (18, .int .i64 (i : Int)), (19, .bool true), (34, .bool false), (54, .bool false)]) (by kernel_rfl) ?_
    refine WQ.thenN ?_
    refine WE.seq ?_
    refine WE.region ?_
    refine WO.run 2 0 [(69, .bool false), (68, .nilIface)] (by kernel_rfl) (by kernel_rfl) ?_
    refine WO.done (by kernel_rfl) ?_
    refine WQ.keep [0, 2, 3, 4, 5, 7, 8, 9, 10, 11, 16, 17, 18, 19, 34, 54, 69] (e' := [(0, .pointer (some ⟨gj, 0, none⟩)), (2, .nilIface), (3, .bool true), (4, .int .i64 (i : Int)), (5, .int .i64 x.1.n), (7, .slice Ad77 ((flat x.1.rs ++ x.2).length) cp78), (8, .nilIface), (9, .slice Ao xs2.length co), (10, .int .i64 (((flat x.1.rs).length : Nat) : Int)), (11, .nilIface), (16, .slice Ad7 gs.length cp8), (17, .int .i64 (gs.length : Int)), (18, .int .i64 (i : Int)), (19, .bool true), (34, .bool false), (54, .bool false), (69, .bool false)]) (by kernel_rfl) ?_
    refine WQ.thenN ?_
    refine WE.condF (by kernel_rfl) ?_
    refine WE.skip ?_
    refine WQ.thenN ?_
    have ltz_gj := hgjl
    have hz87 := HA.size
    refine WE.draw [.free, .free, .free, .free, .free, .still, .free, .effR, .effR, .free, .free, .free, .still, .free, .eff, .free, .free, .eff, .free, .free, .eff] (FrB (World.heap w).size) (frBR _) (by kernel_rfl) 21 (Array.replicate 21 false) (by kernel_rfl) rfl ?_
    intro w88 F89 _
    have HJ := Blk.keep HJ F89 (nin0 _)
    have HOP := HOP.keep F89 (fun _ _ => nin0 _)
    have HOL := HOL.keep F89 (fun _ _ => nin0 _)
    have HE := EV.keep HE F89 (fun _ _ => nin0 _)
    have HVp := HVp.keep F89 (fun _ _ => nin0 _)
    have HO2 := HO2.keep F89 (fun _ _ => nin0 _)
    have HE2 := EV.keep HE2 F89 (fun _ _ => nin0 _)
    have HG86 := GDisk.keep HG86 F89 (fun _ _ => nin0 _)
    have hz87 := Nat.le_trans hz87 F89.size
    have HA := Fr.step0 HA F89
    refine WO.one (SA.F (frBR _) (frBT _) _ 0 _ (by kernel_rfl)) 71 (.pointer (some ⟨gj, 0, none⟩)) (by kernel_rfl) ?_
    refine WO.one (SA.F (frBR _) (frBT _) _ 1 _ (by kernel_rfl)) 72 (.pointer (some ⟨gj, 0, none⟩)) (by kernel_rfl) ?_
    refine WO.one (SA.F (frBR _) (frBT _) _ 2 _ (by kernel_rfl)) 73 (.pointer (some ⟨gj, 0, none⟩)) (by kernel_rfl) ?_
    refine WO.one (SA.F (frBR _) (frBT _) _ 3 _ (by kernel_rfl)) 74 (.pointer (some ⟨gj, 0, none⟩)) (by kernel_rfl) ?_
    refine WO.one (SA.F (frBR _) (frBT _) _ 4 _ (by kernel_rfl)) 75 (.pointer (some ⟨gj, 2, none⟩)) (by kernel_rfl) ?_
    refine WO.ld (SA.S (frBR _) (frBT _) _ 5 _ (by kernel_rfl)) 76 (.slice Ap dn.length cp) (by kernel_rfl) (fun _ k => (HJ.keepB k ltz_gj).at 2 (by kernel_rfl)) ?_
    refine WO.one (SA.F (frBR _) (frBT _) _ 6 _ (by kernel_rfl)) 77 (.int .i64 x.1.n) (by kernel_rfl) ?_
    refine WO.one (SA.F (frBR _) (frBT _) _ 9 _ (by kernel_rfl)) 80 (.pointer (some ⟨gj, 0, none⟩)) (by kernel_rfl) ?_
    refine WO.one (SA.F (frBR _) (frBT _) _ 10 _ (by kernel_rfl)) 81 (.pointer (some ⟨gj, 0, none⟩)) (by kernel_rfl) ?_
    refine WO.one (SA.F (frBR _) (frBT _) _ 11 _ (by kernel_rfl)) 82 (.pointer (some ⟨gj, 3, none⟩)) (by kernel_rfl) ?_
    refine WO.ld (SA.S (frBR _) (frBT _) _ 12 _ (by kernel_rfl)) 83 (.slice Al xs.length cl) (by kernel_rfl) (fun _ k => (HJ.keepB k ltz_gj).at 3 (by kernel_rfl)) ?_
    refine WO.one (SA.F (frBR _) (frBT _) _ 13 _ (by kernel_rfl)) 84 (.slice Ao xs2.length co) (by kernel_rfl) ?_
    refine WO.bx (SA.ER _ 7 _ (by kernel_rfl) rfl) 78 #[.int .i64 x.1.n] 3 (fun g => .slice (some ⟨g, 0, none⟩) 1 1) (by kernel_rfl) (frB_of hz87 (by simp)) ?_
    intro g90 w91 HB93 F92 le94 _
    have ne_gj_g90 : gj ≠ g90 := Nat.ne_of_lt (Nat.lt_of_lt_of_le HJ.lt le94)
    have nin_g90_FP : g90 ∉ FP := new_nin HOP.lt le94
    have nin_g90_FL : g90 ∉ FL := new_nin HOL.lt le94
    have nin_g90_FE : g90 ∉ FE := new_nin (EV.lt HE) le94
    have nin_g90_G4 : g90 ∉ G4 := new_nin HVp.lt le94
    have nin_g90_FO : g90 ∉ FO := new_nin HO2.lt le94
    have nin_g90_FE2 : g90 ∉ FE2 := new_nin (EV.lt HE2) le94
    have nin_g90_D84 : g90 ∉ D84 := new_nin (GDisk.lt HG86) le94
    have ge_HA_g90 := Nat.le_trans HA.size le94
    have gz_hz87_g90 := Nat.le_trans hz87 le94
    have HJ := Blk.keep HJ F92 (nin0 _)
    have HOP := HOP.keep F92 (fun _ _ => nin0 _)
    have HOL := HOL.keep F92 (fun _ _ => nin0 _)
    have HE := EV.keep HE F92 (fun _ _ => nin0 _)
    have HVp := HVp.keep F92 (fun _ _ => nin0 _)
    have HO2 := HO2.keep F92 (fun _ _ => nin0 _)
    have HE2 := EV.keep HE2 F92 (fun _ _ => nin0 _)
    have HG86 := GDisk.keep HG86 F92 (fun _ _ => nin0 _)
    have hz87 := Nat.le_trans hz87 F92.size
    have HA := Fr.step0 HA F92
    refine WO.appX (SA.ER _ 8 _ (by kernel_rfl) rfl) 79 (m := 1) (ys := List.map cI ([x.1.n])) et_i HOP (by rw [List.length_map] <;> first | rfl | omega | (simp <;> omega)) (RowB.src (RowB.of_blk (n := 1) HB93 (List.map cI [x.1.n]) rfl rfl (cI_len _) (cI_one _) (by omega))) (cI_len _) (cI_one _) (by kernel_rfl) (by rw [List.length_map]; first | omega | (simp only [List.length_nil]; omega)) (by rw [List.length_map]; first | omega | (simp only [List.length_nil]; omega)) (frB_of hz87 hgP) ?_
    intro v100 w101 G102 HO103 F104 hg105
    rw [← List.map_append] at HO103
    have nin_gj_G102 : gj ∉ G102 := grow_nin hg105 nP HJ.lt
    have nin_g90_G102 : g90 ∉ G102 := grow_nin hg105 nin_g90_FP HB93.lt
    have dj_G102_FL : ∀ y ∈ G102, y ∉ FL := grow_dj hg105 dPL HOL.lt
    have dj_G102_FE : ∀ y ∈ G102, y ∉ FE := grow_dj hg105 dPE (EV.lt HE)
    have dj_G102_G4 : ∀ y ∈ G102, y ∉ G4 := grow_dj hg105 (dj_symm dGP) HVp.lt
    have dj_G102_FO : ∀ y ∈ G102, y ∉ FO := grow_dj hg105 (dj_symm dj_FO_FP) HO2.lt
    have dj_G102_FE2 : ∀ y ∈ G102, y ∉ FE2 := grow_dj hg105 (dj_symm dj_FE2_FP) (EV.lt HE2)
    have dj_G102_D84 : ∀ y ∈ G102, y ∉ D84 := grow_dj hg105 (dj_symm dj_D84_FP) (GDisk.lt HG86)
    have ge_HA_G102 : ∀ y ∈ G102, (World.heap w).size ≤ y := grow_ge hg105 hgP HA.size
    have HJ := Blk.keep HJ F104 nP
    have HB93 := Blk.keep HB93 F104 nin_g90_FP
    have HOL := HOL.keep F104 (dj_symm dPL)
    have HE := EV.keep HE F104 (dj_symm dPE)
    have HVp := HVp.keep F104 dGP
    have HO2 := HO2.keep F104 dj_FO_FP
    have HE2 := EV.keep HE2 F104 dj_FE2_FP
    have HG86 := GDisk.keep HG86 F104 dj_D84_FP
    have hz87 := Nat.le_trans hz87 F104.size
    have HA := Fr.step HA F104 (inF hgP)
    obtain ⟨A106, cap107, rfl⟩ := HO103.sliceN (List.length_map _)
    have := @List.length_append _ (dn.map fun x => x.1.n) ([x.1.n])
    refine WO.appX (SA.E _ 14 _ (by kernel_rfl) rfl) 85 (m := xs2.length) (ys := List.map cR xs2) et_r HOL (by rw [List.length_map] <;> first | rfl | omega | (simp <;> omega)) (HO2.srcN (List.length_map _)) (cR_len _) (cR_one _) (by kernel_rfl) (by rw [List.length_map]; first | omega | (simp only [List.length_nil]; omega)) (by rw [List.length_map]; first | omega | (simp only [List.length_nil]; omega)) (fun _ _ => trivial) ?_
    intro v113 w114 G115 HO116 F117 hg118
    rw [← List.map_append] at HO116
    have nin_gj_G115 : gj ∉ G115 := grow_nin hg118 nL HJ.lt
    have nin_g90_G115 : g90 ∉ G115 := grow_nin hg118 nin_g90_FL HB93.lt
    have dj_G115_FE : ∀ y ∈ G115, y ∉ FE := grow_dj hg118 dLE (EV.lt HE)
    have dj_G115_G4 : ∀ y ∈ G115, y ∉ G4 := grow_dj hg118 (dj_symm dGL) HVp.lt
    have dj_G115_FO : ∀ y ∈ G115, y ∉ FO := grow_dj hg118 (dj_symm dj_FO_FL) HO2.lt
    have dj_G115_FE2 : ∀ y ∈ G115, y ∉ FE2 := grow_dj hg118 (dj_symm dj_FE2_FL) (EV.lt HE2)
    have dj_G115_D84 : ∀ y ∈ G115, y ∉ D84 := grow_dj hg118 (dj_symm dj_D84_FL) (GDisk.lt HG86)
    have dj_G115_G102 : ∀ y ∈ G115, y ∉ G102 := grow_dj hg118 (dj_symm dj_G102_FL) HO103.lt
    have ge_HA_G115 : ∀ y ∈ G115, (World.heap w).size ≤ y := grow_ge hg118 hgL HA.size
    have HJ := Blk.keep HJ F117 nL
    have HB93 := Blk.keep HB93 F117 nin_g90_FL
    have HE := EV.keep HE F117 (dj_symm dLE)
    have HVp := HVp.keep F117 dGL
    have HO2 := HO2.keep F117 dj_FO_FL
    have HE2 := EV.keep HE2 F117 dj_FE2_FL
    have HG86 := GDisk.keep HG86 F117 dj_D84_FL
    have HO103 := HO103.keep F117 dj_G102_FL
    have hz87 := Nat.le_trans hz87 F117.size
    have HA := Fr.step HA F117 (inF hgL)
    obtain ⟨A119, cap120, rfl⟩ := HO116.sliceN (List.length_map _)
    have := @List.length_append _ xs xs2
    refine WO.one (SA.F (frBR _) (frBT _) _ 15 _ (by kernel_rfl)) 86 (.pointer (some ⟨gj, 0, none⟩)) (by kernel_rfl) ?_
    refine WO.one (SA.F (frBR _) (frBT _) _ 16 _ (by kernel_rfl)) 87 (.pointer (some ⟨gj, 2, none⟩)) (by kernel_rfl) ?_
    refine WO.st (SA.E _ 17 _ (by kernel_rfl) rfl) gj 2 [.slice A106 (((dn.map fun x => x.1.n) ++ [x.1.n]).length) cap107] #[.pointer (some ⟨gd, 0, none⟩), .int .i64 many, .slice A106 (((dn.map fun x => x.1.n) ++ [x.1.n]).length) cap107, .slice Al xs.length cl] (by kernel_rfl) HJ (by kernel_rfl) (by kernel_rfl) (fun _ _ => trivial) ?_
    intro w121 HB123 F122 _
    have HB93 := Blk.keep HB93 F122 (ninC (Ne.symm ne_gj_g90) (nin0 _))
    have HE := EV.keep HE F122 (djB nE)
    have HVp := HVp.keep F122 (djB nin_gj_G4)
    have HO2 := HO2.keep F122 (djB nin_gj_FO)
    have HE2 := EV.keep HE2 F122 (djB nin_gj_FE2)
    have HG86 := GDisk.keep HG86 F122 (djB nin_gj_D84)
    have HO103 := HO103.keep F122 (djB nin_gj_G102)
    have HO116 := HO116.keep F122 (djB nin_gj_G115)
    have hz87 := Nat.le_trans hz87 F122.size
    have HA := Fr.step HA F122 (inSL (by simp) inS0)
    refine WO.one (SA.F (frBR _) (frBT _) _ 18 _ (by kernel_rfl)) 88 (.pointer (some ⟨gj, 0, none⟩)) (by kernel_rfl) ?_
    refine WO.one (SA.F (frBR _) (frBT _) _ 19 _ (by kernel_rfl)) 89 (.pointer (some ⟨gj, 3, none⟩)) (by kernel_rfl) ?_
    refine WO.st (SA.E _ 20 _ (by kernel_rfl) rfl) gj 3 [.slice A119 ((xs ++ xs2).length) cap120] #[.pointer (some ⟨gd, 0, none⟩), .int .i64 many, .slice A106 (((dn.map fun x => x.1.n) ++ [x.1.n]).length) cap107, .slice A119 ((xs ++ xs2).length) cap120] (by kernel_rfl) HB123 (by kernel_rfl) (by kernel_rfl) (fun _ _ => trivial) ?_
    intro w124 HB126 F125 _
    have HB93 := Blk.keep HB93 F125 (ninC (Ne.symm ne_gj_g90) (nin0 _))
    have HE := EV.keep HE F125 (djB nE)
    have HVp := HVp.keep F125 (djB nin_gj_G4)
    have HO2 := HO2.keep F125 (djB nin_gj_FO)
    have HE2 := EV.keep HE2 F125 (djB nin_gj_FE2)
    have HG86 := GDisk.keep HG86 F125 (djB nin_gj_D84)
    have HO103 := HO103.keep F125 (djB nin_gj_G102)
    have HO116 := HO116.keep F125 (djB nin_gj_G115)
    have hz87 := Nat.le_trans hz87 F125.size
    have HA := Fr.step HA F125 (inSL (by simp) inS0)
    refine WO.doneA (by kernel_rfl) ?_
    refine WQ.keep [0, 2, 3, 4, 5, 7, 8, 9, 10, 11, 16, 17, 18, 19, 34, 54, 69] (e' := [(0, .pointer (some ⟨gj, 0, none⟩)), (2, .nilIface), (3, .bool true), (4, .int .i64 (i : Int)), (5, .int .i64 x.1.n), (7, .slice Ad77 ((flat x.1.rs ++ x.2).length) cp78), (8, .nilIface), (9, .slice Ao xs2.length co), (10, .int .i64 (((flat x.1.rs).length : Nat) : Int)), (11, .nilIface), (16, .slice Ad7 gs.length cp8), (17, .int .i64 (gs.length : Int)), (18, .int .i64 (i : Int)), (19, .bool true), (34, .bool false), (54, .bool false), (69, .bool false)]) (by kernel_rfl) ?_
    refine WQ.blkN ?_
    refine WQ.thenN ?_
    have HE3 := HE.app HE2
    rw [← allR_snoc] at HE3
    have hE3 : ∀ y ∈ FE ++ FE2, w.heap.size ≤ y := fun y hy => (List.mem_append.1 hy).elim (hgE y) (ge_HA_FE2 y)
    refine WE.region ?_
    refine WO.one (SQ.F 0 (by kernel_rfl)) 90 (.int .i64 (IntKind.i64.wrap ((i : Int) + 1))) (by kernel_rfl) ?_
    refine WO.top (v' := .int .i64 ((i + 1 : Nat) : Int)) (wrap_i64 (by omega) (by omega)) ?_
    refine WO.run 1 1 [(18, .int .i64 ((i + 1 : Nat) : Int))] (by kernel_rfl) (by kernel_rfl) ?_
    refine WO.done (by kernel_rfl) ?_
    refine WQ.keep [0, 2, 3, 4, 5, 7, 8, 9, 10, 11, 16, 17, 18, 19, 34, 54, 69] (e' := [(0, .pointer (some ⟨gj, 0, none⟩)), (2, .nilIface), (3, .bool true), (4, .int .i64 (i : Int)), (5, .int .i64 x.1.n), (7, .slice Ad77 ((flat x.1.rs ++ x.2).length) cp78), (8, .nilIface), (9, .slice Ao xs2.length co), (10, .int .i64 (((flat x.1.rs).length : Nat) : Int)), (11, .nilIface), (16, .slice Ad7 gs.length cp8), (17, .int .i64 (gs.length : Int)), (18, .int .i64 ((i + 1 : Nat) : Int)), (19, .bool true), (34, .bool false), (54, .bool false), (69, .bool false)]) (by kernel_rfl) ?_
    refine WQ.round ?_
    intro a_ ha_
    refine ⟨(i + 1, dn ++ [x], lf', D84, (A106, cap107, G102), (A119, cap120, (xs ++ xs2), G115), FE ++ FE2), ?_, ha_.keep [0, 2, 3, 16, 17, 18] (by kernel_rfl), ?_⟩
    · exact Nat.lt_succ_self _
    · exact ⟨by simp [hdi], by rw [← hdl]; simp, HG86, hok2, by have h_ := HB126; simpa using h_, by have h_ := HO103; simpa using h_, HO116, HE3, HVp, inF_HA_D84, nin_gj_D84, ge_HA_G102, ge_HA_G115, hE3, (dj_symm dj_G115_G102), fun y hy h_ => (List.mem_append.1 h_).elim (dj_G102_FE y hy) (dj_G102_FE2 y hy), fun y hy h_ => (List.mem_append.1 h_).elim (dj_G115_FE y hy) (dj_G115_FE2 y hy), (dj_symm dj_G102_D84), (dj_symm dj_G115_D84), fun y hy h_ => (List.mem_append.1 h_).elim (dj_D84_FE y hy) (dj_D84_FE2 y hy), (dj_symm dj_G102_G4), (dj_symm dj_G115_G4), (dj_symm dj_D84_G4), HA⟩
  intro h9
  refine WO.done (by kernel_rfl) ?_
  refine WQ.keep [0, 2, 3, 16, 17, 18, 19] (e' := [(0, .pointer (some ⟨gj, 0, none⟩)), (2, .nilIface), (3, .bool true), (16, .slice Ad7 gs.length cp8), (17, .int .i64 (gs.length : Int)), (18, .int .i64 (i : Int)), (19, .bool false)]) (by kernel_rfl) ?_
  refine WQ.thenN ?_
  refine WE.seq ?_
  refine WE.condF (by kernel_rfl) ?_
  refine WE.exit ?_
  refine WQ.thenE ?_
  refine WQ.thenE ?_
  refine WQ.blkE ?_
  refine WQ.thenN ?_
  refine WE.seq ?_
  refine WE.region ?_
  refine WO.run 1 0 [(2, .nilIface)] (by kernel_rfl) (by kernel_rfl) ?_
  refine WO.done (by kernel_rfl) ?_
  refine WQ.keep [0, 2, 3, 16, 17, 18, 19] (e' := [(0, .pointer (some ⟨gj, 0, none⟩)), (2, .nilIface), (3, .bool true), (16, .slice Ad7 gs.length cp8), (17, .int .i64 (gs.length : Int)), (18, .int .i64 (i : Int)), (19, .bool false)]) (by kernel_rfl) ?_
  refine WQ.thenN ?_
  refine WE.ret ?_
  refine WQ.ret (v := .nilIface) (by kernel_rfl) ?_
  obtain rfl : lf = [] := by cases lf with | nil => rfl | cons a b => simp at hlen; omega
  rw [List.append_nil] at hdl
  subst hdl
  rw [show ({ d with l := dn.map cutP ++ [].map tailP } : Dk) = { d with l := dn.map cutP } by simp] at HG hokd
  exact ⟨rfl, F, gj :: (FP ++ (FL ++ FE)), HG, ⟨_, _, FP, FL, FE, xs, rfl, nP, nL, nE, dPL, dPE, dLE, HJ, HOP, HOL, HE⟩, HA, in_gj hinF hgF2, jn_ge hgP hgL hgE, jn_dj hgF2 dFP dFL dFE⟩
end Go.Proofs.Ytkhibpdkgjapgaa.Jrn
