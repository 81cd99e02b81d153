/- Layer 9, own, over resources: load, Open. -/
import Derived.Test.YtjfgmdkdcnfdoaaGreatDoorFJ4
set_option linter.unusedVariables false
set_option linter.unusedSimpArgs false
namespace Go.Proofs.YtjfgmdkdcnfdoaaGreatDoor.Jrn
open Go Go.RowKit Go.Proofs.YtjfgmdkdcnfdoaaGreatDoor Go.Proofs.YtjfgmdkdcnfdoaaGreatDoor.Eng Go.Proofs.YtjfgmdkdcnfdoaaGreatDoor.Eng.Sep Go.Proofs.YtjfgmdkdcnfdoaaGreatDoorW.PrintWords
open Go.Proofs.YtjfgmdkdcnfdoaaGreatDoor.Disk
open Go.Proofs.YtjfgmdkdcnfdoaaGreatDoor.Wire (encT rText)
def tailP (x : Seg × List UInt8) : Pt := ⟨x.1.n, flat x.1.rs ++ x.2, x.1.s⟩
def cutP (x : Seg × List UInt8) : Pt := ⟨x.1.n, flat x.1.rs, (flat x.1.rs).length⟩
theorem allR_snoc (dn : List (Seg × List UInt8)) (x : Seg × List UInt8) : allR ((dn ++ [x]).map Prod.fst) = allR (dn.map Prod.fst) ++ x.1.rs := by
 rw [List.map_append, allR_app]
 simp [allR]
theorem allR_le {gs dn lf : List (Seg × List UInt8)} (h : dn ++ lf = gs) (ht : gs.length ≤ 100000 ∧ (allR (gs.map Prod.fst)).length ≤ 100000) : (allR (dn.map Prod.fst)).length ≤ 100000 := by
 have := ht.2
 rw [← h, List.map_append, allR_app, List.length_append] at this
 omega
theorem load_nextA {a : Int} {gs dn lf : List (Seg × List UInt8)} {x : Seg × List UInt8} (h : dn ++ x :: lf = gs) (hc : Chain a (gs.map Prod.fst)) : x.1.n = a + ((allR (dn.map Prod.fst)).length : Int) := by
 rw [← h, List.map_append, chain_app, List.map_cons] at hc
 exact hc.2.1
theorem load_firstA {a : Int} {gs dn lf : List (Seg × List UInt8)} (h : dn ++ lf = gs) (hc : Chain a (gs.map Prod.fst)) : dn = [] ∨ firstN (dn.map fun x => x.1.n) = a := by
 cases dn with
 | nil => exact .inl rfl
 | cons b dn =>
  rw [← h] at hc
  exact .inr hc.1
theorem firstA_b {a : Int} {dn : List (Seg × List UInt8)} (h : dn = [] ∨ firstN (dn.map fun x => x.1.n) = a) (ha : 0 ≤ a ∧ a ≤ 1000000) : 0 ≤ firstN (dn.map fun x => x.1.n) ∧ firstN (dn.map fun x => x.1.n) ≤ 1000000 := by
 rcases h with rfl | h
 ·
  exact ⟨Int.le_refl _, by decide⟩
 ·
  rw [h]; exact ha
theorem next_l (gj gd : Nat) (many : Int) (Ap Al : Option Addr) (cp cl : Nat) (ps : List Int) (xs : List RX) (m : Nat) (hm : ps.length = m) (hlp : m ≤ 1000000) (hll : xs.length ≤ 1000000) (hf : 0 ≤ firstN ps ∧ firstN ps ≤ 1000000) : Ct Tryz.prog 102 #[.pointer (some ⟨gj, 0, none⟩)] [rB gj #[.pointer (some ⟨gd, 0, none⟩), .int .i64 many, .slice Ap m cp, .slice Al xs.length cl] 302, rY 3 1 (.slice Ap m cp) (List.map cI ps)] [] (fun (_ : Unit) => True) (fun _ => (.int .i64 (firstN ps + (xs.length : Int)), [])) := by
 subst hm
 exact next_c gj gd many Ap Al cp cl ps xs hlp hll hf
theorem g0_at {a b : List Int} {x : Int} {i : Nat} (h : i = a.length) : g0 (a ++ x :: b) i = x := by
 subst h
 unfold g0
 rw [List.getD_eq_getElem?_getD, List.getElem?_append_right (Nat.le_refl _), Nat.sub_self]
 rfl
theorem load_rise {d : Dk} {dn lf : List (Seg × List UInt8)} {x : Seg × List UInt8} (ho : Dk.Ok { d with l := dn.map cutP ++ (x :: lf).map tailP }) : hasL (dn.map cutP) x.1.n = false ∧ hasL (lf.map tailP) x.1.n = false := by
 have hr := ho.rise
 simp only [List.map_cons] at hr
 obtain ⟨h1, h2, h3⟩ := List.pairwise_append.1 hr
 refine ⟨hasL_no.2 fun q hq => ?_, hasL_no.2 fun q hq => ?_⟩
 ·
  have := h3 q hq (tailP x) (by simp)
  have e : (tailP x).n = x.1.n := rfl
  omega
 ·
  have := (rise_cons.1 h2).1 q hq
  have e : (tailP x).n = x.1.n := rfl
  omega
theorem load_there {d : Dk} {dn lf : List (Seg × List UInt8)} {x : Seg × List UInt8} (hd : d.down = false) : there { d with l := dn.map cutP ++ (x :: lf).map tailP } x.1.n = 0 := by
 unfold there
 have : hasL (dn.map cutP ++ (x :: lf).map tailP) x.1.n = true := hasL_iff.2 ⟨tailP x, by simp, rfl⟩
 simp only [hd, this]
 rfl
theorem load_read {d : Dk} {dn lf : List (Seg × List UInt8)} {x : Seg × List UInt8} (ho : Dk.Ok { d with l := dn.map cutP ++ (x :: lf).map tailP }) (hd : d.down = false) : Disk.read { d with l := dn.map cutP ++ (x :: lf).map tailP } x.1.n = (flat x.1.rs ++ x.2, 0) := by
 unfold Disk.read
 rw [if_pos (load_there hd)]
 simp only [List.map_cons]
 rw [getL_at (load_rise ho).1 rfl]
 rfl
theorem load_cut {d : Dk} {dn lf : List (Seg × List UInt8)} {x : Seg × List UInt8} (ho : Dk.Ok { d with l := dn.map cutP ++ (x :: lf).map tailP }) (hd : d.down = false) : cut { d with l := dn.map cutP ++ (x :: lf).map tailP } x.1.n ((flat x.1.rs).length : Int) = (0, { d with l := (dn ++ [x]).map cutP ++ lf.map tailP }) := by
 unfold cut
 rw [if_pos (load_there hd)]
 simp only [List.map_cons]
 rw [getL_at (load_rise ho).1 rfl, if_neg, updL_at (load_rise ho).1 (load_rise ho).2 rfl]
 ·
  have e : (flat x.1.rs ++ x.2).take ((flat x.1.rs).length : Int).toNat = flat x.1.rs := by simp
  simp only [tailP, e]
  simp [cutP]
 ·
  have e : (tailP x).b.length = (flat x.1.rs).length + x.2.length := by simp [tailP]
  omega
theorem load_len {d : Dk} {dn lf : List (Seg × List UInt8)} {x : Seg × List UInt8} (ho : Dk.Ok { d with l := dn.map cutP ++ (x :: lf).map tailP }) : (flat x.1.rs ++ x.2).length ≤ 1000000 := by
 have h1 := usedL_mem (p := tailP x) (l := dn.map cutP ++ (x :: lf).map tailP) (by simp)
 have h2 := ho.fits
 have h3 := ho.room
 have e : (tailP x).b = flat x.1.rs ++ x.2 := rfl
 rw [e] at h1
 simp only at h2 h3
 omega
theorem load_count {gs dn lf : List (Seg × List UInt8)} {x : Seg × List UInt8} (h : dn ++ x :: lf = gs) (ht : gs.length ≤ 100000 ∧ (allR (gs.map Prod.fst)).length ≤ 100000) : x.1.rs.length ≤ 100000 := by
 have := ht.2
 rw [← h, List.map_append, allR_app, List.map_cons, allR_cons, List.length_append, List.length_append] at this
 omega
set_option maxRecDepth 100000 in
set_option maxHeartbeats 2000000 in
theorem load_ct (gj gd : Nat) (many a : Int) (d : Dk) (gs : List (Seg × List UInt8)) (hok : d.Ok) (hdn0 : d.down = false) (hd : d.l = gs.map tailP) (ha : 0 ≤ a ∧ a ≤ 1000000) (hch : Chain a (gs.map Prod.fst)) (hgs : ∀ x ∈ gs, (∀ r ∈ x.1.rs, recOk r) ∧ Stops x.2) (hne : ∀ x ∈ gs, x.1.rs ≠ []) (htot : gs.length ≤ 100000 ∧ (allR (gs.map Prod.fst)).length ≤ 100000) :
  Ct Tryz.prog 178 #[.pointer (some ⟨gj, 0, none⟩)] [] [rB gj #[.pointer (some ⟨gd, 0, none⟩), .int .i64 many, .slice none 0 0, .slice none 0 0] 302, rDk gd d] (fun (_ : Unit) => True) (fun _ => (.nilIface, [rJ gj gd many (gs.map fun x => x.1.n) (allR (gs.map Prod.fst)), rDk gd { d with l := gs.map cutP }])) := by
 refine Ct.mk fun w T_ H => ?_
 have hdlen := congrArg List.length hd
 rw [List.length_map] at hdlen
 refine enter (N := 91) Tryz.func178 (c := _) rfl (by kernel_rfl) (by kernel_rfl) (e := [(0, .pointer (some ⟨gj, 0, none⟩))]) (by kernel_rfl) ?_
 refine WE.seq ?_
 refine WE.region ?_
 refine WO.run 1 0 [(2, .nilIface)] (by kernel_rfl) (by kernel_rfl) ?_
 refine WO.done (by kernel_rfl) ?_
 refine WQ.keep [0, 2] (e' := [(0, .pointer (some ⟨gj, 0, none⟩)), (2, .nilIface)]) (by kernel_rfl) ?_
 refine WQ.thenN ?_
 refine WE.seq ?_
 refine WE.region ?_
 refine WO.run 1 0 [(3, .bool true)] (by kernel_rfl) (by kernel_rfl) ?_
 refine WO.done (by kernel_rfl) ?_
 refine WQ.keep [0, 2, 3] (e' := [(0, .pointer (some ⟨gj, 0, none⟩)), (2, .nilIface), (3, .bool true)]) (by kernel_rfl) ?_
 refine WQ.thenN ?_
 refine WE.seq ?_
 refine WE.seq ?_
 refine WE.region ?_
 refine WO.run 3 0 [(14, .pointer (some ⟨gj, 0, none⟩)), (13, .pointer (some ⟨gj, 0, none⟩)), (12, .pointer (some ⟨gj, 0, none⟩))] (by kernel_rfl) (by kernel_rfl) ?_
 refine WO.ld (SQ.S 3 (by kernel_rfl)) 15 (.pointer (some ⟨gd, 0, none⟩)) (by kernel_rfl) (H.cell 0 0) ?_
 refine Sc H 16 (dparts_ct gd d hok (by omega)) [] [1] ?_
 rintro ⟨AP, cP⟩ w hcP H
 rw [show d.l.length = gs.length by rw [hd, List.length_map]] at H ⊢
 rw [show (d.l.map fun p => p.n) = (gs.map fun x => x.1.n) by rw [hd, List.map_map]; rfl] at H
 refine WO.run 2 5 [(18, .int .i64 0), (17, .int .i64 (gs.length : Int))] (by kernel_rfl) (by kernel_rfl) ?_
 refine WO.done (by kernel_rfl) ?_
 refine WQ.keep [0, 2, 3, 16, 17, 18] (e' := [(0, .pointer (some ⟨gj, 0, none⟩)), (2, .nilIface), (3, .bool true), (16, .slice AP gs.length cP), (17, .int .i64 (gs.length : Int)), (18, .int .i64 0)]) (by kernel_rfl) ?_
 refine WQ.thenN ?_
 refine WE.block ?_
 replace H := H.add (rY 69 1 (.slice none 0 0) (List.map cR ([] : List RX))) (OwnY.nil _ _ _)
 replace H := H.add (rY 3 1 (.slice none 0 0) (List.map cI ([] : List Int))) (OwnY.nil _ _ _)
 replace H := H.conv [] Ent.enil
 rw [show d = { d with l := ([] : List (Seg × List UInt8)).map cutP ++ gs.map tailP } by simp [← hd]] at H
 refine Sloop (α := Nat × (List (Seg × List UInt8)) × (List (Seg × List UInt8)) × (Option Addr) × Nat × (Option Addr) × Nat × (List RX)) (fun ⟨i, dn, lf, Ap, cp, Al, cl, xs⟩ => [(0, .pointer (some ⟨gj, 0, none⟩)), (2, .nilIface), (3, .bool true), (16, .slice AP gs.length cP), (17, .int .i64 (gs.length : Int)), (18, .int .i64 (i : Int))]) (fun ⟨i, dn, lf, Ap, cp, Al, cl, xs⟩ => [rB gj #[.pointer (some ⟨gd, 0, none⟩), .int .i64 many, .slice Ap dn.length cp, .slice Al xs.length cl] 302, rY 3 1 (.slice Ap dn.length cp) (List.map cI (dn.map fun x => x.1.n)), rY 69 1 (.slice Al xs.length cl) (List.map cR xs), rE xs (allR (dn.map Prod.fst)), rDk gd ({ d with l := dn.map cutP ++ lf.map tailP }), rY 3 1 (.slice AP gs.length cP) (List.map cI (gs.map fun x => x.1.n))]) (fun ⟨i, dn, lf, Ap, cp, Al, cl, xs⟩ => i = dn.length ∧ dn ++ lf = gs ∧ Dk.Ok ({ d with l := dn.map cutP ++ lf.map tailP }) ∧ dn.length ≤ cp ∧ xs.length ≤ cl ∧ xs.length = (allR (dn.map Prod.fst)).length) (fun ⟨i, dn, lf, Ap, cp, Al, cl, xs⟩ => lf.length) (0, [], gs, none, 0, none, 0, []) [0, 2, 3, 16, 17, 18] [4, 1, 1, 0, 1, 0] H (⟨rfl, rfl, by simp [← hd]; exact hok, by simp, by simp, rfl⟩) ?_
 rintro ⟨i, dn, lf, Ap, cp, Al, cl, xs⟩ w ⟨hdi, hdl, hokd, hcp, hcl, hxr⟩ H
 have hlen := congrArg List.length hdl
 rw [List.length_append] at hlen
 have hal := allR_le hdl htot
 have hxl : xs.length ≤ 100000 := by rw [hxr]; exact hal
 refine WE.seq ?_
 refine WE.region ?_
 refine WO.one (SQ.F 0 (by kernel_rfl)) 19 (.bool (decide (((i : Int) : Int) < (gs.length : Int)))) (by kernel_rfl) ?_
 refine WO.topP (((i : Int) : Int) < (gs.length : Int)) ?_ ?_
 ·
  intro h1
  refine WO.done (by kernel_rfl) ?_
  refine WQ.keep [0, 2, 3, 16, 17, 18, 19] (e' := [(0, .pointer (some ⟨gj, 0, none⟩)), (2, .nilIface), (3, .bool true), (16, .slice AP gs.length cP), (17, .int .i64 (gs.length : Int)), (18, .int .i64 (i : Int)), (19, .bool true)]) (by kernel_rfl) ?_
  refine WQ.thenN ?_
  refine WE.seq ?_
  refine WE.condT (by kernel_rfl) ?_
  refine WE.skip ?_
  refine WQ.thenN ?_
  refine WE.seq ?_
  refine WE.block ?_
  refine WE.seq ?_
  obtain ⟨x, lf', rfl⟩ : ∃ x lf', lf = x :: lf' := by cases lf with | nil => simp at hlen; omega | cons a b => exact ⟨_, _, rfl⟩
  have hgx : g0 (gs.map fun x => x.1.n) i = x.1.n := by rw [← hdl, List.map_append, List.map_cons]; exact g0_at (by rw [List.length_map]; exact hdi)
  have hfn := load_nextA hdl hch
  have hfn0 := load_firstA hdl hch
  have hfb := firstA_b hfn0 ha
  have hfe : dn.length ≠ 0 → firstN (dn.map fun x => x.1.n) = a := fun h => hfn0.resolve_left fun h2 => h (by rw [h2]; rfl)
  have hxm : x ∈ gs := by rw [← hdl]; simp
  obtain ⟨hxr2, hxs⟩ := hgs x hxm
  have hx0 := List.length_pos_iff.2 (hne x hxm)
  have hrd := load_read (d := d) hokd hdn0
  have hct := load_cut (d := d) hokd hdn0
  have hxn := hokd.keys (tailP x) (by simp)
  have hok2 : Dk.Ok ({ d with l := (dn ++ [x]).map cutP ++ lf'.map tailP }) := by have h_ := cut_ok hokd x.1.n ((flat x.1.rs).length : Int); rw [hct] at h_; exact h_
  have hbl := load_len hokd
  have hxrl := load_count hdl htot
  refine WE.region ?_
  refine WO.run 1 0 [(20, .int .i64 (i : Int))] (by kernel_rfl) (by kernel_rfl) ?_
  obtain ⟨ad2, hA3⟩ := H.yaddr 5 cI 3 1 AP gs.length cP (gs.map fun x => x.1.n) (k := i) (by have := (List.length_map _ : List.length (gs.map fun x => x.1.n) = gs.length); omega)
  refine WO.ixo (SQ.F 1 (by kernel_rfl)) 21 gs.length 1 i (i : Int) hA3 (by kernel_rfl) rfl (by omega) ?_
  refine WO.ld (SQ.S 2 (by kernel_rfl)) 22 (.int .i64 (g0 (gs.map fun x => x.1.n) i)) (by kernel_rfl) (H.ycell0 5 cI 3 1 AP gs.length cP (gs.map fun x => x.1.n) hA3 (g0_some (gs.map fun x => x.1.n) i (by have := (List.length_map _ : List.length (gs.map fun x => x.1.n) = gs.length); omega))) ?_
  refine WO.run 2 3 [(5, .int .i64 (g0 (gs.map fun x => x.1.n) i)), (4, .int .i64 (i : Int))] (by kernel_rfl) (by kernel_rfl) ?_
  refine WO.done (by kernel_rfl) ?_
  refine WQ.keep [0, 2, 3, 4, 5, 16, 17, 18] (e' := [(0, .pointer (some ⟨gj, 0, none⟩)), (2, .nilIface), (3, .bool true), (4, .int .i64 (i : Int)), (5, .int .i64 (g0 (gs.map fun x => x.1.n) i)), (16, .slice AP gs.length cP), (17, .int .i64 (gs.length : Int)), (18, .int .i64 (i : Int))]) (by kernel_rfl) ?_
  refine WQ.thenN ?_
  refine WE.seq ?_
  refine WE.seq ?_
  rw [hgx]
  refine WE.region ?_
  refine WO.run 4 0 [(26, .int .i64 (i : Int)), (25, .bool false), (24, .bool false), (23, .bool true)] (by kernel_rfl) (by kernel_rfl) ?_
  refine WO.one (SQ.F 4 (by kernel_rfl)) 27 (.bool (decide (((i : Int) : Int) > (0 : Int)))) (by kernel_rfl) ?_
  refine WO.topP (((i : Int) : Int) > (0 : Int)) ?_ ?_
  ·
   intro h4
   refine WO.run 3 5 [(30, .pointer (some ⟨gj, 0, none⟩)), (29, .int .i64 x.1.n), (28, .bool true)] (by kernel_rfl) (by kernel_rfl) ?_
   have hP_ : ((dn.map fun x => x.1.n)).length = dn.length := List.length_map _
   refine Sc H 31 (next_l gj gd many Ap Al cp cl (dn.map fun x => x.1.n) xs dn.length hP_ (by omega) (by omega) hfb) [] [0, 0] ?_
   rintro ⟨⟩ w _ H
   refine WO.one (SQ.F 9 (by kernel_rfl)) 32 (.bool (!decide ((x.1.n : Int) = (firstN (dn.map fun x => x.1.n) + (xs.length : Int))))) (by kernel_rfl) ?_
   refine WO.topNT ((x.1.n : Int) = (firstN (dn.map fun x => x.1.n) + (xs.length : Int))) (by have := hfe (by omega); omega) ?_
   refine WO.run 2 10 [(34, .bool false), (33, .bool false)] (by kernel_rfl) (by kernel_rfl) ?_
   refine WO.done (by kernel_rfl) ?_
   refine WQ.keep [0, 2, 3, 5, 16, 17, 18, 34] (e' := [(0, .pointer (some ⟨gj, 0, none⟩)), (2, .nilIface), (3, .bool true), (5, .int .i64 x.1.n), (16, .slice AP gs.length cP), (17, .int .i64 (gs.length : Int)), (18, .int .i64 (i : Int)), (34, .bool false)]) (by kernel_rfl) ?_
   refine WQ.thenN ?_
   refine WE.condF (by kernel_rfl) ?_
   refine WE.skip ?_
   refine WQ.thenN ?_
   refine WE.seq ?_
   refine WE.region ?_
   refine WO.run 3 0 [(47, .pointer (some ⟨gj, 0, none⟩)), (46, .pointer (some ⟨gj, 0, none⟩)), (45, .pointer (some ⟨gj, 0, none⟩))] (by kernel_rfl) (by kernel_rfl) ?_
   refine WO.ld (SQ.S 3 (by kernel_rfl)) 48 (.pointer (some ⟨gd, 0, none⟩)) (by kernel_rfl) (H.cell 0 0) ?_
   refine WO.run 1 4 [(49, .int .i64 x.1.n)] (by kernel_rfl) (by kernel_rfl) ?_
   refine Sc H 50 ((by have h_ := dread_ct gd ({ d with l := dn.map cutP ++ (x :: lf').map tailP }) x.1.n hokd hxn; rw [hrd] at h_; exact h_)) [] [4] ?_
   rintro ⟨Ar, cr⟩ w hcr H
   refine WO.run 5 6 [(8, .nilIface), (7, .slice Ar ((flat x.1.rs ++ x.2).length) cr), (52, .nilIface), (51, .slice Ar ((flat x.1.rs ++ x.2).length) cr), (44, .tuple #[.slice Ar ((flat x.1.rs ++ x.2).length) cr, .nilIface])] (by kernel_rfl) (by kernel_rfl) ?_
   refine WO.done (by kernel_rfl) ?_
   refine WQ.keep [0, 2, 3, 5, 7, 8, 16, 17, 18] (e' := [(0, .pointer (some ⟨gj, 0, none⟩)), (2, .nilIface), (3, .bool true), (5, .int .i64 x.1.n), (7, .slice Ar ((flat x.1.rs ++ x.2).length) cr), (8, .nilIface), (16, .slice AP gs.length cP), (17, .int .i64 (gs.length : Int)), (18, .int .i64 (i : Int))]) (by kernel_rfl) ?_
   refine WQ.thenN ?_
   refine WE.seq ?_
   refine WE.seq ?_
   refine WE.region ?_
   refine WO.run 2 0 [(54, .bool false), (53, .nilIface)] (by kernel_rfl) (by kernel_rfl) ?_
   refine WO.done (by kernel_rfl) ?_
   refine WQ.keep [0, 2, 3, 5, 7, 8, 16, 17, 18, 54] (e' := [(0, .pointer (some ⟨gj, 0, none⟩)), (2, .nilIface), (3, .bool true), (5, .int .i64 x.1.n), (7, .slice Ar ((flat x.1.rs ++ x.2).length) cr), (8, .nilIface), (16, .slice AP gs.length cP), (17, .int .i64 (gs.length : Int)), (18, .int .i64 (i : Int)), (54, .bool false)]) (by kernel_rfl) ?_
   refine WQ.thenN ?_
   refine WE.condF (by kernel_rfl) ?_
   refine WE.skip ?_
   refine WQ.thenN ?_
   refine WE.seq ?_
   refine WE.region ?_
   refine WO.run 1 0 [(57, .slice Ar ((flat x.1.rs ++ x.2).length) cr)] (by kernel_rfl) (by kernel_rfl) ?_
   replace H := H.conv [0] (Ent.yv cB 5 1 Ar (flat x.1.rs ++ x.2).length cr (flat x.1.rs ++ x.2))
   refine Sc H 58 (records_ct Ar _ cr (flat x.1.rs ++ x.2) x.1.rs x.2 rfl hcr hbl rfl hxr2 hxs (by omega)) [] [0] ?_
   rintro ⟨Ao, co, xs2⟩ w ⟨h2a, h2b⟩ H
   dsimp only at h2a h2b
   refine WO.run 5 2 [(10, .int .i64 ((flat x.1.rs).length : Int)), (9, .slice Ao xs2.length co), (60, .int .i64 ((flat x.1.rs).length : Int)), (59, .slice Ao xs2.length co), (56, .tuple #[.slice Ao xs2.length co, .int .i64 ((flat x.1.rs).length : Int)])] (by kernel_rfl) (by kernel_rfl) ?_
   refine WO.done (by kernel_rfl) ?_
   refine WQ.keep [0, 2, 3, 5, 9, 10, 16, 17, 18] (e' := [(0, .pointer (some ⟨gj, 0, none⟩)), (2, .nilIface), (3, .bool true), (5, .int .i64 x.1.n), (9, .slice Ao xs2.length co), (10, .int .i64 ((flat x.1.rs).length : Int)), (16, .slice AP gs.length cP), (17, .int .i64 (gs.length : Int)), (18, .int .i64 (i : Int))]) (by kernel_rfl) ?_
   refine WQ.thenN ?_
   refine WE.seq ?_
   refine WE.seq ?_
   refine WE.region ?_
   refine WO.run 3 0 [(63, .pointer (some ⟨gj, 0, none⟩)), (62, .pointer (some ⟨gj, 0, none⟩)), (61, .pointer (some ⟨gj, 0, none⟩))] (by kernel_rfl) (by kernel_rfl) ?_
   refine WO.ld (SQ.S 3 (by kernel_rfl)) 64 (.pointer (some ⟨gd, 0, none⟩)) (by kernel_rfl) (H.cell 3 0) ?_
   refine WO.run 2 4 [(66, .int .i64 ((flat x.1.rs).length : Int)), (65, .int .i64 x.1.n)] (by kernel_rfl) (by kernel_rfl) ?_
   refine Sc H 67 ((by have h_ := dcut_ct gd ({ d with l := dn.map cutP ++ (x :: lf').map tailP }) x.1.n ((flat x.1.rs).length : Int) hokd hxn; rw [hct] at h_; exact h_)) [7] [] ?_
   rintro ⟨⟩ w _ H
   refine WO.run 1 7 [(11, .nilIface)] (by kernel_rfl) (by kernel_rfl) ?_
   refine WO.done (by kernel_rfl) ?_
   refine WQ.keep [0, 2, 3, 5, 9, 11, 16, 17, 18] (e' := [(0, .pointer (some ⟨gj, 0, none⟩)), (2, .nilIface), (3, .bool true), (5, .int .i64 x.1.n), (9, .slice Ao xs2.length co), (11, .nilIface), (16, .slice AP gs.length cP), (17, .int .i64 (gs.length : Int)), (18, .int .i64 (i : Int))]) (by kernel_rfl) ?_
   refine WQ.thenN ?_
   refine WE.seq ?_
   refine WE.region ?_
   refine WO.run 2 0 [(69, .bool false), (68, .nilIface)] (by kernel_rfl) (by kernel_rfl) ?_
   refine WO.done (by kernel_rfl) ?_
   refine WQ.keep [0, 2, 3, 5, 9, 11, 16, 17, 18, 69] (e' := [(0, .pointer (some ⟨gj, 0, none⟩)), (2, .nilIface), (3, .bool true), (5, .int .i64 x.1.n), (9, .slice Ao xs2.length co), (11, .nilIface), (16, .slice AP gs.length cP), (17, .int .i64 (gs.length : Int)), (18, .int .i64 (i : Int)), (69, .bool false)]) (by kernel_rfl) ?_
   refine WQ.thenN ?_
   refine WE.condF (by kernel_rfl) ?_
   refine WE.skip ?_
   refine WQ.thenN ?_
   refine WE.draw [.free, .free, .free, .free, .free, .still, .free, .effR, .effR, .free, .free, .free, .still, .free, .eff, .free, .free, .eff, .free, .free, .eff] (Kp [gj]) (kpR _) (by kernel_rfl) 21 (Array.replicate 21 false) (by kernel_rfl) rfl ?_
   intro w F_ _
   replace H := H.step0 F_
   refine WO.one (SA.F (kpR _) (kpT _) _ 0 _ (by kernel_rfl)) 71 (.pointer (some ⟨gj, 0, none⟩)) (by kernel_rfl) ?_
   refine WO.one (SA.F (kpR _) (kpT _) _ 1 _ (by kernel_rfl)) 72 (.pointer (some ⟨gj, 0, none⟩)) (by kernel_rfl) ?_
   refine WO.one (SA.F (kpR _) (kpT _) _ 2 _ (by kernel_rfl)) 73 (.pointer (some ⟨gj, 0, none⟩)) (by kernel_rfl) ?_
   refine WO.one (SA.F (kpR _) (kpT _) _ 3 _ (by kernel_rfl)) 74 (.pointer (some ⟨gj, 0, none⟩)) (by kernel_rfl) ?_
   refine WO.one (SA.F (kpR _) (kpT _) _ 4 _ (by kernel_rfl)) 75 (.pointer (some ⟨gj, 2, none⟩)) (by kernel_rfl) ?_
   refine WO.ld (SA.S (kpR _) (kpT _) _ 5 _ (by kernel_rfl)) 76 (.slice Ap dn.length cp) (by kernel_rfl) (fun _ k_ => ((H.blk 4).kp k_ (by show gj ∈ ([gj] : List Nat); simp)).at 2 (by kernel_rfl)) ?_
   refine WO.one (SA.F (kpR _) (kpT _) _ 6 _ (by kernel_rfl)) 77 (.int .i64 x.1.n) (by kernel_rfl) ?_
   refine WO.one (SA.F (kpR _) (kpT _) _ 9 _ (by kernel_rfl)) 80 (.pointer (some ⟨gj, 0, none⟩)) (by kernel_rfl) ?_
   refine WO.one (SA.F (kpR _) (kpT _) _ 10 _ (by kernel_rfl)) 81 (.pointer (some ⟨gj, 0, none⟩)) (by kernel_rfl) ?_
   refine WO.one (SA.F (kpR _) (kpT _) _ 11 _ (by kernel_rfl)) 82 (.pointer (some ⟨gj, 3, none⟩)) (by kernel_rfl) ?_
   refine WO.ld (SA.S (kpR _) (kpT _) _ 12 _ (by kernel_rfl)) 83 (.slice Al xs.length cl) (by kernel_rfl) (fun _ k_ => ((H.blk 4).kp k_ (by show gj ∈ ([gj] : List Nat); simp)).at 3 (by kernel_rfl)) ?_
   refine WO.one (SA.F (kpR _) (kpT _) _ 13 _ (by kernel_rfl)) 84 (.slice Ao xs2.length co) (by kernel_rfl) ?_
   refine Gb (SA.ER _ 7 _ (by kernel_rfl) rfl) H 78 #[.int .i64 x.1.n] 3 (fun g => .slice (some ⟨g, 0, none⟩) 1 1) (H.kpF [4]) ?_
   intro g5 w H
   refine GayK (SA.ER _ 8 _ (by kernel_rfl) rfl) H 6 79 (A := Ap) (c := cp) (xv := .slice (some ⟨g5, 0, none⟩) 1 1) (n := dn.length) (m := 1) et_i (List.map cI (dn.map fun x => x.1.n)) (List.map cI ([x.1.n])) [5] ((List.length_map _).trans ((List.length_map _ : List.length (dn.map fun x => x.1.n) = dn.length))) (by rw [List.length_map] <;> first | rfl | omega | (simp <;> omega)) (by omega) (RowB.src (RowB.of_blk (n := 1) (H.blk 0) (List.map cI [x.1.n]) rfl rfl (cI_len _) (cI_one _) (by omega))) (cI_len _) (cI_one _) (by omega) (by omega) ?_
   intro A6 cap7 w hccap7 H
   rw [← List.map_append] at H
   obtain ⟨F8, HY_⟩ := H.at 3 (rY 69 1 (.slice Ao xs2.length co) (List.map cR xs2))
   have HV9 := OwnY.view HY_
   refine Gay (SA.E _ 14 _ (by kernel_rfl) rfl) H 7 85 (A := Al) (c := cl) (xv := .slice Ao xs2.length co) (n := xs.length) (m := xs2.length) et_r (List.map cR xs) (List.map cR xs2) ((List.length_map _).trans ((rfl : xs.length = _))) (by rw [List.length_map] <;> first | rfl | omega | (simp <;> omega)) (by omega) (VX.srcN HV9 (rfl : xs2.length = _) (cR_len _) (cR_one _) co) (cR_len _) (cR_one _) (by omega) (by omega) (fun _ => trivial) ?_
   intro A10 cap11 w hccap11 H
   rw [← List.map_append] at H
   refine WO.one (SA.F (kpR _) (kpT _) _ 15 _ (by kernel_rfl)) 86 (.pointer (some ⟨gj, 0, none⟩)) (by kernel_rfl) ?_
   refine WO.one (SA.F (kpR _) (kpT _) _ 16 _ (by kernel_rfl)) 87 (.pointer (some ⟨gj, 2, none⟩)) (by kernel_rfl) ?_
   refine Gs (SA.E _ 17 _ (by kernel_rfl) rfl) H 7 2 #[.pointer (some ⟨gd, 0, none⟩), .int .i64 many, .slice A6 (dn.length + 1) cap7, .slice Al xs.length cl] (fun _ _ => trivial) ?_
   intro w H
   refine WO.one (SA.F (kpR _) (kpT _) _ 18 _ (by kernel_rfl)) 88 (.pointer (some ⟨gj, 0, none⟩)) (by kernel_rfl) ?_
   refine WO.one (SA.F (kpR _) (kpT _) _ 19 _ (by kernel_rfl)) 89 (.pointer (some ⟨gj, 3, none⟩)) (by kernel_rfl) ?_
   refine Gs (SA.E _ 20 _ (by kernel_rfl) rfl) H 0 3 #[.pointer (some ⟨gd, 0, none⟩), .int .i64 many, .slice A6 (dn.length + 1) cap7, .slice A10 (xs.length + xs2.length) cap11] (fun _ _ => trivial) ?_
   intro w H
   refine WO.doneA (by kernel_rfl) ?_
   refine WQ.keep [0, 2, 3, 16, 17, 18] (e' := [(0, .pointer (some ⟨gj, 0, none⟩)), (2, .nilIface), (3, .bool true), (16, .slice AP gs.length cP), (17, .int .i64 (gs.length : Int)), (18, .int .i64 (i : Int))]) (by kernel_rfl) ?_
   refine WQ.blkN ?_
   refine WQ.thenN ?_
   refine WE.region ?_
   refine WO.one (SQ.F 0 (by kernel_rfl)) 90 (.int .i64 (IntKind.i64.wrap ((i : Int) + 1))) (by kernel_rfl) ?_
   refine WO.top (v' := .int .i64 ((i + 1 : Nat) : Int)) (wrap_i64 (by omega) (by omega)) ?_
   refine WO.run 1 1 [(18, .int .i64 ((i + 1 : Nat) : Int))] (by kernel_rfl) (by kernel_rfl) ?_
   refine WO.done (by kernel_rfl) ?_
   refine WQ.keep [0, 2, 3, 16, 17, 18] (e' := [(0, .pointer (some ⟨gj, 0, none⟩)), (2, .nilIface), (3, .bool true), (16, .slice AP gs.length cP), (17, .int .i64 (gs.length : Int)), (18, .int .i64 ((i + 1 : Nat) : Int))]) (by kernel_rfl) ?_
   replace H := H.conv [8, 6] (Ent.eapp xs xs2 (allR (dn.map Prod.fst)) x.1.rs)
   rw [← allR_snoc] at H
   rw [show dn.length + 1 = (dn ++ [x]).length by simp, show xs.length + xs2.length = (xs ++ xs2).length by simp, show (List.map (fun x => x.1.n) dn ++ [x.1.n]) = List.map (fun x => x.1.n) (dn ++ [x]) by simp] at H
   refine WQ.round fun a_ ha_ => ⟨(i + 1, dn ++ [x], lf', A6, cap7, A10, cap11, xs ++ xs2), ?_, ha_.keep [0, 2, 3, 16, 17, 18] (by kernel_rfl), ?_, H.sub [1, 2, 1, 0, 1, 3]⟩
   ·
    show lf'.length < (x :: lf').length; exact Nat.lt_succ_self _
   exact ⟨by simp [hdi], by rw [← hdl]; simp, hok2, by simp; omega, by simp; omega, by simp only [List.length_append, hxr, h2b, allR_snoc]⟩
  intro h4
  refine WO.run 7 5 [(34, .bool false), (33, .bool false), (32, undef), (31, undef), (30, undef), (29, undef), (28, .bool false)] (by kernel_rfl) (by kernel_rfl) ?_
  refine WO.done (by kernel_rfl) ?_
  refine WQ.keep [0, 2, 3, 5, 16, 17, 18, 34] (e' := [(0, .pointer (some ⟨gj, 0, none⟩)), (2, .nilIface), (3, .bool true), (5, .int .i64 x.1.n), (16, .slice AP gs.length cP), (17, .int .i64 (gs.length : Int)), (18, .int .i64 (i : Int)), (34, .bool false)]) (by kernel_rfl) ?_
  refine WQ.thenN ?_
  refine WE.condF (by kernel_rfl) ?_
  refine WE.skip ?_
  refine WQ.thenN ?_
  refine WE.seq ?_
  refine WE.region ?_
  refine WO.run 3 0 [(47, .pointer (some ⟨gj, 0, none⟩)), (46, .pointer (some ⟨gj, 0, none⟩)), (45, .pointer (some ⟨gj, 0, none⟩))] (by kernel_rfl) (by kernel_rfl) ?_
  refine WO.ld (SQ.S 3 (by kernel_rfl)) 48 (.pointer (some ⟨gd, 0, none⟩)) (by kernel_rfl) (H.cell 0 0) ?_
  refine WO.run 1 4 [(49, .int .i64 x.1.n)] (by kernel_rfl) (by kernel_rfl) ?_
  refine Sc H 50 ((by have h_ := dread_ct gd ({ d with l := dn.map cutP ++ (x :: lf').map tailP }) x.1.n hokd hxn; rw [hrd] at h_; exact h_)) [] [4] ?_
  rintro ⟨Ar, cr⟩ w hcr H
  refine WO.run 5 6 [(8, .nilIface), (7, .slice Ar ((flat x.1.rs ++ x.2).length) cr), (52, .nilIface), (51, .slice Ar ((flat x.1.rs ++ x.2).length) cr), (44, .tuple #[.slice Ar ((flat x.1.rs ++ x.2).length) cr, .nilIface])] (by kernel_rfl) (by kernel_rfl) ?_
  refine WO.done (by kernel_rfl) ?_
  refine WQ.keep [0, 2, 3, 5, 7, 8, 16, 17, 18] (e' := [(0, .pointer (some ⟨gj, 0, none⟩)), (2, .nilIface), (3, .bool true), (5, .int .i64 x.1.n), (7, .slice Ar ((flat x.1.rs ++ x.2).length) cr), (8, .nilIface), (16, .slice AP gs.length cP), (17, .int .i64 (gs.length : Int)), (18, .int .i64 (i : Int))]) (by kernel_rfl) ?_
  refine WQ.thenN ?_
  refine WE.seq ?_
  refine WE.seq ?_
  refine WE.region ?_
  refine WO.run 2 0 [(54, .bool false), (53, .nilIface)] (by kernel_rfl) (by kernel_rfl) ?_
  refine WO.done (by kernel_rfl) ?_
  refine WQ.keep [0, 2, 3, 5, 7, 8, 16, 17, 18, 54] (e' := [(0, .pointer (some ⟨gj, 0, none⟩)), (2, .nilIface), (3, .bool true), (5, .int .i64 x.1.n), (7, .slice Ar ((flat x.1.rs ++ x.2).length) cr), (8, .nilIface), (16, .slice AP gs.length cP), (17, .int .i64 (gs.length : Int)), (18, .int .i64 (i : Int)), (54, .bool false)]) (by kernel_rfl) ?_
  refine WQ.thenN ?_
  refine WE.condF (by kernel_rfl) ?_
  refine WE.skip ?_
  refine WQ.thenN ?_
  refine WE.seq ?_
  refine WE.region ?_
  refine WO.run 1 0 [(57, .slice Ar ((flat x.1.rs ++ x.2).length) cr)] (by kernel_rfl) (by kernel_rfl) ?_
  replace H := H.conv [0] (Ent.yv cB 5 1 Ar (flat x.1.rs ++ x.2).length cr (flat x.1.rs ++ x.2))
  refine Sc H 58 (records_ct Ar _ cr (flat x.1.rs ++ x.2) x.1.rs x.2 rfl hcr hbl rfl hxr2 hxs (by omega)) [] [0] ?_
  rintro ⟨Ao, co, xs2⟩ w ⟨h2a, h2b⟩ H
  dsimp only at h2a h2b
  refine WO.run 5 2 [(10, .int .i64 ((flat x.1.rs).length : Int)), (9, .slice Ao xs2.length co), (60, .int .i64 ((flat x.1.rs).length : Int)), (59, .slice Ao xs2.length co), (56, .tuple #[.slice Ao xs2.length co, .int .i64 ((flat x.1.rs).length : Int)])] (by kernel_rfl) (by kernel_rfl) ?_
  refine WO.done (by kernel_rfl) ?_
  refine WQ.keep [0, 2, 3, 5, 9, 10, 16, 17, 18] (e' := [(0, .pointer (some ⟨gj, 0, none⟩)), (2, .nilIface), (3, .bool true), (5, .int .i64 x.1.n), (9, .slice Ao xs2.length co), (10, .int .i64 ((flat x.1.rs).length : Int)), (16, .slice AP gs.length cP), (17, .int .i64 (gs.length : Int)), (18, .int .i64 (i : Int))]) (by kernel_rfl) ?_
  refine WQ.thenN ?_
  refine WE.seq ?_
  refine WE.seq ?_
  refine WE.region ?_
  refine WO.run 3 0 [(63, .pointer (some ⟨gj, 0, none⟩)), (62, .pointer (some ⟨gj, 0, none⟩)), (61, .pointer (some ⟨gj, 0, none⟩))] (by kernel_rfl) (by kernel_rfl) ?_
  refine WO.ld (SQ.S 3 (by kernel_rfl)) 64 (.pointer (some ⟨gd, 0, none⟩)) (by kernel_rfl) (H.cell 3 0) ?_
  refine WO.run 2 4 [(66, .int .i64 ((flat x.1.rs).length : Int)), (65, .int .i64 x.1.n)] (by kernel_rfl) (by kernel_rfl) ?_
  refine Sc H 67 ((by have h_ := dcut_ct gd ({ d with l := dn.map cutP ++ (x :: lf').map tailP }) x.1.n ((flat x.1.rs).length : Int) hokd hxn; rw [hct] at h_; exact h_)) [7] [] ?_
  rintro ⟨⟩ w _ H
  refine WO.run 1 7 [(11, .nilIface)] (by kernel_rfl) (by kernel_rfl) ?_
  refine WO.done (by kernel_rfl) ?_
  refine WQ.keep [0, 2, 3, 5, 9, 11, 16, 17, 18] (e' := [(0, .pointer (some ⟨gj, 0, none⟩)), (2, .nilIface), (3, .bool true), (5, .int .i64 x.1.n), (9, .slice Ao xs2.length co), (11, .nilIface), (16, .slice AP gs.length cP), (17, .int .i64 (gs.length : Int)), (18, .int .i64 (i : Int))]) (by kernel_rfl) ?_
  refine WQ.thenN ?_
  refine WE.seq ?_
  refine WE.region ?_
  refine WO.run 2 0 [(69, .bool false), (68, .nilIface)] (by kernel_rfl) (by kernel_rfl) ?_
  refine WO.done (by kernel_rfl) ?_
  refine WQ.keep [0, 2, 3, 5, 9, 11, 16, 17, 18, 69] (e' := [(0, .pointer (some ⟨gj, 0, none⟩)), (2, .nilIface), (3, .bool true), (5, .int .i64 x.1.n), (9, .slice Ao xs2.length co), (11, .nilIface), (16, .slice AP gs.length cP), (17, .int .i64 (gs.length : Int)), (18, .int .i64 (i : Int)), (69, .bool false)]) (by kernel_rfl) ?_
  refine WQ.thenN ?_
  refine WE.condF (by kernel_rfl) ?_
  refine WE.skip ?_
  refine WQ.thenN ?_
  refine WE.draw [.free, .free, .free, .free, .free, .still, .free, .effR, .effR, .free, .free, .free, .still, .free, .eff, .free, .free, .eff, .free, .free, .eff] (Kp [gj]) (kpR _) (by kernel_rfl) 21 (Array.replicate 21 false) (by kernel_rfl) rfl ?_
  intro w F_ _
  replace H := H.step0 F_
  refine WO.one (SA.F (kpR _) (kpT _) _ 0 _ (by kernel_rfl)) 71 (.pointer (some ⟨gj, 0, none⟩)) (by kernel_rfl) ?_
  refine WO.one (SA.F (kpR _) (kpT _) _ 1 _ (by kernel_rfl)) 72 (.pointer (some ⟨gj, 0, none⟩)) (by kernel_rfl) ?_
  refine WO.one (SA.F (kpR _) (kpT _) _ 2 _ (by kernel_rfl)) 73 (.pointer (some ⟨gj, 0, none⟩)) (by kernel_rfl) ?_
  refine WO.one (SA.F (kpR _) (kpT _) _ 3 _ (by kernel_rfl)) 74 (.pointer (some ⟨gj, 0, none⟩)) (by kernel_rfl) ?_
  refine WO.one (SA.F (kpR _) (kpT _) _ 4 _ (by kernel_rfl)) 75 (.pointer (some ⟨gj, 2, none⟩)) (by kernel_rfl) ?_
  refine WO.ld (SA.S (kpR _) (kpT _) _ 5 _ (by kernel_rfl)) 76 (.slice Ap dn.length cp) (by kernel_rfl) (fun _ k_ => ((H.blk 4).kp k_ (by show gj ∈ ([gj] : List Nat); simp)).at 2 (by kernel_rfl)) ?_
  refine WO.one (SA.F (kpR _) (kpT _) _ 6 _ (by kernel_rfl)) 77 (.int .i64 x.1.n) (by kernel_rfl) ?_
  refine WO.one (SA.F (kpR _) (kpT _) _ 9 _ (by kernel_rfl)) 80 (.pointer (some ⟨gj, 0, none⟩)) (by kernel_rfl) ?_
  refine WO.one (SA.F (kpR _) (kpT _) _ 10 _ (by kernel_rfl)) 81 (.pointer (some ⟨gj, 0, none⟩)) (by kernel_rfl) ?_
  refine WO.one (SA.F (kpR _) (kpT _) _ 11 _ (by kernel_rfl)) 82 (.pointer (some ⟨gj, 3, none⟩)) (by kernel_rfl) ?_
  refine WO.ld (SA.S (kpR _) (kpT _) _ 12 _ (by kernel_rfl)) 83 (.slice Al xs.length cl) (by kernel_rfl) (fun _ k_ => ((H.blk 4).kp k_ (by show gj ∈ ([gj] : List Nat); simp)).at 3 (by kernel_rfl)) ?_
  refine WO.one (SA.F (kpR _) (kpT _) _ 13 _ (by kernel_rfl)) 84 (.slice Ao xs2.length co) (by kernel_rfl) ?_
  refine Gb (SA.ER _ 7 _ (by kernel_rfl) rfl) H 78 #[.int .i64 x.1.n] 3 (fun g => .slice (some ⟨g, 0, none⟩) 1 1) (H.kpF [4]) ?_
  intro g12 w H
  refine GayK (SA.ER _ 8 _ (by kernel_rfl) rfl) H 6 79 (A := Ap) (c := cp) (xv := .slice (some ⟨g12, 0, none⟩) 1 1) (n := dn.length) (m := 1) et_i (List.map cI (dn.map fun x => x.1.n)) (List.map cI ([x.1.n])) [5] ((List.length_map _).trans ((List.length_map _ : List.length (dn.map fun x => x.1.n) = dn.length))) (by rw [List.length_map] <;> first | rfl | omega | (simp <;> omega)) (by omega) (RowB.src (RowB.of_blk (n := 1) (H.blk 0) (List.map cI [x.1.n]) rfl rfl (cI_len _) (cI_one _) (by omega))) (cI_len _) (cI_one _) (by omega) (by omega) ?_
  intro A13 cap14 w hccap14 H
  rw [← List.map_append] at H
  obtain ⟨F15, HY_⟩ := H.at 3 (rY 69 1 (.slice Ao xs2.length co) (List.map cR xs2))
  have HV16 := OwnY.view HY_
  refine Gay (SA.E _ 14 _ (by kernel_rfl) rfl) H 7 85 (A := Al) (c := cl) (xv := .slice Ao xs2.length co) (n := xs.length) (m := xs2.length) et_r (List.map cR xs) (List.map cR xs2) ((List.length_map _).trans ((rfl : xs.length = _))) (by rw [List.length_map] <;> first | rfl | omega | (simp <;> omega)) (by omega) (VX.srcN HV16 (rfl : xs2.length = _) (cR_len _) (cR_one _) co) (cR_len _) (cR_one _) (by omega) (by omega) (fun _ => trivial) ?_
  intro A17 cap18 w hccap18 H
  rw [← List.map_append] at H
  refine WO.one (SA.F (kpR _) (kpT _) _ 15 _ (by kernel_rfl)) 86 (.pointer (some ⟨gj, 0, none⟩)) (by kernel_rfl) ?_
  refine WO.one (SA.F (kpR _) (kpT _) _ 16 _ (by kernel_rfl)) 87 (.pointer (some ⟨gj, 2, none⟩)) (by kernel_rfl) ?_
  refine Gs (SA.E _ 17 _ (by kernel_rfl) rfl) H 7 2 #[.pointer (some ⟨gd, 0, none⟩), .int .i64 many, .slice A13 (dn.length + 1) cap14, .slice Al xs.length cl] (fun _ _ => trivial) ?_
  intro w H
  refine WO.one (SA.F (kpR _) (kpT _) _ 18 _ (by kernel_rfl)) 88 (.pointer (some ⟨gj, 0, none⟩)) (by kernel_rfl) ?_
  refine WO.one (SA.F (kpR _) (kpT _) _ 19 _ (by kernel_rfl)) 89 (.pointer (some ⟨gj, 3, none⟩)) (by kernel_rfl) ?_
  refine Gs (SA.E _ 20 _ (by kernel_rfl) rfl) H 0 3 #[.pointer (some ⟨gd, 0, none⟩), .int .i64 many, .slice A13 (dn.length + 1) cap14, .slice A17 (xs.length + xs2.length) cap18] (fun _ _ => trivial) ?_
  intro w H
  refine WO.doneA (by kernel_rfl) ?_
  refine WQ.keep [0, 2, 3, 16, 17, 18] (e' := [(0, .pointer (some ⟨gj, 0, none⟩)), (2, .nilIface), (3, .bool true), (16, .slice AP gs.length cP), (17, .int .i64 (gs.length : Int)), (18, .int .i64 (i : Int))]) (by kernel_rfl) ?_
  refine WQ.blkN ?_
  refine WQ.thenN ?_
  refine WE.region ?_
  refine WO.one (SQ.F 0 (by kernel_rfl)) 90 (.int .i64 (IntKind.i64.wrap ((i : Int) + 1))) (by kernel_rfl) ?_
  refine WO.top (v' := .int .i64 ((i + 1 : Nat) : Int)) (wrap_i64 (by omega) (by omega)) ?_
  refine WO.run 1 1 [(18, .int .i64 ((i + 1 : Nat) : Int))] (by kernel_rfl) (by kernel_rfl) ?_
  refine WO.done (by kernel_rfl) ?_
  refine WQ.keep [0, 2, 3, 16, 17, 18] (e' := [(0, .pointer (some ⟨gj, 0, none⟩)), (2, .nilIface), (3, .bool true), (16, .slice AP gs.length cP), (17, .int .i64 (gs.length : Int)), (18, .int .i64 ((i + 1 : Nat) : Int))]) (by kernel_rfl) ?_
  replace H := H.conv [8, 6] (Ent.eapp xs xs2 (allR (dn.map Prod.fst)) x.1.rs)
  rw [← allR_snoc] at H
  rw [show dn.length + 1 = (dn ++ [x]).length by simp, show xs.length + xs2.length = (xs ++ xs2).length by simp, show (List.map (fun x => x.1.n) dn ++ [x.1.n]) = List.map (fun x => x.1.n) (dn ++ [x]) by simp] at H
  refine WQ.round fun a_ ha_ => ⟨(i + 1, dn ++ [x], lf', A13, cap14, A17, cap18, xs ++ xs2), ?_, ha_.keep [0, 2, 3, 16, 17, 18] (by kernel_rfl), ?_, H.sub [1, 2, 1, 0, 1, 3]⟩
  ·
   show lf'.length < (x :: lf').length; exact Nat.lt_succ_self _
  exact ⟨by simp [hdi], by rw [← hdl]; simp, hok2, by simp; omega, by simp; omega, by simp only [List.length_append, hxr, h2b, allR_snoc]⟩
 intro h1
 refine WO.done (by kernel_rfl) ?_
 refine WQ.keep [0, 2, 3, 16, 17, 18, 19] (e' := [(0, .pointer (some ⟨gj, 0, none⟩)), (2, .nilIface), (3, .bool true), (16, .slice AP gs.length cP), (17, .int .i64 (gs.length : Int)), (18, .int .i64 (i : Int)), (19, .bool false)]) (by kernel_rfl) ?_
 refine WQ.thenN ?_
 refine WE.seq ?_
 refine WE.condF (by kernel_rfl) ?_
 refine WE.exit ?_
 refine WQ.thenE ?_
 refine WQ.thenE ?_
 refine WQ.blkE ?_
 refine WQ.thenN ?_
 refine WE.seq ?_
 refine WE.region ?_
 refine WO.run 1 0 [(2, .nilIface)] (by kernel_rfl) (by kernel_rfl) ?_
 refine WO.done (by kernel_rfl) ?_
 refine WQ.keep [2] (e' := [(2, .nilIface)]) (by kernel_rfl) ?_
 refine WQ.thenN ?_
 refine WE.ret ?_
 refine WQ.ret (v := .nilIface) (by kernel_rfl) ?_
 obtain rfl : lf = [] := by cases lf with | nil => rfl | cons a b => simp at hlen; omega
 rw [List.append_nil] at hdl
 subst hdl
 dsimp only at H
 rw [show ({ d with l := dn.map cutP ++ [].map tailP } : Dk) = { d with l := dn.map cutP } by simp] at H
 rw [show dn.length = (List.map (fun x => x.1.n) dn).length by simp] at H
 replace H := H.close [0, 0, 0, 0] (jp (dn.map fun x => x.1.n) (allR (dn.map Prod.fst))) (jq gj gd many (dn.map fun x => x.1.n) (allR (dn.map Prod.fst))) (Ap, cp, Al, cl, xs) (⟨by simp; omega, hcl, hxr⟩)
 exact H.leaf () [0, 0] trivial
set_option maxRecDepth 100000 in
set_option maxHeartbeats 400000 in
theorem jopen_bad (gd : Nat) (many : Int) (hb : many < 1 ∨ 100 < many) :
  Ct Tryz.prog 100 #[.pointer (some ⟨gd, 0, none⟩), .int .i64 many] [] [] (fun (_ : Unit) => True) (fun _ => (.tuple #[.pointer none, .iface 88 (.int .i64 1)], [])) := by
 refine Ct.mk fun w T_ H => ?_
 refine enter (N := 31) Tryz.func100 (c := _) rfl (by kernel_rfl) (by kernel_rfl) (e := [(0, .pointer (some ⟨gd, 0, none⟩)), (1, .int .i64 many)]) (by kernel_rfl) ?_
 refine WE.seq ?_
 refine WE.region ?_
 refine WO.run 2 0 [(5, .nilIface), (4, .pointer none)] (by kernel_rfl) (by kernel_rfl) ?_
 refine WO.done (by kernel_rfl) ?_
 refine WQ.keep [0, 1, 4, 5] (e' := [(0, .pointer (some ⟨gd, 0, none⟩)), (1, .int .i64 many), (4, .pointer none), (5, .nilIface)]) (by kernel_rfl) ?_
 refine WQ.thenN ?_
 refine WE.seq ?_
 refine WE.seq ?_
 refine WE.region ?_
 refine WO.run 4 0 [(11, .int .i64 many), (10, .bool false), (9, .bool false), (8, .pointer (some ⟨gd, 0, none⟩))] (by kernel_rfl) (by kernel_rfl) ?_
 refine WO.one (SQ.F 4 (by kernel_rfl)) 12 (.bool (decide ((many : Int) < 1))) (by kernel_rfl) ?_
 refine WO.topP ((many : Int) < 1) ?_ ?_
 ·
  intro h1
  refine WO.run 5 5 [(17, .bool true), (16, undef), (15, undef), (14, .bool true), (13, .bool true)] (by kernel_rfl) (by kernel_rfl) ?_
  refine WO.done (by kernel_rfl) ?_
  refine WQ.keep [0, 1, 4, 5, 17] (e' := [(0, .pointer (some ⟨gd, 0, none⟩)), (1, .int .i64 many), (4, .pointer none), (5, .nilIface), (17, .bool true)]) (by kernel_rfl) ?_
  refine WQ.thenN ?_
  refine WE.condT (by kernel_rfl) ?_
  refine WE.seq ?_
  refine WE.region ?_
  refine WO.run 3 0 [(5, .iface 88 (.int .i64 1)), (4, .pointer none), (18, .iface 88 (.int .i64 1))] (by kernel_rfl) (by kernel_rfl) ?_
  refine WO.done (by kernel_rfl) ?_
  refine WQ.keep [0, 1, 4, 5] (e' := [(0, .pointer (some ⟨gd, 0, none⟩)), (1, .int .i64 many), (4, .pointer none), (5, .iface 88 (.int .i64 1))]) (by kernel_rfl) ?_
  refine WQ.thenN ?_
  refine WE.ret ?_
  refine WQ.thenR ?_
  refine WQ.ret (v := .tuple #[.pointer none, .iface 88 (.int .i64 1)]) (by kernel_rfl) ?_
  exact H.leaf () [] trivial
 intro h1
 refine WO.run 3 5 [(15, .int .i64 many), (14, .bool false), (13, .bool false)] (by kernel_rfl) (by kernel_rfl) ?_
 refine WO.one (SQ.F 8 (by kernel_rfl)) 16 (.bool (decide ((many : Int) > 100))) (by kernel_rfl) ?_
 refine WO.topPT ((many : Int) > 100) (by omega) ?_
 refine WO.run 1 9 [(17, .bool true)] (by kernel_rfl) (by kernel_rfl) ?_
 refine WO.done (by kernel_rfl) ?_
 refine WQ.keep [0, 1, 4, 5, 17] (e' := [(0, .pointer (some ⟨gd, 0, none⟩)), (1, .int .i64 many), (4, .pointer none), (5, .nilIface), (17, .bool true)]) (by kernel_rfl) ?_
 refine WQ.thenN ?_
 refine WE.condT (by kernel_rfl) ?_
 refine WE.seq ?_
 refine WE.region ?_
 refine WO.run 3 0 [(5, .iface 88 (.int .i64 1)), (4, .pointer none), (18, .iface 88 (.int .i64 1))] (by kernel_rfl) (by kernel_rfl) ?_
 refine WO.done (by kernel_rfl) ?_
 refine WQ.keep [0, 1, 4, 5] (e' := [(0, .pointer (some ⟨gd, 0, none⟩)), (1, .int .i64 many), (4, .pointer none), (5, .iface 88 (.int .i64 1))]) (by kernel_rfl) ?_
 refine WQ.thenN ?_
 refine WE.ret ?_
 refine WQ.thenR ?_
 refine WQ.ret (v := .tuple #[.pointer none, .iface 88 (.int .i64 1)]) (by kernel_rfl) ?_
 exact H.leaf () [] trivial
set_option maxRecDepth 100000 in
set_option maxHeartbeats 400000 in
theorem jopen_ct (gd : Nat) (many a : Int) (d : Dk) (gs : List (Seg × List UInt8)) (hok : d.Ok) (hm : ¬ (many < 1 ∨ 100 < many)) (hd : d.l = gs.map tailP) (ha : 0 ≤ a ∧ a ≤ 1000000) (hch : Chain a (gs.map Prod.fst)) (hgs : ∀ x ∈ gs, (∀ r ∈ x.1.rs, recOk r) ∧ Stops x.2) (hne : ∀ x ∈ gs, x.1.rs ≠ []) (htot : gs.length ≤ 100000 ∧ (allR (gs.map Prod.fst)).length ≤ 100000) :
  Ct Tryz.prog 100 #[.pointer (some ⟨gd, 0, none⟩), .int .i64 many] [] [rDk gd d] (fun (_ : Nat) => True) (fun gj => (.tuple #[.pointer (some ⟨gj, 0, none⟩), .nilIface], [rJ gj gd many (gs.map fun x => x.1.n) (allR (gs.map Prod.fst)), rDk gd { up d with l := gs.map cutP }])) := by
 refine Ct.mk fun w T_ H => ?_
 refine enter (N := 31) Tryz.func100 (c := _) rfl (by kernel_rfl) (by kernel_rfl) (e := [(0, .pointer (some ⟨gd, 0, none⟩)), (1, .int .i64 many)]) (by kernel_rfl) ?_
 refine WE.seq ?_
 refine WE.region ?_
 refine WO.run 2 0 [(5, .nilIface), (4, .pointer none)] (by kernel_rfl) (by kernel_rfl) ?_
 refine WO.done (by kernel_rfl) ?_
 refine WQ.keep [0, 1, 4, 5] (e' := [(0, .pointer (some ⟨gd, 0, none⟩)), (1, .int .i64 many), (4, .pointer none), (5, .nilIface)]) (by kernel_rfl) ?_
 refine WQ.thenN ?_
 refine WE.seq ?_
 refine WE.seq ?_
 refine WE.region ?_
 refine WO.run 4 0 [(11, .int .i64 many), (10, .bool false), (9, .bool false), (8, .pointer (some ⟨gd, 0, none⟩))] (by kernel_rfl) (by kernel_rfl) ?_
 refine WO.one (SQ.F 4 (by kernel_rfl)) 12 (.bool (decide ((many : Int) < 1))) (by kernel_rfl) ?_
 refine WO.topPF ((many : Int) < 1) (by omega) ?_
 refine WO.run 3 5 [(15, .int .i64 many), (14, .bool false), (13, .bool false)] (by kernel_rfl) (by kernel_rfl) ?_
 refine WO.one (SQ.F 8 (by kernel_rfl)) 16 (.bool (decide ((many : Int) > 100))) (by kernel_rfl) ?_
 refine WO.topPF ((many : Int) > 100) (by omega) ?_
 refine WO.run 1 9 [(17, .bool false)] (by kernel_rfl) (by kernel_rfl) ?_
 refine WO.done (by kernel_rfl) ?_
 refine WQ.keep [0, 1, 4, 5, 17] (e' := [(0, .pointer (some ⟨gd, 0, none⟩)), (1, .int .i64 many), (4, .pointer none), (5, .nilIface), (17, .bool false)]) (by kernel_rfl) ?_
 refine WQ.thenN ?_
 refine WE.condF (by kernel_rfl) ?_
 refine WE.skip ?_
 refine WQ.thenN ?_
 refine WE.seq ?_
 refine WE.region ?_
 refine WO.run 1 0 [(19, .pointer (some ⟨gd, 0, none⟩))] (by kernel_rfl) (by kernel_rfl) ?_
 refine Sc H 20 (dup_ct gd d) [0] [] ?_
 rintro ⟨⟩ w _ H
 refine WO.done (by kernel_rfl) ?_
 refine WQ.keep [0, 1, 4, 5] (e' := [(0, .pointer (some ⟨gd, 0, none⟩)), (1, .int .i64 many), (4, .pointer none), (5, .nilIface)]) (by kernel_rfl) ?_
 refine WQ.thenN ?_
 refine WE.seq ?_
 refine WE.region ?_
 refine WO.run 3 0 [(23, .agg #[.pointer (some ⟨gd, 0, none⟩), .int .i64 many, .slice none 0 0, .slice none 0 0]), (22, .int .i64 many), (21, .pointer (some ⟨gd, 0, none⟩))] (by kernel_rfl) (by kernel_rfl) ?_
 refine Sb H 24 #[.pointer (some ⟨gd, 0, none⟩), .int .i64 many, .slice none 0 0, .slice none 0 0] 302 (fun g => .pointer (some ⟨g, 0, none⟩)) ?_
 intro g1 w H
 refine WO.run 1 4 [(6, .pointer (some ⟨g1, 0, none⟩))] (by kernel_rfl) (by kernel_rfl) ?_
 refine WO.done (by kernel_rfl) ?_
 refine WQ.keep [4, 5, 6] (e' := [(4, .pointer none), (5, .nilIface), (6, .pointer (some ⟨g1, 0, none⟩))]) (by kernel_rfl) ?_
 refine WQ.thenN ?_
 refine WE.seq ?_
 refine WE.seq ?_
 refine WE.region ?_
 refine WO.run 1 0 [(25, .pointer (some ⟨g1, 0, none⟩))] (by kernel_rfl) (by kernel_rfl) ?_
 refine Sc H 26 (load_ct g1 gd many a (up d) gs (up_ok hok) rfl hd ha hch hgs hne htot) [0, 0] [] ?_
 rintro ⟨⟩ w _ H
 refine WO.run 1 2 [(7, .nilIface)] (by kernel_rfl) (by kernel_rfl) ?_
 refine WO.done (by kernel_rfl) ?_
 refine WQ.keep [4, 5, 6, 7] (e' := [(4, .pointer none), (5, .nilIface), (6, .pointer (some ⟨g1, 0, none⟩)), (7, .nilIface)]) (by kernel_rfl) ?_
 refine WQ.thenN ?_
 refine WE.seq ?_
 refine WE.region ?_
 refine WO.run 2 0 [(28, .bool false), (27, .nilIface)] (by kernel_rfl) (by kernel_rfl) ?_
 refine WO.done (by kernel_rfl) ?_
 refine WQ.keep [4, 5, 6, 7, 28] (e' := [(4, .pointer none), (5, .nilIface), (6, .pointer (some ⟨g1, 0, none⟩)), (7, .nilIface), (28, .bool false)]) (by kernel_rfl) ?_
 refine WQ.thenN ?_
 refine WE.condF (by kernel_rfl) ?_
 refine WE.skip ?_
 refine WQ.thenN ?_
 refine WE.seq ?_
 refine WE.region ?_
 refine WO.run 3 0 [(5, .nilIface), (4, .pointer (some ⟨g1, 0, none⟩)), (30, .pointer (some ⟨g1, 0, none⟩))] (by kernel_rfl) (by kernel_rfl) ?_
 refine WO.done (by kernel_rfl) ?_
 refine WQ.keep [4, 5] (e' := [(4, .pointer (some ⟨g1, 0, none⟩)), (5, .nilIface)]) (by kernel_rfl) ?_
 refine WQ.thenN ?_
 refine WE.ret ?_
 refine WQ.ret (v := .tuple #[.pointer (some ⟨g1, 0, none⟩), .nilIface]) (by kernel_rfl) ?_
 exact H.leaf g1 [0, 0] trivial
end Go.Proofs.YtjfgmdkdcnfdoaaGreatDoor.Jrn
