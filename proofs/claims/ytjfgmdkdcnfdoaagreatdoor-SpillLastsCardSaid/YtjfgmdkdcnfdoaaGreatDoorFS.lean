/- Layer 21, own, over resources (batches without rows). -/
import Derived.Test.YtjfgmdkdcnfdoaaGreatDoorFB
set_option linter.unusedVariables false
set_option linter.unusedSimpArgs false
namespace Go.Proofs.YtjfgmdkdcnfdoaaGreatDoor.Jrn
open Go Go.RowKit Go.Proofs.YtjfgmdkdcnfdoaaGreatDoor Go.Proofs.YtjfgmdkdcnfdoaaGreatDoor.Eng Go.Proofs.YtjfgmdkdcnfdoaaGreatDoor.Eng.Sep Go.Proofs.YtjfgmdkdcnfdoaaGreatDoorW.PrintWords
open Go.Proofs.YtjfgmdkdcnfdoaaGreatDoor.Disk
open Go.Proofs.YtjfgmdkdcnfdoaaGreatDoor.Wire (enc encT rText)
theorem _root_.Go.Proofs.YtjfgmdkdcnfdoaaGreatDoor.Eng.Sep.Ct.more {P : Program} {f : FuncId} {args : Array Value} {rd us : List Res} {α : Type} {q : α → Prop} {post : α → Value × List Res} (C : Ct P f args rd us q post) (m : List Res) : Ct P f args (rd ++ m) us q post := fun w xu xr hu hr hU => by
 obtain ⟨x1, x2, rfl, h1, h2⟩ := List.map_eq_append_iff.1 hr
 exact C w xu x1 hu h1 (by rw [← List.append_assoc] at hU; exact hU.left)
section
variable (gj gd : Nat) (many : Int) (ps : List Int) (rs : List (List UInt8))
theorem first_J (hlp : ps.length ≤ 1000000) (hll : rs.length ≤ 1000000) : Ct Tryz.prog 101 #[.pointer (some ⟨gj, 0, none⟩)] [rJ gj gd many ps rs] [] (fun (_ : Unit) => True) (fun _ => (.int .i64 (firstN ps), [])) :=
 Ct.lift (rd := []) fun ⟨Ap, cp, Al, cl, xs⟩ hb => (first_c gj gd many Ap Al cp cl ps xs hlp (by have := hb.2.2; simp only at this; omega)).more [_, _]
theorem next_J (hlp : ps.length ≤ 1000000) (hll : rs.length ≤ 1000000) (hf : 0 ≤ firstN ps ∧ firstN ps ≤ 1000000) : Ct Tryz.prog 102 #[.pointer (some ⟨gj, 0, none⟩)] [rJ gj gd many ps rs] [] (fun (_ : Unit) => True) (fun _ => (.int .i64 (firstN ps + (rs.length : Int)), [])) :=
 Ct.lift (rd := []) fun ⟨Ap, cp, Al, cl, xs⟩ hb => by
  have h : xs.length = rs.length := hb.2.2
  rw [← h]
  exact (next_c gj gd many Ap Al cp cl ps xs hlp (by omega) hf).more [_, _]
theorem rec_J (hlp : ps.length ≤ 1000000) (hll : rs.length ≤ 1000000) (hf : 0 ≤ firstN ps ∧ firstN ps ≤ 1000000) (n : Int) (k : Nat) (r : List UInt8) (hn : n = firstN ps + (k : Int)) (hk : k < rs.length) (hrk : rs[k]? = some r) (hp : 0 < r.length) (hl : r.length ≤ 1000000) : Ct Tryz.prog 179 #[.pointer (some ⟨gj, 0, none⟩), .int .i64 n] [rJ gj gd many ps rs] [] (fun (a : Option Addr × Nat) => r.length ≤ a.2) (fun a => (.tuple #[.slice a.1 r.length a.2, .nilIface], [rV cB 1 a.1 r])) :=
 Ct.lift (rd := []) fun ⟨Ap, cp, Al, cl, xs⟩ hb => fun w xu xr hu hr hU => by
  have h : xs.length = rs.length := hb.2.2
  have hxk := gR_some xs k (by omega)
  obtain ⟨x, hx, hx1⟩ : ∃ x ∈ xr, x.1 = rE xs rs := by
   have hm : rE xs rs ∈ xr.map (·.1) := by rw [hr]; simp [jq]
   exact List.mem_map.1 hm
  have hE := hU.p x (List.mem_append_right _ hx)
  rw [hx1] at hE
  obtain ⟨hxn, _, _⟩ := EV.at (show EV w x.2 xs rs from hE) hxk hrk
  exact (Ct.entO (q2 := fun (a : Option Addr × Nat) => r.length ≤ a.2) (post2 := fun a => (.tuple #[.slice a.1 r.length a.2, .nilIface], [rV cB 1 a.1 r])) (jrec_at gj gd many Ap Al cp cl ps xs rs hlp (by omega) hf n k r hn (by omega) hxk hxn hrk hp hl) fun a ha => ⟨a, ha, rfl, Ent.yv cB 5 1 a.1 r.length a.2 r⟩) w xu xr hu hr hU
theorem recno_J (hlp : ps.length ≤ 1000000) (hll : rs.length ≤ 1000000) (hf : 0 ≤ firstN ps ∧ firstN ps ≤ 1000000) (n : Int) (hn : n < firstN ps ∨ firstN ps + (rs.length : Int) ≤ n) : Ct Tryz.prog 179 #[.pointer (some ⟨gj, 0, none⟩), .int .i64 n] [rJ gj gd many ps rs] [] (fun (_ : Unit) => True) (fun _ => (.tuple #[.slice none 0 0, .iface 88 (.int .i64 4)], [])) :=
 Ct.lift (rd := []) fun ⟨Ap, cp, Al, cl, xs⟩ hb => by
  have h : xs.length = rs.length := hb.2.2
  exact (jrec_no gj gd many Ap Al cp cl ps xs hlp (by omega) hf n (by rw [h]; exact hn)).more [_, _]
theorem sync_J (d : Dk) (hlp : ps.length ≤ 1000000) (hll : rs.length ≤ 1000000) (hp : 0 < ps.length) (ho : d.Ok) (hg : 0 ≤ g0 ps (ps.length - 1) ∧ g0 ps (ps.length - 1) ≤ 1000000) : Ct Tryz.prog 110 #[.pointer (some ⟨gj, 0, none⟩)] [rJ gj gd many ps rs] [rDk gd d] (fun (_ : Unit) => True) (fun _ => (codeV (sync d (g0 ps (ps.length - 1))).1, [rDk gd (sync d (g0 ps (ps.length - 1))).2])) :=
 Ct.lift (rd := []) fun ⟨Ap, cp, Al, cl, xs⟩ hb => (jsync_n gj gd many Ap Al cp cl ps xs hlp (by have := hb.2.2; simp only at this; omega) d hp ho (by omega)).more [_, _]
theorem app_J (d : Dk) (Ab : Option Addr) (nb cb : Nat) (r : List UInt8) (hlp : ps.length ≤ 1000000) (hll : rs.length ≤ 1000000) (hf : 0 ≤ firstN ps ∧ firstN ps ≤ 1000000) (hg : 0 < ps.length → 0 ≤ g0 ps (ps.length - 1) ∧ g0 ps (ps.length - 1) ≤ 1000000) (hro : recOk r) (hnb : r.length = nb) (ho : d.Ok) (hel : d.l.length ≤ 1000000) (hs : 0 < ps.length → (sync d (g0 ps (ps.length - 1))).1 = 0) : Ct Tryz.prog 109 #[.pointer (some ⟨gj, 0, none⟩), .slice Ab nb cb] [rV cB 1 Ab r] [rJ gj gd many ps rs, rDk gd d] (fun (_ : Unit) => True) (fun _ => (codeV (jApp many r ps rs d).1, [rJ gj gd many (jApp many r ps rs d).2.1 (jApp many r ps rs d).2.2.1, rDk gd (jApp many r ps rs d).2.2.2])) :=
 Ct.liftU (us := [rDk gd d]) fun ⟨Ap, cp, Al, cl, xs⟩ hb => japp_x gj gd many Ap Al cp cl ps xs rs d Ab nb cb r hlp (by have := hb.2.2; simp only at this; omega) hb.1 hb.2.1 hb.2.2 hf hg hro hnb ho hel hs
def TrimS (n : Int) (I : List Int → List (List UInt8) → Dk → Prop) : Prop := ∀ ps rs d, I ps rs d → 1 < ps.length → g0 ps 1 ≤ n → d.Ok ∧ (remove d (g0 ps 0)).1 = 0 ∧ 0 ≤ g0 ps 0 ∧ g0 ps 0 ≤ g0 ps 1 ∧ g0 ps 1 ≤ 1000000 ∧ g0 ps 1 - g0 ps 0 ≤ rs.length ∧ I (ps.drop 1) (rs.drop (g0 ps 1 - g0 ps 0).toNat) (remove d (g0 ps 0)).2
theorem trim_J (d : Dk) (n : Int) (k0 : Nat) (z0 : List Int × List (List UInt8) × Dk) (hz0 : jTr n k0 (ps, rs, d) = z0) (I : List Int → List (List UInt8) → Dk → Prop) (hB : ∀ ps rs d, I ps rs d → ps.length ≤ 1000000 ∧ rs.length ≤ 1000000) (hS : TrimS n I) (hI0 : I ps rs d) (hk0 : ps.length ≤ k0) : Ct Tryz.prog 114 #[.pointer (some ⟨gj, 0, none⟩), .int .i64 n] [] [rJ gj gd many ps rs, rDk gd d] (fun (_ : Unit) => True) (fun _ => (.nilIface, [rJ gj gd many z0.1 z0.2.1, rDk gd z0.2.2])) :=
 Ct.liftU (us := [rDk gd d]) fun ⟨Ap, cp, Al, cl, xs⟩ hb => jtrim_x gj gd many Ap Al cp cl ps xs rs d n k0 z0 hz0 I hB hS hI0 hk0 hb.1 hb.2.1 hb.2.2
end
set_option maxRecDepth 100000 in
set_option maxHeartbeats 400000 in
theorem snext_o (g gj gd : Nat) (many room head : Int) (ps : List Int) (rs : List (List UInt8)) (hlp : ps.length ≤ 1000000) (hll : rs.length ≤ 1000000) (hf : 0 ≤ firstN ps ∧ firstN ps ≤ 1000000) :
  Ct Tryz.prog 49 #[.pointer (some ⟨g, 0, none⟩)] [rB g #[.pointer (some ⟨gj, 0, none⟩), .int .i64 room, .int .i64 head] 200, rJ gj gd many ps rs] [] (fun (_ : Unit) => True) (fun _ => (.int .i64 (firstN ps + (rs.length : Int)), [])) := by
 refine Ct.mk fun w T_ H => ?_
 refine enter (N := 8) Tryz.func49 (c := _) rfl (by kernel_rfl) (by kernel_rfl) (e := [(0, .pointer (some ⟨g, 0, none⟩))]) (by kernel_rfl) ?_
 refine WE.seq ?_
 refine WE.region ?_
 refine WO.run 1 0 [(2, .int .i64 0)] (by kernel_rfl) (by kernel_rfl) ?_
 refine WO.done (by kernel_rfl) ?_
 refine WQ.keep [0, 2] (e' := [(0, .pointer (some ⟨g, 0, none⟩)), (2, .int .i64 0)]) (by kernel_rfl) ?_
 refine WQ.thenN ?_
 refine WE.seq ?_
 refine WE.region ?_
 refine WO.run 3 0 [(5, .pointer (some ⟨g, 0, none⟩)), (4, .pointer (some ⟨g, 0, none⟩)), (3, .pointer (some ⟨g, 0, none⟩))] (by kernel_rfl) (by kernel_rfl) ?_
 refine WO.ld (SQ.S 3 (by kernel_rfl)) 6 (.pointer (some ⟨gj, 0, none⟩)) (by kernel_rfl) (H.cell 0 0) ?_
 refine Sc H 7 (next_J gj gd many ps rs hlp hll hf) [] [1] ?_
 rintro ⟨⟩ w _ H
 refine WO.run 1 5 [(2, .int .i64 (firstN ps + (rs.length : Int)))] (by kernel_rfl) (by kernel_rfl) ?_
 refine WO.done (by kernel_rfl) ?_
 refine WQ.keep [2] (e' := [(2, .int .i64 (firstN ps + (rs.length : Int)))]) (by kernel_rfl) ?_
 refine WQ.thenN ?_
 refine WE.ret ?_
 refine WQ.ret (v := .int .i64 (firstN ps + (rs.length : Int))) (by kernel_rfl) ?_
 exact H.leaf () [] trivial
set_option maxRecDepth 100000 in
set_option maxHeartbeats 400000 in
theorem slen_o (g gj gd : Nat) (many room head : Int) (ps : List Int) (rs : List (List UInt8)) (hlp : ps.length ≤ 1000000) (hll : rs.length ≤ 1000000) (hf : 0 ≤ firstN ps ∧ firstN ps ≤ 1000000) (hh : 0 ≤ head ∧ head ≤ 2000000) :
  Ct Tryz.prog 47 #[.pointer (some ⟨g, 0, none⟩)] [rB g #[.pointer (some ⟨gj, 0, none⟩), .int .i64 room, .int .i64 head] 200, rJ gj gd many ps rs] [] (fun (_ : Unit) => True) (fun _ => (.int .i64 (firstN ps + (rs.length : Int) - head), [])) := by
 refine Ct.mk fun w T_ H => ?_
 refine enter (N := 10) Tryz.func47 (c := _) rfl (by kernel_rfl) (by kernel_rfl) (e := [(0, .pointer (some ⟨g, 0, none⟩))]) (by kernel_rfl) ?_
 refine WE.seq ?_
 refine WE.region ?_
 refine WO.run 1 0 [(2, .int .i64 0)] (by kernel_rfl) (by kernel_rfl) ?_
 refine WO.done (by kernel_rfl) ?_
 refine WQ.keep [0, 2] (e' := [(0, .pointer (some ⟨g, 0, none⟩)), (2, .int .i64 0)]) (by kernel_rfl) ?_
 refine WQ.thenN ?_
 refine WE.seq ?_
 refine WE.draw [.free, .effR, .free, .free, .free, .still, .free, .free] (Kp [g]) (kpR _) (by kernel_rfl) 8 (Array.replicate 8 false) (by kernel_rfl) rfl ?_
 intro w F_ _
 replace H := H.step0 F_
 refine WO.one (SA.F (kpR _) (kpT _) _ 0 _ (by kernel_rfl)) 3 (.pointer (some ⟨g, 0, none⟩)) (by kernel_rfl) ?_
 refine WO.one (SA.F (kpR _) (kpT _) _ 2 _ (by kernel_rfl)) 5 (.pointer (some ⟨g, 0, none⟩)) (by kernel_rfl) ?_
 refine WO.one (SA.F (kpR _) (kpT _) _ 3 _ (by kernel_rfl)) 6 (.pointer (some ⟨g, 0, none⟩)) (by kernel_rfl) ?_
 refine WO.one (SA.F (kpR _) (kpT _) _ 4 _ (by kernel_rfl)) 7 (.pointer (some ⟨g, 2, none⟩)) (by kernel_rfl) ?_
 refine WO.ld (SA.S (kpR _) (kpT _) _ 5 _ (by kernel_rfl)) 8 (.int .i64 head) (by kernel_rfl) (fun _ k_ => ((H.blk 0).kp k_ (by show g ∈ ([g] : List Nat); simp)).at 2 (by kernel_rfl)) ?_
 refine GcK (SA.ER _ 1 _ (by kernel_rfl) rfl) H 4 (snext_o g gj gd many room head ps rs hlp hll hf) [] [0, 0] [0] ?_
 rintro ⟨⟩ w _ H
 refine WO.one (SA.F (kpR _) (kpT _) _ 6 _ (by kernel_rfl)) 9 (.int .i64 (IntKind.i64.wrap ((firstN ps + (rs.length : Int)) - head))) (by kernel_rfl) ?_
 refine WO.top (v' := .int .i64 ((firstN ps + (rs.length : Int)) - head)) (wrap_i64 (by omega) (by omega)) ?_
 refine WO.one (SA.F (kpR _) (kpT _) _ 7 _ (by kernel_rfl)) 2 (.int .i64 ((firstN ps + (rs.length : Int)) - head)) (by kernel_rfl) ?_
 refine WO.doneA (by kernel_rfl) ?_
 refine WQ.keep [2] (e' := [(2, .int .i64 ((firstN ps + (rs.length : Int)) - head))]) (by kernel_rfl) ?_
 refine WQ.thenN ?_
 refine WE.ret ?_
 refine WQ.ret (v := .int .i64 ((firstN ps + (rs.length : Int)) - head)) (by kernel_rfl) ?_
 exact H.leaf () [] trivial
set_option maxRecDepth 100000 in
set_option maxHeartbeats 400000 in
theorem sat_o (g gj gd : Nat) (many room head : Int) (ps : List Int) (rs : List (List UInt8)) (hlp : ps.length ≤ 1000000) (hll : rs.length ≤ 1000000) (hf : 0 ≤ firstN ps ∧ firstN ps ≤ 1000000) (m t k : Nat) (hm : m ≤ 2147483647) (ht : t ≤ 1099511627776) (hk : k < rs.length) (hrk : rs[k]? = some (encB m t)) (hn : (m : Int) = firstN ps + (k : Int)) :
  Ct Tryz.prog 103 #[.pointer (some ⟨g, 0, none⟩), .int .i64 (m : Int)] [rB g #[.pointer (some ⟨gj, 0, none⟩), .int .i64 room, .int .i64 head] 200, rJ gj gd many ps rs] [] (fun (a : Option Addr × Nat) => (encB m t).length ≤ a.2) (fun a => (.tuple #[.agg #[.int .i64 (m : Int), .int .i64 (t : Int), .slice none 0 0], .slice a.1 (encB m t).length a.2, .bool true], [rV cB 1 a.1 (encB m t)])) := by
 refine Ct.mk fun w T_ H => ?_
 have hel := encB_len hm ht
 refine enter (N := 38) Tryz.func103 (c := _) rfl (by kernel_rfl) (by kernel_rfl) (e := [(0, .pointer (some ⟨g, 0, none⟩)), (1, .int .i64 (m : Int))]) (by kernel_rfl) ?_
 refine WE.seq ?_
 refine WE.region ?_
 refine Sb H 4 #[.int .i64 0, .int .i64 0, .slice none 0 0] 42 (fun g => .pointer (some ⟨g, 0, none⟩)) ?_
 intro g1 w H
 refine WO.run 2 1 [(6, .bool false), (5, .slice none 0 0)] (by kernel_rfl) (by kernel_rfl) ?_
 refine WO.done (by kernel_rfl) ?_
 refine WQ.keep [0, 1, 4, 5, 6] (e' := [(0, .pointer (some ⟨g, 0, none⟩)), (1, .int .i64 (m : Int)), (4, .pointer (some ⟨g1, 0, none⟩)), (5, .slice none 0 0), (6, .bool false)]) (by kernel_rfl) ?_
 refine WQ.thenN ?_
 refine WE.seq ?_
 refine WE.region ?_
 refine WO.run 3 0 [(13, .pointer (some ⟨g, 0, none⟩)), (12, .pointer (some ⟨g, 0, none⟩)), (11, .pointer (some ⟨g, 0, none⟩))] (by kernel_rfl) (by kernel_rfl) ?_
 refine WO.ld (SQ.S 3 (by kernel_rfl)) 14 (.pointer (some ⟨gj, 0, none⟩)) (by kernel_rfl) (H.cell 1 0) ?_
 refine WO.run 1 4 [(15, .int .i64 (m : Int))] (by kernel_rfl) (by kernel_rfl) ?_
 refine Sc H 16 (rec_J gj gd many ps rs hlp hll hf (m : Int) k (encB m t) hn hk hrk (by omega) (by omega)) [] [2] ?_
 rintro ⟨A1, c1⟩ w hc1 H
 refine WO.run 5 6 [(8, .nilIface), (7, .slice A1 ((encB m t).length) c1), (18, .nilIface), (17, .slice A1 ((encB m t).length) c1), (10, .tuple #[.slice A1 ((encB m t).length) c1, .nilIface])] (by kernel_rfl) (by kernel_rfl) ?_
 refine WO.done (by kernel_rfl) ?_
 refine WQ.keep [1, 4, 5, 6, 7, 8] (e' := [(1, .int .i64 (m : Int)), (4, .pointer (some ⟨g1, 0, none⟩)), (5, .slice none 0 0), (6, .bool false), (7, .slice A1 ((encB m t).length) c1), (8, .nilIface)]) (by kernel_rfl) ?_
 refine WQ.thenN ?_
 refine WE.seq ?_
 refine WE.seq ?_
 refine WE.region ?_
 refine WO.run 2 0 [(20, .bool false), (19, .nilIface)] (by kernel_rfl) (by kernel_rfl) ?_
 refine WO.done (by kernel_rfl) ?_
 refine WQ.keep [1, 4, 5, 6, 7, 8, 20] (e' := [(1, .int .i64 (m : Int)), (4, .pointer (some ⟨g1, 0, none⟩)), (5, .slice none 0 0), (6, .bool false), (7, .slice A1 ((encB m t).length) c1), (8, .nilIface), (20, .bool false)]) (by kernel_rfl) ?_
 refine WQ.thenN ?_
 refine WE.condF (by kernel_rfl) ?_
 refine WE.skip ?_
 refine WQ.thenN ?_
 refine WE.seq ?_
 refine WE.region ?_
 refine WO.run 1 0 [(23, .slice A1 ((encB m t).length) c1)] (by kernel_rfl) (by kernel_rfl) ?_
 refine Sc H 24 (bget_0 A1 _ c1 m t rfl hc1 hm ht) [] [0] ?_
 rintro ⟨⟩ w _ H
 refine WO.run 3 2 [(26, .nilIface), (25, .agg #[.int .i64 (m : Int), .int .i64 (t : Int), .slice none 0 0]), (22, .tuple #[.agg #[.int .i64 (m : Int), .int .i64 (t : Int), .slice none 0 0], .nilIface])] (by kernel_rfl) (by kernel_rfl) ?_
 refine Sb H 9 #[.int .i64 0, .int .i64 0, .slice none 0 0] 42 (fun g => .pointer (some ⟨g, 0, none⟩)) ?_
 intro g2 w H
 refine Ss H 0 0 #[.int .i64 (m : Int), .int .i64 (t : Int), .slice none 0 0] ?_
 intro w H
 refine WO.run 1 7 [(8, .nilIface)] (by kernel_rfl) (by kernel_rfl) ?_
 refine WO.done (by kernel_rfl) ?_
 refine WQ.keep [1, 4, 5, 6, 7, 8, 9] (e' := [(1, .int .i64 (m : Int)), (4, .pointer (some ⟨g1, 0, none⟩)), (5, .slice none 0 0), (6, .bool false), (7, .slice A1 ((encB m t).length) c1), (8, .nilIface), (9, .pointer (some ⟨g2, 0, none⟩))]) (by kernel_rfl) ?_
 refine WQ.thenN ?_
 refine WE.seq ?_
 refine WE.seq ?_
 refine WE.region ?_
 refine WO.run 4 0 [(30, .pointer (some ⟨g2, 0, none⟩)), (29, .bool false), (28, .bool false), (27, .nilIface)] (by kernel_rfl) (by kernel_rfl) ?_
 refine WO.ld (SQ.S 4 (by kernel_rfl)) 31 (.int .i64 (m : Int)) (by kernel_rfl) (H.cell 0 0) ?_
 refine WO.run 1 5 [(32, .int .i64 (m : Int))] (by kernel_rfl) (by kernel_rfl) ?_
 refine WO.one (SQ.F 6 (by kernel_rfl)) 33 (.bool (!decide (((m : Int) : Int) = (m : Int)))) (by kernel_rfl) ?_
 refine WO.topNT (((m : Int) : Int) = (m : Int)) (by rfl) ?_
 refine WO.run 1 7 [(34, .bool false)] (by kernel_rfl) (by kernel_rfl) ?_
 refine WO.done (by kernel_rfl) ?_
 refine WQ.keep [4, 5, 6, 7, 9, 34] (e' := [(4, .pointer (some ⟨g1, 0, none⟩)), (5, .slice none 0 0), (6, .bool false), (7, .slice A1 ((encB m t).length) c1), (9, .pointer (some ⟨g2, 0, none⟩)), (34, .bool false)]) (by kernel_rfl) ?_
 refine WQ.thenN ?_
 refine WE.condF (by kernel_rfl) ?_
 refine WE.skip ?_
 refine WQ.thenN ?_
 refine WE.seq ?_
 refine WE.region ?_
 refine SlA H 0 0 36 [.int .i64 (m : Int), .int .i64 (t : Int), .slice none 0 0] ?_
 refine WO.run 1 1 [(37, .slice A1 ((encB m t).length) c1)] (by kernel_rfl) (by kernel_rfl) ?_
 refine Ss H 2 0 #[.int .i64 (m : Int), .int .i64 (t : Int), .slice none 0 0] ?_
 intro w H
 refine WO.run 2 3 [(6, .bool true), (5, .slice A1 ((encB m t).length) c1)] (by kernel_rfl) (by kernel_rfl) ?_
 refine WO.done (by kernel_rfl) ?_
 refine WQ.keep [4, 5, 6] (e' := [(4, .pointer (some ⟨g1, 0, none⟩)), (5, .slice A1 ((encB m t).length) c1), (6, .bool true)]) (by kernel_rfl) ?_
 refine WQ.thenN ?_
 refine WE.ret ?_
 refine WQ.ret3 (fn := Tryz.f103) (show Tryz.f103.results = #[.cell 4 42, .tmp 5, .tmp 6] by kernel_rfl) (show resOk _ _ _ _ (.agg #[.int .i64 (m : Int), .int .i64 (t : Int), .slice none 0 0]) from ⟨by kernel_rfl, ⟨g1, 0, none⟩, by kernel_rfl, ldVarB [.int .i64 (m : Int), .int .i64 (t : Int), .slice none 0 0] (by kernel_rfl) (by kernel_rfl) (by kernel_rfl) (H.blk 0) (by kernel_rfl)⟩) (show resOk _ _ _ _ (.slice A1 ((encB m t).length) c1) from ⟨by kernel_rfl, by kernel_rfl⟩) (show resOk _ _ _ _ (.bool true) from ⟨by kernel_rfl, by kernel_rfl⟩) ?_
 exact H.leaf (A1, c1) [2] hc1
set_option maxRecDepth 100000 in
set_option maxHeartbeats 400000 in
theorem satno_o (g gj gd : Nat) (many room head : Int) (ps : List Int) (rs : List (List UInt8)) (hlp : ps.length ≤ 1000000) (hll : rs.length ≤ 1000000) (hf : 0 ≤ firstN ps ∧ firstN ps ≤ 1000000) (n : Int) (hn : n < firstN ps ∨ firstN ps + (rs.length : Int) ≤ n) :
  Ct Tryz.prog 103 #[.pointer (some ⟨g, 0, none⟩), .int .i64 n] [rB g #[.pointer (some ⟨gj, 0, none⟩), .int .i64 room, .int .i64 head] 200, rJ gj gd many ps rs] [] (fun (_ : Unit) => True) (fun _ => (.tuple #[.agg #[.int .i64 0, .int .i64 0, .slice none 0 0], .slice none 0 0, .bool false], [])) := by
 refine Ct.mk fun w T_ H => ?_
 refine enter (N := 38) Tryz.func103 (c := _) rfl (by kernel_rfl) (by kernel_rfl) (e := [(0, .pointer (some ⟨g, 0, none⟩)), (1, .int .i64 n)]) (by kernel_rfl) ?_
 refine WE.seq ?_
 refine WE.region ?_
 refine Sb H 4 #[.int .i64 0, .int .i64 0, .slice none 0 0] 42 (fun g => .pointer (some ⟨g, 0, none⟩)) ?_
 intro g1 w H
 refine WO.run 2 1 [(6, .bool false), (5, .slice none 0 0)] (by kernel_rfl) (by kernel_rfl) ?_
 refine WO.done (by kernel_rfl) ?_
 refine WQ.keep [0, 1, 4, 5, 6] (e' := [(0, .pointer (some ⟨g, 0, none⟩)), (1, .int .i64 n), (4, .pointer (some ⟨g1, 0, none⟩)), (5, .slice none 0 0), (6, .bool false)]) (by kernel_rfl) ?_
 refine WQ.thenN ?_
 refine WE.seq ?_
 refine WE.region ?_
 refine WO.run 3 0 [(13, .pointer (some ⟨g, 0, none⟩)), (12, .pointer (some ⟨g, 0, none⟩)), (11, .pointer (some ⟨g, 0, none⟩))] (by kernel_rfl) (by kernel_rfl) ?_
 refine WO.ld (SQ.S 3 (by kernel_rfl)) 14 (.pointer (some ⟨gj, 0, none⟩)) (by kernel_rfl) (H.cell 1 0) ?_
 refine WO.run 1 4 [(15, .int .i64 n)] (by kernel_rfl) (by kernel_rfl) ?_
 refine Sc H 16 (recno_J gj gd many ps rs hlp hll hf n hn) [] [2] ?_
 rintro ⟨⟩ w _ H
 refine WO.run 5 6 [(8, .iface 88 (.int .i64 4)), (7, .slice none 0 0), (18, .iface 88 (.int .i64 4)), (17, .slice none 0 0), (10, .tuple #[.slice none 0 0, .iface 88 (.int .i64 4)])] (by kernel_rfl) (by kernel_rfl) ?_
 refine WO.done (by kernel_rfl) ?_
 refine WQ.keep [1, 4, 5, 6, 7, 8] (e' := [(1, .int .i64 n), (4, .pointer (some ⟨g1, 0, none⟩)), (5, .slice none 0 0), (6, .bool false), (7, .slice none 0 0), (8, .iface 88 (.int .i64 4))]) (by kernel_rfl) ?_
 refine WQ.thenN ?_
 refine WE.seq ?_
 refine WE.seq ?_
 refine WE.region ?_
 refine WO.run 2 0 [(20, .bool true), (19, .iface 88 (.int .i64 4))] (by kernel_rfl) (by kernel_rfl) ?_
 refine WO.done (by kernel_rfl) ?_
 refine WQ.keep [1, 4, 5, 6, 7, 8, 20] (e' := [(1, .int .i64 n), (4, .pointer (some ⟨g1, 0, none⟩)), (5, .slice none 0 0), (6, .bool false), (7, .slice none 0 0), (8, .iface 88 (.int .i64 4)), (20, .bool true)]) (by kernel_rfl) ?_
 refine WQ.thenN ?_
 refine WE.condT (by kernel_rfl) ?_
 refine WE.seq ?_
 refine WE.region ?_
 refine WO.run 1 0 [(21, .agg #[.int .i64 0, .int .i64 0, .slice none 0 0])] (by kernel_rfl) (by kernel_rfl) ?_
 refine Ss H 0 0 #[.int .i64 0, .int .i64 0, .slice none 0 0] ?_
 intro w H
 refine WO.run 2 2 [(6, .bool false), (5, .slice none 0 0)] (by kernel_rfl) (by kernel_rfl) ?_
 refine WO.done (by kernel_rfl) ?_
 refine WQ.keep [1, 4, 5, 6, 7, 8] (e' := [(1, .int .i64 n), (4, .pointer (some ⟨g1, 0, none⟩)), (5, .slice none 0 0), (6, .bool false), (7, .slice none 0 0), (8, .iface 88 (.int .i64 4))]) (by kernel_rfl) ?_
 refine WQ.thenN ?_
 refine WE.ret ?_
 refine WQ.thenR ?_
 refine WQ.ret3 (fn := Tryz.f103) (show Tryz.f103.results = #[.cell 4 42, .tmp 5, .tmp 6] by kernel_rfl) (show resOk _ _ _ _ (.agg #[.int .i64 0, .int .i64 0, .slice none 0 0]) from ⟨by kernel_rfl, ⟨g1, 0, none⟩, by kernel_rfl, ldVarB [.int .i64 0, .int .i64 0, .slice none 0 0] (by kernel_rfl) (by kernel_rfl) (by kernel_rfl) (H.blk 0) (by kernel_rfl)⟩) (show resOk _ _ _ _ (.slice none 0 0) from ⟨by kernel_rfl, by kernel_rfl⟩) (show resOk _ _ _ _ (.bool false) from ⟨by kernel_rfl, by kernel_rfl⟩) ?_
 exact H.leaf () [] trivial
set_option maxRecDepth 100000 in
set_option maxHeartbeats 400000 in
theorem shead_o (g gj gd : Nat) (many room : Int) (ps : List Int) (rs : List (List UInt8)) (hlp : ps.length ≤ 1000000) (hll : rs.length ≤ 1000000) (hf : 0 ≤ firstN ps ∧ firstN ps ≤ 1000000) (m t k : Nat) (hm : m ≤ 2147483647) (ht : t ≤ 1099511627776) (hk : k < rs.length) (hrk : rs[k]? = some (encB m t)) (hn : (m : Int) = firstN ps + (k : Int)) :
  Ct Tryz.prog 45 #[.pointer (some ⟨g, 0, none⟩)] [rB g #[.pointer (some ⟨gj, 0, none⟩), .int .i64 room, .int .i64 (m : Int)] 200, rJ gj gd many ps rs] [] (fun (a : Option Addr × Nat) => (encB m t).length ≤ a.2) (fun a => (.tuple #[.agg #[.int .i64 (m : Int), .int .i64 (t : Int), .slice none 0 0], .slice a.1 (encB m t).length a.2, .bool true], [rV cB 1 a.1 (encB m t)])) := by
 refine Ct.mk fun w T_ H => ?_
 refine enter (N := 14) Tryz.func45 (c := _) rfl (by kernel_rfl) (by kernel_rfl) (e := [(0, .pointer (some ⟨g, 0, none⟩))]) (by kernel_rfl) ?_
 refine WE.seq ?_
 refine WE.region ?_
 refine Sb H 2 #[.int .i64 0, .int .i64 0, .slice none 0 0] 42 (fun g => .pointer (some ⟨g, 0, none⟩)) ?_
 intro g1 w H
 refine WO.run 2 1 [(4, .bool false), (3, .slice none 0 0)] (by kernel_rfl) (by kernel_rfl) ?_
 refine WO.done (by kernel_rfl) ?_
 refine WQ.keep [0, 2, 3, 4] (e' := [(0, .pointer (some ⟨g, 0, none⟩)), (2, .pointer (some ⟨g1, 0, none⟩)), (3, .slice none 0 0), (4, .bool false)]) (by kernel_rfl) ?_
 refine WQ.thenN ?_
 refine WE.seq ?_
 refine WE.region ?_
 refine WO.run 4 0 [(8, .pointer (some ⟨g, 2, none⟩)), (7, .pointer (some ⟨g, 0, none⟩)), (6, .pointer (some ⟨g, 0, none⟩)), (5, .pointer (some ⟨g, 0, none⟩))] (by kernel_rfl) (by kernel_rfl) ?_
 refine WO.ld (SQ.S 4 (by kernel_rfl)) 9 (.int .i64 (m : Int)) (by kernel_rfl) (H.cell 1 2) ?_
 refine Sc H 10 (sat_o g gj gd many room (m : Int) ps rs hlp hll hf m t k hm ht hk hrk hn) [] [1, 1] ?_
 rintro ⟨A2, cp3⟩ w hccp3 H
 refine WO.run 3 6 [(13, .bool true), (12, .slice A2 ((encB m t).length) cp3), (11, .agg #[.int .i64 (m : Int), .int .i64 (t : Int), .slice none 0 0])] (by kernel_rfl) (by kernel_rfl) ?_
 refine Ss H 1 0 #[.int .i64 (m : Int), .int .i64 (t : Int), .slice none 0 0] ?_
 intro w H
 refine WO.run 2 10 [(4, .bool true), (3, .slice A2 ((encB m t).length) cp3)] (by kernel_rfl) (by kernel_rfl) ?_
 refine WO.done (by kernel_rfl) ?_
 refine WQ.keep [2, 3, 4] (e' := [(2, .pointer (some ⟨g1, 0, none⟩)), (3, .slice A2 ((encB m t).length) cp3), (4, .bool true)]) (by kernel_rfl) ?_
 refine WQ.thenN ?_
 refine WE.ret ?_
 refine WQ.ret3 (fn := Tryz.f45) (show Tryz.f45.results = #[.cell 2 42, .tmp 3, .tmp 4] by kernel_rfl) (show resOk _ _ _ _ (.agg #[.int .i64 (m : Int), .int .i64 (t : Int), .slice none 0 0]) from ⟨by kernel_rfl, ⟨g1, 0, none⟩, by kernel_rfl, ldVarB [.int .i64 (m : Int), .int .i64 (t : Int), .slice none 0 0] (by kernel_rfl) (by kernel_rfl) (by kernel_rfl) (H.blk 0) (by kernel_rfl)⟩) (show resOk _ _ _ _ (.slice A2 ((encB m t).length) cp3) from ⟨by kernel_rfl, by kernel_rfl⟩) (show resOk _ _ _ _ (.bool true) from ⟨by kernel_rfl, by kernel_rfl⟩) ?_
 exact H.leaf (A2, cp3) [1] hccp3
set_option maxRecDepth 100000 in
set_option maxHeartbeats 400000 in
theorem sheadno_o (g gj gd : Nat) (many room head : Int) (ps : List Int) (rs : List (List UInt8)) (hlp : ps.length ≤ 1000000) (hll : rs.length ≤ 1000000) (hf : 0 ≤ firstN ps ∧ firstN ps ≤ 1000000) (hn : head < firstN ps ∨ firstN ps + (rs.length : Int) ≤ head) :
  Ct Tryz.prog 45 #[.pointer (some ⟨g, 0, none⟩)] [rB g #[.pointer (some ⟨gj, 0, none⟩), .int .i64 room, .int .i64 head] 200, rJ gj gd many ps rs] [] (fun (_ : Unit) => True) (fun _ => (.tuple #[.agg #[.int .i64 0, .int .i64 0, .slice none 0 0], .slice none 0 0, .bool false], [])) := by
 refine Ct.mk fun w T_ H => ?_
 refine enter (N := 14) Tryz.func45 (c := _) rfl (by kernel_rfl) (by kernel_rfl) (e := [(0, .pointer (some ⟨g, 0, none⟩))]) (by kernel_rfl) ?_
 refine WE.seq ?_
 refine WE.region ?_
 refine Sb H 2 #[.int .i64 0, .int .i64 0, .slice none 0 0] 42 (fun g => .pointer (some ⟨g, 0, none⟩)) ?_
 intro g1 w H
 refine WO.run 2 1 [(4, .bool false), (3, .slice none 0 0)] (by kernel_rfl) (by kernel_rfl) ?_
 refine WO.done (by kernel_rfl) ?_
 refine WQ.keep [0, 2, 3, 4] (e' := [(0, .pointer (some ⟨g, 0, none⟩)), (2, .pointer (some ⟨g1, 0, none⟩)), (3, .slice none 0 0), (4, .bool false)]) (by kernel_rfl) ?_
 refine WQ.thenN ?_
 refine WE.seq ?_
 refine WE.region ?_
 refine WO.run 4 0 [(8, .pointer (some ⟨g, 2, none⟩)), (7, .pointer (some ⟨g, 0, none⟩)), (6, .pointer (some ⟨g, 0, none⟩)), (5, .pointer (some ⟨g, 0, none⟩))] (by kernel_rfl) (by kernel_rfl) ?_
 refine WO.ld (SQ.S 4 (by kernel_rfl)) 9 (.int .i64 head) (by kernel_rfl) (H.cell 1 2) ?_
 refine Sc H 10 (satno_o g gj gd many room head ps rs hlp hll hf head hn) [] [1, 1] ?_
 rintro ⟨⟩ w _ H
 refine WO.run 3 6 [(13, .bool false), (12, .slice none 0 0), (11, .agg #[.int .i64 0, .int .i64 0, .slice none 0 0])] (by kernel_rfl) (by kernel_rfl) ?_
 refine Ss H 0 0 #[.int .i64 0, .int .i64 0, .slice none 0 0] ?_
 intro w H
 refine WO.run 2 10 [(4, .bool false), (3, .slice none 0 0)] (by kernel_rfl) (by kernel_rfl) ?_
 refine WO.done (by kernel_rfl) ?_
 refine WQ.keep [2, 3, 4] (e' := [(2, .pointer (some ⟨g1, 0, none⟩)), (3, .slice none 0 0), (4, .bool false)]) (by kernel_rfl) ?_
 refine WQ.thenN ?_
 refine WE.ret ?_
 refine WQ.ret3 (fn := Tryz.f45) (show Tryz.f45.results = #[.cell 2 42, .tmp 3, .tmp 4] by kernel_rfl) (show resOk _ _ _ _ (.agg #[.int .i64 0, .int .i64 0, .slice none 0 0]) from ⟨by kernel_rfl, ⟨g1, 0, none⟩, by kernel_rfl, ldVarB [.int .i64 0, .int .i64 0, .slice none 0 0] (by kernel_rfl) (by kernel_rfl) (by kernel_rfl) (H.blk 0) (by kernel_rfl)⟩) (show resOk _ _ _ _ (.slice none 0 0) from ⟨by kernel_rfl, by kernel_rfl⟩) (show resOk _ _ _ _ (.bool false) from ⟨by kernel_rfl, by kernel_rfl⟩) ?_
 exact H.leaf () [] trivial
set_option maxRecDepth 100000 in
set_option maxHeartbeats 400000 in
theorem sput_o (g gj gd : Nat) (many room head : Int) (ps : List Int) (rs : List (List UInt8)) (hlp : ps.length ≤ 1000000) (hll : rs.length ≤ 1000000) (hf : 0 ≤ firstN ps ∧ firstN ps ≤ 1000000) (hh : 0 ≤ head ∧ head ≤ 2000000) (d d2 d3 : Dk) (s t : Nat) (hs : s ≤ 2147483647) (ht : t ≤ 1099511627776) (hn : (s : Int) = firstN ps + (rs.length : Int)) (hroom : firstN ps + (rs.length : Int) - head < room) (hg : 0 < ps.length → 0 ≤ g0 ps (ps.length - 1) ∧ g0 ps (ps.length - 1) ≤ 1000000) (ho : d.Ok) (hel : d.l.length ≤ 1000000) (hsy : 0 < ps.length → (sync d (g0 ps (ps.length - 1))).1 = 0) (ps2 : List Int) (rs2 : List (List UInt8)) (hA : jApp many (encB s t) ps rs d = (0, ps2, rs2, d2)) (hlp2 : ps2.length ≤ 1000000) (hll2 : rs2.length ≤ 1000000) (hp2 : 0 < ps2.length) (ho2 : d2.Ok) (hg2 : 0 ≤ g0 ps2 (ps2.length - 1) ∧ g0 ps2 (ps2.length - 1) ≤ 1000000) (hS : sync d2 (g0 ps2 (ps2.length - 1)) = (0, d3)) :
  Ct Tryz.prog 39 #[.pointer (some ⟨g, 0, none⟩), .agg #[.int .i64 (s : Int), .int .i64 (t : Int), .slice none 0 0]] [] [rB g #[.pointer (some ⟨gj, 0, none⟩), .int .i64 room, .int .i64 head] 200, rJ gj gd many ps rs, rDk gd d] (fun (_ : Unit) => True) (fun _ => (.nilIface, [rB g #[.pointer (some ⟨gj, 0, none⟩), .int .i64 room, .int .i64 head] 200, rJ gj gd many ps2 rs2, rDk gd d3])) := by
 refine Ct.mk fun w T_ H => ?_
 have hbl := encB_len hs ht
 refine enter (N := 52) Tryz.func39 (c := _) rfl (by kernel_rfl) (by kernel_rfl) (e := [(0, .pointer (some ⟨g, 0, none⟩)), (1, .agg #[.int .i64 (s : Int), .int .i64 (t : Int), .slice none 0 0])]) (by kernel_rfl) ?_
 refine WE.seq ?_
 refine WE.region ?_
 refine Sb H 3 #[.int .i64 (s : Int), .int .i64 (t : Int), .slice none 0 0] 42 (fun g => .pointer (some ⟨g, 0, none⟩)) ?_
 intro g1 w H
 refine WO.run 1 1 [(4, .nilIface)] (by kernel_rfl) (by kernel_rfl) ?_
 refine WO.done (by kernel_rfl) ?_
 refine WQ.keep [0, 3, 4] (e' := [(0, .pointer (some ⟨g, 0, none⟩)), (3, .pointer (some ⟨g1, 0, none⟩)), (4, .nilIface)]) (by kernel_rfl) ?_
 refine WQ.thenN ?_
 refine WE.seq ?_
 refine WE.region ?_
 refine SlA H 0 0 9 [.int .i64 (s : Int), .int .i64 (t : Int), .slice none 0 0] ?_
 refine Sc H 10 (bput_0 s t hs ht) [] [] ?_
 rintro ⟨A1, c1⟩ w hc1 H
 refine WO.run 5 2 [(6, .nilIface), (5, .slice A1 ((encB s t).length) c1), (12, .nilIface), (11, .slice A1 ((encB s t).length) c1), (8, .tuple #[.slice A1 ((encB s t).length) c1, .nilIface])] (by kernel_rfl) (by kernel_rfl) ?_
 refine WO.done (by kernel_rfl) ?_
 refine WQ.keep [0, 3, 4, 5, 6] (e' := [(0, .pointer (some ⟨g, 0, none⟩)), (3, .pointer (some ⟨g1, 0, none⟩)), (4, .nilIface), (5, .slice A1 ((encB s t).length) c1), (6, .nilIface)]) (by kernel_rfl) ?_
 refine WQ.thenN ?_
 refine WE.seq ?_
 refine WE.block ?_
 refine WE.seq ?_
 refine WE.draw [.free, .free, .free, .free, .still, .free, .effR, .free, .free, .free] (Kp [g1]) (kpR _) (by kernel_rfl) 10 (Array.replicate 10 false) (by kernel_rfl) rfl ?_
 intro w F_ _
 replace H := H.step0 F_
 refine WO.one (SA.F (kpR _) (kpT _) _ 0 _ (by kernel_rfl)) 14 (.nilIface) (by kernel_rfl) ?_
 refine WO.one (SA.F (kpR _) (kpT _) _ 1 _ (by kernel_rfl)) 15 (.bool false) (by kernel_rfl) ?_
 refine WO.one (SA.F (kpR _) (kpT _) _ 2 _ (by kernel_rfl)) 16 (.bool false) (by kernel_rfl) ?_
 refine WO.one (SA.F (kpR _) (kpT _) _ 3 _ (by kernel_rfl)) 17 (.pointer (some ⟨g1, 0, none⟩)) (by kernel_rfl) ?_
 refine WO.ld (SA.S (kpR _) (kpT _) _ 4 _ (by kernel_rfl)) 18 (.int .i64 (s : Int)) (by kernel_rfl) (fun _ k_ => ((H.blk 1).kp k_ (by show g1 ∈ ([g1] : List Nat); simp)).at 0 (by kernel_rfl)) ?_
 refine WO.one (SA.F (kpR _) (kpT _) _ 5 _ (by kernel_rfl)) 19 (.pointer (some ⟨g, 0, none⟩)) (by kernel_rfl) ?_
 refine GcK (SA.ER _ 6 _ (by kernel_rfl) rfl) H 20 (snext_o g gj gd many room head ps rs hlp hll hf) [] [2, 2] [1] ?_
 rintro ⟨⟩ w _ H
 refine WO.one (SA.F (kpR _) (kpT _) _ 7 _ (by kernel_rfl)) 21 (.bool (!decide (((s : Int) : Int) = (firstN ps + (rs.length : Int))))) (by kernel_rfl) ?_
 refine WO.topNT (((s : Int) : Int) = (firstN ps + (rs.length : Int))) (by omega) ?_
 refine WO.one (SA.F (kpR _) (kpT _) _ 8 _ (by kernel_rfl)) 22 (.bool false) (by kernel_rfl) ?_
 refine WO.one (SA.F (kpR _) (kpT _) _ 9 _ (by kernel_rfl)) 13 (.bool false) (by kernel_rfl) ?_
 refine WO.doneA (by kernel_rfl) ?_
 refine WQ.keep [0, 4, 5, 13] (e' := [(0, .pointer (some ⟨g, 0, none⟩)), (4, .nilIface), (5, .slice A1 ((encB s t).length) c1), (13, .bool false)]) (by kernel_rfl) ?_
 refine WQ.thenN ?_
 refine WE.condF (by kernel_rfl) ?_
 refine WE.seq ?_
 refine WE.draw [.free, .effR, .free, .free, .free, .still, .free, .free] (Kp [g]) (kpR _) (by kernel_rfl) 8 (Array.replicate 8 false) (by kernel_rfl) rfl ?_
 intro w F_ _
 replace H := H.step0 F_
 refine WO.one (SA.F (kpR _) (kpT _) _ 0 _ (by kernel_rfl)) 25 (.pointer (some ⟨g, 0, none⟩)) (by kernel_rfl) ?_
 refine WO.one (SA.F (kpR _) (kpT _) _ 2 _ (by kernel_rfl)) 27 (.pointer (some ⟨g, 0, none⟩)) (by kernel_rfl) ?_
 refine WO.one (SA.F (kpR _) (kpT _) _ 3 _ (by kernel_rfl)) 28 (.pointer (some ⟨g, 0, none⟩)) (by kernel_rfl) ?_
 refine WO.one (SA.F (kpR _) (kpT _) _ 4 _ (by kernel_rfl)) 29 (.pointer (some ⟨g, 1, none⟩)) (by kernel_rfl) ?_
 refine WO.ld (SA.S (kpR _) (kpT _) _ 5 _ (by kernel_rfl)) 30 (.int .i64 room) (by kernel_rfl) (fun _ k_ => ((H.blk 2).kp k_ (by show g ∈ ([g] : List Nat); simp)).at 1 (by kernel_rfl)) ?_
 refine GcK (SA.ER _ 1 _ (by kernel_rfl) rfl) H 26 (slen_o g gj gd many room head ps rs hlp hll hf hh) [] [2, 2] [2] ?_
 rintro ⟨⟩ w _ H
 refine WO.one (SA.F (kpR _) (kpT _) _ 6 _ (by kernel_rfl)) 31 (.bool (decide ((firstN ps + (rs.length : Int) - head : Int) ≥ room))) (by kernel_rfl) ?_
 refine WO.topPF ((firstN ps + (rs.length : Int) - head : Int) ≥ room) (by omega) ?_
 refine WO.one (SA.F (kpR _) (kpT _) _ 7 _ (by kernel_rfl)) 24 (.bool false) (by kernel_rfl) ?_
 refine WO.doneA (by kernel_rfl) ?_
 refine WQ.keep [0, 4, 5, 24] (e' := [(0, .pointer (some ⟨g, 0, none⟩)), (4, .nilIface), (5, .slice A1 ((encB s t).length) c1), (24, .bool false)]) (by kernel_rfl) ?_
 refine WQ.thenN ?_
 refine WE.condF (by kernel_rfl) ?_
 refine WE.seq ?_
 refine WE.region ?_
 refine WO.run 2 0 [(35, .int .i64 ((encB s t).length : Int)), (34, .slice A1 ((encB s t).length) c1)] (by kernel_rfl) (by kernel_rfl) ?_
 refine WO.one (SQ.F 2 (by kernel_rfl)) 36 (.bool (decide ((((encB s t).length : Int) : Int) > (4096 : Int)))) (by kernel_rfl) ?_
 refine WO.topPF ((((encB s t).length : Int) : Int) > (4096 : Int)) (by omega) ?_
 refine WO.run 1 3 [(33, .bool false)] (by kernel_rfl) (by kernel_rfl) ?_
 refine WO.done (by kernel_rfl) ?_
 refine WQ.keep [0, 4, 5, 33] (e' := [(0, .pointer (some ⟨g, 0, none⟩)), (4, .nilIface), (5, .slice A1 ((encB s t).length) c1), (33, .bool false)]) (by kernel_rfl) ?_
 refine WQ.thenN ?_
 refine WE.condF (by kernel_rfl) ?_
 refine WE.skip ?_
 refine WQ.blkN ?_
 refine WQ.thenN ?_
 refine WE.seq ?_
 refine WE.seq ?_
 refine WE.region ?_
 refine WO.run 3 0 [(40, .pointer (some ⟨g, 0, none⟩)), (39, .pointer (some ⟨g, 0, none⟩)), (38, .pointer (some ⟨g, 0, none⟩))] (by kernel_rfl) (by kernel_rfl) ?_
 refine WO.ld (SQ.S 3 (by kernel_rfl)) 41 (.pointer (some ⟨gj, 0, none⟩)) (by kernel_rfl) (H.cell 2 0) ?_
 refine WO.run 1 4 [(42, .slice A1 ((encB s t).length) c1)] (by kernel_rfl) (by kernel_rfl) ?_
 refine Sc H 43 (app_J gj gd many ps rs d A1 _ c1 (encB s t) hlp hll hf hg (by unfold recOk; omega) rfl ho hel hsy) [3, 3] [0] ?_
 rintro ⟨⟩ w _ H
 rw [hA] at H ⊢
 refine WO.run 1 6 [(7, .nilIface)] (by kernel_rfl) (by kernel_rfl) ?_
 refine WO.done (by kernel_rfl) ?_
 refine WQ.keep [0, 4, 7] (e' := [(0, .pointer (some ⟨g, 0, none⟩)), (4, .nilIface), (7, .nilIface)]) (by kernel_rfl) ?_
 refine WQ.thenN ?_
 refine WE.seq ?_
 refine WE.region ?_
 refine WO.run 2 0 [(45, .bool false), (44, .nilIface)] (by kernel_rfl) (by kernel_rfl) ?_
 refine WO.done (by kernel_rfl) ?_
 refine WQ.keep [0, 4, 7, 45] (e' := [(0, .pointer (some ⟨g, 0, none⟩)), (4, .nilIface), (7, .nilIface), (45, .bool false)]) (by kernel_rfl) ?_
 refine WQ.thenN ?_
 refine WE.condF (by kernel_rfl) ?_
 refine WE.skip ?_
 refine WQ.thenN ?_
 refine WE.seq ?_
 refine WE.region ?_
 refine WO.run 3 0 [(49, .pointer (some ⟨g, 0, none⟩)), (48, .pointer (some ⟨g, 0, none⟩)), (47, .pointer (some ⟨g, 0, none⟩))] (by kernel_rfl) (by kernel_rfl) ?_
 refine WO.ld (SQ.S 3 (by kernel_rfl)) 50 (.pointer (some ⟨gj, 0, none⟩)) (by kernel_rfl) (H.cell 4 0) ?_
 refine Sc H 51 (sync_J gj gd many ps2 rs2 d2 hlp2 hll2 hp2 ho2 hg2) [1] [0] ?_
 rintro ⟨⟩ w _ H
 rw [hS] at H ⊢
 refine WO.run 1 5 [(4, .nilIface)] (by kernel_rfl) (by kernel_rfl) ?_
 refine WO.done (by kernel_rfl) ?_
 refine WQ.keep [4] (e' := [(4, .nilIface)]) (by kernel_rfl) ?_
 refine WQ.thenN ?_
 refine WE.ret ?_
 refine WQ.ret (v := .nilIface) (by kernel_rfl) ?_
 exact H.leaf () [4, 1, 0] trivial
set_option maxRecDepth 100000 in
set_option maxHeartbeats 400000 in
theorem sack_o (g gj gd : Nat) (many room head : Int) (ps : List Int) (rs : List (List UInt8)) (hlp : ps.length ≤ 1000000) (hll : rs.length ≤ 1000000) (hf : 0 ≤ firstN ps ∧ firstN ps ≤ 1000000) (hh : 0 ≤ head ∧ head ≤ 2000000) (d : Dk) (z0 : List Int × List (List UInt8) × Dk) (hz0 : jTr (head + 1) ps.length (ps, rs, d) = z0) (I_ : List Int → List (List UInt8) → Dk → Prop) (hB : ∀ ps rs d, I_ ps rs d → ps.length ≤ 1000000 ∧ rs.length ≤ 1000000) (hI : TrimS (head + 1) I_) (hI0 : I_ ps rs d) (hne : head < firstN ps + (rs.length : Int)) :
  Ct Tryz.prog 41 #[.pointer (some ⟨g, 0, none⟩), .int .i64 head] [] [rB g #[.pointer (some ⟨gj, 0, none⟩), .int .i64 room, .int .i64 head] 200, rJ gj gd many ps rs, rDk gd d] (fun (_ : Unit) => True) (fun _ => (.nilIface, [rB g #[.pointer (some ⟨gj, 0, none⟩), .int .i64 room, .int .i64 (head + 1)] 200, rJ gj gd many z0.1 z0.2.1, rDk gd z0.2.2])) := by
 refine Ct.mk fun w T_ H => ?_
 refine enter (N := 33) Tryz.func41 (c := _) rfl (by kernel_rfl) (by kernel_rfl) (e := [(0, .pointer (some ⟨g, 0, none⟩)), (1, .int .i64 head)]) (by kernel_rfl) ?_
 refine WE.seq ?_
 refine WE.region ?_
 refine WO.run 1 0 [(4, .nilIface)] (by kernel_rfl) (by kernel_rfl) ?_
 refine WO.done (by kernel_rfl) ?_
 refine WQ.keep [0, 1, 4] (e' := [(0, .pointer (some ⟨g, 0, none⟩)), (1, .int .i64 head), (4, .nilIface)]) (by kernel_rfl) ?_
 refine WQ.thenN ?_
 refine WE.seq ?_
 refine WE.seq ?_
 refine WE.region ?_
 refine WO.run 1 0 [(5, .pointer (some ⟨g, 0, none⟩))] (by kernel_rfl) (by kernel_rfl) ?_
 refine Sc H 6 (slen_o g gj gd many room head ps rs hlp hll hf hh) [] [0, 0] ?_
 rintro ⟨⟩ w _ H
 refine WO.one (SQ.F 2 (by kernel_rfl)) 7 (.bool (decide ((firstN ps + (rs.length : Int) - head : Int) = 0))) (by kernel_rfl) ?_
 refine WO.topPF ((firstN ps + (rs.length : Int) - head : Int) = 0) (by omega) ?_
 refine WO.run 5 3 [(12, .pointer (some ⟨g, 2, none⟩)), (11, .pointer (some ⟨g, 0, none⟩)), (10, .pointer (some ⟨g, 0, none⟩)), (9, .int .i64 head), (8, .bool false)] (by kernel_rfl) (by kernel_rfl) ?_
 refine WO.ld (SQ.S 8 (by kernel_rfl)) 13 (.int .i64 head) (by kernel_rfl) (H.cell 0 2) ?_
 refine WO.one (SQ.F 9 (by kernel_rfl)) 14 (.bool (!decide ((head : Int) = head))) (by kernel_rfl) ?_
 refine WO.topNT ((head : Int) = head) (by rfl) ?_
 refine WO.run 1 10 [(15, .bool false)] (by kernel_rfl) (by kernel_rfl) ?_
 refine WO.done (by kernel_rfl) ?_
 refine WQ.keep [0, 4, 15] (e' := [(0, .pointer (some ⟨g, 0, none⟩)), (4, .nilIface), (15, .bool false)]) (by kernel_rfl) ?_
 refine WQ.thenN ?_
 refine WE.condF (by kernel_rfl) ?_
 refine WE.skip ?_
 refine WQ.thenN ?_
 refine WE.seq ?_
 refine WE.region ?_
 refine WO.run 3 0 [(19, .pointer (some ⟨g, 2, none⟩)), (18, .pointer (some ⟨g, 0, none⟩)), (17, .pointer (some ⟨g, 0, none⟩))] (by kernel_rfl) (by kernel_rfl) ?_
 refine WO.ld (SQ.S 3 (by kernel_rfl)) 20 (.int .i64 head) (by kernel_rfl) (H.cell 0 2) ?_
 refine WO.one (SQ.F 4 (by kernel_rfl)) 21 (.int .i64 (IntKind.i64.wrap (head + 1))) (by kernel_rfl) ?_
 refine WO.top (v' := .int .i64 (head + 1)) (wrap_i64 (by omega) (by omega)) ?_
 refine WO.run 2 5 [(23, .pointer (some ⟨g, 2, none⟩)), (22, .pointer (some ⟨g, 0, none⟩))] (by kernel_rfl) (by kernel_rfl) ?_
 refine Ss H 0 2 #[.pointer (some ⟨gj, 0, none⟩), .int .i64 room, .int .i64 (head + 1)] ?_
 intro w H
 refine WO.done (by kernel_rfl) ?_
 refine WQ.keep [0, 4] (e' := [(0, .pointer (some ⟨g, 0, none⟩)), (4, .nilIface)]) (by kernel_rfl) ?_
 refine WQ.thenN ?_
 refine WE.seq ?_
 refine WE.draw [.free, .free, .free, .still, .free, .free, .free, .still, .eff, .free] Same sameR (by kernel_rfl) 10 (Array.replicate 10 false) (by kernel_rfl) rfl ?_
 intro w F_ _
 replace H := H.step0 F_
 refine WO.one (SA.F sameR sameT _ 0 _ (by kernel_rfl)) 24 (.pointer (some ⟨g, 0, none⟩)) (by kernel_rfl) ?_
 refine WO.one (SA.F sameR sameT _ 1 _ (by kernel_rfl)) 25 (.pointer (some ⟨g, 0, none⟩)) (by kernel_rfl) ?_
 refine WO.one (SA.F sameR sameT _ 2 _ (by kernel_rfl)) 26 (.pointer (some ⟨g, 0, none⟩)) (by kernel_rfl) ?_
 refine WO.ld (SA.S sameR sameT _ 3 _ (by kernel_rfl)) 27 (.pointer (some ⟨gj, 0, none⟩)) (by kernel_rfl) (H.cell 0 0) ?_
 refine WO.one (SA.F sameR sameT _ 4 _ (by kernel_rfl)) 28 (.pointer (some ⟨g, 0, none⟩)) (by kernel_rfl) ?_
 refine WO.one (SA.F sameR sameT _ 5 _ (by kernel_rfl)) 29 (.pointer (some ⟨g, 0, none⟩)) (by kernel_rfl) ?_
 refine WO.one (SA.F sameR sameT _ 6 _ (by kernel_rfl)) 30 (.pointer (some ⟨g, 2, none⟩)) (by kernel_rfl) ?_
 refine WO.ld (SA.S sameR sameT _ 7 _ (by kernel_rfl)) 31 (.int .i64 (head + 1)) (by kernel_rfl) (H.cell 0 2) ?_
 refine Gc (SA.E _ 8 _ (by kernel_rfl) rfl) H 32 (trim_J gj gd many ps rs d (head + 1) ps.length z0 hz0 I_ hB hI hI0 (Nat.le_refl _)) [1, 1] [] (fun _ => trivial) ?_
 rintro ⟨⟩ w _ H
 refine WO.one (SA.F sameR sameT _ 9 _ (by kernel_rfl)) 4 (.nilIface) (by kernel_rfl) ?_
 refine WO.doneA (by kernel_rfl) ?_
 refine WQ.keep [4] (e' := [(4, .nilIface)]) (by kernel_rfl) ?_
 refine WQ.thenN ?_
 refine WE.ret ?_
 refine WQ.ret (v := .nilIface) (by kernel_rfl) ?_
 exact H.leaf () [2, 0, 0] trivial
set_option maxRecDepth 100000 in
set_option maxHeartbeats 400000 in
theorem sopen_room (gd : Nat) (many room : Int) (hb : room < 1 ∨ 1000 < room) :
  Ct Tryz.prog 34 #[.pointer (some ⟨gd, 0, none⟩), .int .i64 many, .int .i64 room] [] [] (fun (_ : Unit) => True) (fun _ => (.tuple #[.pointer none, .iface 88 (.int .i64 1)], [])) := by
 refine Ct.mk fun w T_ H => ?_
 refine enter (N := 56) Tryz.func34 (c := _) rfl (by kernel_rfl) (by kernel_rfl) (e := [(0, .pointer (some ⟨gd, 0, none⟩)), (1, .int .i64 many), (2, .int .i64 room)]) (by kernel_rfl) ?_
 refine WE.seq ?_
 refine WE.region ?_
 refine WO.run 2 0 [(7, .nilIface), (6, .pointer none)] (by kernel_rfl) (by kernel_rfl) ?_
 refine WO.done (by kernel_rfl) ?_
 refine WQ.keep [0, 1, 2, 6, 7] (e' := [(0, .pointer (some ⟨gd, 0, none⟩)), (1, .int .i64 many), (2, .int .i64 room), (6, .pointer none), (7, .nilIface)]) (by kernel_rfl) ?_
 refine WQ.thenN ?_
 refine WE.seq ?_
 refine WE.seq ?_
 refine WE.region ?_
 refine WO.run 1 0 [(15, .int .i64 room)] (by kernel_rfl) (by kernel_rfl) ?_
 refine WO.one (SQ.F 1 (by kernel_rfl)) 16 (.bool (decide ((room : Int) < 1))) (by kernel_rfl) ?_
 refine WO.topP ((room : Int) < 1) ?_ ?_
 ·
  intro h1
  refine WO.run 4 2 [(20, .bool true), (19, undef), (18, undef), (17, .bool true)] (by kernel_rfl) (by kernel_rfl) ?_
  refine WO.done (by kernel_rfl) ?_
  refine WQ.keep [0, 1, 2, 6, 7, 20] (e' := [(0, .pointer (some ⟨gd, 0, none⟩)), (1, .int .i64 many), (2, .int .i64 room), (6, .pointer none), (7, .nilIface), (20, .bool true)]) (by kernel_rfl) ?_
  refine WQ.thenN ?_
  refine WE.condT (by kernel_rfl) ?_
  refine WE.seq ?_
  refine WE.region ?_
  refine WO.run 3 0 [(7, .iface 88 (.int .i64 1)), (6, .pointer none), (21, .iface 88 (.int .i64 1))] (by kernel_rfl) (by kernel_rfl) ?_
  refine WO.done (by kernel_rfl) ?_
  refine WQ.keep [0, 1, 2, 6, 7] (e' := [(0, .pointer (some ⟨gd, 0, none⟩)), (1, .int .i64 many), (2, .int .i64 room), (6, .pointer none), (7, .iface 88 (.int .i64 1))]) (by kernel_rfl) ?_
  refine WQ.thenN ?_
  refine WE.ret ?_
  refine WQ.thenR ?_
  refine WQ.ret (v := .tuple #[.pointer none, .iface 88 (.int .i64 1)]) (by kernel_rfl) ?_
  exact H.leaf () [] trivial
 intro h1
 refine WO.run 2 2 [(18, .int .i64 room), (17, .bool false)] (by kernel_rfl) (by kernel_rfl) ?_
 refine WO.one (SQ.F 4 (by kernel_rfl)) 19 (.bool (decide ((room : Int) > 1000))) (by kernel_rfl) ?_
 refine WO.topPT ((room : Int) > 1000) (by omega) ?_
 refine WO.run 1 5 [(20, .bool true)] (by kernel_rfl) (by kernel_rfl) ?_
 refine WO.done (by kernel_rfl) ?_
 refine WQ.keep [0, 1, 2, 6, 7, 20] (e' := [(0, .pointer (some ⟨gd, 0, none⟩)), (1, .int .i64 many), (2, .int .i64 room), (6, .pointer none), (7, .nilIface), (20, .bool true)]) (by kernel_rfl) ?_
 refine WQ.thenN ?_
 refine WE.condT (by kernel_rfl) ?_
 refine WE.seq ?_
 refine WE.region ?_
 refine WO.run 3 0 [(7, .iface 88 (.int .i64 1)), (6, .pointer none), (21, .iface 88 (.int .i64 1))] (by kernel_rfl) (by kernel_rfl) ?_
 refine WO.done (by kernel_rfl) ?_
 refine WQ.keep [0, 1, 2, 6, 7] (e' := [(0, .pointer (some ⟨gd, 0, none⟩)), (1, .int .i64 many), (2, .int .i64 room), (6, .pointer none), (7, .iface 88 (.int .i64 1))]) (by kernel_rfl) ?_
 refine WQ.thenN ?_
 refine WE.ret ?_
 refine WQ.thenR ?_
 refine WQ.ret (v := .tuple #[.pointer none, .iface 88 (.int .i64 1)]) (by kernel_rfl) ?_
 exact H.leaf () [] trivial
set_option maxRecDepth 100000 in
set_option maxHeartbeats 400000 in
theorem sopen_many (gd : Nat) (many room : Int) (hb : ¬ (room < 1 ∨ 1000 < room)) (hm : many < 1 ∨ 100 < many) :
  Ct Tryz.prog 34 #[.pointer (some ⟨gd, 0, none⟩), .int .i64 many, .int .i64 room] [] [] (fun (_ : Unit) => True) (fun _ => (.tuple #[.pointer none, .iface 88 (.int .i64 1)], [])) := by
 refine Ct.mk fun w T_ H => ?_
 refine enter (N := 56) Tryz.func34 (c := _) rfl (by kernel_rfl) (by kernel_rfl) (e := [(0, .pointer (some ⟨gd, 0, none⟩)), (1, .int .i64 many), (2, .int .i64 room)]) (by kernel_rfl) ?_
 refine WE.seq ?_
 refine WE.region ?_
 refine WO.run 2 0 [(7, .nilIface), (6, .pointer none)] (by kernel_rfl) (by kernel_rfl) ?_
 refine WO.done (by kernel_rfl) ?_
 refine WQ.keep [0, 1, 2, 6, 7] (e' := [(0, .pointer (some ⟨gd, 0, none⟩)), (1, .int .i64 many), (2, .int .i64 room), (6, .pointer none), (7, .nilIface)]) (by kernel_rfl) ?_
 refine WQ.thenN ?_
 refine WE.seq ?_
 refine WE.seq ?_
 refine WE.region ?_
 refine WO.run 1 0 [(15, .int .i64 room)] (by kernel_rfl) (by kernel_rfl) ?_
 refine WO.one (SQ.F 1 (by kernel_rfl)) 16 (.bool (decide ((room : Int) < 1))) (by kernel_rfl) ?_
 refine WO.topPF ((room : Int) < 1) (by omega) ?_
 refine WO.run 2 2 [(18, .int .i64 room), (17, .bool false)] (by kernel_rfl) (by kernel_rfl) ?_
 refine WO.one (SQ.F 4 (by kernel_rfl)) 19 (.bool (decide ((room : Int) > 1000))) (by kernel_rfl) ?_
 refine WO.topPF ((room : Int) > 1000) (by omega) ?_
 refine WO.run 1 5 [(20, .bool false)] (by kernel_rfl) (by kernel_rfl) ?_
 refine WO.done (by kernel_rfl) ?_
 refine WQ.keep [0, 1, 2, 6, 7, 20] (e' := [(0, .pointer (some ⟨gd, 0, none⟩)), (1, .int .i64 many), (2, .int .i64 room), (6, .pointer none), (7, .nilIface), (20, .bool false)]) (by kernel_rfl) ?_
 refine WQ.thenN ?_
 refine WE.condF (by kernel_rfl) ?_
 refine WE.skip ?_
 refine WQ.thenN ?_
 refine WE.seq ?_
 refine WE.region ?_
 refine WO.run 2 0 [(24, .int .i64 many), (23, .pointer (some ⟨gd, 0, none⟩))] (by kernel_rfl) (by kernel_rfl) ?_
 refine Sc H 25 (jopen_bad gd many hm) [] [] ?_
 rintro ⟨⟩ w _ H
 refine WO.run 5 3 [(9, .iface 88 (.int .i64 1)), (8, .pointer none), (27, .iface 88 (.int .i64 1)), (26, .pointer none), (22, .tuple #[.pointer none, .iface 88 (.int .i64 1)])] (by kernel_rfl) (by kernel_rfl) ?_
 refine WO.done (by kernel_rfl) ?_
 refine WQ.keep [2, 6, 7, 8, 9] (e' := [(2, .int .i64 room), (6, .pointer none), (7, .nilIface), (8, .pointer none), (9, .iface 88 (.int .i64 1))]) (by kernel_rfl) ?_
 refine WQ.thenN ?_
 refine WE.seq ?_
 refine WE.seq ?_
 refine WE.region ?_
 refine WO.run 2 0 [(29, .bool true), (28, .iface 88 (.int .i64 1))] (by kernel_rfl) (by kernel_rfl) ?_
 refine WO.done (by kernel_rfl) ?_
 refine WQ.keep [2, 6, 7, 8, 9, 29] (e' := [(2, .int .i64 room), (6, .pointer none), (7, .nilIface), (8, .pointer none), (9, .iface 88 (.int .i64 1)), (29, .bool true)]) (by kernel_rfl) ?_
 refine WQ.thenN ?_
 refine WE.condT (by kernel_rfl) ?_
 refine WE.seq ?_
 refine WE.region ?_
 refine WO.run 3 0 [(7, .iface 88 (.int .i64 1)), (6, .pointer none), (30, .iface 88 (.int .i64 1))] (by kernel_rfl) (by kernel_rfl) ?_
 refine WO.done (by kernel_rfl) ?_
 refine WQ.keep [2, 6, 7, 8] (e' := [(2, .int .i64 room), (6, .pointer none), (7, .iface 88 (.int .i64 1)), (8, .pointer none)]) (by kernel_rfl) ?_
 refine WQ.thenN ?_
 refine WE.ret ?_
 refine WQ.thenR ?_
 refine WQ.ret (v := .tuple #[.pointer none, .iface 88 (.int .i64 1)]) (by kernel_rfl) ?_
 exact H.leaf () [] trivial
set_option maxRecDepth 100000 in
set_option maxHeartbeats 400000 in
theorem sopen_o (gd : Nat) (many room a : Int) (d : Dk) (gs : List (Seg × List UInt8)) (ps : List Int) (rs : List (List UInt8)) (hb : ¬ (room < 1 ∨ 1000 < room)) (hok : d.Ok) (hm : ¬ (many < 1 ∨ 100 < many)) (hd : d.l = gs.map tailP) (ha : 0 ≤ a ∧ a ≤ 1000000) (hch : Chain a (gs.map Prod.fst)) (hgs : ∀ x ∈ gs, (∀ r ∈ x.1.rs, recOk r) ∧ Stops x.2) (hne : ∀ x ∈ gs, x.1.rs ≠ []) (htot : gs.length ≤ 100000 ∧ (allR (gs.map Prod.fst)).length ≤ 100000) (hps : (gs.map fun x => x.1.n) = ps) (hrs : (allR (gs.map Prod.fst)) = rs) (hlp : ps.length ≤ 1000000) (hll : rs.length ≤ 1000000) (hf : 0 ≤ firstN ps ∧ firstN ps ≤ 1000000) (hrow : ∀ k, k < rs.length → ∃ t, t ≤ 1099511627776 ∧ rs[k]? = some (encB (firstN ps + (k : Int)).toNat t)) :
  Ct Tryz.prog 34 #[.pointer (some ⟨gd, 0, none⟩), .int .i64 many, .int .i64 room] [] [rDk gd d] (fun (_ : Nat × Nat) => True) (fun g => (.tuple #[.pointer (some ⟨g.1, 0, none⟩), .nilIface], [rB g.1 #[.pointer (some ⟨g.2, 0, none⟩), .int .i64 room, .int .i64 (firstN ps)] 200, rJ g.2 gd many ps rs, rDk gd { up d with l := gs.map cutP }])) := by
 refine Ct.mk fun w T_ H => ?_
 refine enter (N := 56) Tryz.func34 (c := _) rfl (by kernel_rfl) (by kernel_rfl) (e := [(0, .pointer (some ⟨gd, 0, none⟩)), (1, .int .i64 many), (2, .int .i64 room)]) (by kernel_rfl) ?_
 refine WE.seq ?_
 refine WE.region ?_
 refine WO.run 2 0 [(7, .nilIface), (6, .pointer none)] (by kernel_rfl) (by kernel_rfl) ?_
 refine WO.done (by kernel_rfl) ?_
 refine WQ.keep [0, 1, 2, 6, 7] (e' := [(0, .pointer (some ⟨gd, 0, none⟩)), (1, .int .i64 many), (2, .int .i64 room), (6, .pointer none), (7, .nilIface)]) (by kernel_rfl) ?_
 refine WQ.thenN ?_
 refine WE.seq ?_
 refine WE.seq ?_
 refine WE.region ?_
 refine WO.run 1 0 [(15, .int .i64 room)] (by kernel_rfl) (by kernel_rfl) ?_
 refine WO.one (SQ.F 1 (by kernel_rfl)) 16 (.bool (decide ((room : Int) < 1))) (by kernel_rfl) ?_
 refine WO.topPF ((room : Int) < 1) (by omega) ?_
 refine WO.run 2 2 [(18, .int .i64 room), (17, .bool false)] (by kernel_rfl) (by kernel_rfl) ?_
 refine WO.one (SQ.F 4 (by kernel_rfl)) 19 (.bool (decide ((room : Int) > 1000))) (by kernel_rfl) ?_
 refine WO.topPF ((room : Int) > 1000) (by omega) ?_
 refine WO.run 1 5 [(20, .bool false)] (by kernel_rfl) (by kernel_rfl) ?_
 refine WO.done (by kernel_rfl) ?_
 refine WQ.keep [0, 1, 2, 6, 7, 20] (e' := [(0, .pointer (some ⟨gd, 0, none⟩)), (1, .int .i64 many), (2, .int .i64 room), (6, .pointer none), (7, .nilIface), (20, .bool false)]) (by kernel_rfl) ?_
 refine WQ.thenN ?_
 refine WE.condF (by kernel_rfl) ?_
 refine WE.skip ?_
 refine WQ.thenN ?_
 refine WE.seq ?_
 refine WE.region ?_
 refine WO.run 2 0 [(24, .int .i64 many), (23, .pointer (some ⟨gd, 0, none⟩))] (by kernel_rfl) (by kernel_rfl) ?_
 refine Sc H 25 (jopen_ct gd many a d gs hok hm hd ha hch hgs hne htot) [0] [] ?_
 rintro gj w _ H
 rw [hps, hrs] at H
 refine WO.run 5 3 [(9, .nilIface), (8, .pointer (some ⟨gj, 0, none⟩)), (27, .nilIface), (26, .pointer (some ⟨gj, 0, none⟩)), (22, .tuple #[.pointer (some ⟨gj, 0, none⟩), .nilIface])] (by kernel_rfl) (by kernel_rfl) ?_
 refine WO.done (by kernel_rfl) ?_
 refine WQ.keep [2, 6, 7, 8, 9] (e' := [(2, .int .i64 room), (6, .pointer none), (7, .nilIface), (8, .pointer (some ⟨gj, 0, none⟩)), (9, .nilIface)]) (by kernel_rfl) ?_
 refine WQ.thenN ?_
 refine WE.seq ?_
 refine WE.seq ?_
 refine WE.region ?_
 refine WO.run 2 0 [(29, .bool false), (28, .nilIface)] (by kernel_rfl) (by kernel_rfl) ?_
 refine WO.done (by kernel_rfl) ?_
 refine WQ.keep [2, 6, 7, 8, 9, 29] (e' := [(2, .int .i64 room), (6, .pointer none), (7, .nilIface), (8, .pointer (some ⟨gj, 0, none⟩)), (9, .nilIface), (29, .bool false)]) (by kernel_rfl) ?_
 refine WQ.thenN ?_
 refine WE.condF (by kernel_rfl) ?_
 refine WE.skip ?_
 refine WQ.thenN ?_
 refine WE.seq ?_
 refine WE.region ?_
 refine WO.run 3 0 [(33, .pointer (some ⟨gj, 0, none⟩)), (32, .int .i64 room), (31, .pointer (some ⟨gj, 0, none⟩))] (by kernel_rfl) (by kernel_rfl) ?_
 refine Sc H 34 (first_J gj gd many ps rs hlp hll) [] [0] ?_
 rintro ⟨⟩ w _ H
 refine WO.run 1 4 [(35, .agg #[.pointer (some ⟨gj, 0, none⟩), .int .i64 room, .int .i64 (firstN ps)])] (by kernel_rfl) (by kernel_rfl) ?_
 refine Sb H 36 #[.pointer (some ⟨gj, 0, none⟩), .int .i64 room, .int .i64 (firstN ps)] 200 (fun g => .pointer (some ⟨g, 0, none⟩)) ?_
 intro g1 w H
 refine WO.run 1 6 [(10, .pointer (some ⟨g1, 0, none⟩))] (by kernel_rfl) (by kernel_rfl) ?_
 refine WO.done (by kernel_rfl) ?_
 refine WQ.keep [6, 7, 8, 10] (e' := [(6, .pointer none), (7, .nilIface), (8, .pointer (some ⟨gj, 0, none⟩)), (10, .pointer (some ⟨g1, 0, none⟩))]) (by kernel_rfl) ?_
 refine WQ.thenN ?_
 refine WE.seq ?_
 refine WE.seq ?_
 refine WE.region ?_
 refine WO.run 1 0 [(37, .pointer (some ⟨gj, 0, none⟩))] (by kernel_rfl) (by kernel_rfl) ?_
 refine Sc H 38 (first_J gj gd many ps rs hlp hll) [] [1] ?_
 rintro ⟨⟩ w _ H
 refine WO.top (v' := .int .i64 (firstN ps + ((0 : Nat) : Int))) (by simp) ?_
 refine WO.run 1 2 [(11, .int .i64 (firstN ps + ((0 : Nat) : Int)))] (by kernel_rfl) (by kernel_rfl) ?_
 refine WO.done (by kernel_rfl) ?_
 refine WQ.keep [6, 7, 8, 10, 11] (e' := [(6, .pointer none), (7, .nilIface), (8, .pointer (some ⟨gj, 0, none⟩)), (10, .pointer (some ⟨g1, 0, none⟩)), (11, .int .i64 (firstN ps + ((0 : Nat) : Int)))]) (by kernel_rfl) ?_
 refine WQ.thenN ?_
 refine WE.block ?_
 refine Sloop (α := Nat) (fun k => [(6, .pointer none), (7, .nilIface), (8, .pointer (some ⟨gj, 0, none⟩)), (10, .pointer (some ⟨g1, 0, none⟩)), (11, .int .i64 (firstN ps + (k : Int)))]) (fun k => [rB g1 #[.pointer (some ⟨gj, 0, none⟩), .int .i64 room, .int .i64 (firstN ps)] 200, rJ gj gd many ps rs, rDk gd ({ up d with l := gs.map cutP })]) (fun k => k ≤ rs.length) (fun k => rs.length - k) 0 [6, 7, 8, 10, 11] [0, 0, 0] H (Nat.zero_le _) ?_
 rintro k w hk H
 refine WE.seq ?_
 refine WE.seq ?_
 refine WE.region ?_
 refine WO.run 2 0 [(40, .pointer (some ⟨gj, 0, none⟩)), (39, .int .i64 (firstN ps + (k : Int)))] (by kernel_rfl) (by kernel_rfl) ?_
 refine Sc H 41 (next_J gj gd many ps rs hlp hll hf) [] [1] ?_
 rintro ⟨⟩ w _ H
 refine WO.one (SQ.F 3 (by kernel_rfl)) 42 (.bool (decide ((firstN ps + (k : Int) : Int) < (firstN ps + (rs.length : Int))))) (by kernel_rfl) ?_
 refine WO.topP ((firstN ps + (k : Int) : Int) < (firstN ps + (rs.length : Int))) ?_ ?_
 ·
  intro h2
  refine WO.done (by kernel_rfl) ?_
  refine WQ.keep [6, 7, 8, 10, 11, 42] (e' := [(6, .pointer none), (7, .nilIface), (8, .pointer (some ⟨gj, 0, none⟩)), (10, .pointer (some ⟨g1, 0, none⟩)), (11, .int .i64 (firstN ps + (k : Int))), (42, .bool true)]) (by kernel_rfl) ?_
  refine WQ.thenN ?_
  refine WE.condT (by kernel_rfl) ?_
  refine WE.skip ?_
  refine WQ.thenN ?_
  refine WE.seq ?_
  refine WE.block ?_
  refine WE.seq ?_
  have hk1 : k + 1 ≤ rs.length := by omega
  obtain ⟨t, ht, hrk⟩ := hrow k (by omega)
  obtain ⟨m, hm_⟩ : ∃ m : Nat, (m : Int) = firstN ps + (k : Int) := ⟨(firstN ps + (k : Int)).toNat, by omega⟩
  rw [← hm_]
  rw [show (firstN ps + (k : Int)).toNat = m by omega] at hrk
  refine WE.region ?_
  refine WO.run 2 0 [(47, .int .i64 (m : Int)), (46, .pointer (some ⟨g1, 0, none⟩))] (by kernel_rfl) (by kernel_rfl) ?_
  refine Sc H 48 (sat_o g1 gj gd many room (firstN ps) ps rs hlp hll hf m t k (by omega) ht (by omega) hrk hm_) [] [0, 0] ?_
  rintro ⟨A3, cp4⟩ w hccp4 H
  refine WO.run 4 3 [(51, .bool true), (50, .slice A3 ((encB m t).length) cp4), (49, .agg #[.int .i64 (m : Int), .int .i64 (t : Int), .slice none 0 0]), (45, .tuple #[.agg #[.int .i64 (m : Int), .int .i64 (t : Int), .slice none 0 0], .slice A3 ((encB m t).length) cp4, .bool true])] (by kernel_rfl) (by kernel_rfl) ?_
  refine Sb H 12 #[.int .i64 0, .int .i64 0, .slice none 0 0] 42 (fun g => .pointer (some ⟨g, 0, none⟩)) ?_
  intro g5 w H
  refine Ss H 0 0 #[.int .i64 (m : Int), .int .i64 (t : Int), .slice none 0 0] ?_
  intro w H
  refine WO.run 2 9 [(14, .bool true), (13, .slice A3 ((encB m t).length) cp4)] (by kernel_rfl) (by kernel_rfl) ?_
  refine WO.done (by kernel_rfl) ?_
  refine WQ.keep [6, 7, 8, 10, 11, 14] (e' := [(6, .pointer none), (7, .nilIface), (8, .pointer (some ⟨gj, 0, none⟩)), (10, .pointer (some ⟨g1, 0, none⟩)), (11, .int .i64 (m : Int)), (14, .bool true)]) (by kernel_rfl) ?_
  refine WQ.thenN ?_
  refine WE.seq ?_
  refine WE.region ?_
  refine WO.run 2 0 [(53, .bool false), (52, .bool true)] (by kernel_rfl) (by kernel_rfl) ?_
  refine WO.done (by kernel_rfl) ?_
  refine WQ.keep [6, 7, 8, 10, 11, 53] (e' := [(6, .pointer none), (7, .nilIface), (8, .pointer (some ⟨gj, 0, none⟩)), (10, .pointer (some ⟨g1, 0, none⟩)), (11, .int .i64 (m : Int)), (53, .bool false)]) (by kernel_rfl) ?_
  refine WQ.thenN ?_
  refine WE.condF (by kernel_rfl) ?_
  refine WE.skip ?_
  refine WQ.blkN ?_
  refine WQ.thenN ?_
  rw [hm_]
  refine WE.region ?_
  refine WO.run 1 0 [(43, .int .i64 (firstN ps + (k : Int)))] (by kernel_rfl) (by kernel_rfl) ?_
  refine WO.one (SQ.F 1 (by kernel_rfl)) 44 (.int .i64 (IntKind.i64.wrap ((firstN ps + (k : Int)) + 1))) (by kernel_rfl) ?_
  refine WO.top (v' := .int .i64 (firstN ps + ((k + 1 : Nat) : Int))) (wrap_i64 (by omega) (by omega)) ?_
  refine WO.run 1 2 [(11, .int .i64 (firstN ps + ((k + 1 : Nat) : Int)))] (by kernel_rfl) (by kernel_rfl) ?_
  refine WO.done (by kernel_rfl) ?_
  refine WQ.keep [6, 7, 8, 10, 11] (e' := [(6, .pointer none), (7, .nilIface), (8, .pointer (some ⟨gj, 0, none⟩)), (10, .pointer (some ⟨g1, 0, none⟩)), (11, .int .i64 (firstN ps + ((k + 1 : Nat) : Int)))]) (by kernel_rfl) ?_
  refine WQ.round fun a_ ha_ => ⟨k + 1, ?_, ha_.keep [6, 7, 8, 10, 11] (by kernel_rfl), ?_, H.sub [2, 2, 2]⟩
  ·
   show rs.length - (k + 1) < rs.length - k; omega
  exact hk1
 intro h2
 refine WO.done (by kernel_rfl) ?_
 refine WQ.keep [6, 7, 8, 10, 11, 42] (e' := [(6, .pointer none), (7, .nilIface), (8, .pointer (some ⟨gj, 0, none⟩)), (10, .pointer (some ⟨g1, 0, none⟩)), (11, .int .i64 (firstN ps + (k : Int))), (42, .bool false)]) (by kernel_rfl) ?_
 refine WQ.thenN ?_
 refine WE.condF (by kernel_rfl) ?_
 refine WE.exit ?_
 refine WQ.thenE ?_
 refine WQ.thenE ?_
 refine WQ.blkE ?_
 refine WQ.thenN ?_
 refine WE.seq ?_
 refine WE.region ?_
 refine WO.run 3 0 [(7, .nilIface), (6, .pointer (some ⟨g1, 0, none⟩)), (55, .pointer (some ⟨g1, 0, none⟩))] (by kernel_rfl) (by kernel_rfl) ?_
 refine WO.done (by kernel_rfl) ?_
 refine WQ.keep [6, 7] (e' := [(6, .pointer (some ⟨g1, 0, none⟩)), (7, .nilIface)]) (by kernel_rfl) ?_
 refine WQ.thenN ?_
 refine WE.ret ?_
 refine WQ.ret (v := .tuple #[.pointer (some ⟨g1, 0, none⟩), .nilIface]) (by kernel_rfl) ?_
 exact H.leaf (g1, gj) [0, 0, 0] trivial
end Go.Proofs.YtjfgmdkdcnfdoaaGreatDoor.Jrn
