/- Layer 9's walks: Open, Sync, Record. -/
import Derived.Test.YtkhibpdkgjapgaaJrnL
set_option linter.unusedVariables false
set_option linter.unusedSimpArgs false
namespace Go.Proofs.Ytkhibpdkgjapgaa.Jrn
open Go Go.RowKit Go.Proofs.Ytkhibpdkgjapgaa Go.Proofs.Ytkhibpdkgjapgaa.Eng Go.Proofs.YtkhibpdkgjapgaaW.PrintWords
open Go.Proofs.Ytkhibpdkgjapgaa.Disk
open Go.Proofs.Ytkhibpdkgjapgaa.Wire (encT rText)
theorem EV.at {w : World} {FE : List Nat} {xs : List RX} {rs : List (List UInt8)} {k : Nat} {x : RX} {r : List UInt8} (h : EV w FE xs rs) (hx : xs[k]? = some x) (hr : rs[k]? = some r) : x.2.1 = r.length ∧ r.length ≤ x.2.2 ∧ ∃ F, (∀ y ∈ F, y ∈ FE) ∧ VX cB 1 w F x.1 r :=
  forall2_at (P := fun (x : RX) r => x.2.1 = r.length ∧ r.length ≤ x.2.2 ∧ ∃ F, (∀ y ∈ F, y ∈ FE) ∧ VX cB 1 w F x.1 r) h.2 hx hr
set_option maxRecDepth 100000 in
set_option maxHeartbeats 400000 in
theorem clone_v (ad : Addr) (n cap : Nat) (q : List UInt8) (F : List Nat) (w : World) (HV : VX cB 1 w F (some ad) q) (hn : q.length = n) (hl : n ≤ 1000000) :
    Calls Try.prog 34 #[.slice (some ad) n cap] w fun e w' => ∃ b cap, e = .returned (.slice (some ⟨b, 0, none⟩) n cap) ∧ n ≤ cap ∧ VX cB 1 w' [b] (some ⟨b, 0, none⟩) q ∧ Fr [] w w' ∧ w.heap.size ≤ b := by
  have HA := Fr.refl [] w
  refine enter (N := 8) Try.func34 (c := _) rfl (by kernel_rfl) (by kernel_rfl) (e := [(0, .slice (some ad) n cap)]) (by kernel_rfl) ?_
  refine WE.seq ?_
  refine WE.region ?_
  refine WO.run 1 0 [(2, .slice none 0 0)] (by kernel_rfl) (by kernel_rfl) ?_
  refine WO.done (by kernel_rfl) ?_
  refine WQ.keep [0, 2] (e' := [(0, .slice (some ad) n cap), (2, .slice none 0 0)]) (by kernel_rfl) ?_
  refine WQ.thenN ?_
  refine WE.seq ?_
  refine WE.seq ?_
  refine WE.region ?_
  refine WO.run 2 0 [(4, .bool false), (3, .slice (some ad) n cap)] (by kernel_rfl) (by kernel_rfl) ?_
  refine WO.done (by kernel_rfl) ?_
  refine WQ.keep [0, 2, 4] (e' := [(0, .slice (some ad) n cap), (2, .slice none 0 0), (4, .bool false)]) (by kernel_rfl) ?_
  refine WQ.thenN ?_
  refine WE.condF (by kernel_rfl) ?_
  refine WE.skip ?_
  refine WQ.thenN ?_
  refine WE.seq ?_
  refine WE.region ?_
  refine WO.bx (SQ.E 0 (by kernel_rfl)) 5 #[] 5 (fun g => .slice (some ⟨g, 0, none⟩) 0 0) (by kernel_rfl) (fun _ _ => trivial) ?_
  intro g1 w2 HB4 F3 le5 _
  have nin_g1_F : g1 ∉ F := new_nin HV.lt le5
  have ge_HA_g1 := Nat.le_trans HA.size le5
  have HV := HV.keep F3 (fun _ _ => nin0 _)
  have HA := Fr.step0 HA F3
  refine WO.run 1 1 [(6, .slice (some ad) n cap)] (by kernel_rfl) (by kernel_rfl) ?_
  have HR11 := RowB.of_blk (n := 0) HB4 (List.map cB []) rfl rfl (cB_len _) (cB_one _) (by omega)
  refine WO.appRow (SQ.E 2 (by kernel_rfl)) 7 (n := 0) (m := n) (ys := List.map cB q) et_b HR11 ((List.length_map _).trans ((rfl : List.length ([] : List UInt8) = 0))) (by rw [List.length_map] <;> first | rfl | omega | (simp <;> omega)) (HV.srcN hn (cB_len _) (cB_one _) cap) (cB_len _) (cB_one _) (by kernel_rfl) (by omega) (by omega) (fun _ _ => trivial) ?_
  intro b6 cap7 w8 HR9 F10 hb12
  have nin_b6_F : b6 ∉ F := hb12.elim (fun h => h ▸ nin_g1_F) (fun h => new_nin HV.lt h)
  have in_HA_b6 : b6 ∈ [] ∨ (World.heap w).size ≤ b6 := hb12.elim (fun h => Or.inr (h ▸ ge_HA_g1)) (fun h => Or.inr (Nat.le_trans HA.size h))
  have HV := HV.keep F10 (djB nin_g1_F)
  have HA := Fr.step HA F10 (inSR ge_HA_g1 inS0)
  have HR9 : RowB w8 b6 5 1 cap7 ((([] : List UInt8) ++ q).map cB) := by rw [List.map_append]; exact HR9
  refine WO.run 1 3 [(2, .slice (some ⟨b6, 0, none⟩) (0 + n) cap7)] (by kernel_rfl) (by kernel_rfl) ?_
  refine WO.done (by kernel_rfl) ?_
  refine WQ.keep [0, 2, 4] (e' := [(0, .slice (some ad) n cap), (2, .slice (some ⟨b6, 0, none⟩) (0 + n) cap7), (4, .bool false)]) (by kernel_rfl) ?_
  refine WQ.thenN ?_
  refine WE.ret ?_
  refine WQ.ret (v := .slice (some ⟨b6, 0, none⟩) (0 + n) cap7) (by kernel_rfl) ?_
  have h_ := HR9
  rw [List.nil_append] at h_
  have hle_ := h_.le
  rw [List.length_map] at hle_
  exact ⟨b6, cap7, by rw [Nat.zero_add], by omega, VX.of_row h_, HA, in_HA_b6.resolve_left (by simp)⟩

set_option maxRecDepth 100000 in
set_option maxHeartbeats 400000 in
theorem open_bad (gd : Nat) (many : Int) (w : World) (hb : many < 1 ∨ 100 < many) :
    Calls Try.prog 27 #[.pointer (some ⟨gd, 0, none⟩), .int .i64 many] w fun e w' => e = .returned (.tuple #[.pointer none, .iface 36 (.int .i64 1)]) ∧ Fr [] w w' := by
  have HA := Fr.refl [] w
  refine enter (N := 31) Try.func27 (c := _) rfl (by kernel_rfl) (by kernel_rfl) (e := [(0, .pointer (some ⟨gd, 0, none⟩)), (1, .int .i64 many)]) (by kernel_rfl) ?_
  refine WE.seq ?_
  refine WE.region ?_
  refine WO.run 2 0 [(5, .nilIface), (4, .pointer none)] (by kernel_rfl) (by kernel_rfl) ?_
  refine WO.done (by kernel_rfl) ?_
  refine WQ.keep [0, 1, 4, 5] (e' := [(0, .pointer (some ⟨gd, 0, none⟩)), (1, .int .i64 many), (4, .pointer none), (5, .nilIface)]) (by kernel_rfl) ?_
  refine WQ.thenN ?_
  refine WE.seq ?_
  refine WE.seq ?_
  refine WE.region ?_
  refine WO.run 4 0 [(11, .int .i64 many), (10, .bool false), (9, .bool false), (8, .pointer (some ⟨gd, 0, none⟩))] (by kernel_rfl) (by kernel_rfl) ?_
  refine WO.one (SQ.F 4 (by kernel_rfl)) 12 (.bool (decide ((many : Int) < 1))) (by kernel_rfl) ?_
  refine WO.topP ((many : Int) < 1) ?_ ?_
  · intro h1
    refine WO.run 5 5 [(17, .bool true), (16, undef), (15, undef), (14, .bool true), (13, .bool true)] (by kernel_rfl) (by kernel_rfl) ?_
    refine WO.done (by kernel_rfl) ?_
    refine WQ.keep [0, 1, 4, 5, 17] (e' := [(0, .pointer (some ⟨gd, 0, none⟩)), (1, .int .i64 many), (4, .pointer none), (5, .nilIface), (17, .bool true)]) (by kernel_rfl) ?_
    refine WQ.thenN ?_
    refine WE.condT (by kernel_rfl) ?_
    refine WE.seq ?_
    refine WE.region ?_
    refine WO.run 3 0 [(5, .iface 36 (.int .i64 1)), (4, .pointer none), (18, .iface 36 (.int .i64 1))] (by kernel_rfl) (by kernel_rfl) ?_
    refine WO.done (by kernel_rfl) ?_
    refine WQ.keep [0, 1, 4, 5, 17] (e' := [(0, .pointer (some ⟨gd, 0, none⟩)), (1, .int .i64 many), (4, .pointer none), (5, .iface 36 (.int .i64 1)), (17, .bool true)]) (by kernel_rfl) ?_
    refine WQ.thenN ?_
    refine WE.ret ?_
    refine WQ.thenR ?_
    refine WQ.ret (v := .tuple #[.pointer none, .iface 36 (.int .i64 1)]) (by kernel_rfl) ?_
    exact ⟨rfl, HA⟩
  intro h1
  refine WO.run 3 5 [(15, .int .i64 many), (14, .bool false), (13, .bool false)] (by kernel_rfl) (by kernel_rfl) ?_
  refine WO.one (SQ.F 8 (by kernel_rfl)) 16 (.bool (decide ((many : Int) > 100))) (by kernel_rfl) ?_
  refine WO.topPT ((many : Int) > 100) (by omega) ?_
  refine WO.run 1 9 [(17, .bool true)] (by kernel_rfl) (by kernel_rfl) ?_
  refine WO.done (by kernel_rfl) ?_
  refine WQ.keep [0, 1, 4, 5, 17] (e' := [(0, .pointer (some ⟨gd, 0, none⟩)), (1, .int .i64 many), (4, .pointer none), (5, .nilIface), (17, .bool true)]) (by kernel_rfl) ?_
  refine WQ.thenN ?_
  refine WE.condT (by kernel_rfl) ?_
  refine WE.seq ?_
  refine WE.region ?_
  refine WO.run 3 0 [(5, .iface 36 (.int .i64 1)), (4, .pointer none), (18, .iface 36 (.int .i64 1))] (by kernel_rfl) (by kernel_rfl) ?_
  refine WO.done (by kernel_rfl) ?_
  refine WQ.keep [0, 1, 4, 5, 17] (e' := [(0, .pointer (some ⟨gd, 0, none⟩)), (1, .int .i64 many), (4, .pointer none), (5, .iface 36 (.int .i64 1)), (17, .bool true)]) (by kernel_rfl) ?_
  refine WQ.thenN ?_
  refine WE.ret ?_
  refine WQ.thenR ?_
  refine WQ.ret (v := .tuple #[.pointer none, .iface 36 (.int .i64 1)]) (by kernel_rfl) ?_
  exact ⟨rfl, HA⟩

set_option maxRecDepth 100000 in
set_option maxHeartbeats 400000 in
theorem open_nil (many : Int) (w : World) :
    Calls Try.prog 27 #[.pointer none, .int .i64 many] w fun e w' => e = .returned (.tuple #[.pointer none, .iface 36 (.int .i64 1)]) ∧ Fr [] w w' := by
  have HA := Fr.refl [] w
  refine enter (N := 31) Try.func27 (c := _) rfl (by kernel_rfl) (by kernel_rfl) (e := [(0, .pointer none), (1, .int .i64 many)]) (by kernel_rfl) ?_
  refine WE.seq ?_
  refine WE.region ?_
  refine WO.run 2 0 [(5, .nilIface), (4, .pointer none)] (by kernel_rfl) (by kernel_rfl) ?_
  refine WO.done (by kernel_rfl) ?_
  refine WQ.keep [0, 1, 4, 5] (e' := [(0, .pointer none), (1, .int .i64 many), (4, .pointer none), (5, .nilIface)]) (by kernel_rfl) ?_
  refine WQ.thenN ?_
  refine WE.seq ?_
  refine WE.seq ?_
  refine WE.region ?_
  refine WO.run 10 0 [(17, .bool true), (16, undef), (15, undef), (14, .bool true), (13, .bool true), (12, undef), (11, undef), (10, .bool true), (9, .bool true), (8, .pointer none)] (by kernel_rfl) (by kernel_rfl) ?_
  refine WO.done (by kernel_rfl) ?_
  refine WQ.keep [0, 1, 4, 5, 17] (e' := [(0, .pointer none), (1, .int .i64 many), (4, .pointer none), (5, .nilIface), (17, .bool true)]) (by kernel_rfl) ?_
  refine WQ.thenN ?_
  refine WE.condT (by kernel_rfl) ?_
  refine WE.seq ?_
  refine WE.region ?_
  refine WO.run 3 0 [(5, .iface 36 (.int .i64 1)), (4, .pointer none), (18, .iface 36 (.int .i64 1))] (by kernel_rfl) (by kernel_rfl) ?_
  refine WO.done (by kernel_rfl) ?_
  refine WQ.keep [0, 1, 4, 5, 17] (e' := [(0, .pointer none), (1, .int .i64 many), (4, .pointer none), (5, .iface 36 (.int .i64 1)), (17, .bool true)]) (by kernel_rfl) ?_
  refine WQ.thenN ?_
  refine WE.ret ?_
  refine WQ.thenR ?_
  refine WQ.ret (v := .tuple #[.pointer none, .iface 36 (.int .i64 1)]) (by kernel_rfl) ?_
  exact ⟨rfl, HA⟩

set_option maxRecDepth 100000 in
set_option maxHeartbeats 400000 in
theorem open_f (gd : Nat) (many : Int) (d : Dk) (gs : List (Seg × List UInt8)) (F0 : List Nat) (w : World) (HG : GDisk w gd F0 d) (hok : d.Ok) (hm : ¬ (many < 1 ∨ 100 < many)) (hd : d.l = gs.map tailP) (hch : Chain 0 (gs.map Prod.fst)) (hgs : ∀ x ∈ gs, (∀ r ∈ x.1.rs, recOk r) ∧ Stops x.2) (htot : gs.length ≤ 100000 ∧ (allR (gs.map Prod.fst)).length ≤ 100000) :
    Calls Try.prog 27 #[.pointer (some ⟨gd, 0, none⟩), .int .i64 many] w fun e w' => ∃ gj F' J, e = .returned (.tuple #[.pointer (some ⟨gj, 0, none⟩), .nilIface]) ∧ GDisk w' gd F' { d with l := gs.map cutP, down := false } ∧ Jn w' gj J gd many (gs.map fun x => x.1.n) (allR (gs.map Prod.fst)) ∧ Fr F0 w w' ∧ (∀ y ∈ F', y ∈ F0 ∨ w.heap.size ≤ y) ∧ (∀ y ∈ J, w.heap.size ≤ y) ∧ (∀ y ∈ F', y ∉ J) := by
  have HA := Fr.refl F0 w
  refine enter (N := 31) Try.func27 (c := _) rfl (by kernel_rfl) (by kernel_rfl) (e := [(0, .pointer (some ⟨gd, 0, none⟩)), (1, .int .i64 many)]) (by kernel_rfl) ?_
  refine WE.seq ?_
  refine WE.region ?_
  refine WO.run 2 0 [(5, .nilIface), (4, .pointer none)] (by kernel_rfl) (by kernel_rfl) ?_
  refine WO.done (by kernel_rfl) ?_
  refine WQ.keep [0, 1, 4, 5] (e' := [(0, .pointer (some ⟨gd, 0, none⟩)), (1, .int .i64 many), (4, .pointer none), (5, .nilIface)]) (by kernel_rfl) ?_
  refine WQ.thenN ?_
  refine WE.seq ?_
  refine WE.seq ?_
  refine WE.region ?_
  refine WO.run 4 0 [(11, .int .i64 many), (10, .bool false), (9, .bool false), (8, .pointer (some ⟨gd, 0, none⟩))] (by kernel_rfl) (by kernel_rfl) ?_
  refine WO.one (SQ.F 4 (by kernel_rfl)) 12 (.bool (decide ((many : Int) < 1))) (by kernel_rfl) ?_
  refine WO.topPF ((many : Int) < 1) (by omega) ?_
  refine WO.run 3 5 [(15, .int .i64 many), (14, .bool false), (13, .bool false)] (by kernel_rfl) (by kernel_rfl) ?_
  refine WO.one (SQ.F 8 (by kernel_rfl)) 16 (.bool (decide ((many : Int) > 100))) (by kernel_rfl) ?_
  refine WO.topPF ((many : Int) > 100) (by omega) ?_
  refine WO.run 1 9 [(17, .bool false)] (by kernel_rfl) (by kernel_rfl) ?_
  refine WO.done (by kernel_rfl) ?_
  refine WQ.keep [0, 1, 4, 5, 17] (e' := [(0, .pointer (some ⟨gd, 0, none⟩)), (1, .int .i64 many), (4, .pointer none), (5, .nilIface), (17, .bool false)]) (by kernel_rfl) ?_
  refine WQ.thenN ?_
  refine WE.condF (by kernel_rfl) ?_
  refine WE.skip ?_
  refine WQ.thenN ?_
  refine WE.seq ?_
  refine WE.region ?_
  refine WO.run 1 0 [(19, .pointer (some ⟨gd, 0, none⟩))] (by kernel_rfl) (by kernel_rfl) ?_
  refine WO.call (SQ.E 1 (by kernel_rfl)) 20 (by kernel_rfl) (gup gd F0 d _ HG) ?_
  rintro _ w1 ⟨rfl, HGn, F2⟩
  refine ⟨_, rfl, trivial, ?_⟩
  have HA := Fr.step HA F2 (fun y hy => .inl hy)
  have HG := HGn
  refine WO.done (by kernel_rfl) ?_
  refine WQ.keep [0, 1, 4, 5, 17] (e' := [(0, .pointer (some ⟨gd, 0, none⟩)), (1, .int .i64 many), (4, .pointer none), (5, .nilIface), (17, .bool false)]) (by kernel_rfl) ?_
  refine WQ.thenN ?_
  refine WE.seq ?_
  refine WE.region ?_
  refine WO.run 3 0 [(23, .agg #[.pointer (some ⟨gd, 0, none⟩), .int .i64 many, .slice none 0 0, .slice none 0 0]), (22, .int .i64 many), (21, .pointer (some ⟨gd, 0, none⟩))] (by kernel_rfl) (by kernel_rfl) ?_
  refine WO.bx (SQ.E 3 (by kernel_rfl)) 24 #[.pointer (some ⟨gd, 0, none⟩), .int .i64 many, .slice none 0 0, .slice none 0 0] 80 (fun g => .pointer (some ⟨g, 0, none⟩)) (by kernel_rfl) (fun _ _ => trivial) ?_
  intro g3 w4 HB6 F5 le7 _
  have nin_g3_F0 : g3 ∉ F0 := new_nin (GDisk.lt HG) le7
  have ge_HA_g3 := Nat.le_trans HA.size le7
  have HG := GDisk.keep HG F5 (fun _ _ => nin0 _)
  have HA := Fr.step0 HA F5
  refine WO.run 1 4 [(6, .pointer (some ⟨g3, 0, none⟩))] (by kernel_rfl) (by kernel_rfl) ?_
  refine WO.done (by kernel_rfl) ?_
  refine WQ.keep [0, 1, 4, 5, 6, 17] (e' := [(0, .pointer (some ⟨gd, 0, none⟩)), (1, .int .i64 many), (4, .pointer none), (5, .nilIface), (6, .pointer (some ⟨g3, 0, none⟩)), (17, .bool false)]) (by kernel_rfl) ?_
  refine WQ.thenN ?_
  refine WE.seq ?_
  refine WE.seq ?_
  refine WE.region ?_
  refine WO.run 1 0 [(25, .pointer (some ⟨g3, 0, none⟩))] (by kernel_rfl) (by kernel_rfl) ?_
  have hsz_ := HA.size
  have hge_ := ge_HA_g3
  refine WO.call (SQ.E 1 (by kernel_rfl)) 26 (by kernel_rfl) (load_f g3 gd many (up d) gs F0 _ HB6 HG (up_ok hok) rfl hd hch hgs nin_g3_F0 htot) ?_
  rintro _ w8 ⟨rfl, F', J, HGn, HJn, F9, hF1, hJ1, hdj⟩
  refine ⟨_, rfl, trivial, ?_⟩
  have HA := HA.step F9 (fun y hy => (List.mem_cons.1 hy).elim (fun h_ => .inr (by rw [h_]; exact hge_)) .inl)
  refine WO.run 1 2 [(7, .nilIface)] (by kernel_rfl) (by kernel_rfl) ?_
  refine WO.done (by kernel_rfl) ?_
  refine WQ.keep [0, 1, 4, 5, 6, 7, 17] (e' := [(0, .pointer (some ⟨gd, 0, none⟩)), (1, .int .i64 many), (4, .pointer none), (5, .nilIface), (6, .pointer (some ⟨g3, 0, none⟩)), (7, .nilIface), (17, .bool false)]) (by kernel_rfl) ?_
  refine WQ.thenN ?_
  refine WE.seq ?_
  refine WE.region ?_
  refine WO.run 2 0 [(28, .bool false), (27, .nilIface)] (by kernel_rfl) (by kernel_rfl) ?_
  refine WO.done (by kernel_rfl) ?_
  refine WQ.keep [0, 1, 4, 5, 6, 7, 17, 28] (e' := [(0, .pointer (some ⟨gd, 0, none⟩)), (1, .int .i64 many), (4, .pointer none), (5, .nilIface), (6, .pointer (some ⟨g3, 0, none⟩)), (7, .nilIface), (17, .bool false), (28, .bool false)]) (by kernel_rfl) ?_
  refine WQ.thenN ?_
  refine WE.condF (by kernel_rfl) ?_
  refine WE.skip ?_
  refine WQ.thenN ?_
  refine WE.seq ?_
  refine WE.region ?_
  refine WO.run 3 0 [(5, .nilIface), (4, .pointer (some ⟨g3, 0, none⟩)), (30, .pointer (some ⟨g3, 0, none⟩))] (by kernel_rfl) (by kernel_rfl) ?_
  refine WO.done (by kernel_rfl) ?_
  refine WQ.keep [0, 1, 4, 5, 6, 7, 17, 28] (e' := [(0, .pointer (some ⟨gd, 0, none⟩)), (1, .int .i64 many), (4, .pointer (some ⟨g3, 0, none⟩)), (5, .nilIface), (6, .pointer (some ⟨g3, 0, none⟩)), (7, .nilIface), (17, .bool false), (28, .bool false)]) (by kernel_rfl) ?_
  refine WQ.thenN ?_
  refine WE.ret ?_
  refine WQ.ret (v := .tuple #[.pointer (some ⟨g3, 0, none⟩), .nilIface]) (by kernel_rfl) ?_
  exact ⟨g3, F', J, rfl, HGn, HJn, HA, fun y hy => (hF1 y hy).imp id (Nat.le_trans hsz_), fun y hy => (hJ1 y hy).elim (fun h_ => by rw [h_]; exact hge_) (Nat.le_trans hsz_), hdj⟩

set_option maxRecDepth 100000 in
set_option maxHeartbeats 400000 in
theorem jsync_0 (gj gd : Nat) (many : Int) (Ap : Option Addr) (cp : Nat) (vL : Value) (ps : List Int) (FP : List Nat) (w : World) (HJ : Blk w gj #[.pointer (some ⟨gd, 0, none⟩), .int .i64 many, .slice Ap 0 cp, vL] 80) (HP : VX cI 1 w FP Ap ps) (hgP : gj ∉ FP) (hnp : ps.length = 0) :
    Calls Try.prog 29 #[.pointer (some ⟨gj, 0, none⟩)] w fun e w' => e = .returned .nilIface ∧ Fr [] w w' := by
  have HA := Fr.refl [] w
  refine enter (N := 26) Try.func29 (c := _) rfl (by kernel_rfl) (by kernel_rfl) (e := [(0, .pointer (some ⟨gj, 0, none⟩))]) (by kernel_rfl) ?_
  refine WE.seq ?_
  refine WE.region ?_
  refine WO.run 1 0 [(2, .nilIface)] (by kernel_rfl) (by kernel_rfl) ?_
  refine WO.done (by kernel_rfl) ?_
  refine WQ.keep [0, 2] (e' := [(0, .pointer (some ⟨gj, 0, none⟩)), (2, .nilIface)]) (by kernel_rfl) ?_
  refine WQ.thenN ?_
  refine WE.seq ?_
  refine WE.seq ?_
  refine WE.region ?_
  refine WO.run 3 0 [(5, .pointer (some ⟨gj, 2, none⟩)), (4, .pointer (some ⟨gj, 0, none⟩)), (3, .pointer (some ⟨gj, 0, none⟩))] (by kernel_rfl) (by kernel_rfl) ?_
  refine WO.ld (SQ.S 3 (by kernel_rfl)) 6 (.slice Ap 0 cp) (by kernel_rfl) (same (HJ.at 2 (by kernel_rfl))) ?_
  refine WO.run 2 4 [(8, .bool true), (7, .int .i64 0)] (by kernel_rfl) (by kernel_rfl) ?_
  refine WO.done (by kernel_rfl) ?_
  refine WQ.keep [0, 2, 8] (e' := [(0, .pointer (some ⟨gj, 0, none⟩)), (2, .nilIface), (8, .bool true)]) (by kernel_rfl) ?_
  refine WQ.thenN ?_
  refine WE.condT (by kernel_rfl) ?_
  refine WE.seq ?_
  refine WE.region ?_
  refine WO.run 1 0 [(2, .nilIface)] (by kernel_rfl) (by kernel_rfl) ?_
  refine WO.done (by kernel_rfl) ?_
  refine WQ.keep [0, 2, 8] (e' := [(0, .pointer (some ⟨gj, 0, none⟩)), (2, .nilIface), (8, .bool true)]) (by kernel_rfl) ?_
  refine WQ.thenN ?_
  refine WE.ret ?_
  refine WQ.thenR ?_
  refine WQ.ret (v := .nilIface) (by kernel_rfl) ?_
  exact ⟨rfl, HA⟩

set_option maxRecDepth 100000 in
set_option maxHeartbeats 400000 in
theorem jsync_n (gj gd : Nat) (many : Int) (Ap : Option Addr) (np cp : Nat) (vL : Value) (ps : List Int) (FP : List Nat) (w : World) (HJ : Blk w gj #[.pointer (some ⟨gd, 0, none⟩), .int .i64 many, .slice Ap np cp, vL] 80) (HP : VX cI 1 w FP Ap ps) (hgP : gj ∉ FP) (hnp : ps.length = np) (hp : 0 < np) (n : Int) (hlast : g0 ps (np - 1) = n) (d : Dk) (F : List Nat) (HG : GDisk w gd F d) (hok : d.Ok) (hn : -9223372036854775808 ≤ n ∧ n ≤ 9223372036854775807) (hgF : gj ∉ F) (hFP : ∀ y ∈ F, y ∉ FP) (hpl : np ≤ 1000000) :
    Calls Try.prog 29 #[.pointer (some ⟨gj, 0, none⟩)] w fun e w' => e = .returned (codeV (sync d n).1) ∧ ∃ F', GDisk w' gd F' (sync d n).2 ∧ Fr F w w' ∧ ∀ y ∈ F', y ∈ F ∨ w.heap.size ≤ y := by
  have HA := Fr.refl F w
  refine enter (N := 26) Try.func29 (c := _) rfl (by kernel_rfl) (by kernel_rfl) (e := [(0, .pointer (some ⟨gj, 0, none⟩))]) (by kernel_rfl) ?_
  refine WE.seq ?_
  refine WE.region ?_
  refine WO.run 1 0 [(2, .nilIface)] (by kernel_rfl) (by kernel_rfl) ?_
  refine WO.done (by kernel_rfl) ?_
  refine WQ.keep [0, 2] (e' := [(0, .pointer (some ⟨gj, 0, none⟩)), (2, .nilIface)]) (by kernel_rfl) ?_
  refine WQ.thenN ?_
  refine WE.seq ?_
  refine WE.seq ?_
  refine WE.region ?_
  refine WO.run 3 0 [(5, .pointer (some ⟨gj, 2, none⟩)), (4, .pointer (some ⟨gj, 0, none⟩)), (3, .pointer (some ⟨gj, 0, none⟩))] (by kernel_rfl) (by kernel_rfl) ?_
  refine WO.ld (SQ.S 3 (by kernel_rfl)) 6 (.slice Ap np cp) (by kernel_rfl) (same (HJ.at 2 (by kernel_rfl))) ?_
  refine WO.run 1 4 [(7, .int .i64 (np : Int))] (by kernel_rfl) (by kernel_rfl) ?_
  refine WO.one (SQ.F 5 (by kernel_rfl)) 8 (.bool (decide (((np : Int) : Int) = (0 : Int)))) (by kernel_rfl) ?_
  refine WO.topPF (((np : Int) : Int) = (0 : Int)) (by omega) ?_
  refine WO.done (by kernel_rfl) ?_
  refine WQ.keep [0, 2, 8] (e' := [(0, .pointer (some ⟨gj, 0, none⟩)), (2, .nilIface), (8, .bool false)]) (by kernel_rfl) ?_
  refine WQ.thenN ?_
  refine WE.condF (by kernel_rfl) ?_
  refine WE.skip ?_
  refine WQ.thenN ?_
  refine WE.seq ?_
  refine WE.draw [.free, .free, .free, .still, .free, .free, .free, .still, .free, .free, .free, .still, .free, .free, .free, .still, .eff, .free] Same sameR (by kernel_rfl) 18 (Array.replicate 18 false) (by kernel_rfl) rfl ?_
  intro w1 F2 _
  have HJ := Blk.keep HJ F2 (nin0 _)
  have HP := HP.keep F2 (fun _ _ => nin0 _)
  have HG := GDisk.keep HG F2 (fun _ _ => nin0 _)
  have HA := Fr.step0 HA F2
  refine WO.one (SA.F sameR sameT _ 0 _ (by kernel_rfl)) 9 (.pointer (some ⟨gj, 0, none⟩)) (by kernel_rfl) ?_
  refine WO.one (SA.F sameR sameT _ 1 _ (by kernel_rfl)) 10 (.pointer (some ⟨gj, 0, none⟩)) (by kernel_rfl) ?_
  refine WO.one (SA.F sameR sameT _ 2 _ (by kernel_rfl)) 11 (.pointer (some ⟨gj, 0, none⟩)) (by kernel_rfl) ?_
  refine WO.ld (SA.S sameR sameT _ 3 _ (by kernel_rfl)) 12 (.pointer (some ⟨gd, 0, none⟩)) (by kernel_rfl) (same (HJ.at 0 (by kernel_rfl))) ?_
  refine WO.one (SA.F sameR sameT _ 4 _ (by kernel_rfl)) 13 (.pointer (some ⟨gj, 0, none⟩)) (by kernel_rfl) ?_
  refine WO.one (SA.F sameR sameT _ 5 _ (by kernel_rfl)) 14 (.pointer (some ⟨gj, 0, none⟩)) (by kernel_rfl) ?_
  refine WO.one (SA.F sameR sameT _ 6 _ (by kernel_rfl)) 15 (.pointer (some ⟨gj, 2, none⟩)) (by kernel_rfl) ?_
  refine WO.ld (SA.S sameR sameT _ 7 _ (by kernel_rfl)) 16 (.slice Ap np cp) (by kernel_rfl) (same (HJ.at 2 (by kernel_rfl))) ?_
  refine WO.one (SA.F sameR sameT _ 8 _ (by kernel_rfl)) 17 (.pointer (some ⟨gj, 0, none⟩)) (by kernel_rfl) ?_
  refine WO.one (SA.F sameR sameT _ 9 _ (by kernel_rfl)) 18 (.pointer (some ⟨gj, 0, none⟩)) (by kernel_rfl) ?_
  refine WO.one (SA.F sameR sameT _ 10 _ (by kernel_rfl)) 19 (.pointer (some ⟨gj, 2, none⟩)) (by kernel_rfl) ?_
  refine WO.ld (SA.S sameR sameT _ 11 _ (by kernel_rfl)) 20 (.slice Ap np cp) (by kernel_rfl) (same (HJ.at 2 (by kernel_rfl))) ?_
  refine WO.one (SA.F sameR sameT _ 12 _ (by kernel_rfl)) 21 (.int .i64 (np : Int)) (by kernel_rfl) ?_
  refine WO.one (SA.F sameR sameT _ 13 _ (by kernel_rfl)) 22 (.int .i64 (IntKind.i64.wrap ((np : Int) - 1))) (by kernel_rfl) ?_
  refine WO.top (v' := .int .i64 ((np - 1 : Nat) : Int)) (wrap_i64 (by omega) (by omega)) ?_
  obtain ⟨ad3, hA4⟩ := HP.addr (i := np - 1) (by have := hnp; omega)
  refine WO.ixo (SA.F sameR sameT _ 14 _ (by kernel_rfl)) 23 np 1 (np - 1) ((np - 1 : Nat) : Int) hA4 (by kernel_rfl) rfl (by omega) ?_
  refine WO.ld (SA.S sameR sameT _ 15 _ (by kernel_rfl)) 24 (.int .i64 (g0 ps (np - 1))) (by kernel_rfl) (same (HP.at0 hA4 (g0_some ps (np - 1) (by have := hnp; omega)) (by kernel_rfl))) ?_
  rw [hlast]
  refine WO.call (SA.E _ 16 _ (by kernel_rfl) rfl) 25 (by kernel_rfl) (gsync gd F d n _ HG hok hn) ?_
  rintro _ w5 ⟨rfl, F2, HGn, F6, hg2⟩
  refine ⟨_, rfl, trivial, ?_⟩
  have hsz_ := HA.size
  have HJ := Blk.keep HJ F6 hgF
  have HP := HP.keep F6 (dj_symm hFP)
  have HA := Fr.step HA F6 (fun y hy => .inl hy)
  refine WO.one (SA.F sameR sameT _ 17 _ (by kernel_rfl)) 2 (codeV (sync d n).1) (by kernel_rfl) ?_
  refine WO.doneA (by kernel_rfl) ?_
  refine WQ.keep [0, 2, 8] (e' := [(0, .pointer (some ⟨gj, 0, none⟩)), (2, codeV (sync d n).1), (8, .bool false)]) (by kernel_rfl) ?_
  refine WQ.thenN ?_
  refine WE.ret ?_
  refine WQ.ret (v := codeV (sync d n).1) (by kernel_rfl) ?_
  exact ⟨rfl, F2, HGn, HA, fun y hy => (hg2 y hy).imp id (Nat.le_trans hsz_)⟩

set_option maxRecDepth 100000 in
set_option maxHeartbeats 400000 in
theorem jrec_f (gj gd : Nat) (many : Int) (Ap Al : Option Addr) (np cp nl cl : Nat) (ps : List Int) (xs : List RX) (rs : List (List UInt8)) (FP FL FE : List Nat) (k : Nat) (r : List UInt8) (w : World) (HJ : Blk w gj #[.pointer (some ⟨gd, 0, none⟩), .int .i64 many, .slice Ap np cp, .slice Al nl cl] 80) (HP : VX cI 1 w FP Ap ps) (hnp : ps.length = np) (HL : VX cR 1 w FL Al xs) (hxl : xs.length = nl) (HE : EV w FE xs rs) (hgP : gj ∉ FP) (hgL : gj ∉ FL) (hgE : gj ∉ FE) (hlp : np ≤ 1000000) (hll : nl ≤ 1000000) (hf0 : firstN ps = 0) (hk : k < nl) (hxk : xs[k]? = some (gR xs k)) (hrk : rs[k]? = some r) (hpos : 0 < r.length) (hrl : r.length ≤ 1000000) :
    Calls Try.prog 32 #[.pointer (some ⟨gj, 0, none⟩), .int .i64 (k : Int)] w fun e w' => ∃ b cap, e = .returned (.tuple #[.slice (some ⟨b, 0, none⟩) r.length cap, .nilIface]) ∧ r.length ≤ cap ∧ VX cB 1 w' [b] (some ⟨b, 0, none⟩) r ∧ Fr [] w w' ∧ w.heap.size ≤ b := by
  have HA := Fr.refl [] w
  refine enter (N := 28) Try.func32 (c := _) rfl (by kernel_rfl) (by kernel_rfl) (e := [(0, .pointer (some ⟨gj, 0, none⟩)), (1, .int .i64 (k : Int))]) (by kernel_rfl) ?_
  refine WE.seq ?_
  refine WE.region ?_
  refine WO.run 2 0 [(5, .nilIface), (4, .slice none 0 0)] (by kernel_rfl) (by kernel_rfl) ?_
  refine WO.done (by kernel_rfl) ?_
  refine WQ.keep [0, 1, 4, 5] (e' := [(0, .pointer (some ⟨gj, 0, none⟩)), (1, .int .i64 (k : Int)), (4, .slice none 0 0), (5, .nilIface)]) (by kernel_rfl) ?_
  refine WQ.thenN ?_
  refine WE.seq ?_
  refine WE.seq ?_
  refine WE.region ?_
  refine WO.run 2 0 [(7, .pointer (some ⟨gj, 0, none⟩)), (6, .int .i64 (k : Int))] (by kernel_rfl) (by kernel_rfl) ?_
  refine WO.call (SQ.E 2 (by kernel_rfl)) 8 (by kernel_rfl) (first_j gj gd many Ap Al np cp nl cl ps FP _ HJ HP hnp hgP hlp hll) ?_
  rintro _ w1 ⟨rfl, F2⟩
  rw [hf0]
  refine ⟨_, rfl, trivial, ?_⟩
  have HJ := Blk.keep HJ F2 (nin0 _)
  have HP := HP.keep F2 (fun _ _ => nin0 _)
  have HL := HL.keep F2 (fun _ _ => nin0 _)
  have HE := EV.keep HE F2 (fun _ _ => nin0 _)
  have HA := Fr.step0 HA F2
  refine WO.one (SQ.F 3 (by kernel_rfl)) 9 (.bool (decide (((k : Int) : Int) < (0 : Int)))) (by kernel_rfl) ?_
  refine WO.topPF (((k : Int) : Int) < (0 : Int)) (by omega) ?_
  refine WO.run 3 4 [(12, .pointer (some ⟨gj, 0, none⟩)), (11, .int .i64 (k : Int)), (10, .bool false)] (by kernel_rfl) (by kernel_rfl) ?_
  refine WO.call (SQ.E 7 (by kernel_rfl)) 13 (by kernel_rfl) (next_j gj gd many Ap Al np cp nl cl ps FP _ HJ HP hnp hgP hlp hll (by rw [hf0]; omega)) ?_
  rintro _ w3 ⟨rfl, F4⟩
  rw [hf0]
  refine ⟨_, rfl, trivial, ?_⟩
  have HJ := Blk.keep HJ F4 (nin0 _)
  have HP := HP.keep F4 (fun _ _ => nin0 _)
  have HL := HL.keep F4 (fun _ _ => nin0 _)
  have HE := EV.keep HE F4 (fun _ _ => nin0 _)
  have HA := Fr.step0 HA F4
  refine WO.one (SQ.F 8 (by kernel_rfl)) 14 (.bool (decide (((k : Int) : Int) ≥ (0 + (nl : Int))))) (by kernel_rfl) ?_
  refine WO.topPF (((k : Int) : Int) ≥ (0 + (nl : Int))) (by omega) ?_
  refine WO.run 1 9 [(15, .bool false)] (by kernel_rfl) (by kernel_rfl) ?_
  refine WO.done (by kernel_rfl) ?_
  refine WQ.keep [0, 1, 4, 5, 15] (e' := [(0, .pointer (some ⟨gj, 0, none⟩)), (1, .int .i64 (k : Int)), (4, .slice none 0 0), (5, .nilIface), (15, .bool false)]) (by kernel_rfl) ?_
  refine WQ.thenN ?_
  refine WE.condF (by kernel_rfl) ?_
  refine WE.skip ?_
  refine WQ.thenN ?_
  refine WE.seq ?_
  obtain ⟨hxn, hxc, Fk, hFk, hVk⟩ := HE.at hxk hrk
  obtain ⟨adk, hAk⟩ := hVk.addr (i := 0) hpos
  have hz5 : (World.heap w3).size ≤ (World.heap w3).size := Nat.le_refl _
  have ltz_gj := HJ.lt
  have ltz_FP := HP.lt
  have ltz_FL := HL.lt
  have ltz_FE := EV.lt HE
  refine WE.draw [.free, .free, .free, .still, .free, .free, .effR, .free, .free, .still, .eff, .free, .free] (FrB (World.heap w3).size) (frBR _) (by kernel_rfl) 13 (Array.replicate 13 false) (by kernel_rfl) rfl ?_
  intro w6 F7 _
  have HJ := Blk.keep HJ F7 (nin0 _)
  have HP := HP.keep F7 (fun _ _ => nin0 _)
  have HL := HL.keep F7 (fun _ _ => nin0 _)
  have HE := EV.keep HE F7 (fun _ _ => nin0 _)
  have hz5 := Nat.le_trans hz5 F7.size
  have HA := Fr.step0 HA F7
  refine WO.one (SA.F (frBR _) (frBT _) _ 0 _ (by kernel_rfl)) 17 (.pointer (some ⟨gj, 0, none⟩)) (by kernel_rfl) ?_
  refine WO.one (SA.F (frBR _) (frBT _) _ 1 _ (by kernel_rfl)) 18 (.pointer (some ⟨gj, 0, none⟩)) (by kernel_rfl) ?_
  refine WO.one (SA.F (frBR _) (frBT _) _ 2 _ (by kernel_rfl)) 19 (.pointer (some ⟨gj, 3, none⟩)) (by kernel_rfl) ?_
  refine WO.ld (SA.S (frBR _) (frBT _) _ 3 _ (by kernel_rfl)) 20 (.slice Al nl cl) (by kernel_rfl) (fun _ k => (HJ.keepB k ltz_gj).at 3 (by kernel_rfl)) ?_
  refine WO.one (SA.F (frBR _) (frBT _) _ 4 _ (by kernel_rfl)) 21 (.int .i64 (k : Int)) (by kernel_rfl) ?_
  refine WO.one (SA.F (frBR _) (frBT _) _ 5 _ (by kernel_rfl)) 22 (.pointer (some ⟨gj, 0, none⟩)) (by kernel_rfl) ?_
  refine WO.call (SA.ER _ 6 _ (by kernel_rfl) rfl) 23 (by kernel_rfl) (first_j gj gd many Ap Al np cp nl cl ps FP _ HJ HP hnp hgP hlp hll) ?_
  rintro _ w8 ⟨rfl, F9⟩
  rw [hf0]
  refine ⟨_, rfl, (frB_of hz5 (by simp)) _ F9, ?_⟩
  have HJ := Blk.keep HJ F9 (nin0 _)
  have HP := HP.keep F9 (fun _ _ => nin0 _)
  have HL := HL.keep F9 (fun _ _ => nin0 _)
  have HE := EV.keep HE F9 (fun _ _ => nin0 _)
  have hz5 := Nat.le_trans hz5 F9.size
  have HA := Fr.step0 HA F9
  refine WO.one (SA.F (frBR _) (frBT _) _ 7 _ (by kernel_rfl)) 24 (.int .i64 (IntKind.i64.wrap ((k : Int) - 0))) (by kernel_rfl) ?_
  refine WO.top (v' := .int .i64 (k : Int)) (wrap_i64 (by omega) (by omega)) ?_
  obtain ⟨ad10, hA11⟩ := HL.addr (i := k) (by have := hxl; omega)
  refine WO.ixo (SA.F (frBR _) (frBT _) _ 8 _ (by kernel_rfl)) 25 nl 1 k (k : Int) hA11 (by kernel_rfl) rfl (by omega) ?_
  refine WO.ld (SA.S (frBR _) (frBT _) _ 9 _ (by kernel_rfl)) 26 (.slice ((gR xs k).1) ((gR xs k).2.1) ((gR xs k).2.2)) (by kernel_rfl) (fun _ k_ => (HL.keepB k_ ltz_FL).at0 hA11 (gR_some xs k (by have := hxl; omega)) (by kernel_rfl)) ?_
  obtain ⟨_, _, Fk2, _, hVk2⟩ := HE.at hxk hrk
  rw [hAk] at hVk2
  rw [hAk, hxn]
  refine WO.call (SA.E _ 10 _ (by kernel_rfl) rfl) 27 (by kernel_rfl) (clone_v adk r.length (gR xs k).2.2 r Fk2 _ hVk2 rfl hrl) ?_
  rintro _ w12 ⟨b14, cp15, rfl, hc18, HVc16, F13, ge17⟩
  refine ⟨_, rfl, trivial, ?_⟩
  have hge_ := Nat.le_trans HA.size ge17
  have HJ := Blk.keep HJ F13 (nin0 _)
  have HP := HP.keep F13 (fun _ _ => nin0 _)
  have HL := HL.keep F13 (fun _ _ => nin0 _)
  have HE := EV.keep HE F13 (fun _ _ => nin0 _)
  have hz5 := Nat.le_trans hz5 F13.size
  have HA := Fr.step0 HA F13
  refine WO.one (SA.F (frBR _) (frBT _) _ 11 _ (by kernel_rfl)) 4 (.slice (some ⟨b14, 0, none⟩) r.length cp15) (by kernel_rfl) ?_
  refine WO.one (SA.F (frBR _) (frBT _) _ 12 _ (by kernel_rfl)) 5 (.nilIface) (by kernel_rfl) ?_
  refine WO.doneA (by kernel_rfl) ?_
  refine WQ.keep [0, 1, 4, 5, 15] (e' := [(0, .pointer (some ⟨gj, 0, none⟩)), (1, .int .i64 (k : Int)), (4, .slice (some ⟨b14, 0, none⟩) r.length cp15), (5, .nilIface), (15, .bool false)]) (by kernel_rfl) ?_
  refine WQ.thenN ?_
  refine WE.ret ?_
  refine WQ.ret (v := .tuple #[.slice (some ⟨b14, 0, none⟩) r.length cp15, .nilIface]) (by kernel_rfl) ?_
  exact ⟨b14, cp15, rfl, hc18, HVc16, HA, hge_⟩
end Go.Proofs.Ytkhibpdkgjapgaa.Jrn
