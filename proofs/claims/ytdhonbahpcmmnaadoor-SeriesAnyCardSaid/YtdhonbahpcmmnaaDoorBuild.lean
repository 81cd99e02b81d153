/- strings.Builder's writes and its text. -/
import Derived.Test.YtdhonbahpcmmnaaDoorConst
import Derived.Test.YtdhonbahpcmmnaaDoorShelf
import Derived.Lib.UnsafeStr
import Derived.Lib.Builder
import Derived.WalkKit
import Derived.Laws.Externs
set_option linter.unusedVariables false
set_option linter.unusedSimpArgs false
namespace Go.Proofs.YtdhonbahpcmmnaaDoor.Build
open Go Go.RowKit Go.Proofs Go.Proofs.YtdhonbahpcmmnaaDoor Go.Proofs.YtdhonbahpcmmnaaDoor.Eng Go.Proofs.YtdhonbahpcmmnaaDoorW.PrintWords
theorem byt : BT Tryd.prog 77 5 9 := ⟨by kernel_rfl, by kernel_rfl, by kernel_rfl⟩
theorem et_b : ET Tryd.prog 77 5 1 1 := by
 obtain ⟨i, h1, h2, h3, h4⟩ := info_parts (P := Tryd.prog) (e := 5) (z := .int .u8 0) (size := 1) (bytes := 1) (by kernel_rfl)
 exact ⟨by kernel_rfl, ⟨i, _, h1, h2, h3, h4, rfl⟩, by decide⟩
theorem hz_b : ∃ i, Tryd.prog.info? 5 = some i ∧ i.zero = some (.int .u8 0) := by
 obtain ⟨i, h1, h2, h3, h4⟩ := info_parts (P := Tryd.prog) (e := 5) (z := .int .u8 0) (size := 1) (bytes := 1) (by kernel_rfl)
 exact ⟨i, h1, h2⟩
set_option maxHeartbeats 1000000 in
set_option maxRecDepth 100000 in
theorem cc_used (b : Nat) (w : World) (h0 : w.cell? ⟨b, 0, none⟩ = some (.pointer (some ⟨b, 0, none⟩))) :
  Calls Tryd.prog 65 #[.pointer (some ⟨b, 0, none⟩)] w fun e w' => e = .returned (.tuple #[]) ∧ w' = w := by
 obtain ⟨j, hj, _⟩ := Option.map_eq_some_iff.1 (show (Tryd.prog.info? 79).map (·.size) = some 2 by kernel_rfl)
 go_enter Tryd.func65, Tryd.ntmps65
 go_wp2
 rw [Lib.run_neq_ptr_same w _ Tryd.underlying76 hj]
 go_wp2
 go_end0
 exact ⟨rfl, rfl⟩
set_option maxHeartbeats 1000000 in
set_option maxRecDepth 100000 in
theorem cc_fresh (b : Nat) (w : World) (h0 : w.cell? ⟨b, 0, none⟩ = some (.pointer none)) (hsh : w.shape? b = some (79, 2)) (hfz : w.frozen? ⟨b, 0, none⟩ = false) :
  Calls Tryd.prog 65 #[.pointer (some ⟨b, 0, none⟩)] w fun e w' => e = .returned (.tuple #[]) ∧ w' = w.setCell ⟨b, 0, none⟩ (.pointer (some ⟨b, 0, none⟩)) := by
 obtain ⟨j, hj, hjs⟩ := Option.map_eq_some_iff.1 (show (Tryd.prog.info? 79).map (·.size) = some 2 by kernel_rfl)
 go_enter Tryd.func65, Tryd.ntmps65
 go_wp2
 rw [Lib.run_to_unsafe w ⟨b, 0, none⟩ Tryd.underlying76 Tryd.underlying90 hj (by rw [hjs]; decide) hsh (Nat.zero_lt_succ 1)]
 simp only [Result.andThen]
 rw [Oper.upon_value]
 go_wp2
 rw [run_callFunc_extern Tryd.func81 (by kernel_rfl) (by kernel_rfl) (by kernel_rfl) (e := Extern.AbiNoEscape.same) (by kernel_rfl)]
 rw [Lib.run_noEscape]
 simp only [Result.andThen]
 rw [Oper.upon_value]
 go_wp2
 rw [Lib.run_from_unsafe w ⟨b, 0, none⟩ Tryd.underlying90 Tryd.underlying76 hj hsh (by kernel_rfl)]
 simp only [Result.andThen]
 rw [Oper.upon_value]
 go_wp2
 go_end0
 exact ⟨rfl, rfl⟩
theorem copyCheck_f (g : Nat) (pa v : Value) (w : World) (HB : Blk w g #[pa, v] 79) (hpa : pa = .pointer none ∨ pa = .pointer (some ⟨g, 0, none⟩)) :
  Calls Tryd.prog 65 #[.pointer (some ⟨g, 0, none⟩)] w fun e w' => e = .returned (.tuple #[]) ∧ Blk w' g #[.pointer (some ⟨g, 0, none⟩), v] 79 ∧ Fr [g] w w' := by
 rcases hpa with rfl | rfl
 ·
  refine (cc_fresh g w (HB.cell 0) (by unfold World.shape?; rw [show w.heap[g]? = _ from HB]; rfl) (HB.frozen 0)).mono fun e w' h => ?_
  obtain ⟨rfl, rfl⟩ := h
  exact ⟨rfl, HB.put 0 _ rfl, (Fr.refl [g] w).set (.inl (by simp)) 0 _⟩
 ·
  refine (cc_used g w (HB.cell 0)).mono fun e w' h => ?_
  obtain ⟨rfl, rfl⟩ := h
  exact ⟨rfl, HB, Fr.refl [g] _⟩
set_option maxRecDepth 100000 in
set_option maxHeartbeats 400000 in
theorem writeString_f (g : Nat) (pa : Value) (A : Option Addr) (cap : Nat) (q s : List UInt8) (F : List Nat) (w : World) (HB : Blk w g #[pa, .slice A q.length cap] 79) (hpa : pa = .pointer none ∨ pa = .pointer (some ⟨g, 0, none⟩)) (HO : OwnX 5 1 w F (.slice A q.length cap) (q.map cB)) (hgF : g ∉ F) (hl : q.length + s.length ≤ 1000000000) :
  Calls Tryd.prog 45 #[.pointer (some ⟨g, 0, none⟩), .string (str s)] w fun e w' => ∃ A' cap' F', e = .returned (.tuple #[.int .i64 (s.length : Int), .nilIface]) ∧ Blk w' g #[.pointer (some ⟨g, 0, none⟩), .slice A' (q ++ s).length cap'] 79 ∧ OwnX 5 1 w' F' (.slice A' (q ++ s).length cap') ((q ++ s).map cB) ∧ Fr (g :: F) w w' ∧ (∀ y ∈ F', y ∈ F ∨ w.heap.size ≤ y) ∧ g ∉ F' := by
 have HA := Fr.refl (g :: F) w
 refine enter (N := 19) Tryd.func45 (c := _) rfl (by kernel_rfl) (by kernel_rfl) (e := [(0, .pointer (some ⟨g, 0, none⟩)), (1, .string (str s))]) (by kernel_rfl) ?_
 refine WE.seq ?_
 refine WE.region ?_
 refine WO.run 2 0 [(5, .nilIface), (4, .int .i64 0)] (by kernel_rfl) (by kernel_rfl) ?_
 refine WO.done (by kernel_rfl) ?_
 refine WQ.keep [0, 1, 4, 5] (e' := [(0, .pointer (some ⟨g, 0, none⟩)), (1, .string (str s)), (4, .int .i64 0), (5, .nilIface)]) (by kernel_rfl) ?_
 refine WQ.thenN ?_
 refine WE.seq ?_
 refine WE.region ?_
 refine WO.run 1 0 [(6, .pointer (some ⟨g, 0, none⟩))] (by kernel_rfl) (by kernel_rfl) ?_
 refine WO.call (SQ.E 1 (by kernel_rfl)) 7 (by kernel_rfl) (copyCheck_f g _ _ _ HB hpa) ?_
 rintro _ w1 ⟨rfl, HB3, F2⟩
 refine ⟨_, rfl, trivial, ?_⟩
 have HO := HO.keep F2 (djB hgF)
 have HA := Fr.step HA F2 (inSL (by simp) inS0)
 refine WO.done (by kernel_rfl) ?_
 refine WQ.keep [0, 1, 4, 5] (e' := [(0, .pointer (some ⟨g, 0, none⟩)), (1, .string (str s)), (4, .int .i64 0), (5, .nilIface)]) (by kernel_rfl) ?_
 refine WQ.thenN ?_
 refine WE.seq ?_
 refine WE.region ?_
 refine WO.run 4 0 [(11, .pointer (some ⟨g, 1, none⟩)), (10, .pointer (some ⟨g, 0, none⟩)), (9, .pointer (some ⟨g, 0, none⟩)), (8, .pointer (some ⟨g, 0, none⟩))] (by kernel_rfl) (by kernel_rfl) ?_
 refine WO.ld (SQ.S 4 (by kernel_rfl)) 12 (.slice A q.length cap) (by kernel_rfl) (same (HB3.at 1 (by kernel_rfl))) ?_
 refine WO.run 1 5 [(13, .string (str s))] (by kernel_rfl) (by kernel_rfl) ?_
 refine WO.appS (SQ.E 6 (by kernel_rfl)) 14 (s := (str s)) (q := q) byt et_b hz_b HO (by kernel_rfl) (by simp only [str_size, List.length_append] at *; omega) (fun _ _ => trivial) ?_
 intro v4 w5 G6 HO7 F8 hg9
 have hgF_ := fun y hy => (hg9 y hy).imp id (Nat.le_trans HA.size)
 have nin_g_G6 : g ∉ G6 := grow_nin hg9 hgF HB3.lt
 have inF_HA_G6 : ∀ y ∈ G6, y ∈ g :: F ∨ (World.heap w).size ≤ y := grow_in hg9 (fun y hy => .inl (List.mem_cons_of_mem _ hy)) HA.size
 have HB3 := Blk.keep HB3 F8 hgF
 have HA := Fr.step HA F8 (fun y hy => .inl (List.mem_cons_of_mem _ hy))
 obtain ⟨A10, cap11, rfl⟩ := HO7.sliceN (List.length_map _)
 refine WO.run 2 7 [(16, .pointer (some ⟨g, 1, none⟩)), (15, .pointer (some ⟨g, 0, none⟩))] (by kernel_rfl) (by kernel_rfl) ?_
 refine WO.st (SQ.E 9 (by kernel_rfl)) g 1 [.slice A10 ((q ++ s).length) cap11] #[.pointer (some ⟨g, 0, none⟩), .slice A10 ((q ++ s).length) cap11] (by kernel_rfl) HB3 (by kernel_rfl) (by kernel_rfl) (fun _ _ => trivial) ?_
 intro w12 HB14 F13 _
 have HO7 := HO7.keep F13 (djB nin_g_G6)
 have HA := Fr.step HA F13 (inSL (by simp) inS0)
 refine WO.done (by kernel_rfl) ?_
 refine WQ.keep [0, 1, 4, 5] (e' := [(0, .pointer (some ⟨g, 0, none⟩)), (1, .string (str s)), (4, .int .i64 0), (5, .nilIface)]) (by kernel_rfl) ?_
 refine WQ.thenN ?_
 refine WE.seq ?_
 refine WE.region ?_
 refine WO.run 4 0 [(5, .nilIface), (4, .int .i64 (s.length : Int)), (18, .int .i64 (s.length : Int)), (17, .string (str s))] (by kernel_rfl) (by kernel_rfl) ?_
 refine WO.done (by kernel_rfl) ?_
 refine WQ.keep [0, 1, 4, 5] (e' := [(0, .pointer (some ⟨g, 0, none⟩)), (1, .string (str s)), (4, .int .i64 (s.length : Int)), (5, .nilIface)]) (by kernel_rfl) ?_
 refine WQ.thenN ?_
 refine WE.ret ?_
 refine WQ.ret (v := .tuple #[.int .i64 (s.length : Int), .nilIface]) (by kernel_rfl) ?_
 exact ⟨A10, cap11, G6, rfl, HB14, HO7, HA, hgF_, nin_g_G6⟩
theorem string_f (g : Nat) (A : Option Addr) (cap : Nat) (q : List UInt8) (F : List Nat) (B0 : Nat) (pa : Value) (w : World) (HB : Blk w g #[pa, .slice A q.length cap] 79) (hpa : pa = .pointer none ∨ pa = .pointer (some ⟨g, 0, none⟩)) (HO : OwnX 5 1 w F (.slice A q.length cap) (q.map cB)) (hgF : g ∉ F) (hB : B0 ≤ w.heap.size) (hg : B0 ≤ g) (hF : ∀ y ∈ F, B0 ≤ y) :
  Calls Tryd.prog 47 #[.pointer (some ⟨g, 0, none⟩)] w fun e w' => e = .returned (.string (str q)) ∧ Below B0 w w' := by
 have hb : Lib.IsBuilder 79 5 B0 g (Lib.byteCells q) w := by
  have hlen : (Lib.byteCells q).length = q.length := by simp [Lib.byteCells]
  have hcs : (q.map cB).flatten = Lib.byteCells q := by
   rw [cB_flat]
   rfl
  have hat : Lib.BuilderAt 79 5 B0 g pa (Lib.byteCells q) w := by
   refine ⟨hg, _, HB, ?_, ?_⟩
   ·
    rw [hlen]
    rcases HO with ⟨_, hv, hq⟩ | ⟨b, cap', hFb, hv, hrow⟩
    ·
     have hq0 : q = [] := List.map_eq_nil_iff.1 hq
     rw [hv, hq0]
     exact ⟨rfl, .inl ⟨rfl, rfl⟩⟩
    ·
     obtain ⟨cur, h2, h3, h4⟩ := hrow.cur
     rw [List.length_map] at hv h4
     rw [hv]
     rw [hcs] at h4
     have hle := hrow.le
     rw [List.length_map] at hle
     exact ⟨by rw [hlen]; omega, .inr ⟨b, cap', cur, rfl, hF b (by rw [hFb]; simp), h2, hle, hrow.cap, h3, h4⟩⟩
   ·
    rcases HO with ⟨_, hv, hq⟩ | ⟨b, cap', hFb, hv, hrow⟩
    ·
     rw [hv]
     simp [Value.ownBlock]
    ·
     rw [hv]
     simp only [Value.ownBlock, ne_eq, Option.some.injEq]
     intro h
     exact hgF (by rw [hFb, h]; simp)
  rcases hpa with rfl | rfl
  ·
   exact .inl hat
  ·
   exact .inr hat
 exact Tryd.Builder_String_any B0 g q w hb hB
end Go.Proofs.YtdhonbahpcmmnaaDoor.Build
