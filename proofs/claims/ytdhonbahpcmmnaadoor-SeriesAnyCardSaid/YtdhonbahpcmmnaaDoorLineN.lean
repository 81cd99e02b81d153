/- Layer 4's walks: the reader's word and number. -/
import Derived.Test.YtdhonbahpcmmnaaDoorLineR
import Derived.Test.YtdhonbahpcmmnaaDoorShelf
set_option linter.unusedVariables false
set_option linter.unusedSimpArgs false
namespace Go.Proofs.YtdhonbahpcmmnaaDoor.Line
open Go Go.RowKit Go.Proofs.YtdhonbahpcmmnaaDoor Go.Proofs.YtdhonbahpcmmnaaDoor.Eng Go.Proofs.YtdhonbahpcmmnaaDoorW.PrintWords
open Go.Proofs
theorem runE_ge (pr : UInt8 → Bool) (s : L) (p : Nat) : p ≤ runE pr s p := Nat.le_add_right _ _
theorem takeWhile_le {pr : UInt8 → Bool} : ∀ l : L, (l.takeWhile pr).length ≤ l.length
 | [] => Nat.le_refl _
 | a :: l => by
  rw [List.takeWhile_cons]
  split
  ·
   have := takeWhile_le (pr := pr) l
   simp only [List.length_cons]
   omega
  ·
   simp
theorem runE_le (pr : UInt8 → Bool) {s : L} {p : Nat} (h : p ≤ s.length) : runE pr s p ≤ s.length := by
 have := takeWhile_le (pr := pr) (s.drop p)
 rw [List.length_drop] at this
 unfold runE
 omega
def VarI (w : World) (name : String) : Prop := ∃ tp p, w.var? Tryd.prog name = some #[.iface tp p]
theorem var_lt {w : World} {name : String} (g : Nat) (hg : Tryd.prog.globalNamed name = some g) (h : VarI w name) : g < w.heap.size := by
 obtain ⟨tp, p, h⟩ := h
 unfold World.var? at h
 rw [hg] at h
 simp only [Option.bind_some] at h
 rcases Nat.lt_or_ge g w.heap.size with h1 | h1
 ·
  exact h1
 ·
  rw [Array.getElem?_eq_none h1] at h
  cases h
theorem var_keep {w w1 : World} {S : List Nat} {name : String} (g : Nat) (hg : Tryd.prog.globalNamed name = some g) (h : VarI w name) (k : Fr S w w1) (hn : g ∉ S) : VarI w1 name := by
 have hlt := var_lt g hg h
 obtain ⟨tp, p, h⟩ := h
 refine ⟨tp, p, ?_⟩
 unfold World.var? at h ⊢
 rw [hg] at h ⊢
 simp only [Option.bind_some] at h ⊢
 rw [k.block g hlt hn]
 exact h
theorem fr_bytes {w w1 : World} {t : TypeId} (h : w1 = w ∨ ∃ s, w1 = Lib.bytesWorld w t s) : Fr [] w w1 := by
 rcases h with rfl | ⟨s, rfl⟩
 ·
  exact Fr.refl [] _
 ·
  refine ⟨?_, ?_, ?_, ?_, fun j hj _ => Lib.bytesWorld_at_old w t s j hj⟩
  ·
   simp [Lib.bytesWorld, World.freeze, World.alloc, World.drew, -World.alloc_eq, -World.drew_eq]
  ·
   simp [Lib.bytesWorld, World.freeze, World.alloc, World.drew, -World.alloc_eq, -World.drew_eq]
  ·
   simp [Lib.bytesWorld, World.freeze, World.alloc, World.drew, -World.alloc_eq, -World.drew_eq]
  ·
   rw [Lib.bytesWorld_size]; omega
def numR (s : L) (p q : Nat) (least most : Int) : Option Int :=
 match Lib.parseIntB 64 ((s.take (runE isD s q)).drop p) with
 | .ok v => if (1 < ((s.take (runE isD s q)).drop q).length ∧ gB ((s.take (runE isD s q)).drop q) 0 = 48) ∨ (v = 0 ∧ (s.take (runE isD s q)).drop q ≠ (s.take (runE isD s q)).drop p) ∨ v < least ∨ most < v then none else some v
 | _ => none
theorem num_not {a b c d : Prop} {v least most : Int} (h1 : ¬ v < least) (h2 : ¬ most < v) (h3 : a → b → False) (h4 : c → d → False) : ¬ ((a ∧ b) ∨ (c ∧ d) ∨ v < least ∨ most < v) := by
 rintro (⟨h, k⟩ | ⟨h, k⟩ | h | h)
 ·
  exact h3 h k
 ·
  exact h4 h k
 ·
  exact h1 h
 ·
  exact h2 h
set_option maxRecDepth 100000 in
set_option maxHeartbeats 400000 in
theorem word_yes (g : Nat) (s : L) (p : Nat) (w : World) (hp : p ≤ s.length) (hs : s.length ≤ 1000000) (hw : isWord ((s.take (runE inW s p)).drop p) = true) (HB : Blk w g #[.string (str s), .int .i64 (p : Int), .int .i64 (-1)] 60) :
  Calls Tryd.prog 33 #[.pointer (some ⟨g, 0, none⟩)] w fun e w' => e = .returned (.string (str ((s.take (runE inW s p)).drop p))) ∧ Blk w' g #[.string (str s), .int .i64 ((runE inW s p : Nat) : Int), .int .i64 (-1)] 60 ∧ Fr [g] w w' := by
 have he1 := runE_ge inW s p
 have he2 := runE_le inW hp
 have HA := Fr.refl [g] w
 refine enter (N := 18) Tryd.func33 (c := _) rfl (by kernel_rfl) (by kernel_rfl) (e := [(0, .pointer (some ⟨g, 0, none⟩))]) (by kernel_rfl) ?_
 refine WE.seq ?_
 refine WE.region ?_
 refine WO.run 1 0 [(2, .string (⟨#[]⟩))] (by kernel_rfl) (by kernel_rfl) ?_
 refine WO.done (by kernel_rfl) ?_
 refine WQ.keep [0, 2] (e' := [(0, .pointer (some ⟨g, 0, none⟩)), (2, .string (⟨#[]⟩))]) (by kernel_rfl) ?_
 refine WQ.thenN ?_
 refine WE.seq ?_
 refine WE.region ?_
 refine WO.run 3 0 [(7, .pointer (some ⟨g, 1, none⟩)), (6, .pointer (some ⟨g, 0, none⟩)), (5, .pointer (some ⟨g, 0, none⟩))] (by kernel_rfl) (by kernel_rfl) ?_
 refine WO.ld (SQ.S 3 (by kernel_rfl)) 8 (.int .i64 (p : Int)) (by kernel_rfl) (same (HB.at 1 (by kernel_rfl))) ?_
 refine WO.run 1 4 [(3, .int .i64 (p : Int))] (by kernel_rfl) (by kernel_rfl) ?_
 refine WO.done (by kernel_rfl) ?_
 refine WQ.keep [0, 2, 3] (e' := [(0, .pointer (some ⟨g, 0, none⟩)), (2, .string (⟨#[]⟩)), (3, .int .i64 (p : Int))]) (by kernel_rfl) ?_
 refine WQ.thenN ?_
 refine WE.seq ?_
 refine WE.region ?_
 refine WO.run 1 0 [(9, .pointer (some ⟨g, 0, none⟩))] (by kernel_rfl) (by kernel_rfl) ?_
 refine WO.call (SQ.E 1 (by kernel_rfl)) 10 (by kernel_rfl) (run_w g s p _ (by omega) hs HB) ?_
 rintro _ w1 ⟨rfl, HB3, F2⟩
 refine ⟨_, rfl, trivial, ?_⟩
 have HA := Fr.step HA F2 (inSL (by simp) inS0)
 refine WO.run 1 2 [(4, .string (str ((s.take (runE inW s p)).drop p)))] (by kernel_rfl) (by kernel_rfl) ?_
 refine WO.done (by kernel_rfl) ?_
 refine WQ.keep [0, 2, 3, 4] (e' := [(0, .pointer (some ⟨g, 0, none⟩)), (2, .string (⟨#[]⟩)), (3, .int .i64 (p : Int)), (4, .string (str ((s.take (runE inW s p)).drop p)))]) (by kernel_rfl) ?_
 refine WQ.thenN ?_
 refine WE.seq ?_
 refine WE.seq ?_
 refine WE.region ?_
 refine WO.run 1 0 [(11, .string (str ((s.take (runE inW s p)).drop p)))] (by kernel_rfl) (by kernel_rfl) ?_
 refine WO.call (SQ.E 1 (by kernel_rfl)) 12 (by kernel_rfl) (word_l ((s.take (runE inW s p)).drop p) _ (by rw [List.length_drop, List.length_take]; omega)) ?_
 rintro _ w4 ⟨rfl, F5⟩
 rw [hw]
 refine ⟨_, rfl, trivial, ?_⟩
 have HB3 := Blk.keep HB3 F5 (nin0 _)
 have HA := Fr.step0 HA F5
 refine WO.run 1 2 [(13, .bool false)] (by kernel_rfl) (by kernel_rfl) ?_
 refine WO.done (by kernel_rfl) ?_
 refine WQ.keep [0, 2, 3, 4, 13] (e' := [(0, .pointer (some ⟨g, 0, none⟩)), (2, .string (⟨#[]⟩)), (3, .int .i64 (p : Int)), (4, .string (str ((s.take (runE inW s p)).drop p))), (13, .bool false)]) (by kernel_rfl) ?_
 refine WQ.thenN ?_
 refine WE.condF (by kernel_rfl) ?_
 refine WE.skip ?_
 refine WQ.thenN ?_
 refine WE.seq ?_
 refine WE.region ?_
 refine WO.run 2 0 [(2, .string (str ((s.take (runE inW s p)).drop p))), (17, .string (str ((s.take (runE inW s p)).drop p)))] (by kernel_rfl) (by kernel_rfl) ?_
 refine WO.done (by kernel_rfl) ?_
 refine WQ.keep [0, 2, 3, 4, 13] (e' := [(0, .pointer (some ⟨g, 0, none⟩)), (2, .string (str ((s.take (runE inW s p)).drop p))), (3, .int .i64 (p : Int)), (4, .string (str ((s.take (runE inW s p)).drop p))), (13, .bool false)]) (by kernel_rfl) ?_
 refine WQ.thenN ?_
 refine WE.ret ?_
 refine WQ.ret (v := .string (str ((s.take (runE inW s p)).drop p))) (by kernel_rfl) ?_
 exact ⟨rfl, HB3, HA⟩
set_option maxRecDepth 100000 in
set_option maxHeartbeats 400000 in
theorem word_no (g : Nat) (s : L) (p : Nat) (w : World) (hp : p ≤ s.length) (hs : s.length ≤ 1000000) (hw : isWord ((s.take (runE inW s p)).drop p) = false) (HB : Blk w g #[.string (str s), .int .i64 (p : Int), .int .i64 (-1)] 60) :
  Calls Tryd.prog 33 #[.pointer (some ⟨g, 0, none⟩)] w fun e w' => e = .returned (.string (str ((s.take (runE inW s p)).drop p))) ∧ Blk w' g #[.string (str s), .int .i64 ((runE inW s p : Nat) : Int), .int .i64 (p : Int)] 60 ∧ Fr [g] w w' := by
 have he1 := runE_ge inW s p
 have he2 := runE_le inW hp
 have HA := Fr.refl [g] w
 refine enter (N := 18) Tryd.func33 (c := _) rfl (by kernel_rfl) (by kernel_rfl) (e := [(0, .pointer (some ⟨g, 0, none⟩))]) (by kernel_rfl) ?_
 refine WE.seq ?_
 refine WE.region ?_
 refine WO.run 1 0 [(2, .string (⟨#[]⟩))] (by kernel_rfl) (by kernel_rfl) ?_
 refine WO.done (by kernel_rfl) ?_
 refine WQ.keep [0, 2] (e' := [(0, .pointer (some ⟨g, 0, none⟩)), (2, .string (⟨#[]⟩))]) (by kernel_rfl) ?_
 refine WQ.thenN ?_
 refine WE.seq ?_
 refine WE.region ?_
 refine WO.run 3 0 [(7, .pointer (some ⟨g, 1, none⟩)), (6, .pointer (some ⟨g, 0, none⟩)), (5, .pointer (some ⟨g, 0, none⟩))] (by kernel_rfl) (by kernel_rfl) ?_
 refine WO.ld (SQ.S 3 (by kernel_rfl)) 8 (.int .i64 (p : Int)) (by kernel_rfl) (same (HB.at 1 (by kernel_rfl))) ?_
 refine WO.run 1 4 [(3, .int .i64 (p : Int))] (by kernel_rfl) (by kernel_rfl) ?_
 refine WO.done (by kernel_rfl) ?_
 refine WQ.keep [0, 2, 3] (e' := [(0, .pointer (some ⟨g, 0, none⟩)), (2, .string (⟨#[]⟩)), (3, .int .i64 (p : Int))]) (by kernel_rfl) ?_
 refine WQ.thenN ?_
 refine WE.seq ?_
 refine WE.region ?_
 refine WO.run 1 0 [(9, .pointer (some ⟨g, 0, none⟩))] (by kernel_rfl) (by kernel_rfl) ?_
 refine WO.call (SQ.E 1 (by kernel_rfl)) 10 (by kernel_rfl) (run_w g s p _ (by omega) hs HB) ?_
 rintro _ w1 ⟨rfl, HB3, F2⟩
 refine ⟨_, rfl, trivial, ?_⟩
 have HA := Fr.step HA F2 (inSL (by simp) inS0)
 refine WO.run 1 2 [(4, .string (str ((s.take (runE inW s p)).drop p)))] (by kernel_rfl) (by kernel_rfl) ?_
 refine WO.done (by kernel_rfl) ?_
 refine WQ.keep [0, 2, 3, 4] (e' := [(0, .pointer (some ⟨g, 0, none⟩)), (2, .string (⟨#[]⟩)), (3, .int .i64 (p : Int)), (4, .string (str ((s.take (runE inW s p)).drop p)))]) (by kernel_rfl) ?_
 refine WQ.thenN ?_
 refine WE.seq ?_
 refine WE.seq ?_
 refine WE.region ?_
 refine WO.run 1 0 [(11, .string (str ((s.take (runE inW s p)).drop p)))] (by kernel_rfl) (by kernel_rfl) ?_
 refine WO.call (SQ.E 1 (by kernel_rfl)) 12 (by kernel_rfl) (word_l ((s.take (runE inW s p)).drop p) _ (by rw [List.length_drop, List.length_take]; omega)) ?_
 rintro _ w4 ⟨rfl, F5⟩
 rw [hw]
 refine ⟨_, rfl, trivial, ?_⟩
 have HB3 := Blk.keep HB3 F5 (nin0 _)
 have HA := Fr.step0 HA F5
 refine WO.run 1 2 [(13, .bool true)] (by kernel_rfl) (by kernel_rfl) ?_
 refine WO.done (by kernel_rfl) ?_
 refine WQ.keep [0, 2, 3, 4, 13] (e' := [(0, .pointer (some ⟨g, 0, none⟩)), (2, .string (⟨#[]⟩)), (3, .int .i64 (p : Int)), (4, .string (str ((s.take (runE inW s p)).drop p))), (13, .bool true)]) (by kernel_rfl) ?_
 refine WQ.thenN ?_
 refine WE.condT (by kernel_rfl) ?_
 refine WE.region ?_
 refine WO.run 2 0 [(15, .int .i64 (p : Int)), (14, .pointer (some ⟨g, 0, none⟩))] (by kernel_rfl) (by kernel_rfl) ?_
 refine WO.call (SQ.E 2 (by kernel_rfl)) 16 (by kernel_rfl) (fail_ok g s (runE inW s p) _ (by omega) hs ((p : Int) : Int) HB3) ?_
 rintro _ w6 ⟨rfl, HB8, F7⟩
 refine ⟨_, rfl, trivial, ?_⟩
 have HA := Fr.step HA F7 (inSL (by simp) inS0)
 refine WO.done (by kernel_rfl) ?_
 refine WQ.keep [0, 2, 3, 4, 13] (e' := [(0, .pointer (some ⟨g, 0, none⟩)), (2, .string (⟨#[]⟩)), (3, .int .i64 (p : Int)), (4, .string (str ((s.take (runE inW s p)).drop p))), (13, .bool true)]) (by kernel_rfl) ?_
 refine WQ.thenN ?_
 refine WE.seq ?_
 refine WE.region ?_
 refine WO.run 2 0 [(2, .string (str ((s.take (runE inW s p)).drop p))), (17, .string (str ((s.take (runE inW s p)).drop p)))] (by kernel_rfl) (by kernel_rfl) ?_
 refine WO.done (by kernel_rfl) ?_
 refine WQ.keep [0, 2, 3, 4, 13] (e' := [(0, .pointer (some ⟨g, 0, none⟩)), (2, .string (str ((s.take (runE inW s p)).drop p))), (3, .int .i64 (p : Int)), (4, .string (str ((s.take (runE inW s p)).drop p))), (13, .bool true)]) (by kernel_rfl) ?_
 refine WQ.thenN ?_
 refine WE.ret ?_
 refine WQ.ret (v := .string (str ((s.take (runE inW s p)).drop p))) (by kernel_rfl) ?_
 exact ⟨rfl, HB8, HA⟩
set_option maxRecDepth 100000 in
set_option maxHeartbeats 400000 in
theorem word_bad2 (g : Nat) (s : L) (p : Nat) (bz : Int) (w : World) (hp : p ≤ s.length) (hs : s.length ≤ 1000000) (hbz : 0 ≤ bz) (HB : Blk w g #[.string (str s), .int .i64 (p : Int), .int .i64 bz] 60) :
  Calls Tryd.prog 33 #[.pointer (some ⟨g, 0, none⟩)] w fun e w' => e = .returned (.string (str ((s.take p).drop p))) ∧ Blk w' g #[.string (str s), .int .i64 (p : Int), .int .i64 bz] 60 ∧ Fr [g] w w' := by
 have hw : isWord ((s.take p).drop p) = false := by rw [List.drop_of_length_le (by rw [List.length_take]; omega)]; rfl
 have HA := Fr.refl [g] w
 refine enter (N := 18) Tryd.func33 (c := _) rfl (by kernel_rfl) (by kernel_rfl) (e := [(0, .pointer (some ⟨g, 0, none⟩))]) (by kernel_rfl) ?_
 refine WE.seq ?_
 refine WE.region ?_
 refine WO.run 1 0 [(2, .string (⟨#[]⟩))] (by kernel_rfl) (by kernel_rfl) ?_
 refine WO.done (by kernel_rfl) ?_
 refine WQ.keep [0, 2] (e' := [(0, .pointer (some ⟨g, 0, none⟩)), (2, .string (⟨#[]⟩))]) (by kernel_rfl) ?_
 refine WQ.thenN ?_
 refine WE.seq ?_
 refine WE.region ?_
 refine WO.run 3 0 [(7, .pointer (some ⟨g, 1, none⟩)), (6, .pointer (some ⟨g, 0, none⟩)), (5, .pointer (some ⟨g, 0, none⟩))] (by kernel_rfl) (by kernel_rfl) ?_
 refine WO.ld (SQ.S 3 (by kernel_rfl)) 8 (.int .i64 (p : Int)) (by kernel_rfl) (same (HB.at 1 (by kernel_rfl))) ?_
 refine WO.run 1 4 [(3, .int .i64 (p : Int))] (by kernel_rfl) (by kernel_rfl) ?_
 refine WO.done (by kernel_rfl) ?_
 refine WQ.keep [0, 2, 3] (e' := [(0, .pointer (some ⟨g, 0, none⟩)), (2, .string (⟨#[]⟩)), (3, .int .i64 (p : Int))]) (by kernel_rfl) ?_
 refine WQ.thenN ?_
 refine WE.seq ?_
 refine WE.region ?_
 refine WO.run 1 0 [(9, .pointer (some ⟨g, 0, none⟩))] (by kernel_rfl) (by kernel_rfl) ?_
 refine WO.call (SQ.E 1 (by kernel_rfl)) 10 (by kernel_rfl) (runbad_w g s p bz _ (by omega) hs hbz HB) ?_
 rintro _ w1 ⟨rfl, HB3, F2⟩
 refine ⟨_, rfl, trivial, ?_⟩
 have HA := Fr.step HA F2 (inSL (by simp) inS0)
 refine WO.run 1 2 [(4, .string (str ((s.take p).drop p)))] (by kernel_rfl) (by kernel_rfl) ?_
 refine WO.done (by kernel_rfl) ?_
 refine WQ.keep [0, 2, 3, 4] (e' := [(0, .pointer (some ⟨g, 0, none⟩)), (2, .string (⟨#[]⟩)), (3, .int .i64 (p : Int)), (4, .string (str ((s.take p).drop p)))]) (by kernel_rfl) ?_
 refine WQ.thenN ?_
 refine WE.seq ?_
 refine WE.seq ?_
 refine WE.region ?_
 refine WO.run 1 0 [(11, .string (str ((s.take p).drop p)))] (by kernel_rfl) (by kernel_rfl) ?_
 refine WO.call (SQ.E 1 (by kernel_rfl)) 12 (by kernel_rfl) (word_l ((s.take p).drop p) _ (by rw [List.length_drop, List.length_take]; omega)) ?_
 rintro _ w4 ⟨rfl, F5⟩
 rw [hw]
 refine ⟨_, rfl, trivial, ?_⟩
 have HB3 := Blk.keep HB3 F5 (nin0 _)
 have HA := Fr.step0 HA F5
 refine WO.run 1 2 [(13, .bool true)] (by kernel_rfl) (by kernel_rfl) ?_
 refine WO.done (by kernel_rfl) ?_
 refine WQ.keep [0, 2, 3, 4, 13] (e' := [(0, .pointer (some ⟨g, 0, none⟩)), (2, .string (⟨#[]⟩)), (3, .int .i64 (p : Int)), (4, .string (str ((s.take p).drop p))), (13, .bool true)]) (by kernel_rfl) ?_
 refine WQ.thenN ?_
 refine WE.condT (by kernel_rfl) ?_
 refine WE.region ?_
 refine WO.run 2 0 [(15, .int .i64 (p : Int)), (14, .pointer (some ⟨g, 0, none⟩))] (by kernel_rfl) (by kernel_rfl) ?_
 refine WO.call (SQ.E 2 (by kernel_rfl)) 16 (by kernel_rfl) (fail_bad g s p bz _ (by omega) hs hbz ((p : Int) : Int) HB3) ?_
 rintro _ w6 ⟨rfl, HB8, F7⟩
 refine ⟨_, rfl, trivial, ?_⟩
 have HA := Fr.step HA F7 (inSL (by simp) inS0)
 refine WO.done (by kernel_rfl) ?_
 refine WQ.keep [0, 2, 3, 4, 13] (e' := [(0, .pointer (some ⟨g, 0, none⟩)), (2, .string (⟨#[]⟩)), (3, .int .i64 (p : Int)), (4, .string (str ((s.take p).drop p))), (13, .bool true)]) (by kernel_rfl) ?_
 refine WQ.thenN ?_
 refine WE.seq ?_
 refine WE.region ?_
 refine WO.run 2 0 [(2, .string (str ((s.take p).drop p))), (17, .string (str ((s.take p).drop p)))] (by kernel_rfl) (by kernel_rfl) ?_
 refine WO.done (by kernel_rfl) ?_
 refine WQ.keep [0, 2, 3, 4, 13] (e' := [(0, .pointer (some ⟨g, 0, none⟩)), (2, .string (str ((s.take p).drop p))), (3, .int .i64 (p : Int)), (4, .string (str ((s.take p).drop p))), (13, .bool true)]) (by kernel_rfl) ?_
 refine WQ.thenN ?_
 refine WE.ret ?_
 refine WQ.ret (v := .string (str ((s.take p).drop p))) (by kernel_rfl) ?_
 exact ⟨rfl, HB8, HA⟩
set_option maxRecDepth 100000 in
set_option maxHeartbeats 400000 in
theorem number_m_ok (g : Nat) (s : L) (p : Nat) (w : World) (hp : p ≤ s.length) (hs : s.length ≤ 1000000) (least most : Int) (v : Int) (hlt : p < s.length) (hc : gB s p = 45) (hpi : Lib.parseIntB 64 ((s.take (runE isD s (p + 1))).drop p) = .ok v) (HS : VarI w "strconv.ErrSyntax") (HR : VarI w "strconv.ErrRange") (hgS : 3 ≠ g) (hgR : 4 ≠ g) (HB : Blk w g #[.string (str s), .int .i64 (p : Int), .int .i64 (-1)] 60) :
  Calls Tryd.prog 39 #[.pointer (some ⟨g, 0, none⟩), .int .i64 least, .int .i64 most] w fun e w' => e = .returned (.int .i64 ((numR s p (p + 1) least most).getD 0)) ∧ Blk w' g #[.string (str s), .int .i64 ((runE isD s (p + 1) : Nat) : Int), .int .i64 (if (numR s p (p + 1) least most).isSome then -1 else (p : Int))] 60 ∧ Fr [g] w w' := by
 have he1 := runE_ge isD s (p + 1)
 have he2 := runE_le isD (show p + 1 ≤ s.length by omega)
 have hdl_ : ((s.take (runE isD s (p + 1))).drop (p + 1)).length = runE isD s (p + 1) - (p + 1) := by rw [List.length_drop, List.length_take]; omega
 have HA := Fr.refl [g] w
 refine enter (N := 77) Tryd.func39 (c := _) rfl (by kernel_rfl) (by kernel_rfl) (e := [(0, .pointer (some ⟨g, 0, none⟩)), (1, .int .i64 least), (2, .int .i64 most)]) (by kernel_rfl) ?_
 refine WE.seq ?_
 refine WE.region ?_
 refine WO.run 1 0 [(6, .int .i64 0)] (by kernel_rfl) (by kernel_rfl) ?_
 refine WO.done (by kernel_rfl) ?_
 refine WQ.keep [0, 1, 2, 6] (e' := [(0, .pointer (some ⟨g, 0, none⟩)), (1, .int .i64 least), (2, .int .i64 most), (6, .int .i64 0)]) (by kernel_rfl) ?_
 refine WQ.thenN ?_
 refine WE.seq ?_
 refine WE.region ?_
 refine WO.run 3 0 [(13, .pointer (some ⟨g, 1, none⟩)), (12, .pointer (some ⟨g, 0, none⟩)), (11, .pointer (some ⟨g, 0, none⟩))] (by kernel_rfl) (by kernel_rfl) ?_
 refine WO.ld (SQ.S 3 (by kernel_rfl)) 14 (.int .i64 (p : Int)) (by kernel_rfl) (same (HB.at 1 (by kernel_rfl))) ?_
 refine WO.run 1 4 [(7, .int .i64 (p : Int))] (by kernel_rfl) (by kernel_rfl) ?_
 refine WO.done (by kernel_rfl) ?_
 refine WQ.keep [0, 1, 2, 6, 7] (e' := [(0, .pointer (some ⟨g, 0, none⟩)), (1, .int .i64 least), (2, .int .i64 most), (6, .int .i64 0), (7, .int .i64 (p : Int))]) (by kernel_rfl) ?_
 refine WQ.thenN ?_
 refine WE.seq ?_
 refine WE.region ?_
 refine WO.run 1 0 [(15, .pointer (some ⟨g, 0, none⟩))] (by kernel_rfl) (by kernel_rfl) ?_
 refine WO.call (SQ.E 1 (by kernel_rfl)) 16 (by kernel_rfl) (next_yes g s p _ hp hs 45 hlt hc HB) ?_
 rintro _ w1 ⟨rfl, HB3, F2⟩
 refine ⟨_, rfl, trivial, ?_⟩
 have HS := var_keep 3 (by kernel_rfl) HS F2 (ninC hgS (nin0 _))
 have HR := var_keep 4 (by kernel_rfl) HR F2 (ninC hgR (nin0 _))
 have HA := Fr.step HA F2 (inSL (by simp) inS0)
 refine WO.done (by kernel_rfl) ?_
 refine WQ.keep [0, 1, 2, 6, 7] (e' := [(0, .pointer (some ⟨g, 0, none⟩)), (1, .int .i64 least), (2, .int .i64 most), (6, .int .i64 0), (7, .int .i64 (p : Int))]) (by kernel_rfl) ?_
 refine WQ.thenN ?_
 refine WE.seq ?_
 refine WE.region ?_
 refine WO.run 1 0 [(17, .pointer (some ⟨g, 0, none⟩))] (by kernel_rfl) (by kernel_rfl) ?_
 refine WO.call (SQ.E 1 (by kernel_rfl)) 18 (by kernel_rfl) (run_d g s (p + 1) _ (by omega) hs HB3) ?_
 rintro _ w4 ⟨rfl, HB6, F5⟩
 refine ⟨_, rfl, trivial, ?_⟩
 have HS := var_keep 3 (by kernel_rfl) HS F5 (ninC hgS (nin0 _))
 have HR := var_keep 4 (by kernel_rfl) HR F5 (ninC hgR (nin0 _))
 have HA := Fr.step HA F5 (inSL (by simp) inS0)
 refine WO.run 1 2 [(8, .string (str ((s.take (runE isD s (p + 1))).drop (p + 1))))] (by kernel_rfl) (by kernel_rfl) ?_
 refine WO.done (by kernel_rfl) ?_
 refine WQ.keep [0, 1, 2, 6, 7, 8] (e' := [(0, .pointer (some ⟨g, 0, none⟩)), (1, .int .i64 least), (2, .int .i64 most), (6, .int .i64 0), (7, .int .i64 (p : Int)), (8, .string (str ((s.take (runE isD s (p + 1))).drop (p + 1))))]) (by kernel_rfl) ?_
 refine WQ.thenN ?_
 refine WE.seq ?_
 refine WE.draw [.free, .free, .free, .still, .free, .free, .free, .free, .still, .free, .eff, .free, .free, .free, .free, .free] Same sameR (by kernel_rfl) 16 (Array.replicate 16 false) (by kernel_rfl) rfl ?_
 intro w7 F8 _
 have HB6 := Blk.keep HB6 F8 (nin0 _)
 have HS := var_keep 3 (by kernel_rfl) HS F8 (nin0 _)
 have HR := var_keep 4 (by kernel_rfl) HR F8 (nin0 _)
 have HA := Fr.step0 HA F8
 refine WO.one (SA.F sameR sameT _ 0 _ (by kernel_rfl)) 20 (.pointer (some ⟨g, 0, none⟩)) (by kernel_rfl) ?_
 refine WO.one (SA.F sameR sameT _ 1 _ (by kernel_rfl)) 21 (.pointer (some ⟨g, 0, none⟩)) (by kernel_rfl) ?_
 refine WO.one (SA.F sameR sameT _ 2 _ (by kernel_rfl)) 22 (.pointer (some ⟨g, 0, none⟩)) (by kernel_rfl) ?_
 refine WO.ld (SA.S sameR sameT _ 3 _ (by kernel_rfl)) 23 (.string (str s)) (by kernel_rfl) (same (HB6.at 0 (by kernel_rfl))) ?_
 refine WO.one (SA.F sameR sameT _ 4 _ (by kernel_rfl)) 24 (.int .i64 (p : Int)) (by kernel_rfl) ?_
 refine WO.one (SA.F sameR sameT _ 5 _ (by kernel_rfl)) 25 (.pointer (some ⟨g, 0, none⟩)) (by kernel_rfl) ?_
 refine WO.one (SA.F sameR sameT _ 6 _ (by kernel_rfl)) 26 (.pointer (some ⟨g, 0, none⟩)) (by kernel_rfl) ?_
 refine WO.one (SA.F sameR sameT _ 7 _ (by kernel_rfl)) 27 (.pointer (some ⟨g, 1, none⟩)) (by kernel_rfl) ?_
 refine WO.ld (SA.S sameR sameT _ 8 _ (by kernel_rfl)) 28 (.int .i64 ((runE isD s (p + 1) : Nat) : Int)) (by kernel_rfl) (same (HB6.at 1 (by kernel_rfl))) ?_
 refine WO.slS2 (lo := (p : Int)) (hi := ((runE isD s (p + 1) : Nat) : Int)) (SA.F sameR sameT _ 9 _ (by kernel_rfl)) 29 p (runE isD s (p + 1)) s (by kernel_rfl) (by rfl) (by rfl) (by omega) (by omega) ?_
 refine WO.call (SA.E _ 10 _ (by kernel_rfl) rfl) 30 (by kernel_rfl) (Tryd.strconv_ParseInt_10_at64_ok (str ((s.take (runE isD s (p + 1))).drop p)) (by rw [str_size, List.length_drop, List.length_take]; omega) v hpi _) ?_
 rintro _ w9 ⟨rfl, hbw⟩
 have F10 := fr_bytes hbw
 refine ⟨_, rfl, trivial, ?_⟩
 have HB6 := Blk.keep HB6 F10 (nin0 _)
 have HS := var_keep 3 (by kernel_rfl) HS F10 (nin0 _)
 have HR := var_keep 4 (by kernel_rfl) HR F10 (nin0 _)
 have HA := Fr.step0 HA F10
 refine WO.one (SA.F sameR sameT _ 11 _ (by kernel_rfl)) 19 (.tuple #[.int .i64 v, .nilIface]) (by kernel_rfl) ?_
 refine WO.one (SA.F sameR sameT _ 12 _ (by kernel_rfl)) 31 (.int .i64 v) (by kernel_rfl) ?_
 refine WO.one (SA.F sameR sameT _ 13 _ (by kernel_rfl)) 32 (.nilIface) (by kernel_rfl) ?_
 refine WO.one (SA.F sameR sameT _ 14 _ (by kernel_rfl)) 9 (.int .i64 v) (by kernel_rfl) ?_
 refine WO.one (SA.F sameR sameT _ 15 _ (by kernel_rfl)) 10 (.nilIface) (by kernel_rfl) ?_
 refine WO.doneA (by kernel_rfl) ?_
 refine WQ.keep [0, 1, 2, 6, 7, 8, 9, 10] (e' := [(0, .pointer (some ⟨g, 0, none⟩)), (1, .int .i64 least), (2, .int .i64 most), (6, .int .i64 0), (7, .int .i64 (p : Int)), (8, .string (str ((s.take (runE isD s (p + 1))).drop (p + 1)))), (9, .int .i64 v), (10, .nilIface)]) (by kernel_rfl) ?_
 refine WQ.thenN ?_
 refine WE.seq ?_
 refine WE.seq ?_
 refine WE.draw [.free, .free, .free, .free, .free, .free, .free, .free, .free, .free, .free, .free, .free, .free, .free, .free, .free, .free, .free, .free, .still, .free, .free, .free, .free, .still, .free, .free, .free, .free, .free, .free, .free, .free, .free, .free, .free, .free, .free, .free] Same sameR (by kernel_rfl) 40 (Array.replicate 40 false) (by kernel_rfl) rfl ?_
 intro w11 F12 _
 have HB6 := Blk.keep HB6 F12 (nin0 _)
 have HS := var_keep 3 (by kernel_rfl) HS F12 (nin0 _)
 have HR := var_keep 4 (by kernel_rfl) HR F12 (nin0 _)
 have HA := Fr.step0 HA F12
 refine WO.one (SA.F sameR sameT _ 0 _ (by kernel_rfl)) 33 (.nilIface) (by kernel_rfl) ?_
 refine WO.one (SA.F sameR sameT _ 1 _ (by kernel_rfl)) 34 (.bool false) (by kernel_rfl) ?_
 refine WO.one (SA.F sameR sameT _ 2 _ (by kernel_rfl)) 35 (.bool false) (by kernel_rfl) ?_
 refine WO.one (SA.F sameR sameT _ 3 _ (by kernel_rfl)) 36 (.string (str ((s.take (runE isD s (p + 1))).drop (p + 1)))) (by kernel_rfl) ?_
 refine WO.one (SA.F sameR sameT _ 4 _ (by kernel_rfl)) 37 (.int .i64 (((s.take (runE isD s (p + 1))).drop (p + 1)).length : Int)) (by kernel_rfl) ?_
 refine WO.one (SA.F sameR sameT _ 5 _ (by kernel_rfl)) 38 (.bool (decide (((((s.take (runE isD s (p + 1))).drop (p + 1)).length : Int) : Int) > (1 : Int)))) (by kernel_rfl) ?_
 refine WO.topP (((((s.take (runE isD s (p + 1))).drop (p + 1)).length : Int) : Int) > (1 : Int)) ?_ ?_
 ·
  intro h13
  refine WO.one (SA.F sameR sameT _ 6 _ (by kernel_rfl)) 39 (.bool true) (by kernel_rfl) ?_
  refine WO.one (SA.F sameR sameT _ 7 _ (by kernel_rfl)) 40 (.string (str ((s.take (runE isD s (p + 1))).drop (p + 1)))) (by kernel_rfl) ?_
  refine WO.ixS (i := 0) (SA.F sameR sameT _ 8 _ (by kernel_rfl)) 41 0 ((s.take (runE isD s (p + 1))).drop (p + 1)) (by kernel_rfl) (by rfl) (by omega) ?_
  refine WO.one (SA.F sameR sameT _ 9 _ (by kernel_rfl)) 42 (.bool (decide ((((gB ((s.take (runE isD s (p + 1))).drop (p + 1)) 0).toNat : Int) : Int) = (48 : Int)))) (by kernel_rfl) ?_
  refine WO.topP ((((gB ((s.take (runE isD s (p + 1))).drop (p + 1)) 0).toNat : Int) : Int) = (48 : Int)) ?_ ?_
  ·
   intro h14
   refine WO.one (SA.F sameR sameT _ 10 _ (by kernel_rfl)) 43 (.bool true) (by kernel_rfl) ?_
   refine WO.one (SA.F sameR sameT _ 11 _ (by kernel_rfl)) 44 (.bool true) (by kernel_rfl) ?_
   refine WO.one (SA.F sameR sameT _ 12 _ (by kernel_rfl)) 45 (.bool true) (by kernel_rfl) ?_
   refine WO.off (SA.O sameR sameT _ 13 _ (by kernel_rfl)) 46 (by kernel_rfl) ?_
   refine WO.off (SA.O sameR sameT _ 14 _ (by kernel_rfl)) 47 (by kernel_rfl) ?_
   refine WO.off (SA.O sameR sameT _ 15 _ (by kernel_rfl)) 48 (by kernel_rfl) ?_
   refine WO.off (SA.O sameR sameT _ 16 _ (by kernel_rfl)) 49 (by kernel_rfl) ?_
   refine WO.off (SA.O sameR sameT _ 17 _ (by kernel_rfl)) 50 (by kernel_rfl) ?_
   refine WO.off (SA.O sameR sameT _ 18 _ (by kernel_rfl)) 51 (by kernel_rfl) ?_
   refine WO.off (SA.O sameR sameT _ 19 _ (by kernel_rfl)) 52 (by kernel_rfl) ?_
   refine WO.off (SA.O sameR sameT _ 20 _ (by kernel_rfl)) 53 (by kernel_rfl) ?_
   refine WO.off (SA.O sameR sameT _ 21 _ (by kernel_rfl)) 54 (by kernel_rfl) ?_
   refine WO.off (SA.O sameR sameT _ 22 _ (by kernel_rfl)) 55 (by kernel_rfl) ?_
   refine WO.off (SA.O sameR sameT _ 23 _ (by kernel_rfl)) 56 (by kernel_rfl) ?_
   refine WO.off (SA.O sameR sameT _ 24 _ (by kernel_rfl)) 57 (by kernel_rfl) ?_
   refine WO.off (SA.O sameR sameT _ 25 _ (by kernel_rfl)) 58 (by kernel_rfl) ?_
   refine WO.off (SA.O sameR sameT _ 26 _ (by kernel_rfl)) 59 (by kernel_rfl) ?_
   refine WO.off (SA.O sameR sameT _ 27 _ (by kernel_rfl)) 60 (by kernel_rfl) ?_
   refine WO.off (SA.O sameR sameT _ 28 _ (by kernel_rfl)) 61 (by kernel_rfl) ?_
   refine WO.one (SA.F sameR sameT _ 29 _ (by kernel_rfl)) 62 (.bool true) (by kernel_rfl) ?_
   refine WO.one (SA.F sameR sameT _ 30 _ (by kernel_rfl)) 63 (.bool true) (by kernel_rfl) ?_
   refine WO.off (SA.O sameR sameT _ 31 _ (by kernel_rfl)) 64 (by kernel_rfl) ?_
   refine WO.off (SA.O sameR sameT _ 32 _ (by kernel_rfl)) 65 (by kernel_rfl) ?_
   refine WO.off (SA.O sameR sameT _ 33 _ (by kernel_rfl)) 66 (by kernel_rfl) ?_
   refine WO.one (SA.F sameR sameT _ 34 _ (by kernel_rfl)) 67 (.bool true) (by kernel_rfl) ?_
   refine WO.one (SA.F sameR sameT _ 35 _ (by kernel_rfl)) 68 (.bool true) (by kernel_rfl) ?_
   refine WO.off (SA.O sameR sameT _ 36 _ (by kernel_rfl)) 69 (by kernel_rfl) ?_
   refine WO.off (SA.O sameR sameT _ 37 _ (by kernel_rfl)) 70 (by kernel_rfl) ?_
   refine WO.off (SA.O sameR sameT _ 38 _ (by kernel_rfl)) 71 (by kernel_rfl) ?_
   refine WO.one (SA.F sameR sameT _ 39 _ (by kernel_rfl)) 72 (.bool true) (by kernel_rfl) ?_
   refine WO.doneA (by kernel_rfl) ?_
   refine WQ.keep [0, 1, 2, 6, 7, 8, 9, 10, 72] (e' := [(0, .pointer (some ⟨g, 0, none⟩)), (1, .int .i64 least), (2, .int .i64 most), (6, .int .i64 0), (7, .int .i64 (p : Int)), (8, .string (str ((s.take (runE isD s (p + 1))).drop (p + 1)))), (9, .int .i64 v), (10, .nilIface), (72, .bool true)]) (by kernel_rfl) ?_
   refine WQ.thenN ?_
   refine WE.condT (by kernel_rfl) ?_
   refine WE.seq ?_
   refine WE.region ?_
   refine WO.run 2 0 [(74, .int .i64 (p : Int)), (73, .pointer (some ⟨g, 0, none⟩))] (by kernel_rfl) (by kernel_rfl) ?_
   refine WO.call (SQ.E 2 (by kernel_rfl)) 75 (by kernel_rfl) (fail_ok g s (runE isD s (p + 1)) _ (by omega) hs ((p : Int) : Int) HB6) ?_
   rintro _ w15 ⟨rfl, HB17, F16⟩
   refine ⟨_, rfl, trivial, ?_⟩
   have HS := var_keep 3 (by kernel_rfl) HS F16 (ninC hgS (nin0 _))
   have HR := var_keep 4 (by kernel_rfl) HR F16 (ninC hgR (nin0 _))
   have HA := Fr.step HA F16 (inSL (by simp) inS0)
   refine WO.done (by kernel_rfl) ?_
   refine WQ.keep [0, 1, 2, 6, 7, 8, 9, 10, 72] (e' := [(0, .pointer (some ⟨g, 0, none⟩)), (1, .int .i64 least), (2, .int .i64 most), (6, .int .i64 0), (7, .int .i64 (p : Int)), (8, .string (str ((s.take (runE isD s (p + 1))).drop (p + 1)))), (9, .int .i64 v), (10, .nilIface), (72, .bool true)]) (by kernel_rfl) ?_
   refine WQ.thenN ?_
   refine WE.seq ?_
   refine WE.region ?_
   refine WO.run 1 0 [(6, .int .i64 0)] (by kernel_rfl) (by kernel_rfl) ?_
   refine WO.done (by kernel_rfl) ?_
   refine WQ.keep [0, 1, 2, 6, 7, 8, 9, 10, 72] (e' := [(0, .pointer (some ⟨g, 0, none⟩)), (1, .int .i64 least), (2, .int .i64 most), (6, .int .i64 0), (7, .int .i64 (p : Int)), (8, .string (str ((s.take (runE isD s (p + 1))).drop (p + 1)))), (9, .int .i64 v), (10, .nilIface), (72, .bool true)]) (by kernel_rfl) ?_
   refine WQ.thenN ?_
   refine WE.ret ?_
   refine WQ.thenR ?_
   refine WQ.ret (v := .int .i64 0) (by kernel_rfl) ?_
   have hn_ : numR s p (p + 1) least most = none := by unfold numR; rw [hpi]; simp only; first | exact if_pos (.inl ⟨by omega, u8_eq (by show _ = (48 : Int); omega)⟩) | exact if_pos (.inr (.inl ⟨by omega, fun h_ => absurd (congrArg str h_) (by assumption)⟩)) | exact if_pos (.inr (.inr (.inl (by omega)))) | exact if_pos (.inr (.inr (.inr (by omega)))) | exact if_neg (num_not (by omega) (by omega) (by first | (intro a_ b_; omega) | (intro a_ b_; have h_ := congrArg (fun x : UInt8 => (x.toNat : Int)) b_; exact absurd h_ (by assumption))) (by first | (intro a_ b_; exact b_ (str_inj.1 (by assumption))) | (intro a_ b_; omega)))
   rw [hn_]
   exact ⟨rfl, HB17, HA⟩
  intro h14
  refine WO.one (SA.F sameR sameT _ 10 _ (by kernel_rfl)) 43 (.bool false) (by kernel_rfl) ?_
  refine WO.one (SA.F sameR sameT _ 11 _ (by kernel_rfl)) 44 (.bool false) (by kernel_rfl) ?_
  refine WO.one (SA.F sameR sameT _ 12 _ (by kernel_rfl)) 45 (.bool false) (by kernel_rfl) ?_
  refine WO.one (SA.F sameR sameT _ 13 _ (by kernel_rfl)) 46 (.int .i64 v) (by kernel_rfl) ?_
  refine WO.one (SA.F sameR sameT _ 14 _ (by kernel_rfl)) 47 (.bool (decide ((v : Int) = 0))) (by kernel_rfl) ?_
  refine WO.topP ((v : Int) = 0) ?_ ?_
  ·
   intro h18
   refine WO.one (SA.F sameR sameT _ 15 _ (by kernel_rfl)) 48 (.bool true) (by kernel_rfl) ?_
   refine WO.one (SA.F sameR sameT _ 16 _ (by kernel_rfl)) 49 (.string (str ((s.take (runE isD s (p + 1))).drop (p + 1)))) (by kernel_rfl) ?_
   refine WO.one (SA.F sameR sameT _ 17 _ (by kernel_rfl)) 50 (.pointer (some ⟨g, 0, none⟩)) (by kernel_rfl) ?_
   refine WO.one (SA.F sameR sameT _ 18 _ (by kernel_rfl)) 51 (.pointer (some ⟨g, 0, none⟩)) (by kernel_rfl) ?_
   refine WO.one (SA.F sameR sameT _ 19 _ (by kernel_rfl)) 52 (.pointer (some ⟨g, 0, none⟩)) (by kernel_rfl) ?_
   refine WO.ld (SA.S sameR sameT _ 20 _ (by kernel_rfl)) 53 (.string (str s)) (by kernel_rfl) (same (HB6.at 0 (by kernel_rfl))) ?_
   refine WO.one (SA.F sameR sameT _ 21 _ (by kernel_rfl)) 54 (.int .i64 (p : Int)) (by kernel_rfl) ?_
   refine WO.one (SA.F sameR sameT _ 22 _ (by kernel_rfl)) 55 (.pointer (some ⟨g, 0, none⟩)) (by kernel_rfl) ?_
   refine WO.one (SA.F sameR sameT _ 23 _ (by kernel_rfl)) 56 (.pointer (some ⟨g, 0, none⟩)) (by kernel_rfl) ?_
   refine WO.one (SA.F sameR sameT _ 24 _ (by kernel_rfl)) 57 (.pointer (some ⟨g, 1, none⟩)) (by kernel_rfl) ?_
   refine WO.ld (SA.S sameR sameT _ 25 _ (by kernel_rfl)) 58 (.int .i64 ((runE isD s (p + 1) : Nat) : Int)) (by kernel_rfl) (same (HB6.at 1 (by kernel_rfl))) ?_
   refine WO.slS2 (lo := (p : Int)) (hi := ((runE isD s (p + 1) : Nat) : Int)) (SA.F sameR sameT _ 26 _ (by kernel_rfl)) 59 p (runE isD s (p + 1)) s (by kernel_rfl) (by rfl) (by rfl) (by omega) (by omega) ?_
   refine WO.one (SA.F sameR sameT _ 27 _ (by kernel_rfl)) 60 (.bool (!((str ((s.take (runE isD s (p + 1))).drop (p + 1))).toList == (str ((s.take (runE isD s (p + 1))).drop p)).toList))) (by kernel_rfl) ?_
   refine WO.top (v' := .bool (!decide ((str ((s.take (runE isD s (p + 1))).drop (p + 1))) = (str ((s.take (runE isD s (p + 1))).drop p))))) (congrArg Value.bool (congrArg not (streq (str ((s.take (runE isD s (p + 1))).drop (p + 1))) (str ((s.take (runE isD s (p + 1))).drop p))))) ?_
   refine WO.topN ((str ((s.take (runE isD s (p + 1))).drop (p + 1))) = (str ((s.take (runE isD s (p + 1))).drop p))) ?_ ?_
   ·
    intro h19
    refine WO.one (SA.F sameR sameT _ 28 _ (by kernel_rfl)) 61 (.bool false) (by kernel_rfl) ?_
    refine WO.one (SA.F sameR sameT _ 29 _ (by kernel_rfl)) 62 (.bool false) (by kernel_rfl) ?_
    refine WO.one (SA.F sameR sameT _ 30 _ (by kernel_rfl)) 63 (.bool false) (by kernel_rfl) ?_
    refine WO.one (SA.F sameR sameT _ 31 _ (by kernel_rfl)) 64 (.int .i64 v) (by kernel_rfl) ?_
    refine WO.one (SA.F sameR sameT _ 32 _ (by kernel_rfl)) 65 (.int .i64 least) (by kernel_rfl) ?_
    refine WO.one (SA.F sameR sameT _ 33 _ (by kernel_rfl)) 66 (.bool (decide ((v : Int) < least))) (by kernel_rfl) ?_
    refine WO.topP ((v : Int) < least) ?_ ?_
    ·
     intro h20
     refine WO.one (SA.F sameR sameT _ 34 _ (by kernel_rfl)) 67 (.bool true) (by kernel_rfl) ?_
     refine WO.one (SA.F sameR sameT _ 35 _ (by kernel_rfl)) 68 (.bool true) (by kernel_rfl) ?_
     refine WO.off (SA.O sameR sameT _ 36 _ (by kernel_rfl)) 69 (by kernel_rfl) ?_
     refine WO.off (SA.O sameR sameT _ 37 _ (by kernel_rfl)) 70 (by kernel_rfl) ?_
     refine WO.off (SA.O sameR sameT _ 38 _ (by kernel_rfl)) 71 (by kernel_rfl) ?_
     refine WO.one (SA.F sameR sameT _ 39 _ (by kernel_rfl)) 72 (.bool true) (by kernel_rfl) ?_
     refine WO.doneA (by kernel_rfl) ?_
     refine WQ.keep [0, 1, 2, 6, 7, 8, 9, 10, 72] (e' := [(0, .pointer (some ⟨g, 0, none⟩)), (1, .int .i64 least), (2, .int .i64 most), (6, .int .i64 0), (7, .int .i64 (p : Int)), (8, .string (str ((s.take (runE isD s (p + 1))).drop (p + 1)))), (9, .int .i64 v), (10, .nilIface), (72, .bool true)]) (by kernel_rfl) ?_
     refine WQ.thenN ?_
     refine WE.condT (by kernel_rfl) ?_
     refine WE.seq ?_
     refine WE.region ?_
     refine WO.run 2 0 [(74, .int .i64 (p : Int)), (73, .pointer (some ⟨g, 0, none⟩))] (by kernel_rfl) (by kernel_rfl) ?_
     refine WO.call (SQ.E 2 (by kernel_rfl)) 75 (by kernel_rfl) (fail_ok g s (runE isD s (p + 1)) _ (by omega) hs ((p : Int) : Int) HB6) ?_
     rintro _ w21 ⟨rfl, HB23, F22⟩
     refine ⟨_, rfl, trivial, ?_⟩
     have HS := var_keep 3 (by kernel_rfl) HS F22 (ninC hgS (nin0 _))
     have HR := var_keep 4 (by kernel_rfl) HR F22 (ninC hgR (nin0 _))
     have HA := Fr.step HA F22 (inSL (by simp) inS0)
     refine WO.done (by kernel_rfl) ?_
     refine WQ.keep [0, 1, 2, 6, 7, 8, 9, 10, 72] (e' := [(0, .pointer (some ⟨g, 0, none⟩)), (1, .int .i64 least), (2, .int .i64 most), (6, .int .i64 0), (7, .int .i64 (p : Int)), (8, .string (str ((s.take (runE isD s (p + 1))).drop (p + 1)))), (9, .int .i64 v), (10, .nilIface), (72, .bool true)]) (by kernel_rfl) ?_
     refine WQ.thenN ?_
     refine WE.seq ?_
     refine WE.region ?_
     refine WO.run 1 0 [(6, .int .i64 0)] (by kernel_rfl) (by kernel_rfl) ?_
     refine WO.done (by kernel_rfl) ?_
     refine WQ.keep [0, 1, 2, 6, 7, 8, 9, 10, 72] (e' := [(0, .pointer (some ⟨g, 0, none⟩)), (1, .int .i64 least), (2, .int .i64 most), (6, .int .i64 0), (7, .int .i64 (p : Int)), (8, .string (str ((s.take (runE isD s (p + 1))).drop (p + 1)))), (9, .int .i64 v), (10, .nilIface), (72, .bool true)]) (by kernel_rfl) ?_
     refine WQ.thenN ?_
     refine WE.ret ?_
     refine WQ.thenR ?_
     refine WQ.ret (v := .int .i64 0) (by kernel_rfl) ?_
     have hn_ : numR s p (p + 1) least most = none := by unfold numR; rw [hpi]; simp only; first | exact if_pos (.inl ⟨by omega, u8_eq (by show _ = (48 : Int); omega)⟩) | exact if_pos (.inr (.inl ⟨by omega, fun h_ => absurd (congrArg str h_) (by assumption)⟩)) | exact if_pos (.inr (.inr (.inl (by omega)))) | exact if_pos (.inr (.inr (.inr (by omega)))) | exact if_neg (num_not (by omega) (by omega) (by first | (intro a_ b_; omega) | (intro a_ b_; have h_ := congrArg (fun x : UInt8 => (x.toNat : Int)) b_; exact absurd h_ (by assumption))) (by first | (intro a_ b_; exact b_ (str_inj.1 (by assumption))) | (intro a_ b_; omega)))
     rw [hn_]
     exact ⟨rfl, HB23, HA⟩
    intro h20
    refine WO.one (SA.F sameR sameT _ 34 _ (by kernel_rfl)) 67 (.bool false) (by kernel_rfl) ?_
    refine WO.one (SA.F sameR sameT _ 35 _ (by kernel_rfl)) 68 (.bool false) (by kernel_rfl) ?_
    refine WO.one (SA.F sameR sameT _ 36 _ (by kernel_rfl)) 69 (.int .i64 v) (by kernel_rfl) ?_
    refine WO.one (SA.F sameR sameT _ 37 _ (by kernel_rfl)) 70 (.int .i64 most) (by kernel_rfl) ?_
    refine WO.one (SA.F sameR sameT _ 38 _ (by kernel_rfl)) 71 (.bool (decide ((v : Int) > most))) (by kernel_rfl) ?_
    refine WO.topP ((v : Int) > most) ?_ ?_
    ·
     intro h24
     refine WO.one (SA.F sameR sameT _ 39 _ (by kernel_rfl)) 72 (.bool true) (by kernel_rfl) ?_
     refine WO.doneA (by kernel_rfl) ?_
     refine WQ.keep [0, 1, 2, 6, 7, 8, 9, 10, 72] (e' := [(0, .pointer (some ⟨g, 0, none⟩)), (1, .int .i64 least), (2, .int .i64 most), (6, .int .i64 0), (7, .int .i64 (p : Int)), (8, .string (str ((s.take (runE isD s (p + 1))).drop (p + 1)))), (9, .int .i64 v), (10, .nilIface), (72, .bool true)]) (by kernel_rfl) ?_
     refine WQ.thenN ?_
     refine WE.condT (by kernel_rfl) ?_
     refine WE.seq ?_
     refine WE.region ?_
     refine WO.run 2 0 [(74, .int .i64 (p : Int)), (73, .pointer (some ⟨g, 0, none⟩))] (by kernel_rfl) (by kernel_rfl) ?_
     refine WO.call (SQ.E 2 (by kernel_rfl)) 75 (by kernel_rfl) (fail_ok g s (runE isD s (p + 1)) _ (by omega) hs ((p : Int) : Int) HB6) ?_
     rintro _ w25 ⟨rfl, HB27, F26⟩
     refine ⟨_, rfl, trivial, ?_⟩
     have HS := var_keep 3 (by kernel_rfl) HS F26 (ninC hgS (nin0 _))
     have HR := var_keep 4 (by kernel_rfl) HR F26 (ninC hgR (nin0 _))
     have HA := Fr.step HA F26 (inSL (by simp) inS0)
     refine WO.done (by kernel_rfl) ?_
     refine WQ.keep [0, 1, 2, 6, 7, 8, 9, 10, 72] (e' := [(0, .pointer (some ⟨g, 0, none⟩)), (1, .int .i64 least), (2, .int .i64 most), (6, .int .i64 0), (7, .int .i64 (p : Int)), (8, .string (str ((s.take (runE isD s (p + 1))).drop (p + 1)))), (9, .int .i64 v), (10, .nilIface), (72, .bool true)]) (by kernel_rfl) ?_
     refine WQ.thenN ?_
     refine WE.seq ?_
     refine WE.region ?_
     refine WO.run 1 0 [(6, .int .i64 0)] (by kernel_rfl) (by kernel_rfl) ?_
     refine WO.done (by kernel_rfl) ?_
     refine WQ.keep [0, 1, 2, 6, 7, 8, 9, 10, 72] (e' := [(0, .pointer (some ⟨g, 0, none⟩)), (1, .int .i64 least), (2, .int .i64 most), (6, .int .i64 0), (7, .int .i64 (p : Int)), (8, .string (str ((s.take (runE isD s (p + 1))).drop (p + 1)))), (9, .int .i64 v), (10, .nilIface), (72, .bool true)]) (by kernel_rfl) ?_
     refine WQ.thenN ?_
     refine WE.ret ?_
     refine WQ.thenR ?_
     refine WQ.ret (v := .int .i64 0) (by kernel_rfl) ?_
     have hn_ : numR s p (p + 1) least most = none := by unfold numR; rw [hpi]; simp only; first | exact if_pos (.inl ⟨by omega, u8_eq (by show _ = (48 : Int); omega)⟩) | exact if_pos (.inr (.inl ⟨by omega, fun h_ => absurd (congrArg str h_) (by assumption)⟩)) | exact if_pos (.inr (.inr (.inl (by omega)))) | exact if_pos (.inr (.inr (.inr (by omega)))) | exact if_neg (num_not (by omega) (by omega) (by first | (intro a_ b_; omega) | (intro a_ b_; have h_ := congrArg (fun x : UInt8 => (x.toNat : Int)) b_; exact absurd h_ (by assumption))) (by first | (intro a_ b_; exact b_ (str_inj.1 (by assumption))) | (intro a_ b_; omega)))
     rw [hn_]
     exact ⟨rfl, HB27, HA⟩
    intro h24
    refine WO.one (SA.F sameR sameT _ 39 _ (by kernel_rfl)) 72 (.bool false) (by kernel_rfl) ?_
    refine WO.doneA (by kernel_rfl) ?_
    refine WQ.keep [0, 1, 2, 6, 7, 8, 9, 10, 72] (e' := [(0, .pointer (some ⟨g, 0, none⟩)), (1, .int .i64 least), (2, .int .i64 most), (6, .int .i64 0), (7, .int .i64 (p : Int)), (8, .string (str ((s.take (runE isD s (p + 1))).drop (p + 1)))), (9, .int .i64 v), (10, .nilIface), (72, .bool false)]) (by kernel_rfl) ?_
    refine WQ.thenN ?_
    refine WE.condF (by kernel_rfl) ?_
    refine WE.skip ?_
    refine WQ.thenN ?_
    refine WE.seq ?_
    refine WE.region ?_
    refine WO.run 2 0 [(6, .int .i64 v), (76, .int .i64 v)] (by kernel_rfl) (by kernel_rfl) ?_
    refine WO.done (by kernel_rfl) ?_
    refine WQ.keep [0, 1, 2, 6, 7, 8, 9, 10, 72] (e' := [(0, .pointer (some ⟨g, 0, none⟩)), (1, .int .i64 least), (2, .int .i64 most), (6, .int .i64 v), (7, .int .i64 (p : Int)), (8, .string (str ((s.take (runE isD s (p + 1))).drop (p + 1)))), (9, .int .i64 v), (10, .nilIface), (72, .bool false)]) (by kernel_rfl) ?_
    refine WQ.thenN ?_
    refine WE.ret ?_
    refine WQ.ret (v := .int .i64 v) (by kernel_rfl) ?_
    have hn_ : numR s p (p + 1) least most = some v := by unfold numR; rw [hpi]; simp only; first | exact if_pos (.inl ⟨by omega, u8_eq (by show _ = (48 : Int); omega)⟩) | exact if_pos (.inr (.inl ⟨by omega, fun h_ => absurd (congrArg str h_) (by assumption)⟩)) | exact if_pos (.inr (.inr (.inl (by omega)))) | exact if_pos (.inr (.inr (.inr (by omega)))) | exact if_neg (num_not (by omega) (by omega) (by first | (intro a_ b_; omega) | (intro a_ b_; have h_ := congrArg (fun x : UInt8 => (x.toNat : Int)) b_; exact absurd h_ (by assumption))) (by first | (intro a_ b_; exact b_ (str_inj.1 (by assumption))) | (intro a_ b_; omega)))
    rw [hn_]
    exact ⟨rfl, HB6, HA⟩
   intro h19
   refine WO.one (SA.F sameR sameT _ 28 _ (by kernel_rfl)) 61 (.bool true) (by kernel_rfl) ?_
   refine WO.one (SA.F sameR sameT _ 29 _ (by kernel_rfl)) 62 (.bool true) (by kernel_rfl) ?_
   refine WO.one (SA.F sameR sameT _ 30 _ (by kernel_rfl)) 63 (.bool true) (by kernel_rfl) ?_
   refine WO.off (SA.O sameR sameT _ 31 _ (by kernel_rfl)) 64 (by kernel_rfl) ?_
   refine WO.off (SA.O sameR sameT _ 32 _ (by kernel_rfl)) 65 (by kernel_rfl) ?_
   refine WO.off (SA.O sameR sameT _ 33 _ (by kernel_rfl)) 66 (by kernel_rfl) ?_
   refine WO.one (SA.F sameR sameT _ 34 _ (by kernel_rfl)) 67 (.bool true) (by kernel_rfl) ?_
   refine WO.one (SA.F sameR sameT _ 35 _ (by kernel_rfl)) 68 (.bool true) (by kernel_rfl) ?_
   refine WO.off (SA.O sameR sameT _ 36 _ (by kernel_rfl)) 69 (by kernel_rfl) ?_
   refine WO.off (SA.O sameR sameT _ 37 _ (by kernel_rfl)) 70 (by kernel_rfl) ?_
   refine WO.off (SA.O sameR sameT _ 38 _ (by kernel_rfl)) 71 (by kernel_rfl) ?_
   refine WO.one (SA.F sameR sameT _ 39 _ (by kernel_rfl)) 72 (.bool true) (by kernel_rfl) ?_
   refine WO.doneA (by kernel_rfl) ?_
   refine WQ.keep [0, 1, 2, 6, 7, 8, 9, 10, 72] (e' := [(0, .pointer (some ⟨g, 0, none⟩)), (1, .int .i64 least), (2, .int .i64 most), (6, .int .i64 0), (7, .int .i64 (p : Int)), (8, .string (str ((s.take (runE isD s (p + 1))).drop (p + 1)))), (9, .int .i64 v), (10, .nilIface), (72, .bool true)]) (by kernel_rfl) ?_
   refine WQ.thenN ?_
   refine WE.condT (by kernel_rfl) ?_
   refine WE.seq ?_
   refine WE.region ?_
   refine WO.run 2 0 [(74, .int .i64 (p : Int)), (73, .pointer (some ⟨g, 0, none⟩))] (by kernel_rfl) (by kernel_rfl) ?_
   refine WO.call (SQ.E 2 (by kernel_rfl)) 75 (by kernel_rfl) (fail_ok g s (runE isD s (p + 1)) _ (by omega) hs ((p : Int) : Int) HB6) ?_
   rintro _ w28 ⟨rfl, HB30, F29⟩
   refine ⟨_, rfl, trivial, ?_⟩
   have HS := var_keep 3 (by kernel_rfl) HS F29 (ninC hgS (nin0 _))
   have HR := var_keep 4 (by kernel_rfl) HR F29 (ninC hgR (nin0 _))
   have HA := Fr.step HA F29 (inSL (by simp) inS0)
   refine WO.done (by kernel_rfl) ?_
   refine WQ.keep [0, 1, 2, 6, 7, 8, 9, 10, 72] (e' := [(0, .pointer (some ⟨g, 0, none⟩)), (1, .int .i64 least), (2, .int .i64 most), (6, .int .i64 0), (7, .int .i64 (p : Int)), (8, .string (str ((s.take (runE isD s (p + 1))).drop (p + 1)))), (9, .int .i64 v), (10, .nilIface), (72, .bool true)]) (by kernel_rfl) ?_
   refine WQ.thenN ?_
   refine WE.seq ?_
   refine WE.region ?_
   refine WO.run 1 0 [(6, .int .i64 0)] (by kernel_rfl) (by kernel_rfl) ?_
   refine WO.done (by kernel_rfl) ?_
   refine WQ.keep [0, 1, 2, 6, 7, 8, 9, 10, 72] (e' := [(0, .pointer (some ⟨g, 0, none⟩)), (1, .int .i64 least), (2, .int .i64 most), (6, .int .i64 0), (7, .int .i64 (p : Int)), (8, .string (str ((s.take (runE isD s (p + 1))).drop (p + 1)))), (9, .int .i64 v), (10, .nilIface), (72, .bool true)]) (by kernel_rfl) ?_
   refine WQ.thenN ?_
   refine WE.ret ?_
   refine WQ.thenR ?_
   refine WQ.ret (v := .int .i64 0) (by kernel_rfl) ?_
   have hn_ : numR s p (p + 1) least most = none := by unfold numR; rw [hpi]; simp only; first | exact if_pos (.inl ⟨by omega, u8_eq (by show _ = (48 : Int); omega)⟩) | exact if_pos (.inr (.inl ⟨by omega, fun h_ => absurd (congrArg str h_) (by assumption)⟩)) | exact if_pos (.inr (.inr (.inl (by omega)))) | exact if_pos (.inr (.inr (.inr (by omega)))) | exact if_neg (num_not (by omega) (by omega) (by first | (intro a_ b_; omega) | (intro a_ b_; have h_ := congrArg (fun x : UInt8 => (x.toNat : Int)) b_; exact absurd h_ (by assumption))) (by first | (intro a_ b_; exact b_ (str_inj.1 (by assumption))) | (intro a_ b_; omega)))
   rw [hn_]
   exact ⟨rfl, HB30, HA⟩
  intro h18
  refine WO.one (SA.F sameR sameT _ 15 _ (by kernel_rfl)) 48 (.bool false) (by kernel_rfl) ?_
  refine WO.off (SA.O sameR sameT _ 16 _ (by kernel_rfl)) 49 (by kernel_rfl) ?_
  refine WO.off (SA.O sameR sameT _ 17 _ (by kernel_rfl)) 50 (by kernel_rfl) ?_
  refine WO.off (SA.O sameR sameT _ 18 _ (by kernel_rfl)) 51 (by kernel_rfl) ?_
  refine WO.off (SA.O sameR sameT _ 19 _ (by kernel_rfl)) 52 (by kernel_rfl) ?_
  refine WO.off (SA.O sameR sameT _ 20 _ (by kernel_rfl)) 53 (by kernel_rfl) ?_
  refine WO.off (SA.O sameR sameT _ 21 _ (by kernel_rfl)) 54 (by kernel_rfl) ?_
  refine WO.off (SA.O sameR sameT _ 22 _ (by kernel_rfl)) 55 (by kernel_rfl) ?_
  refine WO.off (SA.O sameR sameT _ 23 _ (by kernel_rfl)) 56 (by kernel_rfl) ?_
  refine WO.off (SA.O sameR sameT _ 24 _ (by kernel_rfl)) 57 (by kernel_rfl) ?_
  refine WO.off (SA.O sameR sameT _ 25 _ (by kernel_rfl)) 58 (by kernel_rfl) ?_
  refine WO.off (SA.O sameR sameT _ 26 _ (by kernel_rfl)) 59 (by kernel_rfl) ?_
  refine WO.off (SA.O sameR sameT _ 27 _ (by kernel_rfl)) 60 (by kernel_rfl) ?_
  refine WO.one (SA.F sameR sameT _ 28 _ (by kernel_rfl)) 61 (.bool false) (by kernel_rfl) ?_
  refine WO.one (SA.F sameR sameT _ 29 _ (by kernel_rfl)) 62 (.bool false) (by kernel_rfl) ?_
  refine WO.one (SA.F sameR sameT _ 30 _ (by kernel_rfl)) 63 (.bool false) (by kernel_rfl) ?_
  refine WO.one (SA.F sameR sameT _ 31 _ (by kernel_rfl)) 64 (.int .i64 v) (by kernel_rfl) ?_
  refine WO.one (SA.F sameR sameT _ 32 _ (by kernel_rfl)) 65 (.int .i64 least) (by kernel_rfl) ?_
  refine WO.one (SA.F sameR sameT _ 33 _ (by kernel_rfl)) 66 (.bool (decide ((v : Int) < least))) (by kernel_rfl) ?_
  refine WO.topP ((v : Int) < least) ?_ ?_
  ·
   intro h31
   refine WO.one (SA.F sameR sameT _ 34 _ (by kernel_rfl)) 67 (.bool true) (by kernel_rfl) ?_
   refine WO.one (SA.F sameR sameT _ 35 _ (by kernel_rfl)) 68 (.bool true) (by kernel_rfl) ?_
   refine WO.off (SA.O sameR sameT _ 36 _ (by kernel_rfl)) 69 (by kernel_rfl) ?_
   refine WO.off (SA.O sameR sameT _ 37 _ (by kernel_rfl)) 70 (by kernel_rfl) ?_
   refine WO.off (SA.O sameR sameT _ 38 _ (by kernel_rfl)) 71 (by kernel_rfl) ?_
   refine WO.one (SA.F sameR sameT _ 39 _ (by kernel_rfl)) 72 (.bool true) (by kernel_rfl) ?_
   refine WO.doneA (by kernel_rfl) ?_
   refine WQ.keep [0, 1, 2, 6, 7, 8, 9, 10, 72] (e' := [(0, .pointer (some ⟨g, 0, none⟩)), (1, .int .i64 least), (2, .int .i64 most), (6, .int .i64 0), (7, .int .i64 (p : Int)), (8, .string (str ((s.take (runE isD s (p + 1))).drop (p + 1)))), (9, .int .i64 v), (10, .nilIface), (72, .bool true)]) (by kernel_rfl) ?_
   refine WQ.thenN ?_
   refine WE.condT (by kernel_rfl) ?_
   refine WE.seq ?_
   refine WE.region ?_
   refine WO.run 2 0 [(74, .int .i64 (p : Int)), (73, .pointer (some ⟨g, 0, none⟩))] (by kernel_rfl) (by kernel_rfl) ?_
   refine WO.call (SQ.E 2 (by kernel_rfl)) 75 (by kernel_rfl) (fail_ok g s (runE isD s (p + 1)) _ (by omega) hs ((p : Int) : Int) HB6) ?_
   rintro _ w32 ⟨rfl, HB34, F33⟩
   refine ⟨_, rfl, trivial, ?_⟩
   have HS := var_keep 3 (by kernel_rfl) HS F33 (ninC hgS (nin0 _))
   have HR := var_keep 4 (by kernel_rfl) HR F33 (ninC hgR (nin0 _))
   have HA := Fr.step HA F33 (inSL (by simp) inS0)
   refine WO.done (by kernel_rfl) ?_
   refine WQ.keep [0, 1, 2, 6, 7, 8, 9, 10, 72] (e' := [(0, .pointer (some ⟨g, 0, none⟩)), (1, .int .i64 least), (2, .int .i64 most), (6, .int .i64 0), (7, .int .i64 (p : Int)), (8, .string (str ((s.take (runE isD s (p + 1))).drop (p + 1)))), (9, .int .i64 v), (10, .nilIface), (72, .bool true)]) (by kernel_rfl) ?_
   refine WQ.thenN ?_
   refine WE.seq ?_
   refine WE.region ?_
   refine WO.run 1 0 [(6, .int .i64 0)] (by kernel_rfl) (by kernel_rfl) ?_
   refine WO.done (by kernel_rfl) ?_
   refine WQ.keep [0, 1, 2, 6, 7, 8, 9, 10, 72] (e' := [(0, .pointer (some ⟨g, 0, none⟩)), (1, .int .i64 least), (2, .int .i64 most), (6, .int .i64 0), (7, .int .i64 (p : Int)), (8, .string (str ((s.take (runE isD s (p + 1))).drop (p + 1)))), (9, .int .i64 v), (10, .nilIface), (72, .bool true)]) (by kernel_rfl) ?_
   refine WQ.thenN ?_
   refine WE.ret ?_
   refine WQ.thenR ?_
   refine WQ.ret (v := .int .i64 0) (by kernel_rfl) ?_
   have hn_ : numR s p (p + 1) least most = none := by unfold numR; rw [hpi]; simp only; first | exact if_pos (.inl ⟨by omega, u8_eq (by show _ = (48 : Int); omega)⟩) | exact if_pos (.inr (.inl ⟨by omega, fun h_ => absurd (congrArg str h_) (by assumption)⟩)) | exact if_pos (.inr (.inr (.inl (by omega)))) | exact if_pos (.inr (.inr (.inr (by omega)))) | exact if_neg (num_not (by omega) (by omega) (by first | (intro a_ b_; omega) | (intro a_ b_; have h_ := congrArg (fun x : UInt8 => (x.toNat : Int)) b_; exact absurd h_ (by assumption))) (by first | (intro a_ b_; exact b_ (str_inj.1 (by assumption))) | (intro a_ b_; omega)))
   rw [hn_]
   exact ⟨rfl, HB34, HA⟩
  intro h31
  refine WO.one (SA.F sameR sameT _ 34 _ (by kernel_rfl)) 67 (.bool false) (by kernel_rfl) ?_
  refine WO.one (SA.F sameR sameT _ 35 _ (by kernel_rfl)) 68 (.bool false) (by kernel_rfl) ?_
  refine WO.one (SA.F sameR sameT _ 36 _ (by kernel_rfl)) 69 (.int .i64 v) (by kernel_rfl) ?_
  refine WO.one (SA.F sameR sameT _ 37 _ (by kernel_rfl)) 70 (.int .i64 most) (by kernel_rfl) ?_
  refine WO.one (SA.F sameR sameT _ 38 _ (by kernel_rfl)) 71 (.bool (decide ((v : Int) > most))) (by kernel_rfl) ?_
  refine WO.topP ((v : Int) > most) ?_ ?_
  ·
   intro h35
   refine WO.one (SA.F sameR sameT _ 39 _ (by kernel_rfl)) 72 (.bool true) (by kernel_rfl) ?_
   refine WO.doneA (by kernel_rfl) ?_
   refine WQ.keep [0, 1, 2, 6, 7, 8, 9, 10, 72] (e' := [(0, .pointer (some ⟨g, 0, none⟩)), (1, .int .i64 least), (2, .int .i64 most), (6, .int .i64 0), (7, .int .i64 (p : Int)), (8, .string (str ((s.take (runE isD s (p + 1))).drop (p + 1)))), (9, .int .i64 v), (10, .nilIface), (72, .bool true)]) (by kernel_rfl) ?_
   refine WQ.thenN ?_
   refine WE.condT (by kernel_rfl) ?_
   refine WE.seq ?_
   refine WE.region ?_
   refine WO.run 2 0 [(74, .int .i64 (p : Int)), (73, .pointer (some ⟨g, 0, none⟩))] (by kernel_rfl) (by kernel_rfl) ?_
   refine WO.call (SQ.E 2 (by kernel_rfl)) 75 (by kernel_rfl) (fail_ok g s (runE isD s (p + 1)) _ (by omega) hs ((p : Int) : Int) HB6) ?_
   rintro _ w36 ⟨rfl, HB38, F37⟩
   refine ⟨_, rfl, trivial, ?_⟩
   have HS := var_keep 3 (by kernel_rfl) HS F37 (ninC hgS (nin0 _))
   have HR := var_keep 4 (by kernel_rfl) HR F37 (ninC hgR (nin0 _))
   have HA := Fr.step HA F37 (inSL (by simp) inS0)
   refine WO.done (by kernel_rfl) ?_
   refine WQ.keep [0, 1, 2, 6, 7, 8, 9, 10, 72] (e' := [(0, .pointer (some ⟨g, 0, none⟩)), (1, .int .i64 least), (2, .int .i64 most), (6, .int .i64 0), (7, .int .i64 (p : Int)), (8, .string (str ((s.take (runE isD s (p + 1))).drop (p + 1)))), (9, .int .i64 v), (10, .nilIface), (72, .bool true)]) (by kernel_rfl) ?_
   refine WQ.thenN ?_
   refine WE.seq ?_
   refine WE.region ?_
   refine WO.run 1 0 [(6, .int .i64 0)] (by kernel_rfl) (by kernel_rfl) ?_
   refine WO.done (by kernel_rfl) ?_
   refine WQ.keep [0, 1, 2, 6, 7, 8, 9, 10, 72] (e' := [(0, .pointer (some ⟨g, 0, none⟩)), (1, .int .i64 least), (2, .int .i64 most), (6, .int .i64 0), (7, .int .i64 (p : Int)), (8, .string (str ((s.take (runE isD s (p + 1))).drop (p + 1)))), (9, .int .i64 v), (10, .nilIface), (72, .bool true)]) (by kernel_rfl) ?_
   refine WQ.thenN ?_
   refine WE.ret ?_
   refine WQ.thenR ?_
   refine WQ.ret (v := .int .i64 0) (by kernel_rfl) ?_
   have hn_ : numR s p (p + 1) least most = none := by unfold numR; rw [hpi]; simp only; first | exact if_pos (.inl ⟨by omega, u8_eq (by show _ = (48 : Int); omega)⟩) | exact if_pos (.inr (.inl ⟨by omega, fun h_ => absurd (congrArg str h_) (by assumption)⟩)) | exact if_pos (.inr (.inr (.inl (by omega)))) | exact if_pos (.inr (.inr (.inr (by omega)))) | exact if_neg (num_not (by omega) (by omega) (by first | (intro a_ b_; omega) | (intro a_ b_; have h_ := congrArg (fun x : UInt8 => (x.toNat : Int)) b_; exact absurd h_ (by assumption))) (by first | (intro a_ b_; exact b_ (str_inj.1 (by assumption))) | (intro a_ b_; omega)))
   rw [hn_]
   exact ⟨rfl, HB38, HA⟩
  intro h35
  refine WO.one (SA.F sameR sameT _ 39 _ (by kernel_rfl)) 72 (.bool false) (by kernel_rfl) ?_
  refine WO.doneA (by kernel_rfl) ?_
  refine WQ.keep [0, 1, 2, 6, 7, 8, 9, 10, 72] (e' := [(0, .pointer (some ⟨g, 0, none⟩)), (1, .int .i64 least), (2, .int .i64 most), (6, .int .i64 0), (7, .int .i64 (p : Int)), (8, .string (str ((s.take (runE isD s (p + 1))).drop (p + 1)))), (9, .int .i64 v), (10, .nilIface), (72, .bool false)]) (by kernel_rfl) ?_
  refine WQ.thenN ?_
  refine WE.condF (by kernel_rfl) ?_
  refine WE.skip ?_
  refine WQ.thenN ?_
  refine WE.seq ?_
  refine WE.region ?_
  refine WO.run 2 0 [(6, .int .i64 v), (76, .int .i64 v)] (by kernel_rfl) (by kernel_rfl) ?_
  refine WO.done (by kernel_rfl) ?_
  refine WQ.keep [0, 1, 2, 6, 7, 8, 9, 10, 72] (e' := [(0, .pointer (some ⟨g, 0, none⟩)), (1, .int .i64 least), (2, .int .i64 most), (6, .int .i64 v), (7, .int .i64 (p : Int)), (8, .string (str ((s.take (runE isD s (p + 1))).drop (p + 1)))), (9, .int .i64 v), (10, .nilIface), (72, .bool false)]) (by kernel_rfl) ?_
  refine WQ.thenN ?_
  refine WE.ret ?_
  refine WQ.ret (v := .int .i64 v) (by kernel_rfl) ?_
  have hn_ : numR s p (p + 1) least most = some v := by unfold numR; rw [hpi]; simp only; first | exact if_pos (.inl ⟨by omega, u8_eq (by show _ = (48 : Int); omega)⟩) | exact if_pos (.inr (.inl ⟨by omega, fun h_ => absurd (congrArg str h_) (by assumption)⟩)) | exact if_pos (.inr (.inr (.inl (by omega)))) | exact if_pos (.inr (.inr (.inr (by omega)))) | exact if_neg (num_not (by omega) (by omega) (by first | (intro a_ b_; omega) | (intro a_ b_; have h_ := congrArg (fun x : UInt8 => (x.toNat : Int)) b_; exact absurd h_ (by assumption))) (by first | (intro a_ b_; exact b_ (str_inj.1 (by assumption))) | (intro a_ b_; omega)))
  rw [hn_]
  exact ⟨rfl, HB6, HA⟩
 intro h13
 refine WO.one (SA.F sameR sameT _ 6 _ (by kernel_rfl)) 39 (.bool false) (by kernel_rfl) ?_
 refine WO.off (SA.O sameR sameT _ 7 _ (by kernel_rfl)) 40 (by kernel_rfl) ?_
 refine WO.off (SA.O sameR sameT _ 8 _ (by kernel_rfl)) 41 (by kernel_rfl) ?_
 refine WO.off (SA.O sameR sameT _ 9 _ (by kernel_rfl)) 42 (by kernel_rfl) ?_
 refine WO.one (SA.F sameR sameT _ 10 _ (by kernel_rfl)) 43 (.bool false) (by kernel_rfl) ?_
 refine WO.one (SA.F sameR sameT _ 11 _ (by kernel_rfl)) 44 (.bool false) (by kernel_rfl) ?_
 refine WO.one (SA.F sameR sameT _ 12 _ (by kernel_rfl)) 45 (.bool false) (by kernel_rfl) ?_
 refine WO.one (SA.F sameR sameT _ 13 _ (by kernel_rfl)) 46 (.int .i64 v) (by kernel_rfl) ?_
 refine WO.one (SA.F sameR sameT _ 14 _ (by kernel_rfl)) 47 (.bool (decide ((v : Int) = 0))) (by kernel_rfl) ?_
 refine WO.topP ((v : Int) = 0) ?_ ?_
 ·
  intro h39
  refine WO.one (SA.F sameR sameT _ 15 _ (by kernel_rfl)) 48 (.bool true) (by kernel_rfl) ?_
  refine WO.one (SA.F sameR sameT _ 16 _ (by kernel_rfl)) 49 (.string (str ((s.take (runE isD s (p + 1))).drop (p + 1)))) (by kernel_rfl) ?_
  refine WO.one (SA.F sameR sameT _ 17 _ (by kernel_rfl)) 50 (.pointer (some ⟨g, 0, none⟩)) (by kernel_rfl) ?_
  refine WO.one (SA.F sameR sameT _ 18 _ (by kernel_rfl)) 51 (.pointer (some ⟨g, 0, none⟩)) (by kernel_rfl) ?_
  refine WO.one (SA.F sameR sameT _ 19 _ (by kernel_rfl)) 52 (.pointer (some ⟨g, 0, none⟩)) (by kernel_rfl) ?_
  refine WO.ld (SA.S sameR sameT _ 20 _ (by kernel_rfl)) 53 (.string (str s)) (by kernel_rfl) (same (HB6.at 0 (by kernel_rfl))) ?_
  refine WO.one (SA.F sameR sameT _ 21 _ (by kernel_rfl)) 54 (.int .i64 (p : Int)) (by kernel_rfl) ?_
  refine WO.one (SA.F sameR sameT _ 22 _ (by kernel_rfl)) 55 (.pointer (some ⟨g, 0, none⟩)) (by kernel_rfl) ?_
  refine WO.one (SA.F sameR sameT _ 23 _ (by kernel_rfl)) 56 (.pointer (some ⟨g, 0, none⟩)) (by kernel_rfl) ?_
  refine WO.one (SA.F sameR sameT _ 24 _ (by kernel_rfl)) 57 (.pointer (some ⟨g, 1, none⟩)) (by kernel_rfl) ?_
  refine WO.ld (SA.S sameR sameT _ 25 _ (by kernel_rfl)) 58 (.int .i64 ((runE isD s (p + 1) : Nat) : Int)) (by kernel_rfl) (same (HB6.at 1 (by kernel_rfl))) ?_
  refine WO.slS2 (lo := (p : Int)) (hi := ((runE isD s (p + 1) : Nat) : Int)) (SA.F sameR sameT _ 26 _ (by kernel_rfl)) 59 p (runE isD s (p + 1)) s (by kernel_rfl) (by rfl) (by rfl) (by omega) (by omega) ?_
  refine WO.one (SA.F sameR sameT _ 27 _ (by kernel_rfl)) 60 (.bool (!((str ((s.take (runE isD s (p + 1))).drop (p + 1))).toList == (str ((s.take (runE isD s (p + 1))).drop p)).toList))) (by kernel_rfl) ?_
  refine WO.top (v' := .bool (!decide ((str ((s.take (runE isD s (p + 1))).drop (p + 1))) = (str ((s.take (runE isD s (p + 1))).drop p))))) (congrArg Value.bool (congrArg not (streq (str ((s.take (runE isD s (p + 1))).drop (p + 1))) (str ((s.take (runE isD s (p + 1))).drop p))))) ?_
  refine WO.topN ((str ((s.take (runE isD s (p + 1))).drop (p + 1))) = (str ((s.take (runE isD s (p + 1))).drop p))) ?_ ?_
  ·
   intro h40
   refine WO.one (SA.F sameR sameT _ 28 _ (by kernel_rfl)) 61 (.bool false) (by kernel_rfl) ?_
   refine WO.one (SA.F sameR sameT _ 29 _ (by kernel_rfl)) 62 (.bool false) (by kernel_rfl) ?_
   refine WO.one (SA.F sameR sameT _ 30 _ (by kernel_rfl)) 63 (.bool false) (by kernel_rfl) ?_
   refine WO.one (SA.F sameR sameT _ 31 _ (by kernel_rfl)) 64 (.int .i64 v) (by kernel_rfl) ?_
   refine WO.one (SA.F sameR sameT _ 32 _ (by kernel_rfl)) 65 (.int .i64 least) (by kernel_rfl) ?_
   refine WO.one (SA.F sameR sameT _ 33 _ (by kernel_rfl)) 66 (.bool (decide ((v : Int) < least))) (by kernel_rfl) ?_
   refine WO.topP ((v : Int) < least) ?_ ?_
   ·
    intro h41
    refine WO.one (SA.F sameR sameT _ 34 _ (by kernel_rfl)) 67 (.bool true) (by kernel_rfl) ?_
    refine WO.one (SA.F sameR sameT _ 35 _ (by kernel_rfl)) 68 (.bool true) (by kernel_rfl) ?_
    refine WO.off (SA.O sameR sameT _ 36 _ (by kernel_rfl)) 69 (by kernel_rfl) ?_
    refine WO.off (SA.O sameR sameT _ 37 _ (by kernel_rfl)) 70 (by kernel_rfl) ?_
    refine WO.off (SA.O sameR sameT _ 38 _ (by kernel_rfl)) 71 (by kernel_rfl) ?_
    refine WO.one (SA.F sameR sameT _ 39 _ (by kernel_rfl)) 72 (.bool true) (by kernel_rfl) ?_
    refine WO.doneA (by kernel_rfl) ?_
    refine WQ.keep [0, 1, 2, 6, 7, 8, 9, 10, 72] (e' := [(0, .pointer (some ⟨g, 0, none⟩)), (1, .int .i64 least), (2, .int .i64 most), (6, .int .i64 0), (7, .int .i64 (p : Int)), (8, .string (str ((s.take (runE isD s (p + 1))).drop (p + 1)))), (9, .int .i64 v), (10, .nilIface), (72, .bool true)]) (by kernel_rfl) ?_
    refine WQ.thenN ?_
    refine WE.condT (by kernel_rfl) ?_
    refine WE.seq ?_
    refine WE.region ?_
    refine WO.run 2 0 [(74, .int .i64 (p : Int)), (73, .pointer (some ⟨g, 0, none⟩))] (by kernel_rfl) (by kernel_rfl) ?_
    refine WO.call (SQ.E 2 (by kernel_rfl)) 75 (by kernel_rfl) (fail_ok g s (runE isD s (p + 1)) _ (by omega) hs ((p : Int) : Int) HB6) ?_
    rintro _ w42 ⟨rfl, HB44, F43⟩
    refine ⟨_, rfl, trivial, ?_⟩
    have HS := var_keep 3 (by kernel_rfl) HS F43 (ninC hgS (nin0 _))
    have HR := var_keep 4 (by kernel_rfl) HR F43 (ninC hgR (nin0 _))
    have HA := Fr.step HA F43 (inSL (by simp) inS0)
    refine WO.done (by kernel_rfl) ?_
    refine WQ.keep [0, 1, 2, 6, 7, 8, 9, 10, 72] (e' := [(0, .pointer (some ⟨g, 0, none⟩)), (1, .int .i64 least), (2, .int .i64 most), (6, .int .i64 0), (7, .int .i64 (p : Int)), (8, .string (str ((s.take (runE isD s (p + 1))).drop (p + 1)))), (9, .int .i64 v), (10, .nilIface), (72, .bool true)]) (by kernel_rfl) ?_
    refine WQ.thenN ?_
    refine WE.seq ?_
    refine WE.region ?_
    refine WO.run 1 0 [(6, .int .i64 0)] (by kernel_rfl) (by kernel_rfl) ?_
    refine WO.done (by kernel_rfl) ?_
    refine WQ.keep [0, 1, 2, 6, 7, 8, 9, 10, 72] (e' := [(0, .pointer (some ⟨g, 0, none⟩)), (1, .int .i64 least), (2, .int .i64 most), (6, .int .i64 0), (7, .int .i64 (p : Int)), (8, .string (str ((s.take (runE isD s (p + 1))).drop (p + 1)))), (9, .int .i64 v), (10, .nilIface), (72, .bool true)]) (by kernel_rfl) ?_
    refine WQ.thenN ?_
    refine WE.ret ?_
    refine WQ.thenR ?_
    refine WQ.ret (v := .int .i64 0) (by kernel_rfl) ?_
    have hn_ : numR s p (p + 1) least most = none := by unfold numR; rw [hpi]; simp only; first | exact if_pos (.inl ⟨by omega, u8_eq (by show _ = (48 : Int); omega)⟩) | exact if_pos (.inr (.inl ⟨by omega, fun h_ => absurd (congrArg str h_) (by assumption)⟩)) | exact if_pos (.inr (.inr (.inl (by omega)))) | exact if_pos (.inr (.inr (.inr (by omega)))) | exact if_neg (num_not (by omega) (by omega) (by first | (intro a_ b_; omega) | (intro a_ b_; have h_ := congrArg (fun x : UInt8 => (x.toNat : Int)) b_; exact absurd h_ (by assumption))) (by first | (intro a_ b_; exact b_ (str_inj.1 (by assumption))) | (intro a_ b_; omega)))
    rw [hn_]
    exact ⟨rfl, HB44, HA⟩
   intro h41
   refine WO.one (SA.F sameR sameT _ 34 _ (by kernel_rfl)) 67 (.bool false) (by kernel_rfl) ?_
   refine WO.one (SA.F sameR sameT _ 35 _ (by kernel_rfl)) 68 (.bool false) (by kernel_rfl) ?_
   refine WO.one (SA.F sameR sameT _ 36 _ (by kernel_rfl)) 69 (.int .i64 v) (by kernel_rfl) ?_
   refine WO.one (SA.F sameR sameT _ 37 _ (by kernel_rfl)) 70 (.int .i64 most) (by kernel_rfl) ?_
   refine WO.one (SA.F sameR sameT _ 38 _ (by kernel_rfl)) 71 (.bool (decide ((v : Int) > most))) (by kernel_rfl) ?_
   refine WO.topP ((v : Int) > most) ?_ ?_
   ·
    intro h45
    refine WO.one (SA.F sameR sameT _ 39 _ (by kernel_rfl)) 72 (.bool true) (by kernel_rfl) ?_
    refine WO.doneA (by kernel_rfl) ?_
    refine WQ.keep [0, 1, 2, 6, 7, 8, 9, 10, 72] (e' := [(0, .pointer (some ⟨g, 0, none⟩)), (1, .int .i64 least), (2, .int .i64 most), (6, .int .i64 0), (7, .int .i64 (p : Int)), (8, .string (str ((s.take (runE isD s (p + 1))).drop (p + 1)))), (9, .int .i64 v), (10, .nilIface), (72, .bool true)]) (by kernel_rfl) ?_
    refine WQ.thenN ?_
    refine WE.condT (by kernel_rfl) ?_
    refine WE.seq ?_
    refine WE.region ?_
    refine WO.run 2 0 [(74, .int .i64 (p : Int)), (73, .pointer (some ⟨g, 0, none⟩))] (by kernel_rfl) (by kernel_rfl) ?_
    refine WO.call (SQ.E 2 (by kernel_rfl)) 75 (by kernel_rfl) (fail_ok g s (runE isD s (p + 1)) _ (by omega) hs ((p : Int) : Int) HB6) ?_
    rintro _ w46 ⟨rfl, HB48, F47⟩
    refine ⟨_, rfl, trivial, ?_⟩
    have HS := var_keep 3 (by kernel_rfl) HS F47 (ninC hgS (nin0 _))
    have HR := var_keep 4 (by kernel_rfl) HR F47 (ninC hgR (nin0 _))
    have HA := Fr.step HA F47 (inSL (by simp) inS0)
    refine WO.done (by kernel_rfl) ?_
    refine WQ.keep [0, 1, 2, 6, 7, 8, 9, 10, 72] (e' := [(0, .pointer (some ⟨g, 0, none⟩)), (1, .int .i64 least), (2, .int .i64 most), (6, .int .i64 0), (7, .int .i64 (p : Int)), (8, .string (str ((s.take (runE isD s (p + 1))).drop (p + 1)))), (9, .int .i64 v), (10, .nilIface), (72, .bool true)]) (by kernel_rfl) ?_
    refine WQ.thenN ?_
    refine WE.seq ?_
    refine WE.region ?_
    refine WO.run 1 0 [(6, .int .i64 0)] (by kernel_rfl) (by kernel_rfl) ?_
    refine WO.done (by kernel_rfl) ?_
    refine WQ.keep [0, 1, 2, 6, 7, 8, 9, 10, 72] (e' := [(0, .pointer (some ⟨g, 0, none⟩)), (1, .int .i64 least), (2, .int .i64 most), (6, .int .i64 0), (7, .int .i64 (p : Int)), (8, .string (str ((s.take (runE isD s (p + 1))).drop (p + 1)))), (9, .int .i64 v), (10, .nilIface), (72, .bool true)]) (by kernel_rfl) ?_
    refine WQ.thenN ?_
    refine WE.ret ?_
    refine WQ.thenR ?_
    refine WQ.ret (v := .int .i64 0) (by kernel_rfl) ?_
    have hn_ : numR s p (p + 1) least most = none := by unfold numR; rw [hpi]; simp only; first | exact if_pos (.inl ⟨by omega, u8_eq (by show _ = (48 : Int); omega)⟩) | exact if_pos (.inr (.inl ⟨by omega, fun h_ => absurd (congrArg str h_) (by assumption)⟩)) | exact if_pos (.inr (.inr (.inl (by omega)))) | exact if_pos (.inr (.inr (.inr (by omega)))) | exact if_neg (num_not (by omega) (by omega) (by first | (intro a_ b_; omega) | (intro a_ b_; have h_ := congrArg (fun x : UInt8 => (x.toNat : Int)) b_; exact absurd h_ (by assumption))) (by first | (intro a_ b_; exact b_ (str_inj.1 (by assumption))) | (intro a_ b_; omega)))
    rw [hn_]
    exact ⟨rfl, HB48, HA⟩
   intro h45
   refine WO.one (SA.F sameR sameT _ 39 _ (by kernel_rfl)) 72 (.bool false) (by kernel_rfl) ?_
   refine WO.doneA (by kernel_rfl) ?_
   refine WQ.keep [0, 1, 2, 6, 7, 8, 9, 10, 72] (e' := [(0, .pointer (some ⟨g, 0, none⟩)), (1, .int .i64 least), (2, .int .i64 most), (6, .int .i64 0), (7, .int .i64 (p : Int)), (8, .string (str ((s.take (runE isD s (p + 1))).drop (p + 1)))), (9, .int .i64 v), (10, .nilIface), (72, .bool false)]) (by kernel_rfl) ?_
   refine WQ.thenN ?_
   refine WE.condF (by kernel_rfl) ?_
   refine WE.skip ?_
   refine WQ.thenN ?_
   refine WE.seq ?_
   refine WE.region ?_
   refine WO.run 2 0 [(6, .int .i64 v), (76, .int .i64 v)] (by kernel_rfl) (by kernel_rfl) ?_
   refine WO.done (by kernel_rfl) ?_
   refine WQ.keep [0, 1, 2, 6, 7, 8, 9, 10, 72] (e' := [(0, .pointer (some ⟨g, 0, none⟩)), (1, .int .i64 least), (2, .int .i64 most), (6, .int .i64 v), (7, .int .i64 (p : Int)), (8, .string (str ((s.take (runE isD s (p + 1))).drop (p + 1)))), (9, .int .i64 v), (10, .nilIface), (72, .bool false)]) (by kernel_rfl) ?_
   refine WQ.thenN ?_
   refine WE.ret ?_
   refine WQ.ret (v := .int .i64 v) (by kernel_rfl) ?_
   have hn_ : numR s p (p + 1) least most = some v := by unfold numR; rw [hpi]; simp only; first | exact if_pos (.inl ⟨by omega, u8_eq (by show _ = (48 : Int); omega)⟩) | exact if_pos (.inr (.inl ⟨by omega, fun h_ => absurd (congrArg str h_) (by assumption)⟩)) | exact if_pos (.inr (.inr (.inl (by omega)))) | exact if_pos (.inr (.inr (.inr (by omega)))) | exact if_neg (num_not (by omega) (by omega) (by first | (intro a_ b_; omega) | (intro a_ b_; have h_ := congrArg (fun x : UInt8 => (x.toNat : Int)) b_; exact absurd h_ (by assumption))) (by first | (intro a_ b_; exact b_ (str_inj.1 (by assumption))) | (intro a_ b_; omega)))
   rw [hn_]
   exact ⟨rfl, HB6, HA⟩
  intro h40
  refine WO.one (SA.F sameR sameT _ 28 _ (by kernel_rfl)) 61 (.bool true) (by kernel_rfl) ?_
  refine WO.one (SA.F sameR sameT _ 29 _ (by kernel_rfl)) 62 (.bool true) (by kernel_rfl) ?_
  refine WO.one (SA.F sameR sameT _ 30 _ (by kernel_rfl)) 63 (.bool true) (by kernel_rfl) ?_
  refine WO.off (SA.O sameR sameT _ 31 _ (by kernel_rfl)) 64 (by kernel_rfl) ?_
  refine WO.off (SA.O sameR sameT _ 32 _ (by kernel_rfl)) 65 (by kernel_rfl) ?_
  refine WO.off (SA.O sameR sameT _ 33 _ (by kernel_rfl)) 66 (by kernel_rfl) ?_
  refine WO.one (SA.F sameR sameT _ 34 _ (by kernel_rfl)) 67 (.bool true) (by kernel_rfl) ?_
  refine WO.one (SA.F sameR sameT _ 35 _ (by kernel_rfl)) 68 (.bool true) (by kernel_rfl) ?_
  refine WO.off (SA.O sameR sameT _ 36 _ (by kernel_rfl)) 69 (by kernel_rfl) ?_
  refine WO.off (SA.O sameR sameT _ 37 _ (by kernel_rfl)) 70 (by kernel_rfl) ?_
  refine WO.off (SA.O sameR sameT _ 38 _ (by kernel_rfl)) 71 (by kernel_rfl) ?_
  refine WO.one (SA.F sameR sameT _ 39 _ (by kernel_rfl)) 72 (.bool true) (by kernel_rfl) ?_
  refine WO.doneA (by kernel_rfl) ?_
  refine WQ.keep [0, 1, 2, 6, 7, 8, 9, 10, 72] (e' := [(0, .pointer (some ⟨g, 0, none⟩)), (1, .int .i64 least), (2, .int .i64 most), (6, .int .i64 0), (7, .int .i64 (p : Int)), (8, .string (str ((s.take (runE isD s (p + 1))).drop (p + 1)))), (9, .int .i64 v), (10, .nilIface), (72, .bool true)]) (by kernel_rfl) ?_
  refine WQ.thenN ?_
  refine WE.condT (by kernel_rfl) ?_
  refine WE.seq ?_
  refine WE.region ?_
  refine WO.run 2 0 [(74, .int .i64 (p : Int)), (73, .pointer (some ⟨g, 0, none⟩))] (by kernel_rfl) (by kernel_rfl) ?_
  refine WO.call (SQ.E 2 (by kernel_rfl)) 75 (by kernel_rfl) (fail_ok g s (runE isD s (p + 1)) _ (by omega) hs ((p : Int) : Int) HB6) ?_
  rintro _ w49 ⟨rfl, HB51, F50⟩
  refine ⟨_, rfl, trivial, ?_⟩
  have HS := var_keep 3 (by kernel_rfl) HS F50 (ninC hgS (nin0 _))
  have HR := var_keep 4 (by kernel_rfl) HR F50 (ninC hgR (nin0 _))
  have HA := Fr.step HA F50 (inSL (by simp) inS0)
  refine WO.done (by kernel_rfl) ?_
  refine WQ.keep [0, 1, 2, 6, 7, 8, 9, 10, 72] (e' := [(0, .pointer (some ⟨g, 0, none⟩)), (1, .int .i64 least), (2, .int .i64 most), (6, .int .i64 0), (7, .int .i64 (p : Int)), (8, .string (str ((s.take (runE isD s (p + 1))).drop (p + 1)))), (9, .int .i64 v), (10, .nilIface), (72, .bool true)]) (by kernel_rfl) ?_
  refine WQ.thenN ?_
  refine WE.seq ?_
  refine WE.region ?_
  refine WO.run 1 0 [(6, .int .i64 0)] (by kernel_rfl) (by kernel_rfl) ?_
  refine WO.done (by kernel_rfl) ?_
  refine WQ.keep [0, 1, 2, 6, 7, 8, 9, 10, 72] (e' := [(0, .pointer (some ⟨g, 0, none⟩)), (1, .int .i64 least), (2, .int .i64 most), (6, .int .i64 0), (7, .int .i64 (p : Int)), (8, .string (str ((s.take (runE isD s (p + 1))).drop (p + 1)))), (9, .int .i64 v), (10, .nilIface), (72, .bool true)]) (by kernel_rfl) ?_
  refine WQ.thenN ?_
  refine WE.ret ?_
  refine WQ.thenR ?_
  refine WQ.ret (v := .int .i64 0) (by kernel_rfl) ?_
  have hn_ : numR s p (p + 1) least most = none := by unfold numR; rw [hpi]; simp only; first | exact if_pos (.inl ⟨by omega, u8_eq (by show _ = (48 : Int); omega)⟩) | exact if_pos (.inr (.inl ⟨by omega, fun h_ => absurd (congrArg str h_) (by assumption)⟩)) | exact if_pos (.inr (.inr (.inl (by omega)))) | exact if_pos (.inr (.inr (.inr (by omega)))) | exact if_neg (num_not (by omega) (by omega) (by first | (intro a_ b_; omega) | (intro a_ b_; have h_ := congrArg (fun x : UInt8 => (x.toNat : Int)) b_; exact absurd h_ (by assumption))) (by first | (intro a_ b_; exact b_ (str_inj.1 (by assumption))) | (intro a_ b_; omega)))
  rw [hn_]
  exact ⟨rfl, HB51, HA⟩
 intro h39
 refine WO.one (SA.F sameR sameT _ 15 _ (by kernel_rfl)) 48 (.bool false) (by kernel_rfl) ?_
 refine WO.off (SA.O sameR sameT _ 16 _ (by kernel_rfl)) 49 (by kernel_rfl) ?_
 refine WO.off (SA.O sameR sameT _ 17 _ (by kernel_rfl)) 50 (by kernel_rfl) ?_
 refine WO.off (SA.O sameR sameT _ 18 _ (by kernel_rfl)) 51 (by kernel_rfl) ?_
 refine WO.off (SA.O sameR sameT _ 19 _ (by kernel_rfl)) 52 (by kernel_rfl) ?_
 refine WO.off (SA.O sameR sameT _ 20 _ (by kernel_rfl)) 53 (by kernel_rfl) ?_
 refine WO.off (SA.O sameR sameT _ 21 _ (by kernel_rfl)) 54 (by kernel_rfl) ?_
 refine WO.off (SA.O sameR sameT _ 22 _ (by kernel_rfl)) 55 (by kernel_rfl) ?_
 refine WO.off (SA.O sameR sameT _ 23 _ (by kernel_rfl)) 56 (by kernel_rfl) ?_
 refine WO.off (SA.O sameR sameT _ 24 _ (by kernel_rfl)) 57 (by kernel_rfl) ?_
 refine WO.off (SA.O sameR sameT _ 25 _ (by kernel_rfl)) 58 (by kernel_rfl) ?_
 refine WO.off (SA.O sameR sameT _ 26 _ (by kernel_rfl)) 59 (by kernel_rfl) ?_
 refine WO.off (SA.O sameR sameT _ 27 _ (by kernel_rfl)) 60 (by kernel_rfl) ?_
 refine WO.one (SA.F sameR sameT _ 28 _ (by kernel_rfl)) 61 (.bool false) (by kernel_rfl) ?_
 refine WO.one (SA.F sameR sameT _ 29 _ (by kernel_rfl)) 62 (.bool false) (by kernel_rfl) ?_
 refine WO.one (SA.F sameR sameT _ 30 _ (by kernel_rfl)) 63 (.bool false) (by kernel_rfl) ?_
 refine WO.one (SA.F sameR sameT _ 31 _ (by kernel_rfl)) 64 (.int .i64 v) (by kernel_rfl) ?_
 refine WO.one (SA.F sameR sameT _ 32 _ (by kernel_rfl)) 65 (.int .i64 least) (by kernel_rfl) ?_
 refine WO.one (SA.F sameR sameT _ 33 _ (by kernel_rfl)) 66 (.bool (decide ((v : Int) < least))) (by kernel_rfl) ?_
 refine WO.topP ((v : Int) < least) ?_ ?_
 ·
  intro h52
  refine WO.one (SA.F sameR sameT _ 34 _ (by kernel_rfl)) 67 (.bool true) (by kernel_rfl) ?_
  refine WO.one (SA.F sameR sameT _ 35 _ (by kernel_rfl)) 68 (.bool true) (by kernel_rfl) ?_
  refine WO.off (SA.O sameR sameT _ 36 _ (by kernel_rfl)) 69 (by kernel_rfl) ?_
  refine WO.off (SA.O sameR sameT _ 37 _ (by kernel_rfl)) 70 (by kernel_rfl) ?_
  refine WO.off (SA.O sameR sameT _ 38 _ (by kernel_rfl)) 71 (by kernel_rfl) ?_
  refine WO.one (SA.F sameR sameT _ 39 _ (by kernel_rfl)) 72 (.bool true) (by kernel_rfl) ?_
  refine WO.doneA (by kernel_rfl) ?_
  refine WQ.keep [0, 1, 2, 6, 7, 8, 9, 10, 72] (e' := [(0, .pointer (some ⟨g, 0, none⟩)), (1, .int .i64 least), (2, .int .i64 most), (6, .int .i64 0), (7, .int .i64 (p : Int)), (8, .string (str ((s.take (runE isD s (p + 1))).drop (p + 1)))), (9, .int .i64 v), (10, .nilIface), (72, .bool true)]) (by kernel_rfl) ?_
  refine WQ.thenN ?_
  refine WE.condT (by kernel_rfl) ?_
  refine WE.seq ?_
  refine WE.region ?_
  refine WO.run 2 0 [(74, .int .i64 (p : Int)), (73, .pointer (some ⟨g, 0, none⟩))] (by kernel_rfl) (by kernel_rfl) ?_
  refine WO.call (SQ.E 2 (by kernel_rfl)) 75 (by kernel_rfl) (fail_ok g s (runE isD s (p + 1)) _ (by omega) hs ((p : Int) : Int) HB6) ?_
  rintro _ w53 ⟨rfl, HB55, F54⟩
  refine ⟨_, rfl, trivial, ?_⟩
  have HS := var_keep 3 (by kernel_rfl) HS F54 (ninC hgS (nin0 _))
  have HR := var_keep 4 (by kernel_rfl) HR F54 (ninC hgR (nin0 _))
  have HA := Fr.step HA F54 (inSL (by simp) inS0)
  refine WO.done (by kernel_rfl) ?_
  refine WQ.keep [0, 1, 2, 6, 7, 8, 9, 10, 72] (e' := [(0, .pointer (some ⟨g, 0, none⟩)), (1, .int .i64 least), (2, .int .i64 most), (6, .int .i64 0), (7, .int .i64 (p : Int)), (8, .string (str ((s.take (runE isD s (p + 1))).drop (p + 1)))), (9, .int .i64 v), (10, .nilIface), (72, .bool true)]) (by kernel_rfl) ?_
  refine WQ.thenN ?_
  refine WE.seq ?_
  refine WE.region ?_
  refine WO.run 1 0 [(6, .int .i64 0)] (by kernel_rfl) (by kernel_rfl) ?_
  refine WO.done (by kernel_rfl) ?_
  refine WQ.keep [0, 1, 2, 6, 7, 8, 9, 10, 72] (e' := [(0, .pointer (some ⟨g, 0, none⟩)), (1, .int .i64 least), (2, .int .i64 most), (6, .int .i64 0), (7, .int .i64 (p : Int)), (8, .string (str ((s.take (runE isD s (p + 1))).drop (p + 1)))), (9, .int .i64 v), (10, .nilIface), (72, .bool true)]) (by kernel_rfl) ?_
  refine WQ.thenN ?_
  refine WE.ret ?_
  refine WQ.thenR ?_
  refine WQ.ret (v := .int .i64 0) (by kernel_rfl) ?_
  have hn_ : numR s p (p + 1) least most = none := by unfold numR; rw [hpi]; simp only; first | exact if_pos (.inl ⟨by omega, u8_eq (by show _ = (48 : Int); omega)⟩) | exact if_pos (.inr (.inl ⟨by omega, fun h_ => absurd (congrArg str h_) (by assumption)⟩)) | exact if_pos (.inr (.inr (.inl (by omega)))) | exact if_pos (.inr (.inr (.inr (by omega)))) | exact if_neg (num_not (by omega) (by omega) (by first | (intro a_ b_; omega) | (intro a_ b_; have h_ := congrArg (fun x : UInt8 => (x.toNat : Int)) b_; exact absurd h_ (by assumption))) (by first | (intro a_ b_; exact b_ (str_inj.1 (by assumption))) | (intro a_ b_; omega)))
  rw [hn_]
  exact ⟨rfl, HB55, HA⟩
 intro h52
 refine WO.one (SA.F sameR sameT _ 34 _ (by kernel_rfl)) 67 (.bool false) (by kernel_rfl) ?_
 refine WO.one (SA.F sameR sameT _ 35 _ (by kernel_rfl)) 68 (.bool false) (by kernel_rfl) ?_
 refine WO.one (SA.F sameR sameT _ 36 _ (by kernel_rfl)) 69 (.int .i64 v) (by kernel_rfl) ?_
 refine WO.one (SA.F sameR sameT _ 37 _ (by kernel_rfl)) 70 (.int .i64 most) (by kernel_rfl) ?_
 refine WO.one (SA.F sameR sameT _ 38 _ (by kernel_rfl)) 71 (.bool (decide ((v : Int) > most))) (by kernel_rfl) ?_
 refine WO.topP ((v : Int) > most) ?_ ?_
 ·
  intro h56
  refine WO.one (SA.F sameR sameT _ 39 _ (by kernel_rfl)) 72 (.bool true) (by kernel_rfl) ?_
  refine WO.doneA (by kernel_rfl) ?_
  refine WQ.keep [0, 1, 2, 6, 7, 8, 9, 10, 72] (e' := [(0, .pointer (some ⟨g, 0, none⟩)), (1, .int .i64 least), (2, .int .i64 most), (6, .int .i64 0), (7, .int .i64 (p : Int)), (8, .string (str ((s.take (runE isD s (p + 1))).drop (p + 1)))), (9, .int .i64 v), (10, .nilIface), (72, .bool true)]) (by kernel_rfl) ?_
  refine WQ.thenN ?_
  refine WE.condT (by kernel_rfl) ?_
  refine WE.seq ?_
  refine WE.region ?_
  refine WO.run 2 0 [(74, .int .i64 (p : Int)), (73, .pointer (some ⟨g, 0, none⟩))] (by kernel_rfl) (by kernel_rfl) ?_
  refine WO.call (SQ.E 2 (by kernel_rfl)) 75 (by kernel_rfl) (fail_ok g s (runE isD s (p + 1)) _ (by omega) hs ((p : Int) : Int) HB6) ?_
  rintro _ w57 ⟨rfl, HB59, F58⟩
  refine ⟨_, rfl, trivial, ?_⟩
  have HS := var_keep 3 (by kernel_rfl) HS F58 (ninC hgS (nin0 _))
  have HR := var_keep 4 (by kernel_rfl) HR F58 (ninC hgR (nin0 _))
  have HA := Fr.step HA F58 (inSL (by simp) inS0)
  refine WO.done (by kernel_rfl) ?_
  refine WQ.keep [0, 1, 2, 6, 7, 8, 9, 10, 72] (e' := [(0, .pointer (some ⟨g, 0, none⟩)), (1, .int .i64 least), (2, .int .i64 most), (6, .int .i64 0), (7, .int .i64 (p : Int)), (8, .string (str ((s.take (runE isD s (p + 1))).drop (p + 1)))), (9, .int .i64 v), (10, .nilIface), (72, .bool true)]) (by kernel_rfl) ?_
  refine WQ.thenN ?_
  refine WE.seq ?_
  refine WE.region ?_
  refine WO.run 1 0 [(6, .int .i64 0)] (by kernel_rfl) (by kernel_rfl) ?_
  refine WO.done (by kernel_rfl) ?_
  refine WQ.keep [0, 1, 2, 6, 7, 8, 9, 10, 72] (e' := [(0, .pointer (some ⟨g, 0, none⟩)), (1, .int .i64 least), (2, .int .i64 most), (6, .int .i64 0), (7, .int .i64 (p : Int)), (8, .string (str ((s.take (runE isD s (p + 1))).drop (p + 1)))), (9, .int .i64 v), (10, .nilIface), (72, .bool true)]) (by kernel_rfl) ?_
  refine WQ.thenN ?_
  refine WE.ret ?_
  refine WQ.thenR ?_
  refine WQ.ret (v := .int .i64 0) (by kernel_rfl) ?_
  have hn_ : numR s p (p + 1) least most = none := by unfold numR; rw [hpi]; simp only; first | exact if_pos (.inl ⟨by omega, u8_eq (by show _ = (48 : Int); omega)⟩) | exact if_pos (.inr (.inl ⟨by omega, fun h_ => absurd (congrArg str h_) (by assumption)⟩)) | exact if_pos (.inr (.inr (.inl (by omega)))) | exact if_pos (.inr (.inr (.inr (by omega)))) | exact if_neg (num_not (by omega) (by omega) (by first | (intro a_ b_; omega) | (intro a_ b_; have h_ := congrArg (fun x : UInt8 => (x.toNat : Int)) b_; exact absurd h_ (by assumption))) (by first | (intro a_ b_; exact b_ (str_inj.1 (by assumption))) | (intro a_ b_; omega)))
  rw [hn_]
  exact ⟨rfl, HB59, HA⟩
 intro h56
 refine WO.one (SA.F sameR sameT _ 39 _ (by kernel_rfl)) 72 (.bool false) (by kernel_rfl) ?_
 refine WO.doneA (by kernel_rfl) ?_
 refine WQ.keep [0, 1, 2, 6, 7, 8, 9, 10, 72] (e' := [(0, .pointer (some ⟨g, 0, none⟩)), (1, .int .i64 least), (2, .int .i64 most), (6, .int .i64 0), (7, .int .i64 (p : Int)), (8, .string (str ((s.take (runE isD s (p + 1))).drop (p + 1)))), (9, .int .i64 v), (10, .nilIface), (72, .bool false)]) (by kernel_rfl) ?_
 refine WQ.thenN ?_
 refine WE.condF (by kernel_rfl) ?_
 refine WE.skip ?_
 refine WQ.thenN ?_
 refine WE.seq ?_
 refine WE.region ?_
 refine WO.run 2 0 [(6, .int .i64 v), (76, .int .i64 v)] (by kernel_rfl) (by kernel_rfl) ?_
 refine WO.done (by kernel_rfl) ?_
 refine WQ.keep [0, 1, 2, 6, 7, 8, 9, 10, 72] (e' := [(0, .pointer (some ⟨g, 0, none⟩)), (1, .int .i64 least), (2, .int .i64 most), (6, .int .i64 v), (7, .int .i64 (p : Int)), (8, .string (str ((s.take (runE isD s (p + 1))).drop (p + 1)))), (9, .int .i64 v), (10, .nilIface), (72, .bool false)]) (by kernel_rfl) ?_
 refine WQ.thenN ?_
 refine WE.ret ?_
 refine WQ.ret (v := .int .i64 v) (by kernel_rfl) ?_
 have hn_ : numR s p (p + 1) least most = some v := by unfold numR; rw [hpi]; simp only; first | exact if_pos (.inl ⟨by omega, u8_eq (by show _ = (48 : Int); omega)⟩) | exact if_pos (.inr (.inl ⟨by omega, fun h_ => absurd (congrArg str h_) (by assumption)⟩)) | exact if_pos (.inr (.inr (.inl (by omega)))) | exact if_pos (.inr (.inr (.inr (by omega)))) | exact if_neg (num_not (by omega) (by omega) (by first | (intro a_ b_; omega) | (intro a_ b_; have h_ := congrArg (fun x : UInt8 => (x.toNat : Int)) b_; exact absurd h_ (by assumption))) (by first | (intro a_ b_; exact b_ (str_inj.1 (by assumption))) | (intro a_ b_; omega)))
 rw [hn_]
 exact ⟨rfl, HB6, HA⟩
set_option maxRecDepth 100000 in
set_option maxHeartbeats 400000 in
theorem number_m_syntax (g : Nat) (s : L) (p : Nat) (w : World) (hp : p ≤ s.length) (hs : s.length ≤ 1000000) (least most : Int) (v : Int) (hlt : p < s.length) (hc : gB s p = 45) (hpi : Lib.parseIntB 64 ((s.take (runE isD s (p + 1))).drop p) = .«syntax») (HS : VarI w "strconv.ErrSyntax") (HR : VarI w "strconv.ErrRange") (hgS : 3 ≠ g) (hgR : 4 ≠ g) (HB : Blk w g #[.string (str s), .int .i64 (p : Int), .int .i64 (-1)] 60) :
  Calls Tryd.prog 39 #[.pointer (some ⟨g, 0, none⟩), .int .i64 least, .int .i64 most] w fun e w' => e = .returned (.int .i64 ((numR s p (p + 1) least most).getD 0)) ∧ Blk w' g #[.string (str s), .int .i64 ((runE isD s (p + 1) : Nat) : Int), .int .i64 (if (numR s p (p + 1) least most).isSome then -1 else (p : Int))] 60 ∧ Fr [g] w w' := by
 have he1 := runE_ge isD s (p + 1)
 have he2 := runE_le isD (show p + 1 ≤ s.length by omega)
 have hdl_ : ((s.take (runE isD s (p + 1))).drop (p + 1)).length = runE isD s (p + 1) - (p + 1) := by rw [List.length_drop, List.length_take]; omega
 have HA := Fr.refl [g] w
 refine enter (N := 77) Tryd.func39 (c := _) rfl (by kernel_rfl) (by kernel_rfl) (e := [(0, .pointer (some ⟨g, 0, none⟩)), (1, .int .i64 least), (2, .int .i64 most)]) (by kernel_rfl) ?_
 refine WE.seq ?_
 refine WE.region ?_
 refine WO.run 1 0 [(6, .int .i64 0)] (by kernel_rfl) (by kernel_rfl) ?_
 refine WO.done (by kernel_rfl) ?_
 refine WQ.keep [0, 1, 2, 6] (e' := [(0, .pointer (some ⟨g, 0, none⟩)), (1, .int .i64 least), (2, .int .i64 most), (6, .int .i64 0)]) (by kernel_rfl) ?_
 refine WQ.thenN ?_
 refine WE.seq ?_
 refine WE.region ?_
 refine WO.run 3 0 [(13, .pointer (some ⟨g, 1, none⟩)), (12, .pointer (some ⟨g, 0, none⟩)), (11, .pointer (some ⟨g, 0, none⟩))] (by kernel_rfl) (by kernel_rfl) ?_
 refine WO.ld (SQ.S 3 (by kernel_rfl)) 14 (.int .i64 (p : Int)) (by kernel_rfl) (same (HB.at 1 (by kernel_rfl))) ?_
 refine WO.run 1 4 [(7, .int .i64 (p : Int))] (by kernel_rfl) (by kernel_rfl) ?_
 refine WO.done (by kernel_rfl) ?_
 refine WQ.keep [0, 1, 2, 6, 7] (e' := [(0, .pointer (some ⟨g, 0, none⟩)), (1, .int .i64 least), (2, .int .i64 most), (6, .int .i64 0), (7, .int .i64 (p : Int))]) (by kernel_rfl) ?_
 refine WQ.thenN ?_
 refine WE.seq ?_
 refine WE.region ?_
 refine WO.run 1 0 [(15, .pointer (some ⟨g, 0, none⟩))] (by kernel_rfl) (by kernel_rfl) ?_
 refine WO.call (SQ.E 1 (by kernel_rfl)) 16 (by kernel_rfl) (next_yes g s p _ hp hs 45 hlt hc HB) ?_
 rintro _ w1 ⟨rfl, HB3, F2⟩
 refine ⟨_, rfl, trivial, ?_⟩
 have HS := var_keep 3 (by kernel_rfl) HS F2 (ninC hgS (nin0 _))
 have HR := var_keep 4 (by kernel_rfl) HR F2 (ninC hgR (nin0 _))
 have HA := Fr.step HA F2 (inSL (by simp) inS0)
 refine WO.done (by kernel_rfl) ?_
 refine WQ.keep [0, 1, 2, 6, 7] (e' := [(0, .pointer (some ⟨g, 0, none⟩)), (1, .int .i64 least), (2, .int .i64 most), (6, .int .i64 0), (7, .int .i64 (p : Int))]) (by kernel_rfl) ?_
 refine WQ.thenN ?_
 refine WE.seq ?_
 refine WE.region ?_
 refine WO.run 1 0 [(17, .pointer (some ⟨g, 0, none⟩))] (by kernel_rfl) (by kernel_rfl) ?_
 refine WO.call (SQ.E 1 (by kernel_rfl)) 18 (by kernel_rfl) (run_d g s (p + 1) _ (by omega) hs HB3) ?_
 rintro _ w4 ⟨rfl, HB6, F5⟩
 refine ⟨_, rfl, trivial, ?_⟩
 have HS := var_keep 3 (by kernel_rfl) HS F5 (ninC hgS (nin0 _))
 have HR := var_keep 4 (by kernel_rfl) HR F5 (ninC hgR (nin0 _))
 have HA := Fr.step HA F5 (inSL (by simp) inS0)
 refine WO.run 1 2 [(8, .string (str ((s.take (runE isD s (p + 1))).drop (p + 1))))] (by kernel_rfl) (by kernel_rfl) ?_
 refine WO.done (by kernel_rfl) ?_
 refine WQ.keep [0, 1, 2, 6, 7, 8] (e' := [(0, .pointer (some ⟨g, 0, none⟩)), (1, .int .i64 least), (2, .int .i64 most), (6, .int .i64 0), (7, .int .i64 (p : Int)), (8, .string (str ((s.take (runE isD s (p + 1))).drop (p + 1))))]) (by kernel_rfl) ?_
 refine WQ.thenN ?_
 refine WE.seq ?_
 refine WE.draw [.free, .free, .free, .still, .free, .free, .free, .free, .still, .free, .eff, .free, .free, .free, .free, .free] Same sameR (by kernel_rfl) 16 (Array.replicate 16 false) (by kernel_rfl) rfl ?_
 intro w7 F8 _
 have HB6 := Blk.keep HB6 F8 (nin0 _)
 have HS := var_keep 3 (by kernel_rfl) HS F8 (nin0 _)
 have HR := var_keep 4 (by kernel_rfl) HR F8 (nin0 _)
 have HA := Fr.step0 HA F8
 refine WO.one (SA.F sameR sameT _ 0 _ (by kernel_rfl)) 20 (.pointer (some ⟨g, 0, none⟩)) (by kernel_rfl) ?_
 refine WO.one (SA.F sameR sameT _ 1 _ (by kernel_rfl)) 21 (.pointer (some ⟨g, 0, none⟩)) (by kernel_rfl) ?_
 refine WO.one (SA.F sameR sameT _ 2 _ (by kernel_rfl)) 22 (.pointer (some ⟨g, 0, none⟩)) (by kernel_rfl) ?_
 refine WO.ld (SA.S sameR sameT _ 3 _ (by kernel_rfl)) 23 (.string (str s)) (by kernel_rfl) (same (HB6.at 0 (by kernel_rfl))) ?_
 refine WO.one (SA.F sameR sameT _ 4 _ (by kernel_rfl)) 24 (.int .i64 (p : Int)) (by kernel_rfl) ?_
 refine WO.one (SA.F sameR sameT _ 5 _ (by kernel_rfl)) 25 (.pointer (some ⟨g, 0, none⟩)) (by kernel_rfl) ?_
 refine WO.one (SA.F sameR sameT _ 6 _ (by kernel_rfl)) 26 (.pointer (some ⟨g, 0, none⟩)) (by kernel_rfl) ?_
 refine WO.one (SA.F sameR sameT _ 7 _ (by kernel_rfl)) 27 (.pointer (some ⟨g, 1, none⟩)) (by kernel_rfl) ?_
 refine WO.ld (SA.S sameR sameT _ 8 _ (by kernel_rfl)) 28 (.int .i64 ((runE isD s (p + 1) : Nat) : Int)) (by kernel_rfl) (same (HB6.at 1 (by kernel_rfl))) ?_
 refine WO.slS2 (lo := (p : Int)) (hi := ((runE isD s (p + 1) : Nat) : Int)) (SA.F sameR sameT _ 9 _ (by kernel_rfl)) 29 p (runE isD s (p + 1)) s (by kernel_rfl) (by rfl) (by rfl) (by omega) (by omega) ?_
 obtain ⟨tp_, pe_, hvar_⟩ := id HS
 refine WO.call (SA.E _ 10 _ (by kernel_rfl) rfl) 30 (by kernel_rfl) (Tryd.strconv_ParseInt_10_at64_syntax_var (str ((s.take (runE isD s (p + 1))).drop p)) (by rw [str_size, List.length_drop, List.length_take]; omega) hpi tp_ pe_ _ hvar_) ?_
 rintro _ w9 ⟨N_, rfl, _, _, hbw⟩
 have F10 := Fr.of_below hbw
 refine ⟨_, rfl, trivial, ?_⟩
 have HB6 := Blk.keep HB6 F10 (nin0 _)
 have HS := var_keep 3 (by kernel_rfl) HS F10 (nin0 _)
 have HR := var_keep 4 (by kernel_rfl) HR F10 (nin0 _)
 have HA := Fr.step0 HA F10
 refine WO.one (SA.F sameR sameT _ 11 _ (by kernel_rfl)) 19 (.tuple #[.int .i64 0, .iface 144 (.pointer (some ⟨N_, 0, none⟩))]) (by kernel_rfl) ?_
 refine WO.one (SA.F sameR sameT _ 12 _ (by kernel_rfl)) 31 (.int .i64 0) (by kernel_rfl) ?_
 refine WO.one (SA.F sameR sameT _ 13 _ (by kernel_rfl)) 32 (.iface 144 (.pointer (some ⟨N_, 0, none⟩))) (by kernel_rfl) ?_
 refine WO.one (SA.F sameR sameT _ 14 _ (by kernel_rfl)) 9 (.int .i64 0) (by kernel_rfl) ?_
 refine WO.one (SA.F sameR sameT _ 15 _ (by kernel_rfl)) 10 (.iface 144 (.pointer (some ⟨N_, 0, none⟩))) (by kernel_rfl) ?_
 refine WO.doneA (by kernel_rfl) ?_
 refine WQ.keep [0, 1, 2, 6, 7, 8, 9, 10] (e' := [(0, .pointer (some ⟨g, 0, none⟩)), (1, .int .i64 least), (2, .int .i64 most), (6, .int .i64 0), (7, .int .i64 (p : Int)), (8, .string (str ((s.take (runE isD s (p + 1))).drop (p + 1)))), (9, .int .i64 0), (10, .iface 144 (.pointer (some ⟨N_, 0, none⟩)))]) (by kernel_rfl) ?_
 refine WQ.thenN ?_
 refine WE.seq ?_
 refine WE.seq ?_
 refine WE.draw [.free, .free, .free, .free, .free, .free, .free, .free, .free, .free, .free, .free, .free, .free, .free, .free, .free, .free, .free, .free, .still, .free, .free, .free, .free, .still, .free, .free, .free, .free, .free, .free, .free, .free, .free, .free, .free, .free, .free, .free] Same sameR (by kernel_rfl) 40 (Array.replicate 40 false) (by kernel_rfl) rfl ?_
 intro w11 F12 _
 have HB6 := Blk.keep HB6 F12 (nin0 _)
 have HS := var_keep 3 (by kernel_rfl) HS F12 (nin0 _)
 have HR := var_keep 4 (by kernel_rfl) HR F12 (nin0 _)
 have HA := Fr.step0 HA F12
 refine WO.one (SA.F sameR sameT _ 0 _ (by kernel_rfl)) 33 (.iface 144 (.pointer (some ⟨N_, 0, none⟩))) (by kernel_rfl) ?_
 refine WO.one (SA.F sameR sameT _ 1 _ (by kernel_rfl)) 34 (.bool true) (by kernel_rfl) ?_
 refine WO.one (SA.F sameR sameT _ 2 _ (by kernel_rfl)) 35 (.bool true) (by kernel_rfl) ?_
 refine WO.off (SA.O sameR sameT _ 3 _ (by kernel_rfl)) 36 (by kernel_rfl) ?_
 refine WO.off (SA.O sameR sameT _ 4 _ (by kernel_rfl)) 37 (by kernel_rfl) ?_
 refine WO.off (SA.O sameR sameT _ 5 _ (by kernel_rfl)) 38 (by kernel_rfl) ?_
 refine WO.off (SA.O sameR sameT _ 6 _ (by kernel_rfl)) 39 (by kernel_rfl) ?_
 refine WO.off (SA.O sameR sameT _ 7 _ (by kernel_rfl)) 40 (by kernel_rfl) ?_
 refine WO.off (SA.O sameR sameT _ 8 _ (by kernel_rfl)) 41 (by kernel_rfl) ?_
 refine WO.off (SA.O sameR sameT _ 9 _ (by kernel_rfl)) 42 (by kernel_rfl) ?_
 refine WO.off (SA.O sameR sameT _ 10 _ (by kernel_rfl)) 43 (by kernel_rfl) ?_
 refine WO.one (SA.F sameR sameT _ 11 _ (by kernel_rfl)) 44 (.bool true) (by kernel_rfl) ?_
 refine WO.one (SA.F sameR sameT _ 12 _ (by kernel_rfl)) 45 (.bool true) (by kernel_rfl) ?_
 refine WO.off (SA.O sameR sameT _ 13 _ (by kernel_rfl)) 46 (by kernel_rfl) ?_
 refine WO.off (SA.O sameR sameT _ 14 _ (by kernel_rfl)) 47 (by kernel_rfl) ?_
 refine WO.off (SA.O sameR sameT _ 15 _ (by kernel_rfl)) 48 (by kernel_rfl) ?_
 refine WO.off (SA.O sameR sameT _ 16 _ (by kernel_rfl)) 49 (by kernel_rfl) ?_
 refine WO.off (SA.O sameR sameT _ 17 _ (by kernel_rfl)) 50 (by kernel_rfl) ?_
 refine WO.off (SA.O sameR sameT _ 18 _ (by kernel_rfl)) 51 (by kernel_rfl) ?_
 refine WO.off (SA.O sameR sameT _ 19 _ (by kernel_rfl)) 52 (by kernel_rfl) ?_
 refine WO.off (SA.O sameR sameT _ 20 _ (by kernel_rfl)) 53 (by kernel_rfl) ?_
 refine WO.off (SA.O sameR sameT _ 21 _ (by kernel_rfl)) 54 (by kernel_rfl) ?_
 refine WO.off (SA.O sameR sameT _ 22 _ (by kernel_rfl)) 55 (by kernel_rfl) ?_
 refine WO.off (SA.O sameR sameT _ 23 _ (by kernel_rfl)) 56 (by kernel_rfl) ?_
 refine WO.off (SA.O sameR sameT _ 24 _ (by kernel_rfl)) 57 (by kernel_rfl) ?_
 refine WO.off (SA.O sameR sameT _ 25 _ (by kernel_rfl)) 58 (by kernel_rfl) ?_
 refine WO.off (SA.O sameR sameT _ 26 _ (by kernel_rfl)) 59 (by kernel_rfl) ?_
 refine WO.off (SA.O sameR sameT _ 27 _ (by kernel_rfl)) 60 (by kernel_rfl) ?_
 refine WO.off (SA.O sameR sameT _ 28 _ (by kernel_rfl)) 61 (by kernel_rfl) ?_
 refine WO.one (SA.F sameR sameT _ 29 _ (by kernel_rfl)) 62 (.bool true) (by kernel_rfl) ?_
 refine WO.one (SA.F sameR sameT _ 30 _ (by kernel_rfl)) 63 (.bool true) (by kernel_rfl) ?_
 refine WO.off (SA.O sameR sameT _ 31 _ (by kernel_rfl)) 64 (by kernel_rfl) ?_
 refine WO.off (SA.O sameR sameT _ 32 _ (by kernel_rfl)) 65 (by kernel_rfl) ?_
 refine WO.off (SA.O sameR sameT _ 33 _ (by kernel_rfl)) 66 (by kernel_rfl) ?_
 refine WO.one (SA.F sameR sameT _ 34 _ (by kernel_rfl)) 67 (.bool true) (by kernel_rfl) ?_
 refine WO.one (SA.F sameR sameT _ 35 _ (by kernel_rfl)) 68 (.bool true) (by kernel_rfl) ?_
 refine WO.off (SA.O sameR sameT _ 36 _ (by kernel_rfl)) 69 (by kernel_rfl) ?_
 refine WO.off (SA.O sameR sameT _ 37 _ (by kernel_rfl)) 70 (by kernel_rfl) ?_
 refine WO.off (SA.O sameR sameT _ 38 _ (by kernel_rfl)) 71 (by kernel_rfl) ?_
 refine WO.one (SA.F sameR sameT _ 39 _ (by kernel_rfl)) 72 (.bool true) (by kernel_rfl) ?_
 refine WO.doneA (by kernel_rfl) ?_
 refine WQ.keep [0, 1, 2, 6, 7, 8, 9, 10, 72] (e' := [(0, .pointer (some ⟨g, 0, none⟩)), (1, .int .i64 least), (2, .int .i64 most), (6, .int .i64 0), (7, .int .i64 (p : Int)), (8, .string (str ((s.take (runE isD s (p + 1))).drop (p + 1)))), (9, .int .i64 0), (10, .iface 144 (.pointer (some ⟨N_, 0, none⟩))), (72, .bool true)]) (by kernel_rfl) ?_
 refine WQ.thenN ?_
 refine WE.condT (by kernel_rfl) ?_
 refine WE.seq ?_
 refine WE.region ?_
 refine WO.run 2 0 [(74, .int .i64 (p : Int)), (73, .pointer (some ⟨g, 0, none⟩))] (by kernel_rfl) (by kernel_rfl) ?_
 refine WO.call (SQ.E 2 (by kernel_rfl)) 75 (by kernel_rfl) (fail_ok g s (runE isD s (p + 1)) _ (by omega) hs ((p : Int) : Int) HB6) ?_
 rintro _ w13 ⟨rfl, HB15, F14⟩
 refine ⟨_, rfl, trivial, ?_⟩
 have HS := var_keep 3 (by kernel_rfl) HS F14 (ninC hgS (nin0 _))
 have HR := var_keep 4 (by kernel_rfl) HR F14 (ninC hgR (nin0 _))
 have HA := Fr.step HA F14 (inSL (by simp) inS0)
 refine WO.done (by kernel_rfl) ?_
 refine WQ.keep [0, 1, 2, 6, 7, 8, 9, 10, 72] (e' := [(0, .pointer (some ⟨g, 0, none⟩)), (1, .int .i64 least), (2, .int .i64 most), (6, .int .i64 0), (7, .int .i64 (p : Int)), (8, .string (str ((s.take (runE isD s (p + 1))).drop (p + 1)))), (9, .int .i64 0), (10, .iface 144 (.pointer (some ⟨N_, 0, none⟩))), (72, .bool true)]) (by kernel_rfl) ?_
 refine WQ.thenN ?_
 refine WE.seq ?_
 refine WE.region ?_
 refine WO.run 1 0 [(6, .int .i64 0)] (by kernel_rfl) (by kernel_rfl) ?_
 refine WO.done (by kernel_rfl) ?_
 refine WQ.keep [0, 1, 2, 6, 7, 8, 9, 10, 72] (e' := [(0, .pointer (some ⟨g, 0, none⟩)), (1, .int .i64 least), (2, .int .i64 most), (6, .int .i64 0), (7, .int .i64 (p : Int)), (8, .string (str ((s.take (runE isD s (p + 1))).drop (p + 1)))), (9, .int .i64 0), (10, .iface 144 (.pointer (some ⟨N_, 0, none⟩))), (72, .bool true)]) (by kernel_rfl) ?_
 refine WQ.thenN ?_
 refine WE.ret ?_
 refine WQ.thenR ?_
 refine WQ.ret (v := .int .i64 0) (by kernel_rfl) ?_
 have hn_ : numR s p (p + 1) least most = none := by unfold numR; rw [hpi]
 rw [hn_]
 exact ⟨rfl, HB15, HA⟩
set_option maxRecDepth 100000 in
set_option maxHeartbeats 400000 in
theorem number_m_range (g : Nat) (s : L) (p : Nat) (w : World) (hp : p ≤ s.length) (hs : s.length ≤ 1000000) (least most : Int) (v : Int) (hlt : p < s.length) (hc : gB s p = 45) (hpi : Lib.parseIntB 64 ((s.take (runE isD s (p + 1))).drop p) = .range) (HS : VarI w "strconv.ErrSyntax") (HR : VarI w "strconv.ErrRange") (hgS : 3 ≠ g) (hgR : 4 ≠ g) (HB : Blk w g #[.string (str s), .int .i64 (p : Int), .int .i64 (-1)] 60) :
  Calls Tryd.prog 39 #[.pointer (some ⟨g, 0, none⟩), .int .i64 least, .int .i64 most] w fun e w' => e = .returned (.int .i64 ((numR s p (p + 1) least most).getD 0)) ∧ Blk w' g #[.string (str s), .int .i64 ((runE isD s (p + 1) : Nat) : Int), .int .i64 (if (numR s p (p + 1) least most).isSome then -1 else (p : Int))] 60 ∧ Fr [g] w w' := by
 have he1 := runE_ge isD s (p + 1)
 have he2 := runE_le isD (show p + 1 ≤ s.length by omega)
 have hdl_ : ((s.take (runE isD s (p + 1))).drop (p + 1)).length = runE isD s (p + 1) - (p + 1) := by rw [List.length_drop, List.length_take]; omega
 have HA := Fr.refl [g] w
 refine enter (N := 77) Tryd.func39 (c := _) rfl (by kernel_rfl) (by kernel_rfl) (e := [(0, .pointer (some ⟨g, 0, none⟩)), (1, .int .i64 least), (2, .int .i64 most)]) (by kernel_rfl) ?_
 refine WE.seq ?_
 refine WE.region ?_
 refine WO.run 1 0 [(6, .int .i64 0)] (by kernel_rfl) (by kernel_rfl) ?_
 refine WO.done (by kernel_rfl) ?_
 refine WQ.keep [0, 1, 2, 6] (e' := [(0, .pointer (some ⟨g, 0, none⟩)), (1, .int .i64 least), (2, .int .i64 most), (6, .int .i64 0)]) (by kernel_rfl) ?_
 refine WQ.thenN ?_
 refine WE.seq ?_
 refine WE.region ?_
 refine WO.run 3 0 [(13, .pointer (some ⟨g, 1, none⟩)), (12, .pointer (some ⟨g, 0, none⟩)), (11, .pointer (some ⟨g, 0, none⟩))] (by kernel_rfl) (by kernel_rfl) ?_
 refine WO.ld (SQ.S 3 (by kernel_rfl)) 14 (.int .i64 (p : Int)) (by kernel_rfl) (same (HB.at 1 (by kernel_rfl))) ?_
 refine WO.run 1 4 [(7, .int .i64 (p : Int))] (by kernel_rfl) (by kernel_rfl) ?_
 refine WO.done (by kernel_rfl) ?_
 refine WQ.keep [0, 1, 2, 6, 7] (e' := [(0, .pointer (some ⟨g, 0, none⟩)), (1, .int .i64 least), (2, .int .i64 most), (6, .int .i64 0), (7, .int .i64 (p : Int))]) (by kernel_rfl) ?_
 refine WQ.thenN ?_
 refine WE.seq ?_
 refine WE.region ?_
 refine WO.run 1 0 [(15, .pointer (some ⟨g, 0, none⟩))] (by kernel_rfl) (by kernel_rfl) ?_
 refine WO.call (SQ.E 1 (by kernel_rfl)) 16 (by kernel_rfl) (next_yes g s p _ hp hs 45 hlt hc HB) ?_
 rintro _ w1 ⟨rfl, HB3, F2⟩
 refine ⟨_, rfl, trivial, ?_⟩
 have HS := var_keep 3 (by kernel_rfl) HS F2 (ninC hgS (nin0 _))
 have HR := var_keep 4 (by kernel_rfl) HR F2 (ninC hgR (nin0 _))
 have HA := Fr.step HA F2 (inSL (by simp) inS0)
 refine WO.done (by kernel_rfl) ?_
 refine WQ.keep [0, 1, 2, 6, 7] (e' := [(0, .pointer (some ⟨g, 0, none⟩)), (1, .int .i64 least), (2, .int .i64 most), (6, .int .i64 0), (7, .int .i64 (p : Int))]) (by kernel_rfl) ?_
 refine WQ.thenN ?_
 refine WE.seq ?_
 refine WE.region ?_
 refine WO.run 1 0 [(17, .pointer (some ⟨g, 0, none⟩))] (by kernel_rfl) (by kernel_rfl) ?_
 refine WO.call (SQ.E 1 (by kernel_rfl)) 18 (by kernel_rfl) (run_d g s (p + 1) _ (by omega) hs HB3) ?_
 rintro _ w4 ⟨rfl, HB6, F5⟩
 refine ⟨_, rfl, trivial, ?_⟩
 have HS := var_keep 3 (by kernel_rfl) HS F5 (ninC hgS (nin0 _))
 have HR := var_keep 4 (by kernel_rfl) HR F5 (ninC hgR (nin0 _))
 have HA := Fr.step HA F5 (inSL (by simp) inS0)
 refine WO.run 1 2 [(8, .string (str ((s.take (runE isD s (p + 1))).drop (p + 1))))] (by kernel_rfl) (by kernel_rfl) ?_
 refine WO.done (by kernel_rfl) ?_
 refine WQ.keep [0, 1, 2, 6, 7, 8] (e' := [(0, .pointer (some ⟨g, 0, none⟩)), (1, .int .i64 least), (2, .int .i64 most), (6, .int .i64 0), (7, .int .i64 (p : Int)), (8, .string (str ((s.take (runE isD s (p + 1))).drop (p + 1))))]) (by kernel_rfl) ?_
 refine WQ.thenN ?_
 refine WE.seq ?_
 refine WE.draw [.free, .free, .free, .still, .free, .free, .free, .free, .still, .free, .eff, .free, .free, .free, .free, .free] Same sameR (by kernel_rfl) 16 (Array.replicate 16 false) (by kernel_rfl) rfl ?_
 intro w7 F8 _
 have HB6 := Blk.keep HB6 F8 (nin0 _)
 have HS := var_keep 3 (by kernel_rfl) HS F8 (nin0 _)
 have HR := var_keep 4 (by kernel_rfl) HR F8 (nin0 _)
 have HA := Fr.step0 HA F8
 refine WO.one (SA.F sameR sameT _ 0 _ (by kernel_rfl)) 20 (.pointer (some ⟨g, 0, none⟩)) (by kernel_rfl) ?_
 refine WO.one (SA.F sameR sameT _ 1 _ (by kernel_rfl)) 21 (.pointer (some ⟨g, 0, none⟩)) (by kernel_rfl) ?_
 refine WO.one (SA.F sameR sameT _ 2 _ (by kernel_rfl)) 22 (.pointer (some ⟨g, 0, none⟩)) (by kernel_rfl) ?_
 refine WO.ld (SA.S sameR sameT _ 3 _ (by kernel_rfl)) 23 (.string (str s)) (by kernel_rfl) (same (HB6.at 0 (by kernel_rfl))) ?_
 refine WO.one (SA.F sameR sameT _ 4 _ (by kernel_rfl)) 24 (.int .i64 (p : Int)) (by kernel_rfl) ?_
 refine WO.one (SA.F sameR sameT _ 5 _ (by kernel_rfl)) 25 (.pointer (some ⟨g, 0, none⟩)) (by kernel_rfl) ?_
 refine WO.one (SA.F sameR sameT _ 6 _ (by kernel_rfl)) 26 (.pointer (some ⟨g, 0, none⟩)) (by kernel_rfl) ?_
 refine WO.one (SA.F sameR sameT _ 7 _ (by kernel_rfl)) 27 (.pointer (some ⟨g, 1, none⟩)) (by kernel_rfl) ?_
 refine WO.ld (SA.S sameR sameT _ 8 _ (by kernel_rfl)) 28 (.int .i64 ((runE isD s (p + 1) : Nat) : Int)) (by kernel_rfl) (same (HB6.at 1 (by kernel_rfl))) ?_
 refine WO.slS2 (lo := (p : Int)) (hi := ((runE isD s (p + 1) : Nat) : Int)) (SA.F sameR sameT _ 9 _ (by kernel_rfl)) 29 p (runE isD s (p + 1)) s (by kernel_rfl) (by rfl) (by rfl) (by omega) (by omega) ?_
 obtain ⟨tp_, pe_, hvar_⟩ := id HR
 refine WO.call (SA.E _ 10 _ (by kernel_rfl) rfl) 30 (by kernel_rfl) (Tryd.strconv_ParseInt_10_at64_range_var (str ((s.take (runE isD s (p + 1))).drop p)) (by rw [str_size, List.length_drop, List.length_take]; omega) hpi tp_ pe_ _ hvar_) ?_
 rintro _ w9 ⟨N_, rfl, _, _, hbw⟩
 have F10 := Fr.of_below hbw
 refine ⟨_, rfl, trivial, ?_⟩
 have HB6 := Blk.keep HB6 F10 (nin0 _)
 have HS := var_keep 3 (by kernel_rfl) HS F10 (nin0 _)
 have HR := var_keep 4 (by kernel_rfl) HR F10 (nin0 _)
 have HA := Fr.step0 HA F10
 refine WO.one (SA.F sameR sameT _ 11 _ (by kernel_rfl)) 19 (.tuple #[.int .i64 (Lib.intSat 64 (str ((s.take (runE isD s (p + 1))).drop p)).data.toList), .iface 144 (.pointer (some ⟨N_, 0, none⟩))]) (by kernel_rfl) ?_
 refine WO.one (SA.F sameR sameT _ 12 _ (by kernel_rfl)) 31 (.int .i64 (Lib.intSat 64 (str ((s.take (runE isD s (p + 1))).drop p)).data.toList)) (by kernel_rfl) ?_
 refine WO.one (SA.F sameR sameT _ 13 _ (by kernel_rfl)) 32 (.iface 144 (.pointer (some ⟨N_, 0, none⟩))) (by kernel_rfl) ?_
 refine WO.one (SA.F sameR sameT _ 14 _ (by kernel_rfl)) 9 (.int .i64 (Lib.intSat 64 (str ((s.take (runE isD s (p + 1))).drop p)).data.toList)) (by kernel_rfl) ?_
 refine WO.one (SA.F sameR sameT _ 15 _ (by kernel_rfl)) 10 (.iface 144 (.pointer (some ⟨N_, 0, none⟩))) (by kernel_rfl) ?_
 refine WO.doneA (by kernel_rfl) ?_
 refine WQ.keep [0, 1, 2, 6, 7, 8, 9, 10] (e' := [(0, .pointer (some ⟨g, 0, none⟩)), (1, .int .i64 least), (2, .int .i64 most), (6, .int .i64 0), (7, .int .i64 (p : Int)), (8, .string (str ((s.take (runE isD s (p + 1))).drop (p + 1)))), (9, .int .i64 (Lib.intSat 64 (str ((s.take (runE isD s (p + 1))).drop p)).data.toList)), (10, .iface 144 (.pointer (some ⟨N_, 0, none⟩)))]) (by kernel_rfl) ?_
 refine WQ.thenN ?_
 refine WE.seq ?_
 refine WE.seq ?_
 refine WE.draw [.free, .free, .free, .free, .free, .free, .free, .free, .free, .free, .free, .free, .free, .free, .free, .free, .free, .free, .free, .free, .still, .free, .free, .free, .free, .still, .free, .free, .free, .free, .free, .free, .free, .free, .free, .free, .free, .free, .free, .free] Same sameR (by kernel_rfl) 40 (Array.replicate 40 false) (by kernel_rfl) rfl ?_
 intro w11 F12 _
 have HB6 := Blk.keep HB6 F12 (nin0 _)
 have HS := var_keep 3 (by kernel_rfl) HS F12 (nin0 _)
 have HR := var_keep 4 (by kernel_rfl) HR F12 (nin0 _)
 have HA := Fr.step0 HA F12
 refine WO.one (SA.F sameR sameT _ 0 _ (by kernel_rfl)) 33 (.iface 144 (.pointer (some ⟨N_, 0, none⟩))) (by kernel_rfl) ?_
 refine WO.one (SA.F sameR sameT _ 1 _ (by kernel_rfl)) 34 (.bool true) (by kernel_rfl) ?_
 refine WO.one (SA.F sameR sameT _ 2 _ (by kernel_rfl)) 35 (.bool true) (by kernel_rfl) ?_
 refine WO.off (SA.O sameR sameT _ 3 _ (by kernel_rfl)) 36 (by kernel_rfl) ?_
 refine WO.off (SA.O sameR sameT _ 4 _ (by kernel_rfl)) 37 (by kernel_rfl) ?_
 refine WO.off (SA.O sameR sameT _ 5 _ (by kernel_rfl)) 38 (by kernel_rfl) ?_
 refine WO.off (SA.O sameR sameT _ 6 _ (by kernel_rfl)) 39 (by kernel_rfl) ?_
 refine WO.off (SA.O sameR sameT _ 7 _ (by kernel_rfl)) 40 (by kernel_rfl) ?_
 refine WO.off (SA.O sameR sameT _ 8 _ (by kernel_rfl)) 41 (by kernel_rfl) ?_
 refine WO.off (SA.O sameR sameT _ 9 _ (by kernel_rfl)) 42 (by kernel_rfl) ?_
 refine WO.off (SA.O sameR sameT _ 10 _ (by kernel_rfl)) 43 (by kernel_rfl) ?_
 refine WO.one (SA.F sameR sameT _ 11 _ (by kernel_rfl)) 44 (.bool true) (by kernel_rfl) ?_
 refine WO.one (SA.F sameR sameT _ 12 _ (by kernel_rfl)) 45 (.bool true) (by kernel_rfl) ?_
 refine WO.off (SA.O sameR sameT _ 13 _ (by kernel_rfl)) 46 (by kernel_rfl) ?_
 refine WO.off (SA.O sameR sameT _ 14 _ (by kernel_rfl)) 47 (by kernel_rfl) ?_
 refine WO.off (SA.O sameR sameT _ 15 _ (by kernel_rfl)) 48 (by kernel_rfl) ?_
 refine WO.off (SA.O sameR sameT _ 16 _ (by kernel_rfl)) 49 (by kernel_rfl) ?_
 refine WO.off (SA.O sameR sameT _ 17 _ (by kernel_rfl)) 50 (by kernel_rfl) ?_
 refine WO.off (SA.O sameR sameT _ 18 _ (by kernel_rfl)) 51 (by kernel_rfl) ?_
 refine WO.off (SA.O sameR sameT _ 19 _ (by kernel_rfl)) 52 (by kernel_rfl) ?_
 refine WO.off (SA.O sameR sameT _ 20 _ (by kernel_rfl)) 53 (by kernel_rfl) ?_
 refine WO.off (SA.O sameR sameT _ 21 _ (by kernel_rfl)) 54 (by kernel_rfl) ?_
 refine WO.off (SA.O sameR sameT _ 22 _ (by kernel_rfl)) 55 (by kernel_rfl) ?_
 refine WO.off (SA.O sameR sameT _ 23 _ (by kernel_rfl)) 56 (by kernel_rfl) ?_
 refine WO.off (SA.O sameR sameT _ 24 _ (by kernel_rfl)) 57 (by kernel_rfl) ?_
 refine WO.off (SA.O sameR sameT _ 25 _ (by kernel_rfl)) 58 (by kernel_rfl) ?_
 refine WO.off (SA.O sameR sameT _ 26 _ (by kernel_rfl)) 59 (by kernel_rfl) ?_
 refine WO.off (SA.O sameR sameT _ 27 _ (by kernel_rfl)) 60 (by kernel_rfl) ?_
 refine WO.off (SA.O sameR sameT _ 28 _ (by kernel_rfl)) 61 (by kernel_rfl) ?_
 refine WO.one (SA.F sameR sameT _ 29 _ (by kernel_rfl)) 62 (.bool true) (by kernel_rfl) ?_
 refine WO.one (SA.F sameR sameT _ 30 _ (by kernel_rfl)) 63 (.bool true) (by kernel_rfl) ?_
 refine WO.off (SA.O sameR sameT _ 31 _ (by kernel_rfl)) 64 (by kernel_rfl) ?_
 refine WO.off (SA.O sameR sameT _ 32 _ (by kernel_rfl)) 65 (by kernel_rfl) ?_
 refine WO.off (SA.O sameR sameT _ 33 _ (by kernel_rfl)) 66 (by kernel_rfl) ?_
 refine WO.one (SA.F sameR sameT _ 34 _ (by kernel_rfl)) 67 (.bool true) (by kernel_rfl) ?_
 refine WO.one (SA.F sameR sameT _ 35 _ (by kernel_rfl)) 68 (.bool true) (by kernel_rfl) ?_
 refine WO.off (SA.O sameR sameT _ 36 _ (by kernel_rfl)) 69 (by kernel_rfl) ?_
 refine WO.off (SA.O sameR sameT _ 37 _ (by kernel_rfl)) 70 (by kernel_rfl) ?_
 refine WO.off (SA.O sameR sameT _ 38 _ (by kernel_rfl)) 71 (by kernel_rfl) ?_
 refine WO.one (SA.F sameR sameT _ 39 _ (by kernel_rfl)) 72 (.bool true) (by kernel_rfl) ?_
 refine WO.doneA (by kernel_rfl) ?_
 refine WQ.keep [0, 1, 2, 6, 7, 8, 9, 10, 72] (e' := [(0, .pointer (some ⟨g, 0, none⟩)), (1, .int .i64 least), (2, .int .i64 most), (6, .int .i64 0), (7, .int .i64 (p : Int)), (8, .string (str ((s.take (runE isD s (p + 1))).drop (p + 1)))), (9, .int .i64 (Lib.intSat 64 (str ((s.take (runE isD s (p + 1))).drop p)).data.toList)), (10, .iface 144 (.pointer (some ⟨N_, 0, none⟩))), (72, .bool true)]) (by kernel_rfl) ?_
 refine WQ.thenN ?_
 refine WE.condT (by kernel_rfl) ?_
 refine WE.seq ?_
 refine WE.region ?_
 refine WO.run 2 0 [(74, .int .i64 (p : Int)), (73, .pointer (some ⟨g, 0, none⟩))] (by kernel_rfl) (by kernel_rfl) ?_
 refine WO.call (SQ.E 2 (by kernel_rfl)) 75 (by kernel_rfl) (fail_ok g s (runE isD s (p + 1)) _ (by omega) hs ((p : Int) : Int) HB6) ?_
 rintro _ w13 ⟨rfl, HB15, F14⟩
 refine ⟨_, rfl, trivial, ?_⟩
 have HS := var_keep 3 (by kernel_rfl) HS F14 (ninC hgS (nin0 _))
 have HR := var_keep 4 (by kernel_rfl) HR F14 (ninC hgR (nin0 _))
 have HA := Fr.step HA F14 (inSL (by simp) inS0)
 refine WO.done (by kernel_rfl) ?_
 refine WQ.keep [0, 1, 2, 6, 7, 8, 9, 10, 72] (e' := [(0, .pointer (some ⟨g, 0, none⟩)), (1, .int .i64 least), (2, .int .i64 most), (6, .int .i64 0), (7, .int .i64 (p : Int)), (8, .string (str ((s.take (runE isD s (p + 1))).drop (p + 1)))), (9, .int .i64 (Lib.intSat 64 (str ((s.take (runE isD s (p + 1))).drop p)).data.toList)), (10, .iface 144 (.pointer (some ⟨N_, 0, none⟩))), (72, .bool true)]) (by kernel_rfl) ?_
 refine WQ.thenN ?_
 refine WE.seq ?_
 refine WE.region ?_
 refine WO.run 1 0 [(6, .int .i64 0)] (by kernel_rfl) (by kernel_rfl) ?_
 refine WO.done (by kernel_rfl) ?_
 refine WQ.keep [0, 1, 2, 6, 7, 8, 9, 10, 72] (e' := [(0, .pointer (some ⟨g, 0, none⟩)), (1, .int .i64 least), (2, .int .i64 most), (6, .int .i64 0), (7, .int .i64 (p : Int)), (8, .string (str ((s.take (runE isD s (p + 1))).drop (p + 1)))), (9, .int .i64 (Lib.intSat 64 (str ((s.take (runE isD s (p + 1))).drop p)).data.toList)), (10, .iface 144 (.pointer (some ⟨N_, 0, none⟩))), (72, .bool true)]) (by kernel_rfl) ?_
 refine WQ.thenN ?_
 refine WE.ret ?_
 refine WQ.thenR ?_
 refine WQ.ret (v := .int .i64 0) (by kernel_rfl) ?_
 have hn_ : numR s p (p + 1) least most = none := by unfold numR; rw [hpi]
 rw [hn_]
 exact ⟨rfl, HB15, HA⟩
set_option maxRecDepth 100000 in
set_option maxHeartbeats 400000 in
theorem number_d_ok (g : Nat) (s : L) (p : Nat) (w : World) (hp : p ≤ s.length) (hs : s.length ≤ 1000000) (least most : Int) (v : Int) (hc : ¬ (p < s.length ∧ gB s p = 45)) (hpi : Lib.parseIntB 64 ((s.take (runE isD s (p))).drop p) = .ok v) (HS : VarI w "strconv.ErrSyntax") (HR : VarI w "strconv.ErrRange") (hgS : 3 ≠ g) (hgR : 4 ≠ g) (HB : Blk w g #[.string (str s), .int .i64 (p : Int), .int .i64 (-1)] 60) :
  Calls Tryd.prog 39 #[.pointer (some ⟨g, 0, none⟩), .int .i64 least, .int .i64 most] w fun e w' => e = .returned (.int .i64 ((numR s p (p) least most).getD 0)) ∧ Blk w' g #[.string (str s), .int .i64 ((runE isD s (p) : Nat) : Int), .int .i64 (if (numR s p (p) least most).isSome then -1 else (p : Int))] 60 ∧ Fr [g] w w' := by
 have he1 := runE_ge isD s (p)
 have he2 := runE_le isD (show p ≤ s.length by omega)
 have hdl_ : ((s.take (runE isD s (p))).drop (p)).length = runE isD s (p) - (p) := by rw [List.length_drop, List.length_take]; omega
 have HA := Fr.refl [g] w
 refine enter (N := 77) Tryd.func39 (c := _) rfl (by kernel_rfl) (by kernel_rfl) (e := [(0, .pointer (some ⟨g, 0, none⟩)), (1, .int .i64 least), (2, .int .i64 most)]) (by kernel_rfl) ?_
 refine WE.seq ?_
 refine WE.region ?_
 refine WO.run 1 0 [(6, .int .i64 0)] (by kernel_rfl) (by kernel_rfl) ?_
 refine WO.done (by kernel_rfl) ?_
 refine WQ.keep [0, 1, 2, 6] (e' := [(0, .pointer (some ⟨g, 0, none⟩)), (1, .int .i64 least), (2, .int .i64 most), (6, .int .i64 0)]) (by kernel_rfl) ?_
 refine WQ.thenN ?_
 refine WE.seq ?_
 refine WE.region ?_
 refine WO.run 3 0 [(13, .pointer (some ⟨g, 1, none⟩)), (12, .pointer (some ⟨g, 0, none⟩)), (11, .pointer (some ⟨g, 0, none⟩))] (by kernel_rfl) (by kernel_rfl) ?_
 refine WO.ld (SQ.S 3 (by kernel_rfl)) 14 (.int .i64 (p : Int)) (by kernel_rfl) (same (HB.at 1 (by kernel_rfl))) ?_
 refine WO.run 1 4 [(7, .int .i64 (p : Int))] (by kernel_rfl) (by kernel_rfl) ?_
 refine WO.done (by kernel_rfl) ?_
 refine WQ.keep [0, 1, 2, 6, 7] (e' := [(0, .pointer (some ⟨g, 0, none⟩)), (1, .int .i64 least), (2, .int .i64 most), (6, .int .i64 0), (7, .int .i64 (p : Int))]) (by kernel_rfl) ?_
 refine WQ.thenN ?_
 refine WE.seq ?_
 refine WE.region ?_
 refine WO.run 1 0 [(15, .pointer (some ⟨g, 0, none⟩))] (by kernel_rfl) (by kernel_rfl) ?_
 refine WO.call (SQ.E 1 (by kernel_rfl)) 16 (by kernel_rfl) (next_no g s p _ hp hs 45 hc HB) ?_
 rintro _ w1 ⟨rfl, HB3, F2⟩
 refine ⟨_, rfl, trivial, ?_⟩
 have HS := var_keep 3 (by kernel_rfl) HS F2 (ninC hgS (nin0 _))
 have HR := var_keep 4 (by kernel_rfl) HR F2 (ninC hgR (nin0 _))
 have HA := Fr.step HA F2 (inSL (by simp) inS0)
 refine WO.done (by kernel_rfl) ?_
 refine WQ.keep [0, 1, 2, 6, 7] (e' := [(0, .pointer (some ⟨g, 0, none⟩)), (1, .int .i64 least), (2, .int .i64 most), (6, .int .i64 0), (7, .int .i64 (p : Int))]) (by kernel_rfl) ?_
 refine WQ.thenN ?_
 refine WE.seq ?_
 refine WE.region ?_
 refine WO.run 1 0 [(17, .pointer (some ⟨g, 0, none⟩))] (by kernel_rfl) (by kernel_rfl) ?_
 refine WO.call (SQ.E 1 (by kernel_rfl)) 18 (by kernel_rfl) (run_d g s p _ (by omega) hs HB3) ?_
 rintro _ w4 ⟨rfl, HB6, F5⟩
 refine ⟨_, rfl, trivial, ?_⟩
 have HS := var_keep 3 (by kernel_rfl) HS F5 (ninC hgS (nin0 _))
 have HR := var_keep 4 (by kernel_rfl) HR F5 (ninC hgR (nin0 _))
 have HA := Fr.step HA F5 (inSL (by simp) inS0)
 refine WO.run 1 2 [(8, .string (str ((s.take (runE isD s p)).drop p)))] (by kernel_rfl) (by kernel_rfl) ?_
 refine WO.done (by kernel_rfl) ?_
 refine WQ.keep [0, 1, 2, 6, 7, 8] (e' := [(0, .pointer (some ⟨g, 0, none⟩)), (1, .int .i64 least), (2, .int .i64 most), (6, .int .i64 0), (7, .int .i64 (p : Int)), (8, .string (str ((s.take (runE isD s p)).drop p)))]) (by kernel_rfl) ?_
 refine WQ.thenN ?_
 refine WE.seq ?_
 refine WE.draw [.free, .free, .free, .still, .free, .free, .free, .free, .still, .free, .eff, .free, .free, .free, .free, .free] Same sameR (by kernel_rfl) 16 (Array.replicate 16 false) (by kernel_rfl) rfl ?_
 intro w7 F8 _
 have HB6 := Blk.keep HB6 F8 (nin0 _)
 have HS := var_keep 3 (by kernel_rfl) HS F8 (nin0 _)
 have HR := var_keep 4 (by kernel_rfl) HR F8 (nin0 _)
 have HA := Fr.step0 HA F8
 refine WO.one (SA.F sameR sameT _ 0 _ (by kernel_rfl)) 20 (.pointer (some ⟨g, 0, none⟩)) (by kernel_rfl) ?_
 refine WO.one (SA.F sameR sameT _ 1 _ (by kernel_rfl)) 21 (.pointer (some ⟨g, 0, none⟩)) (by kernel_rfl) ?_
 refine WO.one (SA.F sameR sameT _ 2 _ (by kernel_rfl)) 22 (.pointer (some ⟨g, 0, none⟩)) (by kernel_rfl) ?_
 refine WO.ld (SA.S sameR sameT _ 3 _ (by kernel_rfl)) 23 (.string (str s)) (by kernel_rfl) (same (HB6.at 0 (by kernel_rfl))) ?_
 refine WO.one (SA.F sameR sameT _ 4 _ (by kernel_rfl)) 24 (.int .i64 (p : Int)) (by kernel_rfl) ?_
 refine WO.one (SA.F sameR sameT _ 5 _ (by kernel_rfl)) 25 (.pointer (some ⟨g, 0, none⟩)) (by kernel_rfl) ?_
 refine WO.one (SA.F sameR sameT _ 6 _ (by kernel_rfl)) 26 (.pointer (some ⟨g, 0, none⟩)) (by kernel_rfl) ?_
 refine WO.one (SA.F sameR sameT _ 7 _ (by kernel_rfl)) 27 (.pointer (some ⟨g, 1, none⟩)) (by kernel_rfl) ?_
 refine WO.ld (SA.S sameR sameT _ 8 _ (by kernel_rfl)) 28 (.int .i64 ((runE isD s p : Nat) : Int)) (by kernel_rfl) (same (HB6.at 1 (by kernel_rfl))) ?_
 refine WO.slS2 (lo := (p : Int)) (hi := ((runE isD s p : Nat) : Int)) (SA.F sameR sameT _ 9 _ (by kernel_rfl)) 29 p (runE isD s p) s (by kernel_rfl) (by rfl) (by rfl) (by omega) (by omega) ?_
 refine WO.call (SA.E _ 10 _ (by kernel_rfl) rfl) 30 (by kernel_rfl) (Tryd.strconv_ParseInt_10_at64_ok (str ((s.take (runE isD s p)).drop p)) (by rw [str_size, List.length_drop, List.length_take]; omega) v hpi _) ?_
 rintro _ w9 ⟨rfl, hbw⟩
 have F10 := fr_bytes hbw
 refine ⟨_, rfl, trivial, ?_⟩
 have HB6 := Blk.keep HB6 F10 (nin0 _)
 have HS := var_keep 3 (by kernel_rfl) HS F10 (nin0 _)
 have HR := var_keep 4 (by kernel_rfl) HR F10 (nin0 _)
 have HA := Fr.step0 HA F10
 refine WO.one (SA.F sameR sameT _ 11 _ (by kernel_rfl)) 19 (.tuple #[.int .i64 v, .nilIface]) (by kernel_rfl) ?_
 refine WO.one (SA.F sameR sameT _ 12 _ (by kernel_rfl)) 31 (.int .i64 v) (by kernel_rfl) ?_
 refine WO.one (SA.F sameR sameT _ 13 _ (by kernel_rfl)) 32 (.nilIface) (by kernel_rfl) ?_
 refine WO.one (SA.F sameR sameT _ 14 _ (by kernel_rfl)) 9 (.int .i64 v) (by kernel_rfl) ?_
 refine WO.one (SA.F sameR sameT _ 15 _ (by kernel_rfl)) 10 (.nilIface) (by kernel_rfl) ?_
 refine WO.doneA (by kernel_rfl) ?_
 refine WQ.keep [0, 1, 2, 6, 7, 8, 9, 10] (e' := [(0, .pointer (some ⟨g, 0, none⟩)), (1, .int .i64 least), (2, .int .i64 most), (6, .int .i64 0), (7, .int .i64 (p : Int)), (8, .string (str ((s.take (runE isD s p)).drop p))), (9, .int .i64 v), (10, .nilIface)]) (by kernel_rfl) ?_
 refine WQ.thenN ?_
 refine WE.seq ?_
 refine WE.seq ?_
 refine WE.draw [.free, .free, .free, .free, .free, .free, .free, .free, .free, .free, .free, .free, .free, .free, .free, .free, .free, .free, .free, .free, .still, .free, .free, .free, .free, .still, .free, .free, .free, .free, .free, .free, .free, .free, .free, .free, .free, .free, .free, .free] Same sameR (by kernel_rfl) 40 (Array.replicate 40 false) (by kernel_rfl) rfl ?_
 intro w11 F12 _
 have HB6 := Blk.keep HB6 F12 (nin0 _)
 have HS := var_keep 3 (by kernel_rfl) HS F12 (nin0 _)
 have HR := var_keep 4 (by kernel_rfl) HR F12 (nin0 _)
 have HA := Fr.step0 HA F12
 refine WO.one (SA.F sameR sameT _ 0 _ (by kernel_rfl)) 33 (.nilIface) (by kernel_rfl) ?_
 refine WO.one (SA.F sameR sameT _ 1 _ (by kernel_rfl)) 34 (.bool false) (by kernel_rfl) ?_
 refine WO.one (SA.F sameR sameT _ 2 _ (by kernel_rfl)) 35 (.bool false) (by kernel_rfl) ?_
 refine WO.one (SA.F sameR sameT _ 3 _ (by kernel_rfl)) 36 (.string (str ((s.take (runE isD s p)).drop p))) (by kernel_rfl) ?_
 refine WO.one (SA.F sameR sameT _ 4 _ (by kernel_rfl)) 37 (.int .i64 (((s.take (runE isD s p)).drop p).length : Int)) (by kernel_rfl) ?_
 refine WO.one (SA.F sameR sameT _ 5 _ (by kernel_rfl)) 38 (.bool (decide (((((s.take (runE isD s p)).drop p).length : Int) : Int) > (1 : Int)))) (by kernel_rfl) ?_
 refine WO.topP (((((s.take (runE isD s p)).drop p).length : Int) : Int) > (1 : Int)) ?_ ?_
 ·
  intro h13
  refine WO.one (SA.F sameR sameT _ 6 _ (by kernel_rfl)) 39 (.bool true) (by kernel_rfl) ?_
  refine WO.one (SA.F sameR sameT _ 7 _ (by kernel_rfl)) 40 (.string (str ((s.take (runE isD s p)).drop p))) (by kernel_rfl) ?_
  refine WO.ixS (i := 0) (SA.F sameR sameT _ 8 _ (by kernel_rfl)) 41 0 ((s.take (runE isD s p)).drop p) (by kernel_rfl) (by rfl) (by omega) ?_
  refine WO.one (SA.F sameR sameT _ 9 _ (by kernel_rfl)) 42 (.bool (decide ((((gB ((s.take (runE isD s p)).drop p) 0).toNat : Int) : Int) = (48 : Int)))) (by kernel_rfl) ?_
  refine WO.topP ((((gB ((s.take (runE isD s p)).drop p) 0).toNat : Int) : Int) = (48 : Int)) ?_ ?_
  ·
   intro h14
   refine WO.one (SA.F sameR sameT _ 10 _ (by kernel_rfl)) 43 (.bool true) (by kernel_rfl) ?_
   refine WO.one (SA.F sameR sameT _ 11 _ (by kernel_rfl)) 44 (.bool true) (by kernel_rfl) ?_
   refine WO.one (SA.F sameR sameT _ 12 _ (by kernel_rfl)) 45 (.bool true) (by kernel_rfl) ?_
   refine WO.off (SA.O sameR sameT _ 13 _ (by kernel_rfl)) 46 (by kernel_rfl) ?_
   refine WO.off (SA.O sameR sameT _ 14 _ (by kernel_rfl)) 47 (by kernel_rfl) ?_
   refine WO.off (SA.O sameR sameT _ 15 _ (by kernel_rfl)) 48 (by kernel_rfl) ?_
   refine WO.off (SA.O sameR sameT _ 16 _ (by kernel_rfl)) 49 (by kernel_rfl) ?_
   refine WO.off (SA.O sameR sameT _ 17 _ (by kernel_rfl)) 50 (by kernel_rfl) ?_
   refine WO.off (SA.O sameR sameT _ 18 _ (by kernel_rfl)) 51 (by kernel_rfl) ?_
   refine WO.off (SA.O sameR sameT _ 19 _ (by kernel_rfl)) 52 (by kernel_rfl) ?_
   refine WO.off (SA.O sameR sameT _ 20 _ (by kernel_rfl)) 53 (by kernel_rfl) ?_
   refine WO.off (SA.O sameR sameT _ 21 _ (by kernel_rfl)) 54 (by kernel_rfl) ?_
   refine WO.off (SA.O sameR sameT _ 22 _ (by kernel_rfl)) 55 (by kernel_rfl) ?_
   refine WO.off (SA.O sameR sameT _ 23 _ (by kernel_rfl)) 56 (by kernel_rfl) ?_
   refine WO.off (SA.O sameR sameT _ 24 _ (by kernel_rfl)) 57 (by kernel_rfl) ?_
   refine WO.off (SA.O sameR sameT _ 25 _ (by kernel_rfl)) 58 (by kernel_rfl) ?_
   refine WO.off (SA.O sameR sameT _ 26 _ (by kernel_rfl)) 59 (by kernel_rfl) ?_
   refine WO.off (SA.O sameR sameT _ 27 _ (by kernel_rfl)) 60 (by kernel_rfl) ?_
   refine WO.off (SA.O sameR sameT _ 28 _ (by kernel_rfl)) 61 (by kernel_rfl) ?_
   refine WO.one (SA.F sameR sameT _ 29 _ (by kernel_rfl)) 62 (.bool true) (by kernel_rfl) ?_
   refine WO.one (SA.F sameR sameT _ 30 _ (by kernel_rfl)) 63 (.bool true) (by kernel_rfl) ?_
   refine WO.off (SA.O sameR sameT _ 31 _ (by kernel_rfl)) 64 (by kernel_rfl) ?_
   refine WO.off (SA.O sameR sameT _ 32 _ (by kernel_rfl)) 65 (by kernel_rfl) ?_
   refine WO.off (SA.O sameR sameT _ 33 _ (by kernel_rfl)) 66 (by kernel_rfl) ?_
   refine WO.one (SA.F sameR sameT _ 34 _ (by kernel_rfl)) 67 (.bool true) (by kernel_rfl) ?_
   refine WO.one (SA.F sameR sameT _ 35 _ (by kernel_rfl)) 68 (.bool true) (by kernel_rfl) ?_
   refine WO.off (SA.O sameR sameT _ 36 _ (by kernel_rfl)) 69 (by kernel_rfl) ?_
   refine WO.off (SA.O sameR sameT _ 37 _ (by kernel_rfl)) 70 (by kernel_rfl) ?_
   refine WO.off (SA.O sameR sameT _ 38 _ (by kernel_rfl)) 71 (by kernel_rfl) ?_
   refine WO.one (SA.F sameR sameT _ 39 _ (by kernel_rfl)) 72 (.bool true) (by kernel_rfl) ?_
   refine WO.doneA (by kernel_rfl) ?_
   refine WQ.keep [0, 1, 2, 6, 7, 8, 9, 10, 72] (e' := [(0, .pointer (some ⟨g, 0, none⟩)), (1, .int .i64 least), (2, .int .i64 most), (6, .int .i64 0), (7, .int .i64 (p : Int)), (8, .string (str ((s.take (runE isD s p)).drop p))), (9, .int .i64 v), (10, .nilIface), (72, .bool true)]) (by kernel_rfl) ?_
   refine WQ.thenN ?_
   refine WE.condT (by kernel_rfl) ?_
   refine WE.seq ?_
   refine WE.region ?_
   refine WO.run 2 0 [(74, .int .i64 (p : Int)), (73, .pointer (some ⟨g, 0, none⟩))] (by kernel_rfl) (by kernel_rfl) ?_
   refine WO.call (SQ.E 2 (by kernel_rfl)) 75 (by kernel_rfl) (fail_ok g s (runE isD s p) _ (by omega) hs ((p : Int) : Int) HB6) ?_
   rintro _ w15 ⟨rfl, HB17, F16⟩
   refine ⟨_, rfl, trivial, ?_⟩
   have HS := var_keep 3 (by kernel_rfl) HS F16 (ninC hgS (nin0 _))
   have HR := var_keep 4 (by kernel_rfl) HR F16 (ninC hgR (nin0 _))
   have HA := Fr.step HA F16 (inSL (by simp) inS0)
   refine WO.done (by kernel_rfl) ?_
   refine WQ.keep [0, 1, 2, 6, 7, 8, 9, 10, 72] (e' := [(0, .pointer (some ⟨g, 0, none⟩)), (1, .int .i64 least), (2, .int .i64 most), (6, .int .i64 0), (7, .int .i64 (p : Int)), (8, .string (str ((s.take (runE isD s p)).drop p))), (9, .int .i64 v), (10, .nilIface), (72, .bool true)]) (by kernel_rfl) ?_
   refine WQ.thenN ?_
   refine WE.seq ?_
   refine WE.region ?_
   refine WO.run 1 0 [(6, .int .i64 0)] (by kernel_rfl) (by kernel_rfl) ?_
   refine WO.done (by kernel_rfl) ?_
   refine WQ.keep [0, 1, 2, 6, 7, 8, 9, 10, 72] (e' := [(0, .pointer (some ⟨g, 0, none⟩)), (1, .int .i64 least), (2, .int .i64 most), (6, .int .i64 0), (7, .int .i64 (p : Int)), (8, .string (str ((s.take (runE isD s p)).drop p))), (9, .int .i64 v), (10, .nilIface), (72, .bool true)]) (by kernel_rfl) ?_
   refine WQ.thenN ?_
   refine WE.ret ?_
   refine WQ.thenR ?_
   refine WQ.ret (v := .int .i64 0) (by kernel_rfl) ?_
   have hn_ : numR s p (p) least most = none := by unfold numR; rw [hpi]; simp only; first | exact if_pos (.inl ⟨by omega, u8_eq (by show _ = (48 : Int); omega)⟩) | exact if_pos (.inr (.inl ⟨by omega, fun h_ => absurd (congrArg str h_) (by assumption)⟩)) | exact if_pos (.inr (.inr (.inl (by omega)))) | exact if_pos (.inr (.inr (.inr (by omega)))) | exact if_neg (num_not (by omega) (by omega) (by first | (intro a_ b_; omega) | (intro a_ b_; have h_ := congrArg (fun x : UInt8 => (x.toNat : Int)) b_; exact absurd h_ (by assumption))) (by first | (intro a_ b_; exact b_ (str_inj.1 (by assumption))) | (intro a_ b_; omega)))
   rw [hn_]
   exact ⟨rfl, HB17, HA⟩
  intro h14
  refine WO.one (SA.F sameR sameT _ 10 _ (by kernel_rfl)) 43 (.bool false) (by kernel_rfl) ?_
  refine WO.one (SA.F sameR sameT _ 11 _ (by kernel_rfl)) 44 (.bool false) (by kernel_rfl) ?_
  refine WO.one (SA.F sameR sameT _ 12 _ (by kernel_rfl)) 45 (.bool false) (by kernel_rfl) ?_
  refine WO.one (SA.F sameR sameT _ 13 _ (by kernel_rfl)) 46 (.int .i64 v) (by kernel_rfl) ?_
  refine WO.one (SA.F sameR sameT _ 14 _ (by kernel_rfl)) 47 (.bool (decide ((v : Int) = 0))) (by kernel_rfl) ?_
  refine WO.topP ((v : Int) = 0) ?_ ?_
  ·
   intro h18
   refine WO.one (SA.F sameR sameT _ 15 _ (by kernel_rfl)) 48 (.bool true) (by kernel_rfl) ?_
   refine WO.one (SA.F sameR sameT _ 16 _ (by kernel_rfl)) 49 (.string (str ((s.take (runE isD s p)).drop p))) (by kernel_rfl) ?_
   refine WO.one (SA.F sameR sameT _ 17 _ (by kernel_rfl)) 50 (.pointer (some ⟨g, 0, none⟩)) (by kernel_rfl) ?_
   refine WO.one (SA.F sameR sameT _ 18 _ (by kernel_rfl)) 51 (.pointer (some ⟨g, 0, none⟩)) (by kernel_rfl) ?_
   refine WO.one (SA.F sameR sameT _ 19 _ (by kernel_rfl)) 52 (.pointer (some ⟨g, 0, none⟩)) (by kernel_rfl) ?_
   refine WO.ld (SA.S sameR sameT _ 20 _ (by kernel_rfl)) 53 (.string (str s)) (by kernel_rfl) (same (HB6.at 0 (by kernel_rfl))) ?_
   refine WO.one (SA.F sameR sameT _ 21 _ (by kernel_rfl)) 54 (.int .i64 (p : Int)) (by kernel_rfl) ?_
   refine WO.one (SA.F sameR sameT _ 22 _ (by kernel_rfl)) 55 (.pointer (some ⟨g, 0, none⟩)) (by kernel_rfl) ?_
   refine WO.one (SA.F sameR sameT _ 23 _ (by kernel_rfl)) 56 (.pointer (some ⟨g, 0, none⟩)) (by kernel_rfl) ?_
   refine WO.one (SA.F sameR sameT _ 24 _ (by kernel_rfl)) 57 (.pointer (some ⟨g, 1, none⟩)) (by kernel_rfl) ?_
   refine WO.ld (SA.S sameR sameT _ 25 _ (by kernel_rfl)) 58 (.int .i64 ((runE isD s p : Nat) : Int)) (by kernel_rfl) (same (HB6.at 1 (by kernel_rfl))) ?_
   refine WO.slS2 (lo := (p : Int)) (hi := ((runE isD s p : Nat) : Int)) (SA.F sameR sameT _ 26 _ (by kernel_rfl)) 59 p (runE isD s p) s (by kernel_rfl) (by rfl) (by rfl) (by omega) (by omega) ?_
   refine WO.one (SA.F sameR sameT _ 27 _ (by kernel_rfl)) 60 (.bool (!((str ((s.take (runE isD s p)).drop p)).toList == (str ((s.take (runE isD s p)).drop p)).toList))) (by kernel_rfl) ?_
   refine WO.top (v' := .bool (!decide ((str ((s.take (runE isD s p)).drop p)) = (str ((s.take (runE isD s p)).drop p))))) (congrArg Value.bool (congrArg not (streq (str ((s.take (runE isD s p)).drop p)) (str ((s.take (runE isD s p)).drop p))))) ?_
   refine WO.topN ((str ((s.take (runE isD s p)).drop p)) = (str ((s.take (runE isD s p)).drop p))) ?_ ?_
   ·
    intro h19
    refine WO.one (SA.F sameR sameT _ 28 _ (by kernel_rfl)) 61 (.bool false) (by kernel_rfl) ?_
    refine WO.one (SA.F sameR sameT _ 29 _ (by kernel_rfl)) 62 (.bool false) (by kernel_rfl) ?_
    refine WO.one (SA.F sameR sameT _ 30 _ (by kernel_rfl)) 63 (.bool false) (by kernel_rfl) ?_
    refine WO.one (SA.F sameR sameT _ 31 _ (by kernel_rfl)) 64 (.int .i64 v) (by kernel_rfl) ?_
    refine WO.one (SA.F sameR sameT _ 32 _ (by kernel_rfl)) 65 (.int .i64 least) (by kernel_rfl) ?_
    refine WO.one (SA.F sameR sameT _ 33 _ (by kernel_rfl)) 66 (.bool (decide ((v : Int) < least))) (by kernel_rfl) ?_
    refine WO.topP ((v : Int) < least) ?_ ?_
    ·
     intro h20
     refine WO.one (SA.F sameR sameT _ 34 _ (by kernel_rfl)) 67 (.bool true) (by kernel_rfl) ?_
     refine WO.one (SA.F sameR sameT _ 35 _ (by kernel_rfl)) 68 (.bool true) (by kernel_rfl) ?_
     refine WO.off (SA.O sameR sameT _ 36 _ (by kernel_rfl)) 69 (by kernel_rfl) ?_
     refine WO.off (SA.O sameR sameT _ 37 _ (by kernel_rfl)) 70 (by kernel_rfl) ?_
     refine WO.off (SA.O sameR sameT _ 38 _ (by kernel_rfl)) 71 (by kernel_rfl) ?_
     refine WO.one (SA.F sameR sameT _ 39 _ (by kernel_rfl)) 72 (.bool true) (by kernel_rfl) ?_
     refine WO.doneA (by kernel_rfl) ?_
     refine WQ.keep [0, 1, 2, 6, 7, 8, 9, 10, 72] (e' := [(0, .pointer (some ⟨g, 0, none⟩)), (1, .int .i64 least), (2, .int .i64 most), (6, .int .i64 0), (7, .int .i64 (p : Int)), (8, .string (str ((s.take (runE isD s p)).drop p))), (9, .int .i64 v), (10, .nilIface), (72, .bool true)]) (by kernel_rfl) ?_
     refine WQ.thenN ?_
     refine WE.condT (by kernel_rfl) ?_
     refine WE.seq ?_
     refine WE.region ?_
     refine WO.run 2 0 [(74, .int .i64 (p : Int)), (73, .pointer (some ⟨g, 0, none⟩))] (by kernel_rfl) (by kernel_rfl) ?_
     refine WO.call (SQ.E 2 (by kernel_rfl)) 75 (by kernel_rfl) (fail_ok g s (runE isD s p) _ (by omega) hs ((p : Int) : Int) HB6) ?_
     rintro _ w21 ⟨rfl, HB23, F22⟩
     refine ⟨_, rfl, trivial, ?_⟩
     have HS := var_keep 3 (by kernel_rfl) HS F22 (ninC hgS (nin0 _))
     have HR := var_keep 4 (by kernel_rfl) HR F22 (ninC hgR (nin0 _))
     have HA := Fr.step HA F22 (inSL (by simp) inS0)
     refine WO.done (by kernel_rfl) ?_
     refine WQ.keep [0, 1, 2, 6, 7, 8, 9, 10, 72] (e' := [(0, .pointer (some ⟨g, 0, none⟩)), (1, .int .i64 least), (2, .int .i64 most), (6, .int .i64 0), (7, .int .i64 (p : Int)), (8, .string (str ((s.take (runE isD s p)).drop p))), (9, .int .i64 v), (10, .nilIface), (72, .bool true)]) (by kernel_rfl) ?_
     refine WQ.thenN ?_
     refine WE.seq ?_
     refine WE.region ?_
     refine WO.run 1 0 [(6, .int .i64 0)] (by kernel_rfl) (by kernel_rfl) ?_
     refine WO.done (by kernel_rfl) ?_
     refine WQ.keep [0, 1, 2, 6, 7, 8, 9, 10, 72] (e' := [(0, .pointer (some ⟨g, 0, none⟩)), (1, .int .i64 least), (2, .int .i64 most), (6, .int .i64 0), (7, .int .i64 (p : Int)), (8, .string (str ((s.take (runE isD s p)).drop p))), (9, .int .i64 v), (10, .nilIface), (72, .bool true)]) (by kernel_rfl) ?_
     refine WQ.thenN ?_
     refine WE.ret ?_
     refine WQ.thenR ?_
     refine WQ.ret (v := .int .i64 0) (by kernel_rfl) ?_
     have hn_ : numR s p (p) least most = none := by unfold numR; rw [hpi]; simp only; first | exact if_pos (.inl ⟨by omega, u8_eq (by show _ = (48 : Int); omega)⟩) | exact if_pos (.inr (.inl ⟨by omega, fun h_ => absurd (congrArg str h_) (by assumption)⟩)) | exact if_pos (.inr (.inr (.inl (by omega)))) | exact if_pos (.inr (.inr (.inr (by omega)))) | exact if_neg (num_not (by omega) (by omega) (by first | (intro a_ b_; omega) | (intro a_ b_; have h_ := congrArg (fun x : UInt8 => (x.toNat : Int)) b_; exact absurd h_ (by assumption))) (by first | (intro a_ b_; exact b_ (str_inj.1 (by assumption))) | (intro a_ b_; omega)))
     rw [hn_]
     exact ⟨rfl, HB23, HA⟩
    intro h20
    refine WO.one (SA.F sameR sameT _ 34 _ (by kernel_rfl)) 67 (.bool false) (by kernel_rfl) ?_
    refine WO.one (SA.F sameR sameT _ 35 _ (by kernel_rfl)) 68 (.bool false) (by kernel_rfl) ?_
    refine WO.one (SA.F sameR sameT _ 36 _ (by kernel_rfl)) 69 (.int .i64 v) (by kernel_rfl) ?_
    refine WO.one (SA.F sameR sameT _ 37 _ (by kernel_rfl)) 70 (.int .i64 most) (by kernel_rfl) ?_
    refine WO.one (SA.F sameR sameT _ 38 _ (by kernel_rfl)) 71 (.bool (decide ((v : Int) > most))) (by kernel_rfl) ?_
    refine WO.topP ((v : Int) > most) ?_ ?_
    ·
     intro h24
     refine WO.one (SA.F sameR sameT _ 39 _ (by kernel_rfl)) 72 (.bool true) (by kernel_rfl) ?_
     refine WO.doneA (by kernel_rfl) ?_
     refine WQ.keep [0, 1, 2, 6, 7, 8, 9, 10, 72] (e' := [(0, .pointer (some ⟨g, 0, none⟩)), (1, .int .i64 least), (2, .int .i64 most), (6, .int .i64 0), (7, .int .i64 (p : Int)), (8, .string (str ((s.take (runE isD s p)).drop p))), (9, .int .i64 v), (10, .nilIface), (72, .bool true)]) (by kernel_rfl) ?_
     refine WQ.thenN ?_
     refine WE.condT (by kernel_rfl) ?_
     refine WE.seq ?_
     refine WE.region ?_
     refine WO.run 2 0 [(74, .int .i64 (p : Int)), (73, .pointer (some ⟨g, 0, none⟩))] (by kernel_rfl) (by kernel_rfl) ?_
     refine WO.call (SQ.E 2 (by kernel_rfl)) 75 (by kernel_rfl) (fail_ok g s (runE isD s p) _ (by omega) hs ((p : Int) : Int) HB6) ?_
     rintro _ w25 ⟨rfl, HB27, F26⟩
     refine ⟨_, rfl, trivial, ?_⟩
     have HS := var_keep 3 (by kernel_rfl) HS F26 (ninC hgS (nin0 _))
     have HR := var_keep 4 (by kernel_rfl) HR F26 (ninC hgR (nin0 _))
     have HA := Fr.step HA F26 (inSL (by simp) inS0)
     refine WO.done (by kernel_rfl) ?_
     refine WQ.keep [0, 1, 2, 6, 7, 8, 9, 10, 72] (e' := [(0, .pointer (some ⟨g, 0, none⟩)), (1, .int .i64 least), (2, .int .i64 most), (6, .int .i64 0), (7, .int .i64 (p : Int)), (8, .string (str ((s.take (runE isD s p)).drop p))), (9, .int .i64 v), (10, .nilIface), (72, .bool true)]) (by kernel_rfl) ?_
     refine WQ.thenN ?_
     refine WE.seq ?_
     refine WE.region ?_
     refine WO.run 1 0 [(6, .int .i64 0)] (by kernel_rfl) (by kernel_rfl) ?_
     refine WO.done (by kernel_rfl) ?_
     refine WQ.keep [0, 1, 2, 6, 7, 8, 9, 10, 72] (e' := [(0, .pointer (some ⟨g, 0, none⟩)), (1, .int .i64 least), (2, .int .i64 most), (6, .int .i64 0), (7, .int .i64 (p : Int)), (8, .string (str ((s.take (runE isD s p)).drop p))), (9, .int .i64 v), (10, .nilIface), (72, .bool true)]) (by kernel_rfl) ?_
     refine WQ.thenN ?_
     refine WE.ret ?_
     refine WQ.thenR ?_
     refine WQ.ret (v := .int .i64 0) (by kernel_rfl) ?_
     have hn_ : numR s p (p) least most = none := by unfold numR; rw [hpi]; simp only; first | exact if_pos (.inl ⟨by omega, u8_eq (by show _ = (48 : Int); omega)⟩) | exact if_pos (.inr (.inl ⟨by omega, fun h_ => absurd (congrArg str h_) (by assumption)⟩)) | exact if_pos (.inr (.inr (.inl (by omega)))) | exact if_pos (.inr (.inr (.inr (by omega)))) | exact if_neg (num_not (by omega) (by omega) (by first | (intro a_ b_; omega) | (intro a_ b_; have h_ := congrArg (fun x : UInt8 => (x.toNat : Int)) b_; exact absurd h_ (by assumption))) (by first | (intro a_ b_; exact b_ (str_inj.1 (by assumption))) | (intro a_ b_; omega)))
     rw [hn_]
     exact ⟨rfl, HB27, HA⟩
    intro h24
    refine WO.one (SA.F sameR sameT _ 39 _ (by kernel_rfl)) 72 (.bool false) (by kernel_rfl) ?_
    refine WO.doneA (by kernel_rfl) ?_
    refine WQ.keep [0, 1, 2, 6, 7, 8, 9, 10, 72] (e' := [(0, .pointer (some ⟨g, 0, none⟩)), (1, .int .i64 least), (2, .int .i64 most), (6, .int .i64 0), (7, .int .i64 (p : Int)), (8, .string (str ((s.take (runE isD s p)).drop p))), (9, .int .i64 v), (10, .nilIface), (72, .bool false)]) (by kernel_rfl) ?_
    refine WQ.thenN ?_
    refine WE.condF (by kernel_rfl) ?_
    refine WE.skip ?_
    refine WQ.thenN ?_
    refine WE.seq ?_
    refine WE.region ?_
    refine WO.run 2 0 [(6, .int .i64 v), (76, .int .i64 v)] (by kernel_rfl) (by kernel_rfl) ?_
    refine WO.done (by kernel_rfl) ?_
    refine WQ.keep [0, 1, 2, 6, 7, 8, 9, 10, 72] (e' := [(0, .pointer (some ⟨g, 0, none⟩)), (1, .int .i64 least), (2, .int .i64 most), (6, .int .i64 v), (7, .int .i64 (p : Int)), (8, .string (str ((s.take (runE isD s p)).drop p))), (9, .int .i64 v), (10, .nilIface), (72, .bool false)]) (by kernel_rfl) ?_
    refine WQ.thenN ?_
    refine WE.ret ?_
    refine WQ.ret (v := .int .i64 v) (by kernel_rfl) ?_
    have hn_ : numR s p (p) least most = some v := by unfold numR; rw [hpi]; simp only; first | exact if_pos (.inl ⟨by omega, u8_eq (by show _ = (48 : Int); omega)⟩) | exact if_pos (.inr (.inl ⟨by omega, fun h_ => absurd (congrArg str h_) (by assumption)⟩)) | exact if_pos (.inr (.inr (.inl (by omega)))) | exact if_pos (.inr (.inr (.inr (by omega)))) | exact if_neg (num_not (by omega) (by omega) (by first | (intro a_ b_; omega) | (intro a_ b_; have h_ := congrArg (fun x : UInt8 => (x.toNat : Int)) b_; exact absurd h_ (by assumption))) (by first | (intro a_ b_; exact b_ (str_inj.1 (by assumption))) | (intro a_ b_; omega)))
    rw [hn_]
    exact ⟨rfl, HB6, HA⟩
   intro h19
   refine WO.one (SA.F sameR sameT _ 28 _ (by kernel_rfl)) 61 (.bool true) (by kernel_rfl) ?_
   refine WO.one (SA.F sameR sameT _ 29 _ (by kernel_rfl)) 62 (.bool true) (by kernel_rfl) ?_
   refine WO.one (SA.F sameR sameT _ 30 _ (by kernel_rfl)) 63 (.bool true) (by kernel_rfl) ?_
   refine WO.off (SA.O sameR sameT _ 31 _ (by kernel_rfl)) 64 (by kernel_rfl) ?_
   refine WO.off (SA.O sameR sameT _ 32 _ (by kernel_rfl)) 65 (by kernel_rfl) ?_
   refine WO.off (SA.O sameR sameT _ 33 _ (by kernel_rfl)) 66 (by kernel_rfl) ?_
   refine WO.one (SA.F sameR sameT _ 34 _ (by kernel_rfl)) 67 (.bool true) (by kernel_rfl) ?_
   refine WO.one (SA.F sameR sameT _ 35 _ (by kernel_rfl)) 68 (.bool true) (by kernel_rfl) ?_
   refine WO.off (SA.O sameR sameT _ 36 _ (by kernel_rfl)) 69 (by kernel_rfl) ?_
   refine WO.off (SA.O sameR sameT _ 37 _ (by kernel_rfl)) 70 (by kernel_rfl) ?_
   refine WO.off (SA.O sameR sameT _ 38 _ (by kernel_rfl)) 71 (by kernel_rfl) ?_
   refine WO.one (SA.F sameR sameT _ 39 _ (by kernel_rfl)) 72 (.bool true) (by kernel_rfl) ?_
   refine WO.doneA (by kernel_rfl) ?_
   refine WQ.keep [0, 1, 2, 6, 7, 8, 9, 10, 72] (e' := [(0, .pointer (some ⟨g, 0, none⟩)), (1, .int .i64 least), (2, .int .i64 most), (6, .int .i64 0), (7, .int .i64 (p : Int)), (8, .string (str ((s.take (runE isD s p)).drop p))), (9, .int .i64 v), (10, .nilIface), (72, .bool true)]) (by kernel_rfl) ?_
   refine WQ.thenN ?_
   refine WE.condT (by kernel_rfl) ?_
   refine WE.seq ?_
   refine WE.region ?_
   refine WO.run 2 0 [(74, .int .i64 (p : Int)), (73, .pointer (some ⟨g, 0, none⟩))] (by kernel_rfl) (by kernel_rfl) ?_
   refine WO.call (SQ.E 2 (by kernel_rfl)) 75 (by kernel_rfl) (fail_ok g s (runE isD s p) _ (by omega) hs ((p : Int) : Int) HB6) ?_
   rintro _ w28 ⟨rfl, HB30, F29⟩
   refine ⟨_, rfl, trivial, ?_⟩
   have HS := var_keep 3 (by kernel_rfl) HS F29 (ninC hgS (nin0 _))
   have HR := var_keep 4 (by kernel_rfl) HR F29 (ninC hgR (nin0 _))
   have HA := Fr.step HA F29 (inSL (by simp) inS0)
   refine WO.done (by kernel_rfl) ?_
   refine WQ.keep [0, 1, 2, 6, 7, 8, 9, 10, 72] (e' := [(0, .pointer (some ⟨g, 0, none⟩)), (1, .int .i64 least), (2, .int .i64 most), (6, .int .i64 0), (7, .int .i64 (p : Int)), (8, .string (str ((s.take (runE isD s p)).drop p))), (9, .int .i64 v), (10, .nilIface), (72, .bool true)]) (by kernel_rfl) ?_
   refine WQ.thenN ?_
   refine WE.seq ?_
   refine WE.region ?_
   refine WO.run 1 0 [(6, .int .i64 0)] (by kernel_rfl) (by kernel_rfl) ?_
   refine WO.done (by kernel_rfl) ?_
   refine WQ.keep [0, 1, 2, 6, 7, 8, 9, 10, 72] (e' := [(0, .pointer (some ⟨g, 0, none⟩)), (1, .int .i64 least), (2, .int .i64 most), (6, .int .i64 0), (7, .int .i64 (p : Int)), (8, .string (str ((s.take (runE isD s p)).drop p))), (9, .int .i64 v), (10, .nilIface), (72, .bool true)]) (by kernel_rfl) ?_
   refine WQ.thenN ?_
   refine WE.ret ?_
   refine WQ.thenR ?_
   refine WQ.ret (v := .int .i64 0) (by kernel_rfl) ?_
   have hn_ : numR s p (p) least most = none := by unfold numR; rw [hpi]; simp only; first | exact if_pos (.inl ⟨by omega, u8_eq (by show _ = (48 : Int); omega)⟩) | exact if_pos (.inr (.inl ⟨by omega, fun h_ => absurd (congrArg str h_) (by assumption)⟩)) | exact if_pos (.inr (.inr (.inl (by omega)))) | exact if_pos (.inr (.inr (.inr (by omega)))) | exact if_neg (num_not (by omega) (by omega) (by first | (intro a_ b_; omega) | (intro a_ b_; have h_ := congrArg (fun x : UInt8 => (x.toNat : Int)) b_; exact absurd h_ (by assumption))) (by first | (intro a_ b_; exact b_ (str_inj.1 (by assumption))) | (intro a_ b_; omega)))
   rw [hn_]
   exact ⟨rfl, HB30, HA⟩
  intro h18
  refine WO.one (SA.F sameR sameT _ 15 _ (by kernel_rfl)) 48 (.bool false) (by kernel_rfl) ?_
  refine WO.off (SA.O sameR sameT _ 16 _ (by kernel_rfl)) 49 (by kernel_rfl) ?_
  refine WO.off (SA.O sameR sameT _ 17 _ (by kernel_rfl)) 50 (by kernel_rfl) ?_
  refine WO.off (SA.O sameR sameT _ 18 _ (by kernel_rfl)) 51 (by kernel_rfl) ?_
  refine WO.off (SA.O sameR sameT _ 19 _ (by kernel_rfl)) 52 (by kernel_rfl) ?_
  refine WO.off (SA.O sameR sameT _ 20 _ (by kernel_rfl)) 53 (by kernel_rfl) ?_
  refine WO.off (SA.O sameR sameT _ 21 _ (by kernel_rfl)) 54 (by kernel_rfl) ?_
  refine WO.off (SA.O sameR sameT _ 22 _ (by kernel_rfl)) 55 (by kernel_rfl) ?_
  refine WO.off (SA.O sameR sameT _ 23 _ (by kernel_rfl)) 56 (by kernel_rfl) ?_
  refine WO.off (SA.O sameR sameT _ 24 _ (by kernel_rfl)) 57 (by kernel_rfl) ?_
  refine WO.off (SA.O sameR sameT _ 25 _ (by kernel_rfl)) 58 (by kernel_rfl) ?_
  refine WO.off (SA.O sameR sameT _ 26 _ (by kernel_rfl)) 59 (by kernel_rfl) ?_
  refine WO.off (SA.O sameR sameT _ 27 _ (by kernel_rfl)) 60 (by kernel_rfl) ?_
  refine WO.one (SA.F sameR sameT _ 28 _ (by kernel_rfl)) 61 (.bool false) (by kernel_rfl) ?_
  refine WO.one (SA.F sameR sameT _ 29 _ (by kernel_rfl)) 62 (.bool false) (by kernel_rfl) ?_
  refine WO.one (SA.F sameR sameT _ 30 _ (by kernel_rfl)) 63 (.bool false) (by kernel_rfl) ?_
  refine WO.one (SA.F sameR sameT _ 31 _ (by kernel_rfl)) 64 (.int .i64 v) (by kernel_rfl) ?_
  refine WO.one (SA.F sameR sameT _ 32 _ (by kernel_rfl)) 65 (.int .i64 least) (by kernel_rfl) ?_
  refine WO.one (SA.F sameR sameT _ 33 _ (by kernel_rfl)) 66 (.bool (decide ((v : Int) < least))) (by kernel_rfl) ?_
  refine WO.topP ((v : Int) < least) ?_ ?_
  ·
   intro h31
   refine WO.one (SA.F sameR sameT _ 34 _ (by kernel_rfl)) 67 (.bool true) (by kernel_rfl) ?_
   refine WO.one (SA.F sameR sameT _ 35 _ (by kernel_rfl)) 68 (.bool true) (by kernel_rfl) ?_
   refine WO.off (SA.O sameR sameT _ 36 _ (by kernel_rfl)) 69 (by kernel_rfl) ?_
   refine WO.off (SA.O sameR sameT _ 37 _ (by kernel_rfl)) 70 (by kernel_rfl) ?_
   refine WO.off (SA.O sameR sameT _ 38 _ (by kernel_rfl)) 71 (by kernel_rfl) ?_
   refine WO.one (SA.F sameR sameT _ 39 _ (by kernel_rfl)) 72 (.bool true) (by kernel_rfl) ?_
   refine WO.doneA (by kernel_rfl) ?_
   refine WQ.keep [0, 1, 2, 6, 7, 8, 9, 10, 72] (e' := [(0, .pointer (some ⟨g, 0, none⟩)), (1, .int .i64 least), (2, .int .i64 most), (6, .int .i64 0), (7, .int .i64 (p : Int)), (8, .string (str ((s.take (runE isD s p)).drop p))), (9, .int .i64 v), (10, .nilIface), (72, .bool true)]) (by kernel_rfl) ?_
   refine WQ.thenN ?_
   refine WE.condT (by kernel_rfl) ?_
   refine WE.seq ?_
   refine WE.region ?_
   refine WO.run 2 0 [(74, .int .i64 (p : Int)), (73, .pointer (some ⟨g, 0, none⟩))] (by kernel_rfl) (by kernel_rfl) ?_
   refine WO.call (SQ.E 2 (by kernel_rfl)) 75 (by kernel_rfl) (fail_ok g s (runE isD s p) _ (by omega) hs ((p : Int) : Int) HB6) ?_
   rintro _ w32 ⟨rfl, HB34, F33⟩
   refine ⟨_, rfl, trivial, ?_⟩
   have HS := var_keep 3 (by kernel_rfl) HS F33 (ninC hgS (nin0 _))
   have HR := var_keep 4 (by kernel_rfl) HR F33 (ninC hgR (nin0 _))
   have HA := Fr.step HA F33 (inSL (by simp) inS0)
   refine WO.done (by kernel_rfl) ?_
   refine WQ.keep [0, 1, 2, 6, 7, 8, 9, 10, 72] (e' := [(0, .pointer (some ⟨g, 0, none⟩)), (1, .int .i64 least), (2, .int .i64 most), (6, .int .i64 0), (7, .int .i64 (p : Int)), (8, .string (str ((s.take (runE isD s p)).drop p))), (9, .int .i64 v), (10, .nilIface), (72, .bool true)]) (by kernel_rfl) ?_
   refine WQ.thenN ?_
   refine WE.seq ?_
   refine WE.region ?_
   refine WO.run 1 0 [(6, .int .i64 0)] (by kernel_rfl) (by kernel_rfl) ?_
   refine WO.done (by kernel_rfl) ?_
   refine WQ.keep [0, 1, 2, 6, 7, 8, 9, 10, 72] (e' := [(0, .pointer (some ⟨g, 0, none⟩)), (1, .int .i64 least), (2, .int .i64 most), (6, .int .i64 0), (7, .int .i64 (p : Int)), (8, .string (str ((s.take (runE isD s p)).drop p))), (9, .int .i64 v), (10, .nilIface), (72, .bool true)]) (by kernel_rfl) ?_
   refine WQ.thenN ?_
   refine WE.ret ?_
   refine WQ.thenR ?_
   refine WQ.ret (v := .int .i64 0) (by kernel_rfl) ?_
   have hn_ : numR s p (p) least most = none := by unfold numR; rw [hpi]; simp only; first | exact if_pos (.inl ⟨by omega, u8_eq (by show _ = (48 : Int); omega)⟩) | exact if_pos (.inr (.inl ⟨by omega, fun h_ => absurd (congrArg str h_) (by assumption)⟩)) | exact if_pos (.inr (.inr (.inl (by omega)))) | exact if_pos (.inr (.inr (.inr (by omega)))) | exact if_neg (num_not (by omega) (by omega) (by first | (intro a_ b_; omega) | (intro a_ b_; have h_ := congrArg (fun x : UInt8 => (x.toNat : Int)) b_; exact absurd h_ (by assumption))) (by first | (intro a_ b_; exact b_ (str_inj.1 (by assumption))) | (intro a_ b_; omega)))
   rw [hn_]
   exact ⟨rfl, HB34, HA⟩
  intro h31
  refine WO.one (SA.F sameR sameT _ 34 _ (by kernel_rfl)) 67 (.bool false) (by kernel_rfl) ?_
  refine WO.one (SA.F sameR sameT _ 35 _ (by kernel_rfl)) 68 (.bool false) (by kernel_rfl) ?_
  refine WO.one (SA.F sameR sameT _ 36 _ (by kernel_rfl)) 69 (.int .i64 v) (by kernel_rfl) ?_
  refine WO.one (SA.F sameR sameT _ 37 _ (by kernel_rfl)) 70 (.int .i64 most) (by kernel_rfl) ?_
  refine WO.one (SA.F sameR sameT _ 38 _ (by kernel_rfl)) 71 (.bool (decide ((v : Int) > most))) (by kernel_rfl) ?_
  refine WO.topP ((v : Int) > most) ?_ ?_
  ·
   intro h35
   refine WO.one (SA.F sameR sameT _ 39 _ (by kernel_rfl)) 72 (.bool true) (by kernel_rfl) ?_
   refine WO.doneA (by kernel_rfl) ?_
   refine WQ.keep [0, 1, 2, 6, 7, 8, 9, 10, 72] (e' := [(0, .pointer (some ⟨g, 0, none⟩)), (1, .int .i64 least), (2, .int .i64 most), (6, .int .i64 0), (7, .int .i64 (p : Int)), (8, .string (str ((s.take (runE isD s p)).drop p))), (9, .int .i64 v), (10, .nilIface), (72, .bool true)]) (by kernel_rfl) ?_
   refine WQ.thenN ?_
   refine WE.condT (by kernel_rfl) ?_
   refine WE.seq ?_
   refine WE.region ?_
   refine WO.run 2 0 [(74, .int .i64 (p : Int)), (73, .pointer (some ⟨g, 0, none⟩))] (by kernel_rfl) (by kernel_rfl) ?_
   refine WO.call (SQ.E 2 (by kernel_rfl)) 75 (by kernel_rfl) (fail_ok g s (runE isD s p) _ (by omega) hs ((p : Int) : Int) HB6) ?_
   rintro _ w36 ⟨rfl, HB38, F37⟩
   refine ⟨_, rfl, trivial, ?_⟩
   have HS := var_keep 3 (by kernel_rfl) HS F37 (ninC hgS (nin0 _))
   have HR := var_keep 4 (by kernel_rfl) HR F37 (ninC hgR (nin0 _))
   have HA := Fr.step HA F37 (inSL (by simp) inS0)
   refine WO.done (by kernel_rfl) ?_
   refine WQ.keep [0, 1, 2, 6, 7, 8, 9, 10, 72] (e' := [(0, .pointer (some ⟨g, 0, none⟩)), (1, .int .i64 least), (2, .int .i64 most), (6, .int .i64 0), (7, .int .i64 (p : Int)), (8, .string (str ((s.take (runE isD s p)).drop p))), (9, .int .i64 v), (10, .nilIface), (72, .bool true)]) (by kernel_rfl) ?_
   refine WQ.thenN ?_
   refine WE.seq ?_
   refine WE.region ?_
   refine WO.run 1 0 [(6, .int .i64 0)] (by kernel_rfl) (by kernel_rfl) ?_
   refine WO.done (by kernel_rfl) ?_
   refine WQ.keep [0, 1, 2, 6, 7, 8, 9, 10, 72] (e' := [(0, .pointer (some ⟨g, 0, none⟩)), (1, .int .i64 least), (2, .int .i64 most), (6, .int .i64 0), (7, .int .i64 (p : Int)), (8, .string (str ((s.take (runE isD s p)).drop p))), (9, .int .i64 v), (10, .nilIface), (72, .bool true)]) (by kernel_rfl) ?_
   refine WQ.thenN ?_
   refine WE.ret ?_
   refine WQ.thenR ?_
   refine WQ.ret (v := .int .i64 0) (by kernel_rfl) ?_
   have hn_ : numR s p (p) least most = none := by unfold numR; rw [hpi]; simp only; first | exact if_pos (.inl ⟨by omega, u8_eq (by show _ = (48 : Int); omega)⟩) | exact if_pos (.inr (.inl ⟨by omega, fun h_ => absurd (congrArg str h_) (by assumption)⟩)) | exact if_pos (.inr (.inr (.inl (by omega)))) | exact if_pos (.inr (.inr (.inr (by omega)))) | exact if_neg (num_not (by omega) (by omega) (by first | (intro a_ b_; omega) | (intro a_ b_; have h_ := congrArg (fun x : UInt8 => (x.toNat : Int)) b_; exact absurd h_ (by assumption))) (by first | (intro a_ b_; exact b_ (str_inj.1 (by assumption))) | (intro a_ b_; omega)))
   rw [hn_]
   exact ⟨rfl, HB38, HA⟩
  intro h35
  refine WO.one (SA.F sameR sameT _ 39 _ (by kernel_rfl)) 72 (.bool false) (by kernel_rfl) ?_
  refine WO.doneA (by kernel_rfl) ?_
  refine WQ.keep [0, 1, 2, 6, 7, 8, 9, 10, 72] (e' := [(0, .pointer (some ⟨g, 0, none⟩)), (1, .int .i64 least), (2, .int .i64 most), (6, .int .i64 0), (7, .int .i64 (p : Int)), (8, .string (str ((s.take (runE isD s p)).drop p))), (9, .int .i64 v), (10, .nilIface), (72, .bool false)]) (by kernel_rfl) ?_
  refine WQ.thenN ?_
  refine WE.condF (by kernel_rfl) ?_
  refine WE.skip ?_
  refine WQ.thenN ?_
  refine WE.seq ?_
  refine WE.region ?_
  refine WO.run 2 0 [(6, .int .i64 v), (76, .int .i64 v)] (by kernel_rfl) (by kernel_rfl) ?_
  refine WO.done (by kernel_rfl) ?_
  refine WQ.keep [0, 1, 2, 6, 7, 8, 9, 10, 72] (e' := [(0, .pointer (some ⟨g, 0, none⟩)), (1, .int .i64 least), (2, .int .i64 most), (6, .int .i64 v), (7, .int .i64 (p : Int)), (8, .string (str ((s.take (runE isD s p)).drop p))), (9, .int .i64 v), (10, .nilIface), (72, .bool false)]) (by kernel_rfl) ?_
  refine WQ.thenN ?_
  refine WE.ret ?_
  refine WQ.ret (v := .int .i64 v) (by kernel_rfl) ?_
  have hn_ : numR s p (p) least most = some v := by unfold numR; rw [hpi]; simp only; first | exact if_pos (.inl ⟨by omega, u8_eq (by show _ = (48 : Int); omega)⟩) | exact if_pos (.inr (.inl ⟨by omega, fun h_ => absurd (congrArg str h_) (by assumption)⟩)) | exact if_pos (.inr (.inr (.inl (by omega)))) | exact if_pos (.inr (.inr (.inr (by omega)))) | exact if_neg (num_not (by omega) (by omega) (by first | (intro a_ b_; omega) | (intro a_ b_; have h_ := congrArg (fun x : UInt8 => (x.toNat : Int)) b_; exact absurd h_ (by assumption))) (by first | (intro a_ b_; exact b_ (str_inj.1 (by assumption))) | (intro a_ b_; omega)))
  rw [hn_]
  exact ⟨rfl, HB6, HA⟩
 intro h13
 refine WO.one (SA.F sameR sameT _ 6 _ (by kernel_rfl)) 39 (.bool false) (by kernel_rfl) ?_
 refine WO.off (SA.O sameR sameT _ 7 _ (by kernel_rfl)) 40 (by kernel_rfl) ?_
 refine WO.off (SA.O sameR sameT _ 8 _ (by kernel_rfl)) 41 (by kernel_rfl) ?_
 refine WO.off (SA.O sameR sameT _ 9 _ (by kernel_rfl)) 42 (by kernel_rfl) ?_
 refine WO.one (SA.F sameR sameT _ 10 _ (by kernel_rfl)) 43 (.bool false) (by kernel_rfl) ?_
 refine WO.one (SA.F sameR sameT _ 11 _ (by kernel_rfl)) 44 (.bool false) (by kernel_rfl) ?_
 refine WO.one (SA.F sameR sameT _ 12 _ (by kernel_rfl)) 45 (.bool false) (by kernel_rfl) ?_
 refine WO.one (SA.F sameR sameT _ 13 _ (by kernel_rfl)) 46 (.int .i64 v) (by kernel_rfl) ?_
 refine WO.one (SA.F sameR sameT _ 14 _ (by kernel_rfl)) 47 (.bool (decide ((v : Int) = 0))) (by kernel_rfl) ?_
 refine WO.topP ((v : Int) = 0) ?_ ?_
 ·
  intro h39
  refine WO.one (SA.F sameR sameT _ 15 _ (by kernel_rfl)) 48 (.bool true) (by kernel_rfl) ?_
  refine WO.one (SA.F sameR sameT _ 16 _ (by kernel_rfl)) 49 (.string (str ((s.take (runE isD s p)).drop p))) (by kernel_rfl) ?_
  refine WO.one (SA.F sameR sameT _ 17 _ (by kernel_rfl)) 50 (.pointer (some ⟨g, 0, none⟩)) (by kernel_rfl) ?_
  refine WO.one (SA.F sameR sameT _ 18 _ (by kernel_rfl)) 51 (.pointer (some ⟨g, 0, none⟩)) (by kernel_rfl) ?_
  refine WO.one (SA.F sameR sameT _ 19 _ (by kernel_rfl)) 52 (.pointer (some ⟨g, 0, none⟩)) (by kernel_rfl) ?_
  refine WO.ld (SA.S sameR sameT _ 20 _ (by kernel_rfl)) 53 (.string (str s)) (by kernel_rfl) (same (HB6.at 0 (by kernel_rfl))) ?_
  refine WO.one (SA.F sameR sameT _ 21 _ (by kernel_rfl)) 54 (.int .i64 (p : Int)) (by kernel_rfl) ?_
  refine WO.one (SA.F sameR sameT _ 22 _ (by kernel_rfl)) 55 (.pointer (some ⟨g, 0, none⟩)) (by kernel_rfl) ?_
  refine WO.one (SA.F sameR sameT _ 23 _ (by kernel_rfl)) 56 (.pointer (some ⟨g, 0, none⟩)) (by kernel_rfl) ?_
  refine WO.one (SA.F sameR sameT _ 24 _ (by kernel_rfl)) 57 (.pointer (some ⟨g, 1, none⟩)) (by kernel_rfl) ?_
  refine WO.ld (SA.S sameR sameT _ 25 _ (by kernel_rfl)) 58 (.int .i64 ((runE isD s p : Nat) : Int)) (by kernel_rfl) (same (HB6.at 1 (by kernel_rfl))) ?_
  refine WO.slS2 (lo := (p : Int)) (hi := ((runE isD s p : Nat) : Int)) (SA.F sameR sameT _ 26 _ (by kernel_rfl)) 59 p (runE isD s p) s (by kernel_rfl) (by rfl) (by rfl) (by omega) (by omega) ?_
  refine WO.one (SA.F sameR sameT _ 27 _ (by kernel_rfl)) 60 (.bool (!((str ((s.take (runE isD s p)).drop p)).toList == (str ((s.take (runE isD s p)).drop p)).toList))) (by kernel_rfl) ?_
  refine WO.top (v' := .bool (!decide ((str ((s.take (runE isD s p)).drop p)) = (str ((s.take (runE isD s p)).drop p))))) (congrArg Value.bool (congrArg not (streq (str ((s.take (runE isD s p)).drop p)) (str ((s.take (runE isD s p)).drop p))))) ?_
  refine WO.topN ((str ((s.take (runE isD s p)).drop p)) = (str ((s.take (runE isD s p)).drop p))) ?_ ?_
  ·
   intro h40
   refine WO.one (SA.F sameR sameT _ 28 _ (by kernel_rfl)) 61 (.bool false) (by kernel_rfl) ?_
   refine WO.one (SA.F sameR sameT _ 29 _ (by kernel_rfl)) 62 (.bool false) (by kernel_rfl) ?_
   refine WO.one (SA.F sameR sameT _ 30 _ (by kernel_rfl)) 63 (.bool false) (by kernel_rfl) ?_
   refine WO.one (SA.F sameR sameT _ 31 _ (by kernel_rfl)) 64 (.int .i64 v) (by kernel_rfl) ?_
   refine WO.one (SA.F sameR sameT _ 32 _ (by kernel_rfl)) 65 (.int .i64 least) (by kernel_rfl) ?_
   refine WO.one (SA.F sameR sameT _ 33 _ (by kernel_rfl)) 66 (.bool (decide ((v : Int) < least))) (by kernel_rfl) ?_
   refine WO.topP ((v : Int) < least) ?_ ?_
   ·
    intro h41
    refine WO.one (SA.F sameR sameT _ 34 _ (by kernel_rfl)) 67 (.bool true) (by kernel_rfl) ?_
    refine WO.one (SA.F sameR sameT _ 35 _ (by kernel_rfl)) 68 (.bool true) (by kernel_rfl) ?_
    refine WO.off (SA.O sameR sameT _ 36 _ (by kernel_rfl)) 69 (by kernel_rfl) ?_
    refine WO.off (SA.O sameR sameT _ 37 _ (by kernel_rfl)) 70 (by kernel_rfl) ?_
    refine WO.off (SA.O sameR sameT _ 38 _ (by kernel_rfl)) 71 (by kernel_rfl) ?_
    refine WO.one (SA.F sameR sameT _ 39 _ (by kernel_rfl)) 72 (.bool true) (by kernel_rfl) ?_
    refine WO.doneA (by kernel_rfl) ?_
    refine WQ.keep [0, 1, 2, 6, 7, 8, 9, 10, 72] (e' := [(0, .pointer (some ⟨g, 0, none⟩)), (1, .int .i64 least), (2, .int .i64 most), (6, .int .i64 0), (7, .int .i64 (p : Int)), (8, .string (str ((s.take (runE isD s p)).drop p))), (9, .int .i64 v), (10, .nilIface), (72, .bool true)]) (by kernel_rfl) ?_
    refine WQ.thenN ?_
    refine WE.condT (by kernel_rfl) ?_
    refine WE.seq ?_
    refine WE.region ?_
    refine WO.run 2 0 [(74, .int .i64 (p : Int)), (73, .pointer (some ⟨g, 0, none⟩))] (by kernel_rfl) (by kernel_rfl) ?_
    refine WO.call (SQ.E 2 (by kernel_rfl)) 75 (by kernel_rfl) (fail_ok g s (runE isD s p) _ (by omega) hs ((p : Int) : Int) HB6) ?_
    rintro _ w42 ⟨rfl, HB44, F43⟩
    refine ⟨_, rfl, trivial, ?_⟩
    have HS := var_keep 3 (by kernel_rfl) HS F43 (ninC hgS (nin0 _))
    have HR := var_keep 4 (by kernel_rfl) HR F43 (ninC hgR (nin0 _))
    have HA := Fr.step HA F43 (inSL (by simp) inS0)
    refine WO.done (by kernel_rfl) ?_
    refine WQ.keep [0, 1, 2, 6, 7, 8, 9, 10, 72] (e' := [(0, .pointer (some ⟨g, 0, none⟩)), (1, .int .i64 least), (2, .int .i64 most), (6, .int .i64 0), (7, .int .i64 (p : Int)), (8, .string (str ((s.take (runE isD s p)).drop p))), (9, .int .i64 v), (10, .nilIface), (72, .bool true)]) (by kernel_rfl) ?_
    refine WQ.thenN ?_
    refine WE.seq ?_
    refine WE.region ?_
    refine WO.run 1 0 [(6, .int .i64 0)] (by kernel_rfl) (by kernel_rfl) ?_
    refine WO.done (by kernel_rfl) ?_
    refine WQ.keep [0, 1, 2, 6, 7, 8, 9, 10, 72] (e' := [(0, .pointer (some ⟨g, 0, none⟩)), (1, .int .i64 least), (2, .int .i64 most), (6, .int .i64 0), (7, .int .i64 (p : Int)), (8, .string (str ((s.take (runE isD s p)).drop p))), (9, .int .i64 v), (10, .nilIface), (72, .bool true)]) (by kernel_rfl) ?_
    refine WQ.thenN ?_
    refine WE.ret ?_
    refine WQ.thenR ?_
    refine WQ.ret (v := .int .i64 0) (by kernel_rfl) ?_
    have hn_ : numR s p (p) least most = none := by unfold numR; rw [hpi]; simp only; first | exact if_pos (.inl ⟨by omega, u8_eq (by show _ = (48 : Int); omega)⟩) | exact if_pos (.inr (.inl ⟨by omega, fun h_ => absurd (congrArg str h_) (by assumption)⟩)) | exact if_pos (.inr (.inr (.inl (by omega)))) | exact if_pos (.inr (.inr (.inr (by omega)))) | exact if_neg (num_not (by omega) (by omega) (by first | (intro a_ b_; omega) | (intro a_ b_; have h_ := congrArg (fun x : UInt8 => (x.toNat : Int)) b_; exact absurd h_ (by assumption))) (by first | (intro a_ b_; exact b_ (str_inj.1 (by assumption))) | (intro a_ b_; omega)))
    rw [hn_]
    exact ⟨rfl, HB44, HA⟩
   intro h41
   refine WO.one (SA.F sameR sameT _ 34 _ (by kernel_rfl)) 67 (.bool false) (by kernel_rfl) ?_
   refine WO.one (SA.F sameR sameT _ 35 _ (by kernel_rfl)) 68 (.bool false) (by kernel_rfl) ?_
   refine WO.one (SA.F sameR sameT _ 36 _ (by kernel_rfl)) 69 (.int .i64 v) (by kernel_rfl) ?_
   refine WO.one (SA.F sameR sameT _ 37 _ (by kernel_rfl)) 70 (.int .i64 most) (by kernel_rfl) ?_
   refine WO.one (SA.F sameR sameT _ 38 _ (by kernel_rfl)) 71 (.bool (decide ((v : Int) > most))) (by kernel_rfl) ?_
   refine WO.topP ((v : Int) > most) ?_ ?_
   ·
    intro h45
    refine WO.one (SA.F sameR sameT _ 39 _ (by kernel_rfl)) 72 (.bool true) (by kernel_rfl) ?_
    refine WO.doneA (by kernel_rfl) ?_
    refine WQ.keep [0, 1, 2, 6, 7, 8, 9, 10, 72] (e' := [(0, .pointer (some ⟨g, 0, none⟩)), (1, .int .i64 least), (2, .int .i64 most), (6, .int .i64 0), (7, .int .i64 (p : Int)), (8, .string (str ((s.take (runE isD s p)).drop p))), (9, .int .i64 v), (10, .nilIface), (72, .bool true)]) (by kernel_rfl) ?_
    refine WQ.thenN ?_
    refine WE.condT (by kernel_rfl) ?_
    refine WE.seq ?_
    refine WE.region ?_
    refine WO.run 2 0 [(74, .int .i64 (p : Int)), (73, .pointer (some ⟨g, 0, none⟩))] (by kernel_rfl) (by kernel_rfl) ?_
    refine WO.call (SQ.E 2 (by kernel_rfl)) 75 (by kernel_rfl) (fail_ok g s (runE isD s p) _ (by omega) hs ((p : Int) : Int) HB6) ?_
    rintro _ w46 ⟨rfl, HB48, F47⟩
    refine ⟨_, rfl, trivial, ?_⟩
    have HS := var_keep 3 (by kernel_rfl) HS F47 (ninC hgS (nin0 _))
    have HR := var_keep 4 (by kernel_rfl) HR F47 (ninC hgR (nin0 _))
    have HA := Fr.step HA F47 (inSL (by simp) inS0)
    refine WO.done (by kernel_rfl) ?_
    refine WQ.keep [0, 1, 2, 6, 7, 8, 9, 10, 72] (e' := [(0, .pointer (some ⟨g, 0, none⟩)), (1, .int .i64 least), (2, .int .i64 most), (6, .int .i64 0), (7, .int .i64 (p : Int)), (8, .string (str ((s.take (runE isD s p)).drop p))), (9, .int .i64 v), (10, .nilIface), (72, .bool true)]) (by kernel_rfl) ?_
    refine WQ.thenN ?_
    refine WE.seq ?_
    refine WE.region ?_
    refine WO.run 1 0 [(6, .int .i64 0)] (by kernel_rfl) (by kernel_rfl) ?_
    refine WO.done (by kernel_rfl) ?_
    refine WQ.keep [0, 1, 2, 6, 7, 8, 9, 10, 72] (e' := [(0, .pointer (some ⟨g, 0, none⟩)), (1, .int .i64 least), (2, .int .i64 most), (6, .int .i64 0), (7, .int .i64 (p : Int)), (8, .string (str ((s.take (runE isD s p)).drop p))), (9, .int .i64 v), (10, .nilIface), (72, .bool true)]) (by kernel_rfl) ?_
    refine WQ.thenN ?_
    refine WE.ret ?_
    refine WQ.thenR ?_
    refine WQ.ret (v := .int .i64 0) (by kernel_rfl) ?_
    have hn_ : numR s p (p) least most = none := by unfold numR; rw [hpi]; simp only; first | exact if_pos (.inl ⟨by omega, u8_eq (by show _ = (48 : Int); omega)⟩) | exact if_pos (.inr (.inl ⟨by omega, fun h_ => absurd (congrArg str h_) (by assumption)⟩)) | exact if_pos (.inr (.inr (.inl (by omega)))) | exact if_pos (.inr (.inr (.inr (by omega)))) | exact if_neg (num_not (by omega) (by omega) (by first | (intro a_ b_; omega) | (intro a_ b_; have h_ := congrArg (fun x : UInt8 => (x.toNat : Int)) b_; exact absurd h_ (by assumption))) (by first | (intro a_ b_; exact b_ (str_inj.1 (by assumption))) | (intro a_ b_; omega)))
    rw [hn_]
    exact ⟨rfl, HB48, HA⟩
   intro h45
   refine WO.one (SA.F sameR sameT _ 39 _ (by kernel_rfl)) 72 (.bool false) (by kernel_rfl) ?_
   refine WO.doneA (by kernel_rfl) ?_
   refine WQ.keep [0, 1, 2, 6, 7, 8, 9, 10, 72] (e' := [(0, .pointer (some ⟨g, 0, none⟩)), (1, .int .i64 least), (2, .int .i64 most), (6, .int .i64 0), (7, .int .i64 (p : Int)), (8, .string (str ((s.take (runE isD s p)).drop p))), (9, .int .i64 v), (10, .nilIface), (72, .bool false)]) (by kernel_rfl) ?_
   refine WQ.thenN ?_
   refine WE.condF (by kernel_rfl) ?_
   refine WE.skip ?_
   refine WQ.thenN ?_
   refine WE.seq ?_
   refine WE.region ?_
   refine WO.run 2 0 [(6, .int .i64 v), (76, .int .i64 v)] (by kernel_rfl) (by kernel_rfl) ?_
   refine WO.done (by kernel_rfl) ?_
   refine WQ.keep [0, 1, 2, 6, 7, 8, 9, 10, 72] (e' := [(0, .pointer (some ⟨g, 0, none⟩)), (1, .int .i64 least), (2, .int .i64 most), (6, .int .i64 v), (7, .int .i64 (p : Int)), (8, .string (str ((s.take (runE isD s p)).drop p))), (9, .int .i64 v), (10, .nilIface), (72, .bool false)]) (by kernel_rfl) ?_
   refine WQ.thenN ?_
   refine WE.ret ?_
   refine WQ.ret (v := .int .i64 v) (by kernel_rfl) ?_
   have hn_ : numR s p (p) least most = some v := by unfold numR; rw [hpi]; simp only; first | exact if_pos (.inl ⟨by omega, u8_eq (by show _ = (48 : Int); omega)⟩) | exact if_pos (.inr (.inl ⟨by omega, fun h_ => absurd (congrArg str h_) (by assumption)⟩)) | exact if_pos (.inr (.inr (.inl (by omega)))) | exact if_pos (.inr (.inr (.inr (by omega)))) | exact if_neg (num_not (by omega) (by omega) (by first | (intro a_ b_; omega) | (intro a_ b_; have h_ := congrArg (fun x : UInt8 => (x.toNat : Int)) b_; exact absurd h_ (by assumption))) (by first | (intro a_ b_; exact b_ (str_inj.1 (by assumption))) | (intro a_ b_; omega)))
   rw [hn_]
   exact ⟨rfl, HB6, HA⟩
  intro h40
  refine WO.one (SA.F sameR sameT _ 28 _ (by kernel_rfl)) 61 (.bool true) (by kernel_rfl) ?_
  refine WO.one (SA.F sameR sameT _ 29 _ (by kernel_rfl)) 62 (.bool true) (by kernel_rfl) ?_
  refine WO.one (SA.F sameR sameT _ 30 _ (by kernel_rfl)) 63 (.bool true) (by kernel_rfl) ?_
  refine WO.off (SA.O sameR sameT _ 31 _ (by kernel_rfl)) 64 (by kernel_rfl) ?_
  refine WO.off (SA.O sameR sameT _ 32 _ (by kernel_rfl)) 65 (by kernel_rfl) ?_
  refine WO.off (SA.O sameR sameT _ 33 _ (by kernel_rfl)) 66 (by kernel_rfl) ?_
  refine WO.one (SA.F sameR sameT _ 34 _ (by kernel_rfl)) 67 (.bool true) (by kernel_rfl) ?_
  refine WO.one (SA.F sameR sameT _ 35 _ (by kernel_rfl)) 68 (.bool true) (by kernel_rfl) ?_
  refine WO.off (SA.O sameR sameT _ 36 _ (by kernel_rfl)) 69 (by kernel_rfl) ?_
  refine WO.off (SA.O sameR sameT _ 37 _ (by kernel_rfl)) 70 (by kernel_rfl) ?_
  refine WO.off (SA.O sameR sameT _ 38 _ (by kernel_rfl)) 71 (by kernel_rfl) ?_
  refine WO.one (SA.F sameR sameT _ 39 _ (by kernel_rfl)) 72 (.bool true) (by kernel_rfl) ?_
  refine WO.doneA (by kernel_rfl) ?_
  refine WQ.keep [0, 1, 2, 6, 7, 8, 9, 10, 72] (e' := [(0, .pointer (some ⟨g, 0, none⟩)), (1, .int .i64 least), (2, .int .i64 most), (6, .int .i64 0), (7, .int .i64 (p : Int)), (8, .string (str ((s.take (runE isD s p)).drop p))), (9, .int .i64 v), (10, .nilIface), (72, .bool true)]) (by kernel_rfl) ?_
  refine WQ.thenN ?_
  refine WE.condT (by kernel_rfl) ?_
  refine WE.seq ?_
  refine WE.region ?_
  refine WO.run 2 0 [(74, .int .i64 (p : Int)), (73, .pointer (some ⟨g, 0, none⟩))] (by kernel_rfl) (by kernel_rfl) ?_
  refine WO.call (SQ.E 2 (by kernel_rfl)) 75 (by kernel_rfl) (fail_ok g s (runE isD s p) _ (by omega) hs ((p : Int) : Int) HB6) ?_
  rintro _ w49 ⟨rfl, HB51, F50⟩
  refine ⟨_, rfl, trivial, ?_⟩
  have HS := var_keep 3 (by kernel_rfl) HS F50 (ninC hgS (nin0 _))
  have HR := var_keep 4 (by kernel_rfl) HR F50 (ninC hgR (nin0 _))
  have HA := Fr.step HA F50 (inSL (by simp) inS0)
  refine WO.done (by kernel_rfl) ?_
  refine WQ.keep [0, 1, 2, 6, 7, 8, 9, 10, 72] (e' := [(0, .pointer (some ⟨g, 0, none⟩)), (1, .int .i64 least), (2, .int .i64 most), (6, .int .i64 0), (7, .int .i64 (p : Int)), (8, .string (str ((s.take (runE isD s p)).drop p))), (9, .int .i64 v), (10, .nilIface), (72, .bool true)]) (by kernel_rfl) ?_
  refine WQ.thenN ?_
  refine WE.seq ?_
  refine WE.region ?_
  refine WO.run 1 0 [(6, .int .i64 0)] (by kernel_rfl) (by kernel_rfl) ?_
  refine WO.done (by kernel_rfl) ?_
  refine WQ.keep [0, 1, 2, 6, 7, 8, 9, 10, 72] (e' := [(0, .pointer (some ⟨g, 0, none⟩)), (1, .int .i64 least), (2, .int .i64 most), (6, .int .i64 0), (7, .int .i64 (p : Int)), (8, .string (str ((s.take (runE isD s p)).drop p))), (9, .int .i64 v), (10, .nilIface), (72, .bool true)]) (by kernel_rfl) ?_
  refine WQ.thenN ?_
  refine WE.ret ?_
  refine WQ.thenR ?_
  refine WQ.ret (v := .int .i64 0) (by kernel_rfl) ?_
  have hn_ : numR s p (p) least most = none := by unfold numR; rw [hpi]; simp only; first | exact if_pos (.inl ⟨by omega, u8_eq (by show _ = (48 : Int); omega)⟩) | exact if_pos (.inr (.inl ⟨by omega, fun h_ => absurd (congrArg str h_) (by assumption)⟩)) | exact if_pos (.inr (.inr (.inl (by omega)))) | exact if_pos (.inr (.inr (.inr (by omega)))) | exact if_neg (num_not (by omega) (by omega) (by first | (intro a_ b_; omega) | (intro a_ b_; have h_ := congrArg (fun x : UInt8 => (x.toNat : Int)) b_; exact absurd h_ (by assumption))) (by first | (intro a_ b_; exact b_ (str_inj.1 (by assumption))) | (intro a_ b_; omega)))
  rw [hn_]
  exact ⟨rfl, HB51, HA⟩
 intro h39
 refine WO.one (SA.F sameR sameT _ 15 _ (by kernel_rfl)) 48 (.bool false) (by kernel_rfl) ?_
 refine WO.off (SA.O sameR sameT _ 16 _ (by kernel_rfl)) 49 (by kernel_rfl) ?_
 refine WO.off (SA.O sameR sameT _ 17 _ (by kernel_rfl)) 50 (by kernel_rfl) ?_
 refine WO.off (SA.O sameR sameT _ 18 _ (by kernel_rfl)) 51 (by kernel_rfl) ?_
 refine WO.off (SA.O sameR sameT _ 19 _ (by kernel_rfl)) 52 (by kernel_rfl) ?_
 refine WO.off (SA.O sameR sameT _ 20 _ (by kernel_rfl)) 53 (by kernel_rfl) ?_
 refine WO.off (SA.O sameR sameT _ 21 _ (by kernel_rfl)) 54 (by kernel_rfl) ?_
 refine WO.off (SA.O sameR sameT _ 22 _ (by kernel_rfl)) 55 (by kernel_rfl) ?_
 refine WO.off (SA.O sameR sameT _ 23 _ (by kernel_rfl)) 56 (by kernel_rfl) ?_
 refine WO.off (SA.O sameR sameT _ 24 _ (by kernel_rfl)) 57 (by kernel_rfl) ?_
 refine WO.off (SA.O sameR sameT _ 25 _ (by kernel_rfl)) 58 (by kernel_rfl) ?_
 refine WO.off (SA.O sameR sameT _ 26 _ (by kernel_rfl)) 59 (by kernel_rfl) ?_
 refine WO.off (SA.O sameR sameT _ 27 _ (by kernel_rfl)) 60 (by kernel_rfl) ?_
 refine WO.one (SA.F sameR sameT _ 28 _ (by kernel_rfl)) 61 (.bool false) (by kernel_rfl) ?_
 refine WO.one (SA.F sameR sameT _ 29 _ (by kernel_rfl)) 62 (.bool false) (by kernel_rfl) ?_
 refine WO.one (SA.F sameR sameT _ 30 _ (by kernel_rfl)) 63 (.bool false) (by kernel_rfl) ?_
 refine WO.one (SA.F sameR sameT _ 31 _ (by kernel_rfl)) 64 (.int .i64 v) (by kernel_rfl) ?_
 refine WO.one (SA.F sameR sameT _ 32 _ (by kernel_rfl)) 65 (.int .i64 least) (by kernel_rfl) ?_
 refine WO.one (SA.F sameR sameT _ 33 _ (by kernel_rfl)) 66 (.bool (decide ((v : Int) < least))) (by kernel_rfl) ?_
 refine WO.topP ((v : Int) < least) ?_ ?_
 ·
  intro h52
  refine WO.one (SA.F sameR sameT _ 34 _ (by kernel_rfl)) 67 (.bool true) (by kernel_rfl) ?_
  refine WO.one (SA.F sameR sameT _ 35 _ (by kernel_rfl)) 68 (.bool true) (by kernel_rfl) ?_
  refine WO.off (SA.O sameR sameT _ 36 _ (by kernel_rfl)) 69 (by kernel_rfl) ?_
  refine WO.off (SA.O sameR sameT _ 37 _ (by kernel_rfl)) 70 (by kernel_rfl) ?_
  refine WO.off (SA.O sameR sameT _ 38 _ (by kernel_rfl)) 71 (by kernel_rfl) ?_
  refine WO.one (SA.F sameR sameT _ 39 _ (by kernel_rfl)) 72 (.bool true) (by kernel_rfl) ?_
  refine WO.doneA (by kernel_rfl) ?_
  refine WQ.keep [0, 1, 2, 6, 7, 8, 9, 10, 72] (e' := [(0, .pointer (some ⟨g, 0, none⟩)), (1, .int .i64 least), (2, .int .i64 most), (6, .int .i64 0), (7, .int .i64 (p : Int)), (8, .string (str ((s.take (runE isD s p)).drop p))), (9, .int .i64 v), (10, .nilIface), (72, .bool true)]) (by kernel_rfl) ?_
  refine WQ.thenN ?_
  refine WE.condT (by kernel_rfl) ?_
  refine WE.seq ?_
  refine WE.region ?_
  refine WO.run 2 0 [(74, .int .i64 (p : Int)), (73, .pointer (some ⟨g, 0, none⟩))] (by kernel_rfl) (by kernel_rfl) ?_
  refine WO.call (SQ.E 2 (by kernel_rfl)) 75 (by kernel_rfl) (fail_ok g s (runE isD s p) _ (by omega) hs ((p : Int) : Int) HB6) ?_
  rintro _ w53 ⟨rfl, HB55, F54⟩
  refine ⟨_, rfl, trivial, ?_⟩
  have HS := var_keep 3 (by kernel_rfl) HS F54 (ninC hgS (nin0 _))
  have HR := var_keep 4 (by kernel_rfl) HR F54 (ninC hgR (nin0 _))
  have HA := Fr.step HA F54 (inSL (by simp) inS0)
  refine WO.done (by kernel_rfl) ?_
  refine WQ.keep [0, 1, 2, 6, 7, 8, 9, 10, 72] (e' := [(0, .pointer (some ⟨g, 0, none⟩)), (1, .int .i64 least), (2, .int .i64 most), (6, .int .i64 0), (7, .int .i64 (p : Int)), (8, .string (str ((s.take (runE isD s p)).drop p))), (9, .int .i64 v), (10, .nilIface), (72, .bool true)]) (by kernel_rfl) ?_
  refine WQ.thenN ?_
  refine WE.seq ?_
  refine WE.region ?_
  refine WO.run 1 0 [(6, .int .i64 0)] (by kernel_rfl) (by kernel_rfl) ?_
  refine WO.done (by kernel_rfl) ?_
  refine WQ.keep [0, 1, 2, 6, 7, 8, 9, 10, 72] (e' := [(0, .pointer (some ⟨g, 0, none⟩)), (1, .int .i64 least), (2, .int .i64 most), (6, .int .i64 0), (7, .int .i64 (p : Int)), (8, .string (str ((s.take (runE isD s p)).drop p))), (9, .int .i64 v), (10, .nilIface), (72, .bool true)]) (by kernel_rfl) ?_
  refine WQ.thenN ?_
  refine WE.ret ?_
  refine WQ.thenR ?_
  refine WQ.ret (v := .int .i64 0) (by kernel_rfl) ?_
  have hn_ : numR s p (p) least most = none := by unfold numR; rw [hpi]; simp only; first | exact if_pos (.inl ⟨by omega, u8_eq (by show _ = (48 : Int); omega)⟩) | exact if_pos (.inr (.inl ⟨by omega, fun h_ => absurd (congrArg str h_) (by assumption)⟩)) | exact if_pos (.inr (.inr (.inl (by omega)))) | exact if_pos (.inr (.inr (.inr (by omega)))) | exact if_neg (num_not (by omega) (by omega) (by first | (intro a_ b_; omega) | (intro a_ b_; have h_ := congrArg (fun x : UInt8 => (x.toNat : Int)) b_; exact absurd h_ (by assumption))) (by first | (intro a_ b_; exact b_ (str_inj.1 (by assumption))) | (intro a_ b_; omega)))
  rw [hn_]
  exact ⟨rfl, HB55, HA⟩
 intro h52
 refine WO.one (SA.F sameR sameT _ 34 _ (by kernel_rfl)) 67 (.bool false) (by kernel_rfl) ?_
 refine WO.one (SA.F sameR sameT _ 35 _ (by kernel_rfl)) 68 (.bool false) (by kernel_rfl) ?_
 refine WO.one (SA.F sameR sameT _ 36 _ (by kernel_rfl)) 69 (.int .i64 v) (by kernel_rfl) ?_
 refine WO.one (SA.F sameR sameT _ 37 _ (by kernel_rfl)) 70 (.int .i64 most) (by kernel_rfl) ?_
 refine WO.one (SA.F sameR sameT _ 38 _ (by kernel_rfl)) 71 (.bool (decide ((v : Int) > most))) (by kernel_rfl) ?_
 refine WO.topP ((v : Int) > most) ?_ ?_
 ·
  intro h56
  refine WO.one (SA.F sameR sameT _ 39 _ (by kernel_rfl)) 72 (.bool true) (by kernel_rfl) ?_
  refine WO.doneA (by kernel_rfl) ?_
  refine WQ.keep [0, 1, 2, 6, 7, 8, 9, 10, 72] (e' := [(0, .pointer (some ⟨g, 0, none⟩)), (1, .int .i64 least), (2, .int .i64 most), (6, .int .i64 0), (7, .int .i64 (p : Int)), (8, .string (str ((s.take (runE isD s p)).drop p))), (9, .int .i64 v), (10, .nilIface), (72, .bool true)]) (by kernel_rfl) ?_
  refine WQ.thenN ?_
  refine WE.condT (by kernel_rfl) ?_
  refine WE.seq ?_
  refine WE.region ?_
  refine WO.run 2 0 [(74, .int .i64 (p : Int)), (73, .pointer (some ⟨g, 0, none⟩))] (by kernel_rfl) (by kernel_rfl) ?_
  refine WO.call (SQ.E 2 (by kernel_rfl)) 75 (by kernel_rfl) (fail_ok g s (runE isD s p) _ (by omega) hs ((p : Int) : Int) HB6) ?_
  rintro _ w57 ⟨rfl, HB59, F58⟩
  refine ⟨_, rfl, trivial, ?_⟩
  have HS := var_keep 3 (by kernel_rfl) HS F58 (ninC hgS (nin0 _))
  have HR := var_keep 4 (by kernel_rfl) HR F58 (ninC hgR (nin0 _))
  have HA := Fr.step HA F58 (inSL (by simp) inS0)
  refine WO.done (by kernel_rfl) ?_
  refine WQ.keep [0, 1, 2, 6, 7, 8, 9, 10, 72] (e' := [(0, .pointer (some ⟨g, 0, none⟩)), (1, .int .i64 least), (2, .int .i64 most), (6, .int .i64 0), (7, .int .i64 (p : Int)), (8, .string (str ((s.take (runE isD s p)).drop p))), (9, .int .i64 v), (10, .nilIface), (72, .bool true)]) (by kernel_rfl) ?_
  refine WQ.thenN ?_
  refine WE.seq ?_
  refine WE.region ?_
  refine WO.run 1 0 [(6, .int .i64 0)] (by kernel_rfl) (by kernel_rfl) ?_
  refine WO.done (by kernel_rfl) ?_
  refine WQ.keep [0, 1, 2, 6, 7, 8, 9, 10, 72] (e' := [(0, .pointer (some ⟨g, 0, none⟩)), (1, .int .i64 least), (2, .int .i64 most), (6, .int .i64 0), (7, .int .i64 (p : Int)), (8, .string (str ((s.take (runE isD s p)).drop p))), (9, .int .i64 v), (10, .nilIface), (72, .bool true)]) (by kernel_rfl) ?_
  refine WQ.thenN ?_
  refine WE.ret ?_
  refine WQ.thenR ?_
  refine WQ.ret (v := .int .i64 0) (by kernel_rfl) ?_
  have hn_ : numR s p (p) least most = none := by unfold numR; rw [hpi]; simp only; first | exact if_pos (.inl ⟨by omega, u8_eq (by show _ = (48 : Int); omega)⟩) | exact if_pos (.inr (.inl ⟨by omega, fun h_ => absurd (congrArg str h_) (by assumption)⟩)) | exact if_pos (.inr (.inr (.inl (by omega)))) | exact if_pos (.inr (.inr (.inr (by omega)))) | exact if_neg (num_not (by omega) (by omega) (by first | (intro a_ b_; omega) | (intro a_ b_; have h_ := congrArg (fun x : UInt8 => (x.toNat : Int)) b_; exact absurd h_ (by assumption))) (by first | (intro a_ b_; exact b_ (str_inj.1 (by assumption))) | (intro a_ b_; omega)))
  rw [hn_]
  exact ⟨rfl, HB59, HA⟩
 intro h56
 refine WO.one (SA.F sameR sameT _ 39 _ (by kernel_rfl)) 72 (.bool false) (by kernel_rfl) ?_
 refine WO.doneA (by kernel_rfl) ?_
 refine WQ.keep [0, 1, 2, 6, 7, 8, 9, 10, 72] (e' := [(0, .pointer (some ⟨g, 0, none⟩)), (1, .int .i64 least), (2, .int .i64 most), (6, .int .i64 0), (7, .int .i64 (p : Int)), (8, .string (str ((s.take (runE isD s p)).drop p))), (9, .int .i64 v), (10, .nilIface), (72, .bool false)]) (by kernel_rfl) ?_
 refine WQ.thenN ?_
 refine WE.condF (by kernel_rfl) ?_
 refine WE.skip ?_
 refine WQ.thenN ?_
 refine WE.seq ?_
 refine WE.region ?_
 refine WO.run 2 0 [(6, .int .i64 v), (76, .int .i64 v)] (by kernel_rfl) (by kernel_rfl) ?_
 refine WO.done (by kernel_rfl) ?_
 refine WQ.keep [0, 1, 2, 6, 7, 8, 9, 10, 72] (e' := [(0, .pointer (some ⟨g, 0, none⟩)), (1, .int .i64 least), (2, .int .i64 most), (6, .int .i64 v), (7, .int .i64 (p : Int)), (8, .string (str ((s.take (runE isD s p)).drop p))), (9, .int .i64 v), (10, .nilIface), (72, .bool false)]) (by kernel_rfl) ?_
 refine WQ.thenN ?_
 refine WE.ret ?_
 refine WQ.ret (v := .int .i64 v) (by kernel_rfl) ?_
 have hn_ : numR s p (p) least most = some v := by unfold numR; rw [hpi]; simp only; first | exact if_pos (.inl ⟨by omega, u8_eq (by show _ = (48 : Int); omega)⟩) | exact if_pos (.inr (.inl ⟨by omega, fun h_ => absurd (congrArg str h_) (by assumption)⟩)) | exact if_pos (.inr (.inr (.inl (by omega)))) | exact if_pos (.inr (.inr (.inr (by omega)))) | exact if_neg (num_not (by omega) (by omega) (by first | (intro a_ b_; omega) | (intro a_ b_; have h_ := congrArg (fun x : UInt8 => (x.toNat : Int)) b_; exact absurd h_ (by assumption))) (by first | (intro a_ b_; exact b_ (str_inj.1 (by assumption))) | (intro a_ b_; omega)))
 rw [hn_]
 exact ⟨rfl, HB6, HA⟩
set_option maxRecDepth 100000 in
set_option maxHeartbeats 400000 in
theorem number_d_syntax (g : Nat) (s : L) (p : Nat) (w : World) (hp : p ≤ s.length) (hs : s.length ≤ 1000000) (least most : Int) (v : Int) (hc : ¬ (p < s.length ∧ gB s p = 45)) (hpi : Lib.parseIntB 64 ((s.take (runE isD s (p))).drop p) = .«syntax») (HS : VarI w "strconv.ErrSyntax") (HR : VarI w "strconv.ErrRange") (hgS : 3 ≠ g) (hgR : 4 ≠ g) (HB : Blk w g #[.string (str s), .int .i64 (p : Int), .int .i64 (-1)] 60) :
  Calls Tryd.prog 39 #[.pointer (some ⟨g, 0, none⟩), .int .i64 least, .int .i64 most] w fun e w' => e = .returned (.int .i64 ((numR s p (p) least most).getD 0)) ∧ Blk w' g #[.string (str s), .int .i64 ((runE isD s (p) : Nat) : Int), .int .i64 (if (numR s p (p) least most).isSome then -1 else (p : Int))] 60 ∧ Fr [g] w w' := by
 have he1 := runE_ge isD s (p)
 have he2 := runE_le isD (show p ≤ s.length by omega)
 have hdl_ : ((s.take (runE isD s (p))).drop (p)).length = runE isD s (p) - (p) := by rw [List.length_drop, List.length_take]; omega
 have HA := Fr.refl [g] w
 refine enter (N := 77) Tryd.func39 (c := _) rfl (by kernel_rfl) (by kernel_rfl) (e := [(0, .pointer (some ⟨g, 0, none⟩)), (1, .int .i64 least), (2, .int .i64 most)]) (by kernel_rfl) ?_
 refine WE.seq ?_
 refine WE.region ?_
 refine WO.run 1 0 [(6, .int .i64 0)] (by kernel_rfl) (by kernel_rfl) ?_
 refine WO.done (by kernel_rfl) ?_
 refine WQ.keep [0, 1, 2, 6] (e' := [(0, .pointer (some ⟨g, 0, none⟩)), (1, .int .i64 least), (2, .int .i64 most), (6, .int .i64 0)]) (by kernel_rfl) ?_
 refine WQ.thenN ?_
 refine WE.seq ?_
 refine WE.region ?_
 refine WO.run 3 0 [(13, .pointer (some ⟨g, 1, none⟩)), (12, .pointer (some ⟨g, 0, none⟩)), (11, .pointer (some ⟨g, 0, none⟩))] (by kernel_rfl) (by kernel_rfl) ?_
 refine WO.ld (SQ.S 3 (by kernel_rfl)) 14 (.int .i64 (p : Int)) (by kernel_rfl) (same (HB.at 1 (by kernel_rfl))) ?_
 refine WO.run 1 4 [(7, .int .i64 (p : Int))] (by kernel_rfl) (by kernel_rfl) ?_
 refine WO.done (by kernel_rfl) ?_
 refine WQ.keep [0, 1, 2, 6, 7] (e' := [(0, .pointer (some ⟨g, 0, none⟩)), (1, .int .i64 least), (2, .int .i64 most), (6, .int .i64 0), (7, .int .i64 (p : Int))]) (by kernel_rfl) ?_
 refine WQ.thenN ?_
 refine WE.seq ?_
 refine WE.region ?_
 refine WO.run 1 0 [(15, .pointer (some ⟨g, 0, none⟩))] (by kernel_rfl) (by kernel_rfl) ?_
 refine WO.call (SQ.E 1 (by kernel_rfl)) 16 (by kernel_rfl) (next_no g s p _ hp hs 45 hc HB) ?_
 rintro _ w1 ⟨rfl, HB3, F2⟩
 refine ⟨_, rfl, trivial, ?_⟩
 have HS := var_keep 3 (by kernel_rfl) HS F2 (ninC hgS (nin0 _))
 have HR := var_keep 4 (by kernel_rfl) HR F2 (ninC hgR (nin0 _))
 have HA := Fr.step HA F2 (inSL (by simp) inS0)
 refine WO.done (by kernel_rfl) ?_
 refine WQ.keep [0, 1, 2, 6, 7] (e' := [(0, .pointer (some ⟨g, 0, none⟩)), (1, .int .i64 least), (2, .int .i64 most), (6, .int .i64 0), (7, .int .i64 (p : Int))]) (by kernel_rfl) ?_
 refine WQ.thenN ?_
 refine WE.seq ?_
 refine WE.region ?_
 refine WO.run 1 0 [(17, .pointer (some ⟨g, 0, none⟩))] (by kernel_rfl) (by kernel_rfl) ?_
 refine WO.call (SQ.E 1 (by kernel_rfl)) 18 (by kernel_rfl) (run_d g s p _ (by omega) hs HB3) ?_
 rintro _ w4 ⟨rfl, HB6, F5⟩
 refine ⟨_, rfl, trivial, ?_⟩
 have HS := var_keep 3 (by kernel_rfl) HS F5 (ninC hgS (nin0 _))
 have HR := var_keep 4 (by kernel_rfl) HR F5 (ninC hgR (nin0 _))
 have HA := Fr.step HA F5 (inSL (by simp) inS0)
 refine WO.run 1 2 [(8, .string (str ((s.take (runE isD s p)).drop p)))] (by kernel_rfl) (by kernel_rfl) ?_
 refine WO.done (by kernel_rfl) ?_
 refine WQ.keep [0, 1, 2, 6, 7, 8] (e' := [(0, .pointer (some ⟨g, 0, none⟩)), (1, .int .i64 least), (2, .int .i64 most), (6, .int .i64 0), (7, .int .i64 (p : Int)), (8, .string (str ((s.take (runE isD s p)).drop p)))]) (by kernel_rfl) ?_
 refine WQ.thenN ?_
 refine WE.seq ?_
 refine WE.draw [.free, .free, .free, .still, .free, .free, .free, .free, .still, .free, .eff, .free, .free, .free, .free, .free] Same sameR (by kernel_rfl) 16 (Array.replicate 16 false) (by kernel_rfl) rfl ?_
 intro w7 F8 _
 have HB6 := Blk.keep HB6 F8 (nin0 _)
 have HS := var_keep 3 (by kernel_rfl) HS F8 (nin0 _)
 have HR := var_keep 4 (by kernel_rfl) HR F8 (nin0 _)
 have HA := Fr.step0 HA F8
 refine WO.one (SA.F sameR sameT _ 0 _ (by kernel_rfl)) 20 (.pointer (some ⟨g, 0, none⟩)) (by kernel_rfl) ?_
 refine WO.one (SA.F sameR sameT _ 1 _ (by kernel_rfl)) 21 (.pointer (some ⟨g, 0, none⟩)) (by kernel_rfl) ?_
 refine WO.one (SA.F sameR sameT _ 2 _ (by kernel_rfl)) 22 (.pointer (some ⟨g, 0, none⟩)) (by kernel_rfl) ?_
 refine WO.ld (SA.S sameR sameT _ 3 _ (by kernel_rfl)) 23 (.string (str s)) (by kernel_rfl) (same (HB6.at 0 (by kernel_rfl))) ?_
 refine WO.one (SA.F sameR sameT _ 4 _ (by kernel_rfl)) 24 (.int .i64 (p : Int)) (by kernel_rfl) ?_
 refine WO.one (SA.F sameR sameT _ 5 _ (by kernel_rfl)) 25 (.pointer (some ⟨g, 0, none⟩)) (by kernel_rfl) ?_
 refine WO.one (SA.F sameR sameT _ 6 _ (by kernel_rfl)) 26 (.pointer (some ⟨g, 0, none⟩)) (by kernel_rfl) ?_
 refine WO.one (SA.F sameR sameT _ 7 _ (by kernel_rfl)) 27 (.pointer (some ⟨g, 1, none⟩)) (by kernel_rfl) ?_
 refine WO.ld (SA.S sameR sameT _ 8 _ (by kernel_rfl)) 28 (.int .i64 ((runE isD s p : Nat) : Int)) (by kernel_rfl) (same (HB6.at 1 (by kernel_rfl))) ?_
 refine WO.slS2 (lo := (p : Int)) (hi := ((runE isD s p : Nat) : Int)) (SA.F sameR sameT _ 9 _ (by kernel_rfl)) 29 p (runE isD s p) s (by kernel_rfl) (by rfl) (by rfl) (by omega) (by omega) ?_
 obtain ⟨tp_, pe_, hvar_⟩ := id HS
 refine WO.call (SA.E _ 10 _ (by kernel_rfl) rfl) 30 (by kernel_rfl) (Tryd.strconv_ParseInt_10_at64_syntax_var (str ((s.take (runE isD s p)).drop p)) (by rw [str_size, List.length_drop, List.length_take]; omega) hpi tp_ pe_ _ hvar_) ?_
 rintro _ w9 ⟨N_, rfl, _, _, hbw⟩
 have F10 := Fr.of_below hbw
 refine ⟨_, rfl, trivial, ?_⟩
 have HB6 := Blk.keep HB6 F10 (nin0 _)
 have HS := var_keep 3 (by kernel_rfl) HS F10 (nin0 _)
 have HR := var_keep 4 (by kernel_rfl) HR F10 (nin0 _)
 have HA := Fr.step0 HA F10
 refine WO.one (SA.F sameR sameT _ 11 _ (by kernel_rfl)) 19 (.tuple #[.int .i64 0, .iface 144 (.pointer (some ⟨N_, 0, none⟩))]) (by kernel_rfl) ?_
 refine WO.one (SA.F sameR sameT _ 12 _ (by kernel_rfl)) 31 (.int .i64 0) (by kernel_rfl) ?_
 refine WO.one (SA.F sameR sameT _ 13 _ (by kernel_rfl)) 32 (.iface 144 (.pointer (some ⟨N_, 0, none⟩))) (by kernel_rfl) ?_
 refine WO.one (SA.F sameR sameT _ 14 _ (by kernel_rfl)) 9 (.int .i64 0) (by kernel_rfl) ?_
 refine WO.one (SA.F sameR sameT _ 15 _ (by kernel_rfl)) 10 (.iface 144 (.pointer (some ⟨N_, 0, none⟩))) (by kernel_rfl) ?_
 refine WO.doneA (by kernel_rfl) ?_
 refine WQ.keep [0, 1, 2, 6, 7, 8, 9, 10] (e' := [(0, .pointer (some ⟨g, 0, none⟩)), (1, .int .i64 least), (2, .int .i64 most), (6, .int .i64 0), (7, .int .i64 (p : Int)), (8, .string (str ((s.take (runE isD s p)).drop p))), (9, .int .i64 0), (10, .iface 144 (.pointer (some ⟨N_, 0, none⟩)))]) (by kernel_rfl) ?_
 refine WQ.thenN ?_
 refine WE.seq ?_
 refine WE.seq ?_
 refine WE.draw [.free, .free, .free, .free, .free, .free, .free, .free, .free, .free, .free, .free, .free, .free, .free, .free, .free, .free, .free, .free, .still, .free, .free, .free, .free, .still, .free, .free, .free, .free, .free, .free, .free, .free, .free, .free, .free, .free, .free, .free] Same sameR (by kernel_rfl) 40 (Array.replicate 40 false) (by kernel_rfl) rfl ?_
 intro w11 F12 _
 have HB6 := Blk.keep HB6 F12 (nin0 _)
 have HS := var_keep 3 (by kernel_rfl) HS F12 (nin0 _)
 have HR := var_keep 4 (by kernel_rfl) HR F12 (nin0 _)
 have HA := Fr.step0 HA F12
 refine WO.one (SA.F sameR sameT _ 0 _ (by kernel_rfl)) 33 (.iface 144 (.pointer (some ⟨N_, 0, none⟩))) (by kernel_rfl) ?_
 refine WO.one (SA.F sameR sameT _ 1 _ (by kernel_rfl)) 34 (.bool true) (by kernel_rfl) ?_
 refine WO.one (SA.F sameR sameT _ 2 _ (by kernel_rfl)) 35 (.bool true) (by kernel_rfl) ?_
 refine WO.off (SA.O sameR sameT _ 3 _ (by kernel_rfl)) 36 (by kernel_rfl) ?_
 refine WO.off (SA.O sameR sameT _ 4 _ (by kernel_rfl)) 37 (by kernel_rfl) ?_
 refine WO.off (SA.O sameR sameT _ 5 _ (by kernel_rfl)) 38 (by kernel_rfl) ?_
 refine WO.off (SA.O sameR sameT _ 6 _ (by kernel_rfl)) 39 (by kernel_rfl) ?_
 refine WO.off (SA.O sameR sameT _ 7 _ (by kernel_rfl)) 40 (by kernel_rfl) ?_
 refine WO.off (SA.O sameR sameT _ 8 _ (by kernel_rfl)) 41 (by kernel_rfl) ?_
 refine WO.off (SA.O sameR sameT _ 9 _ (by kernel_rfl)) 42 (by kernel_rfl) ?_
 refine WO.off (SA.O sameR sameT _ 10 _ (by kernel_rfl)) 43 (by kernel_rfl) ?_
 refine WO.one (SA.F sameR sameT _ 11 _ (by kernel_rfl)) 44 (.bool true) (by kernel_rfl) ?_
 refine WO.one (SA.F sameR sameT _ 12 _ (by kernel_rfl)) 45 (.bool true) (by kernel_rfl) ?_
 refine WO.off (SA.O sameR sameT _ 13 _ (by kernel_rfl)) 46 (by kernel_rfl) ?_
 refine WO.off (SA.O sameR sameT _ 14 _ (by kernel_rfl)) 47 (by kernel_rfl) ?_
 refine WO.off (SA.O sameR sameT _ 15 _ (by kernel_rfl)) 48 (by kernel_rfl) ?_
 refine WO.off (SA.O sameR sameT _ 16 _ (by kernel_rfl)) 49 (by kernel_rfl) ?_
 refine WO.off (SA.O sameR sameT _ 17 _ (by kernel_rfl)) 50 (by kernel_rfl) ?_
 refine WO.off (SA.O sameR sameT _ 18 _ (by kernel_rfl)) 51 (by kernel_rfl) ?_
 refine WO.off (SA.O sameR sameT _ 19 _ (by kernel_rfl)) 52 (by kernel_rfl) ?_
 refine WO.off (SA.O sameR sameT _ 20 _ (by kernel_rfl)) 53 (by kernel_rfl) ?_
 refine WO.off (SA.O sameR sameT _ 21 _ (by kernel_rfl)) 54 (by kernel_rfl) ?_
 refine WO.off (SA.O sameR sameT _ 22 _ (by kernel_rfl)) 55 (by kernel_rfl) ?_
 refine WO.off (SA.O sameR sameT _ 23 _ (by kernel_rfl)) 56 (by kernel_rfl) ?_
 refine WO.off (SA.O sameR sameT _ 24 _ (by kernel_rfl)) 57 (by kernel_rfl) ?_
 refine WO.off (SA.O sameR sameT _ 25 _ (by kernel_rfl)) 58 (by kernel_rfl) ?_
 refine WO.off (SA.O sameR sameT _ 26 _ (by kernel_rfl)) 59 (by kernel_rfl) ?_
 refine WO.off (SA.O sameR sameT _ 27 _ (by kernel_rfl)) 60 (by kernel_rfl) ?_
 refine WO.off (SA.O sameR sameT _ 28 _ (by kernel_rfl)) 61 (by kernel_rfl) ?_
 refine WO.one (SA.F sameR sameT _ 29 _ (by kernel_rfl)) 62 (.bool true) (by kernel_rfl) ?_
 refine WO.one (SA.F sameR sameT _ 30 _ (by kernel_rfl)) 63 (.bool true) (by kernel_rfl) ?_
 refine WO.off (SA.O sameR sameT _ 31 _ (by kernel_rfl)) 64 (by kernel_rfl) ?_
 refine WO.off (SA.O sameR sameT _ 32 _ (by kernel_rfl)) 65 (by kernel_rfl) ?_
 refine WO.off (SA.O sameR sameT _ 33 _ (by kernel_rfl)) 66 (by kernel_rfl) ?_
 refine WO.one (SA.F sameR sameT _ 34 _ (by kernel_rfl)) 67 (.bool true) (by kernel_rfl) ?_
 refine WO.one (SA.F sameR sameT _ 35 _ (by kernel_rfl)) 68 (.bool true) (by kernel_rfl) ?_
 refine WO.off (SA.O sameR sameT _ 36 _ (by kernel_rfl)) 69 (by kernel_rfl) ?_
 refine WO.off (SA.O sameR sameT _ 37 _ (by kernel_rfl)) 70 (by kernel_rfl) ?_
 refine WO.off (SA.O sameR sameT _ 38 _ (by kernel_rfl)) 71 (by kernel_rfl) ?_
 refine WO.one (SA.F sameR sameT _ 39 _ (by kernel_rfl)) 72 (.bool true) (by kernel_rfl) ?_
 refine WO.doneA (by kernel_rfl) ?_
 refine WQ.keep [0, 1, 2, 6, 7, 8, 9, 10, 72] (e' := [(0, .pointer (some ⟨g, 0, none⟩)), (1, .int .i64 least), (2, .int .i64 most), (6, .int .i64 0), (7, .int .i64 (p : Int)), (8, .string (str ((s.take (runE isD s p)).drop p))), (9, .int .i64 0), (10, .iface 144 (.pointer (some ⟨N_, 0, none⟩))), (72, .bool true)]) (by kernel_rfl) ?_
 refine WQ.thenN ?_
 refine WE.condT (by kernel_rfl) ?_
 refine WE.seq ?_
 refine WE.region ?_
 refine WO.run 2 0 [(74, .int .i64 (p : Int)), (73, .pointer (some ⟨g, 0, none⟩))] (by kernel_rfl) (by kernel_rfl) ?_
 refine WO.call (SQ.E 2 (by kernel_rfl)) 75 (by kernel_rfl) (fail_ok g s (runE isD s p) _ (by omega) hs ((p : Int) : Int) HB6) ?_
 rintro _ w13 ⟨rfl, HB15, F14⟩
 refine ⟨_, rfl, trivial, ?_⟩
 have HS := var_keep 3 (by kernel_rfl) HS F14 (ninC hgS (nin0 _))
 have HR := var_keep 4 (by kernel_rfl) HR F14 (ninC hgR (nin0 _))
 have HA := Fr.step HA F14 (inSL (by simp) inS0)
 refine WO.done (by kernel_rfl) ?_
 refine WQ.keep [0, 1, 2, 6, 7, 8, 9, 10, 72] (e' := [(0, .pointer (some ⟨g, 0, none⟩)), (1, .int .i64 least), (2, .int .i64 most), (6, .int .i64 0), (7, .int .i64 (p : Int)), (8, .string (str ((s.take (runE isD s p)).drop p))), (9, .int .i64 0), (10, .iface 144 (.pointer (some ⟨N_, 0, none⟩))), (72, .bool true)]) (by kernel_rfl) ?_
 refine WQ.thenN ?_
 refine WE.seq ?_
 refine WE.region ?_
 refine WO.run 1 0 [(6, .int .i64 0)] (by kernel_rfl) (by kernel_rfl) ?_
 refine WO.done (by kernel_rfl) ?_
 refine WQ.keep [0, 1, 2, 6, 7, 8, 9, 10, 72] (e' := [(0, .pointer (some ⟨g, 0, none⟩)), (1, .int .i64 least), (2, .int .i64 most), (6, .int .i64 0), (7, .int .i64 (p : Int)), (8, .string (str ((s.take (runE isD s p)).drop p))), (9, .int .i64 0), (10, .iface 144 (.pointer (some ⟨N_, 0, none⟩))), (72, .bool true)]) (by kernel_rfl) ?_
 refine WQ.thenN ?_
 refine WE.ret ?_
 refine WQ.thenR ?_
 refine WQ.ret (v := .int .i64 0) (by kernel_rfl) ?_
 have hn_ : numR s p (p) least most = none := by unfold numR; rw [hpi]
 rw [hn_]
 exact ⟨rfl, HB15, HA⟩
set_option maxRecDepth 100000 in
set_option maxHeartbeats 400000 in
theorem number_d_range (g : Nat) (s : L) (p : Nat) (w : World) (hp : p ≤ s.length) (hs : s.length ≤ 1000000) (least most : Int) (v : Int) (hc : ¬ (p < s.length ∧ gB s p = 45)) (hpi : Lib.parseIntB 64 ((s.take (runE isD s (p))).drop p) = .range) (HS : VarI w "strconv.ErrSyntax") (HR : VarI w "strconv.ErrRange") (hgS : 3 ≠ g) (hgR : 4 ≠ g) (HB : Blk w g #[.string (str s), .int .i64 (p : Int), .int .i64 (-1)] 60) :
  Calls Tryd.prog 39 #[.pointer (some ⟨g, 0, none⟩), .int .i64 least, .int .i64 most] w fun e w' => e = .returned (.int .i64 ((numR s p (p) least most).getD 0)) ∧ Blk w' g #[.string (str s), .int .i64 ((runE isD s (p) : Nat) : Int), .int .i64 (if (numR s p (p) least most).isSome then -1 else (p : Int))] 60 ∧ Fr [g] w w' := by
 have he1 := runE_ge isD s (p)
 have he2 := runE_le isD (show p ≤ s.length by omega)
 have hdl_ : ((s.take (runE isD s (p))).drop (p)).length = runE isD s (p) - (p) := by rw [List.length_drop, List.length_take]; omega
 have HA := Fr.refl [g] w
 refine enter (N := 77) Tryd.func39 (c := _) rfl (by kernel_rfl) (by kernel_rfl) (e := [(0, .pointer (some ⟨g, 0, none⟩)), (1, .int .i64 least), (2, .int .i64 most)]) (by kernel_rfl) ?_
 refine WE.seq ?_
 refine WE.region ?_
 refine WO.run 1 0 [(6, .int .i64 0)] (by kernel_rfl) (by kernel_rfl) ?_
 refine WO.done (by kernel_rfl) ?_
 refine WQ.keep [0, 1, 2, 6] (e' := [(0, .pointer (some ⟨g, 0, none⟩)), (1, .int .i64 least), (2, .int .i64 most), (6, .int .i64 0)]) (by kernel_rfl) ?_
 refine WQ.thenN ?_
 refine WE.seq ?_
 refine WE.region ?_
 refine WO.run 3 0 [(13, .pointer (some ⟨g, 1, none⟩)), (12, .pointer (some ⟨g, 0, none⟩)), (11, .pointer (some ⟨g, 0, none⟩))] (by kernel_rfl) (by kernel_rfl) ?_
 refine WO.ld (SQ.S 3 (by kernel_rfl)) 14 (.int .i64 (p : Int)) (by kernel_rfl) (same (HB.at 1 (by kernel_rfl))) ?_
 refine WO.run 1 4 [(7, .int .i64 (p : Int))] (by kernel_rfl) (by kernel_rfl) ?_
 refine WO.done (by kernel_rfl) ?_
 refine WQ.keep [0, 1, 2, 6, 7] (e' := [(0, .pointer (some ⟨g, 0, none⟩)), (1, .int .i64 least), (2, .int .i64 most), (6, .int .i64 0), (7, .int .i64 (p : Int))]) (by kernel_rfl) ?_
 refine WQ.thenN ?_
 refine WE.seq ?_
 refine WE.region ?_
 refine WO.run 1 0 [(15, .pointer (some ⟨g, 0, none⟩))] (by kernel_rfl) (by kernel_rfl) ?_
 refine WO.call (SQ.E 1 (by kernel_rfl)) 16 (by kernel_rfl) (next_no g s p _ hp hs 45 hc HB) ?_
 rintro _ w1 ⟨rfl, HB3, F2⟩
 refine ⟨_, rfl, trivial, ?_⟩
 have HS := var_keep 3 (by kernel_rfl) HS F2 (ninC hgS (nin0 _))
 have HR := var_keep 4 (by kernel_rfl) HR F2 (ninC hgR (nin0 _))
 have HA := Fr.step HA F2 (inSL (by simp) inS0)
 refine WO.done (by kernel_rfl) ?_
 refine WQ.keep [0, 1, 2, 6, 7] (e' := [(0, .pointer (some ⟨g, 0, none⟩)), (1, .int .i64 least), (2, .int .i64 most), (6, .int .i64 0), (7, .int .i64 (p : Int))]) (by kernel_rfl) ?_
 refine WQ.thenN ?_
 refine WE.seq ?_
 refine WE.region ?_
 refine WO.run 1 0 [(17, .pointer (some ⟨g, 0, none⟩))] (by kernel_rfl) (by kernel_rfl) ?_
 refine WO.call (SQ.E 1 (by kernel_rfl)) 18 (by kernel_rfl) (run_d g s p _ (by omega) hs HB3) ?_
 rintro _ w4 ⟨rfl, HB6, F5⟩
 refine ⟨_, rfl, trivial, ?_⟩
 have HS := var_keep 3 (by kernel_rfl) HS F5 (ninC hgS (nin0 _))
 have HR := var_keep 4 (by kernel_rfl) HR F5 (ninC hgR (nin0 _))
 have HA := Fr.step HA F5 (inSL (by simp) inS0)
 refine WO.run 1 2 [(8, .string (str ((s.take (runE isD s p)).drop p)))] (by kernel_rfl) (by kernel_rfl) ?_
 refine WO.done (by kernel_rfl) ?_
 refine WQ.keep [0, 1, 2, 6, 7, 8] (e' := [(0, .pointer (some ⟨g, 0, none⟩)), (1, .int .i64 least), (2, .int .i64 most), (6, .int .i64 0), (7, .int .i64 (p : Int)), (8, .string (str ((s.take (runE isD s p)).drop p)))]) (by kernel_rfl) ?_
 refine WQ.thenN ?_
 refine WE.seq ?_
 refine WE.draw [.free, .free, .free, .still, .free, .free, .free, .free, .still, .free, .eff, .free, .free, .free, .free, .free] Same sameR (by kernel_rfl) 16 (Array.replicate 16 false) (by kernel_rfl) rfl ?_
 intro w7 F8 _
 have HB6 := Blk.keep HB6 F8 (nin0 _)
 have HS := var_keep 3 (by kernel_rfl) HS F8 (nin0 _)
 have HR := var_keep 4 (by kernel_rfl) HR F8 (nin0 _)
 have HA := Fr.step0 HA F8
 refine WO.one (SA.F sameR sameT _ 0 _ (by kernel_rfl)) 20 (.pointer (some ⟨g, 0, none⟩)) (by kernel_rfl) ?_
 refine WO.one (SA.F sameR sameT _ 1 _ (by kernel_rfl)) 21 (.pointer (some ⟨g, 0, none⟩)) (by kernel_rfl) ?_
 refine WO.one (SA.F sameR sameT _ 2 _ (by kernel_rfl)) 22 (.pointer (some ⟨g, 0, none⟩)) (by kernel_rfl) ?_
 refine WO.ld (SA.S sameR sameT _ 3 _ (by kernel_rfl)) 23 (.string (str s)) (by kernel_rfl) (same (HB6.at 0 (by kernel_rfl))) ?_
 refine WO.one (SA.F sameR sameT _ 4 _ (by kernel_rfl)) 24 (.int .i64 (p : Int)) (by kernel_rfl) ?_
 refine WO.one (SA.F sameR sameT _ 5 _ (by kernel_rfl)) 25 (.pointer (some ⟨g, 0, none⟩)) (by kernel_rfl) ?_
 refine WO.one (SA.F sameR sameT _ 6 _ (by kernel_rfl)) 26 (.pointer (some ⟨g, 0, none⟩)) (by kernel_rfl) ?_
 refine WO.one (SA.F sameR sameT _ 7 _ (by kernel_rfl)) 27 (.pointer (some ⟨g, 1, none⟩)) (by kernel_rfl) ?_
 refine WO.ld (SA.S sameR sameT _ 8 _ (by kernel_rfl)) 28 (.int .i64 ((runE isD s p : Nat) : Int)) (by kernel_rfl) (same (HB6.at 1 (by kernel_rfl))) ?_
 refine WO.slS2 (lo := (p : Int)) (hi := ((runE isD s p : Nat) : Int)) (SA.F sameR sameT _ 9 _ (by kernel_rfl)) 29 p (runE isD s p) s (by kernel_rfl) (by rfl) (by rfl) (by omega) (by omega) ?_
 obtain ⟨tp_, pe_, hvar_⟩ := id HR
 refine WO.call (SA.E _ 10 _ (by kernel_rfl) rfl) 30 (by kernel_rfl) (Tryd.strconv_ParseInt_10_at64_range_var (str ((s.take (runE isD s p)).drop p)) (by rw [str_size, List.length_drop, List.length_take]; omega) hpi tp_ pe_ _ hvar_) ?_
 rintro _ w9 ⟨N_, rfl, _, _, hbw⟩
 have F10 := Fr.of_below hbw
 refine ⟨_, rfl, trivial, ?_⟩
 have HB6 := Blk.keep HB6 F10 (nin0 _)
 have HS := var_keep 3 (by kernel_rfl) HS F10 (nin0 _)
 have HR := var_keep 4 (by kernel_rfl) HR F10 (nin0 _)
 have HA := Fr.step0 HA F10
 refine WO.one (SA.F sameR sameT _ 11 _ (by kernel_rfl)) 19 (.tuple #[.int .i64 (Lib.intSat 64 (str ((s.take (runE isD s p)).drop p)).data.toList), .iface 144 (.pointer (some ⟨N_, 0, none⟩))]) (by kernel_rfl) ?_
 refine WO.one (SA.F sameR sameT _ 12 _ (by kernel_rfl)) 31 (.int .i64 (Lib.intSat 64 (str ((s.take (runE isD s p)).drop p)).data.toList)) (by kernel_rfl) ?_
 refine WO.one (SA.F sameR sameT _ 13 _ (by kernel_rfl)) 32 (.iface 144 (.pointer (some ⟨N_, 0, none⟩))) (by kernel_rfl) ?_
 refine WO.one (SA.F sameR sameT _ 14 _ (by kernel_rfl)) 9 (.int .i64 (Lib.intSat 64 (str ((s.take (runE isD s p)).drop p)).data.toList)) (by kernel_rfl) ?_
 refine WO.one (SA.F sameR sameT _ 15 _ (by kernel_rfl)) 10 (.iface 144 (.pointer (some ⟨N_, 0, none⟩))) (by kernel_rfl) ?_
 refine WO.doneA (by kernel_rfl) ?_
 refine WQ.keep [0, 1, 2, 6, 7, 8, 9, 10] (e' := [(0, .pointer (some ⟨g, 0, none⟩)), (1, .int .i64 least), (2, .int .i64 most), (6, .int .i64 0), (7, .int .i64 (p : Int)), (8, .string (str ((s.take (runE isD s p)).drop p))), (9, .int .i64 (Lib.intSat 64 (str ((s.take (runE isD s p)).drop p)).data.toList)), (10, .iface 144 (.pointer (some ⟨N_, 0, none⟩)))]) (by kernel_rfl) ?_
 refine WQ.thenN ?_
 refine WE.seq ?_
 refine WE.seq ?_
 refine WE.draw [.free, .free, .free, .free, .free, .free, .free, .free, .free, .free, .free, .free, .free, .free, .free, .free, .free, .free, .free, .free, .still, .free, .free, .free, .free, .still, .free, .free, .free, .free, .free, .free, .free, .free, .free, .free, .free, .free, .free, .free] Same sameR (by kernel_rfl) 40 (Array.replicate 40 false) (by kernel_rfl) rfl ?_
 intro w11 F12 _
 have HB6 := Blk.keep HB6 F12 (nin0 _)
 have HS := var_keep 3 (by kernel_rfl) HS F12 (nin0 _)
 have HR := var_keep 4 (by kernel_rfl) HR F12 (nin0 _)
 have HA := Fr.step0 HA F12
 refine WO.one (SA.F sameR sameT _ 0 _ (by kernel_rfl)) 33 (.iface 144 (.pointer (some ⟨N_, 0, none⟩))) (by kernel_rfl) ?_
 refine WO.one (SA.F sameR sameT _ 1 _ (by kernel_rfl)) 34 (.bool true) (by kernel_rfl) ?_
 refine WO.one (SA.F sameR sameT _ 2 _ (by kernel_rfl)) 35 (.bool true) (by kernel_rfl) ?_
 refine WO.off (SA.O sameR sameT _ 3 _ (by kernel_rfl)) 36 (by kernel_rfl) ?_
 refine WO.off (SA.O sameR sameT _ 4 _ (by kernel_rfl)) 37 (by kernel_rfl) ?_
 refine WO.off (SA.O sameR sameT _ 5 _ (by kernel_rfl)) 38 (by kernel_rfl) ?_
 refine WO.off (SA.O sameR sameT _ 6 _ (by kernel_rfl)) 39 (by kernel_rfl) ?_
 refine WO.off (SA.O sameR sameT _ 7 _ (by kernel_rfl)) 40 (by kernel_rfl) ?_
 refine WO.off (SA.O sameR sameT _ 8 _ (by kernel_rfl)) 41 (by kernel_rfl) ?_
 refine WO.off (SA.O sameR sameT _ 9 _ (by kernel_rfl)) 42 (by kernel_rfl) ?_
 refine WO.off (SA.O sameR sameT _ 10 _ (by kernel_rfl)) 43 (by kernel_rfl) ?_
 refine WO.one (SA.F sameR sameT _ 11 _ (by kernel_rfl)) 44 (.bool true) (by kernel_rfl) ?_
 refine WO.one (SA.F sameR sameT _ 12 _ (by kernel_rfl)) 45 (.bool true) (by kernel_rfl) ?_
 refine WO.off (SA.O sameR sameT _ 13 _ (by kernel_rfl)) 46 (by kernel_rfl) ?_
 refine WO.off (SA.O sameR sameT _ 14 _ (by kernel_rfl)) 47 (by kernel_rfl) ?_
 refine WO.off (SA.O sameR sameT _ 15 _ (by kernel_rfl)) 48 (by kernel_rfl) ?_
 refine WO.off (SA.O sameR sameT _ 16 _ (by kernel_rfl)) 49 (by kernel_rfl) ?_
 refine WO.off (SA.O sameR sameT _ 17 _ (by kernel_rfl)) 50 (by kernel_rfl) ?_
 refine WO.off (SA.O sameR sameT _ 18 _ (by kernel_rfl)) 51 (by kernel_rfl) ?_
 refine WO.off (SA.O sameR sameT _ 19 _ (by kernel_rfl)) 52 (by kernel_rfl) ?_
 refine WO.off (SA.O sameR sameT _ 20 _ (by kernel_rfl)) 53 (by kernel_rfl) ?_
 refine WO.off (SA.O sameR sameT _ 21 _ (by kernel_rfl)) 54 (by kernel_rfl) ?_
 refine WO.off (SA.O sameR sameT _ 22 _ (by kernel_rfl)) 55 (by kernel_rfl) ?_
 refine WO.off (SA.O sameR sameT _ 23 _ (by kernel_rfl)) 56 (by kernel_rfl) ?_
 refine WO.off (SA.O sameR sameT _ 24 _ (by kernel_rfl)) 57 (by kernel_rfl) ?_
 refine WO.off (SA.O sameR sameT _ 25 _ (by kernel_rfl)) 58 (by kernel_rfl) ?_
 refine WO.off (SA.O sameR sameT _ 26 _ (by kernel_rfl)) 59 (by kernel_rfl) ?_
 refine WO.off (SA.O sameR sameT _ 27 _ (by kernel_rfl)) 60 (by kernel_rfl) ?_
 refine WO.off (SA.O sameR sameT _ 28 _ (by kernel_rfl)) 61 (by kernel_rfl) ?_
 refine WO.one (SA.F sameR sameT _ 29 _ (by kernel_rfl)) 62 (.bool true) (by kernel_rfl) ?_
 refine WO.one (SA.F sameR sameT _ 30 _ (by kernel_rfl)) 63 (.bool true) (by kernel_rfl) ?_
 refine WO.off (SA.O sameR sameT _ 31 _ (by kernel_rfl)) 64 (by kernel_rfl) ?_
 refine WO.off (SA.O sameR sameT _ 32 _ (by kernel_rfl)) 65 (by kernel_rfl) ?_
 refine WO.off (SA.O sameR sameT _ 33 _ (by kernel_rfl)) 66 (by kernel_rfl) ?_
 refine WO.one (SA.F sameR sameT _ 34 _ (by kernel_rfl)) 67 (.bool true) (by kernel_rfl) ?_
 refine WO.one (SA.F sameR sameT _ 35 _ (by kernel_rfl)) 68 (.bool true) (by kernel_rfl) ?_
 refine WO.off (SA.O sameR sameT _ 36 _ (by kernel_rfl)) 69 (by kernel_rfl) ?_
 refine WO.off (SA.O sameR sameT _ 37 _ (by kernel_rfl)) 70 (by kernel_rfl) ?_
 refine WO.off (SA.O sameR sameT _ 38 _ (by kernel_rfl)) 71 (by kernel_rfl) ?_
 refine WO.one (SA.F sameR sameT _ 39 _ (by kernel_rfl)) 72 (.bool true) (by kernel_rfl) ?_
 refine WO.doneA (by kernel_rfl) ?_
 refine WQ.keep [0, 1, 2, 6, 7, 8, 9, 10, 72] (e' := [(0, .pointer (some ⟨g, 0, none⟩)), (1, .int .i64 least), (2, .int .i64 most), (6, .int .i64 0), (7, .int .i64 (p : Int)), (8, .string (str ((s.take (runE isD s p)).drop p))), (9, .int .i64 (Lib.intSat 64 (str ((s.take (runE isD s p)).drop p)).data.toList)), (10, .iface 144 (.pointer (some ⟨N_, 0, none⟩))), (72, .bool true)]) (by kernel_rfl) ?_
 refine WQ.thenN ?_
 refine WE.condT (by kernel_rfl) ?_
 refine WE.seq ?_
 refine WE.region ?_
 refine WO.run 2 0 [(74, .int .i64 (p : Int)), (73, .pointer (some ⟨g, 0, none⟩))] (by kernel_rfl) (by kernel_rfl) ?_
 refine WO.call (SQ.E 2 (by kernel_rfl)) 75 (by kernel_rfl) (fail_ok g s (runE isD s p) _ (by omega) hs ((p : Int) : Int) HB6) ?_
 rintro _ w13 ⟨rfl, HB15, F14⟩
 refine ⟨_, rfl, trivial, ?_⟩
 have HS := var_keep 3 (by kernel_rfl) HS F14 (ninC hgS (nin0 _))
 have HR := var_keep 4 (by kernel_rfl) HR F14 (ninC hgR (nin0 _))
 have HA := Fr.step HA F14 (inSL (by simp) inS0)
 refine WO.done (by kernel_rfl) ?_
 refine WQ.keep [0, 1, 2, 6, 7, 8, 9, 10, 72] (e' := [(0, .pointer (some ⟨g, 0, none⟩)), (1, .int .i64 least), (2, .int .i64 most), (6, .int .i64 0), (7, .int .i64 (p : Int)), (8, .string (str ((s.take (runE isD s p)).drop p))), (9, .int .i64 (Lib.intSat 64 (str ((s.take (runE isD s p)).drop p)).data.toList)), (10, .iface 144 (.pointer (some ⟨N_, 0, none⟩))), (72, .bool true)]) (by kernel_rfl) ?_
 refine WQ.thenN ?_
 refine WE.seq ?_
 refine WE.region ?_
 refine WO.run 1 0 [(6, .int .i64 0)] (by kernel_rfl) (by kernel_rfl) ?_
 refine WO.done (by kernel_rfl) ?_
 refine WQ.keep [0, 1, 2, 6, 7, 8, 9, 10, 72] (e' := [(0, .pointer (some ⟨g, 0, none⟩)), (1, .int .i64 least), (2, .int .i64 most), (6, .int .i64 0), (7, .int .i64 (p : Int)), (8, .string (str ((s.take (runE isD s p)).drop p))), (9, .int .i64 (Lib.intSat 64 (str ((s.take (runE isD s p)).drop p)).data.toList)), (10, .iface 144 (.pointer (some ⟨N_, 0, none⟩))), (72, .bool true)]) (by kernel_rfl) ?_
 refine WQ.thenN ?_
 refine WE.ret ?_
 refine WQ.thenR ?_
 refine WQ.ret (v := .int .i64 0) (by kernel_rfl) ?_
 have hn_ : numR s p (p) least most = none := by unfold numR; rw [hpi]
 rw [hn_]
 exact ⟨rfl, HB15, HA⟩
set_option maxRecDepth 100000 in
set_option maxHeartbeats 400000 in
theorem number_bad (g : Nat) (s : L) (p : Nat) (bz : Int) (w : World) (hp : p ≤ s.length) (hs : s.length ≤ 1000000) (hbz : 0 ≤ bz) (least most : Int) (HS : VarI w "strconv.ErrSyntax") (hgS : 3 ≠ g) (HB : Blk w g #[.string (str s), .int .i64 (p : Int), .int .i64 bz] 60) :
  Calls Tryd.prog 39 #[.pointer (some ⟨g, 0, none⟩), .int .i64 least, .int .i64 most] w fun e w' => e = .returned (.int .i64 0) ∧ Blk w' g #[.string (str s), .int .i64 (p : Int), .int .i64 bz] 60 ∧ Fr [g] w w' := by
 have hpi : Lib.parseIntB 64 ((s.take p).drop p) = .«syntax» := by rw [List.drop_of_length_le (by rw [List.length_take]; omega)]; rfl
 have HA := Fr.refl [g] w
 refine enter (N := 77) Tryd.func39 (c := _) rfl (by kernel_rfl) (by kernel_rfl) (e := [(0, .pointer (some ⟨g, 0, none⟩)), (1, .int .i64 least), (2, .int .i64 most)]) (by kernel_rfl) ?_
 refine WE.seq ?_
 refine WE.region ?_
 refine WO.run 1 0 [(6, .int .i64 0)] (by kernel_rfl) (by kernel_rfl) ?_
 refine WO.done (by kernel_rfl) ?_
 refine WQ.keep [0, 1, 2, 6] (e' := [(0, .pointer (some ⟨g, 0, none⟩)), (1, .int .i64 least), (2, .int .i64 most), (6, .int .i64 0)]) (by kernel_rfl) ?_
 refine WQ.thenN ?_
 refine WE.seq ?_
 refine WE.region ?_
 refine WO.run 3 0 [(13, .pointer (some ⟨g, 1, none⟩)), (12, .pointer (some ⟨g, 0, none⟩)), (11, .pointer (some ⟨g, 0, none⟩))] (by kernel_rfl) (by kernel_rfl) ?_
 refine WO.ld (SQ.S 3 (by kernel_rfl)) 14 (.int .i64 (p : Int)) (by kernel_rfl) (same (HB.at 1 (by kernel_rfl))) ?_
 refine WO.run 1 4 [(7, .int .i64 (p : Int))] (by kernel_rfl) (by kernel_rfl) ?_
 refine WO.done (by kernel_rfl) ?_
 refine WQ.keep [0, 1, 2, 6, 7] (e' := [(0, .pointer (some ⟨g, 0, none⟩)), (1, .int .i64 least), (2, .int .i64 most), (6, .int .i64 0), (7, .int .i64 (p : Int))]) (by kernel_rfl) ?_
 refine WQ.thenN ?_
 refine WE.seq ?_
 refine WE.region ?_
 refine WO.run 1 0 [(15, .pointer (some ⟨g, 0, none⟩))] (by kernel_rfl) (by kernel_rfl) ?_
 refine WO.call (SQ.E 1 (by kernel_rfl)) 16 (by kernel_rfl) (next_bad g s p bz _ hp hs hbz 45 HB) ?_
 rintro _ w1 ⟨rfl, HB3, F2⟩
 refine ⟨_, rfl, trivial, ?_⟩
 have HS := var_keep 3 (by kernel_rfl) HS F2 (ninC hgS (nin0 _))
 have HA := Fr.step HA F2 (inSL (by simp) inS0)
 refine WO.done (by kernel_rfl) ?_
 refine WQ.keep [0, 1, 2, 6, 7] (e' := [(0, .pointer (some ⟨g, 0, none⟩)), (1, .int .i64 least), (2, .int .i64 most), (6, .int .i64 0), (7, .int .i64 (p : Int))]) (by kernel_rfl) ?_
 refine WQ.thenN ?_
 refine WE.seq ?_
 refine WE.region ?_
 refine WO.run 1 0 [(17, .pointer (some ⟨g, 0, none⟩))] (by kernel_rfl) (by kernel_rfl) ?_
 refine WO.call (SQ.E 1 (by kernel_rfl)) 18 (by kernel_rfl) (runbad_d g s p bz _ (by omega) hs hbz HB3) ?_
 rintro _ w4 ⟨rfl, HB6, F5⟩
 refine ⟨_, rfl, trivial, ?_⟩
 have HS := var_keep 3 (by kernel_rfl) HS F5 (ninC hgS (nin0 _))
 have HA := Fr.step HA F5 (inSL (by simp) inS0)
 refine WO.run 1 2 [(8, .string (str ((s.take p).drop p)))] (by kernel_rfl) (by kernel_rfl) ?_
 refine WO.done (by kernel_rfl) ?_
 refine WQ.keep [0, 1, 2, 6, 7, 8] (e' := [(0, .pointer (some ⟨g, 0, none⟩)), (1, .int .i64 least), (2, .int .i64 most), (6, .int .i64 0), (7, .int .i64 (p : Int)), (8, .string (str ((s.take p).drop p)))]) (by kernel_rfl) ?_
 refine WQ.thenN ?_
 refine WE.seq ?_
 refine WE.draw [.free, .free, .free, .still, .free, .free, .free, .free, .still, .free, .eff, .free, .free, .free, .free, .free] Same sameR (by kernel_rfl) 16 (Array.replicate 16 false) (by kernel_rfl) rfl ?_
 intro w7 F8 _
 have HB6 := Blk.keep HB6 F8 (nin0 _)
 have HS := var_keep 3 (by kernel_rfl) HS F8 (nin0 _)
 have HA := Fr.step0 HA F8
 refine WO.one (SA.F sameR sameT _ 0 _ (by kernel_rfl)) 20 (.pointer (some ⟨g, 0, none⟩)) (by kernel_rfl) ?_
 refine WO.one (SA.F sameR sameT _ 1 _ (by kernel_rfl)) 21 (.pointer (some ⟨g, 0, none⟩)) (by kernel_rfl) ?_
 refine WO.one (SA.F sameR sameT _ 2 _ (by kernel_rfl)) 22 (.pointer (some ⟨g, 0, none⟩)) (by kernel_rfl) ?_
 refine WO.ld (SA.S sameR sameT _ 3 _ (by kernel_rfl)) 23 (.string (str s)) (by kernel_rfl) (same (HB6.at 0 (by kernel_rfl))) ?_
 refine WO.one (SA.F sameR sameT _ 4 _ (by kernel_rfl)) 24 (.int .i64 (p : Int)) (by kernel_rfl) ?_
 refine WO.one (SA.F sameR sameT _ 5 _ (by kernel_rfl)) 25 (.pointer (some ⟨g, 0, none⟩)) (by kernel_rfl) ?_
 refine WO.one (SA.F sameR sameT _ 6 _ (by kernel_rfl)) 26 (.pointer (some ⟨g, 0, none⟩)) (by kernel_rfl) ?_
 refine WO.one (SA.F sameR sameT _ 7 _ (by kernel_rfl)) 27 (.pointer (some ⟨g, 1, none⟩)) (by kernel_rfl) ?_
 refine WO.ld (SA.S sameR sameT _ 8 _ (by kernel_rfl)) 28 (.int .i64 (p : Int)) (by kernel_rfl) (same (HB6.at 1 (by kernel_rfl))) ?_
 refine WO.slS2 (lo := (p : Int)) (hi := (p : Int)) (SA.F sameR sameT _ 9 _ (by kernel_rfl)) 29 p p s (by kernel_rfl) (by rfl) (by rfl) (by omega) (by omega) ?_
 obtain ⟨tp_, pe_, hvar_⟩ := id HS
 refine WO.call (SA.E _ 10 _ (by kernel_rfl) rfl) 30 (by kernel_rfl) (Tryd.strconv_ParseInt_10_at64_syntax_var (str ((s.take p).drop p)) (by rw [str_size, List.length_drop, List.length_take]; omega) hpi tp_ pe_ _ hvar_) ?_
 rintro _ w9 ⟨N_, rfl, _, _, hbw⟩
 have F10 := Fr.of_below hbw
 refine ⟨_, rfl, trivial, ?_⟩
 have HB6 := Blk.keep HB6 F10 (nin0 _)
 have HS := var_keep 3 (by kernel_rfl) HS F10 (nin0 _)
 have HA := Fr.step0 HA F10
 refine WO.one (SA.F sameR sameT _ 11 _ (by kernel_rfl)) 19 (.tuple #[.int .i64 0, .iface 144 (.pointer (some ⟨N_, 0, none⟩))]) (by kernel_rfl) ?_
 refine WO.one (SA.F sameR sameT _ 12 _ (by kernel_rfl)) 31 (.int .i64 0) (by kernel_rfl) ?_
 refine WO.one (SA.F sameR sameT _ 13 _ (by kernel_rfl)) 32 (.iface 144 (.pointer (some ⟨N_, 0, none⟩))) (by kernel_rfl) ?_
 refine WO.one (SA.F sameR sameT _ 14 _ (by kernel_rfl)) 9 (.int .i64 0) (by kernel_rfl) ?_
 refine WO.one (SA.F sameR sameT _ 15 _ (by kernel_rfl)) 10 (.iface 144 (.pointer (some ⟨N_, 0, none⟩))) (by kernel_rfl) ?_
 refine WO.doneA (by kernel_rfl) ?_
 refine WQ.keep [0, 1, 2, 6, 7, 8, 9, 10] (e' := [(0, .pointer (some ⟨g, 0, none⟩)), (1, .int .i64 least), (2, .int .i64 most), (6, .int .i64 0), (7, .int .i64 (p : Int)), (8, .string (str ((s.take p).drop p))), (9, .int .i64 0), (10, .iface 144 (.pointer (some ⟨N_, 0, none⟩)))]) (by kernel_rfl) ?_
 refine WQ.thenN ?_
 refine WE.seq ?_
 refine WE.seq ?_
 refine WE.draw [.free, .free, .free, .free, .free, .free, .free, .free, .free, .free, .free, .free, .free, .free, .free, .free, .free, .free, .free, .free, .still, .free, .free, .free, .free, .still, .free, .free, .free, .free, .free, .free, .free, .free, .free, .free, .free, .free, .free, .free] Same sameR (by kernel_rfl) 40 (Array.replicate 40 false) (by kernel_rfl) rfl ?_
 intro w11 F12 _
 have HB6 := Blk.keep HB6 F12 (nin0 _)
 have HS := var_keep 3 (by kernel_rfl) HS F12 (nin0 _)
 have HA := Fr.step0 HA F12
 refine WO.one (SA.F sameR sameT _ 0 _ (by kernel_rfl)) 33 (.iface 144 (.pointer (some ⟨N_, 0, none⟩))) (by kernel_rfl) ?_
 refine WO.one (SA.F sameR sameT _ 1 _ (by kernel_rfl)) 34 (.bool true) (by kernel_rfl) ?_
 refine WO.one (SA.F sameR sameT _ 2 _ (by kernel_rfl)) 35 (.bool true) (by kernel_rfl) ?_
 refine WO.off (SA.O sameR sameT _ 3 _ (by kernel_rfl)) 36 (by kernel_rfl) ?_
 refine WO.off (SA.O sameR sameT _ 4 _ (by kernel_rfl)) 37 (by kernel_rfl) ?_
 refine WO.off (SA.O sameR sameT _ 5 _ (by kernel_rfl)) 38 (by kernel_rfl) ?_
 refine WO.off (SA.O sameR sameT _ 6 _ (by kernel_rfl)) 39 (by kernel_rfl) ?_
 refine WO.off (SA.O sameR sameT _ 7 _ (by kernel_rfl)) 40 (by kernel_rfl) ?_
 refine WO.off (SA.O sameR sameT _ 8 _ (by kernel_rfl)) 41 (by kernel_rfl) ?_
 refine WO.off (SA.O sameR sameT _ 9 _ (by kernel_rfl)) 42 (by kernel_rfl) ?_
 refine WO.off (SA.O sameR sameT _ 10 _ (by kernel_rfl)) 43 (by kernel_rfl) ?_
 refine WO.one (SA.F sameR sameT _ 11 _ (by kernel_rfl)) 44 (.bool true) (by kernel_rfl) ?_
 refine WO.one (SA.F sameR sameT _ 12 _ (by kernel_rfl)) 45 (.bool true) (by kernel_rfl) ?_
 refine WO.off (SA.O sameR sameT _ 13 _ (by kernel_rfl)) 46 (by kernel_rfl) ?_
 refine WO.off (SA.O sameR sameT _ 14 _ (by kernel_rfl)) 47 (by kernel_rfl) ?_
 refine WO.off (SA.O sameR sameT _ 15 _ (by kernel_rfl)) 48 (by kernel_rfl) ?_
 refine WO.off (SA.O sameR sameT _ 16 _ (by kernel_rfl)) 49 (by kernel_rfl) ?_
 refine WO.off (SA.O sameR sameT _ 17 _ (by kernel_rfl)) 50 (by kernel_rfl) ?_
 refine WO.off (SA.O sameR sameT _ 18 _ (by kernel_rfl)) 51 (by kernel_rfl) ?_
 refine WO.off (SA.O sameR sameT _ 19 _ (by kernel_rfl)) 52 (by kernel_rfl) ?_
 refine WO.off (SA.O sameR sameT _ 20 _ (by kernel_rfl)) 53 (by kernel_rfl) ?_
 refine WO.off (SA.O sameR sameT _ 21 _ (by kernel_rfl)) 54 (by kernel_rfl) ?_
 refine WO.off (SA.O sameR sameT _ 22 _ (by kernel_rfl)) 55 (by kernel_rfl) ?_
 refine WO.off (SA.O sameR sameT _ 23 _ (by kernel_rfl)) 56 (by kernel_rfl) ?_
 refine WO.off (SA.O sameR sameT _ 24 _ (by kernel_rfl)) 57 (by kernel_rfl) ?_
 refine WO.off (SA.O sameR sameT _ 25 _ (by kernel_rfl)) 58 (by kernel_rfl) ?_
 refine WO.off (SA.O sameR sameT _ 26 _ (by kernel_rfl)) 59 (by kernel_rfl) ?_
 refine WO.off (SA.O sameR sameT _ 27 _ (by kernel_rfl)) 60 (by kernel_rfl) ?_
 refine WO.off (SA.O sameR sameT _ 28 _ (by kernel_rfl)) 61 (by kernel_rfl) ?_
 refine WO.one (SA.F sameR sameT _ 29 _ (by kernel_rfl)) 62 (.bool true) (by kernel_rfl) ?_
 refine WO.one (SA.F sameR sameT _ 30 _ (by kernel_rfl)) 63 (.bool true) (by kernel_rfl) ?_
 refine WO.off (SA.O sameR sameT _ 31 _ (by kernel_rfl)) 64 (by kernel_rfl) ?_
 refine WO.off (SA.O sameR sameT _ 32 _ (by kernel_rfl)) 65 (by kernel_rfl) ?_
 refine WO.off (SA.O sameR sameT _ 33 _ (by kernel_rfl)) 66 (by kernel_rfl) ?_
 refine WO.one (SA.F sameR sameT _ 34 _ (by kernel_rfl)) 67 (.bool true) (by kernel_rfl) ?_
 refine WO.one (SA.F sameR sameT _ 35 _ (by kernel_rfl)) 68 (.bool true) (by kernel_rfl) ?_
 refine WO.off (SA.O sameR sameT _ 36 _ (by kernel_rfl)) 69 (by kernel_rfl) ?_
 refine WO.off (SA.O sameR sameT _ 37 _ (by kernel_rfl)) 70 (by kernel_rfl) ?_
 refine WO.off (SA.O sameR sameT _ 38 _ (by kernel_rfl)) 71 (by kernel_rfl) ?_
 refine WO.one (SA.F sameR sameT _ 39 _ (by kernel_rfl)) 72 (.bool true) (by kernel_rfl) ?_
 refine WO.doneA (by kernel_rfl) ?_
 refine WQ.keep [0, 1, 2, 6, 7, 8, 9, 10, 72] (e' := [(0, .pointer (some ⟨g, 0, none⟩)), (1, .int .i64 least), (2, .int .i64 most), (6, .int .i64 0), (7, .int .i64 (p : Int)), (8, .string (str ((s.take p).drop p))), (9, .int .i64 0), (10, .iface 144 (.pointer (some ⟨N_, 0, none⟩))), (72, .bool true)]) (by kernel_rfl) ?_
 refine WQ.thenN ?_
 refine WE.condT (by kernel_rfl) ?_
 refine WE.seq ?_
 refine WE.region ?_
 refine WO.run 2 0 [(74, .int .i64 (p : Int)), (73, .pointer (some ⟨g, 0, none⟩))] (by kernel_rfl) (by kernel_rfl) ?_
 refine WO.call (SQ.E 2 (by kernel_rfl)) 75 (by kernel_rfl) (fail_bad g s p bz _ (by omega) hs hbz ((p : Int) : Int) HB6) ?_
 rintro _ w13 ⟨rfl, HB15, F14⟩
 refine ⟨_, rfl, trivial, ?_⟩
 have HS := var_keep 3 (by kernel_rfl) HS F14 (ninC hgS (nin0 _))
 have HA := Fr.step HA F14 (inSL (by simp) inS0)
 refine WO.done (by kernel_rfl) ?_
 refine WQ.keep [0, 1, 2, 6, 7, 8, 9, 10, 72] (e' := [(0, .pointer (some ⟨g, 0, none⟩)), (1, .int .i64 least), (2, .int .i64 most), (6, .int .i64 0), (7, .int .i64 (p : Int)), (8, .string (str ((s.take p).drop p))), (9, .int .i64 0), (10, .iface 144 (.pointer (some ⟨N_, 0, none⟩))), (72, .bool true)]) (by kernel_rfl) ?_
 refine WQ.thenN ?_
 refine WE.seq ?_
 refine WE.region ?_
 refine WO.run 1 0 [(6, .int .i64 0)] (by kernel_rfl) (by kernel_rfl) ?_
 refine WO.done (by kernel_rfl) ?_
 refine WQ.keep [0, 1, 2, 6, 7, 8, 9, 10, 72] (e' := [(0, .pointer (some ⟨g, 0, none⟩)), (1, .int .i64 least), (2, .int .i64 most), (6, .int .i64 0), (7, .int .i64 (p : Int)), (8, .string (str ((s.take p).drop p))), (9, .int .i64 0), (10, .iface 144 (.pointer (some ⟨N_, 0, none⟩))), (72, .bool true)]) (by kernel_rfl) ?_
 refine WQ.thenN ?_
 refine WE.ret ?_
 refine WQ.thenR ?_
 refine WQ.ret (v := .int .i64 0) (by kernel_rfl) ?_
 exact ⟨rfl, HB15, HA⟩
end Go.Proofs.YtdhonbahpcmmnaaDoor.Line
