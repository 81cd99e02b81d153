/- Layer 8: the document's disk: Crash, Remove, Append. -/
import Derived.Test.YtkhibpdkgjapgaaDiskM
set_option linter.unusedVariables false
set_option linter.unusedSimpArgs false
namespace Go.Proofs.Ytkhibpdkgjapgaa.Disk
open Go Go.RowKit Go.Proofs.Ytkhibpdkgjapgaa Go.Proofs.Ytkhibpdkgjapgaa.Eng Go.Proofs.YtkhibpdkgjapgaaW.PrintWords
theorem gP_at (x y : List Pt) (p : Pt) (i : Nat) (hi : x.length = i) : gP (x ++ p :: y) i = p := by
  subst hi
  simp [gP]
theorem set_at (x y : List Pt) (p q : Pt) (i : Nat) (hi : x.length = i) : (x ++ p :: y).set i q = x ++ q :: y := by
  subst hi
  simp
theorem crash_two (x y : List Pt) (p : Pt) (i s : Nat) (hi : x.length = i) : ((x ++ p :: y).set i ⟨(gP (x ++ p :: y) i).n, (gP (x ++ p :: y) i).b, s⟩).set i ⟨(gP ((x ++ p :: y).set i ⟨(gP (x ++ p :: y) i).n, (gP (x ++ p :: y) i).b, s⟩) i).n, (gP ((x ++ p :: y).set i ⟨(gP (x ++ p :: y) i).n, (gP (x ++ p :: y) i).b, s⟩) i).b.take (gP ((x ++ p :: y).set i ⟨(gP (x ++ p :: y) i).n, (gP (x ++ p :: y) i).b, s⟩) i).s, (gP ((x ++ p :: y).set i ⟨(gP (x ++ p :: y) i).n, (gP (x ++ p :: y) i).b, s⟩) i).s⟩ = x ++ ⟨p.n, p.b.take s, s⟩ :: y := by
  rw [gP_at x y p i hi, set_at x y p _ i hi, gP_at x y _ i hi, set_at x y _ _ i hi]
theorem gP_ins (l X : List Pt) (i : Nat) (n : Int) (h : i ≤ l.length) : gP (([] ++ l.take i ++ [(⟨n, [], 0⟩ : Pt)]) ++ X) i = (⟨n, [], 0⟩ : Pt) := by
  rw [List.nil_append, List.append_assoc, List.singleton_append]
  exact gP_at _ _ _ _ (by rw [List.length_take]; omega)
theorem ins_two (l X : List Pt) (i : Nat) (n : Int) (bt : List UInt8) (h : i ≤ l.length) : (([] ++ l.take i ++ [(⟨n, [], 0⟩ : Pt)]) ++ X).set i (⟨(gP (([] ++ l.take i ++ [(⟨n, [], 0⟩ : Pt)]) ++ X) i).n, (gP (([] ++ l.take i ++ [(⟨n, [], 0⟩ : Pt)]) ++ X) i).b ++ bt, (gP (([] ++ l.take i ++ [(⟨n, [], 0⟩ : Pt)]) ++ X) i).s⟩ : Pt) = l.take i ++ (⟨n, bt, 0⟩ : Pt) :: X := by
  rw [gP_ins l X i n h, List.nil_append, List.append_assoc, List.singleton_append]
  exact set_at _ _ _ _ _ (by rw [List.length_take]; omega)
theorem drop_all (l : List Pt) (i n : Nat) (hn : l.length = n) : (l.drop i).take (n - i) = l.drop i := List.take_of_length_le (by rw [List.length_drop]; omega)
set_option maxRecDepth 100000 in
set_option maxHeartbeats 400000 in
theorem mcrash_down (g : Nat) (room : Int) (A : Option Addr) (nl cap : Nat) (l : List Pt) (F : List Nat) (keep : Int) (w : World) (HB : Blk w g #[.int .i64 room, .slice A nl cap, .bool true] 40) (HV : VX cP 3 w F A l) (hn : l.length = nl) (hgF : g ∉ F) (hnl : nl ≤ 1000000) :
    Calls Try.prog 21 #[.pointer (some ⟨g, 0, none⟩), .int .i64 keep] w fun e w' => e = .returned (.tuple #[]) ∧ Fr [] w w' := by
  have HA := Fr.refl [] w
  refine enter (N := 90) Try.func21 (c := _) rfl (by kernel_rfl) (by kernel_rfl) (e := [(0, .pointer (some ⟨g, 0, none⟩)), (1, .int .i64 keep)]) (by kernel_rfl) ?_
  refine WE.seq ?_
  refine WE.seq ?_
  refine WE.region ?_
  refine WO.run 3 0 [(8, .pointer (some ⟨g, 2, none⟩)), (7, .pointer (some ⟨g, 0, none⟩)), (6, .pointer (some ⟨g, 0, none⟩))] (by kernel_rfl) (by kernel_rfl) ?_
  refine WO.ld (SQ.S 3 (by kernel_rfl)) 9 (.bool true) (by kernel_rfl) (same (HB.at 2 (by kernel_rfl))) ?_
  refine WO.done (by kernel_rfl) ?_
  refine WQ.keep [0, 1, 9] (e' := [(0, .pointer (some ⟨g, 0, none⟩)), (1, .int .i64 keep), (9, .bool true)]) (by kernel_rfl) ?_
  refine WQ.thenN ?_
  refine WE.condT (by kernel_rfl) ?_
  refine WE.ret ?_
  refine WQ.thenR ?_
  refine WQ.ret (v := .tuple #[]) (by kernel_rfl) ?_
  exact ⟨rfl, HA⟩

set_option maxRecDepth 100000 in
set_option maxHeartbeats 400000 in
theorem mcrash_nil (g : Nat) (room : Int) (keep : Int) (w : World) (HB : Blk w g #[.int .i64 room, .slice none 0 0, .bool false] 40) :
    Calls Try.prog 21 #[.pointer (some ⟨g, 0, none⟩), .int .i64 keep] w fun e w' => e = .returned (.tuple #[]) ∧ Blk w' g #[.int .i64 room, .slice none 0 0, .bool true] 40 ∧ Fr [g] w w' := by
  have HA := Fr.refl [g] w
  refine enter (N := 90) Try.func21 (c := _) rfl (by kernel_rfl) (by kernel_rfl) (e := [(0, .pointer (some ⟨g, 0, none⟩)), (1, .int .i64 keep)]) (by kernel_rfl) ?_
  refine WE.seq ?_
  refine WE.seq ?_
  refine WE.region ?_
  refine WO.run 3 0 [(8, .pointer (some ⟨g, 2, none⟩)), (7, .pointer (some ⟨g, 0, none⟩)), (6, .pointer (some ⟨g, 0, none⟩))] (by kernel_rfl) (by kernel_rfl) ?_
  refine WO.ld (SQ.S 3 (by kernel_rfl)) 9 (.bool false) (by kernel_rfl) (same (HB.at 2 (by kernel_rfl))) ?_
  refine WO.done (by kernel_rfl) ?_
  refine WQ.keep [0, 1, 9] (e' := [(0, .pointer (some ⟨g, 0, none⟩)), (1, .int .i64 keep), (9, .bool false)]) (by kernel_rfl) ?_
  refine WQ.thenN ?_
  refine WE.condF (by kernel_rfl) ?_
  refine WE.skip ?_
  refine WQ.thenN ?_
  refine WE.seq ?_
  refine WE.seq ?_
  refine WE.region ?_
  refine WO.run 1 0 [(10, .int .i64 keep)] (by kernel_rfl) (by kernel_rfl) ?_
  refine WO.one (SQ.F 1 (by kernel_rfl)) 11 (.bool (decide ((keep : Int) < 0))) (by kernel_rfl) ?_
  refine WO.topP ((keep : Int) < 0) ?_ ?_
  · intro h1
    refine WO.done (by kernel_rfl) ?_
    refine WQ.keep [0, 1, 9, 11] (e' := [(0, .pointer (some ⟨g, 0, none⟩)), (1, .int .i64 keep), (9, .bool false), (11, .bool true)]) (by kernel_rfl) ?_
    refine WQ.thenN ?_
    refine WE.condT (by kernel_rfl) ?_
    refine WE.region ?_
    refine WO.run 1 0 [(1, .int .i64 0)] (by kernel_rfl) (by kernel_rfl) ?_
    refine WO.done (by kernel_rfl) ?_
    refine WQ.keep [0, 1, 9, 11] (e' := [(0, .pointer (some ⟨g, 0, none⟩)), (1, .int .i64 0), (9, .bool false), (11, .bool true)]) (by kernel_rfl) ?_
    refine WQ.thenN ?_
    refine WE.seq ?_
    refine WE.seq ?_
    refine WE.region ?_
    refine WO.run 1 0 [(4, .int .i64 0)] (by kernel_rfl) (by kernel_rfl) ?_
    refine WO.done (by kernel_rfl) ?_
    refine WQ.keep [0, 1, 4, 9, 11] (e' := [(0, .pointer (some ⟨g, 0, none⟩)), (1, .int .i64 0), (4, .int .i64 0), (9, .bool false), (11, .bool true)]) (by kernel_rfl) ?_
    refine WQ.thenN ?_
    refine WE.block ?_
    refine WE.loop (α := Unit) (E := fun _ => [(0, .pointer (some ⟨g, 0, none⟩)), (1, .int .i64 0), (4, .int .i64 0), (9, .bool false), (11, .bool true)]) (I := fun _ wr => w = wr) (m := fun _ => 0) () [0, 1, 4, 9, 11] (by kernel_rfl) ?_ ?_
    · rfl
    rintro _ wr hw
    subst hw
    refine WE.seq ?_
    refine WE.seq ?_
    refine WE.region ?_
    refine WO.run 4 0 [(15, .pointer (some ⟨g, 1, none⟩)), (14, .pointer (some ⟨g, 0, none⟩)), (13, .pointer (some ⟨g, 0, none⟩)), (12, .int .i64 0)] (by kernel_rfl) (by kernel_rfl) ?_
    refine WO.ld (SQ.S 4 (by kernel_rfl)) 16 (.slice none 0 0) (by kernel_rfl) (same (HB.at 1 (by kernel_rfl))) ?_
    refine WO.run 2 5 [(18, .bool false), (17, .int .i64 0)] (by kernel_rfl) (by kernel_rfl) ?_
    refine WO.done (by kernel_rfl) ?_
    refine WQ.keep [0, 1, 4, 9, 11, 18] (e' := [(0, .pointer (some ⟨g, 0, none⟩)), (1, .int .i64 0), (4, .int .i64 0), (9, .bool false), (11, .bool true), (18, .bool false)]) (by kernel_rfl) ?_
    refine WQ.thenN ?_
    refine WE.condF (by kernel_rfl) ?_
    refine WE.exit ?_
    refine WQ.thenE ?_
    refine WQ.thenE ?_
    refine WQ.blkE ?_
    refine WQ.thenN ?_
    refine WE.region ?_
    refine WO.run 3 0 [(89, .pointer (some ⟨g, 2, none⟩)), (88, .pointer (some ⟨g, 0, none⟩)), (87, .pointer (some ⟨g, 0, none⟩))] (by kernel_rfl) (by kernel_rfl) ?_
    refine WO.st (SQ.E 3 (by kernel_rfl)) g 2 [.bool true] #[.int .i64 room, .slice none 0 0, .bool true] (by kernel_rfl) HB (by kernel_rfl) (by kernel_rfl) (fun _ _ => trivial) ?_
    intro w2 HB4 F3 _
    have HA := Fr.step HA F3 (inSL (by simp) inS0)
    refine WO.done (by kernel_rfl) ?_
    refine WQ.keep [0, 1, 4, 9, 11, 18] (e' := [(0, .pointer (some ⟨g, 0, none⟩)), (1, .int .i64 0), (4, .int .i64 0), (9, .bool false), (11, .bool true), (18, .bool false)]) (by kernel_rfl) ?_
    refine WQ.fall (v := .tuple #[]) (by kernel_rfl) ?_
    exact ⟨rfl, HB4, HA⟩
  intro h1
  refine WO.done (by kernel_rfl) ?_
  refine WQ.keep [0, 1, 9, 11] (e' := [(0, .pointer (some ⟨g, 0, none⟩)), (1, .int .i64 keep), (9, .bool false), (11, .bool false)]) (by kernel_rfl) ?_
  refine WQ.thenN ?_
  refine WE.condF (by kernel_rfl) ?_
  refine WE.skip ?_
  refine WQ.thenN ?_
  refine WE.seq ?_
  refine WE.seq ?_
  refine WE.region ?_
  refine WO.run 1 0 [(4, .int .i64 0)] (by kernel_rfl) (by kernel_rfl) ?_
  refine WO.done (by kernel_rfl) ?_
  refine WQ.keep [0, 1, 4, 9, 11] (e' := [(0, .pointer (some ⟨g, 0, none⟩)), (1, .int .i64 keep), (4, .int .i64 0), (9, .bool false), (11, .bool false)]) (by kernel_rfl) ?_
  refine WQ.thenN ?_
  refine WE.block ?_
  refine WE.loop (α := Unit) (E := fun _ => [(0, .pointer (some ⟨g, 0, none⟩)), (1, .int .i64 keep), (4, .int .i64 0), (9, .bool false), (11, .bool false)]) (I := fun _ wr => w = wr) (m := fun _ => 0) () [0, 1, 4, 9, 11] (by kernel_rfl) ?_ ?_
  · rfl
  rintro _ wr hw
  subst hw
  refine WE.seq ?_
  refine WE.seq ?_
  refine WE.region ?_
  refine WO.run 4 0 [(15, .pointer (some ⟨g, 1, none⟩)), (14, .pointer (some ⟨g, 0, none⟩)), (13, .pointer (some ⟨g, 0, none⟩)), (12, .int .i64 0)] (by kernel_rfl) (by kernel_rfl) ?_
  refine WO.ld (SQ.S 4 (by kernel_rfl)) 16 (.slice none 0 0) (by kernel_rfl) (same (HB.at 1 (by kernel_rfl))) ?_
  refine WO.run 2 5 [(18, .bool false), (17, .int .i64 0)] (by kernel_rfl) (by kernel_rfl) ?_
  refine WO.done (by kernel_rfl) ?_
  refine WQ.keep [0, 1, 4, 9, 11, 18] (e' := [(0, .pointer (some ⟨g, 0, none⟩)), (1, .int .i64 keep), (4, .int .i64 0), (9, .bool false), (11, .bool false), (18, .bool false)]) (by kernel_rfl) ?_
  refine WQ.thenN ?_
  refine WE.condF (by kernel_rfl) ?_
  refine WE.exit ?_
  refine WQ.thenE ?_
  refine WQ.thenE ?_
  refine WQ.blkE ?_
  refine WQ.thenN ?_
  refine WE.region ?_
  refine WO.run 3 0 [(89, .pointer (some ⟨g, 2, none⟩)), (88, .pointer (some ⟨g, 0, none⟩)), (87, .pointer (some ⟨g, 0, none⟩))] (by kernel_rfl) (by kernel_rfl) ?_
  refine WO.st (SQ.E 3 (by kernel_rfl)) g 2 [.bool true] #[.int .i64 room, .slice none 0 0, .bool true] (by kernel_rfl) HB (by kernel_rfl) (by kernel_rfl) (fun _ _ => trivial) ?_
  intro w5 HB7 F6 _
  have HA := Fr.step HA F6 (inSL (by simp) inS0)
  refine WO.done (by kernel_rfl) ?_
  refine WQ.keep [0, 1, 4, 9, 11, 18] (e' := [(0, .pointer (some ⟨g, 0, none⟩)), (1, .int .i64 keep), (4, .int .i64 0), (9, .bool false), (11, .bool false), (18, .bool false)]) (by kernel_rfl) ?_
  refine WQ.fall (v := .tuple #[]) (by kernel_rfl) ?_
  exact ⟨rfl, HB7, HA⟩

set_option maxRecDepth 100000 in
set_option maxHeartbeats 400000 in
theorem mcrash_pos (g b : Nat) (room : Int) (nl cap : Nat) (l : List Pt) (k0 : Nat) (w : World) (HB : Blk w g #[.int .i64 room, .slice (some ⟨b, 0, none⟩) nl cap, .bool false] 40) (HR : RowB w b 54 3 cap (l.map cP)) (hn : l.length = nl) (hgb' : g ≠ b) (hgb : g ∉ [b]) (hnl : nl ≤ 1000000) (hsy : ∀ p ∈ l, p.s ≤ p.b.length ∧ p.b.length ≤ 1000000) (hk0 : k0 ≤ 9223372036854775807) :
    Calls Try.prog 21 #[.pointer (some ⟨g, 0, none⟩), .int .i64 (k0 : Int)] w fun e w' => e = .returned (.tuple #[]) ∧ Blk w' g #[.int .i64 room, .slice (some ⟨b, 0, none⟩) nl cap, .bool true] 40 ∧ RowB w' b 54 3 cap ((crashL k0 l).map cP) ∧ Fr [b, g] w w' := by
  have HA := Fr.refl [b, g] w
  refine enter (N := 90) Try.func21 (c := _) rfl (by kernel_rfl) (by kernel_rfl) (e := [(0, .pointer (some ⟨g, 0, none⟩)), (1, .int .i64 (k0 : Int))]) (by kernel_rfl) ?_
  refine WE.seq ?_
  refine WE.seq ?_
  refine WE.region ?_
  refine WO.run 3 0 [(8, .pointer (some ⟨g, 2, none⟩)), (7, .pointer (some ⟨g, 0, none⟩)), (6, .pointer (some ⟨g, 0, none⟩))] (by kernel_rfl) (by kernel_rfl) ?_
  refine WO.ld (SQ.S 3 (by kernel_rfl)) 9 (.bool false) (by kernel_rfl) (same (HB.at 2 (by kernel_rfl))) ?_
  refine WO.done (by kernel_rfl) ?_
  refine WQ.keep [0, 1, 9] (e' := [(0, .pointer (some ⟨g, 0, none⟩)), (1, .int .i64 (k0 : Int)), (9, .bool false)]) (by kernel_rfl) ?_
  refine WQ.thenN ?_
  refine WE.condF (by kernel_rfl) ?_
  refine WE.skip ?_
  refine WQ.thenN ?_
  refine WE.seq ?_
  refine WE.seq ?_
  refine WE.region ?_
  refine WO.run 1 0 [(10, .int .i64 (k0 : Int))] (by kernel_rfl) (by kernel_rfl) ?_
  refine WO.one (SQ.F 1 (by kernel_rfl)) 11 (.bool (decide (((k0 : Int) : Int) < (0 : Int)))) (by kernel_rfl) ?_
  refine WO.topPF (((k0 : Int) : Int) < (0 : Int)) (by omega) ?_
  refine WO.done (by kernel_rfl) ?_
  refine WQ.keep [0, 1, 9, 11] (e' := [(0, .pointer (some ⟨g, 0, none⟩)), (1, .int .i64 (k0 : Int)), (9, .bool false), (11, .bool false)]) (by kernel_rfl) ?_
  refine WQ.thenN ?_
  refine WE.condF (by kernel_rfl) ?_
  refine WE.skip ?_
  refine WQ.thenN ?_
  refine WE.seq ?_
  refine WE.seq ?_
  refine WE.region ?_
  refine WO.run 1 0 [(4, .int .i64 0)] (by kernel_rfl) (by kernel_rfl) ?_
  refine WO.done (by kernel_rfl) ?_
  refine WQ.keep [0, 1, 4, 9, 11] (e' := [(0, .pointer (some ⟨g, 0, none⟩)), (1, .int .i64 (k0 : Int)), (4, .int .i64 0), (9, .bool false), (11, .bool false)]) (by kernel_rfl) ?_
  refine WQ.thenN ?_
  refine WE.block ?_
  refine WE.loop (α := Nat × List Pt × List Pt × Nat) (E := fun ⟨i, x, y, kp⟩ => [(0, .pointer (some ⟨g, 0, none⟩)), (1, .int .i64 (kp : Int)), (4, .int .i64 (i : Int)), (9, .bool false), (11, .bool false)]) (I := fun ⟨i, x, y, kp⟩ wr => x.length = i ∧ x.length + y.length = nl ∧ Blk wr g #[.int .i64 room, .slice (some ⟨b, 0, none⟩) nl cap, .bool false] 40 ∧ RowB wr b 54 3 cap ((x ++ y).map cP) ∧ (∀ p ∈ y, p.s ≤ p.b.length ∧ p.b.length ≤ 1000000) ∧ crashL k0 l = x ++ crashL kp y ∧ kp ≤ k0 ∧ Fr [b, g] w wr) (m := fun ⟨i, x, y, kp⟩ => y.length) (0, [], l, k0) [0, 1, 4, 9, 11] (by kernel_rfl) ?_ ?_
  · exact ⟨rfl, by simpa using hn, HB, HR, hsy, rfl, Nat.le_refl _, HA⟩
  rintro ⟨i, x, y, kp⟩ wr ⟨hi, hxy, HB, HR, hsy, hcr, hkp, HA⟩
  dsimp only at hi hxy HR hsy hcr hkp ⊢
  have hnq : (x ++ y).length = nl := by rw [List.length_append]; exact hxy
  refine WE.seq ?_
  refine WE.seq ?_
  refine WE.region ?_
  refine WO.run 4 0 [(15, .pointer (some ⟨g, 1, none⟩)), (14, .pointer (some ⟨g, 0, none⟩)), (13, .pointer (some ⟨g, 0, none⟩)), (12, .int .i64 (i : Int))] (by kernel_rfl) (by kernel_rfl) ?_
  refine WO.ld (SQ.S 4 (by kernel_rfl)) 16 (.slice (some ⟨b, 0, none⟩) nl cap) (by kernel_rfl) (same (HB.at 1 (by kernel_rfl))) ?_
  refine WO.run 1 5 [(17, .int .i64 (nl : Int))] (by kernel_rfl) (by kernel_rfl) ?_
  refine WO.one (SQ.F 6 (by kernel_rfl)) 18 (.bool (decide (((i : Int) : Int) < (nl : Int)))) (by kernel_rfl) ?_
  refine WO.topP (((i : Int) : Int) < (nl : Int)) ?_ ?_
  · intro h1
    refine WO.done (by kernel_rfl) ?_
    refine WQ.keep [0, 1, 4, 9, 11, 18] (e' := [(0, .pointer (some ⟨g, 0, none⟩)), (1, .int .i64 (kp : Int)), (4, .int .i64 (i : Int)), (9, .bool false), (11, .bool false), (18, .bool true)]) (by kernel_rfl) ?_
    refine WQ.thenN ?_
    refine WE.condT (by kernel_rfl) ?_
    refine WE.skip ?_
    refine WQ.thenN ?_
    refine WE.seq ?_
    refine WE.block ?_
    refine WE.seq ?_
    obtain ⟨p, y', rfl⟩ : ∃ p y', y = p :: y' := by cases y with | nil => simp at hxy; omega | cons a b => exact ⟨_, _, rfl⟩
    have hgp : gP (x ++ p :: y') i = p := gP_at x y' p i hi
    obtain ⟨hsl, hbl⟩ := hsy p (by simp)
    refine WE.draw [.free, .free, .free, .still, .free, .free, .free, .still, .free, .free, .free, .free, .still, .free, .free, .free, .still, .free, .free] Same sameR (by kernel_rfl) 19 (Array.replicate 19 false) (by kernel_rfl) rfl ?_
    intro w2 F3 _
    have HB := Blk.keep HB F3 (nin0 _)
    have HR := RowB.keep HR F3 (nin0 _)
    have HA := Fr.step0 HA F3
    refine WO.one (SA.F sameR sameT _ 0 _ (by kernel_rfl)) 21 (.pointer (some ⟨g, 0, none⟩)) (by kernel_rfl) ?_
    refine WO.one (SA.F sameR sameT _ 1 _ (by kernel_rfl)) 22 (.pointer (some ⟨g, 0, none⟩)) (by kernel_rfl) ?_
    refine WO.one (SA.F sameR sameT _ 2 _ (by kernel_rfl)) 23 (.pointer (some ⟨g, 1, none⟩)) (by kernel_rfl) ?_
    refine WO.ld (SA.S sameR sameT _ 3 _ (by kernel_rfl)) 24 (.slice (some ⟨b, 0, none⟩) nl cap) (by kernel_rfl) (same (HB.at 1 (by kernel_rfl))) ?_
    refine WO.one (SA.F sameR sameT _ 4 _ (by kernel_rfl)) 25 (.int .i64 (i : Int)) (by kernel_rfl) ?_
    refine WO.ixB (SA.F sameR sameT _ 5 _ (by kernel_rfl)) 26 (i * 3) b 0 nl 3 (i : Int) (by kernel_rfl) (by omega) (by omega) (by omega) ?_
    refine WO.one (SA.F sameR sameT _ 6 _ (by kernel_rfl)) 27 (.pointer (some ⟨b, i * 3 + 1, none⟩)) (by kernel_rfl) ?_
    refine WO.ld (SA.S sameR sameT _ 7 _ (by kernel_rfl)) 28 (.string (str (gP (x ++ p :: y') i).b)) (by kernel_rfl) (same (HR.at i 1 (i * 3 + 1) _ (by rw [List.length_map]; have := hnq; omega) (by omega) (by rw [(map_gP (x ++ p :: y') i (by have := hnq; omega))]; rfl) (by omega))) ?_
    refine WO.one (SA.F sameR sameT _ 8 _ (by kernel_rfl)) 29 (.int .i64 (((gP (x ++ p :: y') i).b).length : Int)) (by kernel_rfl) ?_
    refine WO.one (SA.F sameR sameT _ 9 _ (by kernel_rfl)) 30 (.pointer (some ⟨g, 0, none⟩)) (by kernel_rfl) ?_
    refine WO.one (SA.F sameR sameT _ 10 _ (by kernel_rfl)) 31 (.pointer (some ⟨g, 0, none⟩)) (by kernel_rfl) ?_
    refine WO.one (SA.F sameR sameT _ 11 _ (by kernel_rfl)) 32 (.pointer (some ⟨g, 1, none⟩)) (by kernel_rfl) ?_
    refine WO.ld (SA.S sameR sameT _ 12 _ (by kernel_rfl)) 33 (.slice (some ⟨b, 0, none⟩) nl cap) (by kernel_rfl) (same (HB.at 1 (by kernel_rfl))) ?_
    refine WO.one (SA.F sameR sameT _ 13 _ (by kernel_rfl)) 34 (.int .i64 (i : Int)) (by kernel_rfl) ?_
    refine WO.ixB (SA.F sameR sameT _ 14 _ (by kernel_rfl)) 35 (i * 3) b 0 nl 3 (i : Int) (by kernel_rfl) (by omega) (by omega) (by omega) ?_
    refine WO.one (SA.F sameR sameT _ 15 _ (by kernel_rfl)) 36 (.pointer (some ⟨b, i * 3 + 2, none⟩)) (by kernel_rfl) ?_
    refine WO.ld (SA.S sameR sameT _ 16 _ (by kernel_rfl)) 37 (.int .i64 ((gP (x ++ p :: y') i).s : Int)) (by kernel_rfl) (same (HR.at i 2 (i * 3 + 2) _ (by rw [List.length_map]; have := hnq; omega) (by omega) (by rw [(map_gP (x ++ p :: y') i (by have := hnq; omega))]; rfl) (by omega))) ?_
    refine WO.one (SA.F sameR sameT _ 17 _ (by kernel_rfl)) 38 (.int .i64 (IntKind.i64.wrap ((((gP (x ++ p :: y') i).b).length : Int) - ((gP (x ++ p :: y') i).s : Int)))) (by kernel_rfl) ?_
    refine WO.top (v' := .int .i64 ((p.b.length - p.s : Nat) : Int)) (wrap_i64 (by rw [hgp]; omega) (by omega)) ?_
    refine WO.one (SA.F sameR sameT _ 18 _ (by kernel_rfl)) 5 (.int .i64 ((p.b.length - p.s : Nat) : Int)) (by kernel_rfl) ?_
    refine WO.doneA (by kernel_rfl) ?_
    refine WQ.keep [0, 1, 4, 5, 9, 11, 18] (e' := [(0, .pointer (some ⟨g, 0, none⟩)), (1, .int .i64 (kp : Int)), (4, .int .i64 (i : Int)), (5, .int .i64 ((p.b.length - p.s : Nat) : Int)), (9, .bool false), (11, .bool false), (18, .bool true)]) (by kernel_rfl) ?_
    refine WQ.thenN ?_
    refine WE.seq ?_
    refine WE.seq ?_
    refine WE.region ?_
    refine WO.run 2 0 [(40, .int .i64 (kp : Int)), (39, .int .i64 ((p.b.length - p.s : Nat) : Int))] (by kernel_rfl) (by kernel_rfl) ?_
    refine WO.one (SQ.F 2 (by kernel_rfl)) 41 (.bool (decide ((((p.b.length - p.s : Nat) : Int) : Int) > (kp : Int)))) (by kernel_rfl) ?_
    refine WO.topP ((((p.b.length - p.s : Nat) : Int) : Int) > (kp : Int)) ?_ ?_
    · intro h4
      refine WO.done (by kernel_rfl) ?_
      refine WQ.keep [0, 1, 4, 5, 9, 11, 18, 41] (e' := [(0, .pointer (some ⟨g, 0, none⟩)), (1, .int .i64 (kp : Int)), (4, .int .i64 (i : Int)), (5, .int .i64 ((p.b.length - p.s : Nat) : Int)), (9, .bool false), (11, .bool false), (18, .bool true), (41, .bool true)]) (by kernel_rfl) ?_
      refine WQ.thenN ?_
      refine WE.condT (by kernel_rfl) ?_
      refine WE.region ?_
      refine WO.run 2 0 [(5, .int .i64 (kp : Int)), (42, .int .i64 (kp : Int))] (by kernel_rfl) (by kernel_rfl) ?_
      refine WO.done (by kernel_rfl) ?_
      refine WQ.keep [0, 1, 4, 5, 9, 11, 18, 41] (e' := [(0, .pointer (some ⟨g, 0, none⟩)), (1, .int .i64 (kp : Int)), (4, .int .i64 (i : Int)), (5, .int .i64 (kp : Int)), (9, .bool false), (11, .bool false), (18, .bool true), (41, .bool true)]) (by kernel_rfl) ?_
      refine WQ.thenN ?_
      refine WE.seq ?_
      refine WE.region ?_
      refine WO.run 2 0 [(44, .int .i64 (kp : Int)), (43, .int .i64 (kp : Int))] (by kernel_rfl) (by kernel_rfl) ?_
      refine WO.one (SQ.F 2 (by kernel_rfl)) 45 (.int .i64 (IntKind.i64.wrap ((kp : Int) - (kp : Int)))) (by kernel_rfl) ?_
      refine WO.top (v' := .int .i64 ((kp - kp : Nat) : Int)) (wrap_i64 (by omega) (by omega)) ?_
      refine WO.run 1 3 [(1, .int .i64 ((kp - kp : Nat) : Int))] (by kernel_rfl) (by kernel_rfl) ?_
      refine WO.done (by kernel_rfl) ?_
      refine WQ.keep [0, 1, 4, 5, 9, 11, 18, 41] (e' := [(0, .pointer (some ⟨g, 0, none⟩)), (1, .int .i64 ((kp - kp : Nat) : Int)), (4, .int .i64 (i : Int)), (5, .int .i64 (kp : Int)), (9, .bool false), (11, .bool false), (18, .bool true), (41, .bool true)]) (by kernel_rfl) ?_
      refine WQ.thenN ?_
      refine WE.seq ?_
      refine WE.draw [.free, .free, .free, .still, .free, .free, .free, .free, .still, .free, .free, .free, .still, .free, .free, .free, .free, .eff] Same sameR (by kernel_rfl) 18 (Array.replicate 18 false) (by kernel_rfl) rfl ?_
      intro w5 F6 _
      have HB := Blk.keep HB F6 (nin0 _)
      have HR := RowB.keep HR F6 (nin0 _)
      have HA := Fr.step0 HA F6
      refine WO.one (SA.F sameR sameT _ 0 _ (by kernel_rfl)) 46 (.pointer (some ⟨g, 0, none⟩)) (by kernel_rfl) ?_
      refine WO.one (SA.F sameR sameT _ 1 _ (by kernel_rfl)) 47 (.pointer (some ⟨g, 0, none⟩)) (by kernel_rfl) ?_
      refine WO.one (SA.F sameR sameT _ 2 _ (by kernel_rfl)) 48 (.pointer (some ⟨g, 1, none⟩)) (by kernel_rfl) ?_
      refine WO.ld (SA.S sameR sameT _ 3 _ (by kernel_rfl)) 49 (.slice (some ⟨b, 0, none⟩) nl cap) (by kernel_rfl) (same (HB.at 1 (by kernel_rfl))) ?_
      refine WO.one (SA.F sameR sameT _ 4 _ (by kernel_rfl)) 50 (.int .i64 (i : Int)) (by kernel_rfl) ?_
      refine WO.one (SA.F sameR sameT _ 5 _ (by kernel_rfl)) 51 (.pointer (some ⟨g, 0, none⟩)) (by kernel_rfl) ?_
      refine WO.one (SA.F sameR sameT _ 6 _ (by kernel_rfl)) 52 (.pointer (some ⟨g, 0, none⟩)) (by kernel_rfl) ?_
      refine WO.one (SA.F sameR sameT _ 7 _ (by kernel_rfl)) 53 (.pointer (some ⟨g, 1, none⟩)) (by kernel_rfl) ?_
      refine WO.ld (SA.S sameR sameT _ 8 _ (by kernel_rfl)) 54 (.slice (some ⟨b, 0, none⟩) nl cap) (by kernel_rfl) (same (HB.at 1 (by kernel_rfl))) ?_
      refine WO.one (SA.F sameR sameT _ 9 _ (by kernel_rfl)) 55 (.int .i64 (i : Int)) (by kernel_rfl) ?_
      refine WO.ixB (SA.F sameR sameT _ 10 _ (by kernel_rfl)) 56 (i * 3) b 0 nl 3 (i : Int) (by kernel_rfl) (by omega) (by omega) (by omega) ?_
      refine WO.one (SA.F sameR sameT _ 11 _ (by kernel_rfl)) 57 (.pointer (some ⟨b, i * 3 + 2, none⟩)) (by kernel_rfl) ?_
      refine WO.ld (SA.S sameR sameT _ 12 _ (by kernel_rfl)) 58 (.int .i64 ((gP (x ++ p :: y') i).s : Int)) (by kernel_rfl) (same (HR.at i 2 (i * 3 + 2) _ (by rw [List.length_map]; have := hnq; omega) (by omega) (by rw [(map_gP (x ++ p :: y') i (by have := hnq; omega))]; rfl) (by omega))) ?_
      refine WO.one (SA.F sameR sameT _ 13 _ (by kernel_rfl)) 59 (.int .i64 (kp : Int)) (by kernel_rfl) ?_
      refine WO.one (SA.F sameR sameT _ 14 _ (by kernel_rfl)) 60 (.int .i64 (IntKind.i64.wrap (((gP (x ++ p :: y') i).s : Int) + (kp : Int)))) (by kernel_rfl) ?_
      refine WO.top (v' := .int .i64 ((p.s + kp : Nat) : Int)) (wrap_i64 (by rw [hgp]; omega) (by omega)) ?_
      refine WO.ixB (SA.F sameR sameT _ 15 _ (by kernel_rfl)) 61 (i * 3) b 0 nl 3 (i : Int) (by kernel_rfl) (by omega) (by omega) (by omega) ?_
      refine WO.one (SA.F sameR sameT _ 16 _ (by kernel_rfl)) 62 (.pointer (some ⟨b, i * 3 + 2, none⟩)) (by kernel_rfl) ?_
      refine WO.stC (SA.E _ 17 _ (by kernel_rfl) rfl) b i 2 (i * 3 + 2) (.int .i64 ((p.s + kp : Nat) : Int)) [.int .i64 ((gP (x ++ p :: y') i).n), .string (str (gP (x ++ p :: y') i).b), .int .i64 ((p.s + kp : Nat) : Int)] HR (by rw [List.length_map]; have := hnq; omega) (by omega) (by omega) rfl (by rw [(map_gP (x ++ p :: y') i (by have := hnq; omega))]; rfl) (by kernel_rfl) (fun _ _ => trivial) ?_
      intro w7 HR9 F8 _
      have HB := Blk.keep HB F8 (ninC hgb' (nin0 _))
      have HA := Fr.step HA F8 (inSL (by simp) inS0)
      have HR9 : RowB w7 b 54 3 cap (((x ++ p :: y').set i (⟨(gP (x ++ p :: y') i).n, (gP (x ++ p :: y') i).b, p.s + kp⟩ : Pt)).map cP) := by rw [List.map_set]; exact HR9
      refine WO.doneA (by kernel_rfl) ?_
      refine WQ.keep [0, 1, 4, 5, 9, 11, 18, 41] (e' := [(0, .pointer (some ⟨g, 0, none⟩)), (1, .int .i64 ((kp - kp : Nat) : Int)), (4, .int .i64 (i : Int)), (5, .int .i64 (kp : Int)), (9, .bool false), (11, .bool false), (18, .bool true), (41, .bool true)]) (by kernel_rfl) ?_
      refine WQ.thenN ?_
      refine WE.draw [.free, .free, .free, .still, .free, .free, .free, .free, .still, .free, .free, .free, .still, .free, .free, .free, .still, .free, .free, .free, .still, .free, .free, .free, .eff] Same sameR (by kernel_rfl) 25 (Array.replicate 25 false) (by kernel_rfl) rfl ?_
      intro w10 F11 _
      have HB := Blk.keep HB F11 (nin0 _)
      have HR9 := RowB.keep HR9 F11 (nin0 _)
      have HA := Fr.step0 HA F11
      refine WO.one (SA.F sameR sameT _ 0 _ (by kernel_rfl)) 63 (.pointer (some ⟨g, 0, none⟩)) (by kernel_rfl) ?_
      refine WO.one (SA.F sameR sameT _ 1 _ (by kernel_rfl)) 64 (.pointer (some ⟨g, 0, none⟩)) (by kernel_rfl) ?_
      refine WO.one (SA.F sameR sameT _ 2 _ (by kernel_rfl)) 65 (.pointer (some ⟨g, 1, none⟩)) (by kernel_rfl) ?_
      refine WO.ld (SA.S sameR sameT _ 3 _ (by kernel_rfl)) 66 (.slice (some ⟨b, 0, none⟩) nl cap) (by kernel_rfl) (same (HB.at 1 (by kernel_rfl))) ?_
      refine WO.one (SA.F sameR sameT _ 4 _ (by kernel_rfl)) 67 (.int .i64 (i : Int)) (by kernel_rfl) ?_
      refine WO.one (SA.F sameR sameT _ 5 _ (by kernel_rfl)) 68 (.pointer (some ⟨g, 0, none⟩)) (by kernel_rfl) ?_
      refine WO.one (SA.F sameR sameT _ 6 _ (by kernel_rfl)) 69 (.pointer (some ⟨g, 0, none⟩)) (by kernel_rfl) ?_
      refine WO.one (SA.F sameR sameT _ 7 _ (by kernel_rfl)) 70 (.pointer (some ⟨g, 1, none⟩)) (by kernel_rfl) ?_
      refine WO.ld (SA.S sameR sameT _ 8 _ (by kernel_rfl)) 71 (.slice (some ⟨b, 0, none⟩) nl cap) (by kernel_rfl) (same (HB.at 1 (by kernel_rfl))) ?_
      refine WO.one (SA.F sameR sameT _ 9 _ (by kernel_rfl)) 72 (.int .i64 (i : Int)) (by kernel_rfl) ?_
      refine WO.ixB (SA.F sameR sameT _ 10 _ (by kernel_rfl)) 73 (i * 3) b 0 nl 3 (i : Int) (by kernel_rfl) (by omega) (by omega) (by omega) ?_
      refine WO.one (SA.F sameR sameT _ 11 _ (by kernel_rfl)) 74 (.pointer (some ⟨b, i * 3 + 1, none⟩)) (by kernel_rfl) ?_
      refine WO.ld (SA.S sameR sameT _ 12 _ (by kernel_rfl)) 75 (.string (str (gP ((x ++ p :: y').set i (⟨(gP (x ++ p :: y') i).n, (gP (x ++ p :: y') i).b, p.s + kp⟩ : Pt)) i).b)) (by kernel_rfl) (same (HR9.at i 1 (i * 3 + 1) _ (by rw [List.length_map]; have := (show ((x ++ p :: y').set i (⟨(gP (x ++ p :: y') i).n, (gP (x ++ p :: y') i).b, p.s + kp⟩ : Pt)).length = (x ++ p :: y').length from List.length_set).trans (hnq); omega) (by omega) (by rw [(map_gP ((x ++ p :: y').set i (⟨(gP (x ++ p :: y') i).n, (gP (x ++ p :: y') i).b, p.s + kp⟩ : Pt)) i (by have := (show ((x ++ p :: y').set i (⟨(gP (x ++ p :: y') i).n, (gP (x ++ p :: y') i).b, p.s + kp⟩ : Pt)).length = (x ++ p :: y').length from List.length_set).trans (hnq); omega))]; rfl) (by omega))) ?_
      refine WO.one (SA.F sameR sameT _ 13 _ (by kernel_rfl)) 76 (.pointer (some ⟨g, 0, none⟩)) (by kernel_rfl) ?_
      refine WO.one (SA.F sameR sameT _ 14 _ (by kernel_rfl)) 77 (.pointer (some ⟨g, 0, none⟩)) (by kernel_rfl) ?_
      refine WO.one (SA.F sameR sameT _ 15 _ (by kernel_rfl)) 78 (.pointer (some ⟨g, 1, none⟩)) (by kernel_rfl) ?_
      refine WO.ld (SA.S sameR sameT _ 16 _ (by kernel_rfl)) 79 (.slice (some ⟨b, 0, none⟩) nl cap) (by kernel_rfl) (same (HB.at 1 (by kernel_rfl))) ?_
      refine WO.one (SA.F sameR sameT _ 17 _ (by kernel_rfl)) 80 (.int .i64 (i : Int)) (by kernel_rfl) ?_
      refine WO.ixB (SA.F sameR sameT _ 18 _ (by kernel_rfl)) 81 (i * 3) b 0 nl 3 (i : Int) (by kernel_rfl) (by omega) (by omega) (by omega) ?_
      refine WO.one (SA.F sameR sameT _ 19 _ (by kernel_rfl)) 82 (.pointer (some ⟨b, i * 3 + 2, none⟩)) (by kernel_rfl) ?_
      refine WO.ld (SA.S sameR sameT _ 20 _ (by kernel_rfl)) 83 (.int .i64 ((gP ((x ++ p :: y').set i (⟨(gP (x ++ p :: y') i).n, (gP (x ++ p :: y') i).b, p.s + kp⟩ : Pt)) i).s : Int)) (by kernel_rfl) (same (HR9.at i 2 (i * 3 + 2) _ (by rw [List.length_map]; have := (show ((x ++ p :: y').set i (⟨(gP (x ++ p :: y') i).n, (gP (x ++ p :: y') i).b, p.s + kp⟩ : Pt)).length = (x ++ p :: y').length from List.length_set).trans (hnq); omega) (by omega) (by rw [(map_gP ((x ++ p :: y').set i (⟨(gP (x ++ p :: y') i).n, (gP (x ++ p :: y') i).b, p.s + kp⟩ : Pt)) i (by have := (show ((x ++ p :: y').set i (⟨(gP (x ++ p :: y') i).n, (gP (x ++ p :: y') i).b, p.s + kp⟩ : Pt)).length = (x ++ p :: y').length from List.length_set).trans (hnq); omega))]; rfl) (by omega))) ?_
      refine WO.slS (SA.F sameR sameT _ 21 _ (by kernel_rfl)) 84 ((gP ((x ++ p :: y').set i (⟨(gP (x ++ p :: y') i).n, (gP (x ++ p :: y') i).b, p.s + kp⟩ : Pt)) i).s) ((gP ((x ++ p :: y').set i (⟨(gP (x ++ p :: y') i).n, (gP (x ++ p :: y') i).b, p.s + kp⟩ : Pt)) i).b) (by kernel_rfl) (by rfl) (by rw [gP_set _ _ _ (by omega)]; dsimp only; rw [hgp]; omega) ?_
      refine WO.ixB (SA.F sameR sameT _ 22 _ (by kernel_rfl)) 85 (i * 3) b 0 nl 3 (i : Int) (by kernel_rfl) (by omega) (by omega) (by omega) ?_
      refine WO.one (SA.F sameR sameT _ 23 _ (by kernel_rfl)) 86 (.pointer (some ⟨b, i * 3 + 1, none⟩)) (by kernel_rfl) ?_
      refine WO.stC (SA.E _ 24 _ (by kernel_rfl) rfl) b i 1 (i * 3 + 1) (.string (str (((gP ((x ++ p :: y').set i (⟨(gP (x ++ p :: y') i).n, (gP (x ++ p :: y') i).b, p.s + kp⟩ : Pt)) i).b).take ((gP ((x ++ p :: y').set i (⟨(gP (x ++ p :: y') i).n, (gP (x ++ p :: y') i).b, p.s + kp⟩ : Pt)) i).s)))) [.int .i64 ((gP ((x ++ p :: y').set i (⟨(gP (x ++ p :: y') i).n, (gP (x ++ p :: y') i).b, p.s + kp⟩ : Pt)) i).n), .string (str (((gP ((x ++ p :: y').set i (⟨(gP (x ++ p :: y') i).n, (gP (x ++ p :: y') i).b, p.s + kp⟩ : Pt)) i).b).take ((gP ((x ++ p :: y').set i (⟨(gP (x ++ p :: y') i).n, (gP (x ++ p :: y') i).b, p.s + kp⟩ : Pt)) i).s))), .int .i64 ((gP ((x ++ p :: y').set i (⟨(gP (x ++ p :: y') i).n, (gP (x ++ p :: y') i).b, p.s + kp⟩ : Pt)) i).s : Int)] HR9 (by rw [List.length_map]; have := (show ((x ++ p :: y').set i (⟨(gP (x ++ p :: y') i).n, (gP (x ++ p :: y') i).b, p.s + kp⟩ : Pt)).length = (x ++ p :: y').length from List.length_set).trans (hnq); omega) (by omega) (by omega) rfl (by rw [(map_gP ((x ++ p :: y').set i (⟨(gP (x ++ p :: y') i).n, (gP (x ++ p :: y') i).b, p.s + kp⟩ : Pt)) i (by have := (show ((x ++ p :: y').set i (⟨(gP (x ++ p :: y') i).n, (gP (x ++ p :: y') i).b, p.s + kp⟩ : Pt)).length = (x ++ p :: y').length from List.length_set).trans (hnq); omega))]; rfl) (by kernel_rfl) (fun _ _ => trivial) ?_
      intro w12 HR14 F13 _
      have HB := Blk.keep HB F13 (ninC hgb' (nin0 _))
      have HA := Fr.step HA F13 (inSL (by simp) inS0)
      have HR14 : RowB w12 b 54 3 cap ((((x ++ p :: y').set i (⟨(gP (x ++ p :: y') i).n, (gP (x ++ p :: y') i).b, p.s + kp⟩ : Pt)).set i (⟨(gP ((x ++ p :: y').set i (⟨(gP (x ++ p :: y') i).n, (gP (x ++ p :: y') i).b, p.s + kp⟩ : Pt)) i).n, (((gP ((x ++ p :: y').set i (⟨(gP (x ++ p :: y') i).n, (gP (x ++ p :: y') i).b, p.s + kp⟩ : Pt)) i).b).take ((gP ((x ++ p :: y').set i (⟨(gP (x ++ p :: y') i).n, (gP (x ++ p :: y') i).b, p.s + kp⟩ : Pt)) i).s)), (gP ((x ++ p :: y').set i (⟨(gP (x ++ p :: y') i).n, (gP (x ++ p :: y') i).b, p.s + kp⟩ : Pt)) i).s⟩ : Pt)).map cP) := by rw [List.map_set]; exact HR14
      refine WO.doneA (by kernel_rfl) ?_
      refine WQ.keep [0, 1, 4, 5, 9, 11, 18, 41] (e' := [(0, .pointer (some ⟨g, 0, none⟩)), (1, .int .i64 ((kp - kp : Nat) : Int)), (4, .int .i64 (i : Int)), (5, .int .i64 (kp : Int)), (9, .bool false), (11, .bool false), (18, .bool true), (41, .bool true)]) (by kernel_rfl) ?_
      refine WQ.blkN ?_
      refine WQ.thenN ?_
      refine WE.region ?_
      refine WO.run 1 0 [(19, .int .i64 (i : Int))] (by kernel_rfl) (by kernel_rfl) ?_
      refine WO.one (SQ.F 1 (by kernel_rfl)) 20 (.int .i64 (IntKind.i64.wrap ((i : Int) + 1))) (by kernel_rfl) ?_
      refine WO.top (v' := .int .i64 ((i + 1 : Nat) : Int)) (wrap_i64 (by omega) (by omega)) ?_
      refine WO.run 1 2 [(4, .int .i64 ((i + 1 : Nat) : Int))] (by kernel_rfl) (by kernel_rfl) ?_
      refine WO.done (by kernel_rfl) ?_
      refine WQ.keep [0, 1, 4, 5, 9, 11, 18, 41] (e' := [(0, .pointer (some ⟨g, 0, none⟩)), (1, .int .i64 ((kp - kp : Nat) : Int)), (4, .int .i64 ((i + 1 : Nat) : Int)), (5, .int .i64 (kp : Int)), (9, .bool false), (11, .bool false), (18, .bool true), (41, .bool true)]) (by kernel_rfl) ?_
      have hm_ : min kp (p.b.length - p.s) = kp := by omega
      have HR2 := HR14
      rw [crash_two x y' p i (p.s + kp) hi] at HR2
      refine WQ.round ?_
      intro a_ ha_
      refine ⟨(i + 1, x ++ [⟨p.n, p.b.take (p.s + kp), p.s + kp⟩], y', kp - kp), ?_, ha_.keep [0, 1, 4, 9, 11] (by kernel_rfl), ?_⟩
      · exact Nat.lt_succ_self _
      · exact ⟨by simp [hi], by simp only [List.length_append, List.length_cons, List.length_nil] at *; omega, HB, by rw [List.append_assoc]; exact HR2, fun q hq => hsy q (List.mem_cons_of_mem _ hq), by rw [hcr]; simp only [crashL, hm_, List.append_assoc, List.singleton_append], by dsimp only; omega, HA⟩
    intro h4
    refine WO.done (by kernel_rfl) ?_
    refine WQ.keep [0, 1, 4, 5, 9, 11, 18, 41] (e' := [(0, .pointer (some ⟨g, 0, none⟩)), (1, .int .i64 (kp : Int)), (4, .int .i64 (i : Int)), (5, .int .i64 ((p.b.length - p.s : Nat) : Int)), (9, .bool false), (11, .bool false), (18, .bool true), (41, .bool false)]) (by kernel_rfl) ?_
    refine WQ.thenN ?_
    refine WE.condF (by kernel_rfl) ?_
    refine WE.skip ?_
    refine WQ.thenN ?_
    refine WE.seq ?_
    refine WE.region ?_
    refine WO.run 2 0 [(44, .int .i64 ((p.b.length - p.s : Nat) : Int)), (43, .int .i64 (kp : Int))] (by kernel_rfl) (by kernel_rfl) ?_
    refine WO.one (SQ.F 2 (by kernel_rfl)) 45 (.int .i64 (IntKind.i64.wrap ((kp : Int) - ((p.b.length - p.s : Nat) : Int)))) (by kernel_rfl) ?_
    refine WO.top (v' := .int .i64 ((kp - (p.b.length - p.s) : Nat) : Int)) (wrap_i64 (by omega) (by omega)) ?_
    refine WO.run 1 3 [(1, .int .i64 ((kp - (p.b.length - p.s) : Nat) : Int))] (by kernel_rfl) (by kernel_rfl) ?_
    refine WO.done (by kernel_rfl) ?_
    refine WQ.keep [0, 1, 4, 5, 9, 11, 18, 41] (e' := [(0, .pointer (some ⟨g, 0, none⟩)), (1, .int .i64 ((kp - (p.b.length - p.s) : Nat) : Int)), (4, .int .i64 (i : Int)), (5, .int .i64 ((p.b.length - p.s : Nat) : Int)), (9, .bool false), (11, .bool false), (18, .bool true), (41, .bool false)]) (by kernel_rfl) ?_
    refine WQ.thenN ?_
    refine WE.seq ?_
    refine WE.draw [.free, .free, .free, .still, .free, .free, .free, .free, .still, .free, .free, .free, .still, .free, .free, .free, .free, .eff] Same sameR (by kernel_rfl) 18 (Array.replicate 18 false) (by kernel_rfl) rfl ?_
    intro w15 F16 _
    have HB := Blk.keep HB F16 (nin0 _)
    have HR := RowB.keep HR F16 (nin0 _)
    have HA := Fr.step0 HA F16
    refine WO.one (SA.F sameR sameT _ 0 _ (by kernel_rfl)) 46 (.pointer (some ⟨g, 0, none⟩)) (by kernel_rfl) ?_
    refine WO.one (SA.F sameR sameT _ 1 _ (by kernel_rfl)) 47 (.pointer (some ⟨g, 0, none⟩)) (by kernel_rfl) ?_
    refine WO.one (SA.F sameR sameT _ 2 _ (by kernel_rfl)) 48 (.pointer (some ⟨g, 1, none⟩)) (by kernel_rfl) ?_
    refine WO.ld (SA.S sameR sameT _ 3 _ (by kernel_rfl)) 49 (.slice (some ⟨b, 0, none⟩) nl cap) (by kernel_rfl) (same (HB.at 1 (by kernel_rfl))) ?_
    refine WO.one (SA.F sameR sameT _ 4 _ (by kernel_rfl)) 50 (.int .i64 (i : Int)) (by kernel_rfl) ?_
    refine WO.one (SA.F sameR sameT _ 5 _ (by kernel_rfl)) 51 (.pointer (some ⟨g, 0, none⟩)) (by kernel_rfl) ?_
    refine WO.one (SA.F sameR sameT _ 6 _ (by kernel_rfl)) 52 (.pointer (some ⟨g, 0, none⟩)) (by kernel_rfl) ?_
    refine WO.one (SA.F sameR sameT _ 7 _ (by kernel_rfl)) 53 (.pointer (some ⟨g, 1, none⟩)) (by kernel_rfl) ?_
    refine WO.ld (SA.S sameR sameT _ 8 _ (by kernel_rfl)) 54 (.slice (some ⟨b, 0, none⟩) nl cap) (by kernel_rfl) (same (HB.at 1 (by kernel_rfl))) ?_
    refine WO.one (SA.F sameR sameT _ 9 _ (by kernel_rfl)) 55 (.int .i64 (i : Int)) (by kernel_rfl) ?_
    refine WO.ixB (SA.F sameR sameT _ 10 _ (by kernel_rfl)) 56 (i * 3) b 0 nl 3 (i : Int) (by kernel_rfl) (by omega) (by omega) (by omega) ?_
    refine WO.one (SA.F sameR sameT _ 11 _ (by kernel_rfl)) 57 (.pointer (some ⟨b, i * 3 + 2, none⟩)) (by kernel_rfl) ?_
    refine WO.ld (SA.S sameR sameT _ 12 _ (by kernel_rfl)) 58 (.int .i64 ((gP (x ++ p :: y') i).s : Int)) (by kernel_rfl) (same (HR.at i 2 (i * 3 + 2) _ (by rw [List.length_map]; have := hnq; omega) (by omega) (by rw [(map_gP (x ++ p :: y') i (by have := hnq; omega))]; rfl) (by omega))) ?_
    refine WO.one (SA.F sameR sameT _ 13 _ (by kernel_rfl)) 59 (.int .i64 ((p.b.length - p.s : Nat) : Int)) (by kernel_rfl) ?_
    refine WO.one (SA.F sameR sameT _ 14 _ (by kernel_rfl)) 60 (.int .i64 (IntKind.i64.wrap (((gP (x ++ p :: y') i).s : Int) + ((p.b.length - p.s : Nat) : Int)))) (by kernel_rfl) ?_
    refine WO.top (v' := .int .i64 ((p.s + (p.b.length - p.s) : Nat) : Int)) (wrap_i64 (by rw [hgp]; omega) (by omega)) ?_
    refine WO.ixB (SA.F sameR sameT _ 15 _ (by kernel_rfl)) 61 (i * 3) b 0 nl 3 (i : Int) (by kernel_rfl) (by omega) (by omega) (by omega) ?_
    refine WO.one (SA.F sameR sameT _ 16 _ (by kernel_rfl)) 62 (.pointer (some ⟨b, i * 3 + 2, none⟩)) (by kernel_rfl) ?_
    refine WO.stC (SA.E _ 17 _ (by kernel_rfl) rfl) b i 2 (i * 3 + 2) (.int .i64 ((p.s + (p.b.length - p.s) : Nat) : Int)) [.int .i64 ((gP (x ++ p :: y') i).n), .string (str (gP (x ++ p :: y') i).b), .int .i64 ((p.s + (p.b.length - p.s) : Nat) : Int)] HR (by rw [List.length_map]; have := hnq; omega) (by omega) (by omega) rfl (by rw [(map_gP (x ++ p :: y') i (by have := hnq; omega))]; rfl) (by kernel_rfl) (fun _ _ => trivial) ?_
    intro w17 HR19 F18 _
    have HB := Blk.keep HB F18 (ninC hgb' (nin0 _))
    have HA := Fr.step HA F18 (inSL (by simp) inS0)
    have HR19 : RowB w17 b 54 3 cap (((x ++ p :: y').set i (⟨(gP (x ++ p :: y') i).n, (gP (x ++ p :: y') i).b, p.s + (p.b.length - p.s)⟩ : Pt)).map cP) := by rw [List.map_set]; exact HR19
    refine WO.doneA (by kernel_rfl) ?_
    refine WQ.keep [0, 1, 4, 5, 9, 11, 18, 41] (e' := [(0, .pointer (some ⟨g, 0, none⟩)), (1, .int .i64 ((kp - (p.b.length - p.s) : Nat) : Int)), (4, .int .i64 (i : Int)), (5, .int .i64 ((p.b.length - p.s : Nat) : Int)), (9, .bool false), (11, .bool false), (18, .bool true), (41, .bool false)]) (by kernel_rfl) ?_
    refine WQ.thenN ?_
    refine WE.draw [.free, .free, .free, .still, .free, .free, .free, .free, .still, .free, .free, .free, .still, .free, .free, .free, .still, .free, .free, .free, .still, .free, .free, .free, .eff] Same sameR (by kernel_rfl) 25 (Array.replicate 25 false) (by kernel_rfl) rfl ?_
    intro w20 F21 _
    have HB := Blk.keep HB F21 (nin0 _)
    have HR19 := RowB.keep HR19 F21 (nin0 _)
    have HA := Fr.step0 HA F21
    refine WO.one (SA.F sameR sameT _ 0 _ (by kernel_rfl)) 63 (.pointer (some ⟨g, 0, none⟩)) (by kernel_rfl) ?_
    refine WO.one (SA.F sameR sameT _ 1 _ (by kernel_rfl)) 64 (.pointer (some ⟨g, 0, none⟩)) (by kernel_rfl) ?_
    refine WO.one (SA.F sameR sameT _ 2 _ (by kernel_rfl)) 65 (.pointer (some ⟨g, 1, none⟩)) (by kernel_rfl) ?_
    refine WO.ld (SA.S sameR sameT _ 3 _ (by kernel_rfl)) 66 (.slice (some ⟨b, 0, none⟩) nl cap) (by kernel_rfl) (same (HB.at 1 (by kernel_rfl))) ?_
    refine WO.one (SA.F sameR sameT _ 4 _ (by kernel_rfl)) 67 (.int .i64 (i : Int)) (by kernel_rfl) ?_
    refine WO.one (SA.F sameR sameT _ 5 _ (by kernel_rfl)) 68 (.pointer (some ⟨g, 0, none⟩)) (by kernel_rfl) ?_
    refine WO.one (SA.F sameR sameT _ 6 _ (by kernel_rfl)) 69 (.pointer (some ⟨g, 0, none⟩)) (by kernel_rfl) ?_
    refine WO.one (SA.F sameR sameT _ 7 _ (by kernel_rfl)) 70 (.pointer (some ⟨g, 1, none⟩)) (by kernel_rfl) ?_
    refine WO.ld (SA.S sameR sameT _ 8 _ (by kernel_rfl)) 71 (.slice (some ⟨b, 0, none⟩) nl cap) (by kernel_rfl) (same (HB.at 1 (by kernel_rfl))) ?_
    refine WO.one (SA.F sameR sameT _ 9 _ (by kernel_rfl)) 72 (.int .i64 (i : Int)) (by kernel_rfl) ?_
    refine WO.ixB (SA.F sameR sameT _ 10 _ (by kernel_rfl)) 73 (i * 3) b 0 nl 3 (i : Int) (by kernel_rfl) (by omega) (by omega) (by omega) ?_
    refine WO.one (SA.F sameR sameT _ 11 _ (by kernel_rfl)) 74 (.pointer (some ⟨b, i * 3 + 1, none⟩)) (by kernel_rfl) ?_
    refine WO.ld (SA.S sameR sameT _ 12 _ (by kernel_rfl)) 75 (.string (str (gP ((x ++ p :: y').set i (⟨(gP (x ++ p :: y') i).n, (gP (x ++ p :: y') i).b, p.s + (p.b.length - p.s)⟩ : Pt)) i).b)) (by kernel_rfl) (same (HR19.at i 1 (i * 3 + 1) _ (by rw [List.length_map]; have := (show ((x ++ p :: y').set i (⟨(gP (x ++ p :: y') i).n, (gP (x ++ p :: y') i).b, p.s + (p.b.length - p.s)⟩ : Pt)).length = (x ++ p :: y').length from List.length_set).trans (hnq); omega) (by omega) (by rw [(map_gP ((x ++ p :: y').set i (⟨(gP (x ++ p :: y') i).n, (gP (x ++ p :: y') i).b, p.s + (p.b.length - p.s)⟩ : Pt)) i (by have := (show ((x ++ p :: y').set i (⟨(gP (x ++ p :: y') i).n, (gP (x ++ p :: y') i).b, p.s + (p.b.length - p.s)⟩ : Pt)).length = (x ++ p :: y').length from List.length_set).trans (hnq); omega))]; rfl) (by omega))) ?_
    refine WO.one (SA.F sameR sameT _ 13 _ (by kernel_rfl)) 76 (.pointer (some ⟨g, 0, none⟩)) (by kernel_rfl) ?_
    refine WO.one (SA.F sameR sameT _ 14 _ (by kernel_rfl)) 77 (.pointer (some ⟨g, 0, none⟩)) (by kernel_rfl) ?_
    refine WO.one (SA.F sameR sameT _ 15 _ (by kernel_rfl)) 78 (.pointer (some ⟨g, 1, none⟩)) (by kernel_rfl) ?_
    refine WO.ld (SA.S sameR sameT _ 16 _ (by kernel_rfl)) 79 (.slice (some ⟨b, 0, none⟩) nl cap) (by kernel_rfl) (same (HB.at 1 (by kernel_rfl))) ?_
    refine WO.one (SA.F sameR sameT _ 17 _ (by kernel_rfl)) 80 (.int .i64 (i : Int)) (by kernel_rfl) ?_
    refine WO.ixB (SA.F sameR sameT _ 18 _ (by kernel_rfl)) 81 (i * 3) b 0 nl 3 (i : Int) (by kernel_rfl) (by omega) (by omega) (by omega) ?_
    refine WO.one (SA.F sameR sameT _ 19 _ (by kernel_rfl)) 82 (.pointer (some ⟨b, i * 3 + 2, none⟩)) (by kernel_rfl) ?_
    refine WO.ld (SA.S sameR sameT _ 20 _ (by kernel_rfl)) 83 (.int .i64 ((gP ((x ++ p :: y').set i (⟨(gP (x ++ p :: y') i).n, (gP (x ++ p :: y') i).b, p.s + (p.b.length - p.s)⟩ : Pt)) i).s : Int)) (by kernel_rfl) (same (HR19.at i 2 (i * 3 + 2) _ (by rw [List.length_map]; have := (show ((x ++ p :: y').set i (⟨(gP (x ++ p :: y') i).n, (gP (x ++ p :: y') i).b, p.s + (p.b.length - p.s)⟩ : Pt)).length = (x ++ p :: y').length from List.length_set).trans (hnq); omega) (by omega) (by rw [(map_gP ((x ++ p :: y').set i (⟨(gP (x ++ p :: y') i).n, (gP (x ++ p :: y') i).b, p.s + (p.b.length - p.s)⟩ : Pt)) i (by have := (show ((x ++ p :: y').set i (⟨(gP (x ++ p :: y') i).n, (gP (x ++ p :: y') i).b, p.s + (p.b.length - p.s)⟩ : Pt)).length = (x ++ p :: y').length from List.length_set).trans (hnq); omega))]; rfl) (by omega))) ?_
    refine WO.slS (SA.F sameR sameT _ 21 _ (by kernel_rfl)) 84 ((gP ((x ++ p :: y').set i (⟨(gP (x ++ p :: y') i).n, (gP (x ++ p :: y') i).b, p.s + (p.b.length - p.s)⟩ : Pt)) i).s) ((gP ((x ++ p :: y').set i (⟨(gP (x ++ p :: y') i).n, (gP (x ++ p :: y') i).b, p.s + (p.b.length - p.s)⟩ : Pt)) i).b) (by kernel_rfl) (by rfl) (by rw [gP_set _ _ _ (by omega)]; dsimp only; rw [hgp]; omega) ?_
    refine WO.ixB (SA.F sameR sameT _ 22 _ (by kernel_rfl)) 85 (i * 3) b 0 nl 3 (i : Int) (by kernel_rfl) (by omega) (by omega) (by omega) ?_
    refine WO.one (SA.F sameR sameT _ 23 _ (by kernel_rfl)) 86 (.pointer (some ⟨b, i * 3 + 1, none⟩)) (by kernel_rfl) ?_
    refine WO.stC (SA.E _ 24 _ (by kernel_rfl) rfl) b i 1 (i * 3 + 1) (.string (str (((gP ((x ++ p :: y').set i (⟨(gP (x ++ p :: y') i).n, (gP (x ++ p :: y') i).b, p.s + (p.b.length - p.s)⟩ : Pt)) i).b).take ((gP ((x ++ p :: y').set i (⟨(gP (x ++ p :: y') i).n, (gP (x ++ p :: y') i).b, p.s + (p.b.length - p.s)⟩ : Pt)) i).s)))) [.int .i64 ((gP ((x ++ p :: y').set i (⟨(gP (x ++ p :: y') i).n, (gP (x ++ p :: y') i).b, p.s + (p.b.length - p.s)⟩ : Pt)) i).n), .string (str (((gP ((x ++ p :: y').set i (⟨(gP (x ++ p :: y') i).n, (gP (x ++ p :: y') i).b, p.s + (p.b.length - p.s)⟩ : Pt)) i).b).take ((gP ((x ++ p :: y').set i (⟨(gP (x ++ p :: y') i).n, (gP (x ++ p :: y') i).b, p.s + (p.b.length - p.s)⟩ : Pt)) i).s))), .int .i64 ((gP ((x ++ p :: y').set i (⟨(gP (x ++ p :: y') i).n, (gP (x ++ p :: y') i).b, p.s + (p.b.length - p.s)⟩ : Pt)) i).s : Int)] HR19 (by rw [List.length_map]; have := (show ((x ++ p :: y').set i (⟨(gP (x ++ p :: y') i).n, (gP (x ++ p :: y') i).b, p.s + (p.b.length - p.s)⟩ : Pt)).length = (x ++ p :: y').length from List.length_set).trans (hnq); omega) (by omega) (by omega) rfl (by rw [(map_gP ((x ++ p :: y').set i (⟨(gP (x ++ p :: y') i).n, (gP (x ++ p :: y') i).b, p.s + (p.b.length - p.s)⟩ : Pt)) i (by have := (show ((x ++ p :: y').set i (⟨(gP (x ++ p :: y') i).n, (gP (x ++ p :: y') i).b, p.s + (p.b.length - p.s)⟩ : Pt)).length = (x ++ p :: y').length from List.length_set).trans (hnq); omega))]; rfl) (by kernel_rfl) (fun _ _ => trivial) ?_
    intro w22 HR24 F23 _
    have HB := Blk.keep HB F23 (ninC hgb' (nin0 _))
    have HA := Fr.step HA F23 (inSL (by simp) inS0)
    have HR24 : RowB w22 b 54 3 cap ((((x ++ p :: y').set i (⟨(gP (x ++ p :: y') i).n, (gP (x ++ p :: y') i).b, p.s + (p.b.length - p.s)⟩ : Pt)).set i (⟨(gP ((x ++ p :: y').set i (⟨(gP (x ++ p :: y') i).n, (gP (x ++ p :: y') i).b, p.s + (p.b.length - p.s)⟩ : Pt)) i).n, (((gP ((x ++ p :: y').set i (⟨(gP (x ++ p :: y') i).n, (gP (x ++ p :: y') i).b, p.s + (p.b.length - p.s)⟩ : Pt)) i).b).take ((gP ((x ++ p :: y').set i (⟨(gP (x ++ p :: y') i).n, (gP (x ++ p :: y') i).b, p.s + (p.b.length - p.s)⟩ : Pt)) i).s)), (gP ((x ++ p :: y').set i (⟨(gP (x ++ p :: y') i).n, (gP (x ++ p :: y') i).b, p.s + (p.b.length - p.s)⟩ : Pt)) i).s⟩ : Pt)).map cP) := by rw [List.map_set]; exact HR24
    refine WO.doneA (by kernel_rfl) ?_
    refine WQ.keep [0, 1, 4, 5, 9, 11, 18, 41] (e' := [(0, .pointer (some ⟨g, 0, none⟩)), (1, .int .i64 ((kp - (p.b.length - p.s) : Nat) : Int)), (4, .int .i64 (i : Int)), (5, .int .i64 ((p.b.length - p.s : Nat) : Int)), (9, .bool false), (11, .bool false), (18, .bool true), (41, .bool false)]) (by kernel_rfl) ?_
    refine WQ.blkN ?_
    refine WQ.thenN ?_
    refine WE.region ?_
    refine WO.run 1 0 [(19, .int .i64 (i : Int))] (by kernel_rfl) (by kernel_rfl) ?_
    refine WO.one (SQ.F 1 (by kernel_rfl)) 20 (.int .i64 (IntKind.i64.wrap ((i : Int) + 1))) (by kernel_rfl) ?_
    refine WO.top (v' := .int .i64 ((i + 1 : Nat) : Int)) (wrap_i64 (by omega) (by omega)) ?_
    refine WO.run 1 2 [(4, .int .i64 ((i + 1 : Nat) : Int))] (by kernel_rfl) (by kernel_rfl) ?_
    refine WO.done (by kernel_rfl) ?_
    refine WQ.keep [0, 1, 4, 5, 9, 11, 18, 41] (e' := [(0, .pointer (some ⟨g, 0, none⟩)), (1, .int .i64 ((kp - (p.b.length - p.s) : Nat) : Int)), (4, .int .i64 ((i + 1 : Nat) : Int)), (5, .int .i64 ((p.b.length - p.s : Nat) : Int)), (9, .bool false), (11, .bool false), (18, .bool true), (41, .bool false)]) (by kernel_rfl) ?_
    have hm_ : min kp (p.b.length - p.s) = p.b.length - p.s := by omega
    have HR2 := HR24
    rw [crash_two x y' p i (p.s + (p.b.length - p.s)) hi] at HR2
    refine WQ.round ?_
    intro a_ ha_
    refine ⟨(i + 1, x ++ [⟨p.n, p.b.take (p.s + (p.b.length - p.s)), p.s + (p.b.length - p.s)⟩], y', kp - (p.b.length - p.s)), ?_, ha_.keep [0, 1, 4, 9, 11] (by kernel_rfl), ?_⟩
    · exact Nat.lt_succ_self _
    · exact ⟨by simp [hi], by simp only [List.length_append, List.length_cons, List.length_nil] at *; omega, HB, by rw [List.append_assoc]; exact HR2, fun q hq => hsy q (List.mem_cons_of_mem _ hq), by rw [hcr]; simp only [crashL, hm_, List.append_assoc, List.singleton_append], by dsimp only; omega, HA⟩
  intro h1
  refine WO.done (by kernel_rfl) ?_
  refine WQ.keep [0, 1, 4, 9, 11, 18] (e' := [(0, .pointer (some ⟨g, 0, none⟩)), (1, .int .i64 (kp : Int)), (4, .int .i64 (i : Int)), (9, .bool false), (11, .bool false), (18, .bool false)]) (by kernel_rfl) ?_
  refine WQ.thenN ?_
  refine WE.condF (by kernel_rfl) ?_
  refine WE.exit ?_
  refine WQ.thenE ?_
  refine WQ.thenE ?_
  refine WQ.blkE ?_
  refine WQ.thenN ?_
  obtain rfl : y = [] := by cases y with | nil => rfl | cons a b => simp at hxy; omega
  rw [show crashL kp [] = [] from rfl, List.append_nil] at hcr
  rw [List.append_nil] at HR hnq
  refine WE.region ?_
  refine WO.run 3 0 [(89, .pointer (some ⟨g, 2, none⟩)), (88, .pointer (some ⟨g, 0, none⟩)), (87, .pointer (some ⟨g, 0, none⟩))] (by kernel_rfl) (by kernel_rfl) ?_
  refine WO.st (SQ.E 3 (by kernel_rfl)) g 2 [.bool true] #[.int .i64 room, .slice (some ⟨b, 0, none⟩) nl cap, .bool true] (by kernel_rfl) HB (by kernel_rfl) (by kernel_rfl) (fun _ _ => trivial) ?_
  intro w25 HB27 F26 _
  have HR := RowB.keep HR F26 (ninC (Ne.symm hgb') (nin0 _))
  have HA := Fr.step HA F26 (inSL (by simp) inS0)
  refine WO.done (by kernel_rfl) ?_
  refine WQ.keep [0, 1, 4, 9, 11, 18] (e' := [(0, .pointer (some ⟨g, 0, none⟩)), (1, .int .i64 (kp : Int)), (4, .int .i64 (i : Int)), (9, .bool false), (11, .bool false), (18, .bool false)]) (by kernel_rfl) ?_
  refine WQ.fall (v := .tuple #[]) (by kernel_rfl) ?_
  exact ⟨rfl, HB27, by rw [hcr]; exact HR, HA⟩

set_option maxRecDepth 100000 in
set_option maxHeartbeats 400000 in
theorem mcrash_neg (g b : Nat) (room : Int) (nl cap : Nat) (l : List Pt) (keep : Int) (w : World) (HB : Blk w g #[.int .i64 room, .slice (some ⟨b, 0, none⟩) nl cap, .bool false] 40) (HR : RowB w b 54 3 cap (l.map cP)) (hn : l.length = nl) (hgb' : g ≠ b) (hgb : g ∉ [b]) (hnl : nl ≤ 1000000) (hsy : ∀ p ∈ l, p.s ≤ p.b.length ∧ p.b.length ≤ 1000000) (hk0 : keep < 0) :
    Calls Try.prog 21 #[.pointer (some ⟨g, 0, none⟩), .int .i64 keep] w fun e w' => e = .returned (.tuple #[]) ∧ Blk w' g #[.int .i64 room, .slice (some ⟨b, 0, none⟩) nl cap, .bool true] 40 ∧ RowB w' b 54 3 cap ((crashL 0 l).map cP) ∧ Fr [b, g] w w' := by
  have HA := Fr.refl [b, g] w
  refine enter (N := 90) Try.func21 (c := _) rfl (by kernel_rfl) (by kernel_rfl) (e := [(0, .pointer (some ⟨g, 0, none⟩)), (1, .int .i64 keep)]) (by kernel_rfl) ?_
  refine WE.seq ?_
  refine WE.seq ?_
  refine WE.region ?_
  refine WO.run 3 0 [(8, .pointer (some ⟨g, 2, none⟩)), (7, .pointer (some ⟨g, 0, none⟩)), (6, .pointer (some ⟨g, 0, none⟩))] (by kernel_rfl) (by kernel_rfl) ?_
  refine WO.ld (SQ.S 3 (by kernel_rfl)) 9 (.bool false) (by kernel_rfl) (same (HB.at 2 (by kernel_rfl))) ?_
  refine WO.done (by kernel_rfl) ?_
  refine WQ.keep [0, 1, 9] (e' := [(0, .pointer (some ⟨g, 0, none⟩)), (1, .int .i64 keep), (9, .bool false)]) (by kernel_rfl) ?_
  refine WQ.thenN ?_
  refine WE.condF (by kernel_rfl) ?_
  refine WE.skip ?_
  refine WQ.thenN ?_
  refine WE.seq ?_
  refine WE.seq ?_
  refine WE.region ?_
  refine WO.run 1 0 [(10, .int .i64 keep)] (by kernel_rfl) (by kernel_rfl) ?_
  refine WO.one (SQ.F 1 (by kernel_rfl)) 11 (.bool (decide ((keep : Int) < 0))) (by kernel_rfl) ?_
  refine WO.topPT ((keep : Int) < 0) (by omega) ?_
  refine WO.done (by kernel_rfl) ?_
  refine WQ.keep [0, 1, 9, 11] (e' := [(0, .pointer (some ⟨g, 0, none⟩)), (1, .int .i64 keep), (9, .bool false), (11, .bool true)]) (by kernel_rfl) ?_
  refine WQ.thenN ?_
  refine WE.condT (by kernel_rfl) ?_
  refine WE.region ?_
  refine WO.run 1 0 [(1, .int .i64 0)] (by kernel_rfl) (by kernel_rfl) ?_
  refine WO.done (by kernel_rfl) ?_
  refine WQ.keep [0, 1, 9, 11] (e' := [(0, .pointer (some ⟨g, 0, none⟩)), (1, .int .i64 0), (9, .bool false), (11, .bool true)]) (by kernel_rfl) ?_
  refine WQ.thenN ?_
  refine WE.seq ?_
  refine WE.seq ?_
  refine WE.region ?_
  refine WO.run 1 0 [(4, .int .i64 0)] (by kernel_rfl) (by kernel_rfl) ?_
  refine WO.done (by kernel_rfl) ?_
  refine WQ.keep [0, 1, 4, 9, 11] (e' := [(0, .pointer (some ⟨g, 0, none⟩)), (1, .int .i64 0), (4, .int .i64 0), (9, .bool false), (11, .bool true)]) (by kernel_rfl) ?_
  refine WQ.thenN ?_
  refine WE.block ?_
  refine WE.loop (α := Nat × List Pt × List Pt × Nat) (E := fun ⟨i, x, y, kp⟩ => [(0, .pointer (some ⟨g, 0, none⟩)), (1, .int .i64 (kp : Int)), (4, .int .i64 (i : Int)), (9, .bool false), (11, .bool true)]) (I := fun ⟨i, x, y, kp⟩ wr => x.length = i ∧ x.length + y.length = nl ∧ Blk wr g #[.int .i64 room, .slice (some ⟨b, 0, none⟩) nl cap, .bool false] 40 ∧ RowB wr b 54 3 cap ((x ++ y).map cP) ∧ (∀ p ∈ y, p.s ≤ p.b.length ∧ p.b.length ≤ 1000000) ∧ crashL 0 l = x ++ crashL kp y ∧ kp ≤ 0 ∧ Fr [b, g] w wr) (m := fun ⟨i, x, y, kp⟩ => y.length) (0, [], l, 0) [0, 1, 4, 9, 11] (by kernel_rfl) ?_ ?_
  · exact ⟨rfl, by simpa using hn, HB, HR, hsy, rfl, Nat.le_refl _, HA⟩
  rintro ⟨i, x, y, kp⟩ wr ⟨hi, hxy, HB, HR, hsy, hcr, hkp, HA⟩
  dsimp only at hi hxy HR hsy hcr hkp ⊢
  have hnq : (x ++ y).length = nl := by rw [List.length_append]; exact hxy
  refine WE.seq ?_
  refine WE.seq ?_
  refine WE.region ?_
  refine WO.run 4 0 [(15, .pointer (some ⟨g, 1, none⟩)), (14, .pointer (some ⟨g, 0, none⟩)), (13, .pointer (some ⟨g, 0, none⟩)), (12, .int .i64 (i : Int))] (by kernel_rfl) (by kernel_rfl) ?_
  refine WO.ld (SQ.S 4 (by kernel_rfl)) 16 (.slice (some ⟨b, 0, none⟩) nl cap) (by kernel_rfl) (same (HB.at 1 (by kernel_rfl))) ?_
  refine WO.run 1 5 [(17, .int .i64 (nl : Int))] (by kernel_rfl) (by kernel_rfl) ?_
  refine WO.one (SQ.F 6 (by kernel_rfl)) 18 (.bool (decide (((i : Int) : Int) < (nl : Int)))) (by kernel_rfl) ?_
  refine WO.topP (((i : Int) : Int) < (nl : Int)) ?_ ?_
  · intro h1
    refine WO.done (by kernel_rfl) ?_
    refine WQ.keep [0, 1, 4, 9, 11, 18] (e' := [(0, .pointer (some ⟨g, 0, none⟩)), (1, .int .i64 (kp : Int)), (4, .int .i64 (i : Int)), (9, .bool false), (11, .bool true), (18, .bool true)]) (by kernel_rfl) ?_
    refine WQ.thenN ?_
    refine WE.condT (by kernel_rfl) ?_
    refine WE.skip ?_
    refine WQ.thenN ?_
    refine WE.seq ?_
    refine WE.block ?_
    refine WE.seq ?_
    obtain ⟨p, y', rfl⟩ : ∃ p y', y = p :: y' := by cases y with | nil => simp at hxy; omega | cons a b => exact ⟨_, _, rfl⟩
    have hgp : gP (x ++ p :: y') i = p := gP_at x y' p i hi
    obtain ⟨hsl, hbl⟩ := hsy p (by simp)
    refine WE.draw [.free, .free, .free, .still, .free, .free, .free, .still, .free, .free, .free, .free, .still, .free, .free, .free, .still, .free, .free] Same sameR (by kernel_rfl) 19 (Array.replicate 19 false) (by kernel_rfl) rfl ?_
    intro w2 F3 _
    have HB := Blk.keep HB F3 (nin0 _)
    have HR := RowB.keep HR F3 (nin0 _)
    have HA := Fr.step0 HA F3
    refine WO.one (SA.F sameR sameT _ 0 _ (by kernel_rfl)) 21 (.pointer (some ⟨g, 0, none⟩)) (by kernel_rfl) ?_
    refine WO.one (SA.F sameR sameT _ 1 _ (by kernel_rfl)) 22 (.pointer (some ⟨g, 0, none⟩)) (by kernel_rfl) ?_
    refine WO.one (SA.F sameR sameT _ 2 _ (by kernel_rfl)) 23 (.pointer (some ⟨g, 1, none⟩)) (by kernel_rfl) ?_
    refine WO.ld (SA.S sameR sameT _ 3 _ (by kernel_rfl)) 24 (.slice (some ⟨b, 0, none⟩) nl cap) (by kernel_rfl) (same (HB.at 1 (by kernel_rfl))) ?_
    refine WO.one (SA.F sameR sameT _ 4 _ (by kernel_rfl)) 25 (.int .i64 (i : Int)) (by kernel_rfl) ?_
    refine WO.ixB (SA.F sameR sameT _ 5 _ (by kernel_rfl)) 26 (i * 3) b 0 nl 3 (i : Int) (by kernel_rfl) (by omega) (by omega) (by omega) ?_
    refine WO.one (SA.F sameR sameT _ 6 _ (by kernel_rfl)) 27 (.pointer (some ⟨b, i * 3 + 1, none⟩)) (by kernel_rfl) ?_
    refine WO.ld (SA.S sameR sameT _ 7 _ (by kernel_rfl)) 28 (.string (str (gP (x ++ p :: y') i).b)) (by kernel_rfl) (same (HR.at i 1 (i * 3 + 1) _ (by rw [List.length_map]; have := hnq; omega) (by omega) (by rw [(map_gP (x ++ p :: y') i (by have := hnq; omega))]; rfl) (by omega))) ?_
    refine WO.one (SA.F sameR sameT _ 8 _ (by kernel_rfl)) 29 (.int .i64 (((gP (x ++ p :: y') i).b).length : Int)) (by kernel_rfl) ?_
    refine WO.one (SA.F sameR sameT _ 9 _ (by kernel_rfl)) 30 (.pointer (some ⟨g, 0, none⟩)) (by kernel_rfl) ?_
    refine WO.one (SA.F sameR sameT _ 10 _ (by kernel_rfl)) 31 (.pointer (some ⟨g, 0, none⟩)) (by kernel_rfl) ?_
    refine WO.one (SA.F sameR sameT _ 11 _ (by kernel_rfl)) 32 (.pointer (some ⟨g, 1, none⟩)) (by kernel_rfl) ?_
    refine WO.ld (SA.S sameR sameT _ 12 _ (by kernel_rfl)) 33 (.slice (some ⟨b, 0, none⟩) nl cap) (by kernel_rfl) (same (HB.at 1 (by kernel_rfl))) ?_
    refine WO.one (SA.F sameR sameT _ 13 _ (by kernel_rfl)) 34 (.int .i64 (i : Int)) (by kernel_rfl) ?_
    refine WO.ixB (SA.F sameR sameT _ 14 _ (by kernel_rfl)) 35 (i * 3) b 0 nl 3 (i : Int) (by kernel_rfl) (by omega) (by omega) (by omega) ?_
    refine WO.one (SA.F sameR sameT _ 15 _ (by kernel_rfl)) 36 (.pointer (some ⟨b, i * 3 + 2, none⟩)) (by kernel_rfl) ?_
    refine WO.ld (SA.S sameR sameT _ 16 _ (by kernel_rfl)) 37 (.int .i64 ((gP (x ++ p :: y') i).s : Int)) (by kernel_rfl) (same (HR.at i 2 (i * 3 + 2) _ (by rw [List.length_map]; have := hnq; omega) (by omega) (by rw [(map_gP (x ++ p :: y') i (by have := hnq; omega))]; rfl) (by omega))) ?_
    refine WO.one (SA.F sameR sameT _ 17 _ (by kernel_rfl)) 38 (.int .i64 (IntKind.i64.wrap ((((gP (x ++ p :: y') i).b).length : Int) - ((gP (x ++ p :: y') i).s : Int)))) (by kernel_rfl) ?_
    refine WO.top (v' := .int .i64 ((p.b.length - p.s : Nat) : Int)) (wrap_i64 (by rw [hgp]; omega) (by omega)) ?_
    refine WO.one (SA.F sameR sameT _ 18 _ (by kernel_rfl)) 5 (.int .i64 ((p.b.length - p.s : Nat) : Int)) (by kernel_rfl) ?_
    refine WO.doneA (by kernel_rfl) ?_
    refine WQ.keep [0, 1, 4, 5, 9, 11, 18] (e' := [(0, .pointer (some ⟨g, 0, none⟩)), (1, .int .i64 (kp : Int)), (4, .int .i64 (i : Int)), (5, .int .i64 ((p.b.length - p.s : Nat) : Int)), (9, .bool false), (11, .bool true), (18, .bool true)]) (by kernel_rfl) ?_
    refine WQ.thenN ?_
    refine WE.seq ?_
    refine WE.seq ?_
    refine WE.region ?_
    refine WO.run 2 0 [(40, .int .i64 (kp : Int)), (39, .int .i64 ((p.b.length - p.s : Nat) : Int))] (by kernel_rfl) (by kernel_rfl) ?_
    refine WO.one (SQ.F 2 (by kernel_rfl)) 41 (.bool (decide ((((p.b.length - p.s : Nat) : Int) : Int) > (kp : Int)))) (by kernel_rfl) ?_
    refine WO.topP ((((p.b.length - p.s : Nat) : Int) : Int) > (kp : Int)) ?_ ?_
    · intro h4
      refine WO.done (by kernel_rfl) ?_
      refine WQ.keep [0, 1, 4, 5, 9, 11, 18, 41] (e' := [(0, .pointer (some ⟨g, 0, none⟩)), (1, .int .i64 (kp : Int)), (4, .int .i64 (i : Int)), (5, .int .i64 ((p.b.length - p.s : Nat) : Int)), (9, .bool false), (11, .bool true), (18, .bool true), (41, .bool true)]) (by kernel_rfl) ?_
      refine WQ.thenN ?_
      refine WE.condT (by kernel_rfl) ?_
      refine WE.region ?_
      refine WO.run 2 0 [(5, .int .i64 (kp : Int)), (42, .int .i64 (kp : Int))] (by kernel_rfl) (by kernel_rfl) ?_
      refine WO.done (by kernel_rfl) ?_
      refine WQ.keep [0, 1, 4, 5, 9, 11, 18, 41] (e' := [(0, .pointer (some ⟨g, 0, none⟩)), (1, .int .i64 (kp : Int)), (4, .int .i64 (i : Int)), (5, .int .i64 (kp : Int)), (9, .bool false), (11, .bool true), (18, .bool true), (41, .bool true)]) (by kernel_rfl) ?_
      refine WQ.thenN ?_
      refine WE.seq ?_
      refine WE.region ?_
      refine WO.run 2 0 [(44, .int .i64 (kp : Int)), (43, .int .i64 (kp : Int))] (by kernel_rfl) (by kernel_rfl) ?_
      refine WO.one (SQ.F 2 (by kernel_rfl)) 45 (.int .i64 (IntKind.i64.wrap ((kp : Int) - (kp : Int)))) (by kernel_rfl) ?_
      refine WO.top (v' := .int .i64 ((kp - kp : Nat) : Int)) (wrap_i64 (by omega) (by omega)) ?_
      refine WO.run 1 3 [(1, .int .i64 ((kp - kp : Nat) : Int))] (by kernel_rfl) (by kernel_rfl) ?_
      refine WO.done (by kernel_rfl) ?_
      refine WQ.keep [0, 1, 4, 5, 9, 11, 18, 41] (e' := [(0, .pointer (some ⟨g, 0, none⟩)), (1, .int .i64 ((kp - kp : Nat) : Int)), (4, .int .i64 (i : Int)), (5, .int .i64 (kp : Int)), (9, .bool false), (11, .bool true), (18, .bool true), (41, .bool true)]) (by kernel_rfl) ?_
      refine WQ.thenN ?_
      refine WE.seq ?_
      refine WE.draw [.free, .free, .free, .still, .free, .free, .free, .free, .still, .free, .free, .free, .still, .free, .free, .free, .free, .eff] Same sameR (by kernel_rfl) 18 (Array.replicate 18 false) (by kernel_rfl) rfl ?_
      intro w5 F6 _
      have HB := Blk.keep HB F6 (nin0 _)
      have HR := RowB.keep HR F6 (nin0 _)
      have HA := Fr.step0 HA F6
      refine WO.one (SA.F sameR sameT _ 0 _ (by kernel_rfl)) 46 (.pointer (some ⟨g, 0, none⟩)) (by kernel_rfl) ?_
      refine WO.one (SA.F sameR sameT _ 1 _ (by kernel_rfl)) 47 (.pointer (some ⟨g, 0, none⟩)) (by kernel_rfl) ?_
      refine WO.one (SA.F sameR sameT _ 2 _ (by kernel_rfl)) 48 (.pointer (some ⟨g, 1, none⟩)) (by kernel_rfl) ?_
      refine WO.ld (SA.S sameR sameT _ 3 _ (by kernel_rfl)) 49 (.slice (some ⟨b, 0, none⟩) nl cap) (by kernel_rfl) (same (HB.at 1 (by kernel_rfl))) ?_
      refine WO.one (SA.F sameR sameT _ 4 _ (by kernel_rfl)) 50 (.int .i64 (i : Int)) (by kernel_rfl) ?_
      refine WO.one (SA.F sameR sameT _ 5 _ (by kernel_rfl)) 51 (.pointer (some ⟨g, 0, none⟩)) (by kernel_rfl) ?_
      refine WO.one (SA.F sameR sameT _ 6 _ (by kernel_rfl)) 52 (.pointer (some ⟨g, 0, none⟩)) (by kernel_rfl) ?_
      refine WO.one (SA.F sameR sameT _ 7 _ (by kernel_rfl)) 53 (.pointer (some ⟨g, 1, none⟩)) (by kernel_rfl) ?_
      refine WO.ld (SA.S sameR sameT _ 8 _ (by kernel_rfl)) 54 (.slice (some ⟨b, 0, none⟩) nl cap) (by kernel_rfl) (same (HB.at 1 (by kernel_rfl))) ?_
      refine WO.one (SA.F sameR sameT _ 9 _ (by kernel_rfl)) 55 (.int .i64 (i : Int)) (by kernel_rfl) ?_
      refine WO.ixB (SA.F sameR sameT _ 10 _ (by kernel_rfl)) 56 (i * 3) b 0 nl 3 (i : Int) (by kernel_rfl) (by omega) (by omega) (by omega) ?_
      refine WO.one (SA.F sameR sameT _ 11 _ (by kernel_rfl)) 57 (.pointer (some ⟨b, i * 3 + 2, none⟩)) (by kernel_rfl) ?_
      refine WO.ld (SA.S sameR sameT _ 12 _ (by kernel_rfl)) 58 (.int .i64 ((gP (x ++ p :: y') i).s : Int)) (by kernel_rfl) (same (HR.at i 2 (i * 3 + 2) _ (by rw [List.length_map]; have := hnq; omega) (by omega) (by rw [(map_gP (x ++ p :: y') i (by have := hnq; omega))]; rfl) (by omega))) ?_
      refine WO.one (SA.F sameR sameT _ 13 _ (by kernel_rfl)) 59 (.int .i64 (kp : Int)) (by kernel_rfl) ?_
      refine WO.one (SA.F sameR sameT _ 14 _ (by kernel_rfl)) 60 (.int .i64 (IntKind.i64.wrap (((gP (x ++ p :: y') i).s : Int) + (kp : Int)))) (by kernel_rfl) ?_
      refine WO.top (v' := .int .i64 ((p.s + kp : Nat) : Int)) (wrap_i64 (by rw [hgp]; omega) (by omega)) ?_
      refine WO.ixB (SA.F sameR sameT _ 15 _ (by kernel_rfl)) 61 (i * 3) b 0 nl 3 (i : Int) (by kernel_rfl) (by omega) (by omega) (by omega) ?_
      refine WO.one (SA.F sameR sameT _ 16 _ (by kernel_rfl)) 62 (.pointer (some ⟨b, i * 3 + 2, none⟩)) (by kernel_rfl) ?_
      refine WO.stC (SA.E _ 17 _ (by kernel_rfl) rfl) b i 2 (i * 3 + 2) (.int .i64 ((p.s + kp : Nat) : Int)) [.int .i64 ((gP (x ++ p :: y') i).n), .string (str (gP (x ++ p :: y') i).b), .int .i64 ((p.s + kp : Nat) : Int)] HR (by rw [List.length_map]; have := hnq; omega) (by omega) (by omega) rfl (by rw [(map_gP (x ++ p :: y') i (by have := hnq; omega))]; rfl) (by kernel_rfl) (fun _ _ => trivial) ?_
      intro w7 HR9 F8 _
      have HB := Blk.keep HB F8 (ninC hgb' (nin0 _))
      have HA := Fr.step HA F8 (inSL (by simp) inS0)
      have HR9 : RowB w7 b 54 3 cap (((x ++ p :: y').set i (⟨(gP (x ++ p :: y') i).n, (gP (x ++ p :: y') i).b, p.s + kp⟩ : Pt)).map cP) := by rw [List.map_set]; exact HR9
      refine WO.doneA (by kernel_rfl) ?_
      refine WQ.keep [0, 1, 4, 5, 9, 11, 18, 41] (e' := [(0, .pointer (some ⟨g, 0, none⟩)), (1, .int .i64 ((kp - kp : Nat) : Int)), (4, .int .i64 (i : Int)), (5, .int .i64 (kp : Int)), (9, .bool false), (11, .bool true), (18, .bool true), (41, .bool true)]) (by kernel_rfl) ?_
      refine WQ.thenN ?_
      refine WE.draw [.free, .free, .free, .still, .free, .free, .free, .free, .still, .free, .free, .free, .still, .free, .free, .free, .still, .free, .free, .free, .still, .free, .free, .free, .eff] Same sameR (by kernel_rfl) 25 (Array.replicate 25 false) (by kernel_rfl) rfl ?_
      intro w10 F11 _
      have HB := Blk.keep HB F11 (nin0 _)
      have HR9 := RowB.keep HR9 F11 (nin0 _)
      have HA := Fr.step0 HA F11
      refine WO.one (SA.F sameR sameT _ 0 _ (by kernel_rfl)) 63 (.pointer (some ⟨g, 0, none⟩)) (by kernel_rfl) ?_
      refine WO.one (SA.F sameR sameT _ 1 _ (by kernel_rfl)) 64 (.pointer (some ⟨g, 0, none⟩)) (by kernel_rfl) ?_
      refine WO.one (SA.F sameR sameT _ 2 _ (by kernel_rfl)) 65 (.pointer (some ⟨g, 1, none⟩)) (by kernel_rfl) ?_
      refine WO.ld (SA.S sameR sameT _ 3 _ (by kernel_rfl)) 66 (.slice (some ⟨b, 0, none⟩) nl cap) (by kernel_rfl) (same (HB.at 1 (by kernel_rfl))) ?_
      refine WO.one (SA.F sameR sameT _ 4 _ (by kernel_rfl)) 67 (.int .i64 (i : Int)) (by kernel_rfl) ?_
      refine WO.one (SA.F sameR sameT _ 5 _ (by kernel_rfl)) 68 (.pointer (some ⟨g, 0, none⟩)) (by kernel_rfl) ?_
      refine WO.one (SA.F sameR sameT _ 6 _ (by kernel_rfl)) 69 (.pointer (some ⟨g, 0, none⟩)) (by kernel_rfl) ?_
      refine WO.one (SA.F sameR sameT _ 7 _ (by kernel_rfl)) 70 (.pointer (some ⟨g, 1, none⟩)) (by kernel_rfl) ?_
      refine WO.ld (SA.S sameR sameT _ 8 _ (by kernel_rfl)) 71 (.slice (some ⟨b, 0, none⟩) nl cap) (by kernel_rfl) (same (HB.at 1 (by kernel_rfl))) ?_
      refine WO.one (SA.F sameR sameT _ 9 _ (by kernel_rfl)) 72 (.int .i64 (i : Int)) (by kernel_rfl) ?_
      refine WO.ixB (SA.F sameR sameT _ 10 _ (by kernel_rfl)) 73 (i * 3) b 0 nl 3 (i : Int) (by kernel_rfl) (by omega) (by omega) (by omega) ?_
      refine WO.one (SA.F sameR sameT _ 11 _ (by kernel_rfl)) 74 (.pointer (some ⟨b, i * 3 + 1, none⟩)) (by kernel_rfl) ?_
      refine WO.ld (SA.S sameR sameT _ 12 _ (by kernel_rfl)) 75 (.string (str (gP ((x ++ p :: y').set i (⟨(gP (x ++ p :: y') i).n, (gP (x ++ p :: y') i).b, p.s + kp⟩ : Pt)) i).b)) (by kernel_rfl) (same (HR9.at i 1 (i * 3 + 1) _ (by rw [List.length_map]; have := (show ((x ++ p :: y').set i (⟨(gP (x ++ p :: y') i).n, (gP (x ++ p :: y') i).b, p.s + kp⟩ : Pt)).length = (x ++ p :: y').length from List.length_set).trans (hnq); omega) (by omega) (by rw [(map_gP ((x ++ p :: y').set i (⟨(gP (x ++ p :: y') i).n, (gP (x ++ p :: y') i).b, p.s + kp⟩ : Pt)) i (by have := (show ((x ++ p :: y').set i (⟨(gP (x ++ p :: y') i).n, (gP (x ++ p :: y') i).b, p.s + kp⟩ : Pt)).length = (x ++ p :: y').length from List.length_set).trans (hnq); omega))]; rfl) (by omega))) ?_
      refine WO.one (SA.F sameR sameT _ 13 _ (by kernel_rfl)) 76 (.pointer (some ⟨g, 0, none⟩)) (by kernel_rfl) ?_
      refine WO.one (SA.F sameR sameT _ 14 _ (by kernel_rfl)) 77 (.pointer (some ⟨g, 0, none⟩)) (by kernel_rfl) ?_
      refine WO.one (SA.F sameR sameT _ 15 _ (by kernel_rfl)) 78 (.pointer (some ⟨g, 1, none⟩)) (by kernel_rfl) ?_
      refine WO.ld (SA.S sameR sameT _ 16 _ (by kernel_rfl)) 79 (.slice (some ⟨b, 0, none⟩) nl cap) (by kernel_rfl) (same (HB.at 1 (by kernel_rfl))) ?_
      refine WO.one (SA.F sameR sameT _ 17 _ (by kernel_rfl)) 80 (.int .i64 (i : Int)) (by kernel_rfl) ?_
      refine WO.ixB (SA.F sameR sameT _ 18 _ (by kernel_rfl)) 81 (i * 3) b 0 nl 3 (i : Int) (by kernel_rfl) (by omega) (by omega) (by omega) ?_
      refine WO.one (SA.F sameR sameT _ 19 _ (by kernel_rfl)) 82 (.pointer (some ⟨b, i * 3 + 2, none⟩)) (by kernel_rfl) ?_
      refine WO.ld (SA.S sameR sameT _ 20 _ (by kernel_rfl)) 83 (.int .i64 ((gP ((x ++ p :: y').set i (⟨(gP (x ++ p :: y') i).n, (gP (x ++ p :: y') i).b, p.s + kp⟩ : Pt)) i).s : Int)) (by kernel_rfl) (same (HR9.at i 2 (i * 3 + 2) _ (by rw [List.length_map]; have := (show ((x ++ p :: y').set i (⟨(gP (x ++ p :: y') i).n, (gP (x ++ p :: y') i).b, p.s + kp⟩ : Pt)).length = (x ++ p :: y').length from List.length_set).trans (hnq); omega) (by omega) (by rw [(map_gP ((x ++ p :: y').set i (⟨(gP (x ++ p :: y') i).n, (gP (x ++ p :: y') i).b, p.s + kp⟩ : Pt)) i (by have := (show ((x ++ p :: y').set i (⟨(gP (x ++ p :: y') i).n, (gP (x ++ p :: y') i).b, p.s + kp⟩ : Pt)).length = (x ++ p :: y').length from List.length_set).trans (hnq); omega))]; rfl) (by omega))) ?_
      refine WO.slS (SA.F sameR sameT _ 21 _ (by kernel_rfl)) 84 ((gP ((x ++ p :: y').set i (⟨(gP (x ++ p :: y') i).n, (gP (x ++ p :: y') i).b, p.s + kp⟩ : Pt)) i).s) ((gP ((x ++ p :: y').set i (⟨(gP (x ++ p :: y') i).n, (gP (x ++ p :: y') i).b, p.s + kp⟩ : Pt)) i).b) (by kernel_rfl) (by rfl) (by rw [gP_set _ _ _ (by omega)]; dsimp only; rw [hgp]; omega) ?_
      refine WO.ixB (SA.F sameR sameT _ 22 _ (by kernel_rfl)) 85 (i * 3) b 0 nl 3 (i : Int) (by kernel_rfl) (by omega) (by omega) (by omega) ?_
      refine WO.one (SA.F sameR sameT _ 23 _ (by kernel_rfl)) 86 (.pointer (some ⟨b, i * 3 + 1, none⟩)) (by kernel_rfl) ?_
      refine WO.stC (SA.E _ 24 _ (by kernel_rfl) rfl) b i 1 (i * 3 + 1) (.string (str (((gP ((x ++ p :: y').set i (⟨(gP (x ++ p :: y') i).n, (gP (x ++ p :: y') i).b, p.s + kp⟩ : Pt)) i).b).take ((gP ((x ++ p :: y').set i (⟨(gP (x ++ p :: y') i).n, (gP (x ++ p :: y') i).b, p.s + kp⟩ : Pt)) i).s)))) [.int .i64 ((gP ((x ++ p :: y').set i (⟨(gP (x ++ p :: y') i).n, (gP (x ++ p :: y') i).b, p.s + kp⟩ : Pt)) i).n), .string (str (((gP ((x ++ p :: y').set i (⟨(gP (x ++ p :: y') i).n, (gP (x ++ p :: y') i).b, p.s + kp⟩ : Pt)) i).b).take ((gP ((x ++ p :: y').set i (⟨(gP (x ++ p :: y') i).n, (gP (x ++ p :: y') i).b, p.s + kp⟩ : Pt)) i).s))), .int .i64 ((gP ((x ++ p :: y').set i (⟨(gP (x ++ p :: y') i).n, (gP (x ++ p :: y') i).b, p.s + kp⟩ : Pt)) i).s : Int)] HR9 (by rw [List.length_map]; have := (show ((x ++ p :: y').set i (⟨(gP (x ++ p :: y') i).n, (gP (x ++ p :: y') i).b, p.s + kp⟩ : Pt)).length = (x ++ p :: y').length from List.length_set).trans (hnq); omega) (by omega) (by omega) rfl (by rw [(map_gP ((x ++ p :: y').set i (⟨(gP (x ++ p :: y') i).n, (gP (x ++ p :: y') i).b, p.s + kp⟩ : Pt)) i (by have := (show ((x ++ p :: y').set i (⟨(gP (x ++ p :: y') i).n, (gP (x ++ p :: y') i).b, p.s + kp⟩ : Pt)).length = (x ++ p :: y').length from List.length_set).trans (hnq); omega))]; rfl) (by kernel_rfl) (fun _ _ => trivial) ?_
      intro w12 HR14 F13 _
      have HB := Blk.keep HB F13 (ninC hgb' (nin0 _))
      have HA := Fr.step HA F13 (inSL (by simp) inS0)
      have HR14 : RowB w12 b 54 3 cap ((((x ++ p :: y').set i (⟨(gP (x ++ p :: y') i).n, (gP (x ++ p :: y') i).b, p.s + kp⟩ : Pt)).set i (⟨(gP ((x ++ p :: y').set i (⟨(gP (x ++ p :: y') i).n, (gP (x ++ p :: y') i).b, p.s + kp⟩ : Pt)) i).n, (((gP ((x ++ p :: y').set i (⟨(gP (x ++ p :: y') i).n, (gP (x ++ p :: y') i).b, p.s + kp⟩ : Pt)) i).b).take ((gP ((x ++ p :: y').set i (⟨(gP (x ++ p :: y') i).n, (gP (x ++ p :: y') i).b, p.s + kp⟩ : Pt)) i).s)), (gP ((x ++ p :: y').set i (⟨(gP (x ++ p :: y') i).n, (gP (x ++ p :: y') i).b, p.s + kp⟩ : Pt)) i).s⟩ : Pt)).map cP) := by rw [List.map_set]; exact HR14
      refine WO.doneA (by kernel_rfl) ?_
      refine WQ.keep [0, 1, 4, 5, 9, 11, 18, 41] (e' := [(0, .pointer (some ⟨g, 0, none⟩)), (1, .int .i64 ((kp - kp : Nat) : Int)), (4, .int .i64 (i : Int)), (5, .int .i64 (kp : Int)), (9, .bool false), (11, .bool true), (18, .bool true), (41, .bool true)]) (by kernel_rfl) ?_
      refine WQ.blkN ?_
      refine WQ.thenN ?_
      refine WE.region ?_
      refine WO.run 1 0 [(19, .int .i64 (i : Int))] (by kernel_rfl) (by kernel_rfl) ?_
      refine WO.one (SQ.F 1 (by kernel_rfl)) 20 (.int .i64 (IntKind.i64.wrap ((i : Int) + 1))) (by kernel_rfl) ?_
      refine WO.top (v' := .int .i64 ((i + 1 : Nat) : Int)) (wrap_i64 (by omega) (by omega)) ?_
      refine WO.run 1 2 [(4, .int .i64 ((i + 1 : Nat) : Int))] (by kernel_rfl) (by kernel_rfl) ?_
      refine WO.done (by kernel_rfl) ?_
      refine WQ.keep [0, 1, 4, 5, 9, 11, 18, 41] (e' := [(0, .pointer (some ⟨g, 0, none⟩)), (1, .int .i64 ((kp - kp : Nat) : Int)), (4, .int .i64 ((i + 1 : Nat) : Int)), (5, .int .i64 (kp : Int)), (9, .bool false), (11, .bool true), (18, .bool true), (41, .bool true)]) (by kernel_rfl) ?_
      have hm_ : min kp (p.b.length - p.s) = kp := by omega
      have HR2 := HR14
      rw [crash_two x y' p i (p.s + kp) hi] at HR2
      refine WQ.round ?_
      intro a_ ha_
      refine ⟨(i + 1, x ++ [⟨p.n, p.b.take (p.s + kp), p.s + kp⟩], y', kp - kp), ?_, ha_.keep [0, 1, 4, 9, 11] (by kernel_rfl), ?_⟩
      · exact Nat.lt_succ_self _
      · exact ⟨by simp [hi], by simp only [List.length_append, List.length_cons, List.length_nil] at *; omega, HB, by rw [List.append_assoc]; exact HR2, fun q hq => hsy q (List.mem_cons_of_mem _ hq), by rw [hcr]; simp only [crashL, hm_, List.append_assoc, List.singleton_append], by dsimp only; omega, HA⟩
    intro h4
    refine WO.done (by kernel_rfl) ?_
    refine WQ.keep [0, 1, 4, 5, 9, 11, 18, 41] (e' := [(0, .pointer (some ⟨g, 0, none⟩)), (1, .int .i64 (kp : Int)), (4, .int .i64 (i : Int)), (5, .int .i64 ((p.b.length - p.s : Nat) : Int)), (9, .bool false), (11, .bool true), (18, .bool true), (41, .bool false)]) (by kernel_rfl) ?_
    refine WQ.thenN ?_
    refine WE.condF (by kernel_rfl) ?_
    refine WE.skip ?_
    refine WQ.thenN ?_
    refine WE.seq ?_
    refine WE.region ?_
    refine WO.run 2 0 [(44, .int .i64 ((p.b.length - p.s : Nat) : Int)), (43, .int .i64 (kp : Int))] (by kernel_rfl) (by kernel_rfl) ?_
    refine WO.one (SQ.F 2 (by kernel_rfl)) 45 (.int .i64 (IntKind.i64.wrap ((kp : Int) - ((p.b.length - p.s : Nat) : Int)))) (by kernel_rfl) ?_
    refine WO.top (v' := .int .i64 ((kp - (p.b.length - p.s) : Nat) : Int)) (wrap_i64 (by omega) (by omega)) ?_
    refine WO.run 1 3 [(1, .int .i64 ((kp - (p.b.length - p.s) : Nat) : Int))] (by kernel_rfl) (by kernel_rfl) ?_
    refine WO.done (by kernel_rfl) ?_
    refine WQ.keep [0, 1, 4, 5, 9, 11, 18, 41] (e' := [(0, .pointer (some ⟨g, 0, none⟩)), (1, .int .i64 ((kp - (p.b.length - p.s) : Nat) : Int)), (4, .int .i64 (i : Int)), (5, .int .i64 ((p.b.length - p.s : Nat) : Int)), (9, .bool false), (11, .bool true), (18, .bool true), (41, .bool false)]) (by kernel_rfl) ?_
    refine WQ.thenN ?_
    refine WE.seq ?_
    refine WE.draw [.free, .free, .free, .still, .free, .free, .free, .free, .still, .free, .free, .free, .still, .free, .free, .free, .free, .eff] Same sameR (by kernel_rfl) 18 (Array.replicate 18 false) (by kernel_rfl) rfl ?_
    intro w15 F16 _
    have HB := Blk.keep HB F16 (nin0 _)
    have HR := RowB.keep HR F16 (nin0 _)
    have HA := Fr.step0 HA F16
    refine WO.one (SA.F sameR sameT _ 0 _ (by kernel_rfl)) 46 (.pointer (some ⟨g, 0, none⟩)) (by kernel_rfl) ?_
    refine WO.one (SA.F sameR sameT _ 1 _ (by kernel_rfl)) 47 (.pointer (some ⟨g, 0, none⟩)) (by kernel_rfl) ?_
    refine WO.one (SA.F sameR sameT _ 2 _ (by kernel_rfl)) 48 (.pointer (some ⟨g, 1, none⟩)) (by kernel_rfl) ?_
    refine WO.ld (SA.S sameR sameT _ 3 _ (by kernel_rfl)) 49 (.slice (some ⟨b, 0, none⟩) nl cap) (by kernel_rfl) (same (HB.at 1 (by kernel_rfl))) ?_
    refine WO.one (SA.F sameR sameT _ 4 _ (by kernel_rfl)) 50 (.int .i64 (i : Int)) (by kernel_rfl) ?_
    refine WO.one (SA.F sameR sameT _ 5 _ (by kernel_rfl)) 51 (.pointer (some ⟨g, 0, none⟩)) (by kernel_rfl) ?_
    refine WO.one (SA.F sameR sameT _ 6 _ (by kernel_rfl)) 52 (.pointer (some ⟨g, 0, none⟩)) (by kernel_rfl) ?_
    refine WO.one (SA.F sameR sameT _ 7 _ (by kernel_rfl)) 53 (.pointer (some ⟨g, 1, none⟩)) (by kernel_rfl) ?_
    refine WO.ld (SA.S sameR sameT _ 8 _ (by kernel_rfl)) 54 (.slice (some ⟨b, 0, none⟩) nl cap) (by kernel_rfl) (same (HB.at 1 (by kernel_rfl))) ?_
    refine WO.one (SA.F sameR sameT _ 9 _ (by kernel_rfl)) 55 (.int .i64 (i : Int)) (by kernel_rfl) ?_
    refine WO.ixB (SA.F sameR sameT _ 10 _ (by kernel_rfl)) 56 (i * 3) b 0 nl 3 (i : Int) (by kernel_rfl) (by omega) (by omega) (by omega) ?_
    refine WO.one (SA.F sameR sameT _ 11 _ (by kernel_rfl)) 57 (.pointer (some ⟨b, i * 3 + 2, none⟩)) (by kernel_rfl) ?_
    refine WO.ld (SA.S sameR sameT _ 12 _ (by kernel_rfl)) 58 (.int .i64 ((gP (x ++ p :: y') i).s : Int)) (by kernel_rfl) (same (HR.at i 2 (i * 3 + 2) _ (by rw [List.length_map]; have := hnq; omega) (by omega) (by rw [(map_gP (x ++ p :: y') i (by have := hnq; omega))]; rfl) (by omega))) ?_
    refine WO.one (SA.F sameR sameT _ 13 _ (by kernel_rfl)) 59 (.int .i64 ((p.b.length - p.s : Nat) : Int)) (by kernel_rfl) ?_
    refine WO.one (SA.F sameR sameT _ 14 _ (by kernel_rfl)) 60 (.int .i64 (IntKind.i64.wrap (((gP (x ++ p :: y') i).s : Int) + ((p.b.length - p.s : Nat) : Int)))) (by kernel_rfl) ?_
    refine WO.top (v' := .int .i64 ((p.s + (p.b.length - p.s) : Nat) : Int)) (wrap_i64 (by rw [hgp]; omega) (by omega)) ?_
    refine WO.ixB (SA.F sameR sameT _ 15 _ (by kernel_rfl)) 61 (i * 3) b 0 nl 3 (i : Int) (by kernel_rfl) (by omega) (by omega) (by omega) ?_
    refine WO.one (SA.F sameR sameT _ 16 _ (by kernel_rfl)) 62 (.pointer (some ⟨b, i * 3 + 2, none⟩)) (by kernel_rfl) ?_
    refine WO.stC (SA.E _ 17 _ (by kernel_rfl) rfl) b i 2 (i * 3 + 2) (.int .i64 ((p.s + (p.b.length - p.s) : Nat) : Int)) [.int .i64 ((gP (x ++ p :: y') i).n), .string (str (gP (x ++ p :: y') i).b), .int .i64 ((p.s + (p.b.length - p.s) : Nat) : Int)] HR (by rw [List.length_map]; have := hnq; omega) (by omega) (by omega) rfl (by rw [(map_gP (x ++ p :: y') i (by have := hnq; omega))]; rfl) (by kernel_rfl) (fun _ _ => trivial) ?_
    intro w17 HR19 F18 _
    have HB := Blk.keep HB F18 (ninC hgb' (nin0 _))
    have HA := Fr.step HA F18 (inSL (by simp) inS0)
    have HR19 : RowB w17 b 54 3 cap (((x ++ p :: y').set i (⟨(gP (x ++ p :: y') i).n, (gP (x ++ p :: y') i).b, p.s + (p.b.length - p.s)⟩ : Pt)).map cP) := by rw [List.map_set]; exact HR19
    refine WO.doneA (by kernel_rfl) ?_
    refine WQ.keep [0, 1, 4, 5, 9, 11, 18, 41] (e' := [(0, .pointer (some ⟨g, 0, none⟩)), (1, .int .i64 ((kp - (p.b.length - p.s) : Nat) : Int)), (4, .int .i64 (i : Int)), (5, .int .i64 ((p.b.length - p.s : Nat) : Int)), (9, .bool false), (11, .bool true), (18, .bool true), (41, .bool false)]) (by kernel_rfl) ?_
    refine WQ.thenN ?_
    refine WE.draw [.free, .free, .free, .still, .free, .free, .free, .free, .still, .free, .free, .free, .still, .free, .free, .free, .still, .free, .free, .free, .still, .free, .free, .free, .eff] Same sameR (by kernel_rfl) 25 (Array.replicate 25 false) (by kernel_rfl) rfl ?_
    intro w20 F21 _
    have HB := Blk.keep HB F21 (nin0 _)
    have HR19 := RowB.keep HR19 F21 (nin0 _)
    have HA := Fr.step0 HA F21
    refine WO.one (SA.F sameR sameT _ 0 _ (by kernel_rfl)) 63 (.pointer (some ⟨g, 0, none⟩)) (by kernel_rfl) ?_
    refine WO.one (SA.F sameR sameT _ 1 _ (by kernel_rfl)) 64 (.pointer (some ⟨g, 0, none⟩)) (by kernel_rfl) ?_
    refine WO.one (SA.F sameR sameT _ 2 _ (by kernel_rfl)) 65 (.pointer (some ⟨g, 1, none⟩)) (by kernel_rfl) ?_
    refine WO.ld (SA.S sameR sameT _ 3 _ (by kernel_rfl)) 66 (.slice (some ⟨b, 0, none⟩) nl cap) (by kernel_rfl) (same (HB.at 1 (by kernel_rfl))) ?_
    refine WO.one (SA.F sameR sameT _ 4 _ (by kernel_rfl)) 67 (.int .i64 (i : Int)) (by kernel_rfl) ?_
    refine WO.one (SA.F sameR sameT _ 5 _ (by kernel_rfl)) 68 (.pointer (some ⟨g, 0, none⟩)) (by kernel_rfl) ?_
    refine WO.one (SA.F sameR sameT _ 6 _ (by kernel_rfl)) 69 (.pointer (some ⟨g, 0, none⟩)) (by kernel_rfl) ?_
    refine WO.one (SA.F sameR sameT _ 7 _ (by kernel_rfl)) 70 (.pointer (some ⟨g, 1, none⟩)) (by kernel_rfl) ?_
    refine WO.ld (SA.S sameR sameT _ 8 _ (by kernel_rfl)) 71 (.slice (some ⟨b, 0, none⟩) nl cap) (by kernel_rfl) (same (HB.at 1 (by kernel_rfl))) ?_
    refine WO.one (SA.F sameR sameT _ 9 _ (by kernel_rfl)) 72 (.int .i64 (i : Int)) (by kernel_rfl) ?_
    refine WO.ixB (SA.F sameR sameT _ 10 _ (by kernel_rfl)) 73 (i * 3) b 0 nl 3 (i : Int) (by kernel_rfl) (by omega) (by omega) (by omega) ?_
    refine WO.one (SA.F sameR sameT _ 11 _ (by kernel_rfl)) 74 (.pointer (some ⟨b, i * 3 + 1, none⟩)) (by kernel_rfl) ?_
    refine WO.ld (SA.S sameR sameT _ 12 _ (by kernel_rfl)) 75 (.string (str (gP ((x ++ p :: y').set i (⟨(gP (x ++ p :: y') i).n, (gP (x ++ p :: y') i).b, p.s + (p.b.length - p.s)⟩ : Pt)) i).b)) (by kernel_rfl) (same (HR19.at i 1 (i * 3 + 1) _ (by rw [List.length_map]; have := (show ((x ++ p :: y').set i (⟨(gP (x ++ p :: y') i).n, (gP (x ++ p :: y') i).b, p.s + (p.b.length - p.s)⟩ : Pt)).length = (x ++ p :: y').length from List.length_set).trans (hnq); omega) (by omega) (by rw [(map_gP ((x ++ p :: y').set i (⟨(gP (x ++ p :: y') i).n, (gP (x ++ p :: y') i).b, p.s + (p.b.length - p.s)⟩ : Pt)) i (by have := (show ((x ++ p :: y').set i (⟨(gP (x ++ p :: y') i).n, (gP (x ++ p :: y') i).b, p.s + (p.b.length - p.s)⟩ : Pt)).length = (x ++ p :: y').length from List.length_set).trans (hnq); omega))]; rfl) (by omega))) ?_
    refine WO.one (SA.F sameR sameT _ 13 _ (by kernel_rfl)) 76 (.pointer (some ⟨g, 0, none⟩)) (by kernel_rfl) ?_
    refine WO.one (SA.F sameR sameT _ 14 _ (by kernel_rfl)) 77 (.pointer (some ⟨g, 0, none⟩)) (by kernel_rfl) ?_
    refine WO.one (SA.F sameR sameT _ 15 _ (by kernel_rfl)) 78 (.pointer (some ⟨g, 1, none⟩)) (by kernel_rfl) ?_
    refine WO.ld (SA.S sameR sameT _ 16 _ (by kernel_rfl)) 79 (.slice (some ⟨b, 0, none⟩) nl cap) (by kernel_rfl) (same (HB.at 1 (by kernel_rfl))) ?_
    refine WO.one (SA.F sameR sameT _ 17 _ (by kernel_rfl)) 80 (.int .i64 (i : Int)) (by kernel_rfl) ?_
    refine WO.ixB (SA.F sameR sameT _ 18 _ (by kernel_rfl)) 81 (i * 3) b 0 nl 3 (i : Int) (by kernel_rfl) (by omega) (by omega) (by omega) ?_
    refine WO.one (SA.F sameR sameT _ 19 _ (by kernel_rfl)) 82 (.pointer (some ⟨b, i * 3 + 2, none⟩)) (by kernel_rfl) ?_
    refine WO.ld (SA.S sameR sameT _ 20 _ (by kernel_rfl)) 83 (.int .i64 ((gP ((x ++ p :: y').set i (⟨(gP (x ++ p :: y') i).n, (gP (x ++ p :: y') i).b, p.s + (p.b.length - p.s)⟩ : Pt)) i).s : Int)) (by kernel_rfl) (same (HR19.at i 2 (i * 3 + 2) _ (by rw [List.length_map]; have := (show ((x ++ p :: y').set i (⟨(gP (x ++ p :: y') i).n, (gP (x ++ p :: y') i).b, p.s + (p.b.length - p.s)⟩ : Pt)).length = (x ++ p :: y').length from List.length_set).trans (hnq); omega) (by omega) (by rw [(map_gP ((x ++ p :: y').set i (⟨(gP (x ++ p :: y') i).n, (gP (x ++ p :: y') i).b, p.s + (p.b.length - p.s)⟩ : Pt)) i (by have := (show ((x ++ p :: y').set i (⟨(gP (x ++ p :: y') i).n, (gP (x ++ p :: y') i).b, p.s + (p.b.length - p.s)⟩ : Pt)).length = (x ++ p :: y').length from List.length_set).trans (hnq); omega))]; rfl) (by omega))) ?_
    refine WO.slS (SA.F sameR sameT _ 21 _ (by kernel_rfl)) 84 ((gP ((x ++ p :: y').set i (⟨(gP (x ++ p :: y') i).n, (gP (x ++ p :: y') i).b, p.s + (p.b.length - p.s)⟩ : Pt)) i).s) ((gP ((x ++ p :: y').set i (⟨(gP (x ++ p :: y') i).n, (gP (x ++ p :: y') i).b, p.s + (p.b.length - p.s)⟩ : Pt)) i).b) (by kernel_rfl) (by rfl) (by rw [gP_set _ _ _ (by omega)]; dsimp only; rw [hgp]; omega) ?_
    refine WO.ixB (SA.F sameR sameT _ 22 _ (by kernel_rfl)) 85 (i * 3) b 0 nl 3 (i : Int) (by kernel_rfl) (by omega) (by omega) (by omega) ?_
    refine WO.one (SA.F sameR sameT _ 23 _ (by kernel_rfl)) 86 (.pointer (some ⟨b, i * 3 + 1, none⟩)) (by kernel_rfl) ?_
    refine WO.stC (SA.E _ 24 _ (by kernel_rfl) rfl) b i 1 (i * 3 + 1) (.string (str (((gP ((x ++ p :: y').set i (⟨(gP (x ++ p :: y') i).n, (gP (x ++ p :: y') i).b, p.s + (p.b.length - p.s)⟩ : Pt)) i).b).take ((gP ((x ++ p :: y').set i (⟨(gP (x ++ p :: y') i).n, (gP (x ++ p :: y') i).b, p.s + (p.b.length - p.s)⟩ : Pt)) i).s)))) [.int .i64 ((gP ((x ++ p :: y').set i (⟨(gP (x ++ p :: y') i).n, (gP (x ++ p :: y') i).b, p.s + (p.b.length - p.s)⟩ : Pt)) i).n), .string (str (((gP ((x ++ p :: y').set i (⟨(gP (x ++ p :: y') i).n, (gP (x ++ p :: y') i).b, p.s + (p.b.length - p.s)⟩ : Pt)) i).b).take ((gP ((x ++ p :: y').set i (⟨(gP (x ++ p :: y') i).n, (gP (x ++ p :: y') i).b, p.s + (p.b.length - p.s)⟩ : Pt)) i).s))), .int .i64 ((gP ((x ++ p :: y').set i (⟨(gP (x ++ p :: y') i).n, (gP (x ++ p :: y') i).b, p.s + (p.b.length - p.s)⟩ : Pt)) i).s : Int)] HR19 (by rw [List.length_map]; have := (show ((x ++ p :: y').set i (⟨(gP (x ++ p :: y') i).n, (gP (x ++ p :: y') i).b, p.s + (p.b.length - p.s)⟩ : Pt)).length = (x ++ p :: y').length from List.length_set).trans (hnq); omega) (by omega) (by omega) rfl (by rw [(map_gP ((x ++ p :: y').set i (⟨(gP (x ++ p :: y') i).n, (gP (x ++ p :: y') i).b, p.s + (p.b.length - p.s)⟩ : Pt)) i (by have := (show ((x ++ p :: y').set i (⟨(gP (x ++ p :: y') i).n, (gP (x ++ p :: y') i).b, p.s + (p.b.length - p.s)⟩ : Pt)).length = (x ++ p :: y').length from List.length_set).trans (hnq); omega))]; rfl) (by kernel_rfl) (fun _ _ => trivial) ?_
    intro w22 HR24 F23 _
    have HB := Blk.keep HB F23 (ninC hgb' (nin0 _))
    have HA := Fr.step HA F23 (inSL (by simp) inS0)
    have HR24 : RowB w22 b 54 3 cap ((((x ++ p :: y').set i (⟨(gP (x ++ p :: y') i).n, (gP (x ++ p :: y') i).b, p.s + (p.b.length - p.s)⟩ : Pt)).set i (⟨(gP ((x ++ p :: y').set i (⟨(gP (x ++ p :: y') i).n, (gP (x ++ p :: y') i).b, p.s + (p.b.length - p.s)⟩ : Pt)) i).n, (((gP ((x ++ p :: y').set i (⟨(gP (x ++ p :: y') i).n, (gP (x ++ p :: y') i).b, p.s + (p.b.length - p.s)⟩ : Pt)) i).b).take ((gP ((x ++ p :: y').set i (⟨(gP (x ++ p :: y') i).n, (gP (x ++ p :: y') i).b, p.s + (p.b.length - p.s)⟩ : Pt)) i).s)), (gP ((x ++ p :: y').set i (⟨(gP (x ++ p :: y') i).n, (gP (x ++ p :: y') i).b, p.s + (p.b.length - p.s)⟩ : Pt)) i).s⟩ : Pt)).map cP) := by rw [List.map_set]; exact HR24
    refine WO.doneA (by kernel_rfl) ?_
    refine WQ.keep [0, 1, 4, 5, 9, 11, 18, 41] (e' := [(0, .pointer (some ⟨g, 0, none⟩)), (1, .int .i64 ((kp - (p.b.length - p.s) : Nat) : Int)), (4, .int .i64 (i : Int)), (5, .int .i64 ((p.b.length - p.s : Nat) : Int)), (9, .bool false), (11, .bool true), (18, .bool true), (41, .bool false)]) (by kernel_rfl) ?_
    refine WQ.blkN ?_
    refine WQ.thenN ?_
    refine WE.region ?_
    refine WO.run 1 0 [(19, .int .i64 (i : Int))] (by kernel_rfl) (by kernel_rfl) ?_
    refine WO.one (SQ.F 1 (by kernel_rfl)) 20 (.int .i64 (IntKind.i64.wrap ((i : Int) + 1))) (by kernel_rfl) ?_
    refine WO.top (v' := .int .i64 ((i + 1 : Nat) : Int)) (wrap_i64 (by omega) (by omega)) ?_
    refine WO.run 1 2 [(4, .int .i64 ((i + 1 : Nat) : Int))] (by kernel_rfl) (by kernel_rfl) ?_
    refine WO.done (by kernel_rfl) ?_
    refine WQ.keep [0, 1, 4, 5, 9, 11, 18, 41] (e' := [(0, .pointer (some ⟨g, 0, none⟩)), (1, .int .i64 ((kp - (p.b.length - p.s) : Nat) : Int)), (4, .int .i64 ((i + 1 : Nat) : Int)), (5, .int .i64 ((p.b.length - p.s : Nat) : Int)), (9, .bool false), (11, .bool true), (18, .bool true), (41, .bool false)]) (by kernel_rfl) ?_
    have hm_ : min kp (p.b.length - p.s) = p.b.length - p.s := by omega
    have HR2 := HR24
    rw [crash_two x y' p i (p.s + (p.b.length - p.s)) hi] at HR2
    refine WQ.round ?_
    intro a_ ha_
    refine ⟨(i + 1, x ++ [⟨p.n, p.b.take (p.s + (p.b.length - p.s)), p.s + (p.b.length - p.s)⟩], y', kp - (p.b.length - p.s)), ?_, ha_.keep [0, 1, 4, 9, 11] (by kernel_rfl), ?_⟩
    · exact Nat.lt_succ_self _
    · exact ⟨by simp [hi], by simp only [List.length_append, List.length_cons, List.length_nil] at *; omega, HB, by rw [List.append_assoc]; exact HR2, fun q hq => hsy q (List.mem_cons_of_mem _ hq), by rw [hcr]; simp only [crashL, hm_, List.append_assoc, List.singleton_append], by dsimp only; omega, HA⟩
  intro h1
  refine WO.done (by kernel_rfl) ?_
  refine WQ.keep [0, 1, 4, 9, 11, 18] (e' := [(0, .pointer (some ⟨g, 0, none⟩)), (1, .int .i64 (kp : Int)), (4, .int .i64 (i : Int)), (9, .bool false), (11, .bool true), (18, .bool false)]) (by kernel_rfl) ?_
  refine WQ.thenN ?_
  refine WE.condF (by kernel_rfl) ?_
  refine WE.exit ?_
  refine WQ.thenE ?_
  refine WQ.thenE ?_
  refine WQ.blkE ?_
  refine WQ.thenN ?_
  obtain rfl : y = [] := by cases y with | nil => rfl | cons a b => simp at hxy; omega
  rw [show crashL kp [] = [] from rfl, List.append_nil] at hcr
  rw [List.append_nil] at HR hnq
  refine WE.region ?_
  refine WO.run 3 0 [(89, .pointer (some ⟨g, 2, none⟩)), (88, .pointer (some ⟨g, 0, none⟩)), (87, .pointer (some ⟨g, 0, none⟩))] (by kernel_rfl) (by kernel_rfl) ?_
  refine WO.st (SQ.E 3 (by kernel_rfl)) g 2 [.bool true] #[.int .i64 room, .slice (some ⟨b, 0, none⟩) nl cap, .bool true] (by kernel_rfl) HB (by kernel_rfl) (by kernel_rfl) (fun _ _ => trivial) ?_
  intro w25 HB27 F26 _
  have HR := RowB.keep HR F26 (ninC (Ne.symm hgb') (nin0 _))
  have HA := Fr.step HA F26 (inSL (by simp) inS0)
  refine WO.done (by kernel_rfl) ?_
  refine WQ.keep [0, 1, 4, 9, 11, 18] (e' := [(0, .pointer (some ⟨g, 0, none⟩)), (1, .int .i64 (kp : Int)), (4, .int .i64 (i : Int)), (9, .bool false), (11, .bool true), (18, .bool false)]) (by kernel_rfl) ?_
  refine WQ.fall (v := .tuple #[]) (by kernel_rfl) ?_
  exact ⟨rfl, HB27, by rw [hcr]; exact HR, HA⟩

set_option maxRecDepth 100000 in
set_option maxHeartbeats 400000 in
theorem mremove_down (g : Nat) (room : Int) (A : Option Addr) (nl cap : Nat) (l : List Pt) (F : List Nat) (n : Int) (w : World) (HB : Blk w g #[.int .i64 room, .slice A nl cap, .bool true] 40) (HV : VX cP 3 w F A l) (hn : l.length = nl) (hgF : g ∉ F) (hnl : nl ≤ 1000000)  :
    Calls Try.prog 19 #[.pointer (some ⟨g, 0, none⟩), .int .i64 n] w fun e w' => e = .returned (.int .i64 10) ∧ Fr [] w w' := by
  have HA := Fr.refl [] w
  refine enter (N := 35) Try.func19 (c := _) rfl (by kernel_rfl) (by kernel_rfl) (e := [(0, .pointer (some ⟨g, 0, none⟩)), (1, .int .i64 n)]) (by kernel_rfl) ?_
  refine WE.seq ?_
  refine WE.region ?_
  refine WO.run 1 0 [(4, .int .i64 0)] (by kernel_rfl) (by kernel_rfl) ?_
  refine WO.done (by kernel_rfl) ?_
  refine WQ.keep [0, 1, 4] (e' := [(0, .pointer (some ⟨g, 0, none⟩)), (1, .int .i64 n), (4, .int .i64 0)]) (by kernel_rfl) ?_
  refine WQ.thenN ?_
  refine WE.seq ?_
  refine WE.region ?_
  refine WO.run 2 0 [(9, .int .i64 n), (8, .pointer (some ⟨g, 0, none⟩))] (by kernel_rfl) (by kernel_rfl) ?_
  refine WO.call (SQ.E 2 (by kernel_rfl)) 10 (by kernel_rfl) (mthere_down g room A nl cap l F n _ HB HV hn hgF hnl ) ?_
  rintro _ w1 ⟨rfl, F2⟩
  refine ⟨_, rfl, trivial, ?_⟩
  have HB := Blk.keep HB F2 (nin0 _)
  have HV := HV.keep F2 (fun _ _ => nin0 _)
  have HA := Fr.step0 HA F2
  refine WO.run 5 3 [(6, .int .i64 10), (5, .int .i64 (-1)), (12, .int .i64 10), (11, .int .i64 (-1)), (7, .tuple #[.int .i64 (-1), .int .i64 10])] (by kernel_rfl) (by kernel_rfl) ?_
  refine WO.done (by kernel_rfl) ?_
  refine WQ.keep [0, 1, 4, 5, 6] (e' := [(0, .pointer (some ⟨g, 0, none⟩)), (1, .int .i64 n), (4, .int .i64 0), (5, .int .i64 (-1)), (6, .int .i64 10)]) (by kernel_rfl) ?_
  refine WQ.thenN ?_
  refine WE.seq ?_
  refine WE.seq ?_
  refine WE.region ?_
  refine WO.run 2 0 [(14, .bool false), (13, .int .i64 10)] (by kernel_rfl) (by kernel_rfl) ?_
  refine WO.done (by kernel_rfl) ?_
  refine WQ.keep [0, 1, 4, 5, 6, 14] (e' := [(0, .pointer (some ⟨g, 0, none⟩)), (1, .int .i64 n), (4, .int .i64 0), (5, .int .i64 (-1)), (6, .int .i64 10), (14, .bool false)]) (by kernel_rfl) ?_
  refine WQ.thenN ?_
  refine WE.condF (by kernel_rfl) ?_
  refine WE.skip ?_
  refine WQ.thenN ?_
  refine WE.seq ?_
  refine WE.region ?_
  refine WO.run 2 0 [(4, .int .i64 10), (34, .int .i64 10)] (by kernel_rfl) (by kernel_rfl) ?_
  refine WO.done (by kernel_rfl) ?_
  refine WQ.keep [0, 1, 4, 5, 6, 14] (e' := [(0, .pointer (some ⟨g, 0, none⟩)), (1, .int .i64 n), (4, .int .i64 10), (5, .int .i64 (-1)), (6, .int .i64 10), (14, .bool false)]) (by kernel_rfl) ?_
  refine WQ.thenN ?_
  refine WE.ret ?_
  refine WQ.ret (v := .int .i64 10) (by kernel_rfl) ?_
  exact ⟨rfl, HA⟩

set_option maxRecDepth 100000 in
set_option maxHeartbeats 400000 in
theorem mremove_none (g : Nat) (room : Int) (A : Option Addr) (nl cap : Nat) (l : List Pt) (F : List Nat) (n : Int) (w : World) (HB : Blk w g #[.int .i64 room, .slice A nl cap, .bool false] 40) (HV : VX cP 3 w F A l) (hn : l.length = nl) (hgF : g ∉ F) (hnl : nl ≤ 1000000) (hno : ∀ j, j < nl → (gP l j).n ≠ n) :
    Calls Try.prog 19 #[.pointer (some ⟨g, 0, none⟩), .int .i64 n] w fun e w' => e = .returned (.int .i64 4) ∧ Fr [] w w' := by
  have HA := Fr.refl [] w
  refine enter (N := 35) Try.func19 (c := _) rfl (by kernel_rfl) (by kernel_rfl) (e := [(0, .pointer (some ⟨g, 0, none⟩)), (1, .int .i64 n)]) (by kernel_rfl) ?_
  refine WE.seq ?_
  refine WE.region ?_
  refine WO.run 1 0 [(4, .int .i64 0)] (by kernel_rfl) (by kernel_rfl) ?_
  refine WO.done (by kernel_rfl) ?_
  refine WQ.keep [0, 1, 4] (e' := [(0, .pointer (some ⟨g, 0, none⟩)), (1, .int .i64 n), (4, .int .i64 0)]) (by kernel_rfl) ?_
  refine WQ.thenN ?_
  refine WE.seq ?_
  refine WE.region ?_
  refine WO.run 2 0 [(9, .int .i64 n), (8, .pointer (some ⟨g, 0, none⟩))] (by kernel_rfl) (by kernel_rfl) ?_
  refine WO.call (SQ.E 2 (by kernel_rfl)) 10 (by kernel_rfl) (mthere_none g room A nl cap l F n _ HB HV hn hgF hnl hno) ?_
  rintro _ w1 ⟨rfl, F2⟩
  refine ⟨_, rfl, trivial, ?_⟩
  have HB := Blk.keep HB F2 (nin0 _)
  have HV := HV.keep F2 (fun _ _ => nin0 _)
  have HA := Fr.step0 HA F2
  refine WO.run 5 3 [(6, .int .i64 4), (5, .int .i64 (-1)), (12, .int .i64 4), (11, .int .i64 (-1)), (7, .tuple #[.int .i64 (-1), .int .i64 4])] (by kernel_rfl) (by kernel_rfl) ?_
  refine WO.done (by kernel_rfl) ?_
  refine WQ.keep [0, 1, 4, 5, 6] (e' := [(0, .pointer (some ⟨g, 0, none⟩)), (1, .int .i64 n), (4, .int .i64 0), (5, .int .i64 (-1)), (6, .int .i64 4)]) (by kernel_rfl) ?_
  refine WQ.thenN ?_
  refine WE.seq ?_
  refine WE.seq ?_
  refine WE.region ?_
  refine WO.run 2 0 [(14, .bool false), (13, .int .i64 4)] (by kernel_rfl) (by kernel_rfl) ?_
  refine WO.done (by kernel_rfl) ?_
  refine WQ.keep [0, 1, 4, 5, 6, 14] (e' := [(0, .pointer (some ⟨g, 0, none⟩)), (1, .int .i64 n), (4, .int .i64 0), (5, .int .i64 (-1)), (6, .int .i64 4), (14, .bool false)]) (by kernel_rfl) ?_
  refine WQ.thenN ?_
  refine WE.condF (by kernel_rfl) ?_
  refine WE.skip ?_
  refine WQ.thenN ?_
  refine WE.seq ?_
  refine WE.region ?_
  refine WO.run 2 0 [(4, .int .i64 4), (34, .int .i64 4)] (by kernel_rfl) (by kernel_rfl) ?_
  refine WO.done (by kernel_rfl) ?_
  refine WQ.keep [0, 1, 4, 5, 6, 14] (e' := [(0, .pointer (some ⟨g, 0, none⟩)), (1, .int .i64 n), (4, .int .i64 4), (5, .int .i64 (-1)), (6, .int .i64 4), (14, .bool false)]) (by kernel_rfl) ?_
  refine WQ.thenN ?_
  refine WE.ret ?_
  refine WQ.ret (v := .int .i64 4) (by kernel_rfl) ?_
  exact ⟨rfl, HA⟩

set_option maxRecDepth 100000 in
set_option maxHeartbeats 400000 in
theorem mremove_some (g : Nat) (room : Int) (A : Option Addr) (nl cap : Nat) (l : List Pt) (F : List Nat) (n : Int) (w : World) (HB : Blk w g #[.int .i64 room, .slice A nl cap, .bool false] 40) (HV : VX cP 3 w F A l) (hn : l.length = nl) (hgF : g ∉ F) (hnl : nl ≤ 1000000) (k : Nat) (hk : k < nl) (hkn : (gP l k).n = n) (hbef : ∀ j, j < k → (gP l j).n ≠ n) (hcap : nl ≤ cap) :
    Calls Try.prog 19 #[.pointer (some ⟨g, 0, none⟩), .int .i64 n] w fun e w' => e = .returned (.int .i64 0) ∧ ∃ v G, Blk w' g #[.int .i64 room, v, .bool false] 40 ∧ OwnX 54 3 w' G v ((l.take k ++ l.drop (k + 1)).map cP) ∧ Fr [g] w w' ∧ ∀ y ∈ G, w.heap.size ≤ y := by
  have HA := Fr.refl [g] w
  refine enter (N := 35) Try.func19 (c := _) rfl (by kernel_rfl) (by kernel_rfl) (e := [(0, .pointer (some ⟨g, 0, none⟩)), (1, .int .i64 n)]) (by kernel_rfl) ?_
  refine WE.seq ?_
  refine WE.region ?_
  refine WO.run 1 0 [(4, .int .i64 0)] (by kernel_rfl) (by kernel_rfl) ?_
  refine WO.done (by kernel_rfl) ?_
  refine WQ.keep [0, 1, 4] (e' := [(0, .pointer (some ⟨g, 0, none⟩)), (1, .int .i64 n), (4, .int .i64 0)]) (by kernel_rfl) ?_
  refine WQ.thenN ?_
  refine WE.seq ?_
  refine WE.region ?_
  refine WO.run 2 0 [(9, .int .i64 n), (8, .pointer (some ⟨g, 0, none⟩))] (by kernel_rfl) (by kernel_rfl) ?_
  refine WO.call (SQ.E 2 (by kernel_rfl)) 10 (by kernel_rfl) (mthere_some g room A nl cap l F n _ HB HV hn hgF hnl k hk hkn hbef) ?_
  rintro _ w1 ⟨rfl, F2⟩
  refine ⟨_, rfl, trivial, ?_⟩
  have HB := Blk.keep HB F2 (nin0 _)
  have HV := HV.keep F2 (fun _ _ => nin0 _)
  have HA := Fr.step0 HA F2
  refine WO.run 5 3 [(6, .int .i64 0), (5, .int .i64 (k : Int)), (12, .int .i64 0), (11, .int .i64 (k : Int)), (7, .tuple #[.int .i64 (k : Int), .int .i64 0])] (by kernel_rfl) (by kernel_rfl) ?_
  refine WO.done (by kernel_rfl) ?_
  refine WQ.keep [0, 1, 4, 5, 6] (e' := [(0, .pointer (some ⟨g, 0, none⟩)), (1, .int .i64 n), (4, .int .i64 0), (5, .int .i64 (k : Int)), (6, .int .i64 0)]) (by kernel_rfl) ?_
  refine WQ.thenN ?_
  refine WE.seq ?_
  refine WE.seq ?_
  refine WE.region ?_
  refine WO.run 2 0 [(14, .bool true), (13, .int .i64 0)] (by kernel_rfl) (by kernel_rfl) ?_
  refine WO.done (by kernel_rfl) ?_
  refine WQ.keep [0, 1, 4, 5, 6, 14] (e' := [(0, .pointer (some ⟨g, 0, none⟩)), (1, .int .i64 n), (4, .int .i64 0), (5, .int .i64 (k : Int)), (6, .int .i64 0), (14, .bool true)]) (by kernel_rfl) ?_
  refine WQ.thenN ?_
  refine WE.condT (by kernel_rfl) ?_
  have hz3 : (World.heap w1).size ≤ (World.heap w1).size := Nat.le_refl _
  have ltz_g := HB.lt
  have ltz_F := HV.lt
  refine WE.draw [.free, .effR, .free, .free, .free, .still, .free, .free, .effR, .free, .free, .free, .still, .free, .free, .free, .eff, .free, .free, .eff] (FrB (World.heap w1).size) (frBR _) (by kernel_rfl) 20 (Array.replicate 20 false) (by kernel_rfl) rfl ?_
  intro w4 F5 _
  have HB := Blk.keep HB F5 (nin0 _)
  have HV := HV.keep F5 (fun _ _ => nin0 _)
  have hz3 := Nat.le_trans hz3 F5.size
  have HA := Fr.step0 HA F5
  refine WO.one (SA.F (frBR _) (frBT _) _ 0 _ (by kernel_rfl)) 15 (.pointer (some ⟨g, 0, none⟩)) (by kernel_rfl) ?_
  refine WO.one (SA.F (frBR _) (frBT _) _ 2 _ (by kernel_rfl)) 17 (.pointer (some ⟨g, 0, none⟩)) (by kernel_rfl) ?_
  refine WO.one (SA.F (frBR _) (frBT _) _ 3 _ (by kernel_rfl)) 18 (.pointer (some ⟨g, 0, none⟩)) (by kernel_rfl) ?_
  refine WO.one (SA.F (frBR _) (frBT _) _ 4 _ (by kernel_rfl)) 19 (.pointer (some ⟨g, 1, none⟩)) (by kernel_rfl) ?_
  refine WO.ld (SA.S (frBR _) (frBT _) _ 5 _ (by kernel_rfl)) 20 (.slice A nl cap) (by kernel_rfl) (fun _ k => (HB.keepB k ltz_g).at 1 (by kernel_rfl)) ?_
  refine WO.one (SA.F (frBR _) (frBT _) _ 6 _ (by kernel_rfl)) 21 (.int .i64 (k : Int)) (by kernel_rfl) ?_
  refine WO.sl (SA.F (frBR _) (frBT _) _ 7 _ (by kernel_rfl)) 22 0 k A nl cap 3 none (some (k : Int)) (by kernel_rfl) (by rfl) (by simp only [Option.getD_some] <;> omega) (by omega) (by omega) ?_
  refine WO.top (sl0 _ _ _ _) ?_
  refine WO.one (SA.F (frBR _) (frBT _) _ 9 _ (by kernel_rfl)) 24 (.pointer (some ⟨g, 0, none⟩)) (by kernel_rfl) ?_
  refine WO.one (SA.F (frBR _) (frBT _) _ 10 _ (by kernel_rfl)) 25 (.pointer (some ⟨g, 0, none⟩)) (by kernel_rfl) ?_
  refine WO.one (SA.F (frBR _) (frBT _) _ 11 _ (by kernel_rfl)) 26 (.pointer (some ⟨g, 1, none⟩)) (by kernel_rfl) ?_
  refine WO.ld (SA.S (frBR _) (frBT _) _ 12 _ (by kernel_rfl)) 27 (.slice A nl cap) (by kernel_rfl) (fun _ k => (HB.keepB k ltz_g).at 1 (by kernel_rfl)) ?_
  refine WO.one (SA.F (frBR _) (frBT _) _ 13 _ (by kernel_rfl)) 28 (.int .i64 (k : Int)) (by kernel_rfl) ?_
  refine WO.one (SA.F (frBR _) (frBT _) _ 14 _ (by kernel_rfl)) 29 (.int .i64 (IntKind.i64.wrap ((k : Int) + 1))) (by kernel_rfl) ?_
  refine WO.top (v' := .int .i64 ((k + 1 : Nat) : Int)) (wrap_i64 (by omega) (by omega)) ?_
  refine WO.sl (SA.F (frBR _) (frBT _) _ 15 _ (by kernel_rfl)) 30 (k + 1) nl A nl cap 3 (some ((k + 1 : Nat) : Int)) none (by kernel_rfl) (by simp only [Option.getD_some] <;> omega) (by rfl) (by omega) (by omega) ?_
  refine WO.bx (SA.ER _ 1 _ (by kernel_rfl) rfl) 16 #[] 54 (fun g => .slice (some ⟨g, 0, none⟩) 0 0) (by kernel_rfl) (frB_of hz3 (by simp)) ?_
  intro g6 w7 HB9 F8 le10 _
  have ne_g_g6 : g ≠ g6 := Nat.ne_of_lt (Nat.lt_of_lt_of_le HB.lt le10)
  have nin_g6_F : g6 ∉ F := new_nin HV.lt le10
  have ge_HA_g6 := Nat.le_trans HA.size le10
  have gz_hz3_g6 := Nat.le_trans hz3 le10
  have HB := Blk.keep HB F8 (nin0 _)
  have HV := HV.keep F8 (fun _ _ => nin0 _)
  have hz3 := Nat.le_trans hz3 F8.size
  have HA := Fr.step0 HA F8
  have HR16 := RowB.of_blk (n := 0) HB9 (List.map cP []) rfl rfl (cP_len _) (cP_one _) (by omega)
  refine WO.appRow (SA.ER _ 8 _ (by kernel_rfl) rfl) 23 (n := 0) (m := k) (ys := List.map cP (l.take k)) et_p HR16 ((List.length_map _).trans ((rfl : List.length ([] : List Pt) = 0))) (by rw [List.length_map] <;> first | rfl | omega | (simp <;> omega)) ((HV.take k).srcN (show (l.take k).length = k by rw [List.length_take]; have := hn; omega) (cP_len _) (cP_one _) cap) (cP_len _) (cP_one _) (by kernel_rfl) (by omega) (by omega) (frB_of hz3 (geC gz_hz3_g6 (by simp))) ?_
  intro b11 cap12 w13 HR14 F15 hb17
  have ne_g_b11 : g ≠ b11 := hb17.elim (fun h => h ▸ ne_g_g6) (fun h => Nat.ne_of_lt (Nat.lt_of_lt_of_le HB.lt h))
  have nin_b11_F : b11 ∉ F := hb17.elim (fun h => h ▸ nin_g6_F) (fun h => new_nin HV.lt h)
  have gz_hz3_b11 := hb17.elim (fun h => (show _ ≤ b11 from h ▸ gz_hz3_g6)) (fun h => Nat.le_trans hz3 h)
  have in_HA_b11 : b11 ∈ [g] ∨ (World.heap w).size ≤ b11 := hb17.elim (fun h => Or.inr (h ▸ ge_HA_g6)) (fun h => Or.inr (Nat.le_trans HA.size h))
  have HB := Blk.keep HB F15 (ninC ne_g_g6 (nin0 _))
  have HV := HV.keep F15 (djB nin_g6_F)
  have hz3 := Nat.le_trans hz3 F15.size
  have HA := Fr.step HA F15 (inSR ge_HA_g6 inS0)
  have HR14 : RowB w13 b11 54 3 cap12 ((([] : List Pt) ++ (l.take k)).map cP) := by rw [List.map_append]; exact HR14
  refine WO.appRow (SA.E _ 16 _ (by kernel_rfl) rfl) 31 (n := (0 + k)) (m := (nl - (k + 1))) (ys := List.map cP ((l.drop (k + 1)).take (nl - (k + 1)))) et_p HR14 ((List.length_map _).trans ((show (([] : List Pt) ++ (l.take k)).length = 0 + k by rw [List.length_append, (rfl : List.length ([] : List Pt) = 0)]; first | rfl | (have := (rfl : List.length ([] : List Pt) = 0); simp; omega)))) (by rw [List.length_map] <;> first | rfl | omega | (simp <;> omega)) (((HV.drop (k + 1) cap (by have := hn; omega) (by have := hn; omega)).take (nl - (k + 1))).srcN (show ((l.drop (k + 1)).take (nl - (k + 1))).length = nl - (k + 1) by rw [List.length_take, List.length_drop]; have := hn; omega) (cP_len _) (cP_one _) (cap - (k + 1))) (cP_len _) (cP_one _) (by kernel_rfl) (by omega) (by omega) (fun _ _ => trivial) ?_
  intro b18 cap19 w20 HR21 F22 hb23
  have ne_g_b18 : g ≠ b18 := hb23.elim (fun h => h ▸ ne_g_b11) (fun h => Nat.ne_of_lt (Nat.lt_of_lt_of_le HB.lt h))
  have nin_b18_F : b18 ∉ F := hb23.elim (fun h => h ▸ nin_b11_F) (fun h => new_nin HV.lt h)
  have gz_hz3_b18 := hb23.elim (fun h => (show _ ≤ b18 from h ▸ gz_hz3_b11)) (fun h => Nat.le_trans hz3 h)
  have in_HA_b18 : b18 ∈ [g] ∨ (World.heap w).size ≤ b18 := hb23.elim (fun h => (h ▸ in_HA_b11)) (fun h => Or.inr (Nat.le_trans HA.size h))
  have HB := Blk.keep HB F22 (ninC ne_g_b11 (nin0 _))
  have HV := HV.keep F22 (djB nin_b11_F)
  have hz3 := Nat.le_trans hz3 F22.size
  have HA := Fr.step HA F22 (inSD in_HA_b11 inS0)
  have HR21 : RowB w20 b18 54 3 cap19 (((([] : List Pt) ++ (l.take k)) ++ ((l.drop (k + 1)).take (nl - (k + 1)))).map cP) := by rw [List.map_append]; exact HR21
  refine WO.one (SA.F (frBR _) (frBT _) _ 17 _ (by kernel_rfl)) 32 (.pointer (some ⟨g, 0, none⟩)) (by kernel_rfl) ?_
  refine WO.one (SA.F (frBR _) (frBT _) _ 18 _ (by kernel_rfl)) 33 (.pointer (some ⟨g, 1, none⟩)) (by kernel_rfl) ?_
  refine WO.st (SA.E _ 19 _ (by kernel_rfl) rfl) g 1 [.slice (some ⟨b18, 0, none⟩) (0 + k + (nl - (k + 1))) cap19] #[.int .i64 room, .slice (some ⟨b18, 0, none⟩) (0 + k + (nl - (k + 1))) cap19, .bool false] (by kernel_rfl) HB (by kernel_rfl) (by kernel_rfl) (fun _ _ => trivial) ?_
  intro w24 HB26 F25 _
  have HR21 := RowB.keep HR21 F25 (ninC (Ne.symm ne_g_b18) (nin0 _))
  have HV := HV.keep F25 (djB hgF)
  have hz3 := Nat.le_trans hz3 F25.size
  have HA := Fr.step HA F25 (inSL (by simp) inS0)
  refine WO.doneA (by kernel_rfl) ?_
  refine WQ.keep [0, 1, 4, 5, 6, 14] (e' := [(0, .pointer (some ⟨g, 0, none⟩)), (1, .int .i64 n), (4, .int .i64 0), (5, .int .i64 (k : Int)), (6, .int .i64 0), (14, .bool true)]) (by kernel_rfl) ?_
  refine WQ.thenN ?_
  refine WE.seq ?_
  refine WE.region ?_
  refine WO.run 2 0 [(4, .int .i64 0), (34, .int .i64 0)] (by kernel_rfl) (by kernel_rfl) ?_
  refine WO.done (by kernel_rfl) ?_
  refine WQ.keep [0, 1, 4, 5, 6, 14] (e' := [(0, .pointer (some ⟨g, 0, none⟩)), (1, .int .i64 n), (4, .int .i64 0), (5, .int .i64 (k : Int)), (6, .int .i64 0), (14, .bool true)]) (by kernel_rfl) ?_
  refine WQ.thenN ?_
  refine WE.ret ?_
  refine WQ.ret (v := .int .i64 0) (by kernel_rfl) ?_
  exact ⟨rfl, .slice (some ⟨b18, 0, none⟩) (0 + k + (nl - (k + 1))) cap19, [b18], HB26, (by have h_ := OwnX.row HR21 ((List.length_map _).trans ((show ((([] : List Pt) ++ (l.take k)) ++ ((l.drop (k + 1)).take (nl - (k + 1)))).length = 0 + k + (nl - (k + 1)) by rw [List.length_append, (show (([] : List Pt) ++ (l.take k)).length = 0 + k by rw [List.length_append, (rfl : List.length ([] : List Pt) = 0)]; first | rfl | (have := (rfl : List.length ([] : List Pt) = 0); simp; omega))]; first | rfl | (have := (show (([] : List Pt) ++ (l.take k)).length = 0 + k by rw [List.length_append, (rfl : List.length ([] : List Pt) = 0)]; first | rfl | (have := (rfl : List.length ([] : List Pt) = 0); simp; omega)); simp; omega)))); rw [List.nil_append, drop_all l (k + 1) nl hn] at h_; exact h_), HA, (by intro y hy; rw [List.mem_singleton.1 hy]; exact in_HA_b18.resolve_left (by simpa using Ne.symm ne_g_b18))⟩

set_option maxRecDepth 100000 in
set_option maxHeartbeats 400000 in
theorem mappend_down (g : Nat) (room : Int) (A : Option Addr) (nl cap : Nat) (l : List Pt) (F : List Nat) (n : Int) (w : World) (bt : List UInt8) (HB : Blk w g #[.int .i64 room, .slice A nl cap, .bool true] 40) (HV : VX cP 3 w F A l) (hn : l.length = nl) (hgF : g ∉ F) (hnl : nl ≤ 1000000) :
    Calls Try.prog 14 #[.pointer (some ⟨g, 0, none⟩), .int .i64 n, .string (str bt)] w fun e w' => e = .returned (.int .i64 10) ∧ Fr [] w w' := by
  have HA := Fr.refl [] w
  refine enter (N := 92) Try.func14 (c := _) rfl (by kernel_rfl) (by kernel_rfl) (e := [(0, .pointer (some ⟨g, 0, none⟩)), (1, .int .i64 n), (2, .string (str bt))]) (by kernel_rfl) ?_
  refine WE.seq ?_
  refine WE.region ?_
  refine WO.run 1 0 [(6, .int .i64 0)] (by kernel_rfl) (by kernel_rfl) ?_
  refine WO.done (by kernel_rfl) ?_
  refine WQ.keep [0, 1, 2, 6] (e' := [(0, .pointer (some ⟨g, 0, none⟩)), (1, .int .i64 n), (2, .string (str bt)), (6, .int .i64 0)]) (by kernel_rfl) ?_
  refine WQ.thenN ?_
  refine WE.seq ?_
  refine WE.seq ?_
  refine WE.region ?_
  refine WO.run 3 0 [(11, .pointer (some ⟨g, 2, none⟩)), (10, .pointer (some ⟨g, 0, none⟩)), (9, .pointer (some ⟨g, 0, none⟩))] (by kernel_rfl) (by kernel_rfl) ?_
  refine WO.ld (SQ.S 3 (by kernel_rfl)) 12 (.bool true) (by kernel_rfl) (same (HB.at 2 (by kernel_rfl))) ?_
  refine WO.done (by kernel_rfl) ?_
  refine WQ.keep [0, 1, 2, 6, 12] (e' := [(0, .pointer (some ⟨g, 0, none⟩)), (1, .int .i64 n), (2, .string (str bt)), (6, .int .i64 0), (12, .bool true)]) (by kernel_rfl) ?_
  refine WQ.thenN ?_
  refine WE.condT (by kernel_rfl) ?_
  refine WE.seq ?_
  refine WE.region ?_
  refine WO.run 1 0 [(6, .int .i64 10)] (by kernel_rfl) (by kernel_rfl) ?_
  refine WO.done (by kernel_rfl) ?_
  refine WQ.keep [0, 1, 2, 6, 12] (e' := [(0, .pointer (some ⟨g, 0, none⟩)), (1, .int .i64 n), (2, .string (str bt)), (6, .int .i64 10), (12, .bool true)]) (by kernel_rfl) ?_
  refine WQ.thenN ?_
  refine WE.ret ?_
  refine WQ.thenR ?_
  refine WQ.ret (v := .int .i64 10) (by kernel_rfl) ?_
  exact ⟨rfl, HA⟩

set_option maxRecDepth 100000 in
set_option maxHeartbeats 400000 in
theorem mappend_neg (g : Nat) (room : Int) (A : Option Addr) (nl cap : Nat) (l : List Pt) (F : List Nat) (n : Int) (w : World) (bt : List UInt8) (HB : Blk w g #[.int .i64 room, .slice A nl cap, .bool false] 40) (HV : VX cP 3 w F A l) (hn : l.length = nl) (hgF : g ∉ F) (hnl : nl ≤ 1000000) (hneg : n < 0) :
    Calls Try.prog 14 #[.pointer (some ⟨g, 0, none⟩), .int .i64 n, .string (str bt)] w fun e w' => e = .returned (.int .i64 1) ∧ Fr [] w w' := by
  have HA := Fr.refl [] w
  refine enter (N := 92) Try.func14 (c := _) rfl (by kernel_rfl) (by kernel_rfl) (e := [(0, .pointer (some ⟨g, 0, none⟩)), (1, .int .i64 n), (2, .string (str bt))]) (by kernel_rfl) ?_
  refine WE.seq ?_
  refine WE.region ?_
  refine WO.run 1 0 [(6, .int .i64 0)] (by kernel_rfl) (by kernel_rfl) ?_
  refine WO.done (by kernel_rfl) ?_
  refine WQ.keep [0, 1, 2, 6] (e' := [(0, .pointer (some ⟨g, 0, none⟩)), (1, .int .i64 n), (2, .string (str bt)), (6, .int .i64 0)]) (by kernel_rfl) ?_
  refine WQ.thenN ?_
  refine WE.seq ?_
  refine WE.seq ?_
  refine WE.region ?_
  refine WO.run 3 0 [(11, .pointer (some ⟨g, 2, none⟩)), (10, .pointer (some ⟨g, 0, none⟩)), (9, .pointer (some ⟨g, 0, none⟩))] (by kernel_rfl) (by kernel_rfl) ?_
  refine WO.ld (SQ.S 3 (by kernel_rfl)) 12 (.bool false) (by kernel_rfl) (same (HB.at 2 (by kernel_rfl))) ?_
  refine WO.done (by kernel_rfl) ?_
  refine WQ.keep [0, 1, 2, 6, 12] (e' := [(0, .pointer (some ⟨g, 0, none⟩)), (1, .int .i64 n), (2, .string (str bt)), (6, .int .i64 0), (12, .bool false)]) (by kernel_rfl) ?_
  refine WQ.thenN ?_
  refine WE.condF (by kernel_rfl) ?_
  refine WE.skip ?_
  refine WQ.thenN ?_
  refine WE.seq ?_
  refine WE.seq ?_
  refine WE.region ?_
  refine WO.run 1 0 [(13, .int .i64 n)] (by kernel_rfl) (by kernel_rfl) ?_
  refine WO.one (SQ.F 1 (by kernel_rfl)) 14 (.bool (decide ((n : Int) < 0))) (by kernel_rfl) ?_
  refine WO.topPT ((n : Int) < 0) (by omega) ?_
  refine WO.done (by kernel_rfl) ?_
  refine WQ.keep [0, 1, 2, 6, 12, 14] (e' := [(0, .pointer (some ⟨g, 0, none⟩)), (1, .int .i64 n), (2, .string (str bt)), (6, .int .i64 0), (12, .bool false), (14, .bool true)]) (by kernel_rfl) ?_
  refine WQ.thenN ?_
  refine WE.condT (by kernel_rfl) ?_
  refine WE.seq ?_
  refine WE.region ?_
  refine WO.run 1 0 [(6, .int .i64 1)] (by kernel_rfl) (by kernel_rfl) ?_
  refine WO.done (by kernel_rfl) ?_
  refine WQ.keep [0, 1, 2, 6, 12, 14] (e' := [(0, .pointer (some ⟨g, 0, none⟩)), (1, .int .i64 n), (2, .string (str bt)), (6, .int .i64 1), (12, .bool false), (14, .bool true)]) (by kernel_rfl) ?_
  refine WQ.thenN ?_
  refine WE.ret ?_
  refine WQ.thenR ?_
  refine WQ.ret (v := .int .i64 1) (by kernel_rfl) ?_
  exact ⟨rfl, HA⟩

set_option maxRecDepth 100000 in
set_option maxHeartbeats 400000 in
theorem mappend_full (g : Nat) (room : Int) (A : Option Addr) (nl cap : Nat) (l : List Pt) (F : List Nat) (n : Int) (w : World) (bt : List UInt8) (HB : Blk w g #[.int .i64 room, .slice A nl cap, .bool false] 40) (HV : VX cP 3 w F A l) (hn : l.length = nl) (hgF : g ∉ F) (hnl : nl ≤ 1000000) (hu : usedL l ≤ 1000000) (hr : 1 ≤ room ∧ room ≤ 65536) (hbt : bt.length ≤ 1000000) (hpos : ¬ n < 0) (hful : room - (usedL l : Int) < (bt.length : Int)) :
    Calls Try.prog 14 #[.pointer (some ⟨g, 0, none⟩), .int .i64 n, .string (str bt)] w fun e w' => e = .returned (.int .i64 6) ∧ Fr [] w w' := by
  have HA := Fr.refl [] w
  refine enter (N := 92) Try.func14 (c := _) rfl (by kernel_rfl) (by kernel_rfl) (e := [(0, .pointer (some ⟨g, 0, none⟩)), (1, .int .i64 n), (2, .string (str bt))]) (by kernel_rfl) ?_
  refine WE.seq ?_
  refine WE.region ?_
  refine WO.run 1 0 [(6, .int .i64 0)] (by kernel_rfl) (by kernel_rfl) ?_
  refine WO.done (by kernel_rfl) ?_
  refine WQ.keep [0, 1, 2, 6] (e' := [(0, .pointer (some ⟨g, 0, none⟩)), (1, .int .i64 n), (2, .string (str bt)), (6, .int .i64 0)]) (by kernel_rfl) ?_
  refine WQ.thenN ?_
  refine WE.seq ?_
  refine WE.seq ?_
  refine WE.region ?_
  refine WO.run 3 0 [(11, .pointer (some ⟨g, 2, none⟩)), (10, .pointer (some ⟨g, 0, none⟩)), (9, .pointer (some ⟨g, 0, none⟩))] (by kernel_rfl) (by kernel_rfl) ?_
  refine WO.ld (SQ.S 3 (by kernel_rfl)) 12 (.bool false) (by kernel_rfl) (same (HB.at 2 (by kernel_rfl))) ?_
  refine WO.done (by kernel_rfl) ?_
  refine WQ.keep [0, 1, 2, 6, 12] (e' := [(0, .pointer (some ⟨g, 0, none⟩)), (1, .int .i64 n), (2, .string (str bt)), (6, .int .i64 0), (12, .bool false)]) (by kernel_rfl) ?_
  refine WQ.thenN ?_
  refine WE.condF (by kernel_rfl) ?_
  refine WE.skip ?_
  refine WQ.thenN ?_
  refine WE.seq ?_
  refine WE.seq ?_
  refine WE.region ?_
  refine WO.run 1 0 [(13, .int .i64 n)] (by kernel_rfl) (by kernel_rfl) ?_
  refine WO.one (SQ.F 1 (by kernel_rfl)) 14 (.bool (decide ((n : Int) < 0))) (by kernel_rfl) ?_
  refine WO.topPF ((n : Int) < 0) (by omega) ?_
  refine WO.done (by kernel_rfl) ?_
  refine WQ.keep [0, 1, 2, 6, 12, 14] (e' := [(0, .pointer (some ⟨g, 0, none⟩)), (1, .int .i64 n), (2, .string (str bt)), (6, .int .i64 0), (12, .bool false), (14, .bool false)]) (by kernel_rfl) ?_
  refine WQ.thenN ?_
  refine WE.condF (by kernel_rfl) ?_
  refine WE.skip ?_
  refine WQ.thenN ?_
  refine WE.seq ?_
  refine WE.seq ?_
  have hz1 : (World.heap w).size ≤ (World.heap w).size := Nat.le_refl _
  have ltz_g := HB.lt
  have ltz_F := HV.lt
  refine WE.draw [.free, .free, .free, .free, .free, .still, .free, .effR, .free, .free] (FrB (World.heap w).size) (frBR _) (by kernel_rfl) 10 (Array.replicate 10 false) (by kernel_rfl) rfl ?_
  intro w2 F3 _
  have HB := Blk.keep HB F3 (nin0 _)
  have HV := HV.keep F3 (fun _ _ => nin0 _)
  have hz1 := Nat.le_trans hz1 F3.size
  have HA := Fr.step0 HA F3
  refine WO.one (SA.F (frBR _) (frBT _) _ 0 _ (by kernel_rfl)) 15 (.string (str bt)) (by kernel_rfl) ?_
  refine WO.one (SA.F (frBR _) (frBT _) _ 1 _ (by kernel_rfl)) 16 (.int .i64 (bt.length : Int)) (by kernel_rfl) ?_
  refine WO.one (SA.F (frBR _) (frBT _) _ 2 _ (by kernel_rfl)) 17 (.pointer (some ⟨g, 0, none⟩)) (by kernel_rfl) ?_
  refine WO.one (SA.F (frBR _) (frBT _) _ 3 _ (by kernel_rfl)) 18 (.pointer (some ⟨g, 0, none⟩)) (by kernel_rfl) ?_
  refine WO.one (SA.F (frBR _) (frBT _) _ 4 _ (by kernel_rfl)) 19 (.pointer (some ⟨g, 0, none⟩)) (by kernel_rfl) ?_
  refine WO.ld (SA.S (frBR _) (frBT _) _ 5 _ (by kernel_rfl)) 20 (.int .i64 room) (by kernel_rfl) (fun _ k => (HB.keepB k ltz_g).at 0 (by kernel_rfl)) ?_
  refine WO.one (SA.F (frBR _) (frBT _) _ 6 _ (by kernel_rfl)) 21 (.pointer (some ⟨g, 0, none⟩)) (by kernel_rfl) ?_
  refine WO.call (SA.ER _ 7 _ (by kernel_rfl) rfl) 22 (by kernel_rfl) (mused_any g room A nl cap l F _ _ HB HV hn hgF hnl hu) ?_
  rintro _ w4 ⟨rfl, F5⟩
  refine ⟨_, rfl, (frB_of hz1 (by simp)) _ F5, ?_⟩
  have HB := Blk.keep HB F5 (nin0 _)
  have HV := HV.keep F5 (fun _ _ => nin0 _)
  have hz1 := Nat.le_trans hz1 F5.size
  have HA := Fr.step0 HA F5
  refine WO.one (SA.F (frBR _) (frBT _) _ 8 _ (by kernel_rfl)) 23 (.int .i64 (IntKind.i64.wrap (room - ((usedL l : Nat) : Int)))) (by kernel_rfl) ?_
  refine WO.top (v' := .int .i64 (room - ((usedL l : Nat) : Int))) (wrap_i64 (by omega) (by omega)) ?_
  refine WO.one (SA.F (frBR _) (frBT _) _ 9 _ (by kernel_rfl)) 24 (.bool (decide (((bt.length : Int) : Int) > (room - ((usedL l : Nat) : Int))))) (by kernel_rfl) ?_
  refine WO.topPT (((bt.length : Int) : Int) > (room - ((usedL l : Nat) : Int))) (by omega) ?_
  refine WO.doneA (by kernel_rfl) ?_
  refine WQ.keep [0, 1, 2, 6, 12, 14, 24] (e' := [(0, .pointer (some ⟨g, 0, none⟩)), (1, .int .i64 n), (2, .string (str bt)), (6, .int .i64 0), (12, .bool false), (14, .bool false), (24, .bool true)]) (by kernel_rfl) ?_
  refine WQ.thenN ?_
  refine WE.condT (by kernel_rfl) ?_
  refine WE.seq ?_
  refine WE.region ?_
  refine WO.run 1 0 [(6, .int .i64 6)] (by kernel_rfl) (by kernel_rfl) ?_
  refine WO.done (by kernel_rfl) ?_
  refine WQ.keep [0, 1, 2, 6, 12, 14, 24] (e' := [(0, .pointer (some ⟨g, 0, none⟩)), (1, .int .i64 n), (2, .string (str bt)), (6, .int .i64 6), (12, .bool false), (14, .bool false), (24, .bool true)]) (by kernel_rfl) ?_
  refine WQ.thenN ?_
  refine WE.ret ?_
  refine WQ.thenR ?_
  refine WQ.ret (v := .int .i64 6) (by kernel_rfl) ?_
  exact ⟨rfl, HA⟩

set_option maxRecDepth 100000 in
set_option maxHeartbeats 400000 in
theorem mappend_some (g b : Nat) (room : Int) (nl cap : Nat) (l : List Pt) (n : Int) (w : World) (bt : List UInt8) (HB : Blk w g #[.int .i64 room, .slice (some ⟨b, 0, none⟩) nl cap, .bool false] 40) (HR : RowB w b 54 3 cap (l.map cP)) (hn : l.length = nl) (hgb' : g ≠ b) (hgb : g ∉ [b]) (hnl : nl ≤ 1000000) (k : Nat) (hk : k < nl) (hkn : (gP l k).n = n) (hbef : ∀ j, j < k → (gP l j).n ≠ n) (hel : ∀ j, j < nl → (gP l j).s ≤ (gP l j).b.length ∧ (gP l j).b.length ≤ 1000000) (hu : usedL l ≤ 1000000) (hr : 1 ≤ room ∧ room ≤ 65536) (hbt : bt.length ≤ 1000000) (hpos : ¬ n < 0) (hful : ¬ room - (usedL l : Int) < (bt.length : Int)) :
    Calls Try.prog 14 #[.pointer (some ⟨g, 0, none⟩), .int .i64 n, .string (str bt)] w fun e w' => e = .returned (.int .i64 0) ∧ RowB w' b 54 3 cap ((l.set k ⟨(gP l k).n, (gP l k).b ++ bt, (gP l k).s⟩).map cP) ∧ Fr [b] w w' := by
  have hek := hel k hk
  have HA := Fr.refl [b] w
  refine enter (N := 92) Try.func14 (c := _) rfl (by kernel_rfl) (by kernel_rfl) (e := [(0, .pointer (some ⟨g, 0, none⟩)), (1, .int .i64 n), (2, .string (str bt))]) (by kernel_rfl) ?_
  refine WE.seq ?_
  refine WE.region ?_
  refine WO.run 1 0 [(6, .int .i64 0)] (by kernel_rfl) (by kernel_rfl) ?_
  refine WO.done (by kernel_rfl) ?_
  refine WQ.keep [0, 1, 2, 6] (e' := [(0, .pointer (some ⟨g, 0, none⟩)), (1, .int .i64 n), (2, .string (str bt)), (6, .int .i64 0)]) (by kernel_rfl) ?_
  refine WQ.thenN ?_
  refine WE.seq ?_
  refine WE.seq ?_
  refine WE.region ?_
  refine WO.run 3 0 [(11, .pointer (some ⟨g, 2, none⟩)), (10, .pointer (some ⟨g, 0, none⟩)), (9, .pointer (some ⟨g, 0, none⟩))] (by kernel_rfl) (by kernel_rfl) ?_
  refine WO.ld (SQ.S 3 (by kernel_rfl)) 12 (.bool false) (by kernel_rfl) (same (HB.at 2 (by kernel_rfl))) ?_
  refine WO.done (by kernel_rfl) ?_
  refine WQ.keep [0, 1, 2, 6, 12] (e' := [(0, .pointer (some ⟨g, 0, none⟩)), (1, .int .i64 n), (2, .string (str bt)), (6, .int .i64 0), (12, .bool false)]) (by kernel_rfl) ?_
  refine WQ.thenN ?_
  refine WE.condF (by kernel_rfl) ?_
  refine WE.skip ?_
  refine WQ.thenN ?_
  refine WE.seq ?_
  refine WE.seq ?_
  refine WE.region ?_
  refine WO.run 1 0 [(13, .int .i64 n)] (by kernel_rfl) (by kernel_rfl) ?_
  refine WO.one (SQ.F 1 (by kernel_rfl)) 14 (.bool (decide ((n : Int) < 0))) (by kernel_rfl) ?_
  refine WO.topPF ((n : Int) < 0) (by omega) ?_
  refine WO.done (by kernel_rfl) ?_
  refine WQ.keep [0, 1, 2, 6, 12, 14] (e' := [(0, .pointer (some ⟨g, 0, none⟩)), (1, .int .i64 n), (2, .string (str bt)), (6, .int .i64 0), (12, .bool false), (14, .bool false)]) (by kernel_rfl) ?_
  refine WQ.thenN ?_
  refine WE.condF (by kernel_rfl) ?_
  refine WE.skip ?_
  refine WQ.thenN ?_
  refine WE.seq ?_
  refine WE.seq ?_
  have hz1 : (World.heap w).size ≤ (World.heap w).size := Nat.le_refl _
  have ltz_g := HB.lt
  have ltz_b := HR.lt
  refine WE.draw [.free, .free, .free, .free, .free, .still, .free, .effR, .free, .free] (FrB (World.heap w).size) (frBR _) (by kernel_rfl) 10 (Array.replicate 10 false) (by kernel_rfl) rfl ?_
  intro w2 F3 _
  have HB := Blk.keep HB F3 (nin0 _)
  have HR := RowB.keep HR F3 (nin0 _)
  have hz1 := Nat.le_trans hz1 F3.size
  have HA := Fr.step0 HA F3
  refine WO.one (SA.F (frBR _) (frBT _) _ 0 _ (by kernel_rfl)) 15 (.string (str bt)) (by kernel_rfl) ?_
  refine WO.one (SA.F (frBR _) (frBT _) _ 1 _ (by kernel_rfl)) 16 (.int .i64 (bt.length : Int)) (by kernel_rfl) ?_
  refine WO.one (SA.F (frBR _) (frBT _) _ 2 _ (by kernel_rfl)) 17 (.pointer (some ⟨g, 0, none⟩)) (by kernel_rfl) ?_
  refine WO.one (SA.F (frBR _) (frBT _) _ 3 _ (by kernel_rfl)) 18 (.pointer (some ⟨g, 0, none⟩)) (by kernel_rfl) ?_
  refine WO.one (SA.F (frBR _) (frBT _) _ 4 _ (by kernel_rfl)) 19 (.pointer (some ⟨g, 0, none⟩)) (by kernel_rfl) ?_
  refine WO.ld (SA.S (frBR _) (frBT _) _ 5 _ (by kernel_rfl)) 20 (.int .i64 room) (by kernel_rfl) (fun _ k => (HB.keepB k ltz_g).at 0 (by kernel_rfl)) ?_
  refine WO.one (SA.F (frBR _) (frBT _) _ 6 _ (by kernel_rfl)) 21 (.pointer (some ⟨g, 0, none⟩)) (by kernel_rfl) ?_
  refine WO.call (SA.ER _ 7 _ (by kernel_rfl) rfl) 22 (by kernel_rfl) (mused_any g room (some ⟨b, 0, none⟩) nl cap l [b] _ _ HB (VX.of_row HR) hn hgb hnl hu) ?_
  rintro _ w4 ⟨rfl, F5⟩
  refine ⟨_, rfl, (frB_of hz1 (by simp)) _ F5, ?_⟩
  have HB := Blk.keep HB F5 (nin0 _)
  have HR := RowB.keep HR F5 (nin0 _)
  have hz1 := Nat.le_trans hz1 F5.size
  have HA := Fr.step0 HA F5
  refine WO.one (SA.F (frBR _) (frBT _) _ 8 _ (by kernel_rfl)) 23 (.int .i64 (IntKind.i64.wrap (room - ((usedL l : Nat) : Int)))) (by kernel_rfl) ?_
  refine WO.top (v' := .int .i64 (room - ((usedL l : Nat) : Int))) (wrap_i64 (by omega) (by omega)) ?_
  refine WO.one (SA.F (frBR _) (frBT _) _ 9 _ (by kernel_rfl)) 24 (.bool (decide (((bt.length : Int) : Int) > (room - ((usedL l : Nat) : Int))))) (by kernel_rfl) ?_
  refine WO.topPF (((bt.length : Int) : Int) > (room - ((usedL l : Nat) : Int))) (by omega) ?_
  refine WO.doneA (by kernel_rfl) ?_
  refine WQ.keep [0, 1, 2, 6, 12, 14, 24] (e' := [(0, .pointer (some ⟨g, 0, none⟩)), (1, .int .i64 n), (2, .string (str bt)), (6, .int .i64 0), (12, .bool false), (14, .bool false), (24, .bool false)]) (by kernel_rfl) ?_
  refine WQ.thenN ?_
  refine WE.condF (by kernel_rfl) ?_
  refine WE.skip ?_
  refine WQ.thenN ?_
  refine WE.seq ?_
  refine WE.region ?_
  refine WO.run 2 0 [(26, .int .i64 n), (25, .pointer (some ⟨g, 0, none⟩))] (by kernel_rfl) (by kernel_rfl) ?_
  refine WO.call (SQ.E 2 (by kernel_rfl)) 27 (by kernel_rfl) (mat_some g room (some ⟨b, 0, none⟩) nl cap l [b] n _ _ HB (VX.of_row HR) hn hgb hnl k hk hkn hbef) ?_
  rintro _ w6 ⟨rfl, F7⟩
  refine ⟨_, rfl, trivial, ?_⟩
  have HB := Blk.keep HB F7 (nin0 _)
  have HR := RowB.keep HR F7 (nin0 _)
  have HA := Fr.step0 HA F7
  refine WO.run 1 3 [(7, .int .i64 (k : Int))] (by kernel_rfl) (by kernel_rfl) ?_
  refine WO.done (by kernel_rfl) ?_
  refine WQ.keep [0, 1, 2, 6, 7, 12, 14, 24] (e' := [(0, .pointer (some ⟨g, 0, none⟩)), (1, .int .i64 n), (2, .string (str bt)), (6, .int .i64 0), (7, .int .i64 (k : Int)), (12, .bool false), (14, .bool false), (24, .bool false)]) (by kernel_rfl) ?_
  refine WQ.thenN ?_
  refine WE.seq ?_
  refine WE.seq ?_
  refine WE.region ?_
  refine WO.run 1 0 [(28, .int .i64 (k : Int))] (by kernel_rfl) (by kernel_rfl) ?_
  refine WO.one (SQ.F 1 (by kernel_rfl)) 29 (.bool (decide (((k : Int) : Int) < (0 : Int)))) (by kernel_rfl) ?_
  refine WO.topPF (((k : Int) : Int) < (0 : Int)) (by omega) ?_
  refine WO.done (by kernel_rfl) ?_
  refine WQ.keep [0, 1, 2, 6, 7, 12, 14, 24, 29] (e' := [(0, .pointer (some ⟨g, 0, none⟩)), (1, .int .i64 n), (2, .string (str bt)), (6, .int .i64 0), (7, .int .i64 (k : Int)), (12, .bool false), (14, .bool false), (24, .bool false), (29, .bool false)]) (by kernel_rfl) ?_
  refine WQ.thenN ?_
  refine WE.condF (by kernel_rfl) ?_
  refine WE.skip ?_
  refine WQ.thenN ?_
  refine WE.seq ?_
  refine WE.draw [.free, .free, .free, .still, .free, .free, .free, .free, .still, .free, .free, .free, .still, .free, .free, .free, .free, .eff] Same sameR (by kernel_rfl) 18 (Array.replicate 18 false) (by kernel_rfl) rfl ?_
  intro w8 F9 _
  have HB := Blk.keep HB F9 (nin0 _)
  have HR := RowB.keep HR F9 (nin0 _)
  have HA := Fr.step0 HA F9
  refine WO.one (SA.F sameR sameT _ 0 _ (by kernel_rfl)) 75 (.pointer (some ⟨g, 0, none⟩)) (by kernel_rfl) ?_
  refine WO.one (SA.F sameR sameT _ 1 _ (by kernel_rfl)) 76 (.pointer (some ⟨g, 0, none⟩)) (by kernel_rfl) ?_
  refine WO.one (SA.F sameR sameT _ 2 _ (by kernel_rfl)) 77 (.pointer (some ⟨g, 1, none⟩)) (by kernel_rfl) ?_
  refine WO.ld (SA.S sameR sameT _ 3 _ (by kernel_rfl)) 78 (.slice (some ⟨b, 0, none⟩) nl cap) (by kernel_rfl) (same (HB.at 1 (by kernel_rfl))) ?_
  refine WO.one (SA.F sameR sameT _ 4 _ (by kernel_rfl)) 79 (.int .i64 (k : Int)) (by kernel_rfl) ?_
  refine WO.one (SA.F sameR sameT _ 5 _ (by kernel_rfl)) 80 (.pointer (some ⟨g, 0, none⟩)) (by kernel_rfl) ?_
  refine WO.one (SA.F sameR sameT _ 6 _ (by kernel_rfl)) 81 (.pointer (some ⟨g, 0, none⟩)) (by kernel_rfl) ?_
  refine WO.one (SA.F sameR sameT _ 7 _ (by kernel_rfl)) 82 (.pointer (some ⟨g, 1, none⟩)) (by kernel_rfl) ?_
  refine WO.ld (SA.S sameR sameT _ 8 _ (by kernel_rfl)) 83 (.slice (some ⟨b, 0, none⟩) nl cap) (by kernel_rfl) (same (HB.at 1 (by kernel_rfl))) ?_
  refine WO.one (SA.F sameR sameT _ 9 _ (by kernel_rfl)) 84 (.int .i64 (k : Int)) (by kernel_rfl) ?_
  refine WO.ixB (SA.F sameR sameT _ 10 _ (by kernel_rfl)) 85 (k * 3) b 0 nl 3 (k : Int) (by kernel_rfl) (by omega) (by omega) (by omega) ?_
  refine WO.one (SA.F sameR sameT _ 11 _ (by kernel_rfl)) 86 (.pointer (some ⟨b, k * 3 + 1, none⟩)) (by kernel_rfl) ?_
  refine WO.ld (SA.S sameR sameT _ 12 _ (by kernel_rfl)) 87 (.string (str (gP l k).b)) (by kernel_rfl) (same (HR.at k 1 (k * 3 + 1) _ (by rw [List.length_map]; have := hn; omega) (by omega) (by rw [(map_gP l k (by have := hn; omega))]; rfl) (by omega))) ?_
  refine WO.one (SA.F sameR sameT _ 13 _ (by kernel_rfl)) 88 (.string (str bt)) (by kernel_rfl) ?_
  refine WO.cat (SA.F sameR sameT _ 14 _ (by kernel_rfl)) 89 (str (gP l k).b) (str bt) (by kernel_rfl) (by simp only [str_size, List.length_append] at *; omega) ?_
  refine WO.top (v' := .string (str ((gP l k).b ++ bt))) (congrArg Value.string (str_app _ _)) ?_
  refine WO.ixB (SA.F sameR sameT _ 15 _ (by kernel_rfl)) 90 (k * 3) b 0 nl 3 (k : Int) (by kernel_rfl) (by omega) (by omega) (by omega) ?_
  refine WO.one (SA.F sameR sameT _ 16 _ (by kernel_rfl)) 91 (.pointer (some ⟨b, k * 3 + 1, none⟩)) (by kernel_rfl) ?_
  refine WO.stC (SA.E _ 17 _ (by kernel_rfl) rfl) b k 1 (k * 3 + 1) (.string (str ((gP l k).b ++ bt))) [.int .i64 ((gP l k).n), .string (str ((gP l k).b ++ bt)), .int .i64 ((gP l k).s : Int)] HR (by rw [List.length_map]; have := hn; omega) (by omega) (by omega) rfl (by rw [(map_gP l k (by have := hn; omega))]; rfl) (by kernel_rfl) (fun _ _ => trivial) ?_
  intro w10 HR12 F11 _
  have HB := Blk.keep HB F11 (ninC hgb' (nin0 _))
  have HA := Fr.step HA F11 (inSL (by simp) inS0)
  have HR12 : RowB w10 b 54 3 cap ((l.set k (⟨(gP l k).n, ((gP l k).b ++ bt), (gP l k).s⟩ : Pt)).map cP) := by rw [List.map_set]; exact HR12
  refine WO.doneA (by kernel_rfl) ?_
  refine WQ.keep [0, 1, 2, 6, 7, 12, 14, 24, 29] (e' := [(0, .pointer (some ⟨g, 0, none⟩)), (1, .int .i64 n), (2, .string (str bt)), (6, .int .i64 0), (7, .int .i64 (k : Int)), (12, .bool false), (14, .bool false), (24, .bool false), (29, .bool false)]) (by kernel_rfl) ?_
  refine WQ.thenN ?_
  refine WE.seq ?_
  refine WE.region ?_
  refine WO.run 1 0 [(6, .int .i64 0)] (by kernel_rfl) (by kernel_rfl) ?_
  refine WO.done (by kernel_rfl) ?_
  refine WQ.keep [0, 1, 2, 6, 7, 12, 14, 24, 29] (e' := [(0, .pointer (some ⟨g, 0, none⟩)), (1, .int .i64 n), (2, .string (str bt)), (6, .int .i64 0), (7, .int .i64 (k : Int)), (12, .bool false), (14, .bool false), (24, .bool false), (29, .bool false)]) (by kernel_rfl) ?_
  refine WQ.thenN ?_
  refine WE.ret ?_
  refine WQ.ret (v := .int .i64 0) (by kernel_rfl) ?_
  exact ⟨rfl, HR12, HA⟩

set_option maxRecDepth 100000 in
set_option maxHeartbeats 400000 in
theorem mappend_none (g : Nat) (room : Int) (A : Option Addr) (nl cap : Nat) (l : List Pt) (F : List Nat) (n : Int) (w : World) (bt : List UInt8) (HB : Blk w g #[.int .i64 room, .slice A nl cap, .bool false] 40) (HV : VX cP 3 w F A l) (hn : l.length = nl) (hgF : g ∉ F) (hnl : nl ≤ 1000000) (hno : ∀ j, j < nl → (gP l j).n ≠ n) (hcap : nl ≤ cap) (hu : usedL l ≤ 1000000) (hr : 1 ≤ room ∧ room ≤ 65536) (hbt : bt.length ≤ 1000000) (hpos : ¬ n < 0) (hful : ¬ room - (usedL l : Int) < (bt.length : Int)) :
    Calls Try.prog 14 #[.pointer (some ⟨g, 0, none⟩), .int .i64 n, .string (str bt)] w fun e w' => e = .returned (.int .i64 0) ∧ ∃ v G i, Blk w' g #[.int .i64 room, v, .bool false] 40 ∧ OwnX 54 3 w' G v ((l.take i ++ ⟨n, bt, 0⟩ :: l.drop i).map cP) ∧ Fr [g] w w' ∧ (∀ y ∈ G, w.heap.size ≤ y) ∧ i ≤ nl ∧ (∀ j, j < i → (gP l j).n < n) ∧ (i = nl ∨ (i < nl ∧ n < (gP l i).n)) := by
  have HA := Fr.refl [g] w
  refine enter (N := 92) Try.func14 (c := _) rfl (by kernel_rfl) (by kernel_rfl) (e := [(0, .pointer (some ⟨g, 0, none⟩)), (1, .int .i64 n), (2, .string (str bt))]) (by kernel_rfl) ?_
  refine WE.seq ?_
  refine WE.region ?_
  refine WO.run 1 0 [(6, .int .i64 0)] (by kernel_rfl) (by kernel_rfl) ?_
  refine WO.done (by kernel_rfl) ?_
  refine WQ.keep [0, 1, 2, 6] (e' := [(0, .pointer (some ⟨g, 0, none⟩)), (1, .int .i64 n), (2, .string (str bt)), (6, .int .i64 0)]) (by kernel_rfl) ?_
  refine WQ.thenN ?_
  refine WE.seq ?_
  refine WE.seq ?_
  refine WE.region ?_
  refine WO.run 3 0 [(11, .pointer (some ⟨g, 2, none⟩)), (10, .pointer (some ⟨g, 0, none⟩)), (9, .pointer (some ⟨g, 0, none⟩))] (by kernel_rfl) (by kernel_rfl) ?_
  refine WO.ld (SQ.S 3 (by kernel_rfl)) 12 (.bool false) (by kernel_rfl) (same (HB.at 2 (by kernel_rfl))) ?_
  refine WO.done (by kernel_rfl) ?_
  refine WQ.keep [0, 1, 2, 6, 12] (e' := [(0, .pointer (some ⟨g, 0, none⟩)), (1, .int .i64 n), (2, .string (str bt)), (6, .int .i64 0), (12, .bool false)]) (by kernel_rfl) ?_
  refine WQ.thenN ?_
  refine WE.condF (by kernel_rfl) ?_
  refine WE.skip ?_
  refine WQ.thenN ?_
  refine WE.seq ?_
  refine WE.seq ?_
  refine WE.region ?_
  refine WO.run 1 0 [(13, .int .i64 n)] (by kernel_rfl) (by kernel_rfl) ?_
  refine WO.one (SQ.F 1 (by kernel_rfl)) 14 (.bool (decide ((n : Int) < 0))) (by kernel_rfl) ?_
  refine WO.topPF ((n : Int) < 0) (by omega) ?_
  refine WO.done (by kernel_rfl) ?_
  refine WQ.keep [0, 1, 2, 6, 12, 14] (e' := [(0, .pointer (some ⟨g, 0, none⟩)), (1, .int .i64 n), (2, .string (str bt)), (6, .int .i64 0), (12, .bool false), (14, .bool false)]) (by kernel_rfl) ?_
  refine WQ.thenN ?_
  refine WE.condF (by kernel_rfl) ?_
  refine WE.skip ?_
  refine WQ.thenN ?_
  refine WE.seq ?_
  refine WE.seq ?_
  have hz1 : (World.heap w).size ≤ (World.heap w).size := Nat.le_refl _
  have ltz_g := HB.lt
  have ltz_F := HV.lt
  refine WE.draw [.free, .free, .free, .free, .free, .still, .free, .effR, .free, .free] (FrB (World.heap w).size) (frBR _) (by kernel_rfl) 10 (Array.replicate 10 false) (by kernel_rfl) rfl ?_
  intro w2 F3 _
  have HB := Blk.keep HB F3 (nin0 _)
  have HV := HV.keep F3 (fun _ _ => nin0 _)
  have hz1 := Nat.le_trans hz1 F3.size
  have HA := Fr.step0 HA F3
  refine WO.one (SA.F (frBR _) (frBT _) _ 0 _ (by kernel_rfl)) 15 (.string (str bt)) (by kernel_rfl) ?_
  refine WO.one (SA.F (frBR _) (frBT _) _ 1 _ (by kernel_rfl)) 16 (.int .i64 (bt.length : Int)) (by kernel_rfl) ?_
  refine WO.one (SA.F (frBR _) (frBT _) _ 2 _ (by kernel_rfl)) 17 (.pointer (some ⟨g, 0, none⟩)) (by kernel_rfl) ?_
  refine WO.one (SA.F (frBR _) (frBT _) _ 3 _ (by kernel_rfl)) 18 (.pointer (some ⟨g, 0, none⟩)) (by kernel_rfl) ?_
  refine WO.one (SA.F (frBR _) (frBT _) _ 4 _ (by kernel_rfl)) 19 (.pointer (some ⟨g, 0, none⟩)) (by kernel_rfl) ?_
  refine WO.ld (SA.S (frBR _) (frBT _) _ 5 _ (by kernel_rfl)) 20 (.int .i64 room) (by kernel_rfl) (fun _ k => (HB.keepB k ltz_g).at 0 (by kernel_rfl)) ?_
  refine WO.one (SA.F (frBR _) (frBT _) _ 6 _ (by kernel_rfl)) 21 (.pointer (some ⟨g, 0, none⟩)) (by kernel_rfl) ?_
  refine WO.call (SA.ER _ 7 _ (by kernel_rfl) rfl) 22 (by kernel_rfl) (mused_any g room A nl cap l F _ _ HB HV hn hgF hnl hu) ?_
  rintro _ w4 ⟨rfl, F5⟩
  refine ⟨_, rfl, (frB_of hz1 (by simp)) _ F5, ?_⟩
  have HB := Blk.keep HB F5 (nin0 _)
  have HV := HV.keep F5 (fun _ _ => nin0 _)
  have hz1 := Nat.le_trans hz1 F5.size
  have HA := Fr.step0 HA F5
  refine WO.one (SA.F (frBR _) (frBT _) _ 8 _ (by kernel_rfl)) 23 (.int .i64 (IntKind.i64.wrap (room - ((usedL l : Nat) : Int)))) (by kernel_rfl) ?_
  refine WO.top (v' := .int .i64 (room - ((usedL l : Nat) : Int))) (wrap_i64 (by omega) (by omega)) ?_
  refine WO.one (SA.F (frBR _) (frBT _) _ 9 _ (by kernel_rfl)) 24 (.bool (decide (((bt.length : Int) : Int) > (room - ((usedL l : Nat) : Int))))) (by kernel_rfl) ?_
  refine WO.topPF (((bt.length : Int) : Int) > (room - ((usedL l : Nat) : Int))) (by omega) ?_
  refine WO.doneA (by kernel_rfl) ?_
  refine WQ.keep [0, 1, 2, 6, 12, 14, 24] (e' := [(0, .pointer (some ⟨g, 0, none⟩)), (1, .int .i64 n), (2, .string (str bt)), (6, .int .i64 0), (12, .bool false), (14, .bool false), (24, .bool false)]) (by kernel_rfl) ?_
  refine WQ.thenN ?_
  refine WE.condF (by kernel_rfl) ?_
  refine WE.skip ?_
  refine WQ.thenN ?_
  refine WE.seq ?_
  refine WE.region ?_
  refine WO.run 2 0 [(26, .int .i64 n), (25, .pointer (some ⟨g, 0, none⟩))] (by kernel_rfl) (by kernel_rfl) ?_
  refine WO.call (SQ.E 2 (by kernel_rfl)) 27 (by kernel_rfl) (mat_none g room A nl cap l F n _ _ HB HV hn hgF hnl hno) ?_
  rintro _ w6 ⟨rfl, F7⟩
  refine ⟨_, rfl, trivial, ?_⟩
  have HB := Blk.keep HB F7 (nin0 _)
  have HV := HV.keep F7 (fun _ _ => nin0 _)
  have HA := Fr.step0 HA F7
  refine WO.run 1 3 [(7, .int .i64 (-1))] (by kernel_rfl) (by kernel_rfl) ?_
  refine WO.done (by kernel_rfl) ?_
  refine WQ.keep [0, 1, 2, 6, 7, 12, 14, 24] (e' := [(0, .pointer (some ⟨g, 0, none⟩)), (1, .int .i64 n), (2, .string (str bt)), (6, .int .i64 0), (7, .int .i64 (-1)), (12, .bool false), (14, .bool false), (24, .bool false)]) (by kernel_rfl) ?_
  refine WQ.thenN ?_
  refine WE.seq ?_
  refine WE.seq ?_
  refine WE.region ?_
  refine WO.run 2 0 [(29, .bool true), (28, .int .i64 (-1))] (by kernel_rfl) (by kernel_rfl) ?_
  refine WO.done (by kernel_rfl) ?_
  refine WQ.keep [0, 1, 2, 6, 7, 12, 14, 24, 29] (e' := [(0, .pointer (some ⟨g, 0, none⟩)), (1, .int .i64 n), (2, .string (str bt)), (6, .int .i64 0), (7, .int .i64 (-1)), (12, .bool false), (14, .bool false), (24, .bool false), (29, .bool true)]) (by kernel_rfl) ?_
  refine WQ.thenN ?_
  refine WE.condT (by kernel_rfl) ?_
  refine WE.seq ?_
  refine WE.region ?_
  refine WO.run 1 0 [(7, .int .i64 0)] (by kernel_rfl) (by kernel_rfl) ?_
  refine WO.done (by kernel_rfl) ?_
  refine WQ.keep [0, 1, 2, 6, 7, 12, 14, 24, 29] (e' := [(0, .pointer (some ⟨g, 0, none⟩)), (1, .int .i64 n), (2, .string (str bt)), (6, .int .i64 0), (7, .int .i64 0), (12, .bool false), (14, .bool false), (24, .bool false), (29, .bool true)]) (by kernel_rfl) ?_
  refine WQ.thenN ?_
  refine WE.seq ?_
  refine WE.block ?_
  refine WE.loop (α := Nat) (E := fun i => [(0, .pointer (some ⟨g, 0, none⟩)), (1, .int .i64 n), (2, .string (str bt)), (6, .int .i64 0), (7, .int .i64 (i : Int)), (12, .bool false), (14, .bool false), (24, .bool false), (29, .bool true)]) (I := fun i wr => i ≤ nl ∧ (∀ j, j < i → (gP l j).n < n) ∧ w6 = wr) (m := fun i => nl - i) 0 [0, 1, 2, 6, 7, 12, 14, 24, 29] (by kernel_rfl) ?_ ?_
  · exact ⟨Nat.zero_le _, fun j hj => absurd hj (Nat.not_lt_zero j), rfl⟩
  rintro i wr ⟨hi, hbl, hw⟩
  subst hw
  refine WE.seq ?_
  refine WE.seq ?_
  refine WE.region ?_
  refine WO.run 4 0 [(33, .pointer (some ⟨g, 1, none⟩)), (32, .pointer (some ⟨g, 0, none⟩)), (31, .pointer (some ⟨g, 0, none⟩)), (30, .int .i64 (i : Int))] (by kernel_rfl) (by kernel_rfl) ?_
  refine WO.ld (SQ.S 4 (by kernel_rfl)) 34 (.slice A nl cap) (by kernel_rfl) (same (HB.at 1 (by kernel_rfl))) ?_
  refine WO.run 1 5 [(35, .int .i64 (nl : Int))] (by kernel_rfl) (by kernel_rfl) ?_
  refine WO.one (SQ.F 6 (by kernel_rfl)) 36 (.bool (decide (((i : Int) : Int) < (nl : Int)))) (by kernel_rfl) ?_
  refine WO.topP (((i : Int) : Int) < (nl : Int)) ?_ ?_
  · intro h8
    refine WO.run 4 7 [(40, .pointer (some ⟨g, 1, none⟩)), (39, .pointer (some ⟨g, 0, none⟩)), (38, .pointer (some ⟨g, 0, none⟩)), (37, .bool true)] (by kernel_rfl) (by kernel_rfl) ?_
    refine WO.ld (SQ.S 11 (by kernel_rfl)) 41 (.slice A nl cap) (by kernel_rfl) (same (HB.at 1 (by kernel_rfl))) ?_
    refine WO.run 1 12 [(42, .int .i64 (i : Int))] (by kernel_rfl) (by kernel_rfl) ?_
    obtain ⟨ad9, hA10⟩ := HV.addr (i := i) (by have := hn; omega)
    refine WO.ixo (SQ.F 13 (by kernel_rfl)) 43 nl 3 i (i : Int) hA10 (by kernel_rfl) rfl (by omega) ?_
    refine WO.run 1 14 [(44, .pointer (some (ad9.add (i * 3))))] (by kernel_rfl) (by kernel_rfl) ?_
    refine WO.ld (SQ.S 15 (by kernel_rfl)) 45 (.int .i64 ((gP l i).n)) (by kernel_rfl) (same (HV.at0 hA10 (gP_some l i (by have := hn; omega)) (by kernel_rfl))) ?_
    refine WO.run 1 16 [(46, .int .i64 n)] (by kernel_rfl) (by kernel_rfl) ?_
    refine WO.one (SQ.F 17 (by kernel_rfl)) 47 (.bool (decide (((gP l i).n : Int) < n))) (by kernel_rfl) ?_
    refine WO.topP (((gP l i).n : Int) < n) ?_ ?_
    · intro h11
      refine WO.run 1 18 [(48, .bool true)] (by kernel_rfl) (by kernel_rfl) ?_
      refine WO.done (by kernel_rfl) ?_
      refine WQ.keep [0, 1, 2, 6, 7, 12, 14, 24, 29, 48] (e' := [(0, .pointer (some ⟨g, 0, none⟩)), (1, .int .i64 n), (2, .string (str bt)), (6, .int .i64 0), (7, .int .i64 (i : Int)), (12, .bool false), (14, .bool false), (24, .bool false), (29, .bool true), (48, .bool true)]) (by kernel_rfl) ?_
      refine WQ.thenN ?_
      refine WE.condT (by kernel_rfl) ?_
      refine WE.skip ?_
      refine WQ.thenN ?_
      refine WE.block ?_
      refine WE.region ?_
      refine WO.run 1 0 [(49, .int .i64 (i : Int))] (by kernel_rfl) (by kernel_rfl) ?_
      refine WO.one (SQ.F 1 (by kernel_rfl)) 50 (.int .i64 (IntKind.i64.wrap ((i : Int) + 1))) (by kernel_rfl) ?_
      refine WO.top (v' := .int .i64 ((i + 1 : Nat) : Int)) (wrap_i64 (by omega) (by omega)) ?_
      refine WO.run 1 2 [(7, .int .i64 ((i + 1 : Nat) : Int))] (by kernel_rfl) (by kernel_rfl) ?_
      refine WO.done (by kernel_rfl) ?_
      refine WQ.keep [0, 1, 2, 6, 7, 12, 14, 24, 29, 48] (e' := [(0, .pointer (some ⟨g, 0, none⟩)), (1, .int .i64 n), (2, .string (str bt)), (6, .int .i64 0), (7, .int .i64 ((i + 1 : Nat) : Int)), (12, .bool false), (14, .bool false), (24, .bool false), (29, .bool true), (48, .bool true)]) (by kernel_rfl) ?_
      refine WQ.blkN ?_
      refine WQ.round ?_
      intro a_ ha_
      refine ⟨i + 1, ?_, ha_.keep [0, 1, 2, 6, 7, 12, 14, 24, 29] (by kernel_rfl), ?_⟩
      · omega
      · exact ⟨by omega, fun j hj => (Nat.lt_succ_iff_lt_or_eq.1 hj).elim (hbl j) (fun h_ => by rw [h_]; assumption), rfl⟩
    intro h11
    refine WO.run 1 18 [(48, .bool false)] (by kernel_rfl) (by kernel_rfl) ?_
    refine WO.done (by kernel_rfl) ?_
    refine WQ.keep [0, 1, 2, 6, 7, 12, 14, 24, 29, 48] (e' := [(0, .pointer (some ⟨g, 0, none⟩)), (1, .int .i64 n), (2, .string (str bt)), (6, .int .i64 0), (7, .int .i64 (i : Int)), (12, .bool false), (14, .bool false), (24, .bool false), (29, .bool true), (48, .bool false)]) (by kernel_rfl) ?_
    refine WQ.thenN ?_
    refine WE.condF (by kernel_rfl) ?_
    refine WE.exit ?_
    refine WQ.thenE ?_
    refine WQ.thenE ?_
    refine WQ.blkE ?_
    refine WQ.thenN ?_
    refine WE.seq ?_
    have hst : i = nl ∨ (i < nl ∧ n < (gP l i).n) := by have h_ := hno i; omega
    refine WE.region ?_
    refine WO.bx (SQ.E 0 (by kernel_rfl)) 51 #[] 54 (fun g => .slice (some ⟨g, 0, none⟩) 0 0) (by kernel_rfl) (fun _ _ => trivial) ?_
    intro g12 w13 HB15 F14 le16 _
    have ne_g_g12 : g ≠ g12 := Nat.ne_of_lt (Nat.lt_of_lt_of_le HB.lt le16)
    have nin_g12_F : g12 ∉ F := new_nin HV.lt le16
    have ge_HA_g12 := Nat.le_trans HA.size le16
    have HB := Blk.keep HB F14 (nin0 _)
    have HV := HV.keep F14 (fun _ _ => nin0 _)
    have HA := Fr.step0 HA F14
    refine WO.run 3 1 [(54, .pointer (some ⟨g, 1, none⟩)), (53, .pointer (some ⟨g, 0, none⟩)), (52, .pointer (some ⟨g, 0, none⟩))] (by kernel_rfl) (by kernel_rfl) ?_
    refine WO.ld (SQ.S 4 (by kernel_rfl)) 55 (.slice A nl cap) (by kernel_rfl) (same (HB.at 1 (by kernel_rfl))) ?_
    refine WO.run 1 5 [(56, .int .i64 (i : Int))] (by kernel_rfl) (by kernel_rfl) ?_
    refine WO.sl (SQ.F 6 (by kernel_rfl)) 57 0 i A nl cap 3 none (some (i : Int)) (by kernel_rfl) (by rfl) (by simp only [Option.getD_some] <;> omega) (by omega) (by omega) ?_
    refine WO.top (sl0 _ _ _ _) ?_
    have HR22 := RowB.of_blk (n := 0) HB15 (List.map cP []) rfl rfl (cP_len _) (cP_one _) (by omega)
    refine WO.appRow (SQ.E 7 (by kernel_rfl)) 58 (n := 0) (m := i) (ys := List.map cP (l.take i)) et_p HR22 ((List.length_map _).trans ((rfl : List.length ([] : List Pt) = 0))) (by rw [List.length_map] <;> first | rfl | omega | (simp <;> omega)) ((HV.take i).srcN (show (l.take i).length = i by rw [List.length_take]; have := hn; omega) (cP_len _) (cP_one _) cap) (cP_len _) (cP_one _) (by kernel_rfl) (by omega) (by omega) (fun _ _ => trivial) ?_
    intro b17 cap18 w19 HR20 F21 hb23
    have ne_g_b17 : g ≠ b17 := hb23.elim (fun h => h ▸ ne_g_g12) (fun h => Nat.ne_of_lt (Nat.lt_of_lt_of_le HB.lt h))
    have nin_b17_F : b17 ∉ F := hb23.elim (fun h => h ▸ nin_g12_F) (fun h => new_nin HV.lt h)
    have in_HA_b17 : b17 ∈ [g] ∨ (World.heap w).size ≤ b17 := hb23.elim (fun h => Or.inr (h ▸ ge_HA_g12)) (fun h => Or.inr (Nat.le_trans HA.size h))
    have HB := Blk.keep HB F21 (ninC ne_g_g12 (nin0 _))
    have HV := HV.keep F21 (djB nin_g12_F)
    have HA := Fr.step HA F21 (inSR ge_HA_g12 inS0)
    have HR20 : RowB w19 b17 54 3 cap18 ((([] : List Pt) ++ (l.take i)).map cP) := by rw [List.map_append]; exact HR20
    refine WO.run 1 8 [(8, .slice (some ⟨b17, 0, none⟩) (0 + i) cap18)] (by kernel_rfl) (by kernel_rfl) ?_
    refine WO.done (by kernel_rfl) ?_
    refine WQ.keep [0, 1, 2, 6, 7, 8, 12, 14, 24, 29, 48] (e' := [(0, .pointer (some ⟨g, 0, none⟩)), (1, .int .i64 n), (2, .string (str bt)), (6, .int .i64 0), (7, .int .i64 (i : Int)), (8, .slice (some ⟨b17, 0, none⟩) (0 + i) cap18), (12, .bool false), (14, .bool false), (24, .bool false), (29, .bool true), (48, .bool false)]) (by kernel_rfl) ?_
    refine WQ.thenN ?_
    refine WE.seq ?_
    refine WE.region ?_
    refine WO.run 3 0 [(61, .agg #[.int .i64 n, .string (⟨#[]⟩), .int .i64 0]), (60, .int .i64 n), (59, .slice (some ⟨b17, 0, none⟩) (0 + i) cap18)] (by kernel_rfl) (by kernel_rfl) ?_
    refine WO.bx (SQ.E 3 (by kernel_rfl)) 62 #[.int .i64 n, .string (⟨#[]⟩), .int .i64 0] 54 (fun g => .slice (some ⟨g, 0, none⟩) 1 1) (by kernel_rfl) (fun _ _ => trivial) ?_
    intro g24 w25 HB27 F26 le28 _
    have ne_g_g24 : g ≠ g24 := Nat.ne_of_lt (Nat.lt_of_lt_of_le HB.lt le28)
    have ne_b17_g24 : b17 ≠ g24 := Nat.ne_of_lt (Nat.lt_of_lt_of_le HR20.lt le28)
    have nin_g24_F : g24 ∉ F := new_nin HV.lt le28
    have ge_HA_g24 := Nat.le_trans HA.size le28
    have HB := Blk.keep HB F26 (nin0 _)
    have HR20 := RowB.keep HR20 F26 (nin0 _)
    have HV := HV.keep F26 (fun _ _ => nin0 _)
    have HA := Fr.step0 HA F26
    refine WO.appRow (SQ.E 4 (by kernel_rfl)) 63 (n := (0 + i)) (m := 1) (ys := List.map cP ([(⟨n, [], 0⟩ : Pt)])) et_p HR20 ((List.length_map _).trans ((show (([] : List Pt) ++ (l.take i)).length = 0 + i by rw [List.length_append, (rfl : List.length ([] : List Pt) = 0)]; first | rfl | (have := (rfl : List.length ([] : List Pt) = 0); simp; omega)))) (by rw [List.length_map] <;> first | rfl | omega | (simp <;> omega)) (RowB.src (RowB.of_blk (n := 1) HB27 (List.map cP [(⟨n, [], 0⟩ : Pt)]) rfl rfl (cP_len _) (cP_one _) (by omega))) (cP_len _) (cP_one _) (by kernel_rfl) (by omega) (by omega) (fun _ _ => trivial) ?_
    intro b29 cap30 w31 HR32 F33 hb34
    have ne_g_b29 : g ≠ b29 := hb34.elim (fun h => h ▸ ne_g_b17) (fun h => Nat.ne_of_lt (Nat.lt_of_lt_of_le HB.lt h))
    have ne_g24_b29 : g24 ≠ b29 := hb34.elim (fun h => h ▸ (Ne.symm ne_b17_g24)) (fun h => Nat.ne_of_lt (Nat.lt_of_lt_of_le HB27.lt h))
    have nin_b29_F : b29 ∉ F := hb34.elim (fun h => h ▸ nin_b17_F) (fun h => new_nin HV.lt h)
    have in_HA_b29 : b29 ∈ [g] ∨ (World.heap w).size ≤ b29 := hb34.elim (fun h => (h ▸ in_HA_b17)) (fun h => Or.inr (Nat.le_trans HA.size h))
    have HB := Blk.keep HB F33 (ninC ne_g_b17 (nin0 _))
    have HB27 := Blk.keep HB27 F33 (ninC (Ne.symm ne_b17_g24) (nin0 _))
    have HV := HV.keep F33 (djB nin_b17_F)
    have HA := Fr.step HA F33 (inSD in_HA_b17 inS0)
    have HR32 : RowB w31 b29 54 3 cap30 (((([] : List Pt) ++ (l.take i)) ++ [(⟨n, [], 0⟩ : Pt)]).map cP) := by rw [List.map_append]; exact HR32
    refine WO.run 1 5 [(8, .slice (some ⟨b29, 0, none⟩) (0 + i + 1) cap30)] (by kernel_rfl) (by kernel_rfl) ?_
    refine WO.done (by kernel_rfl) ?_
    refine WQ.keep [0, 1, 2, 6, 7, 8, 12, 14, 24, 29, 48] (e' := [(0, .pointer (some ⟨g, 0, none⟩)), (1, .int .i64 n), (2, .string (str bt)), (6, .int .i64 0), (7, .int .i64 (i : Int)), (8, .slice (some ⟨b29, 0, none⟩) (0 + i + 1) cap30), (12, .bool false), (14, .bool false), (24, .bool false), (29, .bool true), (48, .bool false)]) (by kernel_rfl) ?_
    refine WQ.thenN ?_
    refine WE.region ?_
    refine WO.run 5 0 [(68, .pointer (some ⟨g, 1, none⟩)), (67, .pointer (some ⟨g, 0, none⟩)), (66, .pointer (some ⟨g, 0, none⟩)), (65, .slice (some ⟨b29, 0, none⟩) (0 + i + 1) cap30), (64, .pointer (some ⟨g, 0, none⟩))] (by kernel_rfl) (by kernel_rfl) ?_
    refine WO.ld (SQ.S 5 (by kernel_rfl)) 69 (.slice A nl cap) (by kernel_rfl) (same (HB.at 1 (by kernel_rfl))) ?_
    refine WO.run 1 6 [(70, .int .i64 (i : Int))] (by kernel_rfl) (by kernel_rfl) ?_
    refine WO.sl (SQ.F 7 (by kernel_rfl)) 71 i nl A nl cap 3 (some (i : Int)) none (by kernel_rfl) (by simp only [Option.getD_some] <;> omega) (by rfl) (by omega) (by omega) ?_
    refine WO.appRow (SQ.E 8 (by kernel_rfl)) 72 (n := (0 + i + 1)) (m := (nl - i)) (ys := List.map cP ((l.drop i).take (nl - i))) et_p HR32 ((List.length_map _).trans ((show ((([] : List Pt) ++ (l.take i)) ++ [(⟨n, [], 0⟩ : Pt)]).length = 0 + i + 1 by rw [List.length_append, (show (([] : List Pt) ++ (l.take i)).length = 0 + i by rw [List.length_append, (rfl : List.length ([] : List Pt) = 0)]; first | rfl | (have := (rfl : List.length ([] : List Pt) = 0); simp; omega))]; first | rfl | (have := (show (([] : List Pt) ++ (l.take i)).length = 0 + i by rw [List.length_append, (rfl : List.length ([] : List Pt) = 0)]; first | rfl | (have := (rfl : List.length ([] : List Pt) = 0); simp; omega)); simp; omega)))) (by rw [List.length_map] <;> first | rfl | omega | (simp <;> omega)) (((HV.drop i cap (by have := hn; omega) (by have := hn; omega)).take (nl - i)).srcN (show ((l.drop i).take (nl - i)).length = nl - i by rw [List.length_take, List.length_drop]; have := hn; omega) (cP_len _) (cP_one _) (cap - i)) (cP_len _) (cP_one _) (by kernel_rfl) (by omega) (by omega) (fun _ _ => trivial) ?_
    intro b35 cap36 w37 HR38 F39 hb40
    have ne_g_b35 : g ≠ b35 := hb40.elim (fun h => h ▸ ne_g_b29) (fun h => Nat.ne_of_lt (Nat.lt_of_lt_of_le HB.lt h))
    have ne_g24_b35 : g24 ≠ b35 := hb40.elim (fun h => h ▸ ne_g24_b29) (fun h => Nat.ne_of_lt (Nat.lt_of_lt_of_le HB27.lt h))
    have nin_b35_F : b35 ∉ F := hb40.elim (fun h => h ▸ nin_b29_F) (fun h => new_nin HV.lt h)
    have in_HA_b35 : b35 ∈ [g] ∨ (World.heap w).size ≤ b35 := hb40.elim (fun h => (h ▸ in_HA_b29)) (fun h => Or.inr (Nat.le_trans HA.size h))
    have HB := Blk.keep HB F39 (ninC ne_g_b29 (nin0 _))
    have HB27 := Blk.keep HB27 F39 (ninC ne_g24_b29 (nin0 _))
    have HV := HV.keep F39 (djB nin_b29_F)
    have HA := Fr.step HA F39 (inSD in_HA_b29 inS0)
    have HR38 : RowB w37 b35 54 3 cap36 ((((([] : List Pt) ++ (l.take i)) ++ [(⟨n, [], 0⟩ : Pt)]) ++ ((l.drop i).take (nl - i))).map cP) := by rw [List.map_append]; exact HR38
    refine WO.run 2 9 [(74, .pointer (some ⟨g, 1, none⟩)), (73, .pointer (some ⟨g, 0, none⟩))] (by kernel_rfl) (by kernel_rfl) ?_
    refine WO.st (SQ.E 11 (by kernel_rfl)) g 1 [.slice (some ⟨b35, 0, none⟩) (0 + i + 1 + (nl - i)) cap36] #[.int .i64 room, .slice (some ⟨b35, 0, none⟩) (0 + i + 1 + (nl - i)) cap36, .bool false] (by kernel_rfl) HB (by kernel_rfl) (by kernel_rfl) (fun _ _ => trivial) ?_
    intro w41 HB43 F42 _
    have HB27 := Blk.keep HB27 F42 (ninC (Ne.symm ne_g_g24) (nin0 _))
    have HR38 := RowB.keep HR38 F42 (ninC (Ne.symm ne_g_b35) (nin0 _))
    have HV := HV.keep F42 (djB hgF)
    have HA := Fr.step HA F42 (inSL (by simp) inS0)
    refine WO.done (by kernel_rfl) ?_
    refine WQ.keep [0, 1, 2, 6, 7, 8, 12, 14, 24, 29, 48] (e' := [(0, .pointer (some ⟨g, 0, none⟩)), (1, .int .i64 n), (2, .string (str bt)), (6, .int .i64 0), (7, .int .i64 (i : Int)), (8, .slice (some ⟨b29, 0, none⟩) (0 + i + 1) cap30), (12, .bool false), (14, .bool false), (24, .bool false), (29, .bool true), (48, .bool false)]) (by kernel_rfl) ?_
    refine WQ.thenN ?_
    refine WE.seq ?_
    refine WE.draw [.free, .free, .free, .still, .free, .free, .free, .free, .still, .free, .free, .free, .still, .free, .free, .free, .free, .eff] Same sameR (by kernel_rfl) 18 (Array.replicate 18 false) (by kernel_rfl) rfl ?_
    intro w44 F45 _
    have HB27 := Blk.keep HB27 F45 (nin0 _)
    have HB43 := Blk.keep HB43 F45 (nin0 _)
    have HR38 := RowB.keep HR38 F45 (nin0 _)
    have HV := HV.keep F45 (fun _ _ => nin0 _)
    have HA := Fr.step0 HA F45
    refine WO.one (SA.F sameR sameT _ 0 _ (by kernel_rfl)) 75 (.pointer (some ⟨g, 0, none⟩)) (by kernel_rfl) ?_
    refine WO.one (SA.F sameR sameT _ 1 _ (by kernel_rfl)) 76 (.pointer (some ⟨g, 0, none⟩)) (by kernel_rfl) ?_
    refine WO.one (SA.F sameR sameT _ 2 _ (by kernel_rfl)) 77 (.pointer (some ⟨g, 1, none⟩)) (by kernel_rfl) ?_
    refine WO.ld (SA.S sameR sameT _ 3 _ (by kernel_rfl)) 78 (.slice (some ⟨b35, 0, none⟩) (0 + i + 1 + (nl - i)) cap36) (by kernel_rfl) (same (HB43.at 1 (by kernel_rfl))) ?_
    refine WO.one (SA.F sameR sameT _ 4 _ (by kernel_rfl)) 79 (.int .i64 (i : Int)) (by kernel_rfl) ?_
    refine WO.one (SA.F sameR sameT _ 5 _ (by kernel_rfl)) 80 (.pointer (some ⟨g, 0, none⟩)) (by kernel_rfl) ?_
    refine WO.one (SA.F sameR sameT _ 6 _ (by kernel_rfl)) 81 (.pointer (some ⟨g, 0, none⟩)) (by kernel_rfl) ?_
    refine WO.one (SA.F sameR sameT _ 7 _ (by kernel_rfl)) 82 (.pointer (some ⟨g, 1, none⟩)) (by kernel_rfl) ?_
    refine WO.ld (SA.S sameR sameT _ 8 _ (by kernel_rfl)) 83 (.slice (some ⟨b35, 0, none⟩) (0 + i + 1 + (nl - i)) cap36) (by kernel_rfl) (same (HB43.at 1 (by kernel_rfl))) ?_
    refine WO.one (SA.F sameR sameT _ 9 _ (by kernel_rfl)) 84 (.int .i64 (i : Int)) (by kernel_rfl) ?_
    refine WO.ixB (SA.F sameR sameT _ 10 _ (by kernel_rfl)) 85 (i * 3) b35 0 (0 + i + 1 + (nl - i)) 3 (i : Int) (by kernel_rfl) (by omega) (by omega) (by omega) ?_
    refine WO.one (SA.F sameR sameT _ 11 _ (by kernel_rfl)) 86 (.pointer (some ⟨b35, i * 3 + 1, none⟩)) (by kernel_rfl) ?_
    refine WO.ld (SA.S sameR sameT _ 12 _ (by kernel_rfl)) 87 (.string (str (gP (((([] : List Pt) ++ (l.take i)) ++ [(⟨n, [], 0⟩ : Pt)]) ++ ((l.drop i).take (nl - i))) i).b)) (by kernel_rfl) (same (HR38.at i 1 (i * 3 + 1) _ (by rw [List.length_map]; have := (show (((([] : List Pt) ++ (l.take i)) ++ [(⟨n, [], 0⟩ : Pt)]) ++ ((l.drop i).take (nl - i))).length = 0 + i + 1 + (nl - i) by rw [List.length_append, (show ((([] : List Pt) ++ (l.take i)) ++ [(⟨n, [], 0⟩ : Pt)]).length = 0 + i + 1 by rw [List.length_append, (show (([] : List Pt) ++ (l.take i)).length = 0 + i by rw [List.length_append, (rfl : List.length ([] : List Pt) = 0)]; first | rfl | (have := (rfl : List.length ([] : List Pt) = 0); simp; omega))]; first | rfl | (have := (show (([] : List Pt) ++ (l.take i)).length = 0 + i by rw [List.length_append, (rfl : List.length ([] : List Pt) = 0)]; first | rfl | (have := (rfl : List.length ([] : List Pt) = 0); simp; omega)); simp; omega))]; first | rfl | (have := (show ((([] : List Pt) ++ (l.take i)) ++ [(⟨n, [], 0⟩ : Pt)]).length = 0 + i + 1 by rw [List.length_append, (show (([] : List Pt) ++ (l.take i)).length = 0 + i by rw [List.length_append, (rfl : List.length ([] : List Pt) = 0)]; first | rfl | (have := (rfl : List.length ([] : List Pt) = 0); simp; omega))]; first | rfl | (have := (show (([] : List Pt) ++ (l.take i)).length = 0 + i by rw [List.length_append, (rfl : List.length ([] : List Pt) = 0)]; first | rfl | (have := (rfl : List.length ([] : List Pt) = 0); simp; omega)); simp; omega)); simp; omega)); omega) (by omega) (by rw [(map_gP (((([] : List Pt) ++ (l.take i)) ++ [(⟨n, [], 0⟩ : Pt)]) ++ ((l.drop i).take (nl - i))) i (by have := (show (((([] : List Pt) ++ (l.take i)) ++ [(⟨n, [], 0⟩ : Pt)]) ++ ((l.drop i).take (nl - i))).length = 0 + i + 1 + (nl - i) by rw [List.length_append, (show ((([] : List Pt) ++ (l.take i)) ++ [(⟨n, [], 0⟩ : Pt)]).length = 0 + i + 1 by rw [List.length_append, (show (([] : List Pt) ++ (l.take i)).length = 0 + i by rw [List.length_append, (rfl : List.length ([] : List Pt) = 0)]; first | rfl | (have := (rfl : List.length ([] : List Pt) = 0); simp; omega))]; first | rfl | (have := (show (([] : List Pt) ++ (l.take i)).length = 0 + i by rw [List.length_append, (rfl : List.length ([] : List Pt) = 0)]; first | rfl | (have := (rfl : List.length ([] : List Pt) = 0); simp; omega)); simp; omega))]; first | rfl | (have := (show ((([] : List Pt) ++ (l.take i)) ++ [(⟨n, [], 0⟩ : Pt)]).length = 0 + i + 1 by rw [List.length_append, (show (([] : List Pt) ++ (l.take i)).length = 0 + i by rw [List.length_append, (rfl : List.length ([] : List Pt) = 0)]; first | rfl | (have := (rfl : List.length ([] : List Pt) = 0); simp; omega))]; first | rfl | (have := (show (([] : List Pt) ++ (l.take i)).length = 0 + i by rw [List.length_append, (rfl : List.length ([] : List Pt) = 0)]; first | rfl | (have := (rfl : List.length ([] : List Pt) = 0); simp; omega)); simp; omega)); simp; omega)); omega))]; rfl) (by omega))) ?_
    refine WO.one (SA.F sameR sameT _ 13 _ (by kernel_rfl)) 88 (.string (str bt)) (by kernel_rfl) ?_
    refine WO.cat (SA.F sameR sameT _ 14 _ (by kernel_rfl)) 89 (str (gP (((([] : List Pt) ++ (l.take i)) ++ [(⟨n, [], 0⟩ : Pt)]) ++ ((l.drop i).take (nl - i))) i).b) (str bt) (by kernel_rfl) (by rw [gP_ins l _ i n (by omega)]; simp only [str_size, List.length_append, List.length_nil] at *; omega) ?_
    refine WO.top (v' := .string (str ((gP (((([] : List Pt) ++ (l.take i)) ++ [(⟨n, [], 0⟩ : Pt)]) ++ ((l.drop i).take (nl - i))) i).b ++ bt))) (congrArg Value.string (str_app _ _)) ?_
    refine WO.ixB (SA.F sameR sameT _ 15 _ (by kernel_rfl)) 90 (i * 3) b35 0 (0 + i + 1 + (nl - i)) 3 (i : Int) (by kernel_rfl) (by omega) (by omega) (by omega) ?_
    refine WO.one (SA.F sameR sameT _ 16 _ (by kernel_rfl)) 91 (.pointer (some ⟨b35, i * 3 + 1, none⟩)) (by kernel_rfl) ?_
    refine WO.stC (SA.E _ 17 _ (by kernel_rfl) rfl) b35 i 1 (i * 3 + 1) (.string (str ((gP (((([] : List Pt) ++ (l.take i)) ++ [(⟨n, [], 0⟩ : Pt)]) ++ ((l.drop i).take (nl - i))) i).b ++ bt))) [.int .i64 ((gP (((([] : List Pt) ++ (l.take i)) ++ [(⟨n, [], 0⟩ : Pt)]) ++ ((l.drop i).take (nl - i))) i).n), .string (str ((gP (((([] : List Pt) ++ (l.take i)) ++ [(⟨n, [], 0⟩ : Pt)]) ++ ((l.drop i).take (nl - i))) i).b ++ bt)), .int .i64 ((gP (((([] : List Pt) ++ (l.take i)) ++ [(⟨n, [], 0⟩ : Pt)]) ++ ((l.drop i).take (nl - i))) i).s : Int)] HR38 (by rw [List.length_map]; have := (show (((([] : List Pt) ++ (l.take i)) ++ [(⟨n, [], 0⟩ : Pt)]) ++ ((l.drop i).take (nl - i))).length = 0 + i + 1 + (nl - i) by rw [List.length_append, (show ((([] : List Pt) ++ (l.take i)) ++ [(⟨n, [], 0⟩ : Pt)]).length = 0 + i + 1 by rw [List.length_append, (show (([] : List Pt) ++ (l.take i)).length = 0 + i by rw [List.length_append, (rfl : List.length ([] : List Pt) = 0)]; first | rfl | (have := (rfl : List.length ([] : List Pt) = 0); simp; omega))]; first | rfl | (have := (show (([] : List Pt) ++ (l.take i)).length = 0 + i by rw [List.length_append, (rfl : List.length ([] : List Pt) = 0)]; first | rfl | (have := (rfl : List.length ([] : List Pt) = 0); simp; omega)); simp; omega))]; first | rfl | (have := (show ((([] : List Pt) ++ (l.take i)) ++ [(⟨n, [], 0⟩ : Pt)]).length = 0 + i + 1 by rw [List.length_append, (show (([] : List Pt) ++ (l.take i)).length = 0 + i by rw [List.length_append, (rfl : List.length ([] : List Pt) = 0)]; first | rfl | (have := (rfl : List.length ([] : List Pt) = 0); simp; omega))]; first | rfl | (have := (show (([] : List Pt) ++ (l.take i)).length = 0 + i by rw [List.length_append, (rfl : List.length ([] : List Pt) = 0)]; first | rfl | (have := (rfl : List.length ([] : List Pt) = 0); simp; omega)); simp; omega)); simp; omega)); omega) (by omega) (by omega) rfl (by rw [(map_gP (((([] : List Pt) ++ (l.take i)) ++ [(⟨n, [], 0⟩ : Pt)]) ++ ((l.drop i).take (nl - i))) i (by have := (show (((([] : List Pt) ++ (l.take i)) ++ [(⟨n, [], 0⟩ : Pt)]) ++ ((l.drop i).take (nl - i))).length = 0 + i + 1 + (nl - i) by rw [List.length_append, (show ((([] : List Pt) ++ (l.take i)) ++ [(⟨n, [], 0⟩ : Pt)]).length = 0 + i + 1 by rw [List.length_append, (show (([] : List Pt) ++ (l.take i)).length = 0 + i by rw [List.length_append, (rfl : List.length ([] : List Pt) = 0)]; first | rfl | (have := (rfl : List.length ([] : List Pt) = 0); simp; omega))]; first | rfl | (have := (show (([] : List Pt) ++ (l.take i)).length = 0 + i by rw [List.length_append, (rfl : List.length ([] : List Pt) = 0)]; first | rfl | (have := (rfl : List.length ([] : List Pt) = 0); simp; omega)); simp; omega))]; first | rfl | (have := (show ((([] : List Pt) ++ (l.take i)) ++ [(⟨n, [], 0⟩ : Pt)]).length = 0 + i + 1 by rw [List.length_append, (show (([] : List Pt) ++ (l.take i)).length = 0 + i by rw [List.length_append, (rfl : List.length ([] : List Pt) = 0)]; first | rfl | (have := (rfl : List.length ([] : List Pt) = 0); simp; omega))]; first | rfl | (have := (show (([] : List Pt) ++ (l.take i)).length = 0 + i by rw [List.length_append, (rfl : List.length ([] : List Pt) = 0)]; first | rfl | (have := (rfl : List.length ([] : List Pt) = 0); simp; omega)); simp; omega)); simp; omega)); omega))]; rfl) (by kernel_rfl) (fun _ _ => trivial) ?_
    intro w46 HR48 F47 _
    have HB27 := Blk.keep HB27 F47 (ninC ne_g24_b35 (nin0 _))
    have HB43 := Blk.keep HB43 F47 (ninC ne_g_b35 (nin0 _))
    have HV := HV.keep F47 (djB nin_b35_F)
    have HA := Fr.step HA F47 (inSD in_HA_b35 inS0)
    have HR48 : RowB w46 b35 54 3 cap36 (((((([] : List Pt) ++ (l.take i)) ++ [(⟨n, [], 0⟩ : Pt)]) ++ ((l.drop i).take (nl - i))).set i (⟨(gP (((([] : List Pt) ++ (l.take i)) ++ [(⟨n, [], 0⟩ : Pt)]) ++ ((l.drop i).take (nl - i))) i).n, ((gP (((([] : List Pt) ++ (l.take i)) ++ [(⟨n, [], 0⟩ : Pt)]) ++ ((l.drop i).take (nl - i))) i).b ++ bt), (gP (((([] : List Pt) ++ (l.take i)) ++ [(⟨n, [], 0⟩ : Pt)]) ++ ((l.drop i).take (nl - i))) i).s⟩ : Pt)).map cP) := by rw [List.map_set]; exact HR48
    refine WO.doneA (by kernel_rfl) ?_
    refine WQ.keep [0, 1, 2, 6, 7, 8, 12, 14, 24, 29, 48] (e' := [(0, .pointer (some ⟨g, 0, none⟩)), (1, .int .i64 n), (2, .string (str bt)), (6, .int .i64 0), (7, .int .i64 (i : Int)), (8, .slice (some ⟨b29, 0, none⟩) (0 + i + 1) cap30), (12, .bool false), (14, .bool false), (24, .bool false), (29, .bool true), (48, .bool false)]) (by kernel_rfl) ?_
    refine WQ.thenN ?_
    refine WE.seq ?_
    refine WE.region ?_
    refine WO.run 1 0 [(6, .int .i64 0)] (by kernel_rfl) (by kernel_rfl) ?_
    refine WO.done (by kernel_rfl) ?_
    refine WQ.keep [0, 1, 2, 6, 7, 8, 12, 14, 24, 29, 48] (e' := [(0, .pointer (some ⟨g, 0, none⟩)), (1, .int .i64 n), (2, .string (str bt)), (6, .int .i64 0), (7, .int .i64 (i : Int)), (8, .slice (some ⟨b29, 0, none⟩) (0 + i + 1) cap30), (12, .bool false), (14, .bool false), (24, .bool false), (29, .bool true), (48, .bool false)]) (by kernel_rfl) ?_
    refine WQ.thenN ?_
    refine WE.ret ?_
    refine WQ.ret (v := .int .i64 0) (by kernel_rfl) ?_
    exact ⟨rfl, .slice (some ⟨b35, 0, none⟩) (0 + i + 1 + (nl - i)) cap36, [b35], i, HB43, (by have h_ := OwnX.row HR48 ((List.length_map _).trans ((show ((((([] : List Pt) ++ (l.take i)) ++ [(⟨n, [], 0⟩ : Pt)]) ++ ((l.drop i).take (nl - i))).set i (⟨(gP (((([] : List Pt) ++ (l.take i)) ++ [(⟨n, [], 0⟩ : Pt)]) ++ ((l.drop i).take (nl - i))) i).n, ((gP (((([] : List Pt) ++ (l.take i)) ++ [(⟨n, [], 0⟩ : Pt)]) ++ ((l.drop i).take (nl - i))) i).b ++ bt), (gP (((([] : List Pt) ++ (l.take i)) ++ [(⟨n, [], 0⟩ : Pt)]) ++ ((l.drop i).take (nl - i))) i).s⟩ : Pt)).length = (((([] : List Pt) ++ (l.take i)) ++ [(⟨n, [], 0⟩ : Pt)]) ++ ((l.drop i).take (nl - i))).length from List.length_set).trans ((show (((([] : List Pt) ++ (l.take i)) ++ [(⟨n, [], 0⟩ : Pt)]) ++ ((l.drop i).take (nl - i))).length = 0 + i + 1 + (nl - i) by rw [List.length_append, (show ((([] : List Pt) ++ (l.take i)) ++ [(⟨n, [], 0⟩ : Pt)]).length = 0 + i + 1 by rw [List.length_append, (show (([] : List Pt) ++ (l.take i)).length = 0 + i by rw [List.length_append, (rfl : List.length ([] : List Pt) = 0)]; first | rfl | (have := (rfl : List.length ([] : List Pt) = 0); simp; omega))]; first | rfl | (have := (show (([] : List Pt) ++ (l.take i)).length = 0 + i by rw [List.length_append, (rfl : List.length ([] : List Pt) = 0)]; first | rfl | (have := (rfl : List.length ([] : List Pt) = 0); simp; omega)); simp; omega))]; first | rfl | (have := (show ((([] : List Pt) ++ (l.take i)) ++ [(⟨n, [], 0⟩ : Pt)]).length = 0 + i + 1 by rw [List.length_append, (show (([] : List Pt) ++ (l.take i)).length = 0 + i by rw [List.length_append, (rfl : List.length ([] : List Pt) = 0)]; first | rfl | (have := (rfl : List.length ([] : List Pt) = 0); simp; omega))]; first | rfl | (have := (show (([] : List Pt) ++ (l.take i)).length = 0 + i by rw [List.length_append, (rfl : List.length ([] : List Pt) = 0)]; first | rfl | (have := (rfl : List.length ([] : List Pt) = 0); simp; omega)); simp; omega)); simp; omega))))); rw [drop_all l i nl hn, ins_two l _ i n bt (by omega)] at h_; exact h_), HA, (by intro y hy; rw [List.mem_singleton.1 hy]; exact in_HA_b35.resolve_left (by simpa using Ne.symm ne_g_b35)), hi, hbl, hst⟩
  intro h8
  refine WO.run 12 7 [(48, .bool false), (47, undef), (46, undef), (45, undef), (44, undef), (43, undef), (42, undef), (41, undef), (40, undef), (39, undef), (38, undef), (37, .bool false)] (by kernel_rfl) (by kernel_rfl) ?_
  refine WO.done (by kernel_rfl) ?_
  refine WQ.keep [0, 1, 2, 6, 7, 12, 14, 24, 29, 48] (e' := [(0, .pointer (some ⟨g, 0, none⟩)), (1, .int .i64 n), (2, .string (str bt)), (6, .int .i64 0), (7, .int .i64 (i : Int)), (12, .bool false), (14, .bool false), (24, .bool false), (29, .bool true), (48, .bool false)]) (by kernel_rfl) ?_
  refine WQ.thenN ?_
  refine WE.condF (by kernel_rfl) ?_
  refine WE.exit ?_
  refine WQ.thenE ?_
  refine WQ.thenE ?_
  refine WQ.blkE ?_
  refine WQ.thenN ?_
  refine WE.seq ?_
  have hst : i = nl ∨ (i < nl ∧ n < (gP l i).n) := by have h_ := hno i; omega
  refine WE.region ?_
  refine WO.bx (SQ.E 0 (by kernel_rfl)) 51 #[] 54 (fun g => .slice (some ⟨g, 0, none⟩) 0 0) (by kernel_rfl) (fun _ _ => trivial) ?_
  intro g49 w50 HB52 F51 le53 _
  have ne_g_g49 : g ≠ g49 := Nat.ne_of_lt (Nat.lt_of_lt_of_le HB.lt le53)
  have nin_g49_F : g49 ∉ F := new_nin HV.lt le53
  have ge_HA_g49 := Nat.le_trans HA.size le53
  have HB := Blk.keep HB F51 (nin0 _)
  have HV := HV.keep F51 (fun _ _ => nin0 _)
  have HA := Fr.step0 HA F51
  refine WO.run 3 1 [(54, .pointer (some ⟨g, 1, none⟩)), (53, .pointer (some ⟨g, 0, none⟩)), (52, .pointer (some ⟨g, 0, none⟩))] (by kernel_rfl) (by kernel_rfl) ?_
  refine WO.ld (SQ.S 4 (by kernel_rfl)) 55 (.slice A nl cap) (by kernel_rfl) (same (HB.at 1 (by kernel_rfl))) ?_
  refine WO.run 1 5 [(56, .int .i64 (i : Int))] (by kernel_rfl) (by kernel_rfl) ?_
  refine WO.sl (SQ.F 6 (by kernel_rfl)) 57 0 i A nl cap 3 none (some (i : Int)) (by kernel_rfl) (by rfl) (by simp only [Option.getD_some] <;> omega) (by omega) (by omega) ?_
  refine WO.top (sl0 _ _ _ _) ?_
  have HR59 := RowB.of_blk (n := 0) HB52 (List.map cP []) rfl rfl (cP_len _) (cP_one _) (by omega)
  refine WO.appRow (SQ.E 7 (by kernel_rfl)) 58 (n := 0) (m := i) (ys := List.map cP (l.take i)) et_p HR59 ((List.length_map _).trans ((rfl : List.length ([] : List Pt) = 0))) (by rw [List.length_map] <;> first | rfl | omega | (simp <;> omega)) ((HV.take i).srcN (show (l.take i).length = i by rw [List.length_take]; have := hn; omega) (cP_len _) (cP_one _) cap) (cP_len _) (cP_one _) (by kernel_rfl) (by omega) (by omega) (fun _ _ => trivial) ?_
  intro b54 cap55 w56 HR57 F58 hb60
  have ne_g_b54 : g ≠ b54 := hb60.elim (fun h => h ▸ ne_g_g49) (fun h => Nat.ne_of_lt (Nat.lt_of_lt_of_le HB.lt h))
  have nin_b54_F : b54 ∉ F := hb60.elim (fun h => h ▸ nin_g49_F) (fun h => new_nin HV.lt h)
  have in_HA_b54 : b54 ∈ [g] ∨ (World.heap w).size ≤ b54 := hb60.elim (fun h => Or.inr (h ▸ ge_HA_g49)) (fun h => Or.inr (Nat.le_trans HA.size h))
  have HB := Blk.keep HB F58 (ninC ne_g_g49 (nin0 _))
  have HV := HV.keep F58 (djB nin_g49_F)
  have HA := Fr.step HA F58 (inSR ge_HA_g49 inS0)
  have HR57 : RowB w56 b54 54 3 cap55 ((([] : List Pt) ++ (l.take i)).map cP) := by rw [List.map_append]; exact HR57
  refine WO.run 1 8 [(8, .slice (some ⟨b54, 0, none⟩) (0 + i) cap55)] (by kernel_rfl) (by kernel_rfl) ?_
  refine WO.done (by kernel_rfl) ?_
  refine WQ.keep [0, 1, 2, 6, 7, 8, 12, 14, 24, 29, 48] (e' := [(0, .pointer (some ⟨g, 0, none⟩)), (1, .int .i64 n), (2, .string (str bt)), (6, .int .i64 0), (7, .int .i64 (i : Int)), (8, .slice (some ⟨b54, 0, none⟩) (0 + i) cap55), (12, .bool false), (14, .bool false), (24, .bool false), (29, .bool true), (48, .bool false)]) (by kernel_rfl) ?_
  refine WQ.thenN ?_
  refine WE.seq ?_
  refine WE.region ?_
  refine WO.run 3 0 [(61, .agg #[.int .i64 n, .string (⟨#[]⟩), .int .i64 0]), (60, .int .i64 n), (59, .slice (some ⟨b54, 0, none⟩) (0 + i) cap55)] (by kernel_rfl) (by kernel_rfl) ?_
  refine WO.bx (SQ.E 3 (by kernel_rfl)) 62 #[.int .i64 n, .string (⟨#[]⟩), .int .i64 0] 54 (fun g => .slice (some ⟨g, 0, none⟩) 1 1) (by kernel_rfl) (fun _ _ => trivial) ?_
  intro g61 w62 HB64 F63 le65 _
  have ne_g_g61 : g ≠ g61 := Nat.ne_of_lt (Nat.lt_of_lt_of_le HB.lt le65)
  have ne_b54_g61 : b54 ≠ g61 := Nat.ne_of_lt (Nat.lt_of_lt_of_le HR57.lt le65)
  have nin_g61_F : g61 ∉ F := new_nin HV.lt le65
  have ge_HA_g61 := Nat.le_trans HA.size le65
  have HB := Blk.keep HB F63 (nin0 _)
  have HR57 := RowB.keep HR57 F63 (nin0 _)
  have HV := HV.keep F63 (fun _ _ => nin0 _)
  have HA := Fr.step0 HA F63
  refine WO.appRow (SQ.E 4 (by kernel_rfl)) 63 (n := (0 + i)) (m := 1) (ys := List.map cP ([(⟨n, [], 0⟩ : Pt)])) et_p HR57 ((List.length_map _).trans ((show (([] : List Pt) ++ (l.take i)).length = 0 + i by rw [List.length_append, (rfl : List.length ([] : List Pt) = 0)]; first | rfl | (have := (rfl : List.length ([] : List Pt) = 0); simp; omega)))) (by rw [List.length_map] <;> first | rfl | omega | (simp <;> omega)) (RowB.src (RowB.of_blk (n := 1) HB64 (List.map cP [(⟨n, [], 0⟩ : Pt)]) rfl rfl (cP_len _) (cP_one _) (by omega))) (cP_len _) (cP_one _) (by kernel_rfl) (by omega) (by omega) (fun _ _ => trivial) ?_
  intro b66 cap67 w68 HR69 F70 hb71
  have ne_g_b66 : g ≠ b66 := hb71.elim (fun h => h ▸ ne_g_b54) (fun h => Nat.ne_of_lt (Nat.lt_of_lt_of_le HB.lt h))
  have ne_g61_b66 : g61 ≠ b66 := hb71.elim (fun h => h ▸ (Ne.symm ne_b54_g61)) (fun h => Nat.ne_of_lt (Nat.lt_of_lt_of_le HB64.lt h))
  have nin_b66_F : b66 ∉ F := hb71.elim (fun h => h ▸ nin_b54_F) (fun h => new_nin HV.lt h)
  have in_HA_b66 : b66 ∈ [g] ∨ (World.heap w).size ≤ b66 := hb71.elim (fun h => (h ▸ in_HA_b54)) (fun h => Or.inr (Nat.le_trans HA.size h))
  have HB := Blk.keep HB F70 (ninC ne_g_b54 (nin0 _))
  have HB64 := Blk.keep HB64 F70 (ninC (Ne.symm ne_b54_g61) (nin0 _))
  have HV := HV.keep F70 (djB nin_b54_F)
  have HA := Fr.step HA F70 (inSD in_HA_b54 inS0)
  have HR69 : RowB w68 b66 54 3 cap67 (((([] : List Pt) ++ (l.take i)) ++ [(⟨n, [], 0⟩ : Pt)]).map cP) := by rw [List.map_append]; exact HR69
  refine WO.run 1 5 [(8, .slice (some ⟨b66, 0, none⟩) (0 + i + 1) cap67)] (by kernel_rfl) (by kernel_rfl) ?_
  refine WO.done (by kernel_rfl) ?_
  refine WQ.keep [0, 1, 2, 6, 7, 8, 12, 14, 24, 29, 48] (e' := [(0, .pointer (some ⟨g, 0, none⟩)), (1, .int .i64 n), (2, .string (str bt)), (6, .int .i64 0), (7, .int .i64 (i : Int)), (8, .slice (some ⟨b66, 0, none⟩) (0 + i + 1) cap67), (12, .bool false), (14, .bool false), (24, .bool false), (29, .bool true), (48, .bool false)]) (by kernel_rfl) ?_
  refine WQ.thenN ?_
  refine WE.region ?_
  refine WO.run 5 0 [(68, .pointer (some ⟨g, 1, none⟩)), (67, .pointer (some ⟨g, 0, none⟩)), (66, .pointer (some ⟨g, 0, none⟩)), (65, .slice (some ⟨b66, 0, none⟩) (0 + i + 1) cap67), (64, .pointer (some ⟨g, 0, none⟩))] (by kernel_rfl) (by kernel_rfl) ?_
  refine WO.ld (SQ.S 5 (by kernel_rfl)) 69 (.slice A nl cap) (by kernel_rfl) (same (HB.at 1 (by kernel_rfl))) ?_
  refine WO.run 1 6 [(70, .int .i64 (i : Int))] (by kernel_rfl) (by kernel_rfl) ?_
  refine WO.sl (SQ.F 7 (by kernel_rfl)) 71 i nl A nl cap 3 (some (i : Int)) none (by kernel_rfl) (by simp only [Option.getD_some] <;> omega) (by rfl) (by omega) (by omega) ?_
  refine WO.appRow (SQ.E 8 (by kernel_rfl)) 72 (n := (0 + i + 1)) (m := (nl - i)) (ys := List.map cP ((l.drop i).take (nl - i))) et_p HR69 ((List.length_map _).trans ((show ((([] : List Pt) ++ (l.take i)) ++ [(⟨n, [], 0⟩ : Pt)]).length = 0 + i + 1 by rw [List.length_append, (show (([] : List Pt) ++ (l.take i)).length = 0 + i by rw [List.length_append, (rfl : List.length ([] : List Pt) = 0)]; first | rfl | (have := (rfl : List.length ([] : List Pt) = 0); simp; omega))]; first | rfl | (have := (show (([] : List Pt) ++ (l.take i)).length = 0 + i by rw [List.length_append, (rfl : List.length ([] : List Pt) = 0)]; first | rfl | (have := (rfl : List.length ([] : List Pt) = 0); simp; omega)); simp; omega)))) (by rw [List.length_map] <;> first | rfl | omega | (simp <;> omega)) (((HV.drop i cap (by have := hn; omega) (by have := hn; omega)).take (nl - i)).srcN (show ((l.drop i).take (nl - i)).length = nl - i by rw [List.length_take, List.length_drop]; have := hn; omega) (cP_len _) (cP_one _) (cap - i)) (cP_len _) (cP_one _) (by kernel_rfl) (by omega) (by omega) (fun _ _ => trivial) ?_
  intro b72 cap73 w74 HR75 F76 hb77
  have ne_g_b72 : g ≠ b72 := hb77.elim (fun h => h ▸ ne_g_b66) (fun h => Nat.ne_of_lt (Nat.lt_of_lt_of_le HB.lt h))
  have ne_g61_b72 : g61 ≠ b72 := hb77.elim (fun h => h ▸ ne_g61_b66) (fun h => Nat.ne_of_lt (Nat.lt_of_lt_of_le HB64.lt h))
  have nin_b72_F : b72 ∉ F := hb77.elim (fun h => h ▸ nin_b66_F) (fun h => new_nin HV.lt h)
  have in_HA_b72 : b72 ∈ [g] ∨ (World.heap w).size ≤ b72 := hb77.elim (fun h => (h ▸ in_HA_b66)) (fun h => Or.inr (Nat.le_trans HA.size h))
  have HB := Blk.keep HB F76 (ninC ne_g_b66 (nin0 _))
  have HB64 := Blk.keep HB64 F76 (ninC ne_g61_b66 (nin0 _))
  have HV := HV.keep F76 (djB nin_b66_F)
  have HA := Fr.step HA F76 (inSD in_HA_b66 inS0)
  have HR75 : RowB w74 b72 54 3 cap73 ((((([] : List Pt) ++ (l.take i)) ++ [(⟨n, [], 0⟩ : Pt)]) ++ ((l.drop i).take (nl - i))).map cP) := by rw [List.map_append]; exact HR75
  refine WO.run 2 9 [(74, .pointer (some ⟨g, 1, none⟩)), (73, .pointer (some ⟨g, 0, none⟩))] (by kernel_rfl) (by kernel_rfl) ?_
  refine WO.st (SQ.E 11 (by kernel_rfl)) g 1 [.slice (some ⟨b72, 0, none⟩) (0 + i + 1 + (nl - i)) cap73] #[.int .i64 room, .slice (some ⟨b72, 0, none⟩) (0 + i + 1 + (nl - i)) cap73, .bool false] (by kernel_rfl) HB (by kernel_rfl) (by kernel_rfl) (fun _ _ => trivial) ?_
  intro w78 HB80 F79 _
  have HB64 := Blk.keep HB64 F79 (ninC (Ne.symm ne_g_g61) (nin0 _))
  have HR75 := RowB.keep HR75 F79 (ninC (Ne.symm ne_g_b72) (nin0 _))
  have HV := HV.keep F79 (djB hgF)
  have HA := Fr.step HA F79 (inSL (by simp) inS0)
  refine WO.done (by kernel_rfl) ?_
  refine WQ.keep [0, 1, 2, 6, 7, 8, 12, 14, 24, 29, 48] (e' := [(0, .pointer (some ⟨g, 0, none⟩)), (1, .int .i64 n), (2, .string (str bt)), (6, .int .i64 0), (7, .int .i64 (i : Int)), (8, .slice (some ⟨b66, 0, none⟩) (0 + i + 1) cap67), (12, .bool false), (14, .bool false), (24, .bool false), (29, .bool true), (48, .bool false)]) (by kernel_rfl) ?_
  refine WQ.thenN ?_
  refine WE.seq ?_
  refine WE.draw [.free, .free, .free, .still, .free, .free, .free, .free, .still, .free, .free, .free, .still, .free, .free, .free, .free, .eff] Same sameR (by kernel_rfl) 18 (Array.replicate 18 false) (by kernel_rfl) rfl ?_
  intro w81 F82 _
  have HB64 := Blk.keep HB64 F82 (nin0 _)
  have HB80 := Blk.keep HB80 F82 (nin0 _)
  have HR75 := RowB.keep HR75 F82 (nin0 _)
  have HV := HV.keep F82 (fun _ _ => nin0 _)
  have HA := Fr.step0 HA F82
  refine WO.one (SA.F sameR sameT _ 0 _ (by kernel_rfl)) 75 (.pointer (some ⟨g, 0, none⟩)) (by kernel_rfl) ?_
  refine WO.one (SA.F sameR sameT _ 1 _ (by kernel_rfl)) 76 (.pointer (some ⟨g, 0, none⟩)) (by kernel_rfl) ?_
  refine WO.one (SA.F sameR sameT _ 2 _ (by kernel_rfl)) 77 (.pointer (some ⟨g, 1, none⟩)) (by kernel_rfl) ?_
  refine WO.ld (SA.S sameR sameT _ 3 _ (by kernel_rfl)) 78 (.slice (some ⟨b72, 0, none⟩) (0 + i + 1 + (nl - i)) cap73) (by kernel_rfl) (same (HB80.at 1 (by kernel_rfl))) ?_
  refine WO.one (SA.F sameR sameT _ 4 _ (by kernel_rfl)) 79 (.int .i64 (i : Int)) (by kernel_rfl) ?_
  refine WO.one (SA.F sameR sameT _ 5 _ (by kernel_rfl)) 80 (.pointer (some ⟨g, 0, none⟩)) (by kernel_rfl) ?_
  refine WO.one (SA.F sameR sameT _ 6 _ (by kernel_rfl)) 81 (.pointer (some ⟨g, 0, none⟩)) (by kernel_rfl) ?_
  refine WO.one (SA.F sameR sameT _ 7 _ (by kernel_rfl)) 82 (.pointer (some ⟨g, 1, none⟩)) (by kernel_rfl) ?_
  refine WO.ld (SA.S sameR sameT _ 8 _ (by kernel_rfl)) 83 (.slice (some ⟨b72, 0, none⟩) (0 + i + 1 + (nl - i)) cap73) (by kernel_rfl) (same (HB80.at 1 (by kernel_rfl))) ?_
  refine WO.one (SA.F sameR sameT _ 9 _ (by kernel_rfl)) 84 (.int .i64 (i : Int)) (by kernel_rfl) ?_
  refine WO.ixB (SA.F sameR sameT _ 10 _ (by kernel_rfl)) 85 (i * 3) b72 0 (0 + i + 1 + (nl - i)) 3 (i : Int) (by kernel_rfl) (by omega) (by omega) (by omega) ?_
  refine WO.one (SA.F sameR sameT _ 11 _ (by kernel_rfl)) 86 (.pointer (some ⟨b72, i * 3 + 1, none⟩)) (by kernel_rfl) ?_
  refine WO.ld (SA.S sameR sameT _ 12 _ (by kernel_rfl)) 87 (.string (str (gP (((([] : List Pt) ++ (l.take i)) ++ [(⟨n, [], 0⟩ : Pt)]) ++ ((l.drop i).take (nl - i))) i).b)) (by kernel_rfl) (same (HR75.at i 1 (i * 3 + 1) _ (by rw [List.length_map]; have := (show (((([] : List Pt) ++ (l.take i)) ++ [(⟨n, [], 0⟩ : Pt)]) ++ ((l.drop i).take (nl - i))).length = 0 + i + 1 + (nl - i) by rw [List.length_append, (show ((([] : List Pt) ++ (l.take i)) ++ [(⟨n, [], 0⟩ : Pt)]).length = 0 + i + 1 by rw [List.length_append, (show (([] : List Pt) ++ (l.take i)).length = 0 + i by rw [List.length_append, (rfl : List.length ([] : List Pt) = 0)]; first | rfl | (have := (rfl : List.length ([] : List Pt) = 0); simp; omega))]; first | rfl | (have := (show (([] : List Pt) ++ (l.take i)).length = 0 + i by rw [List.length_append, (rfl : List.length ([] : List Pt) = 0)]; first | rfl | (have := (rfl : List.length ([] : List Pt) = 0); simp; omega)); simp; omega))]; first | rfl | (have := (show ((([] : List Pt) ++ (l.take i)) ++ [(⟨n, [], 0⟩ : Pt)]).length = 0 + i + 1 by rw [List.length_append, (show (([] : List Pt) ++ (l.take i)).length = 0 + i by rw [List.length_append, (rfl : List.length ([] : List Pt) = 0)]; first | rfl | (have := (rfl : List.length ([] : List Pt) = 0); simp; omega))]; first | rfl | (have := (show (([] : List Pt) ++ (l.take i)).length = 0 + i by rw [List.length_append, (rfl : List.length ([] : List Pt) = 0)]; first | rfl | (have := (rfl : List.length ([] : List Pt) = 0); simp; omega)); simp; omega)); simp; omega)); omega) (by omega) (by rw [(map_gP (((([] : List Pt) ++ (l.take i)) ++ [(⟨n, [], 0⟩ : Pt)]) ++ ((l.drop i).take (nl - i))) i (by have := (show (((([] : List Pt) ++ (l.take i)) ++ [(⟨n, [], 0⟩ : Pt)]) ++ ((l.drop i).take (nl - i))).length = 0 + i + 1 + (nl - i) by rw [List.length_append, (show ((([] : List Pt) ++ (l.take i)) ++ [(⟨n, [], 0⟩ : Pt)]).length = 0 + i + 1 by rw [List.length_append, (show (([] : List Pt) ++ (l.take i)).length = 0 + i by rw [List.length_append, (rfl : List.length ([] : List Pt) = 0)]; first | rfl | (have := (rfl : List.length ([] : List Pt) = 0); simp; omega))]; first | rfl | (have := (show (([] : List Pt) ++ (l.take i)).length = 0 + i by rw [List.length_append, (rfl : List.length ([] : List Pt) = 0)]; first | rfl | (have := (rfl : List.length ([] : List Pt) = 0); simp; omega)); simp; omega))]; first | rfl | (have := (show ((([] : List Pt) ++ (l.take i)) ++ [(⟨n, [], 0⟩ : Pt)]).length = 0 + i + 1 by rw [List.length_append, (show (([] : List Pt) ++ (l.take i)).length = 0 + i by rw [List.length_append, (rfl : List.length ([] : List Pt) = 0)]; first | rfl | (have := (rfl : List.length ([] : List Pt) = 0); simp; omega))]; first | rfl | (have := (show (([] : List Pt) ++ (l.take i)).length = 0 + i by rw [List.length_append, (rfl : List.length ([] : List Pt) = 0)]; first | rfl | (have := (rfl : List.length ([] : List Pt) = 0); simp; omega)); simp; omega)); simp; omega)); omega))]; rfl) (by omega))) ?_
  refine WO.one (SA.F sameR sameT _ 13 _ (by kernel_rfl)) 88 (.string (str bt)) (by kernel_rfl) ?_
  refine WO.cat (SA.F sameR sameT _ 14 _ (by kernel_rfl)) 89 (str (gP (((([] : List Pt) ++ (l.take i)) ++ [(⟨n, [], 0⟩ : Pt)]) ++ ((l.drop i).take (nl - i))) i).b) (str bt) (by kernel_rfl) (by rw [gP_ins l _ i n (by omega)]; simp only [str_size, List.length_append, List.length_nil] at *; omega) ?_
  refine WO.top (v' := .string (str ((gP (((([] : List Pt) ++ (l.take i)) ++ [(⟨n, [], 0⟩ : Pt)]) ++ ((l.drop i).take (nl - i))) i).b ++ bt))) (congrArg Value.string (str_app _ _)) ?_
  refine WO.ixB (SA.F sameR sameT _ 15 _ (by kernel_rfl)) 90 (i * 3) b72 0 (0 + i + 1 + (nl - i)) 3 (i : Int) (by kernel_rfl) (by omega) (by omega) (by omega) ?_
  refine WO.one (SA.F sameR sameT _ 16 _ (by kernel_rfl)) 91 (.pointer (some ⟨b72, i * 3 + 1, none⟩)) (by kernel_rfl) ?_
  refine WO.stC (SA.E _ 17 _ (by kernel_rfl) rfl) b72 i 1 (i * 3 + 1) (.string (str ((gP (((([] : List Pt) ++ (l.take i)) ++ [(⟨n, [], 0⟩ : Pt)]) ++ ((l.drop i).take (nl - i))) i).b ++ bt))) [.int .i64 ((gP (((([] : List Pt) ++ (l.take i)) ++ [(⟨n, [], 0⟩ : Pt)]) ++ ((l.drop i).take (nl - i))) i).n), .string (str ((gP (((([] : List Pt) ++ (l.take i)) ++ [(⟨n, [], 0⟩ : Pt)]) ++ ((l.drop i).take (nl - i))) i).b ++ bt)), .int .i64 ((gP (((([] : List Pt) ++ (l.take i)) ++ [(⟨n, [], 0⟩ : Pt)]) ++ ((l.drop i).take (nl - i))) i).s : Int)] HR75 (by rw [List.length_map]; have := (show (((([] : List Pt) ++ (l.take i)) ++ [(⟨n, [], 0⟩ : Pt)]) ++ ((l.drop i).take (nl - i))).length = 0 + i + 1 + (nl - i) by rw [List.length_append, (show ((([] : List Pt) ++ (l.take i)) ++ [(⟨n, [], 0⟩ : Pt)]).length = 0 + i + 1 by rw [List.length_append, (show (([] : List Pt) ++ (l.take i)).length = 0 + i by rw [List.length_append, (rfl : List.length ([] : List Pt) = 0)]; first | rfl | (have := (rfl : List.length ([] : List Pt) = 0); simp; omega))]; first | rfl | (have := (show (([] : List Pt) ++ (l.take i)).length = 0 + i by rw [List.length_append, (rfl : List.length ([] : List Pt) = 0)]; first | rfl | (have := (rfl : List.length ([] : List Pt) = 0); simp; omega)); simp; omega))]; first | rfl | (have := (show ((([] : List Pt) ++ (l.take i)) ++ [(⟨n, [], 0⟩ : Pt)]).length = 0 + i + 1 by rw [List.length_append, (show (([] : List Pt) ++ (l.take i)).length = 0 + i by rw [List.length_append, (rfl : List.length ([] : List Pt) = 0)]; first | rfl | (have := (rfl : List.length ([] : List Pt) = 0); simp; omega))]; first | rfl | (have := (show (([] : List Pt) ++ (l.take i)).length = 0 + i by rw [List.length_append, (rfl : List.length ([] : List Pt) = 0)]; first | rfl | (have := (rfl : List.length ([] : List Pt) = 0); simp; omega)); simp; omega)); simp; omega)); omega) (by omega) (by omega) rfl (by rw [(map_gP (((([] : List Pt) ++ (l.take i)) ++ [(⟨n, [], 0⟩ : Pt)]) ++ ((l.drop i).take (nl - i))) i (by have := (show (((([] : List Pt) ++ (l.take i)) ++ [(⟨n, [], 0⟩ : Pt)]) ++ ((l.drop i).take (nl - i))).length = 0 + i + 1 + (nl - i) by rw [List.length_append, (show ((([] : List Pt) ++ (l.take i)) ++ [(⟨n, [], 0⟩ : Pt)]).length = 0 + i + 1 by rw [List.length_append, (show (([] : List Pt) ++ (l.take i)).length = 0 + i by rw [List.length_append, (rfl : List.length ([] : List Pt) = 0)]; first | rfl | (have := (rfl : List.length ([] : List Pt) = 0); simp; omega))]; first | rfl | (have := (show (([] : List Pt) ++ (l.take i)).length = 0 + i by rw [List.length_append, (rfl : List.length ([] : List Pt) = 0)]; first | rfl | (have := (rfl : List.length ([] : List Pt) = 0); simp; omega)); simp; omega))]; first | rfl | (have := (show ((([] : List Pt) ++ (l.take i)) ++ [(⟨n, [], 0⟩ : Pt)]).length = 0 + i + 1 by rw [List.length_append, (show (([] : List Pt) ++ (l.take i)).length = 0 + i by rw [List.length_append, (rfl : List.length ([] : List Pt) = 0)]; first | rfl | (have := (rfl : List.length ([] : List Pt) = 0); simp; omega))]; first | rfl | (have := (show (([] : List Pt) ++ (l.take i)).length = 0 + i by rw [List.length_append, (rfl : List.length ([] : List Pt) = 0)]; first | rfl | (have := (rfl : List.length ([] : List Pt) = 0); simp; omega)); simp; omega)); simp; omega)); omega))]; rfl) (by kernel_rfl) (fun _ _ => trivial) ?_
  intro w83 HR85 F84 _
  have HB64 := Blk.keep HB64 F84 (ninC ne_g61_b72 (nin0 _))
  have HB80 := Blk.keep HB80 F84 (ninC ne_g_b72 (nin0 _))
  have HV := HV.keep F84 (djB nin_b72_F)
  have HA := Fr.step HA F84 (inSD in_HA_b72 inS0)
  have HR85 : RowB w83 b72 54 3 cap73 (((((([] : List Pt) ++ (l.take i)) ++ [(⟨n, [], 0⟩ : Pt)]) ++ ((l.drop i).take (nl - i))).set i (⟨(gP (((([] : List Pt) ++ (l.take i)) ++ [(⟨n, [], 0⟩ : Pt)]) ++ ((l.drop i).take (nl - i))) i).n, ((gP (((([] : List Pt) ++ (l.take i)) ++ [(⟨n, [], 0⟩ : Pt)]) ++ ((l.drop i).take (nl - i))) i).b ++ bt), (gP (((([] : List Pt) ++ (l.take i)) ++ [(⟨n, [], 0⟩ : Pt)]) ++ ((l.drop i).take (nl - i))) i).s⟩ : Pt)).map cP) := by rw [List.map_set]; exact HR85
  refine WO.doneA (by kernel_rfl) ?_
  refine WQ.keep [0, 1, 2, 6, 7, 8, 12, 14, 24, 29, 48] (e' := [(0, .pointer (some ⟨g, 0, none⟩)), (1, .int .i64 n), (2, .string (str bt)), (6, .int .i64 0), (7, .int .i64 (i : Int)), (8, .slice (some ⟨b66, 0, none⟩) (0 + i + 1) cap67), (12, .bool false), (14, .bool false), (24, .bool false), (29, .bool true), (48, .bool false)]) (by kernel_rfl) ?_
  refine WQ.thenN ?_
  refine WE.seq ?_
  refine WE.region ?_
  refine WO.run 1 0 [(6, .int .i64 0)] (by kernel_rfl) (by kernel_rfl) ?_
  refine WO.done (by kernel_rfl) ?_
  refine WQ.keep [0, 1, 2, 6, 7, 8, 12, 14, 24, 29, 48] (e' := [(0, .pointer (some ⟨g, 0, none⟩)), (1, .int .i64 n), (2, .string (str bt)), (6, .int .i64 0), (7, .int .i64 (i : Int)), (8, .slice (some ⟨b66, 0, none⟩) (0 + i + 1) cap67), (12, .bool false), (14, .bool false), (24, .bool false), (29, .bool true), (48, .bool false)]) (by kernel_rfl) ?_
  refine WQ.thenN ?_
  refine WE.ret ?_
  refine WQ.ret (v := .int .i64 0) (by kernel_rfl) ?_
  exact ⟨rfl, .slice (some ⟨b72, 0, none⟩) (0 + i + 1 + (nl - i)) cap73, [b72], i, HB80, (by have h_ := OwnX.row HR85 ((List.length_map _).trans ((show ((((([] : List Pt) ++ (l.take i)) ++ [(⟨n, [], 0⟩ : Pt)]) ++ ((l.drop i).take (nl - i))).set i (⟨(gP (((([] : List Pt) ++ (l.take i)) ++ [(⟨n, [], 0⟩ : Pt)]) ++ ((l.drop i).take (nl - i))) i).n, ((gP (((([] : List Pt) ++ (l.take i)) ++ [(⟨n, [], 0⟩ : Pt)]) ++ ((l.drop i).take (nl - i))) i).b ++ bt), (gP (((([] : List Pt) ++ (l.take i)) ++ [(⟨n, [], 0⟩ : Pt)]) ++ ((l.drop i).take (nl - i))) i).s⟩ : Pt)).length = (((([] : List Pt) ++ (l.take i)) ++ [(⟨n, [], 0⟩ : Pt)]) ++ ((l.drop i).take (nl - i))).length from List.length_set).trans ((show (((([] : List Pt) ++ (l.take i)) ++ [(⟨n, [], 0⟩ : Pt)]) ++ ((l.drop i).take (nl - i))).length = 0 + i + 1 + (nl - i) by rw [List.length_append, (show ((([] : List Pt) ++ (l.take i)) ++ [(⟨n, [], 0⟩ : Pt)]).length = 0 + i + 1 by rw [List.length_append, (show (([] : List Pt) ++ (l.take i)).length = 0 + i by rw [List.length_append, (rfl : List.length ([] : List Pt) = 0)]; first | rfl | (have := (rfl : List.length ([] : List Pt) = 0); simp; omega))]; first | rfl | (have := (show (([] : List Pt) ++ (l.take i)).length = 0 + i by rw [List.length_append, (rfl : List.length ([] : List Pt) = 0)]; first | rfl | (have := (rfl : List.length ([] : List Pt) = 0); simp; omega)); simp; omega))]; first | rfl | (have := (show ((([] : List Pt) ++ (l.take i)) ++ [(⟨n, [], 0⟩ : Pt)]).length = 0 + i + 1 by rw [List.length_append, (show (([] : List Pt) ++ (l.take i)).length = 0 + i by rw [List.length_append, (rfl : List.length ([] : List Pt) = 0)]; first | rfl | (have := (rfl : List.length ([] : List Pt) = 0); simp; omega))]; first | rfl | (have := (show (([] : List Pt) ++ (l.take i)).length = 0 + i by rw [List.length_append, (rfl : List.length ([] : List Pt) = 0)]; first | rfl | (have := (rfl : List.length ([] : List Pt) = 0); simp; omega)); simp; omega)); simp; omega))))); rw [drop_all l i nl hn, ins_two l _ i n bt (by omega)] at h_; exact h_), HA, (by intro y hy; rw [List.mem_singleton.1 hy]; exact in_HA_b72.resolve_left (by simpa using Ne.symm ne_g_b72)), hi, hbl, hst⟩
end Go.Proofs.Ytkhibpdkgjapgaa.Disk
