/- Layer 8: the document's disk, walked. -/
import Derived.Test.YtkhibpdkgjapgaaDiskL
set_option linter.unusedVariables false
set_option linter.unusedSimpArgs false
namespace Go.Proofs.Ytkhibpdkgjapgaa.Disk
open Go Go.RowKit Go.Proofs.Ytkhibpdkgjapgaa Go.Proofs.Ytkhibpdkgjapgaa.Eng Go.Proofs.YtkhibpdkgjapgaaW.PrintWords
def cP (p : Pt) : List Value := [.int .i64 p.n, .string (str p.b), .int .i64 (p.s : Int)]
def gP (q : List Pt) (i : Nat) : Pt := q.getD i ⟨0, [], 0⟩
theorem gP_some (q : List Pt) (i : Nat) (h : i < q.length) : q[i]? = some (gP q i) := by
  unfold gP
  rw [List.getD_eq_getElem?_getD, List.getElem?_eq_getElem h]
  rfl
theorem map_gP (q : List Pt) (k : Nat) (h : k < q.length) : (q.map cP).getD k [] = cP (gP q k) := by
  rw [List.getD_eq_getElem?_getD, List.getElem?_map, gP_some q k h]
  rfl
theorem cP_len (l : List Pt) : ∀ x ∈ l.map cP, x.length = 3 := by
  intro x hx
  obtain ⟨b, _, rfl⟩ := List.mem_map.1 hx
  rfl
theorem cP_one (l : List Pt) : ∀ x ∈ l.map cP, x.all oneB = true := by
  intro x hx
  obtain ⟨b, _, rfl⟩ := List.mem_map.1 hx
  rfl
theorem idx_eq {l : List Pt} {i k : Nat} {n : Int} (hi : i ≤ k) (hb : ∀ j, j < k → (gP l j).n ≠ n) (h : (gP l i).n = n) : i = k := by
  rcases Nat.lt_or_ge i k with h1 | h1
  · exact absurd h (hb i h1)
  · omega
theorem idx_next {l : List Pt} {i k : Nat} {n : Int} (hi : i ≤ k) (hk : (gP l k).n = n) (h : ¬ (gP l i).n = n) : i + 1 ≤ k := by
  rcases Nat.lt_or_ge i k with h1 | h1
  · omega
  · obtain rfl : i = k := by omega
    exact absurd hk h
theorem used_step (l : List Pt) (i : Nat) (h : i < l.length) : usedL (l.take (i + 1)) = usedL (l.take i) + (gP l i).b.length := by
  rw [List.take_add_one, gP_some l i h, usedL_app]
  simp [usedL]
theorem used_take (l : List Pt) (i : Nat) : usedL (l.take i) ≤ usedL l := by
  conv => rhs; rw [← List.take_append_drop i l]
  rw [usedL_app]
  omega
theorem gP_set (l : List Pt) (k : Nat) (p : Pt) (h : k < l.length) : gP (l.set k p) k = p := by
  unfold gP
  simp [h]
theorem cut_two (l : List Pt) (k z : Nat) (h : k < l.length) : (l.set k ⟨(gP l k).n, (gP l k).b.take z, (gP l k).s⟩).set k ⟨(gP (l.set k ⟨(gP l k).n, (gP l k).b.take z, (gP l k).s⟩) k).n, (gP (l.set k ⟨(gP l k).n, (gP l k).b.take z, (gP l k).s⟩) k).b, z⟩ = l.set k ⟨(gP l k).n, (gP l k).b.take z, z⟩ := by
  rw [gP_set _ _ _ h, List.set_set]
theorem et_p : ET Try.prog 38 54 3 32 := by
  obtain ⟨i, h1, h2, h3, h4⟩ := info_parts (P := Try.prog) (e := 54) (z := .agg #[.int .i64 0, .string ⟨#[]⟩, .int .i64 0]) (size := 3) (bytes := 32) (by kernel_rfl)
  exact ⟨by kernel_rfl, ⟨i, _, h1, h2, h3, h4, rfl⟩, by decide⟩
set_option maxRecDepth 100000 in
set_option maxHeartbeats 400000 in
theorem mat_some (g : Nat) (room : Int) (A : Option Addr) (nl cap : Nat) (l : List Pt) (F : List Nat) (n : Int) (w : World) (dn : Bool) (HB : Blk w g #[.int .i64 room, .slice A nl cap, .bool dn] 40) (HV : VX cP 3 w F A l) (hn : l.length = nl) (hgF : g ∉ F) (hnl : nl ≤ 1000000) (k : Nat) (hk : k < nl) (hkn : (gP l k).n = n) (hbef : ∀ j, j < k → (gP l j).n ≠ n) :
    Calls Try.prog 35 #[.pointer (some ⟨g, 0, none⟩), .int .i64 n] w fun e w' => e = .returned (.int .i64 (k : Int)) ∧ Fr [] w w' := by
  have HA := Fr.refl [] w
  refine enter (N := 26) Try.func35 (c := _) rfl (by kernel_rfl) (by kernel_rfl) (e := [(0, .pointer (some ⟨g, 0, none⟩)), (1, .int .i64 n)]) (by kernel_rfl) ?_
  refine WE.seq ?_
  refine WE.region ?_
  refine WO.run 1 0 [(4, .int .i64 0)] (by kernel_rfl) (by kernel_rfl) ?_
  refine WO.done (by kernel_rfl) ?_
  refine WQ.keep [0, 1, 4] (e' := [(0, .pointer (some ⟨g, 0, none⟩)), (1, .int .i64 n), (4, .int .i64 0)]) (by kernel_rfl) ?_
  refine WQ.thenN ?_
  refine WE.seq ?_
  refine WE.seq ?_
  refine WE.region ?_
  refine WO.run 1 0 [(5, .int .i64 0)] (by kernel_rfl) (by kernel_rfl) ?_
  refine WO.done (by kernel_rfl) ?_
  refine WQ.keep [0, 1, 4, 5] (e' := [(0, .pointer (some ⟨g, 0, none⟩)), (1, .int .i64 n), (4, .int .i64 0), (5, .int .i64 0)]) (by kernel_rfl) ?_
  refine WQ.thenN ?_
  refine WE.block ?_
  refine WE.loop (α := Nat) (E := fun i => [(0, .pointer (some ⟨g, 0, none⟩)), (1, .int .i64 n), (5, .int .i64 (i : Int))]) (I := fun i wr => i ≤ k ∧ w = wr) (m := fun i => nl - i) 0 [0, 1, 5] (by kernel_rfl) ?_ ?_
  · exact ⟨Nat.zero_le _, rfl⟩
  rintro i wr ⟨hi, hw⟩
  subst hw
  refine WE.seq ?_
  refine WE.seq ?_
  refine WE.region ?_
  refine WO.run 4 0 [(9, .pointer (some ⟨g, 1, none⟩)), (8, .pointer (some ⟨g, 0, none⟩)), (7, .pointer (some ⟨g, 0, none⟩)), (6, .int .i64 (i : Int))] (by kernel_rfl) (by kernel_rfl) ?_
  refine WO.ld (SQ.S 4 (by kernel_rfl)) 10 (.slice A nl cap) (by kernel_rfl) (same (HB.at 1 (by kernel_rfl))) ?_
  refine WO.run 1 5 [(11, .int .i64 (nl : Int))] (by kernel_rfl) (by kernel_rfl) ?_
  refine WO.one (SQ.F 6 (by kernel_rfl)) 12 (.bool (decide (((i : Int) : Int) < (nl : Int)))) (by kernel_rfl) ?_
  refine WO.topPT (((i : Int) : Int) < (nl : Int)) (by omega) ?_
  refine WO.done (by kernel_rfl) ?_
  refine WQ.keep [0, 1, 5, 12] (e' := [(0, .pointer (some ⟨g, 0, none⟩)), (1, .int .i64 n), (5, .int .i64 (i : Int)), (12, .bool true)]) (by kernel_rfl) ?_
  refine WQ.thenN ?_
  refine WE.condT (by kernel_rfl) ?_
  refine WE.skip ?_
  refine WQ.thenN ?_
  refine WE.seq ?_
  refine WE.block ?_
  refine WE.seq ?_
  refine WE.region ?_
  refine WO.run 3 0 [(17, .pointer (some ⟨g, 1, none⟩)), (16, .pointer (some ⟨g, 0, none⟩)), (15, .pointer (some ⟨g, 0, none⟩))] (by kernel_rfl) (by kernel_rfl) ?_
  refine WO.ld (SQ.S 3 (by kernel_rfl)) 18 (.slice A nl cap) (by kernel_rfl) (same (HB.at 1 (by kernel_rfl))) ?_
  refine WO.run 1 4 [(19, .int .i64 (i : Int))] (by kernel_rfl) (by kernel_rfl) ?_
  obtain ⟨ad1, hA2⟩ := HV.addr (i := i) (by have := hn; omega)
  refine WO.ixo (SQ.F 5 (by kernel_rfl)) 20 nl 3 i (i : Int) hA2 (by kernel_rfl) rfl (by omega) ?_
  refine WO.run 1 6 [(21, .pointer (some (ad1.add (i * 3))))] (by kernel_rfl) (by kernel_rfl) ?_
  refine WO.ld (SQ.S 7 (by kernel_rfl)) 22 (.int .i64 ((gP l i).n)) (by kernel_rfl) (same (HV.at0 hA2 (gP_some l i (by have := hn; omega)) (by kernel_rfl))) ?_
  refine WO.run 1 8 [(23, .int .i64 n)] (by kernel_rfl) (by kernel_rfl) ?_
  refine WO.one (SQ.F 9 (by kernel_rfl)) 24 (.bool (decide (((gP l i).n : Int) = n))) (by kernel_rfl) ?_
  refine WO.topP (((gP l i).n : Int) = n) ?_ ?_
  · intro h3
    refine WO.done (by kernel_rfl) ?_
    refine WQ.keep [0, 1, 5, 12, 24] (e' := [(0, .pointer (some ⟨g, 0, none⟩)), (1, .int .i64 n), (5, .int .i64 (i : Int)), (12, .bool true), (24, .bool true)]) (by kernel_rfl) ?_
    refine WQ.thenN ?_
    refine WE.condT (by kernel_rfl) ?_
    refine WE.seq ?_
    refine WE.region ?_
    refine WO.run 2 0 [(4, .int .i64 (i : Int)), (25, .int .i64 (i : Int))] (by kernel_rfl) (by kernel_rfl) ?_
    refine WO.done (by kernel_rfl) ?_
    refine WQ.keep [0, 1, 4, 5, 12, 24] (e' := [(0, .pointer (some ⟨g, 0, none⟩)), (1, .int .i64 n), (4, .int .i64 (i : Int)), (5, .int .i64 (i : Int)), (12, .bool true), (24, .bool true)]) (by kernel_rfl) ?_
    refine WQ.thenN ?_
    refine WE.ret ?_
    refine WQ.blkR ?_
    refine WQ.thenR ?_
    refine WQ.thenR ?_
    refine WQ.blkR ?_
    refine WQ.thenR ?_
    refine WQ.ret (v := .int .i64 (i : Int)) (by kernel_rfl) ?_
    exact ⟨by rw [idx_eq hi hbef (by assumption)], HA⟩
  intro h3
  refine WO.done (by kernel_rfl) ?_
  refine WQ.keep [0, 1, 5, 12, 24] (e' := [(0, .pointer (some ⟨g, 0, none⟩)), (1, .int .i64 n), (5, .int .i64 (i : Int)), (12, .bool true), (24, .bool false)]) (by kernel_rfl) ?_
  refine WQ.thenN ?_
  refine WE.condF (by kernel_rfl) ?_
  refine WE.skip ?_
  refine WQ.blkN ?_
  refine WQ.thenN ?_
  refine WE.region ?_
  refine WO.run 1 0 [(13, .int .i64 (i : Int))] (by kernel_rfl) (by kernel_rfl) ?_
  refine WO.one (SQ.F 1 (by kernel_rfl)) 14 (.int .i64 (IntKind.i64.wrap ((i : Int) + 1))) (by kernel_rfl) ?_
  refine WO.top (v' := .int .i64 ((i + 1 : Nat) : Int)) (wrap_i64 (by omega) (by omega)) ?_
  refine WO.run 1 2 [(5, .int .i64 ((i + 1 : Nat) : Int))] (by kernel_rfl) (by kernel_rfl) ?_
  refine WO.done (by kernel_rfl) ?_
  refine WQ.keep [0, 1, 5, 12, 24] (e' := [(0, .pointer (some ⟨g, 0, none⟩)), (1, .int .i64 n), (5, .int .i64 ((i + 1 : Nat) : Int)), (12, .bool true), (24, .bool false)]) (by kernel_rfl) ?_
  refine WQ.round ?_
  intro a_ ha_
  refine ⟨i + 1, ?_, ha_.keep [0, 1, 5] (by kernel_rfl), ?_⟩
  · omega
  · exact ⟨idx_next hi hkn (by assumption), rfl⟩

set_option maxRecDepth 100000 in
set_option maxHeartbeats 400000 in
theorem mat_none (g : Nat) (room : Int) (A : Option Addr) (nl cap : Nat) (l : List Pt) (F : List Nat) (n : Int) (w : World) (dn : Bool) (HB : Blk w g #[.int .i64 room, .slice A nl cap, .bool dn] 40) (HV : VX cP 3 w F A l) (hn : l.length = nl) (hgF : g ∉ F) (hnl : nl ≤ 1000000) (hno : ∀ j, j < nl → (gP l j).n ≠ n) :
    Calls Try.prog 35 #[.pointer (some ⟨g, 0, none⟩), .int .i64 n] w fun e w' => e = .returned (.int .i64 (-1)) ∧ Fr [] w w' := by
  have HA := Fr.refl [] w
  refine enter (N := 26) Try.func35 (c := _) rfl (by kernel_rfl) (by kernel_rfl) (e := [(0, .pointer (some ⟨g, 0, none⟩)), (1, .int .i64 n)]) (by kernel_rfl) ?_
  refine WE.seq ?_
  refine WE.region ?_
  refine WO.run 1 0 [(4, .int .i64 0)] (by kernel_rfl) (by kernel_rfl) ?_
  refine WO.done (by kernel_rfl) ?_
  refine WQ.keep [0, 1, 4] (e' := [(0, .pointer (some ⟨g, 0, none⟩)), (1, .int .i64 n), (4, .int .i64 0)]) (by kernel_rfl) ?_
  refine WQ.thenN ?_
  refine WE.seq ?_
  refine WE.seq ?_
  refine WE.region ?_
  refine WO.run 1 0 [(5, .int .i64 0)] (by kernel_rfl) (by kernel_rfl) ?_
  refine WO.done (by kernel_rfl) ?_
  refine WQ.keep [0, 1, 4, 5] (e' := [(0, .pointer (some ⟨g, 0, none⟩)), (1, .int .i64 n), (4, .int .i64 0), (5, .int .i64 0)]) (by kernel_rfl) ?_
  refine WQ.thenN ?_
  refine WE.block ?_
  refine WE.loop (α := Nat) (E := fun i => [(0, .pointer (some ⟨g, 0, none⟩)), (1, .int .i64 n), (5, .int .i64 (i : Int))]) (I := fun i wr => i ≤ nl ∧ w = wr) (m := fun i => nl - i) 0 [0, 1, 5] (by kernel_rfl) ?_ ?_
  · exact ⟨Nat.zero_le _, rfl⟩
  rintro i wr ⟨hi, hw⟩
  subst hw
  refine WE.seq ?_
  refine WE.seq ?_
  refine WE.region ?_
  refine WO.run 4 0 [(9, .pointer (some ⟨g, 1, none⟩)), (8, .pointer (some ⟨g, 0, none⟩)), (7, .pointer (some ⟨g, 0, none⟩)), (6, .int .i64 (i : Int))] (by kernel_rfl) (by kernel_rfl) ?_
  refine WO.ld (SQ.S 4 (by kernel_rfl)) 10 (.slice A nl cap) (by kernel_rfl) (same (HB.at 1 (by kernel_rfl))) ?_
  refine WO.run 1 5 [(11, .int .i64 (nl : Int))] (by kernel_rfl) (by kernel_rfl) ?_
  refine WO.one (SQ.F 6 (by kernel_rfl)) 12 (.bool (decide (((i : Int) : Int) < (nl : Int)))) (by kernel_rfl) ?_
  refine WO.topP (((i : Int) : Int) < (nl : Int)) ?_ ?_
  · intro h1
    refine WO.done (by kernel_rfl) ?_
    refine WQ.keep [0, 1, 5, 12] (e' := [(0, .pointer (some ⟨g, 0, none⟩)), (1, .int .i64 n), (5, .int .i64 (i : Int)), (12, .bool true)]) (by kernel_rfl) ?_
    refine WQ.thenN ?_
    refine WE.condT (by kernel_rfl) ?_
    refine WE.skip ?_
    refine WQ.thenN ?_
    refine WE.seq ?_
    refine WE.block ?_
    refine WE.seq ?_
    refine WE.region ?_
    refine WO.run 3 0 [(17, .pointer (some ⟨g, 1, none⟩)), (16, .pointer (some ⟨g, 0, none⟩)), (15, .pointer (some ⟨g, 0, none⟩))] (by kernel_rfl) (by kernel_rfl) ?_
    refine WO.ld (SQ.S 3 (by kernel_rfl)) 18 (.slice A nl cap) (by kernel_rfl) (same (HB.at 1 (by kernel_rfl))) ?_
    refine WO.run 1 4 [(19, .int .i64 (i : Int))] (by kernel_rfl) (by kernel_rfl) ?_
    obtain ⟨ad2, hA3⟩ := HV.addr (i := i) (by have := hn; omega)
    refine WO.ixo (SQ.F 5 (by kernel_rfl)) 20 nl 3 i (i : Int) hA3 (by kernel_rfl) rfl (by omega) ?_
    refine WO.run 1 6 [(21, .pointer (some (ad2.add (i * 3))))] (by kernel_rfl) (by kernel_rfl) ?_
    refine WO.ld (SQ.S 7 (by kernel_rfl)) 22 (.int .i64 ((gP l i).n)) (by kernel_rfl) (same (HV.at0 hA3 (gP_some l i (by have := hn; omega)) (by kernel_rfl))) ?_
    refine WO.run 1 8 [(23, .int .i64 n)] (by kernel_rfl) (by kernel_rfl) ?_
    refine WO.one (SQ.F 9 (by kernel_rfl)) 24 (.bool (decide (((gP l i).n : Int) = n))) (by kernel_rfl) ?_
    refine WO.topPF (((gP l i).n : Int) = n) (by exact hno i (by omega)) ?_
    refine WO.done (by kernel_rfl) ?_
    refine WQ.keep [0, 1, 5, 12, 24] (e' := [(0, .pointer (some ⟨g, 0, none⟩)), (1, .int .i64 n), (5, .int .i64 (i : Int)), (12, .bool true), (24, .bool false)]) (by kernel_rfl) ?_
    refine WQ.thenN ?_
    refine WE.condF (by kernel_rfl) ?_
    refine WE.skip ?_
    refine WQ.blkN ?_
    refine WQ.thenN ?_
    refine WE.region ?_
    refine WO.run 1 0 [(13, .int .i64 (i : Int))] (by kernel_rfl) (by kernel_rfl) ?_
    refine WO.one (SQ.F 1 (by kernel_rfl)) 14 (.int .i64 (IntKind.i64.wrap ((i : Int) + 1))) (by kernel_rfl) ?_
    refine WO.top (v' := .int .i64 ((i + 1 : Nat) : Int)) (wrap_i64 (by omega) (by omega)) ?_
    refine WO.run 1 2 [(5, .int .i64 ((i + 1 : Nat) : Int))] (by kernel_rfl) (by kernel_rfl) ?_
    refine WO.done (by kernel_rfl) ?_
    refine WQ.keep [0, 1, 5, 12, 24] (e' := [(0, .pointer (some ⟨g, 0, none⟩)), (1, .int .i64 n), (5, .int .i64 ((i + 1 : Nat) : Int)), (12, .bool true), (24, .bool false)]) (by kernel_rfl) ?_
    refine WQ.round ?_
    intro a_ ha_
    refine ⟨i + 1, ?_, ha_.keep [0, 1, 5] (by kernel_rfl), ?_⟩
    · omega
    · exact ⟨by omega, rfl⟩
  intro h1
  refine WO.done (by kernel_rfl) ?_
  refine WQ.keep [0, 1, 5, 12] (e' := [(0, .pointer (some ⟨g, 0, none⟩)), (1, .int .i64 n), (5, .int .i64 (i : Int)), (12, .bool false)]) (by kernel_rfl) ?_
  refine WQ.thenN ?_
  refine WE.condF (by kernel_rfl) ?_
  refine WE.exit ?_
  refine WQ.thenE ?_
  refine WQ.thenE ?_
  refine WQ.blkE ?_
  refine WQ.thenN ?_
  refine WE.seq ?_
  refine WE.region ?_
  refine WO.run 1 0 [(4, .int .i64 (-1))] (by kernel_rfl) (by kernel_rfl) ?_
  refine WO.done (by kernel_rfl) ?_
  refine WQ.keep [0, 1, 4, 5, 12] (e' := [(0, .pointer (some ⟨g, 0, none⟩)), (1, .int .i64 n), (4, .int .i64 (-1)), (5, .int .i64 (i : Int)), (12, .bool false)]) (by kernel_rfl) ?_
  refine WQ.thenN ?_
  refine WE.ret ?_
  refine WQ.ret (v := .int .i64 (-1)) (by kernel_rfl) ?_
  exact ⟨rfl, HA⟩

set_option maxRecDepth 100000 in
set_option maxHeartbeats 400000 in
theorem mthere_down (g : Nat) (room : Int) (A : Option Addr) (nl cap : Nat) (l : List Pt) (F : List Nat) (n : Int) (w : World) (HB : Blk w g #[.int .i64 room, .slice A nl cap, .bool true] 40) (HV : VX cP 3 w F A l) (hn : l.length = nl) (hgF : g ∉ F) (hnl : nl ≤ 1000000)  :
    Calls Try.prog 36 #[.pointer (some ⟨g, 0, none⟩), .int .i64 n] w fun e w' => e = .returned (.tuple #[.int .i64 (-1), .int .i64 10]) ∧ Fr [] w w' := by
  have HA := Fr.refl [] w
  refine enter (N := 17) Try.func36 (c := _) rfl (by kernel_rfl) (by kernel_rfl) (e := [(0, .pointer (some ⟨g, 0, none⟩)), (1, .int .i64 n)]) (by kernel_rfl) ?_
  refine WE.seq ?_
  refine WE.region ?_
  refine WO.run 2 0 [(5, .int .i64 0), (4, .int .i64 0)] (by kernel_rfl) (by kernel_rfl) ?_
  refine WO.done (by kernel_rfl) ?_
  refine WQ.keep [0, 1, 4, 5] (e' := [(0, .pointer (some ⟨g, 0, none⟩)), (1, .int .i64 n), (4, .int .i64 0), (5, .int .i64 0)]) (by kernel_rfl) ?_
  refine WQ.thenN ?_
  refine WE.seq ?_
  refine WE.seq ?_
  refine WE.region ?_
  refine WO.run 3 0 [(9, .pointer (some ⟨g, 2, none⟩)), (8, .pointer (some ⟨g, 0, none⟩)), (7, .pointer (some ⟨g, 0, none⟩))] (by kernel_rfl) (by kernel_rfl) ?_
  refine WO.ld (SQ.S 3 (by kernel_rfl)) 10 (.bool true) (by kernel_rfl) (same (HB.at 2 (by kernel_rfl))) ?_
  refine WO.done (by kernel_rfl) ?_
  refine WQ.keep [0, 1, 4, 5, 10] (e' := [(0, .pointer (some ⟨g, 0, none⟩)), (1, .int .i64 n), (4, .int .i64 0), (5, .int .i64 0), (10, .bool true)]) (by kernel_rfl) ?_
  refine WQ.thenN ?_
  refine WE.condT (by kernel_rfl) ?_
  refine WE.seq ?_
  refine WE.region ?_
  refine WO.run 2 0 [(5, .int .i64 10), (4, .int .i64 (-1))] (by kernel_rfl) (by kernel_rfl) ?_
  refine WO.done (by kernel_rfl) ?_
  refine WQ.keep [0, 1, 4, 5, 10] (e' := [(0, .pointer (some ⟨g, 0, none⟩)), (1, .int .i64 n), (4, .int .i64 (-1)), (5, .int .i64 10), (10, .bool true)]) (by kernel_rfl) ?_
  refine WQ.thenN ?_
  refine WE.ret ?_
  refine WQ.thenR ?_
  refine WQ.ret (v := .tuple #[.int .i64 (-1), .int .i64 10]) (by kernel_rfl) ?_
  exact ⟨rfl, HA⟩

set_option maxRecDepth 100000 in
set_option maxHeartbeats 400000 in
theorem mthere_none (g : Nat) (room : Int) (A : Option Addr) (nl cap : Nat) (l : List Pt) (F : List Nat) (n : Int) (w : World) (HB : Blk w g #[.int .i64 room, .slice A nl cap, .bool false] 40) (HV : VX cP 3 w F A l) (hn : l.length = nl) (hgF : g ∉ F) (hnl : nl ≤ 1000000) (hno : ∀ j, j < nl → (gP l j).n ≠ n) :
    Calls Try.prog 36 #[.pointer (some ⟨g, 0, none⟩), .int .i64 n] w fun e w' => e = .returned (.tuple #[.int .i64 (-1), .int .i64 4]) ∧ Fr [] w w' := by
  have HA := Fr.refl [] w
  refine enter (N := 17) Try.func36 (c := _) rfl (by kernel_rfl) (by kernel_rfl) (e := [(0, .pointer (some ⟨g, 0, none⟩)), (1, .int .i64 n)]) (by kernel_rfl) ?_
  refine WE.seq ?_
  refine WE.region ?_
  refine WO.run 2 0 [(5, .int .i64 0), (4, .int .i64 0)] (by kernel_rfl) (by kernel_rfl) ?_
  refine WO.done (by kernel_rfl) ?_
  refine WQ.keep [0, 1, 4, 5] (e' := [(0, .pointer (some ⟨g, 0, none⟩)), (1, .int .i64 n), (4, .int .i64 0), (5, .int .i64 0)]) (by kernel_rfl) ?_
  refine WQ.thenN ?_
  refine WE.seq ?_
  refine WE.seq ?_
  refine WE.region ?_
  refine WO.run 3 0 [(9, .pointer (some ⟨g, 2, none⟩)), (8, .pointer (some ⟨g, 0, none⟩)), (7, .pointer (some ⟨g, 0, none⟩))] (by kernel_rfl) (by kernel_rfl) ?_
  refine WO.ld (SQ.S 3 (by kernel_rfl)) 10 (.bool false) (by kernel_rfl) (same (HB.at 2 (by kernel_rfl))) ?_
  refine WO.done (by kernel_rfl) ?_
  refine WQ.keep [0, 1, 4, 5, 10] (e' := [(0, .pointer (some ⟨g, 0, none⟩)), (1, .int .i64 n), (4, .int .i64 0), (5, .int .i64 0), (10, .bool false)]) (by kernel_rfl) ?_
  refine WQ.thenN ?_
  refine WE.condF (by kernel_rfl) ?_
  refine WE.skip ?_
  refine WQ.thenN ?_
  refine WE.seq ?_
  refine WE.region ?_
  refine WO.run 2 0 [(12, .int .i64 n), (11, .pointer (some ⟨g, 0, none⟩))] (by kernel_rfl) (by kernel_rfl) ?_
  refine WO.call (SQ.E 2 (by kernel_rfl)) 13 (by kernel_rfl) (mat_none g room A nl cap l F n _ _ HB HV hn hgF hnl hno) ?_
  rintro _ w1 ⟨rfl, F2⟩
  refine ⟨_, rfl, trivial, ?_⟩
  have HB := Blk.keep HB F2 (nin0 _)
  have HV := HV.keep F2 (fun _ _ => nin0 _)
  have HA := Fr.step0 HA F2
  refine WO.run 1 3 [(6, .int .i64 (-1))] (by kernel_rfl) (by kernel_rfl) ?_
  refine WO.done (by kernel_rfl) ?_
  refine WQ.keep [0, 1, 4, 5, 6, 10] (e' := [(0, .pointer (some ⟨g, 0, none⟩)), (1, .int .i64 n), (4, .int .i64 0), (5, .int .i64 0), (6, .int .i64 (-1)), (10, .bool false)]) (by kernel_rfl) ?_
  refine WQ.thenN ?_
  refine WE.seq ?_
  refine WE.seq ?_
  refine WE.region ?_
  refine WO.run 2 0 [(15, .bool true), (14, .int .i64 (-1))] (by kernel_rfl) (by kernel_rfl) ?_
  refine WO.done (by kernel_rfl) ?_
  refine WQ.keep [0, 1, 4, 5, 6, 10, 15] (e' := [(0, .pointer (some ⟨g, 0, none⟩)), (1, .int .i64 n), (4, .int .i64 0), (5, .int .i64 0), (6, .int .i64 (-1)), (10, .bool false), (15, .bool true)]) (by kernel_rfl) ?_
  refine WQ.thenN ?_
  refine WE.condT (by kernel_rfl) ?_
  refine WE.seq ?_
  refine WE.region ?_
  refine WO.run 2 0 [(5, .int .i64 4), (4, .int .i64 (-1))] (by kernel_rfl) (by kernel_rfl) ?_
  refine WO.done (by kernel_rfl) ?_
  refine WQ.keep [0, 1, 4, 5, 6, 10, 15] (e' := [(0, .pointer (some ⟨g, 0, none⟩)), (1, .int .i64 n), (4, .int .i64 (-1)), (5, .int .i64 4), (6, .int .i64 (-1)), (10, .bool false), (15, .bool true)]) (by kernel_rfl) ?_
  refine WQ.thenN ?_
  refine WE.ret ?_
  refine WQ.thenR ?_
  refine WQ.ret (v := .tuple #[.int .i64 (-1), .int .i64 4]) (by kernel_rfl) ?_
  exact ⟨rfl, HA⟩

set_option maxRecDepth 100000 in
set_option maxHeartbeats 400000 in
theorem mthere_some (g : Nat) (room : Int) (A : Option Addr) (nl cap : Nat) (l : List Pt) (F : List Nat) (n : Int) (w : World) (HB : Blk w g #[.int .i64 room, .slice A nl cap, .bool false] 40) (HV : VX cP 3 w F A l) (hn : l.length = nl) (hgF : g ∉ F) (hnl : nl ≤ 1000000) (k : Nat) (hk : k < nl) (hkn : (gP l k).n = n) (hbef : ∀ j, j < k → (gP l j).n ≠ n) :
    Calls Try.prog 36 #[.pointer (some ⟨g, 0, none⟩), .int .i64 n] w fun e w' => e = .returned (.tuple #[.int .i64 (k : Int), .int .i64 0]) ∧ Fr [] w w' := by
  have HA := Fr.refl [] w
  refine enter (N := 17) Try.func36 (c := _) rfl (by kernel_rfl) (by kernel_rfl) (e := [(0, .pointer (some ⟨g, 0, none⟩)), (1, .int .i64 n)]) (by kernel_rfl) ?_
  refine WE.seq ?_
  refine WE.region ?_
  refine WO.run 2 0 [(5, .int .i64 0), (4, .int .i64 0)] (by kernel_rfl) (by kernel_rfl) ?_
  refine WO.done (by kernel_rfl) ?_
  refine WQ.keep [0, 1, 4, 5] (e' := [(0, .pointer (some ⟨g, 0, none⟩)), (1, .int .i64 n), (4, .int .i64 0), (5, .int .i64 0)]) (by kernel_rfl) ?_
  refine WQ.thenN ?_
  refine WE.seq ?_
  refine WE.seq ?_
  refine WE.region ?_
  refine WO.run 3 0 [(9, .pointer (some ⟨g, 2, none⟩)), (8, .pointer (some ⟨g, 0, none⟩)), (7, .pointer (some ⟨g, 0, none⟩))] (by kernel_rfl) (by kernel_rfl) ?_
  refine WO.ld (SQ.S 3 (by kernel_rfl)) 10 (.bool false) (by kernel_rfl) (same (HB.at 2 (by kernel_rfl))) ?_
  refine WO.done (by kernel_rfl) ?_
  refine WQ.keep [0, 1, 4, 5, 10] (e' := [(0, .pointer (some ⟨g, 0, none⟩)), (1, .int .i64 n), (4, .int .i64 0), (5, .int .i64 0), (10, .bool false)]) (by kernel_rfl) ?_
  refine WQ.thenN ?_
  refine WE.condF (by kernel_rfl) ?_
  refine WE.skip ?_
  refine WQ.thenN ?_
  refine WE.seq ?_
  refine WE.region ?_
  refine WO.run 2 0 [(12, .int .i64 n), (11, .pointer (some ⟨g, 0, none⟩))] (by kernel_rfl) (by kernel_rfl) ?_
  refine WO.call (SQ.E 2 (by kernel_rfl)) 13 (by kernel_rfl) (mat_some g room A nl cap l F n _ _ HB HV hn hgF hnl k hk hkn hbef) ?_
  rintro _ w1 ⟨rfl, F2⟩
  refine ⟨_, rfl, trivial, ?_⟩
  have HB := Blk.keep HB F2 (nin0 _)
  have HV := HV.keep F2 (fun _ _ => nin0 _)
  have HA := Fr.step0 HA F2
  refine WO.run 1 3 [(6, .int .i64 (k : Int))] (by kernel_rfl) (by kernel_rfl) ?_
  refine WO.done (by kernel_rfl) ?_
  refine WQ.keep [0, 1, 4, 5, 6, 10] (e' := [(0, .pointer (some ⟨g, 0, none⟩)), (1, .int .i64 n), (4, .int .i64 0), (5, .int .i64 0), (6, .int .i64 (k : Int)), (10, .bool false)]) (by kernel_rfl) ?_
  refine WQ.thenN ?_
  refine WE.seq ?_
  refine WE.seq ?_
  refine WE.region ?_
  refine WO.run 1 0 [(14, .int .i64 (k : Int))] (by kernel_rfl) (by kernel_rfl) ?_
  refine WO.one (SQ.F 1 (by kernel_rfl)) 15 (.bool (decide (((k : Int) : Int) < (0 : Int)))) (by kernel_rfl) ?_
  refine WO.topPF (((k : Int) : Int) < (0 : Int)) (by omega) ?_
  refine WO.done (by kernel_rfl) ?_
  refine WQ.keep [0, 1, 4, 5, 6, 10, 15] (e' := [(0, .pointer (some ⟨g, 0, none⟩)), (1, .int .i64 n), (4, .int .i64 0), (5, .int .i64 0), (6, .int .i64 (k : Int)), (10, .bool false), (15, .bool false)]) (by kernel_rfl) ?_
  refine WQ.thenN ?_
  refine WE.condF (by kernel_rfl) ?_
  refine WE.skip ?_
  refine WQ.thenN ?_
  refine WE.seq ?_
  refine WE.region ?_
  refine WO.run 3 0 [(5, .int .i64 0), (4, .int .i64 (k : Int)), (16, .int .i64 (k : Int))] (by kernel_rfl) (by kernel_rfl) ?_
  refine WO.done (by kernel_rfl) ?_
  refine WQ.keep [0, 1, 4, 5, 6, 10, 15] (e' := [(0, .pointer (some ⟨g, 0, none⟩)), (1, .int .i64 n), (4, .int .i64 (k : Int)), (5, .int .i64 0), (6, .int .i64 (k : Int)), (10, .bool false), (15, .bool false)]) (by kernel_rfl) ?_
  refine WQ.thenN ?_
  refine WE.ret ?_
  refine WQ.ret (v := .tuple #[.int .i64 (k : Int), .int .i64 0]) (by kernel_rfl) ?_
  exact ⟨rfl, HA⟩

set_option maxRecDepth 100000 in
set_option maxHeartbeats 400000 in
theorem mused_any (g : Nat) (room : Int) (A : Option Addr) (nl cap : Nat) (l : List Pt) (F : List Nat) (w : World) (dn : Bool) (HB : Blk w g #[.int .i64 room, .slice A nl cap, .bool dn] 40) (HV : VX cP 3 w F A l) (hn : l.length = nl) (hgF : g ∉ F) (hnl : nl ≤ 1000000) (hu : usedL l ≤ 1000000) :
    Calls Try.prog 24 #[.pointer (some ⟨g, 0, none⟩)] w fun e w' => e = .returned (.int .i64 (usedL l : Int)) ∧ Fr [] w w' := by
  have HA := Fr.refl [] w
  refine enter (N := 26) Try.func24 (c := _) rfl (by kernel_rfl) (by kernel_rfl) (e := [(0, .pointer (some ⟨g, 0, none⟩))]) (by kernel_rfl) ?_
  refine WE.seq ?_
  refine WE.region ?_
  refine WO.run 1 0 [(2, .int .i64 0)] (by kernel_rfl) (by kernel_rfl) ?_
  refine WO.done (by kernel_rfl) ?_
  refine WQ.keep [0, 2] (e' := [(0, .pointer (some ⟨g, 0, none⟩)), (2, .int .i64 0)]) (by kernel_rfl) ?_
  refine WQ.thenN ?_
  refine WE.seq ?_
  refine WE.region ?_
  refine WO.run 1 0 [(3, .int .i64 0)] (by kernel_rfl) (by kernel_rfl) ?_
  refine WO.done (by kernel_rfl) ?_
  refine WQ.keep [0, 2, 3] (e' := [(0, .pointer (some ⟨g, 0, none⟩)), (2, .int .i64 0), (3, .int .i64 0)]) (by kernel_rfl) ?_
  refine WQ.thenN ?_
  refine WE.seq ?_
  refine WE.seq ?_
  refine WE.region ?_
  refine WO.run 1 0 [(4, .int .i64 0)] (by kernel_rfl) (by kernel_rfl) ?_
  refine WO.done (by kernel_rfl) ?_
  refine WQ.keep [0, 2, 3, 4] (e' := [(0, .pointer (some ⟨g, 0, none⟩)), (2, .int .i64 0), (3, .int .i64 0), (4, .int .i64 0)]) (by kernel_rfl) ?_
  refine WQ.thenN ?_
  refine WE.block ?_
  refine WE.loop (α := Nat) (E := fun i => [(0, .pointer (some ⟨g, 0, none⟩)), (3, .int .i64 ((usedL (l.take i) : Nat) : Int)), (4, .int .i64 (i : Int))]) (I := fun i wr => i ≤ nl ∧ w = wr) (m := fun i => nl - i) 0 [0, 3, 4] (by kernel_rfl) ?_ ?_
  · exact ⟨Nat.zero_le _, rfl⟩
  rintro i wr ⟨hi, hw⟩
  subst hw
  refine WE.seq ?_
  refine WE.seq ?_
  refine WE.region ?_
  refine WO.run 4 0 [(8, .pointer (some ⟨g, 1, none⟩)), (7, .pointer (some ⟨g, 0, none⟩)), (6, .pointer (some ⟨g, 0, none⟩)), (5, .int .i64 (i : Int))] (by kernel_rfl) (by kernel_rfl) ?_
  refine WO.ld (SQ.S 4 (by kernel_rfl)) 9 (.slice A nl cap) (by kernel_rfl) (same (HB.at 1 (by kernel_rfl))) ?_
  refine WO.run 1 5 [(10, .int .i64 (nl : Int))] (by kernel_rfl) (by kernel_rfl) ?_
  refine WO.one (SQ.F 6 (by kernel_rfl)) 11 (.bool (decide (((i : Int) : Int) < (nl : Int)))) (by kernel_rfl) ?_
  refine WO.topP (((i : Int) : Int) < (nl : Int)) ?_ ?_
  · intro h1
    refine WO.done (by kernel_rfl) ?_
    refine WQ.keep [0, 3, 4, 11] (e' := [(0, .pointer (some ⟨g, 0, none⟩)), (3, .int .i64 ((usedL (l.take i) : Nat) : Int)), (4, .int .i64 (i : Int)), (11, .bool true)]) (by kernel_rfl) ?_
    refine WQ.thenN ?_
    refine WE.condT (by kernel_rfl) ?_
    refine WE.skip ?_
    refine WQ.thenN ?_
    refine WE.seq ?_
    refine WE.block ?_
    have hst := used_step l i (by omega)
    have hle := used_take l (i + 1)
    refine WE.region ?_
    refine WO.run 4 0 [(17, .pointer (some ⟨g, 1, none⟩)), (16, .pointer (some ⟨g, 0, none⟩)), (15, .pointer (some ⟨g, 0, none⟩)), (14, .int .i64 ((usedL (l.take i) : Nat) : Int))] (by kernel_rfl) (by kernel_rfl) ?_
    refine WO.ld (SQ.S 4 (by kernel_rfl)) 18 (.slice A nl cap) (by kernel_rfl) (same (HB.at 1 (by kernel_rfl))) ?_
    refine WO.run 1 5 [(19, .int .i64 (i : Int))] (by kernel_rfl) (by kernel_rfl) ?_
    obtain ⟨ad2, hA3⟩ := HV.addr (i := i) (by have := hn; omega)
    refine WO.ixo (SQ.F 6 (by kernel_rfl)) 20 nl 3 i (i : Int) hA3 (by kernel_rfl) rfl (by omega) ?_
    refine WO.run 1 7 [(21, .pointer (some ((ad2.add (i * 3)).add 1)))] (by kernel_rfl) (by kernel_rfl) ?_
    refine WO.ld (SQ.S 8 (by kernel_rfl)) 22 (.string (str (gP l i).b)) (by kernel_rfl) (same (HV.at hA3 (gP_some l i (by have := hn; omega)) 1 (by kernel_rfl))) ?_
    refine WO.run 1 9 [(23, .int .i64 (((gP l i).b).length : Int))] (by kernel_rfl) (by kernel_rfl) ?_
    refine WO.one (SQ.F 10 (by kernel_rfl)) 24 (.int .i64 (IntKind.i64.wrap (((usedL (l.take i) : Nat) : Int) + (((gP l i).b).length : Int)))) (by kernel_rfl) ?_
    refine WO.top (v' := .int .i64 ((usedL (l.take (i + 1)) : Nat) : Int)) (wrap_i64 (by rw [hst]; simp) (by omega)) ?_
    refine WO.run 1 11 [(3, .int .i64 ((usedL (l.take (i + 1)) : Nat) : Int))] (by kernel_rfl) (by kernel_rfl) ?_
    refine WO.done (by kernel_rfl) ?_
    refine WQ.keep [0, 3, 4, 11] (e' := [(0, .pointer (some ⟨g, 0, none⟩)), (3, .int .i64 ((usedL (l.take (i + 1)) : Nat) : Int)), (4, .int .i64 (i : Int)), (11, .bool true)]) (by kernel_rfl) ?_
    refine WQ.blkN ?_
    refine WQ.thenN ?_
    refine WE.region ?_
    refine WO.run 1 0 [(12, .int .i64 (i : Int))] (by kernel_rfl) (by kernel_rfl) ?_
    refine WO.one (SQ.F 1 (by kernel_rfl)) 13 (.int .i64 (IntKind.i64.wrap ((i : Int) + 1))) (by kernel_rfl) ?_
    refine WO.top (v' := .int .i64 ((i + 1 : Nat) : Int)) (wrap_i64 (by omega) (by omega)) ?_
    refine WO.run 1 2 [(4, .int .i64 ((i + 1 : Nat) : Int))] (by kernel_rfl) (by kernel_rfl) ?_
    refine WO.done (by kernel_rfl) ?_
    refine WQ.keep [0, 3, 4, 11] (e' := [(0, .pointer (some ⟨g, 0, none⟩)), (3, .int .i64 ((usedL (l.take (i + 1)) : Nat) : Int)), (4, .int .i64 ((i + 1 : Nat) : Int)), (11, .bool true)]) (by kernel_rfl) ?_
    refine WQ.round ?_
    intro a_ ha_
    refine ⟨i + 1, ?_, ha_.keep [0, 3, 4] (by kernel_rfl), ?_⟩
    · omega
    · exact ⟨by omega, rfl⟩
  intro h1
  refine WO.done (by kernel_rfl) ?_
  refine WQ.keep [0, 3, 4, 11] (e' := [(0, .pointer (some ⟨g, 0, none⟩)), (3, .int .i64 ((usedL (l.take i) : Nat) : Int)), (4, .int .i64 (i : Int)), (11, .bool false)]) (by kernel_rfl) ?_
  refine WQ.thenN ?_
  refine WE.condF (by kernel_rfl) ?_
  refine WE.exit ?_
  refine WQ.thenE ?_
  refine WQ.thenE ?_
  refine WQ.blkE ?_
  refine WQ.thenN ?_
  refine WE.seq ?_
  refine WE.region ?_
  refine WO.run 2 0 [(2, .int .i64 ((usedL (l.take i) : Nat) : Int)), (25, .int .i64 ((usedL (l.take i) : Nat) : Int))] (by kernel_rfl) (by kernel_rfl) ?_
  refine WO.done (by kernel_rfl) ?_
  refine WQ.keep [0, 2, 3, 4, 11] (e' := [(0, .pointer (some ⟨g, 0, none⟩)), (2, .int .i64 ((usedL (l.take i) : Nat) : Int)), (3, .int .i64 ((usedL (l.take i) : Nat) : Int)), (4, .int .i64 (i : Int)), (11, .bool false)]) (by kernel_rfl) ?_
  refine WQ.thenN ?_
  refine WE.ret ?_
  refine WQ.ret (v := .int .i64 ((usedL (l.take i) : Nat) : Int)) (by kernel_rfl) ?_
  exact ⟨by rw [show i = l.length by omega, List.take_length], HA⟩

set_option maxRecDepth 100000 in
set_option maxHeartbeats 400000 in
theorem mread_down (g : Nat) (room : Int) (A : Option Addr) (nl cap : Nat) (l : List Pt) (F : List Nat) (n : Int) (w : World) (HB : Blk w g #[.int .i64 room, .slice A nl cap, .bool true] 40) (HV : VX cP 3 w F A l) (hn : l.length = nl) (hgF : g ∉ F) (hnl : nl ≤ 1000000)  :
    Calls Try.prog 20 #[.pointer (some ⟨g, 0, none⟩), .int .i64 n] w fun e w' => e = .returned (.tuple #[.string (⟨#[]⟩), .int .i64 10]) ∧ Fr [] w w' := by
  have HA := Fr.refl [] w
  refine enter (N := 25) Try.func20 (c := _) rfl (by kernel_rfl) (by kernel_rfl) (e := [(0, .pointer (some ⟨g, 0, none⟩)), (1, .int .i64 n)]) (by kernel_rfl) ?_
  refine WE.seq ?_
  refine WE.region ?_
  refine WO.run 2 0 [(5, .int .i64 0), (4, .string (⟨#[]⟩))] (by kernel_rfl) (by kernel_rfl) ?_
  refine WO.done (by kernel_rfl) ?_
  refine WQ.keep [0, 1, 4, 5] (e' := [(0, .pointer (some ⟨g, 0, none⟩)), (1, .int .i64 n), (4, .string (⟨#[]⟩)), (5, .int .i64 0)]) (by kernel_rfl) ?_
  refine WQ.thenN ?_
  refine WE.seq ?_
  refine WE.region ?_
  refine WO.run 2 0 [(10, .int .i64 n), (9, .pointer (some ⟨g, 0, none⟩))] (by kernel_rfl) (by kernel_rfl) ?_
  refine WO.call (SQ.E 2 (by kernel_rfl)) 11 (by kernel_rfl) (mthere_down g room A nl cap l F n _ HB HV hn hgF hnl ) ?_
  rintro _ w1 ⟨rfl, F2⟩
  refine ⟨_, rfl, trivial, ?_⟩
  have HB := Blk.keep HB F2 (nin0 _)
  have HV := HV.keep F2 (fun _ _ => nin0 _)
  have HA := Fr.step0 HA F2
  refine WO.run 5 3 [(7, .int .i64 10), (6, .int .i64 (-1)), (13, .int .i64 10), (12, .int .i64 (-1)), (8, .tuple #[.int .i64 (-1), .int .i64 10])] (by kernel_rfl) (by kernel_rfl) ?_
  refine WO.done (by kernel_rfl) ?_
  refine WQ.keep [0, 1, 4, 5, 6, 7] (e' := [(0, .pointer (some ⟨g, 0, none⟩)), (1, .int .i64 n), (4, .string (⟨#[]⟩)), (5, .int .i64 0), (6, .int .i64 (-1)), (7, .int .i64 10)]) (by kernel_rfl) ?_
  refine WQ.thenN ?_
  refine WE.seq ?_
  refine WE.seq ?_
  refine WE.region ?_
  refine WO.run 2 0 [(15, .bool true), (14, .int .i64 10)] (by kernel_rfl) (by kernel_rfl) ?_
  refine WO.done (by kernel_rfl) ?_
  refine WQ.keep [0, 1, 4, 5, 6, 7, 15] (e' := [(0, .pointer (some ⟨g, 0, none⟩)), (1, .int .i64 n), (4, .string (⟨#[]⟩)), (5, .int .i64 0), (6, .int .i64 (-1)), (7, .int .i64 10), (15, .bool true)]) (by kernel_rfl) ?_
  refine WQ.thenN ?_
  refine WE.condT (by kernel_rfl) ?_
  refine WE.seq ?_
  refine WE.region ?_
  refine WO.run 3 0 [(5, .int .i64 10), (4, .string (⟨#[]⟩)), (16, .int .i64 10)] (by kernel_rfl) (by kernel_rfl) ?_
  refine WO.done (by kernel_rfl) ?_
  refine WQ.keep [0, 1, 4, 5, 6, 7, 15] (e' := [(0, .pointer (some ⟨g, 0, none⟩)), (1, .int .i64 n), (4, .string (⟨#[]⟩)), (5, .int .i64 10), (6, .int .i64 (-1)), (7, .int .i64 10), (15, .bool true)]) (by kernel_rfl) ?_
  refine WQ.thenN ?_
  refine WE.ret ?_
  refine WQ.thenR ?_
  refine WQ.ret (v := .tuple #[.string (⟨#[]⟩), .int .i64 10]) (by kernel_rfl) ?_
  exact ⟨rfl, HA⟩

set_option maxRecDepth 100000 in
set_option maxHeartbeats 400000 in
theorem mread_none (g : Nat) (room : Int) (A : Option Addr) (nl cap : Nat) (l : List Pt) (F : List Nat) (n : Int) (w : World) (HB : Blk w g #[.int .i64 room, .slice A nl cap, .bool false] 40) (HV : VX cP 3 w F A l) (hn : l.length = nl) (hgF : g ∉ F) (hnl : nl ≤ 1000000) (hno : ∀ j, j < nl → (gP l j).n ≠ n) :
    Calls Try.prog 20 #[.pointer (some ⟨g, 0, none⟩), .int .i64 n] w fun e w' => e = .returned (.tuple #[.string (⟨#[]⟩), .int .i64 4]) ∧ Fr [] w w' := by
  have HA := Fr.refl [] w
  refine enter (N := 25) Try.func20 (c := _) rfl (by kernel_rfl) (by kernel_rfl) (e := [(0, .pointer (some ⟨g, 0, none⟩)), (1, .int .i64 n)]) (by kernel_rfl) ?_
  refine WE.seq ?_
  refine WE.region ?_
  refine WO.run 2 0 [(5, .int .i64 0), (4, .string (⟨#[]⟩))] (by kernel_rfl) (by kernel_rfl) ?_
  refine WO.done (by kernel_rfl) ?_
  refine WQ.keep [0, 1, 4, 5] (e' := [(0, .pointer (some ⟨g, 0, none⟩)), (1, .int .i64 n), (4, .string (⟨#[]⟩)), (5, .int .i64 0)]) (by kernel_rfl) ?_
  refine WQ.thenN ?_
  refine WE.seq ?_
  refine WE.region ?_
  refine WO.run 2 0 [(10, .int .i64 n), (9, .pointer (some ⟨g, 0, none⟩))] (by kernel_rfl) (by kernel_rfl) ?_
  refine WO.call (SQ.E 2 (by kernel_rfl)) 11 (by kernel_rfl) (mthere_none g room A nl cap l F n _ HB HV hn hgF hnl hno) ?_
  rintro _ w1 ⟨rfl, F2⟩
  refine ⟨_, rfl, trivial, ?_⟩
  have HB := Blk.keep HB F2 (nin0 _)
  have HV := HV.keep F2 (fun _ _ => nin0 _)
  have HA := Fr.step0 HA F2
  refine WO.run 5 3 [(7, .int .i64 4), (6, .int .i64 (-1)), (13, .int .i64 4), (12, .int .i64 (-1)), (8, .tuple #[.int .i64 (-1), .int .i64 4])] (by kernel_rfl) (by kernel_rfl) ?_
  refine WO.done (by kernel_rfl) ?_
  refine WQ.keep [0, 1, 4, 5, 6, 7] (e' := [(0, .pointer (some ⟨g, 0, none⟩)), (1, .int .i64 n), (4, .string (⟨#[]⟩)), (5, .int .i64 0), (6, .int .i64 (-1)), (7, .int .i64 4)]) (by kernel_rfl) ?_
  refine WQ.thenN ?_
  refine WE.seq ?_
  refine WE.seq ?_
  refine WE.region ?_
  refine WO.run 2 0 [(15, .bool true), (14, .int .i64 4)] (by kernel_rfl) (by kernel_rfl) ?_
  refine WO.done (by kernel_rfl) ?_
  refine WQ.keep [0, 1, 4, 5, 6, 7, 15] (e' := [(0, .pointer (some ⟨g, 0, none⟩)), (1, .int .i64 n), (4, .string (⟨#[]⟩)), (5, .int .i64 0), (6, .int .i64 (-1)), (7, .int .i64 4), (15, .bool true)]) (by kernel_rfl) ?_
  refine WQ.thenN ?_
  refine WE.condT (by kernel_rfl) ?_
  refine WE.seq ?_
  refine WE.region ?_
  refine WO.run 3 0 [(5, .int .i64 4), (4, .string (⟨#[]⟩)), (16, .int .i64 4)] (by kernel_rfl) (by kernel_rfl) ?_
  refine WO.done (by kernel_rfl) ?_
  refine WQ.keep [0, 1, 4, 5, 6, 7, 15] (e' := [(0, .pointer (some ⟨g, 0, none⟩)), (1, .int .i64 n), (4, .string (⟨#[]⟩)), (5, .int .i64 4), (6, .int .i64 (-1)), (7, .int .i64 4), (15, .bool true)]) (by kernel_rfl) ?_
  refine WQ.thenN ?_
  refine WE.ret ?_
  refine WQ.thenR ?_
  refine WQ.ret (v := .tuple #[.string (⟨#[]⟩), .int .i64 4]) (by kernel_rfl) ?_
  exact ⟨rfl, HA⟩

set_option maxRecDepth 100000 in
set_option maxHeartbeats 400000 in
theorem mread_some (g : Nat) (room : Int) (A : Option Addr) (nl cap : Nat) (l : List Pt) (F : List Nat) (n : Int) (w : World) (HB : Blk w g #[.int .i64 room, .slice A nl cap, .bool false] 40) (HV : VX cP 3 w F A l) (hn : l.length = nl) (hgF : g ∉ F) (hnl : nl ≤ 1000000) (k : Nat) (hk : k < nl) (hkn : (gP l k).n = n) (hbef : ∀ j, j < k → (gP l j).n ≠ n) :
    Calls Try.prog 20 #[.pointer (some ⟨g, 0, none⟩), .int .i64 n] w fun e w' => e = .returned (.tuple #[.string (str (gP l k).b), .int .i64 0]) ∧ Fr [] w w' := by
  have HA := Fr.refl [] w
  refine enter (N := 25) Try.func20 (c := _) rfl (by kernel_rfl) (by kernel_rfl) (e := [(0, .pointer (some ⟨g, 0, none⟩)), (1, .int .i64 n)]) (by kernel_rfl) ?_
  refine WE.seq ?_
  refine WE.region ?_
  refine WO.run 2 0 [(5, .int .i64 0), (4, .string (⟨#[]⟩))] (by kernel_rfl) (by kernel_rfl) ?_
  refine WO.done (by kernel_rfl) ?_
  refine WQ.keep [0, 1, 4, 5] (e' := [(0, .pointer (some ⟨g, 0, none⟩)), (1, .int .i64 n), (4, .string (⟨#[]⟩)), (5, .int .i64 0)]) (by kernel_rfl) ?_
  refine WQ.thenN ?_
  refine WE.seq ?_
  refine WE.region ?_
  refine WO.run 2 0 [(10, .int .i64 n), (9, .pointer (some ⟨g, 0, none⟩))] (by kernel_rfl) (by kernel_rfl) ?_
  refine WO.call (SQ.E 2 (by kernel_rfl)) 11 (by kernel_rfl) (mthere_some g room A nl cap l F n _ HB HV hn hgF hnl k hk hkn hbef) ?_
  rintro _ w1 ⟨rfl, F2⟩
  refine ⟨_, rfl, trivial, ?_⟩
  have HB := Blk.keep HB F2 (nin0 _)
  have HV := HV.keep F2 (fun _ _ => nin0 _)
  have HA := Fr.step0 HA F2
  refine WO.run 5 3 [(7, .int .i64 0), (6, .int .i64 (k : Int)), (13, .int .i64 0), (12, .int .i64 (k : Int)), (8, .tuple #[.int .i64 (k : Int), .int .i64 0])] (by kernel_rfl) (by kernel_rfl) ?_
  refine WO.done (by kernel_rfl) ?_
  refine WQ.keep [0, 1, 4, 5, 6, 7] (e' := [(0, .pointer (some ⟨g, 0, none⟩)), (1, .int .i64 n), (4, .string (⟨#[]⟩)), (5, .int .i64 0), (6, .int .i64 (k : Int)), (7, .int .i64 0)]) (by kernel_rfl) ?_
  refine WQ.thenN ?_
  refine WE.seq ?_
  refine WE.seq ?_
  refine WE.region ?_
  refine WO.run 2 0 [(15, .bool false), (14, .int .i64 0)] (by kernel_rfl) (by kernel_rfl) ?_
  refine WO.done (by kernel_rfl) ?_
  refine WQ.keep [0, 1, 4, 5, 6, 7, 15] (e' := [(0, .pointer (some ⟨g, 0, none⟩)), (1, .int .i64 n), (4, .string (⟨#[]⟩)), (5, .int .i64 0), (6, .int .i64 (k : Int)), (7, .int .i64 0), (15, .bool false)]) (by kernel_rfl) ?_
  refine WQ.thenN ?_
  refine WE.condF (by kernel_rfl) ?_
  refine WE.skip ?_
  refine WQ.thenN ?_
  refine WE.seq ?_
  refine WE.region ?_
  refine WO.run 3 0 [(19, .pointer (some ⟨g, 1, none⟩)), (18, .pointer (some ⟨g, 0, none⟩)), (17, .pointer (some ⟨g, 0, none⟩))] (by kernel_rfl) (by kernel_rfl) ?_
  refine WO.ld (SQ.S 3 (by kernel_rfl)) 20 (.slice A nl cap) (by kernel_rfl) (same (HB.at 1 (by kernel_rfl))) ?_
  refine WO.run 1 4 [(21, .int .i64 (k : Int))] (by kernel_rfl) (by kernel_rfl) ?_
  obtain ⟨ad3, hA4⟩ := HV.addr (i := k) (by have := hn; omega)
  refine WO.ixo (SQ.F 5 (by kernel_rfl)) 22 nl 3 k (k : Int) hA4 (by kernel_rfl) rfl (by omega) ?_
  refine WO.run 1 6 [(23, .pointer (some ((ad3.add (k * 3)).add 1)))] (by kernel_rfl) (by kernel_rfl) ?_
  refine WO.ld (SQ.S 7 (by kernel_rfl)) 24 (.string (str (gP l k).b)) (by kernel_rfl) (same (HV.at hA4 (gP_some l k (by have := hn; omega)) 1 (by kernel_rfl))) ?_
  refine WO.run 2 8 [(5, .int .i64 0), (4, .string (str (gP l k).b))] (by kernel_rfl) (by kernel_rfl) ?_
  refine WO.done (by kernel_rfl) ?_
  refine WQ.keep [0, 1, 4, 5, 6, 7, 15] (e' := [(0, .pointer (some ⟨g, 0, none⟩)), (1, .int .i64 n), (4, .string (str (gP l k).b)), (5, .int .i64 0), (6, .int .i64 (k : Int)), (7, .int .i64 0), (15, .bool false)]) (by kernel_rfl) ?_
  refine WQ.thenN ?_
  refine WE.ret ?_
  refine WQ.ret (v := .tuple #[.string (str (gP l k).b), .int .i64 0]) (by kernel_rfl) ?_
  exact ⟨rfl, HA⟩

set_option maxRecDepth 100000 in
set_option maxHeartbeats 400000 in
theorem msync_down (g : Nat) (room : Int) (A : Option Addr) (nl cap : Nat) (l : List Pt) (F : List Nat) (n : Int) (w : World) (HB : Blk w g #[.int .i64 room, .slice A nl cap, .bool true] 40) (HV : VX cP 3 w F A l) (hn : l.length = nl) (hgF : g ∉ F) (hnl : nl ≤ 1000000)  :
    Calls Try.prog 15 #[.pointer (some ⟨g, 0, none⟩), .int .i64 n] w fun e w' => e = .returned (.int .i64 10) ∧ Fr [] w w' := by
  have HA := Fr.refl [] w
  refine enter (N := 32) Try.func15 (c := _) rfl (by kernel_rfl) (by kernel_rfl) (e := [(0, .pointer (some ⟨g, 0, none⟩)), (1, .int .i64 n)]) (by kernel_rfl) ?_
  refine WE.seq ?_
  refine WE.region ?_
  refine WO.run 1 0 [(4, .int .i64 0)] (by kernel_rfl) (by kernel_rfl) ?_
  refine WO.done (by kernel_rfl) ?_
  refine WQ.keep [0, 1, 4] (e' := [(0, .pointer (some ⟨g, 0, none⟩)), (1, .int .i64 n), (4, .int .i64 0)]) (by kernel_rfl) ?_
  refine WQ.thenN ?_
  refine WE.seq ?_
  refine WE.region ?_
  refine WO.run 2 0 [(9, .int .i64 n), (8, .pointer (some ⟨g, 0, none⟩))] (by kernel_rfl) (by kernel_rfl) ?_
  refine WO.call (SQ.E 2 (by kernel_rfl)) 10 (by kernel_rfl) (mthere_down g room A nl cap l F n _ HB HV hn hgF hnl ) ?_
  rintro _ w1 ⟨rfl, F2⟩
  refine ⟨_, rfl, trivial, ?_⟩
  have HB := Blk.keep HB F2 (nin0 _)
  have HV := HV.keep F2 (fun _ _ => nin0 _)
  have HA := Fr.step0 HA F2
  refine WO.run 5 3 [(6, .int .i64 10), (5, .int .i64 (-1)), (12, .int .i64 10), (11, .int .i64 (-1)), (7, .tuple #[.int .i64 (-1), .int .i64 10])] (by kernel_rfl) (by kernel_rfl) ?_
  refine WO.done (by kernel_rfl) ?_
  refine WQ.keep [0, 1, 4, 5, 6] (e' := [(0, .pointer (some ⟨g, 0, none⟩)), (1, .int .i64 n), (4, .int .i64 0), (5, .int .i64 (-1)), (6, .int .i64 10)]) (by kernel_rfl) ?_
  refine WQ.thenN ?_
  refine WE.seq ?_
  refine WE.seq ?_
  refine WE.region ?_
  refine WO.run 2 0 [(14, .bool false), (13, .int .i64 10)] (by kernel_rfl) (by kernel_rfl) ?_
  refine WO.done (by kernel_rfl) ?_
  refine WQ.keep [0, 1, 4, 5, 6, 14] (e' := [(0, .pointer (some ⟨g, 0, none⟩)), (1, .int .i64 n), (4, .int .i64 0), (5, .int .i64 (-1)), (6, .int .i64 10), (14, .bool false)]) (by kernel_rfl) ?_
  refine WQ.thenN ?_
  refine WE.condF (by kernel_rfl) ?_
  refine WE.skip ?_
  refine WQ.thenN ?_
  refine WE.seq ?_
  refine WE.region ?_
  refine WO.run 2 0 [(4, .int .i64 10), (31, .int .i64 10)] (by kernel_rfl) (by kernel_rfl) ?_
  refine WO.done (by kernel_rfl) ?_
  refine WQ.keep [0, 1, 4, 5, 6, 14] (e' := [(0, .pointer (some ⟨g, 0, none⟩)), (1, .int .i64 n), (4, .int .i64 10), (5, .int .i64 (-1)), (6, .int .i64 10), (14, .bool false)]) (by kernel_rfl) ?_
  refine WQ.thenN ?_
  refine WE.ret ?_
  refine WQ.ret (v := .int .i64 10) (by kernel_rfl) ?_
  exact ⟨rfl, HA⟩

set_option maxRecDepth 100000 in
set_option maxHeartbeats 400000 in
theorem msync_none (g : Nat) (room : Int) (A : Option Addr) (nl cap : Nat) (l : List Pt) (F : List Nat) (n : Int) (w : World) (HB : Blk w g #[.int .i64 room, .slice A nl cap, .bool false] 40) (HV : VX cP 3 w F A l) (hn : l.length = nl) (hgF : g ∉ F) (hnl : nl ≤ 1000000) (hno : ∀ j, j < nl → (gP l j).n ≠ n) :
    Calls Try.prog 15 #[.pointer (some ⟨g, 0, none⟩), .int .i64 n] w fun e w' => e = .returned (.int .i64 4) ∧ Fr [] w w' := by
  have HA := Fr.refl [] w
  refine enter (N := 32) Try.func15 (c := _) rfl (by kernel_rfl) (by kernel_rfl) (e := [(0, .pointer (some ⟨g, 0, none⟩)), (1, .int .i64 n)]) (by kernel_rfl) ?_
  refine WE.seq ?_
  refine WE.region ?_
  refine WO.run 1 0 [(4, .int .i64 0)] (by kernel_rfl) (by kernel_rfl) ?_
  refine WO.done (by kernel_rfl) ?_
  refine WQ.keep [0, 1, 4] (e' := [(0, .pointer (some ⟨g, 0, none⟩)), (1, .int .i64 n), (4, .int .i64 0)]) (by kernel_rfl) ?_
  refine WQ.thenN ?_
  refine WE.seq ?_
  refine WE.region ?_
  refine WO.run 2 0 [(9, .int .i64 n), (8, .pointer (some ⟨g, 0, none⟩))] (by kernel_rfl) (by kernel_rfl) ?_
  refine WO.call (SQ.E 2 (by kernel_rfl)) 10 (by kernel_rfl) (mthere_none g room A nl cap l F n _ HB HV hn hgF hnl hno) ?_
  rintro _ w1 ⟨rfl, F2⟩
  refine ⟨_, rfl, trivial, ?_⟩
  have HB := Blk.keep HB F2 (nin0 _)
  have HV := HV.keep F2 (fun _ _ => nin0 _)
  have HA := Fr.step0 HA F2
  refine WO.run 5 3 [(6, .int .i64 4), (5, .int .i64 (-1)), (12, .int .i64 4), (11, .int .i64 (-1)), (7, .tuple #[.int .i64 (-1), .int .i64 4])] (by kernel_rfl) (by kernel_rfl) ?_
  refine WO.done (by kernel_rfl) ?_
  refine WQ.keep [0, 1, 4, 5, 6] (e' := [(0, .pointer (some ⟨g, 0, none⟩)), (1, .int .i64 n), (4, .int .i64 0), (5, .int .i64 (-1)), (6, .int .i64 4)]) (by kernel_rfl) ?_
  refine WQ.thenN ?_
  refine WE.seq ?_
  refine WE.seq ?_
  refine WE.region ?_
  refine WO.run 2 0 [(14, .bool false), (13, .int .i64 4)] (by kernel_rfl) (by kernel_rfl) ?_
  refine WO.done (by kernel_rfl) ?_
  refine WQ.keep [0, 1, 4, 5, 6, 14] (e' := [(0, .pointer (some ⟨g, 0, none⟩)), (1, .int .i64 n), (4, .int .i64 0), (5, .int .i64 (-1)), (6, .int .i64 4), (14, .bool false)]) (by kernel_rfl) ?_
  refine WQ.thenN ?_
  refine WE.condF (by kernel_rfl) ?_
  refine WE.skip ?_
  refine WQ.thenN ?_
  refine WE.seq ?_
  refine WE.region ?_
  refine WO.run 2 0 [(4, .int .i64 4), (31, .int .i64 4)] (by kernel_rfl) (by kernel_rfl) ?_
  refine WO.done (by kernel_rfl) ?_
  refine WQ.keep [0, 1, 4, 5, 6, 14] (e' := [(0, .pointer (some ⟨g, 0, none⟩)), (1, .int .i64 n), (4, .int .i64 4), (5, .int .i64 (-1)), (6, .int .i64 4), (14, .bool false)]) (by kernel_rfl) ?_
  refine WQ.thenN ?_
  refine WE.ret ?_
  refine WQ.ret (v := .int .i64 4) (by kernel_rfl) ?_
  exact ⟨rfl, HA⟩

set_option maxRecDepth 100000 in
set_option maxHeartbeats 400000 in
theorem msync_some (g b : Nat) (room : Int) (nl cap : Nat) (l : List Pt) (n : Int) (w : World) (HB : Blk w g #[.int .i64 room, .slice (some ⟨b, 0, none⟩) nl cap, .bool false] 40) (HR : RowB w b 54 3 cap (l.map cP)) (hn : l.length = nl) (hgb' : g ≠ b) (hgb : g ∉ [b]) (hnl : nl ≤ 1000000) (k : Nat) (hk : k < nl) (hkn : (gP l k).n = n) (hbef : ∀ j, j < k → (gP l j).n ≠ n) (hel : ∀ j, j < nl → (gP l j).s ≤ (gP l j).b.length ∧ (gP l j).b.length ≤ 1000000) :
    Calls Try.prog 15 #[.pointer (some ⟨g, 0, none⟩), .int .i64 n] w fun e w' => e = .returned (.int .i64 0) ∧ RowB w' b 54 3 cap ((l.set k ⟨(gP l k).n, (gP l k).b, (gP l k).b.length⟩).map cP) ∧ Fr [b] w w' := by
  have hek := hel k hk
  have HA := Fr.refl [b] w
  refine enter (N := 32) Try.func15 (c := _) rfl (by kernel_rfl) (by kernel_rfl) (e := [(0, .pointer (some ⟨g, 0, none⟩)), (1, .int .i64 n)]) (by kernel_rfl) ?_
  refine WE.seq ?_
  refine WE.region ?_
  refine WO.run 1 0 [(4, .int .i64 0)] (by kernel_rfl) (by kernel_rfl) ?_
  refine WO.done (by kernel_rfl) ?_
  refine WQ.keep [0, 1, 4] (e' := [(0, .pointer (some ⟨g, 0, none⟩)), (1, .int .i64 n), (4, .int .i64 0)]) (by kernel_rfl) ?_
  refine WQ.thenN ?_
  refine WE.seq ?_
  refine WE.region ?_
  refine WO.run 2 0 [(9, .int .i64 n), (8, .pointer (some ⟨g, 0, none⟩))] (by kernel_rfl) (by kernel_rfl) ?_
  refine WO.call (SQ.E 2 (by kernel_rfl)) 10 (by kernel_rfl) (mthere_some g room (some ⟨b, 0, none⟩) nl cap l [b] n _ HB (VX.of_row HR) hn hgb hnl k hk hkn hbef) ?_
  rintro _ w1 ⟨rfl, F2⟩
  refine ⟨_, rfl, trivial, ?_⟩
  have HB := Blk.keep HB F2 (nin0 _)
  have HR := RowB.keep HR F2 (nin0 _)
  have HA := Fr.step0 HA F2
  refine WO.run 5 3 [(6, .int .i64 0), (5, .int .i64 (k : Int)), (12, .int .i64 0), (11, .int .i64 (k : Int)), (7, .tuple #[.int .i64 (k : Int), .int .i64 0])] (by kernel_rfl) (by kernel_rfl) ?_
  refine WO.done (by kernel_rfl) ?_
  refine WQ.keep [0, 1, 4, 5, 6] (e' := [(0, .pointer (some ⟨g, 0, none⟩)), (1, .int .i64 n), (4, .int .i64 0), (5, .int .i64 (k : Int)), (6, .int .i64 0)]) (by kernel_rfl) ?_
  refine WQ.thenN ?_
  refine WE.seq ?_
  refine WE.seq ?_
  refine WE.region ?_
  refine WO.run 2 0 [(14, .bool true), (13, .int .i64 0)] (by kernel_rfl) (by kernel_rfl) ?_
  refine WO.done (by kernel_rfl) ?_
  refine WQ.keep [0, 1, 4, 5, 6, 14] (e' := [(0, .pointer (some ⟨g, 0, none⟩)), (1, .int .i64 n), (4, .int .i64 0), (5, .int .i64 (k : Int)), (6, .int .i64 0), (14, .bool true)]) (by kernel_rfl) ?_
  refine WQ.thenN ?_
  refine WE.condT (by kernel_rfl) ?_
  refine WE.draw [.free, .free, .free, .still, .free, .free, .free, .free, .still, .free, .free, .free, .still, .free, .free, .free, .eff] Same sameR (by kernel_rfl) 17 (Array.replicate 17 false) (by kernel_rfl) rfl ?_
  intro w3 F4 _
  have HB := Blk.keep HB F4 (nin0 _)
  have HR := RowB.keep HR F4 (nin0 _)
  have HA := Fr.step0 HA F4
  refine WO.one (SA.F sameR sameT _ 0 _ (by kernel_rfl)) 15 (.pointer (some ⟨g, 0, none⟩)) (by kernel_rfl) ?_
  refine WO.one (SA.F sameR sameT _ 1 _ (by kernel_rfl)) 16 (.pointer (some ⟨g, 0, none⟩)) (by kernel_rfl) ?_
  refine WO.one (SA.F sameR sameT _ 2 _ (by kernel_rfl)) 17 (.pointer (some ⟨g, 1, none⟩)) (by kernel_rfl) ?_
  refine WO.ld (SA.S sameR sameT _ 3 _ (by kernel_rfl)) 18 (.slice (some ⟨b, 0, none⟩) nl cap) (by kernel_rfl) (same (HB.at 1 (by kernel_rfl))) ?_
  refine WO.one (SA.F sameR sameT _ 4 _ (by kernel_rfl)) 19 (.int .i64 (k : Int)) (by kernel_rfl) ?_
  refine WO.one (SA.F sameR sameT _ 5 _ (by kernel_rfl)) 20 (.pointer (some ⟨g, 0, none⟩)) (by kernel_rfl) ?_
  refine WO.one (SA.F sameR sameT _ 6 _ (by kernel_rfl)) 21 (.pointer (some ⟨g, 0, none⟩)) (by kernel_rfl) ?_
  refine WO.one (SA.F sameR sameT _ 7 _ (by kernel_rfl)) 22 (.pointer (some ⟨g, 1, none⟩)) (by kernel_rfl) ?_
  refine WO.ld (SA.S sameR sameT _ 8 _ (by kernel_rfl)) 23 (.slice (some ⟨b, 0, none⟩) nl cap) (by kernel_rfl) (same (HB.at 1 (by kernel_rfl))) ?_
  refine WO.one (SA.F sameR sameT _ 9 _ (by kernel_rfl)) 24 (.int .i64 (k : Int)) (by kernel_rfl) ?_
  refine WO.ixB (SA.F sameR sameT _ 10 _ (by kernel_rfl)) 25 (k * 3) b 0 nl 3 (k : Int) (by kernel_rfl) (by omega) (by omega) (by omega) ?_
  refine WO.one (SA.F sameR sameT _ 11 _ (by kernel_rfl)) 26 (.pointer (some ⟨b, k * 3 + 1, none⟩)) (by kernel_rfl) ?_
  refine WO.ld (SA.S sameR sameT _ 12 _ (by kernel_rfl)) 27 (.string (str (gP l k).b)) (by kernel_rfl) (same (HR.at k 1 (k * 3 + 1) _ (by rw [List.length_map]; have := hn; omega) (by omega) (by rw [(map_gP l k (by have := hn; omega))]; rfl) (by omega))) ?_
  refine WO.one (SA.F sameR sameT _ 13 _ (by kernel_rfl)) 28 (.int .i64 (((gP l k).b).length : Int)) (by kernel_rfl) ?_
  refine WO.ixB (SA.F sameR sameT _ 14 _ (by kernel_rfl)) 29 (k * 3) b 0 nl 3 (k : Int) (by kernel_rfl) (by omega) (by omega) (by omega) ?_
  refine WO.one (SA.F sameR sameT _ 15 _ (by kernel_rfl)) 30 (.pointer (some ⟨b, k * 3 + 2, none⟩)) (by kernel_rfl) ?_
  refine WO.stC (SA.E _ 16 _ (by kernel_rfl) rfl) b k 2 (k * 3 + 2) (.int .i64 (((gP l k).b).length : Int)) [.int .i64 ((gP l k).n), .string (str (gP l k).b), .int .i64 (((gP l k).b).length : Int)] HR (by rw [List.length_map]; have := hn; omega) (by omega) (by omega) rfl (by rw [(map_gP l k (by have := hn; omega))]; rfl) (by kernel_rfl) (fun _ _ => trivial) ?_
  intro w5 HR7 F6 _
  have HB := Blk.keep HB F6 (ninC hgb' (nin0 _))
  have HA := Fr.step HA F6 (inSL (by simp) inS0)
  have HR7 : RowB w5 b 54 3 cap ((l.set k (⟨(gP l k).n, (gP l k).b, ((gP l k).b).length⟩ : Pt)).map cP) := by rw [List.map_set]; exact HR7
  refine WO.doneA (by kernel_rfl) ?_
  refine WQ.keep [0, 1, 4, 5, 6, 14] (e' := [(0, .pointer (some ⟨g, 0, none⟩)), (1, .int .i64 n), (4, .int .i64 0), (5, .int .i64 (k : Int)), (6, .int .i64 0), (14, .bool true)]) (by kernel_rfl) ?_
  refine WQ.thenN ?_
  refine WE.seq ?_
  refine WE.region ?_
  refine WO.run 2 0 [(4, .int .i64 0), (31, .int .i64 0)] (by kernel_rfl) (by kernel_rfl) ?_
  refine WO.done (by kernel_rfl) ?_
  refine WQ.keep [0, 1, 4, 5, 6, 14] (e' := [(0, .pointer (some ⟨g, 0, none⟩)), (1, .int .i64 n), (4, .int .i64 0), (5, .int .i64 (k : Int)), (6, .int .i64 0), (14, .bool true)]) (by kernel_rfl) ?_
  refine WQ.thenN ?_
  refine WE.ret ?_
  refine WQ.ret (v := .int .i64 0) (by kernel_rfl) ?_
  exact ⟨rfl, HR7, HA⟩

set_option maxRecDepth 100000 in
set_option maxHeartbeats 400000 in
theorem mcut_down (g : Nat) (room : Int) (A : Option Addr) (nl cap : Nat) (l : List Pt) (F : List Nat) (n : Int) (w : World) (z : Int) (HB : Blk w g #[.int .i64 room, .slice A nl cap, .bool true] 40) (HV : VX cP 3 w F A l) (hn : l.length = nl) (hgF : g ∉ F) (hnl : nl ≤ 1000000)  :
    Calls Try.prog 17 #[.pointer (some ⟨g, 0, none⟩), .int .i64 n, .int .i64 z] w fun e w' => e = .returned (.int .i64 10) ∧ Fr [] w w' := by
  have HA := Fr.refl [] w
  refine enter (N := 58) Try.func17 (c := _) rfl (by kernel_rfl) (by kernel_rfl) (e := [(0, .pointer (some ⟨g, 0, none⟩)), (1, .int .i64 n), (2, .int .i64 z)]) (by kernel_rfl) ?_
  refine WE.seq ?_
  refine WE.region ?_
  refine WO.run 1 0 [(6, .int .i64 0)] (by kernel_rfl) (by kernel_rfl) ?_
  refine WO.done (by kernel_rfl) ?_
  refine WQ.keep [0, 1, 2, 6] (e' := [(0, .pointer (some ⟨g, 0, none⟩)), (1, .int .i64 n), (2, .int .i64 z), (6, .int .i64 0)]) (by kernel_rfl) ?_
  refine WQ.thenN ?_
  refine WE.seq ?_
  refine WE.region ?_
  refine WO.run 2 0 [(11, .int .i64 n), (10, .pointer (some ⟨g, 0, none⟩))] (by kernel_rfl) (by kernel_rfl) ?_
  refine WO.call (SQ.E 2 (by kernel_rfl)) 12 (by kernel_rfl) (mthere_down g room A nl cap l F n _ HB HV hn hgF hnl ) ?_
  rintro _ w1 ⟨rfl, F2⟩
  refine ⟨_, rfl, trivial, ?_⟩
  have HB := Blk.keep HB F2 (nin0 _)
  have HV := HV.keep F2 (fun _ _ => nin0 _)
  have HA := Fr.step0 HA F2
  refine WO.run 5 3 [(8, .int .i64 10), (7, .int .i64 (-1)), (14, .int .i64 10), (13, .int .i64 (-1)), (9, .tuple #[.int .i64 (-1), .int .i64 10])] (by kernel_rfl) (by kernel_rfl) ?_
  refine WO.done (by kernel_rfl) ?_
  refine WQ.keep [0, 1, 2, 6, 7, 8] (e' := [(0, .pointer (some ⟨g, 0, none⟩)), (1, .int .i64 n), (2, .int .i64 z), (6, .int .i64 0), (7, .int .i64 (-1)), (8, .int .i64 10)]) (by kernel_rfl) ?_
  refine WQ.thenN ?_
  refine WE.seq ?_
  refine WE.seq ?_
  refine WE.region ?_
  refine WO.run 2 0 [(16, .bool true), (15, .int .i64 10)] (by kernel_rfl) (by kernel_rfl) ?_
  refine WO.done (by kernel_rfl) ?_
  refine WQ.keep [0, 1, 2, 6, 7, 8, 16] (e' := [(0, .pointer (some ⟨g, 0, none⟩)), (1, .int .i64 n), (2, .int .i64 z), (6, .int .i64 0), (7, .int .i64 (-1)), (8, .int .i64 10), (16, .bool true)]) (by kernel_rfl) ?_
  refine WQ.thenN ?_
  refine WE.condT (by kernel_rfl) ?_
  refine WE.seq ?_
  refine WE.region ?_
  refine WO.run 2 0 [(6, .int .i64 10), (17, .int .i64 10)] (by kernel_rfl) (by kernel_rfl) ?_
  refine WO.done (by kernel_rfl) ?_
  refine WQ.keep [0, 1, 2, 6, 7, 8, 16] (e' := [(0, .pointer (some ⟨g, 0, none⟩)), (1, .int .i64 n), (2, .int .i64 z), (6, .int .i64 10), (7, .int .i64 (-1)), (8, .int .i64 10), (16, .bool true)]) (by kernel_rfl) ?_
  refine WQ.thenN ?_
  refine WE.ret ?_
  refine WQ.thenR ?_
  refine WQ.ret (v := .int .i64 10) (by kernel_rfl) ?_
  exact ⟨rfl, HA⟩

set_option maxRecDepth 100000 in
set_option maxHeartbeats 400000 in
theorem mcut_none (g : Nat) (room : Int) (A : Option Addr) (nl cap : Nat) (l : List Pt) (F : List Nat) (n : Int) (w : World) (z : Int) (HB : Blk w g #[.int .i64 room, .slice A nl cap, .bool false] 40) (HV : VX cP 3 w F A l) (hn : l.length = nl) (hgF : g ∉ F) (hnl : nl ≤ 1000000) (hno : ∀ j, j < nl → (gP l j).n ≠ n) :
    Calls Try.prog 17 #[.pointer (some ⟨g, 0, none⟩), .int .i64 n, .int .i64 z] w fun e w' => e = .returned (.int .i64 4) ∧ Fr [] w w' := by
  have HA := Fr.refl [] w
  refine enter (N := 58) Try.func17 (c := _) rfl (by kernel_rfl) (by kernel_rfl) (e := [(0, .pointer (some ⟨g, 0, none⟩)), (1, .int .i64 n), (2, .int .i64 z)]) (by kernel_rfl) ?_
  refine WE.seq ?_
  refine WE.region ?_
  refine WO.run 1 0 [(6, .int .i64 0)] (by kernel_rfl) (by kernel_rfl) ?_
  refine WO.done (by kernel_rfl) ?_
  refine WQ.keep [0, 1, 2, 6] (e' := [(0, .pointer (some ⟨g, 0, none⟩)), (1, .int .i64 n), (2, .int .i64 z), (6, .int .i64 0)]) (by kernel_rfl) ?_
  refine WQ.thenN ?_
  refine WE.seq ?_
  refine WE.region ?_
  refine WO.run 2 0 [(11, .int .i64 n), (10, .pointer (some ⟨g, 0, none⟩))] (by kernel_rfl) (by kernel_rfl) ?_
  refine WO.call (SQ.E 2 (by kernel_rfl)) 12 (by kernel_rfl) (mthere_none g room A nl cap l F n _ HB HV hn hgF hnl hno) ?_
  rintro _ w1 ⟨rfl, F2⟩
  refine ⟨_, rfl, trivial, ?_⟩
  have HB := Blk.keep HB F2 (nin0 _)
  have HV := HV.keep F2 (fun _ _ => nin0 _)
  have HA := Fr.step0 HA F2
  refine WO.run 5 3 [(8, .int .i64 4), (7, .int .i64 (-1)), (14, .int .i64 4), (13, .int .i64 (-1)), (9, .tuple #[.int .i64 (-1), .int .i64 4])] (by kernel_rfl) (by kernel_rfl) ?_
  refine WO.done (by kernel_rfl) ?_
  refine WQ.keep [0, 1, 2, 6, 7, 8] (e' := [(0, .pointer (some ⟨g, 0, none⟩)), (1, .int .i64 n), (2, .int .i64 z), (6, .int .i64 0), (7, .int .i64 (-1)), (8, .int .i64 4)]) (by kernel_rfl) ?_
  refine WQ.thenN ?_
  refine WE.seq ?_
  refine WE.seq ?_
  refine WE.region ?_
  refine WO.run 2 0 [(16, .bool true), (15, .int .i64 4)] (by kernel_rfl) (by kernel_rfl) ?_
  refine WO.done (by kernel_rfl) ?_
  refine WQ.keep [0, 1, 2, 6, 7, 8, 16] (e' := [(0, .pointer (some ⟨g, 0, none⟩)), (1, .int .i64 n), (2, .int .i64 z), (6, .int .i64 0), (7, .int .i64 (-1)), (8, .int .i64 4), (16, .bool true)]) (by kernel_rfl) ?_
  refine WQ.thenN ?_
  refine WE.condT (by kernel_rfl) ?_
  refine WE.seq ?_
  refine WE.region ?_
  refine WO.run 2 0 [(6, .int .i64 4), (17, .int .i64 4)] (by kernel_rfl) (by kernel_rfl) ?_
  refine WO.done (by kernel_rfl) ?_
  refine WQ.keep [0, 1, 2, 6, 7, 8, 16] (e' := [(0, .pointer (some ⟨g, 0, none⟩)), (1, .int .i64 n), (2, .int .i64 z), (6, .int .i64 4), (7, .int .i64 (-1)), (8, .int .i64 4), (16, .bool true)]) (by kernel_rfl) ?_
  refine WQ.thenN ?_
  refine WE.ret ?_
  refine WQ.thenR ?_
  refine WQ.ret (v := .int .i64 4) (by kernel_rfl) ?_
  exact ⟨rfl, HA⟩

set_option maxRecDepth 100000 in
set_option maxHeartbeats 400000 in
theorem mcut_bad (g b : Nat) (room : Int) (nl cap : Nat) (l : List Pt) (n : Int) (w : World) (z : Int) (HB : Blk w g #[.int .i64 room, .slice (some ⟨b, 0, none⟩) nl cap, .bool false] 40) (HR : RowB w b 54 3 cap (l.map cP)) (hn : l.length = nl) (hgb' : g ≠ b) (hgb : g ∉ [b]) (hnl : nl ≤ 1000000) (k : Nat) (hk : k < nl) (hkn : (gP l k).n = n) (hbef : ∀ j, j < k → (gP l j).n ≠ n) (hel : ∀ j, j < nl → (gP l j).s ≤ (gP l j).b.length ∧ (gP l j).b.length ≤ 1000000) (hz : z < 0 ∨ ((gP l k).b.length : Int) < z) :
    Calls Try.prog 17 #[.pointer (some ⟨g, 0, none⟩), .int .i64 n, .int .i64 z] w fun e w' => e = .returned (.int .i64 1) ∧ Fr [] w w' := by
  have hek := hel k hk
  have HA := Fr.refl [] w
  refine enter (N := 58) Try.func17 (c := _) rfl (by kernel_rfl) (by kernel_rfl) (e := [(0, .pointer (some ⟨g, 0, none⟩)), (1, .int .i64 n), (2, .int .i64 z)]) (by kernel_rfl) ?_
  refine WE.seq ?_
  refine WE.region ?_
  refine WO.run 1 0 [(6, .int .i64 0)] (by kernel_rfl) (by kernel_rfl) ?_
  refine WO.done (by kernel_rfl) ?_
  refine WQ.keep [0, 1, 2, 6] (e' := [(0, .pointer (some ⟨g, 0, none⟩)), (1, .int .i64 n), (2, .int .i64 z), (6, .int .i64 0)]) (by kernel_rfl) ?_
  refine WQ.thenN ?_
  refine WE.seq ?_
  refine WE.region ?_
  refine WO.run 2 0 [(11, .int .i64 n), (10, .pointer (some ⟨g, 0, none⟩))] (by kernel_rfl) (by kernel_rfl) ?_
  refine WO.call (SQ.E 2 (by kernel_rfl)) 12 (by kernel_rfl) (mthere_some g room (some ⟨b, 0, none⟩) nl cap l [b] n _ HB (VX.of_row HR) hn hgb hnl k hk hkn hbef) ?_
  rintro _ w1 ⟨rfl, F2⟩
  refine ⟨_, rfl, trivial, ?_⟩
  have HB := Blk.keep HB F2 (nin0 _)
  have HR := RowB.keep HR F2 (nin0 _)
  have HA := Fr.step0 HA F2
  refine WO.run 5 3 [(8, .int .i64 0), (7, .int .i64 (k : Int)), (14, .int .i64 0), (13, .int .i64 (k : Int)), (9, .tuple #[.int .i64 (k : Int), .int .i64 0])] (by kernel_rfl) (by kernel_rfl) ?_
  refine WO.done (by kernel_rfl) ?_
  refine WQ.keep [0, 1, 2, 6, 7, 8] (e' := [(0, .pointer (some ⟨g, 0, none⟩)), (1, .int .i64 n), (2, .int .i64 z), (6, .int .i64 0), (7, .int .i64 (k : Int)), (8, .int .i64 0)]) (by kernel_rfl) ?_
  refine WQ.thenN ?_
  refine WE.seq ?_
  refine WE.seq ?_
  refine WE.region ?_
  refine WO.run 2 0 [(16, .bool false), (15, .int .i64 0)] (by kernel_rfl) (by kernel_rfl) ?_
  refine WO.done (by kernel_rfl) ?_
  refine WQ.keep [0, 1, 2, 6, 7, 8, 16] (e' := [(0, .pointer (some ⟨g, 0, none⟩)), (1, .int .i64 n), (2, .int .i64 z), (6, .int .i64 0), (7, .int .i64 (k : Int)), (8, .int .i64 0), (16, .bool false)]) (by kernel_rfl) ?_
  refine WQ.thenN ?_
  refine WE.condF (by kernel_rfl) ?_
  refine WE.skip ?_
  refine WQ.thenN ?_
  refine WE.seq ?_
  refine WE.seq ?_
  refine WE.region ?_
  refine WO.run 1 0 [(18, .int .i64 z)] (by kernel_rfl) (by kernel_rfl) ?_
  refine WO.one (SQ.F 1 (by kernel_rfl)) 19 (.bool (decide ((z : Int) < 0))) (by kernel_rfl) ?_
  refine WO.topP ((z : Int) < 0) ?_ ?_
  · intro h3
    refine WO.run 13 2 [(32, .bool true), (31, undef), (30, undef), (29, undef), (28, undef), (27, undef), (26, undef), (25, undef), (24, undef), (23, undef), (22, undef), (21, undef), (20, .bool true)] (by kernel_rfl) (by kernel_rfl) ?_
    refine WO.done (by kernel_rfl) ?_
    refine WQ.keep [0, 1, 2, 6, 7, 8, 16, 32] (e' := [(0, .pointer (some ⟨g, 0, none⟩)), (1, .int .i64 n), (2, .int .i64 z), (6, .int .i64 0), (7, .int .i64 (k : Int)), (8, .int .i64 0), (16, .bool false), (32, .bool true)]) (by kernel_rfl) ?_
    refine WQ.thenN ?_
    refine WE.condT (by kernel_rfl) ?_
    refine WE.seq ?_
    refine WE.region ?_
    refine WO.run 1 0 [(6, .int .i64 1)] (by kernel_rfl) (by kernel_rfl) ?_
    refine WO.done (by kernel_rfl) ?_
    refine WQ.keep [0, 1, 2, 6, 7, 8, 16, 32] (e' := [(0, .pointer (some ⟨g, 0, none⟩)), (1, .int .i64 n), (2, .int .i64 z), (6, .int .i64 1), (7, .int .i64 (k : Int)), (8, .int .i64 0), (16, .bool false), (32, .bool true)]) (by kernel_rfl) ?_
    refine WQ.thenN ?_
    refine WE.ret ?_
    refine WQ.thenR ?_
    refine WQ.ret (v := .int .i64 1) (by kernel_rfl) ?_
    exact ⟨rfl, HA⟩
  intro h3
  refine WO.run 5 2 [(24, .pointer (some ⟨g, 1, none⟩)), (23, .pointer (some ⟨g, 0, none⟩)), (22, .pointer (some ⟨g, 0, none⟩)), (21, .int .i64 z), (20, .bool false)] (by kernel_rfl) (by kernel_rfl) ?_
  refine WO.ld (SQ.S 7 (by kernel_rfl)) 25 (.slice (some ⟨b, 0, none⟩) nl cap) (by kernel_rfl) (same (HB.at 1 (by kernel_rfl))) ?_
  refine WO.run 1 8 [(26, .int .i64 (k : Int))] (by kernel_rfl) (by kernel_rfl) ?_
  refine WO.ixB (SQ.F 9 (by kernel_rfl)) 27 (k * 3) b 0 nl 3 (k : Int) (by kernel_rfl) (by omega) (by omega) (by omega) ?_
  refine WO.run 1 10 [(28, .pointer (some ⟨b, k * 3 + 1, none⟩))] (by kernel_rfl) (by kernel_rfl) ?_
  refine WO.ld (SQ.S 11 (by kernel_rfl)) 29 (.string (str (gP l k).b)) (by kernel_rfl) (same (HR.at k 1 (k * 3 + 1) _ (by rw [List.length_map]; have := hn; omega) (by omega) (by rw [(map_gP l k (by have := hn; omega))]; rfl) (by omega))) ?_
  refine WO.run 1 12 [(30, .int .i64 (((gP l k).b).length : Int))] (by kernel_rfl) (by kernel_rfl) ?_
  refine WO.one (SQ.F 13 (by kernel_rfl)) 31 (.bool (decide ((z : Int) > (((gP l k).b).length : Int)))) (by kernel_rfl) ?_
  refine WO.topPT ((z : Int) > (((gP l k).b).length : Int)) (by omega) ?_
  refine WO.run 1 14 [(32, .bool true)] (by kernel_rfl) (by kernel_rfl) ?_
  refine WO.done (by kernel_rfl) ?_
  refine WQ.keep [0, 1, 2, 6, 7, 8, 16, 32] (e' := [(0, .pointer (some ⟨g, 0, none⟩)), (1, .int .i64 n), (2, .int .i64 z), (6, .int .i64 0), (7, .int .i64 (k : Int)), (8, .int .i64 0), (16, .bool false), (32, .bool true)]) (by kernel_rfl) ?_
  refine WQ.thenN ?_
  refine WE.condT (by kernel_rfl) ?_
  refine WE.seq ?_
  refine WE.region ?_
  refine WO.run 1 0 [(6, .int .i64 1)] (by kernel_rfl) (by kernel_rfl) ?_
  refine WO.done (by kernel_rfl) ?_
  refine WQ.keep [0, 1, 2, 6, 7, 8, 16, 32] (e' := [(0, .pointer (some ⟨g, 0, none⟩)), (1, .int .i64 n), (2, .int .i64 z), (6, .int .i64 1), (7, .int .i64 (k : Int)), (8, .int .i64 0), (16, .bool false), (32, .bool true)]) (by kernel_rfl) ?_
  refine WQ.thenN ?_
  refine WE.ret ?_
  refine WQ.thenR ?_
  refine WQ.ret (v := .int .i64 1) (by kernel_rfl) ?_
  exact ⟨rfl, HA⟩

set_option maxRecDepth 100000 in
set_option maxHeartbeats 400000 in
theorem mcut_some (g b : Nat) (room : Int) (nl cap : Nat) (l : List Pt) (n : Int) (w : World) (z : Nat) (HB : Blk w g #[.int .i64 room, .slice (some ⟨b, 0, none⟩) nl cap, .bool false] 40) (HR : RowB w b 54 3 cap (l.map cP)) (hn : l.length = nl) (hgb' : g ≠ b) (hgb : g ∉ [b]) (hnl : nl ≤ 1000000) (k : Nat) (hk : k < nl) (hkn : (gP l k).n = n) (hbef : ∀ j, j < k → (gP l j).n ≠ n) (hel : ∀ j, j < nl → (gP l j).s ≤ (gP l j).b.length ∧ (gP l j).b.length ≤ 1000000) (hz : z ≤ (gP l k).b.length) :
    Calls Try.prog 17 #[.pointer (some ⟨g, 0, none⟩), .int .i64 n, .int .i64 (z : Int)] w fun e w' => e = .returned (.int .i64 0) ∧ RowB w' b 54 3 cap ((l.set k ⟨(gP l k).n, (gP l k).b.take z, z⟩).map cP) ∧ Fr [b] w w' := by
  have hek := hel k hk
  have HA := Fr.refl [b] w
  refine enter (N := 58) Try.func17 (c := _) rfl (by kernel_rfl) (by kernel_rfl) (e := [(0, .pointer (some ⟨g, 0, none⟩)), (1, .int .i64 n), (2, .int .i64 (z : Int))]) (by kernel_rfl) ?_
  refine WE.seq ?_
  refine WE.region ?_
  refine WO.run 1 0 [(6, .int .i64 0)] (by kernel_rfl) (by kernel_rfl) ?_
  refine WO.done (by kernel_rfl) ?_
  refine WQ.keep [0, 1, 2, 6] (e' := [(0, .pointer (some ⟨g, 0, none⟩)), (1, .int .i64 n), (2, .int .i64 (z : Int)), (6, .int .i64 0)]) (by kernel_rfl) ?_
  refine WQ.thenN ?_
  refine WE.seq ?_
  refine WE.region ?_
  refine WO.run 2 0 [(11, .int .i64 n), (10, .pointer (some ⟨g, 0, none⟩))] (by kernel_rfl) (by kernel_rfl) ?_
  refine WO.call (SQ.E 2 (by kernel_rfl)) 12 (by kernel_rfl) (mthere_some g room (some ⟨b, 0, none⟩) nl cap l [b] n _ HB (VX.of_row HR) hn hgb hnl k hk hkn hbef) ?_
  rintro _ w1 ⟨rfl, F2⟩
  refine ⟨_, rfl, trivial, ?_⟩
  have HB := Blk.keep HB F2 (nin0 _)
  have HR := RowB.keep HR F2 (nin0 _)
  have HA := Fr.step0 HA F2
  refine WO.run 5 3 [(8, .int .i64 0), (7, .int .i64 (k : Int)), (14, .int .i64 0), (13, .int .i64 (k : Int)), (9, .tuple #[.int .i64 (k : Int), .int .i64 0])] (by kernel_rfl) (by kernel_rfl) ?_
  refine WO.done (by kernel_rfl) ?_
  refine WQ.keep [0, 1, 2, 6, 7, 8] (e' := [(0, .pointer (some ⟨g, 0, none⟩)), (1, .int .i64 n), (2, .int .i64 (z : Int)), (6, .int .i64 0), (7, .int .i64 (k : Int)), (8, .int .i64 0)]) (by kernel_rfl) ?_
  refine WQ.thenN ?_
  refine WE.seq ?_
  refine WE.seq ?_
  refine WE.region ?_
  refine WO.run 2 0 [(16, .bool false), (15, .int .i64 0)] (by kernel_rfl) (by kernel_rfl) ?_
  refine WO.done (by kernel_rfl) ?_
  refine WQ.keep [0, 1, 2, 6, 7, 8, 16] (e' := [(0, .pointer (some ⟨g, 0, none⟩)), (1, .int .i64 n), (2, .int .i64 (z : Int)), (6, .int .i64 0), (7, .int .i64 (k : Int)), (8, .int .i64 0), (16, .bool false)]) (by kernel_rfl) ?_
  refine WQ.thenN ?_
  refine WE.condF (by kernel_rfl) ?_
  refine WE.skip ?_
  refine WQ.thenN ?_
  refine WE.seq ?_
  refine WE.seq ?_
  refine WE.region ?_
  refine WO.run 1 0 [(18, .int .i64 (z : Int))] (by kernel_rfl) (by kernel_rfl) ?_
  refine WO.one (SQ.F 1 (by kernel_rfl)) 19 (.bool (decide (((z : Int) : Int) < (0 : Int)))) (by kernel_rfl) ?_
  refine WO.topPF (((z : Int) : Int) < (0 : Int)) (by omega) ?_
  refine WO.run 5 2 [(24, .pointer (some ⟨g, 1, none⟩)), (23, .pointer (some ⟨g, 0, none⟩)), (22, .pointer (some ⟨g, 0, none⟩)), (21, .int .i64 (z : Int)), (20, .bool false)] (by kernel_rfl) (by kernel_rfl) ?_
  refine WO.ld (SQ.S 7 (by kernel_rfl)) 25 (.slice (some ⟨b, 0, none⟩) nl cap) (by kernel_rfl) (same (HB.at 1 (by kernel_rfl))) ?_
  refine WO.run 1 8 [(26, .int .i64 (k : Int))] (by kernel_rfl) (by kernel_rfl) ?_
  refine WO.ixB (SQ.F 9 (by kernel_rfl)) 27 (k * 3) b 0 nl 3 (k : Int) (by kernel_rfl) (by omega) (by omega) (by omega) ?_
  refine WO.run 1 10 [(28, .pointer (some ⟨b, k * 3 + 1, none⟩))] (by kernel_rfl) (by kernel_rfl) ?_
  refine WO.ld (SQ.S 11 (by kernel_rfl)) 29 (.string (str (gP l k).b)) (by kernel_rfl) (same (HR.at k 1 (k * 3 + 1) _ (by rw [List.length_map]; have := hn; omega) (by omega) (by rw [(map_gP l k (by have := hn; omega))]; rfl) (by omega))) ?_
  refine WO.run 1 12 [(30, .int .i64 (((gP l k).b).length : Int))] (by kernel_rfl) (by kernel_rfl) ?_
  refine WO.one (SQ.F 13 (by kernel_rfl)) 31 (.bool (decide (((z : Int) : Int) > (((gP l k).b).length : Int)))) (by kernel_rfl) ?_
  refine WO.topPF (((z : Int) : Int) > (((gP l k).b).length : Int)) (by omega) ?_
  refine WO.run 1 14 [(32, .bool false)] (by kernel_rfl) (by kernel_rfl) ?_
  refine WO.done (by kernel_rfl) ?_
  refine WQ.keep [0, 1, 2, 6, 7, 8, 16, 32] (e' := [(0, .pointer (some ⟨g, 0, none⟩)), (1, .int .i64 n), (2, .int .i64 (z : Int)), (6, .int .i64 0), (7, .int .i64 (k : Int)), (8, .int .i64 0), (16, .bool false), (32, .bool false)]) (by kernel_rfl) ?_
  refine WQ.thenN ?_
  refine WE.condF (by kernel_rfl) ?_
  refine WE.skip ?_
  refine WQ.thenN ?_
  refine WE.seq ?_
  refine WE.draw [.free, .free, .free, .still, .free, .free, .free, .free, .still, .free, .free, .free, .still, .free, .free, .free, .free, .eff] Same sameR (by kernel_rfl) 18 (Array.replicate 18 false) (by kernel_rfl) rfl ?_
  intro w3 F4 _
  have HB := Blk.keep HB F4 (nin0 _)
  have HR := RowB.keep HR F4 (nin0 _)
  have HA := Fr.step0 HA F4
  refine WO.one (SA.F sameR sameT _ 0 _ (by kernel_rfl)) 33 (.pointer (some ⟨g, 0, none⟩)) (by kernel_rfl) ?_
  refine WO.one (SA.F sameR sameT _ 1 _ (by kernel_rfl)) 34 (.pointer (some ⟨g, 0, none⟩)) (by kernel_rfl) ?_
  refine WO.one (SA.F sameR sameT _ 2 _ (by kernel_rfl)) 35 (.pointer (some ⟨g, 1, none⟩)) (by kernel_rfl) ?_
  refine WO.ld (SA.S sameR sameT _ 3 _ (by kernel_rfl)) 36 (.slice (some ⟨b, 0, none⟩) nl cap) (by kernel_rfl) (same (HB.at 1 (by kernel_rfl))) ?_
  refine WO.one (SA.F sameR sameT _ 4 _ (by kernel_rfl)) 37 (.int .i64 (k : Int)) (by kernel_rfl) ?_
  refine WO.one (SA.F sameR sameT _ 5 _ (by kernel_rfl)) 38 (.pointer (some ⟨g, 0, none⟩)) (by kernel_rfl) ?_
  refine WO.one (SA.F sameR sameT _ 6 _ (by kernel_rfl)) 39 (.pointer (some ⟨g, 0, none⟩)) (by kernel_rfl) ?_
  refine WO.one (SA.F sameR sameT _ 7 _ (by kernel_rfl)) 40 (.pointer (some ⟨g, 1, none⟩)) (by kernel_rfl) ?_
  refine WO.ld (SA.S sameR sameT _ 8 _ (by kernel_rfl)) 41 (.slice (some ⟨b, 0, none⟩) nl cap) (by kernel_rfl) (same (HB.at 1 (by kernel_rfl))) ?_
  refine WO.one (SA.F sameR sameT _ 9 _ (by kernel_rfl)) 42 (.int .i64 (k : Int)) (by kernel_rfl) ?_
  refine WO.ixB (SA.F sameR sameT _ 10 _ (by kernel_rfl)) 43 (k * 3) b 0 nl 3 (k : Int) (by kernel_rfl) (by omega) (by omega) (by omega) ?_
  refine WO.one (SA.F sameR sameT _ 11 _ (by kernel_rfl)) 44 (.pointer (some ⟨b, k * 3 + 1, none⟩)) (by kernel_rfl) ?_
  refine WO.ld (SA.S sameR sameT _ 12 _ (by kernel_rfl)) 45 (.string (str (gP l k).b)) (by kernel_rfl) (same (HR.at k 1 (k * 3 + 1) _ (by rw [List.length_map]; have := hn; omega) (by omega) (by rw [(map_gP l k (by have := hn; omega))]; rfl) (by omega))) ?_
  refine WO.one (SA.F sameR sameT _ 13 _ (by kernel_rfl)) 46 (.int .i64 (z : Int)) (by kernel_rfl) ?_
  refine WO.slS (SA.F sameR sameT _ 14 _ (by kernel_rfl)) 47 z ((gP l k).b) (by kernel_rfl) (by rfl) (by omega) ?_
  refine WO.ixB (SA.F sameR sameT _ 15 _ (by kernel_rfl)) 48 (k * 3) b 0 nl 3 (k : Int) (by kernel_rfl) (by omega) (by omega) (by omega) ?_
  refine WO.one (SA.F sameR sameT _ 16 _ (by kernel_rfl)) 49 (.pointer (some ⟨b, k * 3 + 1, none⟩)) (by kernel_rfl) ?_
  refine WO.stC (SA.E _ 17 _ (by kernel_rfl) rfl) b k 1 (k * 3 + 1) (.string (str (((gP l k).b).take z))) [.int .i64 ((gP l k).n), .string (str (((gP l k).b).take z)), .int .i64 ((gP l k).s : Int)] HR (by rw [List.length_map]; have := hn; omega) (by omega) (by omega) rfl (by rw [(map_gP l k (by have := hn; omega))]; rfl) (by kernel_rfl) (fun _ _ => trivial) ?_
  intro w5 HR7 F6 _
  have HB := Blk.keep HB F6 (ninC hgb' (nin0 _))
  have HA := Fr.step HA F6 (inSL (by simp) inS0)
  have HR7 : RowB w5 b 54 3 cap ((l.set k (⟨(gP l k).n, (((gP l k).b).take z), (gP l k).s⟩ : Pt)).map cP) := by rw [List.map_set]; exact HR7
  refine WO.doneA (by kernel_rfl) ?_
  refine WQ.keep [0, 1, 2, 6, 7, 8, 16, 32] (e' := [(0, .pointer (some ⟨g, 0, none⟩)), (1, .int .i64 n), (2, .int .i64 (z : Int)), (6, .int .i64 0), (7, .int .i64 (k : Int)), (8, .int .i64 0), (16, .bool false), (32, .bool false)]) (by kernel_rfl) ?_
  refine WQ.thenN ?_
  refine WE.seq ?_
  refine WE.region ?_
  refine WO.run 3 0 [(52, .pointer (some ⟨g, 1, none⟩)), (51, .pointer (some ⟨g, 0, none⟩)), (50, .pointer (some ⟨g, 0, none⟩))] (by kernel_rfl) (by kernel_rfl) ?_
  refine WO.ld (SQ.S 3 (by kernel_rfl)) 53 (.slice (some ⟨b, 0, none⟩) nl cap) (by kernel_rfl) (same (HB.at 1 (by kernel_rfl))) ?_
  refine WO.run 2 4 [(55, .int .i64 (z : Int)), (54, .int .i64 (k : Int))] (by kernel_rfl) (by kernel_rfl) ?_
  refine WO.ixB (SQ.F 6 (by kernel_rfl)) 56 (k * 3) b 0 nl 3 (k : Int) (by kernel_rfl) (by omega) (by omega) (by omega) ?_
  refine WO.run 1 7 [(57, .pointer (some ⟨b, k * 3 + 2, none⟩))] (by kernel_rfl) (by kernel_rfl) ?_
  refine WO.stC (SQ.E 8 (by kernel_rfl)) b k 2 (k * 3 + 2) (.int .i64 (z : Int)) [.int .i64 ((gP (l.set k (⟨(gP l k).n, (((gP l k).b).take z), (gP l k).s⟩ : Pt)) k).n), .string (str (gP (l.set k (⟨(gP l k).n, (((gP l k).b).take z), (gP l k).s⟩ : Pt)) k).b), .int .i64 (z : Int)] HR7 (by rw [List.length_map]; have := (show (l.set k (⟨(gP l k).n, (((gP l k).b).take z), (gP l k).s⟩ : Pt)).length = l.length from List.length_set).trans (hn); omega) (by omega) (by omega) rfl (by rw [(map_gP (l.set k (⟨(gP l k).n, (((gP l k).b).take z), (gP l k).s⟩ : Pt)) k (by have := (show (l.set k (⟨(gP l k).n, (((gP l k).b).take z), (gP l k).s⟩ : Pt)).length = l.length from List.length_set).trans (hn); omega))]; rfl) (by kernel_rfl) (fun _ _ => trivial) ?_
  intro w8 HR10 F9 _
  have HB := Blk.keep HB F9 (ninC hgb' (nin0 _))
  have HA := Fr.step HA F9 (inSL (by simp) inS0)
  have HR10 : RowB w8 b 54 3 cap (((l.set k (⟨(gP l k).n, (((gP l k).b).take z), (gP l k).s⟩ : Pt)).set k (⟨(gP (l.set k (⟨(gP l k).n, (((gP l k).b).take z), (gP l k).s⟩ : Pt)) k).n, (gP (l.set k (⟨(gP l k).n, (((gP l k).b).take z), (gP l k).s⟩ : Pt)) k).b, z⟩ : Pt)).map cP) := by rw [List.map_set]; exact HR10
  refine WO.done (by kernel_rfl) ?_
  refine WQ.keep [0, 1, 2, 6, 7, 8, 16, 32] (e' := [(0, .pointer (some ⟨g, 0, none⟩)), (1, .int .i64 n), (2, .int .i64 (z : Int)), (6, .int .i64 0), (7, .int .i64 (k : Int)), (8, .int .i64 0), (16, .bool false), (32, .bool false)]) (by kernel_rfl) ?_
  refine WQ.thenN ?_
  refine WE.seq ?_
  refine WE.region ?_
  refine WO.run 1 0 [(6, .int .i64 0)] (by kernel_rfl) (by kernel_rfl) ?_
  refine WO.done (by kernel_rfl) ?_
  refine WQ.keep [0, 1, 2, 6, 7, 8, 16, 32] (e' := [(0, .pointer (some ⟨g, 0, none⟩)), (1, .int .i64 n), (2, .int .i64 (z : Int)), (6, .int .i64 0), (7, .int .i64 (k : Int)), (8, .int .i64 0), (16, .bool false), (32, .bool false)]) (by kernel_rfl) ?_
  refine WQ.thenN ?_
  refine WE.ret ?_
  refine WQ.ret (v := .int .i64 0) (by kernel_rfl) ?_
  exact ⟨rfl, by have h_ := HR10; rw [cut_two l k z (by omega)] at h_; exact h_, HA⟩
end Go.Proofs.Ytkhibpdkgjapgaa.Disk
