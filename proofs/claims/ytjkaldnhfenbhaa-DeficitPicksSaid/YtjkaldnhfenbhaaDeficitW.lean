/- Layer 12's walks. -/
import Derived.Test.YtjkaldnhfenbhaaEngR
import Derived.Test.YtjkaldnhfenbhaaDeficitPure
import Derived.Test.YtjkaldnhfenbhaaProg
set_option linter.unusedVariables false
set_option linter.unusedSimpArgs false
namespace Go.Proofs.Ytjkaldnhfenbhaa.Deficit
open Go Go.RowKit Go.Proofs.Ytjkaldnhfenbhaa Go.Proofs.Ytjkaldnhfenbhaa.Eng Go.Proofs.YtjkaldnhfenbhaaW.PrintWords
def oddQ (x : Int) : Bool := decide (x < 1) || decide (x > 1000)
def oddC (x : Int) : Bool := decide (x < 0) || decide (x > 1000)
def someC (x : Int) : Bool := decide (x > 0)
def cI (x : Int) : List Value := [.int .i64 x]
theorem cI_len (q : List Int) : ∀ x ∈ q.map cI, x.length = 1 := by
  intro x hx
  obtain ⟨e, _, rfl⟩ := List.mem_map.1 hx
  rfl
theorem cI_one (q : List Int) : ∀ x ∈ q.map cI, x.all oneB = true := by
  intro x hx
  obtain ⟨e, _, rfl⟩ := List.mem_map.1 hx
  rfl
theorem map_atI (q : List Int) (k : Nat) (h : k < q.length) : (q.map cI).getD k [] = cI (g0 q k) := by
  simp [g0, h]
theorem et_i : ET Try.prog 43 3 1 8 := by
  obtain ⟨i, h1, h2, h3, h4⟩ := info_parts (P := Try.prog) (e := 3) (z := .int .i64 0) (size := 1) (bytes := 8) (by kernel_rfl)
  exact ⟨by kernel_rfl, ⟨i, _, h1, h2, h3, h4, rfl⟩, by decide⟩
theorem made_one (z : Value) (n : Nat) : madeCells #[z] n = Array.replicate n z := by
  unfold madeCells
  apply Array.ext
  · simp
  · intro i h1 h2
    simp [Nat.mod_one]
theorem make_int (n : Nat) (hn : n ≤ 1000) (w : World) : (Instr.makeSlice 43 (.int .i64 (n : Int)) (.int .i64 (n : Int))).run Try.prog w = .ok (.slice (some ⟨w.heap.size, 0, none⟩) n n) (w.alloc (.cells (Array.replicate n (.int .i64 0)) 3)) := by
  obtain ⟨i, h1, h2, h3, h4⟩ := info_parts (P := Try.prog) (e := 3) (z := (.int .i64 0)) (size := 1) (bytes := 8) (by kernel_rfl)
  have := run_makeSlice (P := Try.prog) w 43 3 i (.int .i64 0) (by kernel_rfl) h1 h2 .i64 .i64 (n : Int) (n : Int) (by omega) (by omega) (by rw [h3, Int.toNat_natCast]; omega) (by rw [h4]; omega) (by omega)
  rw [this, Int.toNat_natCast, h3, Nat.mul_one]
  rw [show Value.cells (.int .i64 0) = #[(.int .i64 0)] from rfl, made_one]
/-- a slice reads as a list of ints -/
def Rd (w : World) (A : Option Addr) (l : List Int) : Prop := ∀ k, k < l.length → ∃ ad, A = some ad ∧ w.cell? (ad.add k) = some (.int .i64 (g0 l k))
theorem Rd.keep {w w1 : World} {A : Option Addr} {l : List Int} (h : Rd w A l) (k : Fr [] w w1) : Rd w1 A l := fun i hi => by
  obtain ⟨ad, h1, h2⟩ := h i hi
  exact ⟨ad, h1, k.cell0 h2⟩
theorem any_step (l : List Int) (p : Int → Bool) (k : Nat) (h : k < l.length) : (l.take (k + 1)).any p = ((l.take k).any p || p (g0 l k)) := by
  have : g0 l k = l[k] := by simp [g0, h]
  rw [List.take_succ_eq_append_getElem h, List.any_append, this]
  simp
theorem g0_mem (l : List Int) {k : Nat} (h : k < l.length) : g0 l k ∈ l := by
  have : g0 l k = l[k] := by simp [g0, h]
  rw [this]
  exact List.getElem_mem h
set_option maxRecDepth 100000 in
set_option maxHeartbeats 400000 in
theorem ask_82 (x : Int) (w : World) :
    Calls Try.prog 82 #[.int .i64 x] w fun e w' => e = .returned (.bool (oddQ x)) ∧ Fr [] w w' := by
  have HA := Fr.refl [] w
  refine enter (N := 9) Try.func82 (c := _) rfl (by kernel_rfl) (by kernel_rfl) (e := [(0, .int .i64 x)]) (by kernel_rfl) ?_
  refine WE.seq ?_
  -- R0 deficit.go:22
  refine WE.region ?_
  refine WO.run 1 0 [(2, .bool false)] (by kernel_rfl) (by kernel_rfl) ?_
  refine WO.done (by kernel_rfl) ?_
  refine WQ.keep [0, 2] (e' := [(0, .int .i64 x), (2, .bool false)]) (by kernel_rfl) ?_
  refine WQ.thenN ?_
  refine WE.seq ?_
  -- R1 deficit.go:22
  refine WE.region ?_
  refine WO.run 1 0 [(3, .int .i64 x)] (by kernel_rfl) (by kernel_rfl) ?_
  refine WO.one (SQ.F 1 (by kernel_rfl)) 4 (.bool (decide ((x : Int) < 1))) (by kernel_rfl) ?_
  refine WO.topP ((x : Int) < 1) ?_ ?_
  · intro h1
    refine WO.run 5 2 [(2, .bool true), (8, .bool true), (7, undef), (6, undef), (5, .bool true)] (by kernel_rfl) (by kernel_rfl) ?_
    refine WO.done (by kernel_rfl) ?_
    refine WQ.keep [0, 2] (e' := [(0, .int .i64 x), (2, .bool true)]) (by kernel_rfl) ?_
    refine WQ.thenN ?_
    refine WE.ret ?_
    refine WQ.ret (v := .bool true) (by kernel_rfl) ?_
    exact ⟨by simp [oddQ, h1], HA⟩
  · intro h1
    refine WO.run 5 2 [(2, .bool (decide ((x : Int) > 1000))), (8, .bool (decide ((x : Int) > 1000))), (7, .bool (decide ((x : Int) > 1000))), (6, .int .i64 x), (5, .bool false)] (by kernel_rfl) (by kernel_rfl) ?_
    refine WO.done (by kernel_rfl) ?_
    refine WQ.keep [0, 2] (e' := [(0, .int .i64 x), (2, .bool (decide ((x : Int) > 1000)))]) (by kernel_rfl) ?_
    refine WQ.thenN ?_
    refine WE.ret ?_
    refine WQ.ret (v := .bool (decide ((x : Int) > 1000))) (by kernel_rfl) ?_
    exact ⟨by simp [oddQ, h1], HA⟩

set_option maxRecDepth 100000 in
set_option maxHeartbeats 400000 in
theorem ask_85 (x : Int) (w : World) :
    Calls Try.prog 85 #[.int .i64 x] w fun e w' => e = .returned (.bool (oddC x)) ∧ Fr [] w w' := by
  have HA := Fr.refl [] w
  refine enter (N := 9) Try.func85 (c := _) rfl (by kernel_rfl) (by kernel_rfl) (e := [(0, .int .i64 x)]) (by kernel_rfl) ?_
  refine WE.seq ?_
  -- R0 deficit.go:34
  refine WE.region ?_
  refine WO.run 1 0 [(2, .bool false)] (by kernel_rfl) (by kernel_rfl) ?_
  refine WO.done (by kernel_rfl) ?_
  refine WQ.keep [0, 2] (e' := [(0, .int .i64 x), (2, .bool false)]) (by kernel_rfl) ?_
  refine WQ.thenN ?_
  refine WE.seq ?_
  -- R1 deficit.go:34
  refine WE.region ?_
  refine WO.run 1 0 [(3, .int .i64 x)] (by kernel_rfl) (by kernel_rfl) ?_
  refine WO.one (SQ.F 1 (by kernel_rfl)) 4 (.bool (decide ((x : Int) < 0))) (by kernel_rfl) ?_
  refine WO.topP ((x : Int) < 0) ?_ ?_
  · intro h1
    refine WO.run 5 2 [(2, .bool true), (8, .bool true), (7, undef), (6, undef), (5, .bool true)] (by kernel_rfl) (by kernel_rfl) ?_
    refine WO.done (by kernel_rfl) ?_
    refine WQ.keep [0, 2] (e' := [(0, .int .i64 x), (2, .bool true)]) (by kernel_rfl) ?_
    refine WQ.thenN ?_
    refine WE.ret ?_
    refine WQ.ret (v := .bool true) (by kernel_rfl) ?_
    exact ⟨by simp [oddC, h1], HA⟩
  · intro h1
    refine WO.run 5 2 [(2, .bool (decide ((x : Int) > 1000))), (8, .bool (decide ((x : Int) > 1000))), (7, .bool (decide ((x : Int) > 1000))), (6, .int .i64 x), (5, .bool false)] (by kernel_rfl) (by kernel_rfl) ?_
    refine WO.done (by kernel_rfl) ?_
    refine WQ.keep [0, 2] (e' := [(0, .int .i64 x), (2, .bool (decide ((x : Int) > 1000)))]) (by kernel_rfl) ?_
    refine WQ.thenN ?_
    refine WE.ret ?_
    refine WQ.ret (v := .bool (decide ((x : Int) > 1000))) (by kernel_rfl) ?_
    exact ⟨by simp [oddC, h1], HA⟩

set_option maxRecDepth 100000 in
set_option maxHeartbeats 400000 in
theorem ask_86 (x : Int) (w : World) :
    Calls Try.prog 86 #[.int .i64 x] w fun e w' => e = .returned (.bool (someC x)) ∧ Fr [] w w' := by
  have HA := Fr.refl [] w
  refine enter (N := 5) Try.func86 (c := _) rfl (by kernel_rfl) (by kernel_rfl) (e := [(0, .int .i64 x)]) (by kernel_rfl) ?_
  refine WE.seq ?_
  -- R0 deficit.go:35
  refine WE.region ?_
  refine WO.run 1 0 [(2, .bool false)] (by kernel_rfl) (by kernel_rfl) ?_
  refine WO.done (by kernel_rfl) ?_
  refine WQ.keep [0, 2] (e' := [(0, .int .i64 x), (2, .bool false)]) (by kernel_rfl) ?_
  refine WQ.thenN ?_
  refine WE.seq ?_
  -- R1 deficit.go:35
  refine WE.region ?_
  refine WO.run 3 0 [(2, .bool (decide ((x : Int) > 0))), (4, .bool (decide ((x : Int) > 0))), (3, .int .i64 x)] (by kernel_rfl) (by kernel_rfl) ?_
  refine WO.done (by kernel_rfl) ?_
  refine WQ.keep [0, 2] (e' := [(0, .int .i64 x), (2, .bool (decide ((x : Int) > 0)))]) (by kernel_rfl) ?_
  refine WQ.thenN ?_
  refine WE.ret ?_
  refine WQ.ret (v := .bool (decide ((x : Int) > 0))) (by kernel_rfl) ?_
  exact ⟨by simp [someC], HA⟩

set_option maxRecDepth 100000 in
set_option maxHeartbeats 400000 in
theorem index_82 (A : Option Addr) (n cap : Nat) (l : List Int) (w : World) (hn : l.length = n) (hm : n ≤ 1000000) (hrd : Rd w A l) :
    Calls Try.prog 90 #[.slice A n cap, .func (.func 82) #[] #[]] w fun e w' => ∃ r : Int, e = .returned (.int .i64 r) ∧ decide (r ≥ 0) = l.any oddQ ∧ Fr [] w w' := by
  have HA := Fr.refl [] w
  refine enter (N := 19) Try.func90 (c := _) rfl (by kernel_rfl) (by kernel_rfl) (e := [(0, .slice A n cap), (1, .func (.func 82) #[] #[])]) (by kernel_rfl) ?_
  refine WE.seq ?_
  -- R0 slices.go:107
  refine WE.region ?_
  refine WO.run 1 0 [(4, .int .i64 0)] (by kernel_rfl) (by kernel_rfl) ?_
  refine WO.done (by kernel_rfl) ?_
  refine WQ.keep [0, 1, 4] (e' := [(0, .slice A n cap), (1, .func (.func 82) #[] #[]), (4, .int .i64 0)]) (by kernel_rfl) ?_
  refine WQ.thenN ?_
  refine WE.seq ?_
  refine WE.seq ?_
  -- R1 slices.go:108
  refine WE.region ?_
  refine WO.run 3 0 [(8, .int .i64 0), (7, .int .i64 (n : Int)), (6, .slice A n cap)] (by kernel_rfl) (by kernel_rfl) ?_
  refine WO.done (by kernel_rfl) ?_
  refine WQ.keep [0, 1, 4, 7, 8] (e' := [(0, .slice A n cap), (1, .func (.func 82) #[] #[]), (4, .int .i64 0), (7, .int .i64 (n : Int)), (8, .int .i64 0)]) (by kernel_rfl) ?_
  refine WQ.thenN ?_
  refine WE.block ?_
  refine WE.loop (α := Nat) (E := fun k => [(0, .slice A n cap), (1, .func (.func 82) #[] #[]), (4, .int .i64 0), (7, .int .i64 (n : Int)), (8, .int .i64 (k : Int))]) (I := fun k wr => k ≤ n ∧ (l.take k).any oddQ = false ∧ Fr [] w wr) (m := fun k => n - k) 0 [0, 1, 4, 7, 8] (by kernel_rfl) ?_ ?_
  · exact ⟨Nat.zero_le _, rfl, HA⟩
  rintro k wr ⟨hk, hany, HA⟩
  refine WE.seq ?_
  -- R2 slices.go:108
  refine WE.region ?_
  refine WO.one (SQ.F 0 (by kernel_rfl)) 9 (.bool (decide (((k : Int) : Int) < (n : Int)))) (by kernel_rfl) ?_
  refine WO.topP (((k : Int) : Int) < (n : Int)) ?_ ?_
  · intro h1
    refine WO.done (by kernel_rfl) ?_
    refine WQ.keep [0, 1, 4, 7, 8, 9] (e' := [(0, .slice A n cap), (1, .func (.func 82) #[] #[]), (4, .int .i64 0), (7, .int .i64 (n : Int)), (8, .int .i64 (k : Int)), (9, .bool true)]) (by kernel_rfl) ?_
    refine WQ.thenN ?_
    refine WE.seq ?_
    refine WE.condT (by kernel_rfl) ?_
    refine WE.skip ?_
    refine WQ.thenN ?_
    refine WE.seq ?_
    refine WE.block ?_
    refine WE.seq ?_
    -- R3 slices.go:108
    refine WE.region ?_
    refine WO.run 2 0 [(5, .int .i64 (k : Int)), (10, .int .i64 (k : Int))] (by kernel_rfl) (by kernel_rfl) ?_
    refine WO.done (by kernel_rfl) ?_
    refine WQ.keep [0, 1, 4, 5, 7, 8, 9] (e' := [(0, .slice A n cap), (1, .func (.func 82) #[] #[]), (4, .int .i64 0), (5, .int .i64 (k : Int)), (7, .int .i64 (n : Int)), (8, .int .i64 (k : Int)), (9, .bool true)]) (by kernel_rfl) ?_
    refine WQ.thenN ?_
    refine WE.seq ?_
    -- R4 slices.go:109
    refine WE.region ?_
    refine WO.run 3 0 [(13, .int .i64 (k : Int)), (12, .slice A n cap), (11, .func (.func 82) #[] #[])] (by kernel_rfl) (by kernel_rfl) ?_
    obtain ⟨ad_l, hA_l, hcl_l⟩ := hrd k (by omega)
    subst hA_l
    refine WO.ix (SQ.F 3 (by kernel_rfl)) 14 (ad_l.add k) ad_l n 1 (k : Int) (by kernel_rfl) (by omega) (by omega) (by congr 1 <;> omega) ?_
    refine WO.ld (SQ.S 4 (by kernel_rfl)) 15 (.int .i64 (g0 l k)) (by kernel_rfl) (same (HA.cell0 hcl_l)) ?_
    refine WO.call (SQ.E 5 (by kernel_rfl)) 16 (by kernel_rfl) (ask_82 (g0 l k) _) ?_
    rintro _ w2 ⟨rfl, F3⟩
    refine ⟨_, rfl, trivial, ?_⟩
    have HA := Fr.step0 HA F3
    refine WO.topB (oddQ (g0 l k)) ?_ ?_
    · intro h4
      refine WO.done (by kernel_rfl) ?_
      refine WQ.keep [0, 1, 4, 5, 7, 8, 9, 16] (e' := [(0, .slice (some ad_l) n cap), (1, .func (.func 82) #[] #[]), (4, .int .i64 0), (5, .int .i64 (k : Int)), (7, .int .i64 (n : Int)), (8, .int .i64 (k : Int)), (9, .bool true), (16, .bool true)]) (by kernel_rfl) ?_
      refine WQ.thenN ?_
      refine WE.condT (by kernel_rfl) ?_
      refine WE.seq ?_
      -- R5 slices.go:110
      refine WE.region ?_
      refine WO.run 2 0 [(4, .int .i64 (k : Int)), (17, .int .i64 (k : Int))] (by kernel_rfl) (by kernel_rfl) ?_
      refine WO.done (by kernel_rfl) ?_
      refine WQ.keep [0, 1, 4, 5, 7, 8, 9, 16] (e' := [(0, .slice (some ad_l) n cap), (1, .func (.func 82) #[] #[]), (4, .int .i64 (k : Int)), (5, .int .i64 (k : Int)), (7, .int .i64 (n : Int)), (8, .int .i64 (k : Int)), (9, .bool true), (16, .bool true)]) (by kernel_rfl) ?_
      refine WQ.thenN ?_
      refine WE.ret ?_
      refine WQ.blkR ?_
      refine WQ.thenR ?_
      refine WQ.thenR ?_
      refine WQ.blkR ?_
      refine WQ.thenR ?_
      refine WQ.ret (v := .int .i64 (k : Int)) (by kernel_rfl) ?_
      exact ⟨_, rfl, by rw [List.any_eq_true.2 ⟨_, g0_mem l (show k < l.length by omega), h4⟩]; exact decide_eq_true (by omega), HA⟩
    · intro h4
      refine WO.done (by kernel_rfl) ?_
      refine WQ.keep [0, 1, 4, 5, 7, 8, 9, 16] (e' := [(0, .slice (some ad_l) n cap), (1, .func (.func 82) #[] #[]), (4, .int .i64 0), (5, .int .i64 (k : Int)), (7, .int .i64 (n : Int)), (8, .int .i64 (k : Int)), (9, .bool true), (16, .bool false)]) (by kernel_rfl) ?_
      refine WQ.thenN ?_
      refine WE.condF (by kernel_rfl) ?_
      refine WE.skip ?_
      refine WQ.blkN ?_
      refine WQ.thenN ?_
      -- R6 slices.go:108
      refine WE.region ?_
      refine WO.one (SQ.F 0 (by kernel_rfl)) 18 (.int .i64 (IntKind.i64.wrap ((k : Int) + 1))) (by kernel_rfl) ?_
      refine WO.top (v' := .int .i64 ((k + 1 : Nat) : Int)) (wrap_i64 (by omega) (by omega)) ?_
      refine WO.run 1 1 [(8, .int .i64 ((k + 1 : Nat) : Int))] (by kernel_rfl) (by kernel_rfl) ?_
      refine WO.done (by kernel_rfl) ?_
      refine WQ.keep [0, 1, 4, 5, 7, 8, 9, 16] (e' := [(0, .slice (some ad_l) n cap), (1, .func (.func 82) #[] #[]), (4, .int .i64 0), (5, .int .i64 (k : Int)), (7, .int .i64 (n : Int)), (8, .int .i64 ((k + 1 : Nat) : Int)), (9, .bool true), (16, .bool false)]) (by kernel_rfl) ?_
      refine WQ.round ?_
      intro a_ ha_
      refine ⟨k + 1, ?_, ha_.keep [0, 1, 4, 7, 8] (by kernel_rfl), ?_⟩
      · show n - (k + 1) < n - k; omega
      · exact ⟨by omega, by rw [any_step _ _ _ (by omega), hany, h4]; rfl, HA⟩
  · intro h1
    refine WO.done (by kernel_rfl) ?_
    refine WQ.keep [0, 1, 4, 7, 8, 9] (e' := [(0, .slice A n cap), (1, .func (.func 82) #[] #[]), (4, .int .i64 0), (7, .int .i64 (n : Int)), (8, .int .i64 (k : Int)), (9, .bool false)]) (by kernel_rfl) ?_
    refine WQ.thenN ?_
    refine WE.seq ?_
    refine WE.condF (by kernel_rfl) ?_
    refine WE.exit ?_
    refine WQ.thenE ?_
    refine WQ.thenE ?_
    refine WQ.blkE ?_
    refine WQ.thenN ?_
    refine WE.seq ?_
    -- R7 slices.go:113
    refine WE.region ?_
    refine WO.run 1 0 [(4, .int .i64 (-1))] (by kernel_rfl) (by kernel_rfl) ?_
    refine WO.done (by kernel_rfl) ?_
    refine WQ.keep [0, 1, 4, 7, 8, 9] (e' := [(0, .slice A n cap), (1, .func (.func 82) #[] #[]), (4, .int .i64 (-1)), (7, .int .i64 (n : Int)), (8, .int .i64 (k : Int)), (9, .bool false)]) (by kernel_rfl) ?_
    refine WQ.thenN ?_
    refine WE.ret ?_
    refine WQ.ret (v := .int .i64 (-1)) (by kernel_rfl) ?_
    exact ⟨_, rfl, by rw [← List.take_of_length_le (show l.length ≤ k by omega), hany]; rfl, HA⟩

set_option maxRecDepth 100000 in
set_option maxHeartbeats 400000 in
theorem contains_82 (A : Option Addr) (n cap : Nat) (l : List Int) (w : World) (hn : l.length = n) (hm : n ≤ 1000000) (hrd : Rd w A l) :
    Calls Try.prog 83 #[.slice A n cap, .func (.func 82) #[] #[]] w fun e w' => e = .returned (.bool (l.any oddQ)) ∧ Fr [] w w' := by
  have HA := Fr.refl [] w
  refine enter (N := 9) Try.func83 (c := _) rfl (by kernel_rfl) (by kernel_rfl) (e := [(0, .slice A n cap), (1, .func (.func 82) #[] #[])]) (by kernel_rfl) ?_
  refine WE.seq ?_
  -- R0 slices.go:124
  refine WE.region ?_
  refine WO.run 1 0 [(4, .bool false)] (by kernel_rfl) (by kernel_rfl) ?_
  refine WO.done (by kernel_rfl) ?_
  refine WQ.keep [0, 1, 4] (e' := [(0, .slice A n cap), (1, .func (.func 82) #[] #[]), (4, .bool false)]) (by kernel_rfl) ?_
  refine WQ.thenN ?_
  refine WE.seq ?_
  -- R1 slices.go:125
  refine WE.region ?_
  refine WO.run 2 0 [(6, .func (.func 82) #[] #[]), (5, .slice A n cap)] (by kernel_rfl) (by kernel_rfl) ?_
  refine WO.call (SQ.E 2 (by kernel_rfl)) 7 (by kernel_rfl) (index_82 A n cap l _ hn hm (hrd.keep HA)) ?_
  rintro _ w1 ⟨r, rfl, hr, F2⟩
  refine ⟨_, rfl, trivial, ?_⟩
  have HA := Fr.step0 HA F2
  refine WO.run 2 3 [(4, .bool (decide ((r : Int) ≥ 0))), (8, .bool (decide ((r : Int) ≥ 0)))] (by kernel_rfl) (by kernel_rfl) ?_
  refine WO.done (by kernel_rfl) ?_
  refine WQ.keep [0, 1, 4] (e' := [(0, .slice A n cap), (1, .func (.func 82) #[] #[]), (4, .bool (decide ((r : Int) ≥ 0)))]) (by kernel_rfl) ?_
  refine WQ.thenN ?_
  refine WE.ret ?_
  refine WQ.ret (v := .bool (decide ((r : Int) ≥ 0))) (by kernel_rfl) ?_
  exact ⟨by rw [← hr], HA⟩

set_option maxRecDepth 100000 in
set_option maxHeartbeats 400000 in
theorem index_85 (A : Option Addr) (n cap : Nat) (l : List Int) (w : World) (hn : l.length = n) (hm : n ≤ 1000000) (hrd : Rd w A l) :
    Calls Try.prog 90 #[.slice A n cap, .func (.func 85) #[] #[]] w fun e w' => ∃ r : Int, e = .returned (.int .i64 r) ∧ decide (r ≥ 0) = l.any oddC ∧ Fr [] w w' := by
  have HA := Fr.refl [] w
  refine enter (N := 19) Try.func90 (c := _) rfl (by kernel_rfl) (by kernel_rfl) (e := [(0, .slice A n cap), (1, .func (.func 85) #[] #[])]) (by kernel_rfl) ?_
  refine WE.seq ?_
  -- R0 slices.go:107
  refine WE.region ?_
  refine WO.run 1 0 [(4, .int .i64 0)] (by kernel_rfl) (by kernel_rfl) ?_
  refine WO.done (by kernel_rfl) ?_
  refine WQ.keep [0, 1, 4] (e' := [(0, .slice A n cap), (1, .func (.func 85) #[] #[]), (4, .int .i64 0)]) (by kernel_rfl) ?_
  refine WQ.thenN ?_
  refine WE.seq ?_
  refine WE.seq ?_
  -- R1 slices.go:108
  refine WE.region ?_
  refine WO.run 3 0 [(8, .int .i64 0), (7, .int .i64 (n : Int)), (6, .slice A n cap)] (by kernel_rfl) (by kernel_rfl) ?_
  refine WO.done (by kernel_rfl) ?_
  refine WQ.keep [0, 1, 4, 7, 8] (e' := [(0, .slice A n cap), (1, .func (.func 85) #[] #[]), (4, .int .i64 0), (7, .int .i64 (n : Int)), (8, .int .i64 0)]) (by kernel_rfl) ?_
  refine WQ.thenN ?_
  refine WE.block ?_
  refine WE.loop (α := Nat) (E := fun k => [(0, .slice A n cap), (1, .func (.func 85) #[] #[]), (4, .int .i64 0), (7, .int .i64 (n : Int)), (8, .int .i64 (k : Int))]) (I := fun k wr => k ≤ n ∧ (l.take k).any oddC = false ∧ Fr [] w wr) (m := fun k => n - k) 0 [0, 1, 4, 7, 8] (by kernel_rfl) ?_ ?_
  · exact ⟨Nat.zero_le _, rfl, HA⟩
  rintro k wr ⟨hk, hany, HA⟩
  refine WE.seq ?_
  -- R2 slices.go:108
  refine WE.region ?_
  refine WO.one (SQ.F 0 (by kernel_rfl)) 9 (.bool (decide (((k : Int) : Int) < (n : Int)))) (by kernel_rfl) ?_
  refine WO.topP (((k : Int) : Int) < (n : Int)) ?_ ?_
  · intro h1
    refine WO.done (by kernel_rfl) ?_
    refine WQ.keep [0, 1, 4, 7, 8, 9] (e' := [(0, .slice A n cap), (1, .func (.func 85) #[] #[]), (4, .int .i64 0), (7, .int .i64 (n : Int)), (8, .int .i64 (k : Int)), (9, .bool true)]) (by kernel_rfl) ?_
    refine WQ.thenN ?_
    refine WE.seq ?_
    refine WE.condT (by kernel_rfl) ?_
    refine WE.skip ?_
    refine WQ.thenN ?_
    refine WE.seq ?_
    refine WE.block ?_
    refine WE.seq ?_
    -- R3 slices.go:108
    refine WE.region ?_
    refine WO.run 2 0 [(5, .int .i64 (k : Int)), (10, .int .i64 (k : Int))] (by kernel_rfl) (by kernel_rfl) ?_
    refine WO.done (by kernel_rfl) ?_
    refine WQ.keep [0, 1, 4, 5, 7, 8, 9] (e' := [(0, .slice A n cap), (1, .func (.func 85) #[] #[]), (4, .int .i64 0), (5, .int .i64 (k : Int)), (7, .int .i64 (n : Int)), (8, .int .i64 (k : Int)), (9, .bool true)]) (by kernel_rfl) ?_
    refine WQ.thenN ?_
    refine WE.seq ?_
    -- R4 slices.go:109
    refine WE.region ?_
    refine WO.run 3 0 [(13, .int .i64 (k : Int)), (12, .slice A n cap), (11, .func (.func 85) #[] #[])] (by kernel_rfl) (by kernel_rfl) ?_
    obtain ⟨ad_l, hA_l, hcl_l⟩ := hrd k (by omega)
    subst hA_l
    refine WO.ix (SQ.F 3 (by kernel_rfl)) 14 (ad_l.add k) ad_l n 1 (k : Int) (by kernel_rfl) (by omega) (by omega) (by congr 1 <;> omega) ?_
    refine WO.ld (SQ.S 4 (by kernel_rfl)) 15 (.int .i64 (g0 l k)) (by kernel_rfl) (same (HA.cell0 hcl_l)) ?_
    refine WO.call (SQ.E 5 (by kernel_rfl)) 16 (by kernel_rfl) (ask_85 (g0 l k) _) ?_
    rintro _ w2 ⟨rfl, F3⟩
    refine ⟨_, rfl, trivial, ?_⟩
    have HA := Fr.step0 HA F3
    refine WO.topB (oddC (g0 l k)) ?_ ?_
    · intro h4
      refine WO.done (by kernel_rfl) ?_
      refine WQ.keep [0, 1, 4, 5, 7, 8, 9, 16] (e' := [(0, .slice (some ad_l) n cap), (1, .func (.func 85) #[] #[]), (4, .int .i64 0), (5, .int .i64 (k : Int)), (7, .int .i64 (n : Int)), (8, .int .i64 (k : Int)), (9, .bool true), (16, .bool true)]) (by kernel_rfl) ?_
      refine WQ.thenN ?_
      refine WE.condT (by kernel_rfl) ?_
      refine WE.seq ?_
      -- R5 slices.go:110
      refine WE.region ?_
      refine WO.run 2 0 [(4, .int .i64 (k : Int)), (17, .int .i64 (k : Int))] (by kernel_rfl) (by kernel_rfl) ?_
      refine WO.done (by kernel_rfl) ?_
      refine WQ.keep [0, 1, 4, 5, 7, 8, 9, 16] (e' := [(0, .slice (some ad_l) n cap), (1, .func (.func 85) #[] #[]), (4, .int .i64 (k : Int)), (5, .int .i64 (k : Int)), (7, .int .i64 (n : Int)), (8, .int .i64 (k : Int)), (9, .bool true), (16, .bool true)]) (by kernel_rfl) ?_
      refine WQ.thenN ?_
      refine WE.ret ?_
      refine WQ.blkR ?_
      refine WQ.thenR ?_
      refine WQ.thenR ?_
      refine WQ.blkR ?_
      refine WQ.thenR ?_
      refine WQ.ret (v := .int .i64 (k : Int)) (by kernel_rfl) ?_
      exact ⟨_, rfl, by rw [List.any_eq_true.2 ⟨_, g0_mem l (show k < l.length by omega), h4⟩]; exact decide_eq_true (by omega), HA⟩
    · intro h4
      refine WO.done (by kernel_rfl) ?_
      refine WQ.keep [0, 1, 4, 5, 7, 8, 9, 16] (e' := [(0, .slice (some ad_l) n cap), (1, .func (.func 85) #[] #[]), (4, .int .i64 0), (5, .int .i64 (k : Int)), (7, .int .i64 (n : Int)), (8, .int .i64 (k : Int)), (9, .bool true), (16, .bool false)]) (by kernel_rfl) ?_
      refine WQ.thenN ?_
      refine WE.condF (by kernel_rfl) ?_
      refine WE.skip ?_
      refine WQ.blkN ?_
      refine WQ.thenN ?_
      -- R6 slices.go:108
      refine WE.region ?_
      refine WO.one (SQ.F 0 (by kernel_rfl)) 18 (.int .i64 (IntKind.i64.wrap ((k : Int) + 1))) (by kernel_rfl) ?_
      refine WO.top (v' := .int .i64 ((k + 1 : Nat) : Int)) (wrap_i64 (by omega) (by omega)) ?_
      refine WO.run 1 1 [(8, .int .i64 ((k + 1 : Nat) : Int))] (by kernel_rfl) (by kernel_rfl) ?_
      refine WO.done (by kernel_rfl) ?_
      refine WQ.keep [0, 1, 4, 5, 7, 8, 9, 16] (e' := [(0, .slice (some ad_l) n cap), (1, .func (.func 85) #[] #[]), (4, .int .i64 0), (5, .int .i64 (k : Int)), (7, .int .i64 (n : Int)), (8, .int .i64 ((k + 1 : Nat) : Int)), (9, .bool true), (16, .bool false)]) (by kernel_rfl) ?_
      refine WQ.round ?_
      intro a_ ha_
      refine ⟨k + 1, ?_, ha_.keep [0, 1, 4, 7, 8] (by kernel_rfl), ?_⟩
      · show n - (k + 1) < n - k; omega
      · exact ⟨by omega, by rw [any_step _ _ _ (by omega), hany, h4]; rfl, HA⟩
  · intro h1
    refine WO.done (by kernel_rfl) ?_
    refine WQ.keep [0, 1, 4, 7, 8, 9] (e' := [(0, .slice A n cap), (1, .func (.func 85) #[] #[]), (4, .int .i64 0), (7, .int .i64 (n : Int)), (8, .int .i64 (k : Int)), (9, .bool false)]) (by kernel_rfl) ?_
    refine WQ.thenN ?_
    refine WE.seq ?_
    refine WE.condF (by kernel_rfl) ?_
    refine WE.exit ?_
    refine WQ.thenE ?_
    refine WQ.thenE ?_
    refine WQ.blkE ?_
    refine WQ.thenN ?_
    refine WE.seq ?_
    -- R7 slices.go:113
    refine WE.region ?_
    refine WO.run 1 0 [(4, .int .i64 (-1))] (by kernel_rfl) (by kernel_rfl) ?_
    refine WO.done (by kernel_rfl) ?_
    refine WQ.keep [0, 1, 4, 7, 8, 9] (e' := [(0, .slice A n cap), (1, .func (.func 85) #[] #[]), (4, .int .i64 (-1)), (7, .int .i64 (n : Int)), (8, .int .i64 (k : Int)), (9, .bool false)]) (by kernel_rfl) ?_
    refine WQ.thenN ?_
    refine WE.ret ?_
    refine WQ.ret (v := .int .i64 (-1)) (by kernel_rfl) ?_
    exact ⟨_, rfl, by rw [← List.take_of_length_le (show l.length ≤ k by omega), hany]; rfl, HA⟩

set_option maxRecDepth 100000 in
set_option maxHeartbeats 400000 in
theorem contains_85 (A : Option Addr) (n cap : Nat) (l : List Int) (w : World) (hn : l.length = n) (hm : n ≤ 1000000) (hrd : Rd w A l) :
    Calls Try.prog 83 #[.slice A n cap, .func (.func 85) #[] #[]] w fun e w' => e = .returned (.bool (l.any oddC)) ∧ Fr [] w w' := by
  have HA := Fr.refl [] w
  refine enter (N := 9) Try.func83 (c := _) rfl (by kernel_rfl) (by kernel_rfl) (e := [(0, .slice A n cap), (1, .func (.func 85) #[] #[])]) (by kernel_rfl) ?_
  refine WE.seq ?_
  -- R0 slices.go:124
  refine WE.region ?_
  refine WO.run 1 0 [(4, .bool false)] (by kernel_rfl) (by kernel_rfl) ?_
  refine WO.done (by kernel_rfl) ?_
  refine WQ.keep [0, 1, 4] (e' := [(0, .slice A n cap), (1, .func (.func 85) #[] #[]), (4, .bool false)]) (by kernel_rfl) ?_
  refine WQ.thenN ?_
  refine WE.seq ?_
  -- R1 slices.go:125
  refine WE.region ?_
  refine WO.run 2 0 [(6, .func (.func 85) #[] #[]), (5, .slice A n cap)] (by kernel_rfl) (by kernel_rfl) ?_
  refine WO.call (SQ.E 2 (by kernel_rfl)) 7 (by kernel_rfl) (index_85 A n cap l _ hn hm (hrd.keep HA)) ?_
  rintro _ w1 ⟨r, rfl, hr, F2⟩
  refine ⟨_, rfl, trivial, ?_⟩
  have HA := Fr.step0 HA F2
  refine WO.run 2 3 [(4, .bool (decide ((r : Int) ≥ 0))), (8, .bool (decide ((r : Int) ≥ 0)))] (by kernel_rfl) (by kernel_rfl) ?_
  refine WO.done (by kernel_rfl) ?_
  refine WQ.keep [0, 1, 4] (e' := [(0, .slice A n cap), (1, .func (.func 85) #[] #[]), (4, .bool (decide ((r : Int) ≥ 0)))]) (by kernel_rfl) ?_
  refine WQ.thenN ?_
  refine WE.ret ?_
  refine WQ.ret (v := .bool (decide ((r : Int) ≥ 0))) (by kernel_rfl) ?_
  exact ⟨by rw [← hr], HA⟩

set_option maxRecDepth 100000 in
set_option maxHeartbeats 400000 in
theorem index_86 (A : Option Addr) (n cap : Nat) (l : List Int) (w : World) (hn : l.length = n) (hm : n ≤ 1000000) (hrd : Rd w A l) :
    Calls Try.prog 90 #[.slice A n cap, .func (.func 86) #[] #[]] w fun e w' => ∃ r : Int, e = .returned (.int .i64 r) ∧ decide (r ≥ 0) = l.any someC ∧ Fr [] w w' := by
  have HA := Fr.refl [] w
  refine enter (N := 19) Try.func90 (c := _) rfl (by kernel_rfl) (by kernel_rfl) (e := [(0, .slice A n cap), (1, .func (.func 86) #[] #[])]) (by kernel_rfl) ?_
  refine WE.seq ?_
  -- R0 slices.go:107
  refine WE.region ?_
  refine WO.run 1 0 [(4, .int .i64 0)] (by kernel_rfl) (by kernel_rfl) ?_
  refine WO.done (by kernel_rfl) ?_
  refine WQ.keep [0, 1, 4] (e' := [(0, .slice A n cap), (1, .func (.func 86) #[] #[]), (4, .int .i64 0)]) (by kernel_rfl) ?_
  refine WQ.thenN ?_
  refine WE.seq ?_
  refine WE.seq ?_
  -- R1 slices.go:108
  refine WE.region ?_
  refine WO.run 3 0 [(8, .int .i64 0), (7, .int .i64 (n : Int)), (6, .slice A n cap)] (by kernel_rfl) (by kernel_rfl) ?_
  refine WO.done (by kernel_rfl) ?_
  refine WQ.keep [0, 1, 4, 7, 8] (e' := [(0, .slice A n cap), (1, .func (.func 86) #[] #[]), (4, .int .i64 0), (7, .int .i64 (n : Int)), (8, .int .i64 0)]) (by kernel_rfl) ?_
  refine WQ.thenN ?_
  refine WE.block ?_
  refine WE.loop (α := Nat) (E := fun k => [(0, .slice A n cap), (1, .func (.func 86) #[] #[]), (4, .int .i64 0), (7, .int .i64 (n : Int)), (8, .int .i64 (k : Int))]) (I := fun k wr => k ≤ n ∧ (l.take k).any someC = false ∧ Fr [] w wr) (m := fun k => n - k) 0 [0, 1, 4, 7, 8] (by kernel_rfl) ?_ ?_
  · exact ⟨Nat.zero_le _, rfl, HA⟩
  rintro k wr ⟨hk, hany, HA⟩
  refine WE.seq ?_
  -- R2 slices.go:108
  refine WE.region ?_
  refine WO.one (SQ.F 0 (by kernel_rfl)) 9 (.bool (decide (((k : Int) : Int) < (n : Int)))) (by kernel_rfl) ?_
  refine WO.topP (((k : Int) : Int) < (n : Int)) ?_ ?_
  · intro h1
    refine WO.done (by kernel_rfl) ?_
    refine WQ.keep [0, 1, 4, 7, 8, 9] (e' := [(0, .slice A n cap), (1, .func (.func 86) #[] #[]), (4, .int .i64 0), (7, .int .i64 (n : Int)), (8, .int .i64 (k : Int)), (9, .bool true)]) (by kernel_rfl) ?_
    refine WQ.thenN ?_
    refine WE.seq ?_
    refine WE.condT (by kernel_rfl) ?_
    refine WE.skip ?_
    refine WQ.thenN ?_
    refine WE.seq ?_
    refine WE.block ?_
    refine WE.seq ?_
    -- R3 slices.go:108
    refine WE.region ?_
    refine WO.run 2 0 [(5, .int .i64 (k : Int)), (10, .int .i64 (k : Int))] (by kernel_rfl) (by kernel_rfl) ?_
    refine WO.done (by kernel_rfl) ?_
    refine WQ.keep [0, 1, 4, 5, 7, 8, 9] (e' := [(0, .slice A n cap), (1, .func (.func 86) #[] #[]), (4, .int .i64 0), (5, .int .i64 (k : Int)), (7, .int .i64 (n : Int)), (8, .int .i64 (k : Int)), (9, .bool true)]) (by kernel_rfl) ?_
    refine WQ.thenN ?_
    refine WE.seq ?_
    -- R4 slices.go:109
    refine WE.region ?_
    refine WO.run 3 0 [(13, .int .i64 (k : Int)), (12, .slice A n cap), (11, .func (.func 86) #[] #[])] (by kernel_rfl) (by kernel_rfl) ?_
    obtain ⟨ad_l, hA_l, hcl_l⟩ := hrd k (by omega)
    subst hA_l
    refine WO.ix (SQ.F 3 (by kernel_rfl)) 14 (ad_l.add k) ad_l n 1 (k : Int) (by kernel_rfl) (by omega) (by omega) (by congr 1 <;> omega) ?_
    refine WO.ld (SQ.S 4 (by kernel_rfl)) 15 (.int .i64 (g0 l k)) (by kernel_rfl) (same (HA.cell0 hcl_l)) ?_
    refine WO.call (SQ.E 5 (by kernel_rfl)) 16 (by kernel_rfl) (ask_86 (g0 l k) _) ?_
    rintro _ w2 ⟨rfl, F3⟩
    refine ⟨_, rfl, trivial, ?_⟩
    have HA := Fr.step0 HA F3
    refine WO.topB (someC (g0 l k)) ?_ ?_
    · intro h4
      refine WO.done (by kernel_rfl) ?_
      refine WQ.keep [0, 1, 4, 5, 7, 8, 9, 16] (e' := [(0, .slice (some ad_l) n cap), (1, .func (.func 86) #[] #[]), (4, .int .i64 0), (5, .int .i64 (k : Int)), (7, .int .i64 (n : Int)), (8, .int .i64 (k : Int)), (9, .bool true), (16, .bool true)]) (by kernel_rfl) ?_
      refine WQ.thenN ?_
      refine WE.condT (by kernel_rfl) ?_
      refine WE.seq ?_
      -- R5 slices.go:110
      refine WE.region ?_
      refine WO.run 2 0 [(4, .int .i64 (k : Int)), (17, .int .i64 (k : Int))] (by kernel_rfl) (by kernel_rfl) ?_
      refine WO.done (by kernel_rfl) ?_
      refine WQ.keep [0, 1, 4, 5, 7, 8, 9, 16] (e' := [(0, .slice (some ad_l) n cap), (1, .func (.func 86) #[] #[]), (4, .int .i64 (k : Int)), (5, .int .i64 (k : Int)), (7, .int .i64 (n : Int)), (8, .int .i64 (k : Int)), (9, .bool true), (16, .bool true)]) (by kernel_rfl) ?_
      refine WQ.thenN ?_
      refine WE.ret ?_
      refine WQ.blkR ?_
      refine WQ.thenR ?_
      refine WQ.thenR ?_
      refine WQ.blkR ?_
      refine WQ.thenR ?_
      refine WQ.ret (v := .int .i64 (k : Int)) (by kernel_rfl) ?_
      exact ⟨_, rfl, by rw [List.any_eq_true.2 ⟨_, g0_mem l (show k < l.length by omega), h4⟩]; exact decide_eq_true (by omega), HA⟩
    · intro h4
      refine WO.done (by kernel_rfl) ?_
      refine WQ.keep [0, 1, 4, 5, 7, 8, 9, 16] (e' := [(0, .slice (some ad_l) n cap), (1, .func (.func 86) #[] #[]), (4, .int .i64 0), (5, .int .i64 (k : Int)), (7, .int .i64 (n : Int)), (8, .int .i64 (k : Int)), (9, .bool true), (16, .bool false)]) (by kernel_rfl) ?_
      refine WQ.thenN ?_
      refine WE.condF (by kernel_rfl) ?_
      refine WE.skip ?_
      refine WQ.blkN ?_
      refine WQ.thenN ?_
      -- R6 slices.go:108
      refine WE.region ?_
      refine WO.one (SQ.F 0 (by kernel_rfl)) 18 (.int .i64 (IntKind.i64.wrap ((k : Int) + 1))) (by kernel_rfl) ?_
      refine WO.top (v' := .int .i64 ((k + 1 : Nat) : Int)) (wrap_i64 (by omega) (by omega)) ?_
      refine WO.run 1 1 [(8, .int .i64 ((k + 1 : Nat) : Int))] (by kernel_rfl) (by kernel_rfl) ?_
      refine WO.done (by kernel_rfl) ?_
      refine WQ.keep [0, 1, 4, 5, 7, 8, 9, 16] (e' := [(0, .slice (some ad_l) n cap), (1, .func (.func 86) #[] #[]), (4, .int .i64 0), (5, .int .i64 (k : Int)), (7, .int .i64 (n : Int)), (8, .int .i64 ((k + 1 : Nat) : Int)), (9, .bool true), (16, .bool false)]) (by kernel_rfl) ?_
      refine WQ.round ?_
      intro a_ ha_
      refine ⟨k + 1, ?_, ha_.keep [0, 1, 4, 7, 8] (by kernel_rfl), ?_⟩
      · show n - (k + 1) < n - k; omega
      · exact ⟨by omega, by rw [any_step _ _ _ (by omega), hany, h4]; rfl, HA⟩
  · intro h1
    refine WO.done (by kernel_rfl) ?_
    refine WQ.keep [0, 1, 4, 7, 8, 9] (e' := [(0, .slice A n cap), (1, .func (.func 86) #[] #[]), (4, .int .i64 0), (7, .int .i64 (n : Int)), (8, .int .i64 (k : Int)), (9, .bool false)]) (by kernel_rfl) ?_
    refine WQ.thenN ?_
    refine WE.seq ?_
    refine WE.condF (by kernel_rfl) ?_
    refine WE.exit ?_
    refine WQ.thenE ?_
    refine WQ.thenE ?_
    refine WQ.blkE ?_
    refine WQ.thenN ?_
    refine WE.seq ?_
    -- R7 slices.go:113
    refine WE.region ?_
    refine WO.run 1 0 [(4, .int .i64 (-1))] (by kernel_rfl) (by kernel_rfl) ?_
    refine WO.done (by kernel_rfl) ?_
    refine WQ.keep [0, 1, 4, 7, 8, 9] (e' := [(0, .slice A n cap), (1, .func (.func 86) #[] #[]), (4, .int .i64 (-1)), (7, .int .i64 (n : Int)), (8, .int .i64 (k : Int)), (9, .bool false)]) (by kernel_rfl) ?_
    refine WQ.thenN ?_
    refine WE.ret ?_
    refine WQ.ret (v := .int .i64 (-1)) (by kernel_rfl) ?_
    exact ⟨_, rfl, by rw [← List.take_of_length_le (show l.length ≤ k by omega), hany]; rfl, HA⟩

set_option maxRecDepth 100000 in
set_option maxHeartbeats 400000 in
theorem contains_86 (A : Option Addr) (n cap : Nat) (l : List Int) (w : World) (hn : l.length = n) (hm : n ≤ 1000000) (hrd : Rd w A l) :
    Calls Try.prog 83 #[.slice A n cap, .func (.func 86) #[] #[]] w fun e w' => e = .returned (.bool (l.any someC)) ∧ Fr [] w w' := by
  have HA := Fr.refl [] w
  refine enter (N := 9) Try.func83 (c := _) rfl (by kernel_rfl) (by kernel_rfl) (e := [(0, .slice A n cap), (1, .func (.func 86) #[] #[])]) (by kernel_rfl) ?_
  refine WE.seq ?_
  -- R0 slices.go:124
  refine WE.region ?_
  refine WO.run 1 0 [(4, .bool false)] (by kernel_rfl) (by kernel_rfl) ?_
  refine WO.done (by kernel_rfl) ?_
  refine WQ.keep [0, 1, 4] (e' := [(0, .slice A n cap), (1, .func (.func 86) #[] #[]), (4, .bool false)]) (by kernel_rfl) ?_
  refine WQ.thenN ?_
  refine WE.seq ?_
  -- R1 slices.go:125
  refine WE.region ?_
  refine WO.run 2 0 [(6, .func (.func 86) #[] #[]), (5, .slice A n cap)] (by kernel_rfl) (by kernel_rfl) ?_
  refine WO.call (SQ.E 2 (by kernel_rfl)) 7 (by kernel_rfl) (index_86 A n cap l _ hn hm (hrd.keep HA)) ?_
  rintro _ w1 ⟨r, rfl, hr, F2⟩
  refine ⟨_, rfl, trivial, ?_⟩
  have HA := Fr.step0 HA F2
  refine WO.run 2 3 [(4, .bool (decide ((r : Int) ≥ 0))), (8, .bool (decide ((r : Int) ≥ 0)))] (by kernel_rfl) (by kernel_rfl) ?_
  refine WO.done (by kernel_rfl) ?_
  refine WQ.keep [0, 1, 4] (e' := [(0, .slice A n cap), (1, .func (.func 86) #[] #[]), (4, .bool (decide ((r : Int) ≥ 0)))]) (by kernel_rfl) ?_
  refine WQ.thenN ?_
  refine WE.ret ?_
  refine WQ.ret (v := .bool (decide ((r : Int) ≥ 0))) (by kernel_rfl) ?_
  exact ⟨by rw [← hr], HA⟩

set_option maxRecDepth 100000 in
set_option maxHeartbeats 400000 in
theorem clone_any (ad : Addr) (n cap : Nat) (l : List Int) (w : World) (hn : l.length = n) (hm : n ≤ 1000000) (hsrc : Src w (.slice (some ad) n cap) n (l.map cI).flatten 1) :
    Calls Try.prog 84 #[.slice (some ad) n cap] w fun e w' => ∃ b cap', e = .returned (.slice (some ⟨b, 0, none⟩) n cap') ∧ RowB w' b 3 1 cap' (l.map cI) ∧ Fr [] w w' ∧ w.heap.size ≤ b := by
  have HA := Fr.refl [] w
  refine enter (N := 8) Try.func84 (c := _) rfl (by kernel_rfl) (by kernel_rfl) (e := [(0, .slice (some ad) n cap)]) (by kernel_rfl) ?_
  refine WE.seq ?_
  -- R0 slices.go:355
  refine WE.region ?_
  refine WO.run 1 0 [(2, .slice none 0 0)] (by kernel_rfl) (by kernel_rfl) ?_
  refine WO.done (by kernel_rfl) ?_
  refine WQ.keep [0, 2] (e' := [(0, .slice (some ad) n cap), (2, .slice none 0 0)]) (by kernel_rfl) ?_
  refine WQ.thenN ?_
  refine WE.seq ?_
  refine WE.seq ?_
  -- R1 slices.go:357
  refine WE.region ?_
  refine WO.run 2 0 [(4, .bool false), (3, .slice (some ad) n cap)] (by kernel_rfl) (by kernel_rfl) ?_
  refine WO.done (by kernel_rfl) ?_
  refine WQ.keep [0, 2, 4] (e' := [(0, .slice (some ad) n cap), (2, .slice none 0 0), (4, .bool false)]) (by kernel_rfl) ?_
  refine WQ.thenN ?_
  refine WE.condF (by kernel_rfl) ?_
  refine WE.skip ?_
  refine WQ.thenN ?_
  refine WE.seq ?_
  -- R3 slices.go:362
  refine WE.region ?_
  refine WO.bx (SQ.E 0 (by kernel_rfl)) 5 #[] 3 (fun g => .slice (some ⟨g, 0, none⟩) 0 0) (by kernel_rfl) (fun _ _ => trivial) ?_
  intro g1 w2 HB4 F3 le5 _
  have ge_HA_g1 := Nat.le_trans HA.size le5
  have HA := Fr.step0 HA F3
  refine WO.run 1 1 [(6, .slice (some ad) n cap)] (by kernel_rfl) (by kernel_rfl) ?_
  have HR11 := RowB.of_blk (n := 0) HB4 (List.map cI []) rfl rfl (cI_len _) (cI_one _) (by omega)
  refine WO.appRow (SQ.E 2 (by kernel_rfl)) 7 (n := 0) (m := n) (ys := List.map cI l) et_i HR11 ((List.length_map _).trans ((rfl : List.length ([] : List Int) = 0))) (by rw [List.length_map] <;> first | rfl | omega | (simp <;> omega)) (hsrc.mono HA) (cI_len _) (cI_one _) (by kernel_rfl) (by omega) (by omega) (fun _ _ => trivial) ?_
  intro b6 cap7 w8 HR9 F10 hb12
  have in_HA_b6 : b6 ∈ [] ∨ (World.heap w).size ≤ b6 := hb12.elim (fun h => Or.inr (h ▸ ge_HA_g1)) (fun h => Or.inr (Nat.le_trans HA.size h))
  have HA := Fr.step HA F10 (inSR ge_HA_g1 inS0)
  have HR9 : RowB w8 b6 3 1 cap7 ((([] : List Int) ++ l).map cI) := by rw [List.map_append]; exact HR9
  refine WO.run 1 3 [(2, .slice (some ⟨b6, 0, none⟩) (0 + n) cap7)] (by kernel_rfl) (by kernel_rfl) ?_
  refine WO.done (by kernel_rfl) ?_
  refine WQ.keep [0, 2, 4] (e' := [(0, .slice (some ad) n cap), (2, .slice (some ⟨b6, 0, none⟩) (0 + n) cap7), (4, .bool false)]) (by kernel_rfl) ?_
  refine WQ.thenN ?_
  refine WE.ret ?_
  refine WQ.ret (v := .slice (some ⟨b6, 0, none⟩) (0 + n) cap7) (by kernel_rfl) ?_
  rw [List.nil_append] at HR9
  exact ⟨_, _, by rw [Nat.zero_add], HR9, HA, (in_HA_b6).resolve_left (by simp)⟩

set_option maxRecDepth 100000 in
set_option maxHeartbeats 400000 in
theorem new_bad (A : Option Addr) (n cap : Nat) (l : List Int) (w : World) (hn : l.length = n) (hrd : Rd w A l) (hany : 1 ≤ n → n ≤ 4 → l.any oddQ = true) :
    Calls Try.prog 66 #[.slice A n cap] w fun e w' => e = .returned (.tuple #[.pointer none, .iface 29 (.int .i64 1)]) ∧ Fr [] w w' := by
  have HA := Fr.refl [] w
  refine enter (N := 26) Try.func66 (c := _) rfl (by kernel_rfl) (by kernel_rfl) (e := [(0, .slice A n cap)]) (by kernel_rfl) ?_
  refine WE.seq ?_
  -- R0 deficit.go:21
  refine WE.region ?_
  refine WO.run 2 0 [(3, .nilIface), (2, .pointer none)] (by kernel_rfl) (by kernel_rfl) ?_
  refine WO.done (by kernel_rfl) ?_
  refine WQ.keep [0, 2, 3] (e' := [(0, .slice A n cap), (2, .pointer none), (3, .nilIface)]) (by kernel_rfl) ?_
  refine WQ.thenN ?_
  refine WE.seq ?_
  -- R1 deficit.go:22
  refine WE.region ?_
  refine WO.run 1 0 [(4, .func (.func 82) #[] #[])] (by kernel_rfl) (by kernel_rfl) ?_
  refine WO.done (by kernel_rfl) ?_
  refine WQ.keep [0, 2, 3, 4] (e' := [(0, .slice A n cap), (2, .pointer none), (3, .nilIface), (4, .func (.func 82) #[] #[])]) (by kernel_rfl) ?_
  refine WQ.thenN ?_
  refine WE.seq ?_
  refine WE.seq ?_
  -- R2 deficit.go:23
  refine WE.region ?_
  refine WO.run 2 0 [(6, .int .i64 (n : Int)), (5, .slice A n cap)] (by kernel_rfl) (by kernel_rfl) ?_
  refine WO.one (SQ.F 2 (by kernel_rfl)) 7 (.bool (decide (((n : Int) : Int) < (1 : Int)))) (by kernel_rfl) ?_
  refine WO.topP (((n : Int) : Int) < (1 : Int)) ?_ ?_
  · intro h1
    refine WO.run 10 3 [(17, .bool true), (16, undef), (15, undef), (14, undef), (13, .bool true), (12, .bool true), (11, undef), (10, undef), (9, undef), (8, .bool true)] (by kernel_rfl) (by kernel_rfl) ?_
    refine WO.done (by kernel_rfl) ?_
    refine WQ.keep [0, 2, 3, 4, 17] (e' := [(0, .slice A n cap), (2, .pointer none), (3, .nilIface), (4, .func (.func 82) #[] #[]), (17, .bool true)]) (by kernel_rfl) ?_
    refine WQ.thenN ?_
    refine WE.condT (by kernel_rfl) ?_
    refine WE.seq ?_
    -- R3 deficit.go:24
    refine WE.region ?_
    refine WO.run 3 0 [(3, .iface 29 (.int .i64 1)), (2, .pointer none), (18, .iface 29 (.int .i64 1))] (by kernel_rfl) (by kernel_rfl) ?_
    refine WO.done (by kernel_rfl) ?_
    refine WQ.keep [0, 2, 3, 4, 17] (e' := [(0, .slice A n cap), (2, .pointer none), (3, .iface 29 (.int .i64 1)), (4, .func (.func 82) #[] #[]), (17, .bool true)]) (by kernel_rfl) ?_
    refine WQ.thenN ?_
    refine WE.ret ?_
    refine WQ.thenR ?_
    refine WQ.ret (v := .tuple #[.pointer none, .iface 29 (.int .i64 1)]) (by kernel_rfl) ?_
    exact ⟨rfl, HA⟩
  · intro h1
    refine WO.run 3 3 [(10, .int .i64 (n : Int)), (9, .slice A n cap), (8, .bool false)] (by kernel_rfl) (by kernel_rfl) ?_
    refine WO.one (SQ.F 6 (by kernel_rfl)) 11 (.bool (decide (((n : Int) : Int) > (4 : Int)))) (by kernel_rfl) ?_
    refine WO.topP (((n : Int) : Int) > (4 : Int)) ?_ ?_
    · intro h2
      refine WO.run 6 7 [(17, .bool true), (16, undef), (15, undef), (14, undef), (13, .bool true), (12, .bool true)] (by kernel_rfl) (by kernel_rfl) ?_
      refine WO.done (by kernel_rfl) ?_
      refine WQ.keep [0, 2, 3, 4, 17] (e' := [(0, .slice A n cap), (2, .pointer none), (3, .nilIface), (4, .func (.func 82) #[] #[]), (17, .bool true)]) (by kernel_rfl) ?_
      refine WQ.thenN ?_
      refine WE.condT (by kernel_rfl) ?_
      refine WE.seq ?_
      -- R3 deficit.go:24
      refine WE.region ?_
      refine WO.run 3 0 [(3, .iface 29 (.int .i64 1)), (2, .pointer none), (18, .iface 29 (.int .i64 1))] (by kernel_rfl) (by kernel_rfl) ?_
      refine WO.done (by kernel_rfl) ?_
      refine WQ.keep [0, 2, 3, 4, 17] (e' := [(0, .slice A n cap), (2, .pointer none), (3, .iface 29 (.int .i64 1)), (4, .func (.func 82) #[] #[]), (17, .bool true)]) (by kernel_rfl) ?_
      refine WQ.thenN ?_
      refine WE.ret ?_
      refine WQ.thenR ?_
      refine WQ.ret (v := .tuple #[.pointer none, .iface 29 (.int .i64 1)]) (by kernel_rfl) ?_
      exact ⟨rfl, HA⟩
    · intro h2
      refine WO.run 4 7 [(15, .func (.func 82) #[] #[]), (14, .slice A n cap), (13, .bool false), (12, .bool false)] (by kernel_rfl) (by kernel_rfl) ?_
      refine WO.call (SQ.E 11 (by kernel_rfl)) 16 (by kernel_rfl) (contains_82 A n cap l _ hn (by omega) (hrd.keep HA)) ?_
      rintro _ w3 ⟨rfl, F4⟩
      refine ⟨_, rfl, trivial, ?_⟩
      have HA := Fr.step0 HA F4
      refine WO.top (v' := .bool true) (congrArg Value.bool (by exact hany (by omega) (by omega))) ?_
      refine WO.run 1 12 [(17, .bool true)] (by kernel_rfl) (by kernel_rfl) ?_
      refine WO.done (by kernel_rfl) ?_
      refine WQ.keep [0, 2, 3, 4, 17] (e' := [(0, .slice A n cap), (2, .pointer none), (3, .nilIface), (4, .func (.func 82) #[] #[]), (17, .bool true)]) (by kernel_rfl) ?_
      refine WQ.thenN ?_
      refine WE.condT (by kernel_rfl) ?_
      refine WE.seq ?_
      -- R3 deficit.go:24
      refine WE.region ?_
      refine WO.run 3 0 [(3, .iface 29 (.int .i64 1)), (2, .pointer none), (18, .iface 29 (.int .i64 1))] (by kernel_rfl) (by kernel_rfl) ?_
      refine WO.done (by kernel_rfl) ?_
      refine WQ.keep [0, 2, 3, 4, 17] (e' := [(0, .slice A n cap), (2, .pointer none), (3, .iface 29 (.int .i64 1)), (4, .func (.func 82) #[] #[]), (17, .bool true)]) (by kernel_rfl) ?_
      refine WQ.thenN ?_
      refine WE.ret ?_
      refine WQ.thenR ?_
      refine WQ.ret (v := .tuple #[.pointer none, .iface 29 (.int .i64 1)]) (by kernel_rfl) ?_
      exact ⟨rfl, HA⟩

set_option maxRecDepth 100000 in
set_option maxHeartbeats 400000 in
theorem new_ok (ad : Addr) (n cap : Nat) (l : List Int) (w : World) (hn : l.length = n) (hrd : Rd w (some ad) l) (hsrc : Src w (.slice (some ad) n cap) n (l.map cI).flatten 1) (h1 : 1 ≤ n) (h4 : n ≤ 4) (hany : l.any oddQ = false) :
    Calls Try.prog 66 #[.slice (some ad) n cap] w fun e w' => ∃ g bq bc cq cc, e = .returned (.tuple #[.pointer (some ⟨g, 0, none⟩), .nilIface]) ∧ Blk w' g #[.slice (some ⟨bq, 0, none⟩) n cq, .slice (some ⟨bc, 0, none⟩) n cc, .int .i64 (0 : Int), .bool false] 144 ∧ RowB w' bq 3 1 cq (l.map cI) ∧ RowB w' bc 3 1 cc ((List.replicate n 0).map cI) ∧ g ≠ bq ∧ g ≠ bc ∧ bq ≠ bc ∧ Fr [] w w' ∧ w.heap.size ≤ g ∧ w.heap.size ≤ bq ∧ w.heap.size ≤ bc := by
  have HA := Fr.refl [] w
  refine enter (N := 26) Try.func66 (c := _) rfl (by kernel_rfl) (by kernel_rfl) (e := [(0, .slice (some ad) n cap)]) (by kernel_rfl) ?_
  refine WE.seq ?_
  -- R0 deficit.go:21
  refine WE.region ?_
  refine WO.run 2 0 [(3, .nilIface), (2, .pointer none)] (by kernel_rfl) (by kernel_rfl) ?_
  refine WO.done (by kernel_rfl) ?_
  refine WQ.keep [0, 2, 3] (e' := [(0, .slice (some ad) n cap), (2, .pointer none), (3, .nilIface)]) (by kernel_rfl) ?_
  refine WQ.thenN ?_
  refine WE.seq ?_
  -- R1 deficit.go:22
  refine WE.region ?_
  refine WO.run 1 0 [(4, .func (.func 82) #[] #[])] (by kernel_rfl) (by kernel_rfl) ?_
  refine WO.done (by kernel_rfl) ?_
  refine WQ.keep [0, 2, 3, 4] (e' := [(0, .slice (some ad) n cap), (2, .pointer none), (3, .nilIface), (4, .func (.func 82) #[] #[])]) (by kernel_rfl) ?_
  refine WQ.thenN ?_
  refine WE.seq ?_
  refine WE.seq ?_
  -- R2 deficit.go:23
  refine WE.region ?_
  refine WO.run 2 0 [(6, .int .i64 (n : Int)), (5, .slice (some ad) n cap)] (by kernel_rfl) (by kernel_rfl) ?_
  refine WO.one (SQ.F 2 (by kernel_rfl)) 7 (.bool (decide (((n : Int) : Int) < (1 : Int)))) (by kernel_rfl) ?_
  refine WO.topPF (((n : Int) : Int) < (1 : Int)) (by omega) ?_
  refine WO.run 3 3 [(10, .int .i64 (n : Int)), (9, .slice (some ad) n cap), (8, .bool false)] (by kernel_rfl) (by kernel_rfl) ?_
  refine WO.one (SQ.F 6 (by kernel_rfl)) 11 (.bool (decide (((n : Int) : Int) > (4 : Int)))) (by kernel_rfl) ?_
  refine WO.topPF (((n : Int) : Int) > (4 : Int)) (by omega) ?_
  refine WO.run 4 7 [(15, .func (.func 82) #[] #[]), (14, .slice (some ad) n cap), (13, .bool false), (12, .bool false)] (by kernel_rfl) (by kernel_rfl) ?_
  refine WO.call (SQ.E 11 (by kernel_rfl)) 16 (by kernel_rfl) (contains_82 (some ad) n cap l _ hn (by omega) (hrd.keep HA)) ?_
  rintro _ w1 ⟨rfl, F2⟩
  refine ⟨_, rfl, trivial, ?_⟩
  have HA := Fr.step0 HA F2
  refine WO.top (v' := .bool false) (congrArg Value.bool (by exact hany)) ?_
  refine WO.run 1 12 [(17, .bool false)] (by kernel_rfl) (by kernel_rfl) ?_
  refine WO.done (by kernel_rfl) ?_
  refine WQ.keep [0, 2, 3, 4, 17] (e' := [(0, .slice (some ad) n cap), (2, .pointer none), (3, .nilIface), (4, .func (.func 82) #[] #[]), (17, .bool false)]) (by kernel_rfl) ?_
  refine WQ.thenN ?_
  refine WE.condF (by kernel_rfl) ?_
  refine WE.skip ?_
  refine WQ.thenN ?_
  refine WE.seq ?_
  -- R4* deficit.go:26
  refine WE.draw [.free, .eff, .free, .free, .eff, .free, .eff, .free, .free] Same sameR (by kernel_rfl) 9 (Array.replicate 9 false) (by kernel_rfl) rfl ?_
  intro w3 F4 _
  have HA := Fr.step0 HA F4
  refine WO.one (SA.F sameR sameT _ 0 _ (by kernel_rfl)) 19 (.slice (some ad) n cap) (by kernel_rfl) ?_
  refine WO.one (SA.F sameR sameT _ 2 _ (by kernel_rfl)) 21 (.slice (some ad) n cap) (by kernel_rfl) ?_
  refine WO.one (SA.F sameR sameT _ 3 _ (by kernel_rfl)) 22 (.int .i64 (n : Int)) (by kernel_rfl) ?_
  refine WO.toX ?_
  refine WO.fork2 1 4 (by kernel_rfl) ?_ ?_
  · skip
    refine WO.call (SAx.now _ 1 _ (by kernel_rfl) rfl) 20 (by kernel_rfl) (clone_any ad n cap l _ hn (by omega) (hsrc.mono HA)) ?_
    rintro _ w5 ⟨b7, cap8, rfl, HR9, F6, le10⟩
    refine ⟨_, rfl, trivial, ?_⟩
    have ge_HA_b7 := Nat.le_trans HA.size le10
    have HA := Fr.step0 HA F6
    refine WO.mk (SAx.E (SA.E _ 4 _ (by kernel_rfl) rfl)) 23 n (.int .i64 0) (by kernel_rfl) (make_int n (by omega)) rfl (by omega) (fun _ _ => trivial) ?_
    intro g11 w12 HR14 F13 le15 _
    have ne_b7_g11 : b7 ≠ g11 := Nat.ne_of_lt (Nat.lt_of_lt_of_le HR9.lt le15)
    have ge_HA_g11 := Nat.le_trans HA.size le15
    have HR9 := RowB.keep HR9 F13 (nin0 _)
    have HA := Fr.step0 HA F13
    have HR14 : RowB w12 g11 3 1 n ((List.replicate n 0).map cI) := by rw [List.map_replicate]; exact HR14
    refine WO.one (SAx.F (SA.F sameR sameT _ 5 _ (by kernel_rfl))) 24 (.agg #[.slice (some ⟨b7, 0, none⟩) n cap8, .slice (some ⟨g11, 0, none⟩) n n, .int .i64 0, .bool false]) (by kernel_rfl) ?_
    refine WO.bx (SAx.E (SA.E _ 6 _ (by kernel_rfl) rfl)) 25 #[.slice (some ⟨b7, 0, none⟩) n cap8, .slice (some ⟨g11, 0, none⟩) n n, .int .i64 0, .bool false] 144 (fun g => .pointer (some ⟨g, 0, none⟩)) (by kernel_rfl) (fun _ _ => trivial) ?_
    intro g16 w17 HB19 F18 le20 _
    have ne_b7_g16 : b7 ≠ g16 := Nat.ne_of_lt (Nat.lt_of_lt_of_le HR9.lt le20)
    have ne_g11_g16 : g11 ≠ g16 := Nat.ne_of_lt (Nat.lt_of_lt_of_le HR14.lt le20)
    have ge_HA_g16 := Nat.le_trans HA.size le20
    have HR9 := RowB.keep HR9 F18 (nin0 _)
    have HR14 := RowB.keep HR14 F18 (nin0 _)
    have HA := Fr.step0 HA F18
    refine WO.one (SAx.F (SA.F sameR sameT _ 7 _ (by kernel_rfl))) 2 (.pointer (some ⟨g16, 0, none⟩)) (by kernel_rfl) ?_
    refine WO.one (SAx.F (SA.F sameR sameT _ 8 _ (by kernel_rfl))) 3 (.nilIface) (by kernel_rfl) ?_
    refine WO.doneX (by kernel_rfl) ?_
    refine WQ.keep [0, 2, 3, 4, 17] (e' := [(0, .slice (some ad) n cap), (2, .pointer (some ⟨g16, 0, none⟩)), (3, .nilIface), (4, .func (.func 82) #[] #[]), (17, .bool false)]) (by kernel_rfl) ?_
    refine WQ.thenN ?_
    refine WE.ret ?_
    refine WQ.ret (v := .tuple #[.pointer (some ⟨g16, 0, none⟩), .nilIface]) (by kernel_rfl) ?_
    exact ⟨_, _, _, _, _, rfl, HB19, HR9, HR14, (Ne.symm ne_b7_g16), (Ne.symm ne_g11_g16), ne_b7_g11, HA, ge_HA_g16, ge_HA_b7, ge_HA_g11⟩
  · skip
    refine WO.mk (SAx.now _ 4 _ (by kernel_rfl) rfl) 23 n (.int .i64 0) (by kernel_rfl) (make_int n (by omega)) rfl (by omega) (fun _ _ => trivial) ?_
    intro g21 w22 HR24 F23 le25 _
    have ge_HA_g21 := Nat.le_trans HA.size le25
    have HA := Fr.step0 HA F23
    have HR24 : RowB w22 g21 3 1 n ((List.replicate n 0).map cI) := by rw [List.map_replicate]; exact HR24
    refine WO.call (SAx.E (SA.E _ 1 _ (by kernel_rfl) rfl)) 20 (by kernel_rfl) (clone_any ad n cap l _ hn (by omega) (hsrc.mono HA)) ?_
    rintro _ w26 ⟨b28, cap29, rfl, HR30, F27, le31⟩
    refine ⟨_, rfl, trivial, ?_⟩
    have ne_g21_b28 : g21 ≠ b28 := Nat.ne_of_lt (Nat.lt_of_lt_of_le HR24.lt le31)
    have ge_HA_b28 := Nat.le_trans HA.size le31
    have HR24 := RowB.keep HR24 F27 (nin0 _)
    have HA := Fr.step0 HA F27
    refine WO.one (SAx.F (SA.F sameR sameT _ 5 _ (by kernel_rfl))) 24 (.agg #[.slice (some ⟨b28, 0, none⟩) n cap29, .slice (some ⟨g21, 0, none⟩) n n, .int .i64 0, .bool false]) (by kernel_rfl) ?_
    refine WO.bx (SAx.E (SA.E _ 6 _ (by kernel_rfl) rfl)) 25 #[.slice (some ⟨b28, 0, none⟩) n cap29, .slice (some ⟨g21, 0, none⟩) n n, .int .i64 0, .bool false] 144 (fun g => .pointer (some ⟨g, 0, none⟩)) (by kernel_rfl) (fun _ _ => trivial) ?_
    intro g32 w33 HB35 F34 le36 _
    have ne_g21_g32 : g21 ≠ g32 := Nat.ne_of_lt (Nat.lt_of_lt_of_le HR24.lt le36)
    have ne_b28_g32 : b28 ≠ g32 := Nat.ne_of_lt (Nat.lt_of_lt_of_le HR30.lt le36)
    have ge_HA_g32 := Nat.le_trans HA.size le36
    have HR24 := RowB.keep HR24 F34 (nin0 _)
    have HR30 := RowB.keep HR30 F34 (nin0 _)
    have HA := Fr.step0 HA F34
    refine WO.one (SAx.F (SA.F sameR sameT _ 7 _ (by kernel_rfl))) 2 (.pointer (some ⟨g32, 0, none⟩)) (by kernel_rfl) ?_
    refine WO.one (SAx.F (SA.F sameR sameT _ 8 _ (by kernel_rfl))) 3 (.nilIface) (by kernel_rfl) ?_
    refine WO.doneX (by kernel_rfl) ?_
    refine WQ.keep [0, 2, 3, 4, 17] (e' := [(0, .slice (some ad) n cap), (2, .pointer (some ⟨g32, 0, none⟩)), (3, .nilIface), (4, .func (.func 82) #[] #[]), (17, .bool false)]) (by kernel_rfl) ?_
    refine WQ.thenN ?_
    refine WE.ret ?_
    refine WQ.ret (v := .tuple #[.pointer (some ⟨g32, 0, none⟩), .nilIface]) (by kernel_rfl) ?_
    exact ⟨_, _, _, _, _, rfl, HB35, HR30, HR24, (Ne.symm ne_b28_g32), (Ne.symm ne_g21_g32), (Ne.symm ne_g21_b28), HA, ge_HA_g32, ge_HA_b28, ge_HA_g21⟩

set_option maxRecDepth 100000 in
set_option maxHeartbeats 400000 in
theorem on_any (g bq bc cq cc n p : Nat) (v : Bool) (w : World) (HB : Blk w g #[.slice (some ⟨bq, 0, none⟩) n cq, .slice (some ⟨bc, 0, none⟩) n cc, .int .i64 (p : Int), .bool v] 144) (h1 : 1 ≤ n) (hp : p ≤ 1000) :
    Calls Try.prog 87 #[.pointer (some ⟨g, 0, none⟩)] w fun e w' => e = .returned (.tuple #[]) ∧ Blk w' g #[.slice (some ⟨bq, 0, none⟩) n cq, .slice (some ⟨bc, 0, none⟩) n cc, .int .i64 (((p + 1) % n : Nat) : Int), .bool false] 144 ∧ Fr [g] w w' := by
  have HA := Fr.refl [g] w
  refine enter (N := 19) Try.func87 (c := _) rfl (by kernel_rfl) (by kernel_rfl) (e := [(0, .pointer (some ⟨g, 0, none⟩))]) (by kernel_rfl) ?_
  -- R0* deficit.go:30
  refine WE.draw [.free, .free, .free, .free, .free, .still, .free, .free, .free, .free, .still, .free, .free, .free, .free, .eff, .free, .free, .eff] Same sameR (by kernel_rfl) 19 (Array.replicate 19 false) (by kernel_rfl) rfl ?_
  intro w1 F2 _
  have HB := Blk.keep HB F2 (nin0 _)
  have HA := Fr.step0 HA F2
  refine WO.one (SA.F sameR sameT _ 0 _ (by kernel_rfl)) 2 (.pointer (some ⟨g, 0, none⟩)) (by kernel_rfl) ?_
  refine WO.one (SA.F sameR sameT _ 1 _ (by kernel_rfl)) 3 (.pointer (some ⟨g, 0, none⟩)) (by kernel_rfl) ?_
  refine WO.one (SA.F sameR sameT _ 2 _ (by kernel_rfl)) 4 (.pointer (some ⟨g, 0, none⟩)) (by kernel_rfl) ?_
  refine WO.one (SA.F sameR sameT _ 3 _ (by kernel_rfl)) 5 (.pointer (some ⟨g, 0, none⟩)) (by kernel_rfl) ?_
  refine WO.one (SA.F sameR sameT _ 4 _ (by kernel_rfl)) 6 (.pointer (some ⟨g, 2, none⟩)) (by kernel_rfl) ?_
  refine WO.ld (SA.S sameR sameT _ 5 _ (by kernel_rfl)) 7 (.int .i64 (p : Int)) (by kernel_rfl) (same (HB.at 2 (by kernel_rfl))) ?_
  refine WO.one (SA.F sameR sameT _ 6 _ (by kernel_rfl)) 8 (.int .i64 (IntKind.i64.wrap ((p : Int) + 1))) (by kernel_rfl) ?_
  refine WO.top (v' := .int .i64 ((p + 1 : Nat) : Int)) (wrap_i64 (by omega) (by omega)) ?_
  refine WO.one (SA.F sameR sameT _ 7 _ (by kernel_rfl)) 9 (.pointer (some ⟨g, 0, none⟩)) (by kernel_rfl) ?_
  refine WO.one (SA.F sameR sameT _ 8 _ (by kernel_rfl)) 10 (.pointer (some ⟨g, 0, none⟩)) (by kernel_rfl) ?_
  refine WO.one (SA.F sameR sameT _ 9 _ (by kernel_rfl)) 11 (.pointer (some ⟨g, 0, none⟩)) (by kernel_rfl) ?_
  refine WO.ld (SA.S sameR sameT _ 10 _ (by kernel_rfl)) 12 (.slice (some ⟨bq, 0, none⟩) n cq) (by kernel_rfl) (same (HB.at 0 (by kernel_rfl))) ?_
  refine WO.one (SA.F sameR sameT _ 11 _ (by kernel_rfl)) 13 (.int .i64 (n : Int)) (by kernel_rfl) ?_
  refine WO.rem (SA.F sameR sameT _ 12 _ (by kernel_rfl)) 14 .i64 (p + 1 : Int) (n : Int) (by kernel_rfl) (by omega) ?_
  refine WO.top (v' := .int .i64 (((p + 1) % n : Nat) : Int)) rfl ?_
  refine WO.one (SA.F sameR sameT _ 13 _ (by kernel_rfl)) 15 (.pointer (some ⟨g, 0, none⟩)) (by kernel_rfl) ?_
  refine WO.one (SA.F sameR sameT _ 14 _ (by kernel_rfl)) 16 (.pointer (some ⟨g, 2, none⟩)) (by kernel_rfl) ?_
  refine WO.st (SA.E _ 15 _ (by kernel_rfl) rfl) g 2 [.int .i64 (((p + 1) % n : Nat) : Int)] #[.slice (some ⟨bq, 0, none⟩) n cq, .slice (some ⟨bc, 0, none⟩) n cc, .int .i64 (((p + 1) % n : Nat) : Int), .bool v] (by kernel_rfl) HB (by kernel_rfl) (by kernel_rfl) (fun _ _ => trivial) ?_
  intro w3 HB5 F4 _
  have HA := Fr.step HA F4 (inSL (by simp) inS0)
  refine WO.one (SA.F sameR sameT _ 16 _ (by kernel_rfl)) 17 (.pointer (some ⟨g, 0, none⟩)) (by kernel_rfl) ?_
  refine WO.one (SA.F sameR sameT _ 17 _ (by kernel_rfl)) 18 (.pointer (some ⟨g, 3, none⟩)) (by kernel_rfl) ?_
  refine WO.st (SA.E _ 18 _ (by kernel_rfl) rfl) g 3 [.bool false] #[.slice (some ⟨bq, 0, none⟩) n cq, .slice (some ⟨bc, 0, none⟩) n cc, .int .i64 (((p + 1) % n : Nat) : Int), .bool false] (by kernel_rfl) HB5 (by kernel_rfl) (by kernel_rfl) (fun _ _ => trivial) ?_
  intro w6 HB8 F7 _
  have HA := Fr.step HA F7 (inSL (by simp) inS0)
  refine WO.doneA (by kernel_rfl) ?_
  refine WQ.keep [0] (e' := [(0, .pointer (some ⟨g, 0, none⟩))]) (by kernel_rfl) ?_
  refine WQ.fall (v := .tuple #[]) (by kernel_rfl) ?_
  exact ⟨rfl, HB8, HA⟩

set_option maxRecDepth 100000 in
set_option maxHeartbeats 400000 in
theorem credits_any (g bq bc cq cc n p : Nat) (v : Bool) (cs : List Int) (w : World) (HB : Blk w g #[.slice (some ⟨bq, 0, none⟩) n cq, .slice (some ⟨bc, 0, none⟩) n cc, .int .i64 (p : Int), .bool v] 144) (HC : RowB w bc 3 1 cc (cs.map cI)) (hn : cs.length = n) (h4 : n ≤ 4) :
    Calls Try.prog 71 #[.pointer (some ⟨g, 0, none⟩)] w fun e w' => ∃ b cap', e = .returned (.slice (some ⟨b, 0, none⟩) n cap') ∧ RowB w' b 3 1 cap' (cs.map cI) ∧ Fr [] w w' ∧ w.heap.size ≤ b := by
  have HA := Fr.refl [] w
  refine enter (N := 8) Try.func71 (c := _) rfl (by kernel_rfl) (by kernel_rfl) (e := [(0, .pointer (some ⟨g, 0, none⟩))]) (by kernel_rfl) ?_
  refine WE.seq ?_
  -- R0 deficit.go:65
  refine WE.region ?_
  refine WO.run 1 0 [(2, .slice none 0 0)] (by kernel_rfl) (by kernel_rfl) ?_
  refine WO.done (by kernel_rfl) ?_
  refine WQ.keep [0, 2] (e' := [(0, .pointer (some ⟨g, 0, none⟩)), (2, .slice none 0 0)]) (by kernel_rfl) ?_
  refine WQ.thenN ?_
  refine WE.seq ?_
  -- R1 deficit.go:65
  refine WE.region ?_
  refine WO.run 3 0 [(5, .pointer (some ⟨g, 1, none⟩)), (4, .pointer (some ⟨g, 0, none⟩)), (3, .pointer (some ⟨g, 0, none⟩))] (by kernel_rfl) (by kernel_rfl) ?_
  refine WO.ld (SQ.S 3 (by kernel_rfl)) 6 (.slice (some ⟨bc, 0, none⟩) n cc) (by kernel_rfl) (same (HB.at 1 (by kernel_rfl))) ?_
  refine WO.call (SQ.E 4 (by kernel_rfl)) 7 (by kernel_rfl) (clone_any ⟨bc, 0, none⟩ n cc cs _ hn (by omega) (by have h_ := HC.src; rw [List.length_map, hn] at h_; exact h_)) ?_
  rintro _ w1 ⟨b3, cap4, rfl, HR5, F2, le6⟩
  refine ⟨_, rfl, trivial, ?_⟩
  have ne_g_b3 : g ≠ b3 := Nat.ne_of_lt (Nat.lt_of_lt_of_le HB.lt le6)
  have ne_bc_b3 : bc ≠ b3 := Nat.ne_of_lt (Nat.lt_of_lt_of_le HC.lt le6)
  have ge_HA_b3 := Nat.le_trans HA.size le6
  have HB := Blk.keep HB F2 (nin0 _)
  have HC := RowB.keep HC F2 (nin0 _)
  have HA := Fr.step0 HA F2
  refine WO.run 1 5 [(2, .slice (some ⟨b3, 0, none⟩) n cap4)] (by kernel_rfl) (by kernel_rfl) ?_
  refine WO.done (by kernel_rfl) ?_
  refine WQ.keep [0, 2] (e' := [(0, .pointer (some ⟨g, 0, none⟩)), (2, .slice (some ⟨b3, 0, none⟩) n cap4)]) (by kernel_rfl) ?_
  refine WQ.thenN ?_
  refine WE.ret ?_
  refine WQ.ret (v := .slice (some ⟨b3, 0, none⟩) n cap4) (by kernel_rfl) ?_
  exact ⟨_, _, rfl, HR5, HA, ge_HA_b3⟩
end Go.Proofs.Ytjkaldnhfenbhaa.Deficit
