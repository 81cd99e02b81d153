/- Layer 8's law DiskPlays. -/
import Derived.Test.YtkhibpdkgjapgaaDiskO
set_option linter.unusedVariables false
set_option linter.unusedSimpArgs false
namespace Go.Proofs.Ytkhibpdkgjapgaa.Disk
open Go Go.RowKit Go.Proofs.Ytkhibpdkgjapgaa Go.Proofs.Ytkhibpdkgjapgaa.Eng Go.Proofs.YtkhibpdkgjapgaaW.PrintWords
structure GD where
  what : Int
  n : Int
  z : Int
  A : Option Addr
  cap : Nat
  b : List UInt8
  F : List Nat
def cD (x : GD) : List Value := [.int .i64 x.what, .int .i64 x.n, .int .i64 x.z, .slice x.A x.b.length x.cap]
def gD (q : List GD) (i : Nat) : GD := q.getD i ⟨0, 0, 0, none, 0, [], []⟩
theorem gD_some (q : List GD) (i : Nat) (h : i < q.length) : q[i]? = some (gD q i) := by
  unfold gD
  rw [List.getD_eq_getElem?_getD, List.getElem?_eq_getElem h]
  rfl
theorem gD_mem (q : List GD) (i : Nat) (h : i < q.length) : gD q i ∈ q := List.mem_of_getElem? (gD_some q i h)
theorem cD_len (l : List GD) : ∀ x ∈ l.map cD, x.length = 4 := by
  intro x hx
  obtain ⟨b, _, rfl⟩ := List.mem_map.1 hx
  rfl
theorem cD_one (l : List GD) : ∀ x ∈ l.map cD, x.all oneB = true := by
  intro x hx
  obtain ⟨b, _, rfl⟩ := List.mem_map.1 hx
  rfl
theorem g0_some (q : List Int) (i : Nat) (h : i < q.length) : q[i]? = some (g0 q i) := by
  unfold g0
  rw [List.getD_eq_getElem?_getD, List.getElem?_eq_getElem h]
  rfl
theorem g0_gP (l : List Pt) (j : Nat) (h : j < l.length) : g0 (l.map fun p => p.n) j = (gP l j).n := by
  unfold g0 gP
  rw [List.getD_eq_getElem?_getD, List.getD_eq_getElem?_getD, List.getElem?_map, List.getElem?_eq_getElem h]
  rfl
theorem u8_inc (b : UInt8) : IntKind.u8.wrap ((b.toNat : Int) + 1) = ((b + 1).toNat : Int) := by
  have h := b.toNat_lt
  have e : (b + 1).toNat = (b.toNat + 1) % 256 := by rw [UInt8.toNat_add]; rfl
  rw [e]
  have : IntKind.u8.wrap ((b.toNat : Int) + 1) = ((b.toNat : Int) + 1) % 256 := rfl
  rw [this]
  omega
theorem code_there (d : Dk) (n : Int) : 0 ≤ there d n ∧ there d n ≤ 10 := by
  unfold there
  split
  · decide
  · split <;> decide
theorem code_append (d : Dk) (n : Int) (b : List UInt8) : 0 ≤ (append d n b).1 ∧ (append d n b).1 ≤ 10 := by
  unfold append
  repeat' split
  all_goals simp
theorem code_sync (d : Dk) (n : Int) : 0 ≤ (sync d n).1 ∧ (sync d n).1 ≤ 10 := by
  unfold sync
  split
  · simp
  · exact code_there d n
theorem code_cut (d : Dk) (n z : Int) : 0 ≤ (cut d n z).1 ∧ (cut d n z).1 ≤ 10 := by
  unfold cut
  split
  · split <;> simp
  · exact code_there d n
theorem code_remove (d : Dk) (n : Int) : 0 ≤ (remove d n).1 ∧ (remove d n).1 ≤ 10 := by
  unfold remove
  split
  · simp
  · exact code_there d n
theorem code_read (d : Dk) (n : Int) : 0 ≤ (read d n).2 ∧ (read d n).2 ≤ 10 := by
  unfold read
  split
  · simp
  · exact code_there d n
theorem len_ins (q : Pt) : ∀ l, (insL q l).length = l.length + 1
  | [] => rfl
  | y :: r => by
    unfold insL
    split
    · rfl
    · simp [len_ins q r]
theorem len_append (d : Dk) (n : Int) (b : List UInt8) : (append d n b).2.l.length ≤ d.l.length + 1 := by
  unfold append
  split
  · exact Nat.le_succ _
  · split
    · exact Nat.le_succ _
    · split
      · exact Nat.le_succ _
      · simp only [addL]
        split
        · simp [updL]
        · rw [len_ins]
          exact Nat.le_refl _
theorem len_sync (d : Dk) (n : Int) : (sync d n).2.l.length ≤ d.l.length := by
  unfold sync
  split
  · simp [updL]
  · exact Nat.le_refl _
theorem len_cut (d : Dk) (n z : Int) : (cut d n z).2.l.length ≤ d.l.length := by
  unfold cut
  split
  · split
    · exact Nat.le_refl _
    · simp [updL]
  · exact Nat.le_refl _
theorem len_remove (d : Dk) (n : Int) : (remove d n).2.l.length ≤ d.l.length := by
  unfold remove
  split
  · exact List.length_filter_le _ _
  · exact Nat.le_refl _
theorem len_crash (d : Dk) (z : Int) : (crash d z).l.length = d.l.length := by
  unfold crash
  split
  · rfl
  · have := congrArg List.length (crashL_n d.l z.toNat)
    simpa using this
theorem read_at {d : Dk} (ho : d.Ok) {k : Nat} (h : k < d.l.length) : read (up d) (gP d.l k).n = ((gP d.l k).b, 0) := by
  have hm := gP_mem h
  have hh : hasL d.l (gP d.l k).n = true := hasL_iff.2 ⟨_, hm, rfl⟩
  obtain ⟨x, p, y, hl, hp, hx, hy⟩ := part_at ho.rise hh
  have hg : getL d.l (gP d.l k).n = p := by
    conv => lhs; arg 1; rw [hl]
    exact getL_at hx hp
  have hpe : gP d.l k = p := by
    have h2 : gP d.l k ∈ x ++ p :: y := by rw [← hl]; exact hm
    rcases List.mem_append.1 h2 with h3 | h3
    · exact absurd rfl (hasL_no.1 hx _ h3)
    · rcases List.mem_cons.1 h3 with h3 | h3
      · exact h3
      · exact absurd rfl (hasL_no.1 hy _ h3)
  have ht : there (up d) (gP d.l k).n = 0 := by
    unfold there
    show (if false = true then _ else if hasL d.l (gP d.l k).n = true then _ else _) = _
    rw [hh]
    rfl
  unfold read
  rw [if_pos ht]
  show ((getL d.l (gP d.l k).n).b, 0) = _
  rw [hg, hpe]
set_option maxRecDepth 100000 in
set_option maxHeartbeats 400000 in
theorem code_nil (w : World) :
    Calls Try.prog 22 #[.nilIface] w fun e w' => e = .returned (.int .i64 0) ∧ Fr [] w w' := by
  have HA := Fr.refl [] w
  refine enter (N := 15) Try.func22 (c := _) rfl (by kernel_rfl) (by kernel_rfl) (e := [(0, .nilIface)]) (by kernel_rfl) ?_
  refine WE.seq ?_
  refine WE.region ?_
  refine WO.run 1 0 [(2, .int .i64 0)] (by kernel_rfl) (by kernel_rfl) ?_
  refine WO.done (by kernel_rfl) ?_
  refine WQ.keep [0, 2] (e' := [(0, .nilIface), (2, .int .i64 0)]) (by kernel_rfl) ?_
  refine WQ.thenN ?_
  refine WE.seq ?_
  refine WE.seq ?_
  refine WE.region ?_
  refine WO.run 2 0 [(5, .bool true), (4, .nilIface)] (by kernel_rfl) (by kernel_rfl) ?_
  refine WO.done (by kernel_rfl) ?_
  refine WQ.keep [0, 2, 5] (e' := [(0, .nilIface), (2, .int .i64 0), (5, .bool true)]) (by kernel_rfl) ?_
  refine WQ.thenN ?_
  refine WE.condT (by kernel_rfl) ?_
  refine WE.seq ?_
  refine WE.region ?_
  refine WO.run 1 0 [(2, .int .i64 0)] (by kernel_rfl) (by kernel_rfl) ?_
  refine WO.done (by kernel_rfl) ?_
  refine WQ.keep [0, 2, 5] (e' := [(0, .nilIface), (2, .int .i64 0), (5, .bool true)]) (by kernel_rfl) ?_
  refine WQ.thenN ?_
  refine WE.ret ?_
  refine WQ.thenR ?_
  refine WQ.ret (v := .int .i64 0) (by kernel_rfl) ?_
  exact ⟨rfl, HA⟩

set_option maxRecDepth 100000 in
set_option maxHeartbeats 400000 in
theorem code_some (k : Nat) (h1 : 1 ≤ k) (h2 : k ≤ 10) (w : World) :
    Calls Try.prog 22 #[.iface 36 (.int .i64 (k : Int))] w fun e w' => e = .returned (.int .i64 (k : Int)) ∧ Fr [] w w' := by
  have HA := Fr.refl [] w
  refine enter (N := 15) Try.func22 (c := _) rfl (by kernel_rfl) (by kernel_rfl) (e := [(0, .iface 36 (.int .i64 (k : Int)))]) (by kernel_rfl) ?_
  refine WE.seq ?_
  refine WE.region ?_
  refine WO.run 1 0 [(2, .int .i64 0)] (by kernel_rfl) (by kernel_rfl) ?_
  refine WO.done (by kernel_rfl) ?_
  refine WQ.keep [0, 2] (e' := [(0, .iface 36 (.int .i64 (k : Int))), (2, .int .i64 0)]) (by kernel_rfl) ?_
  refine WQ.thenN ?_
  refine WE.seq ?_
  refine WE.seq ?_
  refine WE.region ?_
  refine WO.run 2 0 [(5, .bool false), (4, .iface 36 (.int .i64 (k : Int)))] (by kernel_rfl) (by kernel_rfl) ?_
  refine WO.done (by kernel_rfl) ?_
  refine WQ.keep [0, 2, 5] (e' := [(0, .iface 36 (.int .i64 (k : Int))), (2, .int .i64 0), (5, .bool false)]) (by kernel_rfl) ?_
  refine WQ.thenN ?_
  refine WE.condF (by kernel_rfl) ?_
  refine WE.skip ?_
  refine WQ.thenN ?_
  refine WE.seq ?_
  refine WE.seq ?_
  refine WE.region ?_
  refine WO.run 1 0 [(3, .int .i64 1)] (by kernel_rfl) (by kernel_rfl) ?_
  refine WO.done (by kernel_rfl) ?_
  refine WQ.keep [0, 2, 3, 5] (e' := [(0, .iface 36 (.int .i64 (k : Int))), (2, .int .i64 0), (3, .int .i64 1), (5, .bool false)]) (by kernel_rfl) ?_
  refine WQ.thenN ?_
  refine WE.block ?_
  refine WE.loop (α := Nat) (E := fun i => [(0, .iface 36 (.int .i64 (k : Int))), (2, .int .i64 0), (3, .int .i64 (i : Int)), (5, .bool false)]) (I := fun i wr => 1 ≤ i ∧ i ≤ k ∧ w = wr) (m := fun i => k + 1 - i) 1 [0, 2, 3, 5] (by kernel_rfl) ?_ ?_
  · exact ⟨Nat.le_refl _, h1, rfl⟩
  rintro i wr ⟨hi1, hi, hw⟩
  subst hw
  refine WE.seq ?_
  refine WE.seq ?_
  refine WE.region ?_
  refine WO.run 1 0 [(6, .int .i64 (i : Int))] (by kernel_rfl) (by kernel_rfl) ?_
  refine WO.one (SQ.F 1 (by kernel_rfl)) 7 (.bool (decide (((i : Int) : Int) ≤ (10 : Int)))) (by kernel_rfl) ?_
  refine WO.topPT (((i : Int) : Int) ≤ (10 : Int)) (by omega) ?_
  refine WO.done (by kernel_rfl) ?_
  refine WQ.keep [0, 2, 3, 5, 7] (e' := [(0, .iface 36 (.int .i64 (k : Int))), (2, .int .i64 0), (3, .int .i64 (i : Int)), (5, .bool false), (7, .bool true)]) (by kernel_rfl) ?_
  refine WQ.thenN ?_
  refine WE.condT (by kernel_rfl) ?_
  refine WE.skip ?_
  refine WQ.thenN ?_
  refine WE.seq ?_
  refine WE.block ?_
  refine WE.seq ?_
  refine WE.region ?_
  refine WO.run 3 0 [(12, .iface 36 (.int .i64 (i : Int))), (11, .int .i64 (i : Int)), (10, .iface 36 (.int .i64 (k : Int)))] (by kernel_rfl) (by kernel_rfl) ?_
  refine WO.one (SQ.F 3 (by kernel_rfl)) 13 (.bool (decide (((k : Int) : Int) = (i : Int)))) (by kernel_rfl) ?_
  refine WO.topP (((k : Int) : Int) = (i : Int)) ?_ ?_
  · intro h1
    refine WO.done (by kernel_rfl) ?_
    refine WQ.keep [0, 2, 3, 5, 7, 13] (e' := [(0, .iface 36 (.int .i64 (k : Int))), (2, .int .i64 0), (3, .int .i64 (i : Int)), (5, .bool false), (7, .bool true), (13, .bool true)]) (by kernel_rfl) ?_
    refine WQ.thenN ?_
    refine WE.condT (by kernel_rfl) ?_
    refine WE.seq ?_
    refine WE.region ?_
    refine WO.run 2 0 [(2, .int .i64 (i : Int)), (14, .int .i64 (i : Int))] (by kernel_rfl) (by kernel_rfl) ?_
    refine WO.done (by kernel_rfl) ?_
    refine WQ.keep [0, 2, 3, 5, 7, 13] (e' := [(0, .iface 36 (.int .i64 (k : Int))), (2, .int .i64 (i : Int)), (3, .int .i64 (i : Int)), (5, .bool false), (7, .bool true), (13, .bool true)]) (by kernel_rfl) ?_
    refine WQ.thenN ?_
    refine WE.ret ?_
    refine WQ.blkR ?_
    refine WQ.thenR ?_
    refine WQ.thenR ?_
    refine WQ.blkR ?_
    refine WQ.thenR ?_
    refine WQ.ret (v := .int .i64 (i : Int)) (by kernel_rfl) ?_
    exact ⟨by rw [show i = k by omega], HA⟩
  intro h1
  refine WO.done (by kernel_rfl) ?_
  refine WQ.keep [0, 2, 3, 5, 7, 13] (e' := [(0, .iface 36 (.int .i64 (k : Int))), (2, .int .i64 0), (3, .int .i64 (i : Int)), (5, .bool false), (7, .bool true), (13, .bool false)]) (by kernel_rfl) ?_
  refine WQ.thenN ?_
  refine WE.condF (by kernel_rfl) ?_
  refine WE.skip ?_
  refine WQ.blkN ?_
  refine WQ.thenN ?_
  refine WE.region ?_
  refine WO.run 1 0 [(8, .int .i64 (i : Int))] (by kernel_rfl) (by kernel_rfl) ?_
  refine WO.one (SQ.F 1 (by kernel_rfl)) 9 (.int .i64 (IntKind.i64.wrap ((i : Int) + 1))) (by kernel_rfl) ?_
  refine WO.top (v' := .int .i64 ((i + 1 : Nat) : Int)) (wrap_i64 (by omega) (by omega)) ?_
  refine WO.run 1 2 [(3, .int .i64 ((i + 1 : Nat) : Int))] (by kernel_rfl) (by kernel_rfl) ?_
  refine WO.done (by kernel_rfl) ?_
  refine WQ.keep [0, 2, 3, 5, 7, 13] (e' := [(0, .iface 36 (.int .i64 (k : Int))), (2, .int .i64 0), (3, .int .i64 ((i + 1 : Nat) : Int)), (5, .bool false), (7, .bool true), (13, .bool false)]) (by kernel_rfl) ?_
  refine WQ.round ?_
  intro a_ ha_
  refine ⟨i + 1, ?_, ha_.keep [0, 2, 3, 5] (by kernel_rfl), ?_⟩
  · omega
  · exact ⟨by omega, by omega, rfl⟩

theorem code_any (k : Int) (h : 0 ≤ k ∧ k ≤ 10) (w : World) : Calls Try.prog 22 #[codeV k] w fun e w' => e = .returned (.int .i64 k) ∧ Fr [] w w' := by
  obtain ⟨k, rfl⟩ := Int.eq_ofNat_of_zero_le h.1
  cases k with
  | zero => exact code_nil w
  | succ k =>
    have := code_some (k + 1) (by omega) (by omega) w
    unfold codeV
    rw [if_neg (by omega)]
    exact this

set_option maxRecDepth 100000 in
set_option maxHeartbeats 400000 in
theorem pick_any (x : Int) (w : World) (hx : -9223372036854775808 ≤ x ∧ x ≤ 9223372036854775807) :
    Calls Try.prog 13 #[.int .i64 x, .int .i64 8] w fun e w' => ∃ v : Int, e = .returned (.int .i64 v) ∧ Fr [] w w' := by
  have HA := Fr.refl [] w
  refine enter (N := 13) Try.func13 (c := _) rfl (by kernel_rfl) (by kernel_rfl) (e := [(0, .int .i64 x), (1, .int .i64 8)]) (by kernel_rfl) ?_
  refine WE.seq ?_
  refine WE.region ?_
  refine WO.run 1 0 [(4, .int .i64 0)] (by kernel_rfl) (by kernel_rfl) ?_
  refine WO.done (by kernel_rfl) ?_
  refine WQ.keep [0, 1, 4] (e' := [(0, .int .i64 x), (1, .int .i64 8), (4, .int .i64 0)]) (by kernel_rfl) ?_
  refine WQ.thenN ?_
  refine WE.seq ?_
  refine WE.seq ?_
  refine WE.region ?_
  refine WO.run 1 0 [(5, .int .i64 x)] (by kernel_rfl) (by kernel_rfl) ?_
  refine WO.one (SQ.F 1 (by kernel_rfl)) 6 (.bool (decide ((x : Int) < 0))) (by kernel_rfl) ?_
  refine WO.topP ((x : Int) < 0) ?_ ?_
  · intro h1
    refine WO.done (by kernel_rfl) ?_
    refine WQ.keep [0, 1, 4, 6] (e' := [(0, .int .i64 x), (1, .int .i64 8), (4, .int .i64 0), (6, .bool true)]) (by kernel_rfl) ?_
    refine WQ.thenN ?_
    refine WE.condT (by kernel_rfl) ?_
    refine WE.region ?_
    refine WO.run 1 0 [(7, .int .i64 x)] (by kernel_rfl) (by kernel_rfl) ?_
    refine WO.one (SQ.F 1 (by kernel_rfl)) 8 (.int .i64 (IntKind.i64.wrap (x + 1))) (by kernel_rfl) ?_
    refine WO.top (v' := .int .i64 (x + 1)) (wrap_i64 (by omega) (by omega)) ?_
    refine WO.one (SQ.F 2 (by kernel_rfl)) 9 (.int .i64 (IntKind.i64.wrap (0 - (x + 1)))) (by kernel_rfl) ?_
    refine WO.top (v' := .int .i64 (0 - (x + 1))) (wrap_i64 (by omega) (by omega)) ?_
    refine WO.run 1 3 [(0, .int .i64 (0 - (x + 1)))] (by kernel_rfl) (by kernel_rfl) ?_
    refine WO.done (by kernel_rfl) ?_
    refine WQ.keep [0, 1, 4, 6] (e' := [(0, .int .i64 (0 - (x + 1))), (1, .int .i64 8), (4, .int .i64 0), (6, .bool true)]) (by kernel_rfl) ?_
    refine WQ.thenN ?_
    refine WE.seq ?_
    refine WE.region ?_
    refine WO.run 4 0 [(4, .int .i64 ((0 - (x + 1) : Int).tmod 8)), (12, .int .i64 ((0 - (x + 1) : Int).tmod 8)), (11, .int .i64 8), (10, .int .i64 (0 - (x + 1)))] (by kernel_rfl) (by kernel_rfl) ?_
    refine WO.done (by kernel_rfl) ?_
    refine WQ.keep [0, 1, 4, 6] (e' := [(0, .int .i64 (0 - (x + 1))), (1, .int .i64 8), (4, .int .i64 ((0 - (x + 1) : Int).tmod 8)), (6, .bool true)]) (by kernel_rfl) ?_
    refine WQ.thenN ?_
    refine WE.ret ?_
    refine WQ.ret (v := .int .i64 ((0 - (x + 1) : Int).tmod 8)) (by kernel_rfl) ?_
    exact ⟨_, rfl, HA⟩
  intro h1
  refine WO.done (by kernel_rfl) ?_
  refine WQ.keep [0, 1, 4, 6] (e' := [(0, .int .i64 x), (1, .int .i64 8), (4, .int .i64 0), (6, .bool false)]) (by kernel_rfl) ?_
  refine WQ.thenN ?_
  refine WE.condF (by kernel_rfl) ?_
  refine WE.skip ?_
  refine WQ.thenN ?_
  refine WE.seq ?_
  refine WE.region ?_
  refine WO.run 4 0 [(4, .int .i64 ((x : Int).tmod 8)), (12, .int .i64 ((x : Int).tmod 8)), (11, .int .i64 8), (10, .int .i64 x)] (by kernel_rfl) (by kernel_rfl) ?_
  refine WO.done (by kernel_rfl) ?_
  refine WQ.keep [0, 1, 4, 6] (e' := [(0, .int .i64 x), (1, .int .i64 8), (4, .int .i64 ((x : Int).tmod 8)), (6, .bool false)]) (by kernel_rfl) ?_
  refine WQ.thenN ?_
  refine WE.ret ?_
  refine WQ.ret (v := .int .i64 ((x : Int).tmod 8)) (by kernel_rfl) ?_
  exact ⟨_, rfl, HA⟩

set_option maxRecDepth 100000 in
set_option maxHeartbeats 400000 in
theorem plays_bad (room : Int) (AL : Option Addr) (nL cL : Nat) (q : List GD) (FL : List Nat) (w : World) (hroom : -9223372036854775808 ≤ room ∧ room ≤ 9223372036854775807) (HVl : VX cD 4 w FL AL q) (hnL : q.length = nL) (hnm : nL ≤ 9223372036854775807) (hbad : room < 1 ∨ 65536 < room) :
    Calls Try.prog 4 #[.int .i64 room, .slice AL nL cL] w fun e w' => e = .returned (.bool true) ∧ Fr [] w w' := by
  have HA := Fr.refl [] w
  refine enter (N := 271) Try.func4 (c := _) rfl (by kernel_rfl) (by kernel_rfl) (e := [(0, .int .i64 room), (1, .slice AL nL cL)]) (by kernel_rfl) ?_
  refine WE.seq ?_
  refine WE.region ?_
  refine WO.run 1 0 [(4, .bool false)] (by kernel_rfl) (by kernel_rfl) ?_
  refine WO.done (by kernel_rfl) ?_
  refine WQ.keep [0, 1, 4] (e' := [(0, .int .i64 room), (1, .slice AL nL cL), (4, .bool false)]) (by kernel_rfl) ?_
  refine WQ.thenN ?_
  refine WE.seq ?_
  refine WE.region ?_
  refine WO.call (SQ.E 0 (by kernel_rfl)) 24 (by kernel_rfl) (up_any2 _) ?_
  rintro _ w1 ⟨rfl, F2⟩
  refine ⟨_, rfl, trivial, ?_⟩
  have HVl := HVl.keep F2 (fun _ _ => nin0 _)
  have HA := Fr.step0 HA F2
  refine WO.run 1 1 [(5, .bool true)] (by kernel_rfl) (by kernel_rfl) ?_
  refine WO.done (by kernel_rfl) ?_
  refine WQ.keep [0, 1, 4, 5] (e' := [(0, .int .i64 room), (1, .slice AL nL cL), (4, .bool false), (5, .bool true)]) (by kernel_rfl) ?_
  refine WQ.thenN ?_
  refine WE.seq ?_
  refine WE.region ?_
  refine WO.run 1 0 [(26, .int .i64 room)] (by kernel_rfl) (by kernel_rfl) ?_
  refine WO.call (SQ.E 1 (by kernel_rfl)) 27 (by kernel_rfl) (new_bad room _ (by omega)) ?_
  rintro _ w3 ⟨rfl, F4⟩
  refine ⟨_, rfl, trivial, ?_⟩
  have HVl := HVl.keep F4 (fun _ _ => nin0 _)
  have HA := Fr.step0 HA F4
  refine WO.run 5 2 [(7, .iface 36 (.int .i64 1)), (6, .pointer none), (29, .iface 36 (.int .i64 1)), (28, .pointer none), (25, .tuple #[.pointer none, .iface 36 (.int .i64 1)])] (by kernel_rfl) (by kernel_rfl) ?_
  refine WO.done (by kernel_rfl) ?_
  refine WQ.keep [0, 1, 4, 5, 6, 7] (e' := [(0, .int .i64 room), (1, .slice AL nL cL), (4, .bool false), (5, .bool true), (6, .pointer none), (7, .iface 36 (.int .i64 1))]) (by kernel_rfl) ?_
  refine WQ.thenN ?_
  refine WE.seq ?_
  refine WE.seq ?_
  refine WE.region ?_
  refine WO.run 1 0 [(30, .int .i64 room)] (by kernel_rfl) (by kernel_rfl) ?_
  refine WO.one (SQ.F 1 (by kernel_rfl)) 31 (.bool (decide ((room : Int) < 1))) (by kernel_rfl) ?_
  refine WO.topP ((room : Int) < 1) ?_ ?_
  · intro h5
    refine WO.run 4 2 [(35, .bool true), (34, undef), (33, undef), (32, .bool true)] (by kernel_rfl) (by kernel_rfl) ?_
    refine WO.done (by kernel_rfl) ?_
    refine WQ.keep [0, 1, 4, 5, 6, 7, 35] (e' := [(0, .int .i64 room), (1, .slice AL nL cL), (4, .bool false), (5, .bool true), (6, .pointer none), (7, .iface 36 (.int .i64 1)), (35, .bool true)]) (by kernel_rfl) ?_
    refine WQ.thenN ?_
    refine WE.condT (by kernel_rfl) ?_
    refine WE.seq ?_
    refine WE.region ?_
    refine WO.run 11 0 [(4, .bool true), (45, .bool true), (44, .bool true), (43, .iface 36 (.int .i64 1)), (42, .iface 36 (.int .i64 1)), (41, .bool true), (40, .bool true), (39, .bool true), (38, .pointer none), (37, .bool true), (36, .bool true)] (by kernel_rfl) (by kernel_rfl) ?_
    refine WO.done (by kernel_rfl) ?_
    refine WQ.keep [0, 1, 4, 5, 6, 7, 35] (e' := [(0, .int .i64 room), (1, .slice AL nL cL), (4, .bool true), (5, .bool true), (6, .pointer none), (7, .iface 36 (.int .i64 1)), (35, .bool true)]) (by kernel_rfl) ?_
    refine WQ.thenN ?_
    refine WE.ret ?_
    refine WQ.thenR ?_
    refine WQ.ret (v := .bool true) (by kernel_rfl) ?_
    exact ⟨rfl, HA⟩
  intro h5
  refine WO.run 2 2 [(33, .int .i64 room), (32, .bool false)] (by kernel_rfl) (by kernel_rfl) ?_
  refine WO.one (SQ.F 4 (by kernel_rfl)) 34 (.bool (decide ((room : Int) > 65536))) (by kernel_rfl) ?_
  refine WO.topPT ((room : Int) > 65536) (by omega) ?_
  refine WO.run 1 5 [(35, .bool true)] (by kernel_rfl) (by kernel_rfl) ?_
  refine WO.done (by kernel_rfl) ?_
  refine WQ.keep [0, 1, 4, 5, 6, 7, 35] (e' := [(0, .int .i64 room), (1, .slice AL nL cL), (4, .bool false), (5, .bool true), (6, .pointer none), (7, .iface 36 (.int .i64 1)), (35, .bool true)]) (by kernel_rfl) ?_
  refine WQ.thenN ?_
  refine WE.condT (by kernel_rfl) ?_
  refine WE.seq ?_
  refine WE.region ?_
  refine WO.run 11 0 [(4, .bool true), (45, .bool true), (44, .bool true), (43, .iface 36 (.int .i64 1)), (42, .iface 36 (.int .i64 1)), (41, .bool true), (40, .bool true), (39, .bool true), (38, .pointer none), (37, .bool true), (36, .bool true)] (by kernel_rfl) (by kernel_rfl) ?_
  refine WO.done (by kernel_rfl) ?_
  refine WQ.keep [0, 1, 4, 5, 6, 7, 35] (e' := [(0, .int .i64 room), (1, .slice AL nL cL), (4, .bool true), (5, .bool true), (6, .pointer none), (7, .iface 36 (.int .i64 1)), (35, .bool true)]) (by kernel_rfl) ?_
  refine WQ.thenN ?_
  refine WE.ret ?_
  refine WQ.thenR ?_
  refine WQ.ret (v := .bool true) (by kernel_rfl) ?_
  exact ⟨rfl, HA⟩
end Go.Proofs.Ytkhibpdkgjapgaa.Disk
