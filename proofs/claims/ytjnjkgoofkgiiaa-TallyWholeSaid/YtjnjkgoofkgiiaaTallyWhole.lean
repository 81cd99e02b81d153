/- Layer 18's law TallyWhole: its walk. -/
import Derived.Test.YtjnjkgoofkgiiaaTallyFolds
import Derived.Test.YtjnjkgoofkgiiaaTallySum
import Derived.Test.YtjnjkgoofkgiiaaEng
set_option linter.unusedVariables false
set_option linter.unusedSimpArgs false
namespace Go.Proofs.Ytjnjkgoofkgiiaa.Tally
open Go Go.RowKit Go.Proofs.Ytjnjkgoofkgiiaa Go.Proofs.Ytjnjkgoofkgiiaa.Eng Go.Proofs.YtjnjkgoofkgiiaaW.PrintWords Go.Proofs.YtjnjkgoofkgiiaaW.PrintLast
theorem getD_mem (l : List Int) {j : Nat} (h : j < l.length) : l.getD j 0 ∈ l := by
  have : l.getD j 0 = l[j] := by simp [h]
  rw [this]
  exact List.getElem_mem h
theorem mem_step {l : List Int} {j : Nat} (h : j < l.length) {a : Int} {b : Bool} (hb : b = (decide (a ∈ l.take j) || decide (l.getD j 0 = a))) : decide (a ∈ l.take (j + 1)) = b := by
  rw [hb, List.take_succ_eq_append_getElem h, Bool.eq_iff_iff, decide_eq_true_eq, List.mem_append, List.mem_singleton, Bool.or_eq_true, decide_eq_true_eq, decide_eq_true_eq]
  have : l.getD j 0 = l[j] := by simp [h]
  rw [this]
  exact or_congr Iff.rfl eq_comm
theorem wsum_step (l : List Int) {j : Nat} (h : j < l.length) : Value.int .i64 (IntKind.i64.wrap (wsum (l.take j) + l.getD j 0)) = .int .i64 (wsum (l.take (j + 1))) := by
  have : l.getD j 0 = l[j] := by simp [h]
  rw [List.take_succ_eq_append_getElem h, IntWalk.i64_left, this]
  unfold wsum
  rw [List.foldl_append]
  rfl
theorem isum_step (l : List Int) (h : ∀ x ∈ l, 0 ≤ x) (k : Nat) (hk : k < l.length) (hm : isum l ≤ 1000) : Value.int .u64 (IntKind.u64.wrap (isum (l.take k) + l.getD k 0)) = .int .u64 (isum (l.take (k + 1))) := by
  have := isum_take l h k hk
  have h2 := isum_nonneg (l.take (k + 1)) (fun y hy => h y (List.mem_of_mem_take hy))
  exact wrap_u64 this.1.symm ⟨h2, by omega⟩
theorem ow_at {w : World} {b : Nat} {A : Option Addr} {n c : Nat} {bs : List Int} (h : Ow w b (.slice A n c) bs) (k : Nat) (hk : k < n) : ∃ g cap, (A = some ⟨g, 0, none⟩ ∧ c = cap) ∧ w.cell? ⟨g, k, none⟩ = some (.int .u64 (bs.getD k 0)) := by
  have hl := h.len
  rcases h.form with ⟨h1, h2⟩ | ⟨g, cap, h3, _, _, hcap, hcell⟩
  · simp only [Value.slice.injEq] at h1
    rw [h1.2.1] at hk
    omega
  · simp only [Value.slice.injEq] at h3
    exact ⟨g, cap, ⟨h3.1, h3.2.2⟩, (hcell k (by omega)).1⟩
theorem whole_sb (kind : Int) (l : List Int) (r : R) (n : Nat) (hn : n = l.length) (hr : r = foldR kind l) (h0 : 0 < l.length) (hI : ∀ x ∈ l, I64 x) : isum r.b = if kind = 3 then (n : Int) else 0 := by
  subst hr
  subst hn
  by_cases h : kind = 3
  · subst h
    have := fold_buckets l hI l.length h0 (Nat.le_refl _)
    rw [List.take_length] at this
    rw [this]
    simp
  · rw [fold_nil kind h l h0, if_neg h]
    rfl
theorem fold_gauge (l : List Int) : ∀ k, k < l.length → (foldR 2 (l.take (k + 1))).sum = l.getD k 0
  | 0, h => by
    cases l with
    | nil => simp at h
    | cons v l => simp [foldR, beginR]
  | k + 1, h => by
    rw [fold_take 2 l (k + 1) h (by omega)]
    have : (foldR 2 (l.take (k + 1))).kind = 2 := fold_kind 2 _ (by simp; omega)
    simp [addR, this]
theorem whole_su (kind : Int) (l : List Int) (r : R) (n : Nat) (hn : n = l.length) (hr : r = foldR kind l) (h0 : 0 < l.length) (hI : ∀ x ∈ l, I64 x) : r.over = true ∨ r.sum = (if kind = 2 then l.getD (n - 1) 0 else wsum l) := by
  subst hr
  subst hn
  by_cases h : kind = 2
  · subst h
    right
    have := fold_gauge l (l.length - 1) (by omega)
    rw [show l.length - 1 + 1 = l.length by omega, List.take_length] at this
    rw [this, if_pos rfl]
  · have := fold_sum kind h l hI l.length h0 (Nat.le_refl _)
    rw [List.take_length] at this
    rw [if_neg h]
    exact this
set_option maxRecDepth 100000 in
set_option maxHeartbeats 400000 in
theorem whole_long (A : Option Addr) (n c0 : Nat) (kind : Int) (w : World) (hl : 200 < n) :
    Calls Try.prog 6 #[.int .i64 kind, .slice A n c0] w fun e w' => e = .returned (.bool true) ∧ Fr [] w w' := by
  have HA := Fr.refl [] w
  refine enter (N := 138) Try.func6 (c := _) rfl (by kernel_rfl) (by kernel_rfl) (e := [(0, .int .i64 kind), (1, .slice A n c0)]) (by kernel_rfl) ?_
  refine WE.seq ?_
  -- R0 law.go:46
  refine WE.region ?_
  refine WO.run 1 0 [(4, .bool false)] (by kernel_rfl) (by kernel_rfl) ?_
  refine WO.done (by kernel_rfl) ?_
  refine WQ.keep [0, 1, 4] (e' := [(0, .int .i64 kind), (1, .slice A n c0), (4, .bool false)]) (by kernel_rfl) ?_
  refine WQ.thenN ?_
  refine WE.seq ?_
  -- R1 law.go:47
  refine WE.region ?_
  refine WO.call (SQ.E 0 (by kernel_rfl)) 13 (by kernel_rfl) (up_any _) ?_
  rintro _ w1 ⟨rfl, F2⟩
  refine ⟨_, rfl, trivial, ?_⟩
  have HA := Fr.step0 HA F2
  refine WO.run 1 1 [(5, .bool true)] (by kernel_rfl) (by kernel_rfl) ?_
  refine WO.done (by kernel_rfl) ?_
  refine WQ.keep [0, 1, 4, 5] (e' := [(0, .int .i64 kind), (1, .slice A n c0), (4, .bool false), (5, .bool true)]) (by kernel_rfl) ?_
  refine WQ.thenN ?_
  refine WE.seq ?_
  refine WE.seq ?_
  -- R2 law.go:48
  refine WE.region ?_
  refine WO.run 2 0 [(15, .int .i64 (n : Int)), (14, .slice A n c0)] (by kernel_rfl) (by kernel_rfl) ?_
  refine WO.one (SQ.F 2 (by kernel_rfl)) 16 (.bool (decide (((n : Int) : Int) > (200 : Int)))) (by kernel_rfl) ?_
  refine WO.topPT (((n : Int) : Int) > (200 : Int)) (by omega) ?_
  refine WO.run 5 3 [(21, .bool true), (20, undef), (19, undef), (18, undef), (17, .bool true)] (by kernel_rfl) (by kernel_rfl) ?_
  refine WO.done (by kernel_rfl) ?_
  refine WQ.keep [0, 1, 4, 5, 21] (e' := [(0, .int .i64 kind), (1, .slice A n c0), (4, .bool false), (5, .bool true), (21, .bool true)]) (by kernel_rfl) ?_
  refine WQ.thenN ?_
  refine WE.condT (by kernel_rfl) ?_
  refine WE.seq ?_
  -- R3 law.go:49
  refine WE.region ?_
  refine WO.run 2 0 [(4, .bool true), (22, .bool true)] (by kernel_rfl) (by kernel_rfl) ?_
  refine WO.done (by kernel_rfl) ?_
  refine WQ.keep [0, 1, 4, 5, 21] (e' := [(0, .int .i64 kind), (1, .slice A n c0), (4, .bool true), (5, .bool true), (21, .bool true)]) (by kernel_rfl) ?_
  refine WQ.thenN ?_
  refine WE.ret ?_
  refine WQ.thenR ?_
  refine WQ.ret (v := .bool true) (by kernel_rfl) ?_
  exact ⟨rfl, HA⟩

set_option maxRecDepth 100000 in
set_option maxHeartbeats 400000 in
theorem whole_none (A : Option Addr) (n c0 : Nat) (kind : Int) (w : World)  :
    Calls Try.prog 6 #[.int .i64 kind, .slice A 0 c0] w fun e w' => e = .returned (.bool true) ∧ Fr [] w w' := by
  have HA := Fr.refl [] w
  refine enter (N := 138) Try.func6 (c := _) rfl (by kernel_rfl) (by kernel_rfl) (e := [(0, .int .i64 kind), (1, .slice A 0 c0)]) (by kernel_rfl) ?_
  refine WE.seq ?_
  -- R0 law.go:46
  refine WE.region ?_
  refine WO.run 1 0 [(4, .bool false)] (by kernel_rfl) (by kernel_rfl) ?_
  refine WO.done (by kernel_rfl) ?_
  refine WQ.keep [0, 1, 4] (e' := [(0, .int .i64 kind), (1, .slice A 0 c0), (4, .bool false)]) (by kernel_rfl) ?_
  refine WQ.thenN ?_
  refine WE.seq ?_
  -- R1 law.go:47
  refine WE.region ?_
  refine WO.call (SQ.E 0 (by kernel_rfl)) 13 (by kernel_rfl) (up_any _) ?_
  rintro _ w1 ⟨rfl, F2⟩
  refine ⟨_, rfl, trivial, ?_⟩
  have HA := Fr.step0 HA F2
  refine WO.run 1 1 [(5, .bool true)] (by kernel_rfl) (by kernel_rfl) ?_
  refine WO.done (by kernel_rfl) ?_
  refine WQ.keep [0, 1, 4, 5] (e' := [(0, .int .i64 kind), (1, .slice A 0 c0), (4, .bool false), (5, .bool true)]) (by kernel_rfl) ?_
  refine WQ.thenN ?_
  refine WE.seq ?_
  refine WE.seq ?_
  -- R2 law.go:48
  refine WE.region ?_
  refine WO.run 8 0 [(21, .bool true), (20, .bool true), (19, .int .i64 0), (18, .slice A 0 c0), (17, .bool false), (16, .bool false), (15, .int .i64 0), (14, .slice A 0 c0)] (by kernel_rfl) (by kernel_rfl) ?_
  refine WO.done (by kernel_rfl) ?_
  refine WQ.keep [0, 1, 4, 5, 21] (e' := [(0, .int .i64 kind), (1, .slice A 0 c0), (4, .bool false), (5, .bool true), (21, .bool true)]) (by kernel_rfl) ?_
  refine WQ.thenN ?_
  refine WE.condT (by kernel_rfl) ?_
  refine WE.seq ?_
  -- R3 law.go:49
  refine WE.region ?_
  refine WO.run 2 0 [(4, .bool true), (22, .bool true)] (by kernel_rfl) (by kernel_rfl) ?_
  refine WO.done (by kernel_rfl) ?_
  refine WQ.keep [0, 1, 4, 5, 21] (e' := [(0, .int .i64 kind), (1, .slice A 0 c0), (4, .bool true), (5, .bool true), (21, .bool true)]) (by kernel_rfl) ?_
  refine WQ.thenN ?_
  refine WE.ret ?_
  refine WQ.thenR ?_
  refine WQ.ret (v := .bool true) (by kernel_rfl) ?_
  exact ⟨rfl, HA⟩

set_option maxRecDepth 100000 in
set_option maxHeartbeats 4000000 in
theorem whole_some (ad : Addr) (n c0 : Nat) (kind : Int) (l : List Int) (r : R) (w : World) (hn : n = l.length) (hrr : r = foldR kind l) (h0 : 0 < l.length) (hl : l.length ≤ 200) (hI : ∀ x ∈ l, I64 x) (hr : Kd.C (Kd.int .i64) w (some ad) l.length l) (hc : ∀ j, j < l.length → w.cell? (ad.add j) = some (.int .i64 (l.getD j 0))) (hcap : l.length ≤ c0) :
    Calls Try.prog 6 #[.int .i64 kind, .slice (some ad) n c0] w fun e w' => e = .returned (.bool true) ∧ Fr [] w w' := by
  have hne : l ≠ [] := fun h => by rw [h] at h0; simp at h0
  have hOK : Ok l.length r := by have := fold_ok kind l hI l.length h0 (Nat.le_refl _); rw [List.take_length] at this; rw [hrr]; exact this
  have hLE : (r.least ∈ l ∧ r.most ∈ l) ∧ ∀ x ∈ l, r.least ≤ x ∧ x ≤ r.most := by have := fold_least kind l l.length h0 (Nat.le_refl _); rw [List.take_length] at this; rw [hrr]; exact ⟨⟨this.1, this.2.1⟩, this.2.2⟩
  have hSB : isum r.b = if kind = 3 then (n : Int) else 0 := whole_sb kind l r n hn hrr h0 hI
  have hSU : r.over = true ∨ r.sum = (if kind = 2 then l.getD (n - 1) 0 else wsum l) := whole_su kind l r n hn hrr h0 hI
  have hb64 : r.b.length ≤ 64 := hOK.len
  have HA := Fr.refl [] w
  refine enter (N := 138) Try.func6 (c := _) rfl (by kernel_rfl) (by kernel_rfl) (e := [(0, .int .i64 kind), (1, .slice (some ad) n c0)]) (by kernel_rfl) ?_
  refine WE.seq ?_
  -- R0 law.go:46
  refine WE.region ?_
  refine WO.run 1 0 [(4, .bool false)] (by kernel_rfl) (by kernel_rfl) ?_
  refine WO.done (by kernel_rfl) ?_
  refine WQ.keep [0, 1, 4] (e' := [(0, .int .i64 kind), (1, .slice (some ad) n c0), (4, .bool false)]) (by kernel_rfl) ?_
  refine WQ.thenN ?_
  refine WE.seq ?_
  -- R1 law.go:47
  refine WE.region ?_
  refine WO.call (SQ.E 0 (by kernel_rfl)) 13 (by kernel_rfl) (up_any _) ?_
  rintro _ w1 ⟨rfl, F2⟩
  refine ⟨_, rfl, trivial, ?_⟩
  have HA := Fr.step0 HA F2
  refine WO.run 1 1 [(5, .bool true)] (by kernel_rfl) (by kernel_rfl) ?_
  refine WO.done (by kernel_rfl) ?_
  refine WQ.keep [0, 1, 4, 5] (e' := [(0, .int .i64 kind), (1, .slice (some ad) n c0), (4, .bool false), (5, .bool true)]) (by kernel_rfl) ?_
  refine WQ.thenN ?_
  refine WE.seq ?_
  refine WE.seq ?_
  -- R2 law.go:48
  refine WE.region ?_
  refine WO.run 2 0 [(15, .int .i64 (n : Int)), (14, .slice (some ad) n c0)] (by kernel_rfl) (by kernel_rfl) ?_
  refine WO.one (SQ.F 2 (by kernel_rfl)) 16 (.bool (decide (((n : Int) : Int) > (200 : Int)))) (by kernel_rfl) ?_
  refine WO.topPF (((n : Int) : Int) > (200 : Int)) (by omega) ?_
  refine WO.run 3 3 [(19, .int .i64 (n : Int)), (18, .slice (some ad) n c0), (17, .bool false)] (by kernel_rfl) (by kernel_rfl) ?_
  refine WO.one (SQ.F 6 (by kernel_rfl)) 20 (.bool (decide (((n : Int) : Int) = (0 : Int)))) (by kernel_rfl) ?_
  refine WO.topP (((n : Int) : Int) = (0 : Int)) ?_ ?_
  · intro h3
    refine WO.run 1 7 [(21, .bool true)] (by kernel_rfl) (by kernel_rfl) ?_
    refine WO.done (by kernel_rfl) ?_
    refine WQ.keep [0, 1, 4, 5, 21] (e' := [(0, .int .i64 kind), (1, .slice (some ad) n c0), (4, .bool false), (5, .bool true), (21, .bool true)]) (by kernel_rfl) ?_
    refine WQ.thenN ?_
    refine WE.condT (by kernel_rfl) ?_
    refine WE.seq ?_
    -- R3 law.go:49
    refine WE.region ?_
    refine WO.run 2 0 [(4, .bool true), (22, .bool true)] (by kernel_rfl) (by kernel_rfl) ?_
    refine WO.done (by kernel_rfl) ?_
    refine WQ.keep [0, 1, 4, 5, 21] (e' := [(0, .int .i64 kind), (1, .slice (some ad) n c0), (4, .bool true), (5, .bool true), (21, .bool true)]) (by kernel_rfl) ?_
    refine WQ.thenN ?_
    refine WE.ret ?_
    refine WQ.thenR ?_
    refine WQ.ret (v := .bool true) (by kernel_rfl) ?_
    exact ⟨rfl, HA⟩
  · intro h3
    refine WO.run 1 7 [(21, .bool false)] (by kernel_rfl) (by kernel_rfl) ?_
    refine WO.done (by kernel_rfl) ?_
    refine WQ.keep [0, 1, 4, 5, 21] (e' := [(0, .int .i64 kind), (1, .slice (some ad) n c0), (4, .bool false), (5, .bool true), (21, .bool false)]) (by kernel_rfl) ?_
    refine WQ.thenN ?_
    refine WE.condF (by kernel_rfl) ?_
    refine WE.skip ?_
    refine WQ.thenN ?_
    refine WE.seq ?_
    -- R4 law.go:51
    refine WE.region ?_
    refine WO.run 2 0 [(24, .slice (some ad) n c0), (23, .int .i64 kind)] (by kernel_rfl) (by kernel_rfl) ?_
    have hf := fold_any (some ad) c0 ⟨#[97]⟩ kind l w1 hl hI (Kd.C_below hr HA.below0) hcap
    rw [if_neg hne, ← hrr, ← hn] at hf
    refine WO.call (SQ.E 2 (by kernel_rfl)) 25 (by kernel_rfl) hf ?_
    rintro _ w4 ⟨bv, rfl, hO, F5⟩
    obtain ⟨A4, n4, c4, rfl⟩ := hO.slice
    refine ⟨_, rfl, trivial, ?_⟩
    have HA := Fr.step0 HA F5
    have HO := Fr.refl [] w4
    refine WO.bx (SQ.E 3 (by kernel_rfl)) 6 #[.string (⟨#[]⟩), .int .i64 0, .int .u64 0, .int .i64 0, .int .i64 0, .int .i64 0, .bool false, .slice none 0 0] 49 (fun g => .pointer (some ⟨g, 0, none⟩)) (by kernel_rfl) (fun _ _ => trivial) ?_
    intro g6 w7 HB9 F8 le10 _
    have ge_HA_g6 := Nat.le_trans HA.size le10
    have ge_HO_g6 := Nat.le_trans HO.size le10
    have HA := Fr.step0 HA F8
    have HO := Fr.step0 HO F8
    refine WO.st (SQ.E 4 (by kernel_rfl)) g6 0 [.string (⟨#[97]⟩), .int .i64 r.kind, .int .u64 r.many, .int .i64 r.sum, .int .i64 r.least, .int .i64 r.most, .bool r.over, .slice A4 n4 c4] #[.string (⟨#[97]⟩), .int .i64 r.kind, .int .u64 r.many, .int .i64 r.sum, .int .i64 r.least, .int .i64 r.most, .bool r.over, .slice A4 n4 c4] (by kernel_rfl) HB9 (by kernel_rfl) (by kernel_rfl) (fun _ _ => trivial) ?_
    intro w11 HB13 F12 _
    have HA := Fr.step HA F12 (inSR ge_HA_g6 inS0)
    have HO := Fr.step HO F12 (inSR ge_HO_g6 inS0)
    refine WO.done (by kernel_rfl) ?_
    refine WQ.keep [0, 1, 4, 5, 6, 21] (e' := [(0, .int .i64 kind), (1, .slice (some ad) n c0), (4, .bool false), (5, .bool true), (6, .pointer (some ⟨g6, 0, none⟩)), (21, .bool false)]) (by kernel_rfl) ?_
    refine WQ.thenN ?_
    refine WE.seq ?_
    -- R5 law.go:52
    refine WE.region ?_
    refine WO.run 1 0 [(7, .int .u64 0)] (by kernel_rfl) (by kernel_rfl) ?_
    refine WO.done (by kernel_rfl) ?_
    refine WQ.keep [0, 1, 4, 5, 6, 7, 21] (e' := [(0, .int .i64 kind), (1, .slice (some ad) n c0), (4, .bool false), (5, .bool true), (6, .pointer (some ⟨g6, 0, none⟩)), (7, .int .u64 0), (21, .bool false)]) (by kernel_rfl) ?_
    refine WQ.thenN ?_
    refine WE.seq ?_
    refine WE.seq ?_
    -- R6 law.go:53
    refine WE.region ?_
    refine WO.run 1 0 [(8, .int .i64 0)] (by kernel_rfl) (by kernel_rfl) ?_
    refine WO.done (by kernel_rfl) ?_
    refine WQ.keep [0, 1, 4, 5, 6, 7, 8, 21] (e' := [(0, .int .i64 kind), (1, .slice (some ad) n c0), (4, .bool false), (5, .bool true), (6, .pointer (some ⟨g6, 0, none⟩)), (7, .int .u64 0), (8, .int .i64 0), (21, .bool false)]) (by kernel_rfl) ?_
    refine WQ.thenN ?_
    refine WE.block ?_
    have hL4 : n4 = r.b.length := hO.len
    have hnn : ∀ x ∈ r.b, 0 ≤ x := fun x hx => (hOK.b x hx).1
    refine WE.loop (α := Nat) (E := fun k => [(0, .int .i64 kind), (1, .slice (some ad) n c0), (4, .bool false), (5, .bool true), (6, .pointer (some ⟨g6, 0, none⟩)), (7, .int .u64 (isum (r.b.take k))), (8, .int .i64 (k : Int)), (21, .bool false)]) (I := fun k wr1 => (k ≤ n4) ∧ w11 = wr1) (m := fun k => n4 - k) 0 [0, 1, 4, 5, 6, 7, 8, 21] (by kernel_rfl) ?_ ?_
    · exact ⟨Nat.zero_le _, rfl⟩
    intro k wr1 hI
    obtain ⟨hk, hw⟩ := hI
    subst hw
    refine WE.seq ?_
    refine WE.seq ?_
    -- R7 law.go:53
    refine WE.region ?_
    refine WO.run 2 0 [(27, .pointer (some ⟨g6, 7, none⟩)), (26, .int .i64 (k : Int))] (by kernel_rfl) (by kernel_rfl) ?_
    refine WO.ld (SQ.S 2 (by kernel_rfl)) 28 (.slice A4 n4 c4) (by kernel_rfl) (same (HB13.at 7 (by kernel_rfl))) ?_
    refine WO.run 1 3 [(29, .int .i64 (n4 : Int))] (by kernel_rfl) (by kernel_rfl) ?_
    refine WO.one (SQ.F 4 (by kernel_rfl)) 30 (.bool (decide (((k : Int) : Int) < (n4 : Int)))) (by kernel_rfl) ?_
    refine WO.topP (((k : Int) : Int) < (n4 : Int)) ?_ ?_
    · intro h14
      refine WO.done (by kernel_rfl) ?_
      refine WQ.keep [0, 1, 4, 5, 6, 7, 8, 21, 30] (e' := [(0, .int .i64 kind), (1, .slice (some ad) n c0), (4, .bool false), (5, .bool true), (6, .pointer (some ⟨g6, 0, none⟩)), (7, .int .u64 (isum (r.b.take k))), (8, .int .i64 (k : Int)), (21, .bool false), (30, .bool true)]) (by kernel_rfl) ?_
      refine WQ.thenN ?_
      refine WE.condT (by kernel_rfl) ?_
      refine WE.skip ?_
      refine WQ.thenN ?_
      refine WE.seq ?_
      refine WE.block ?_
      -- R9 law.go:54
      refine WE.region ?_
      refine WO.run 2 0 [(34, .pointer (some ⟨g6, 7, none⟩)), (33, .int .u64 (isum (r.b.take k)))] (by kernel_rfl) (by kernel_rfl) ?_
      refine WO.ld (SQ.S 2 (by kernel_rfl)) 35 (.slice A4 n4 c4) (by kernel_rfl) (same (HB13.at 7 (by kernel_rfl))) ?_
      refine WO.run 1 3 [(36, .int .i64 (k : Int))] (by kernel_rfl) (by kernel_rfl) ?_
      obtain ⟨gb, cap, hA, hcell⟩ := ow_at (hO.keep0 HO) k (by omega)
      obtain ⟨rfl, rfl⟩ := hA
      refine WO.ixB (SQ.F 4 (by kernel_rfl)) 37 k gb 0 n4 1 (k : Int) (by kernel_rfl) (by omega) (by omega) (by omega) ?_
      refine WO.ld (SQ.S 5 (by kernel_rfl)) 38 (.int .u64 (r.b.getD k 0)) (by kernel_rfl) (same hcell) ?_
      refine WO.one (SQ.F 6 (by kernel_rfl)) 39 (.int .u64 (IntKind.u64.wrap (isum (r.b.take k) + r.b.getD k 0))) (by kernel_rfl) ?_
      refine WO.top (v' := .int .u64 (isum (r.b.take (k + 1)))) (isum_step r.b hnn k (by omega) (by rw [hSB]; split <;> omega)) ?_
      refine WO.run 1 7 [(7, .int .u64 (isum (r.b.take (k + 1))))] (by kernel_rfl) (by kernel_rfl) ?_
      refine WO.done (by kernel_rfl) ?_
      refine WQ.keep [0, 1, 4, 5, 6, 7, 8, 21, 30] (e' := [(0, .int .i64 kind), (1, .slice (some ad) n c0), (4, .bool false), (5, .bool true), (6, .pointer (some ⟨g6, 0, none⟩)), (7, .int .u64 (isum (r.b.take (k + 1)))), (8, .int .i64 (k : Int)), (21, .bool false), (30, .bool true)]) (by kernel_rfl) ?_
      refine WQ.blkN ?_
      refine WQ.thenN ?_
      -- R8 law.go:53
      refine WE.region ?_
      refine WO.run 1 0 [(31, .int .i64 (k : Int))] (by kernel_rfl) (by kernel_rfl) ?_
      refine WO.one (SQ.F 1 (by kernel_rfl)) 32 (.int .i64 (IntKind.i64.wrap ((k : Int) + 1))) (by kernel_rfl) ?_
      refine WO.top (v' := .int .i64 ((k + 1 : Nat) : Int)) (wrap_i64 (by omega) (by omega)) ?_
      refine WO.run 1 2 [(8, .int .i64 ((k + 1 : Nat) : Int))] (by kernel_rfl) (by kernel_rfl) ?_
      refine WO.done (by kernel_rfl) ?_
      refine WQ.keep [0, 1, 4, 5, 6, 7, 8, 21, 30] (e' := [(0, .int .i64 kind), (1, .slice (some ad) n c0), (4, .bool false), (5, .bool true), (6, .pointer (some ⟨g6, 0, none⟩)), (7, .int .u64 (isum (r.b.take (k + 1)))), (8, .int .i64 ((k + 1 : Nat) : Int)), (21, .bool false), (30, .bool true)]) (by kernel_rfl) ?_
      refine WQ.again (k + 1) [0, 1, 4, 5, 6, 7, 8, 21] (by kernel_rfl) ?_ ?_
      · show n4 - (k + 1) < n4 - k; omega
      · exact ⟨by omega, rfl⟩
    · intro h14
      refine WO.done (by kernel_rfl) ?_
      refine WQ.keep [0, 1, 4, 5, 6, 7, 8, 21, 30] (e' := [(0, .int .i64 kind), (1, .slice (some ad) n c0), (4, .bool false), (5, .bool true), (6, .pointer (some ⟨g6, 0, none⟩)), (7, .int .u64 (isum (r.b.take k))), (8, .int .i64 (k : Int)), (21, .bool false), (30, .bool false)]) (by kernel_rfl) ?_
      refine WQ.thenN ?_
      refine WE.condF (by kernel_rfl) ?_
      refine WE.exit ?_
      refine WQ.thenE ?_
      refine WQ.thenE ?_
      refine WQ.blkE ?_
      refine WQ.thenN ?_
      refine WE.seq ?_
      -- R10 law.go:56
      refine WE.region ?_
      refine WO.run 1 0 [(9, .int .i64 0)] (by kernel_rfl) (by kernel_rfl) ?_
      refine WO.done (by kernel_rfl) ?_
      refine WQ.keep [0, 1, 4, 5, 6, 7, 8, 9, 21, 30] (e' := [(0, .int .i64 kind), (1, .slice (some ad) n c0), (4, .bool false), (5, .bool true), (6, .pointer (some ⟨g6, 0, none⟩)), (7, .int .u64 (isum (r.b.take k))), (8, .int .i64 (k : Int)), (9, .int .i64 0), (21, .bool false), (30, .bool false)]) (by kernel_rfl) ?_
      refine WQ.thenN ?_
      refine WE.seq ?_
      -- R11 law.go:57
      refine WE.region ?_
      refine WO.run 1 0 [(10, .bool false)] (by kernel_rfl) (by kernel_rfl) ?_
      refine WO.done (by kernel_rfl) ?_
      refine WQ.keep [0, 1, 4, 5, 6, 7, 8, 9, 10, 21, 30] (e' := [(0, .int .i64 kind), (1, .slice (some ad) n c0), (4, .bool false), (5, .bool true), (6, .pointer (some ⟨g6, 0, none⟩)), (7, .int .u64 (isum (r.b.take k))), (8, .int .i64 (k : Int)), (9, .int .i64 0), (10, .bool false), (21, .bool false), (30, .bool false)]) (by kernel_rfl) ?_
      refine WQ.thenN ?_
      refine WE.seq ?_
      -- R12 law.go:58
      refine WE.region ?_
      refine WO.run 1 0 [(11, .bool false)] (by kernel_rfl) (by kernel_rfl) ?_
      refine WO.done (by kernel_rfl) ?_
      refine WQ.keep [0, 1, 4, 5, 6, 7, 8, 9, 10, 11, 21, 30] (e' := [(0, .int .i64 kind), (1, .slice (some ad) n c0), (4, .bool false), (5, .bool true), (6, .pointer (some ⟨g6, 0, none⟩)), (7, .int .u64 (isum (r.b.take k))), (8, .int .i64 (k : Int)), (9, .int .i64 0), (10, .bool false), (11, .bool false), (21, .bool false), (30, .bool false)]) (by kernel_rfl) ?_
      refine WQ.thenN ?_
      refine WE.seq ?_
      refine WE.seq ?_
      -- R13 law.go:59
      refine WE.region ?_
      refine WO.run 1 0 [(12, .int .i64 0)] (by kernel_rfl) (by kernel_rfl) ?_
      refine WO.done (by kernel_rfl) ?_
      refine WQ.keep [0, 1, 4, 5, 6, 7, 8, 9, 10, 11, 12, 21, 30] (e' := [(0, .int .i64 kind), (1, .slice (some ad) n c0), (4, .bool false), (5, .bool true), (6, .pointer (some ⟨g6, 0, none⟩)), (7, .int .u64 (isum (r.b.take k))), (8, .int .i64 (k : Int)), (9, .int .i64 0), (10, .bool false), (11, .bool false), (12, .int .i64 0), (21, .bool false), (30, .bool false)]) (by kernel_rfl) ?_
      refine WQ.thenN ?_
      refine WE.block ?_
      have hk4 : k = n4 := by omega
      have hS1 : isum (r.b.take k) = if kind = 3 then (n : Int) else 0 := by rw [hk4, hL4, List.take_length]; exact hSB
      obtain ⟨S1, hS⟩ : ∃ S1, isum (r.b.take k) = S1 := ⟨_, rfl⟩
      rw [hS] at hS1 ⊢
      have hL0 : decide (r.least ∈ l.take 0) = false := by simp
      have hM0 : decide (r.most ∈ l.take 0) = false := by simp
      refine WE.env (e' := [(0, .int .i64 kind), (1, .slice (some ad) n c0), (4, .bool false), (5, .bool true), (6, .pointer (some ⟨g6, 0, none⟩)), (7, .int .u64 S1), (8, .int .i64 (k : Int)), (9, .int .i64 0), (10, .bool (decide (r.least ∈ l.take 0))), (11, .bool (decide (r.most ∈ l.take 0))), (12, .int .i64 0), (21, .bool false), (30, .bool false)]) (by rw [hL0, hM0]) ?_
      have HB13_0 := HB13
      have HA_0 := HA
      refine WE.loop (α := Nat) (E := fun j => [(0, .int .i64 kind), (1, .slice (some ad) n c0), (4, .bool false), (5, .bool true), (6, .pointer (some ⟨g6, 0, none⟩)), (7, .int .u64 S1), (8, .int .i64 (k : Int)), (9, .int .i64 (wsum (l.take j))), (10, .bool (decide (r.least ∈ l.take j))), (11, .bool (decide (r.most ∈ l.take j))), (12, .int .i64 (j : Int)), (21, .bool false), (30, .bool false)]) (I := fun j wr2 => j ≤ n ∧ Fr [] w11 wr2) (m := fun j => n - j) 0 [0, 1, 4, 5, 6, 7, 8, 9, 10, 11, 12, 21, 30] (by kernel_rfl) ?_ ?_
      · exact ⟨Nat.zero_le _, Fr.refl _ _⟩
      intro j wr2 hI
      obtain ⟨hj0, HZ⟩ := hI
      have HB13 := Blk.keep HB13_0 HZ (nin0 _)
      have HA := Fr.step0 HA_0 HZ
      refine WE.seq ?_
      refine WE.seq ?_
      -- R14 law.go:59
      refine WE.region ?_
      refine WO.run 3 0 [(42, .int .i64 (n : Int)), (41, .slice (some ad) n c0), (40, .int .i64 (j : Int))] (by kernel_rfl) (by kernel_rfl) ?_
      refine WO.one (SQ.F 3 (by kernel_rfl)) 43 (.bool (decide (((j : Int) : Int) < (n : Int)))) (by kernel_rfl) ?_
      refine WO.topP (((j : Int) : Int) < (n : Int)) ?_ ?_
      · intro h15
        refine WO.done (by kernel_rfl) ?_
        refine WQ.keep [0, 1, 4, 5, 6, 7, 8, 9, 10, 11, 12, 21, 30, 43] (e' := [(0, .int .i64 kind), (1, .slice (some ad) n c0), (4, .bool false), (5, .bool true), (6, .pointer (some ⟨g6, 0, none⟩)), (7, .int .u64 S1), (8, .int .i64 (k : Int)), (9, .int .i64 (wsum (l.take j))), (10, .bool (decide (r.least ∈ l.take j))), (11, .bool (decide (r.most ∈ l.take j))), (12, .int .i64 (j : Int)), (21, .bool false), (30, .bool false), (43, .bool true)]) (by kernel_rfl) ?_
        refine WQ.thenN ?_
        refine WE.condT (by kernel_rfl) ?_
        refine WE.skip ?_
        refine WQ.thenN ?_
        refine WE.seq ?_
        refine WE.block ?_
        refine WE.seq ?_
        -- R16 law.go:60
        refine WE.region ?_
        refine WO.run 3 0 [(48, .int .i64 (j : Int)), (47, .slice (some ad) n c0), (46, .int .i64 (wsum (l.take j)))] (by kernel_rfl) (by kernel_rfl) ?_
        refine WO.ix (SQ.F 3 (by kernel_rfl)) 49 (ad.add j) ad n 1 (j : Int) (by kernel_rfl) (by omega) (by omega) (by congr 1; omega) ?_
        refine WO.ld (SQ.S 4 (by kernel_rfl)) 50 (.int .i64 (l.getD j 0)) (by kernel_rfl) (same (HA.cell0 (hc j (by omega)))) ?_
        have hj' : j < l.length := by omega
        have hj : l.getD j 0 ∈ l := getD_mem l hj'
        refine WO.one (SQ.F 5 (by kernel_rfl)) 51 (.int .i64 (IntKind.i64.wrap (wsum (l.take j) + l.getD j 0))) (by kernel_rfl) ?_
        refine WO.top (v' := .int .i64 (wsum (l.take (j + 1)))) (wsum_step l hj') ?_
        refine WO.run 1 6 [(9, .int .i64 (wsum (l.take (j + 1))))] (by kernel_rfl) (by kernel_rfl) ?_
        refine WO.done (by kernel_rfl) ?_
        refine WQ.keep [0, 1, 4, 5, 6, 7, 8, 9, 10, 11, 12, 21, 30, 43] (e' := [(0, .int .i64 kind), (1, .slice (some ad) n c0), (4, .bool false), (5, .bool true), (6, .pointer (some ⟨g6, 0, none⟩)), (7, .int .u64 S1), (8, .int .i64 (k : Int)), (9, .int .i64 (wsum (l.take (j + 1)))), (10, .bool (decide (r.least ∈ l.take j))), (11, .bool (decide (r.most ∈ l.take j))), (12, .int .i64 (j : Int)), (21, .bool false), (30, .bool false), (43, .bool true)]) (by kernel_rfl) ?_
        refine WQ.thenN ?_
        refine WE.seq ?_
        -- R17* law.go:61
        refine WE.draw [.free, .free, .free, .free, .free, .still, .free, .still, .free, .free, .free] Same sameR (by kernel_rfl) 11 (Array.replicate 11 false) (by kernel_rfl) rfl ?_
        intro w16 F17 _
        have HB13 := Blk.keep HB13 F17 (nin0 _)
        have HA := Fr.step0 HA F17
        have HZ := Fr.step0 HZ F17
        refine WO.one (SA.F sameR sameT _ 0 _ (by kernel_rfl)) 52 (.bool (decide (r.least ∈ l.take j))) (by kernel_rfl) ?_
        refine WO.topP (r.least ∈ l.take j) ?_ ?_
        · intro h18
          refine WO.one (SA.F sameR sameT _ 1 _ (by kernel_rfl)) 53 (.bool true) (by kernel_rfl) ?_
          refine WO.off (SA.O sameR sameT _ 2 _ (by kernel_rfl)) 54 (by kernel_rfl) ?_
          refine WO.off (SA.O sameR sameT _ 3 _ (by kernel_rfl)) 55 (by kernel_rfl) ?_
          refine WO.off (SA.O sameR sameT _ 4 _ (by kernel_rfl)) 56 (by kernel_rfl) ?_
          refine WO.off (SA.O sameR sameT _ 5 _ (by kernel_rfl)) 57 (by kernel_rfl) ?_
          refine WO.off (SA.O sameR sameT _ 6 _ (by kernel_rfl)) 58 (by kernel_rfl) ?_
          refine WO.off (SA.O sameR sameT _ 7 _ (by kernel_rfl)) 59 (by kernel_rfl) ?_
          refine WO.off (SA.O sameR sameT _ 8 _ (by kernel_rfl)) 60 (by kernel_rfl) ?_
          refine WO.one (SA.F sameR sameT _ 9 _ (by kernel_rfl)) 61 (.bool true) (by kernel_rfl) ?_
          refine WO.one (SA.F sameR sameT _ 10 _ (by kernel_rfl)) 10 (.bool true) (by kernel_rfl) ?_
          refine WO.doneA (by kernel_rfl) ?_
          refine WQ.keep [0, 1, 4, 5, 6, 7, 8, 9, 10, 11, 12, 21, 30, 43] (e' := [(0, .int .i64 kind), (1, .slice (some ad) n c0), (4, .bool false), (5, .bool true), (6, .pointer (some ⟨g6, 0, none⟩)), (7, .int .u64 S1), (8, .int .i64 (k : Int)), (9, .int .i64 (wsum (l.take (j + 1)))), (10, .bool true), (11, .bool (decide (r.most ∈ l.take j))), (12, .int .i64 (j : Int)), (21, .bool false), (30, .bool false), (43, .bool true)]) (by kernel_rfl) ?_
          refine WQ.thenN ?_
          refine WE.seq ?_
          -- R18* law.go:62
          refine WE.draw [.free, .free, .free, .free, .free, .still, .free, .still, .free, .free, .free] Same sameR (by kernel_rfl) 11 (Array.replicate 11 false) (by kernel_rfl) rfl ?_
          intro w19 F20 _
          have HB13 := Blk.keep HB13 F20 (nin0 _)
          have HA := Fr.step0 HA F20
          have HZ := Fr.step0 HZ F20
          refine WO.one (SA.F sameR sameT _ 0 _ (by kernel_rfl)) 62 (.bool (decide (r.most ∈ l.take j))) (by kernel_rfl) ?_
          refine WO.topP (r.most ∈ l.take j) ?_ ?_
          · intro h21
            refine WO.one (SA.F sameR sameT _ 1 _ (by kernel_rfl)) 63 (.bool true) (by kernel_rfl) ?_
            refine WO.off (SA.O sameR sameT _ 2 _ (by kernel_rfl)) 64 (by kernel_rfl) ?_
            refine WO.off (SA.O sameR sameT _ 3 _ (by kernel_rfl)) 65 (by kernel_rfl) ?_
            refine WO.off (SA.O sameR sameT _ 4 _ (by kernel_rfl)) 66 (by kernel_rfl) ?_
            refine WO.off (SA.O sameR sameT _ 5 _ (by kernel_rfl)) 67 (by kernel_rfl) ?_
            refine WO.off (SA.O sameR sameT _ 6 _ (by kernel_rfl)) 68 (by kernel_rfl) ?_
            refine WO.off (SA.O sameR sameT _ 7 _ (by kernel_rfl)) 69 (by kernel_rfl) ?_
            refine WO.off (SA.O sameR sameT _ 8 _ (by kernel_rfl)) 70 (by kernel_rfl) ?_
            refine WO.one (SA.F sameR sameT _ 9 _ (by kernel_rfl)) 71 (.bool true) (by kernel_rfl) ?_
            refine WO.one (SA.F sameR sameT _ 10 _ (by kernel_rfl)) 11 (.bool true) (by kernel_rfl) ?_
            refine WO.doneA (by kernel_rfl) ?_
            refine WQ.keep [0, 1, 4, 5, 6, 7, 8, 9, 10, 11, 12, 21, 30, 43] (e' := [(0, .int .i64 kind), (1, .slice (some ad) n c0), (4, .bool false), (5, .bool true), (6, .pointer (some ⟨g6, 0, none⟩)), (7, .int .u64 S1), (8, .int .i64 (k : Int)), (9, .int .i64 (wsum (l.take (j + 1)))), (10, .bool true), (11, .bool true), (12, .int .i64 (j : Int)), (21, .bool false), (30, .bool false), (43, .bool true)]) (by kernel_rfl) ?_
            refine WQ.thenN ?_
            refine WE.seq ?_
            -- R19* law.go:63
            refine WE.draw [.free, .free, .free, .still, .free, .still, .free, .free, .free, .free, .free, .still, .free, .still, .free, .free] Same sameR (by kernel_rfl) 16 (Array.replicate 16 false) (by kernel_rfl) rfl ?_
            intro w22 F23 _
            have HB13 := Blk.keep HB13 F23 (nin0 _)
            have HA := Fr.step0 HA F23
            have HZ := Fr.step0 HZ F23
            refine WO.one (SA.F sameR sameT _ 0 _ (by kernel_rfl)) 72 (.slice (some ad) n c0) (by kernel_rfl) ?_
            refine WO.one (SA.F sameR sameT _ 1 _ (by kernel_rfl)) 73 (.int .i64 (j : Int)) (by kernel_rfl) ?_
            refine WO.ix (SA.F sameR sameT _ 2 _ (by kernel_rfl)) 74 (ad.add j) ad n 1 (j : Int) (by kernel_rfl) (by omega) (by omega) (by congr 1; omega) ?_
            refine WO.ld (SA.S sameR sameT _ 3 _ (by kernel_rfl)) 75 (.int .i64 (l.getD j 0)) (by kernel_rfl) (same (HA.cell0 (hc j (by omega)))) ?_
            refine WO.one (SA.F sameR sameT _ 4 _ (by kernel_rfl)) 76 (.pointer (some ⟨g6, 4, none⟩)) (by kernel_rfl) ?_
            refine WO.ld (SA.S sameR sameT _ 5 _ (by kernel_rfl)) 77 (.int .i64 r.least) (by kernel_rfl) (same (HB13.at 4 (by kernel_rfl))) ?_
            refine WO.one (SA.F sameR sameT _ 6 _ (by kernel_rfl)) 78 (.bool (decide ((l.getD j 0 : Int) < r.least))) (by kernel_rfl) ?_
            refine WO.topPF ((l.getD j 0 : Int) < r.least) (by have := (hLE.2 _ hj).1; omega) ?_
            refine WO.one (SA.F sameR sameT _ 7 _ (by kernel_rfl)) 79 (.bool false) (by kernel_rfl) ?_
            refine WO.one (SA.F sameR sameT _ 8 _ (by kernel_rfl)) 80 (.slice (some ad) n c0) (by kernel_rfl) ?_
            refine WO.one (SA.F sameR sameT _ 9 _ (by kernel_rfl)) 81 (.int .i64 (j : Int)) (by kernel_rfl) ?_
            refine WO.ix (SA.F sameR sameT _ 10 _ (by kernel_rfl)) 82 (ad.add j) ad n 1 (j : Int) (by kernel_rfl) (by omega) (by omega) (by congr 1; omega) ?_
            refine WO.ld (SA.S sameR sameT _ 11 _ (by kernel_rfl)) 83 (.int .i64 (l.getD j 0)) (by kernel_rfl) (same (HA.cell0 (hc j (by omega)))) ?_
            refine WO.one (SA.F sameR sameT _ 12 _ (by kernel_rfl)) 84 (.pointer (some ⟨g6, 5, none⟩)) (by kernel_rfl) ?_
            refine WO.ld (SA.S sameR sameT _ 13 _ (by kernel_rfl)) 85 (.int .i64 r.most) (by kernel_rfl) (same (HB13.at 5 (by kernel_rfl))) ?_
            refine WO.one (SA.F sameR sameT _ 14 _ (by kernel_rfl)) 86 (.bool (decide ((l.getD j 0 : Int) > r.most))) (by kernel_rfl) ?_
            refine WO.topPF ((l.getD j 0 : Int) > r.most) (by have := (hLE.2 _ hj).2; omega) ?_
            refine WO.one (SA.F sameR sameT _ 15 _ (by kernel_rfl)) 87 (.bool false) (by kernel_rfl) ?_
            refine WO.doneA (by kernel_rfl) ?_
            refine WQ.keep [0, 1, 4, 5, 6, 7, 8, 9, 10, 11, 12, 21, 30, 43, 87] (e' := [(0, .int .i64 kind), (1, .slice (some ad) n c0), (4, .bool false), (5, .bool true), (6, .pointer (some ⟨g6, 0, none⟩)), (7, .int .u64 S1), (8, .int .i64 (k : Int)), (9, .int .i64 (wsum (l.take (j + 1)))), (10, .bool true), (11, .bool true), (12, .int .i64 (j : Int)), (21, .bool false), (30, .bool false), (43, .bool true), (87, .bool false)]) (by kernel_rfl) ?_
            refine WQ.thenN ?_
            refine WE.condF (by kernel_rfl) ?_
            refine WE.skip ?_
            refine WQ.blkN ?_
            refine WQ.thenN ?_
            -- R15 law.go:59
            refine WE.region ?_
            refine WO.run 1 0 [(44, .int .i64 (j : Int))] (by kernel_rfl) (by kernel_rfl) ?_
            refine WO.one (SQ.F 1 (by kernel_rfl)) 45 (.int .i64 (IntKind.i64.wrap ((j : Int) + 1))) (by kernel_rfl) ?_
            refine WO.top (v' := .int .i64 ((j + 1 : Nat) : Int)) (wrap_i64 (by omega) (by omega)) ?_
            refine WO.run 1 2 [(12, .int .i64 ((j + 1 : Nat) : Int))] (by kernel_rfl) (by kernel_rfl) ?_
            refine WO.done (by kernel_rfl) ?_
            refine WQ.keep [0, 1, 4, 5, 6, 7, 8, 9, 10, 11, 12, 21, 30, 43, 87] (e' := [(0, .int .i64 kind), (1, .slice (some ad) n c0), (4, .bool false), (5, .bool true), (6, .pointer (some ⟨g6, 0, none⟩)), (7, .int .u64 S1), (8, .int .i64 (k : Int)), (9, .int .i64 (wsum (l.take (j + 1)))), (10, .bool true), (11, .bool true), (12, .int .i64 ((j + 1 : Nat) : Int)), (21, .bool false), (30, .bool false), (43, .bool true), (87, .bool false)]) (by kernel_rfl) ?_
            have hLj : decide (r.least ∈ l.take (j + 1)) = true := mem_step hj' (by simp_all)
            have hMj : decide (r.most ∈ l.take (j + 1)) = true := mem_step hj' (by simp_all)
            refine WQ.env (e' := [(0, .int .i64 kind), (1, .slice (some ad) n c0), (4, .bool false), (5, .bool true), (6, .pointer (some ⟨g6, 0, none⟩)), (7, .int .u64 S1), (8, .int .i64 (k : Int)), (9, .int .i64 (wsum (l.take (j + 1)))), (10, .bool (decide (r.least ∈ l.take (j + 1)))), (11, .bool (decide (r.most ∈ l.take (j + 1)))), (12, .int .i64 ((j + 1 : Nat) : Int)), (21, .bool false), (30, .bool false), (43, .bool true), (87, .bool false)]) (by rw [hLj, hMj]) ?_
            refine WQ.again (j + 1) [0, 1, 4, 5, 6, 7, 8, 9, 10, 11, 12, 21, 30] (by kernel_rfl) ?_ ?_
            · show n - (j + 1) < n - j; omega
            · exact ⟨by omega, HZ⟩
          · intro h21
            refine WO.one (SA.F sameR sameT _ 1 _ (by kernel_rfl)) 63 (.bool false) (by kernel_rfl) ?_
            refine WO.one (SA.F sameR sameT _ 2 _ (by kernel_rfl)) 64 (.slice (some ad) n c0) (by kernel_rfl) ?_
            refine WO.one (SA.F sameR sameT _ 3 _ (by kernel_rfl)) 65 (.int .i64 (j : Int)) (by kernel_rfl) ?_
            refine WO.ix (SA.F sameR sameT _ 4 _ (by kernel_rfl)) 66 (ad.add j) ad n 1 (j : Int) (by kernel_rfl) (by omega) (by omega) (by congr 1; omega) ?_
            refine WO.ld (SA.S sameR sameT _ 5 _ (by kernel_rfl)) 67 (.int .i64 (l.getD j 0)) (by kernel_rfl) (same (HA.cell0 (hc j (by omega)))) ?_
            refine WO.one (SA.F sameR sameT _ 6 _ (by kernel_rfl)) 68 (.pointer (some ⟨g6, 5, none⟩)) (by kernel_rfl) ?_
            refine WO.ld (SA.S sameR sameT _ 7 _ (by kernel_rfl)) 69 (.int .i64 r.most) (by kernel_rfl) (same (HB13.at 5 (by kernel_rfl))) ?_
            refine WO.one (SA.F sameR sameT _ 8 _ (by kernel_rfl)) 70 (.bool (decide ((l.getD j 0 : Int) = r.most))) (by kernel_rfl) ?_
            refine WO.topP ((l.getD j 0 : Int) = r.most) ?_ ?_
            · intro h24
              refine WO.one (SA.F sameR sameT _ 9 _ (by kernel_rfl)) 71 (.bool true) (by kernel_rfl) ?_
              refine WO.one (SA.F sameR sameT _ 10 _ (by kernel_rfl)) 11 (.bool true) (by kernel_rfl) ?_
              refine WO.doneA (by kernel_rfl) ?_
              refine WQ.keep [0, 1, 4, 5, 6, 7, 8, 9, 10, 11, 12, 21, 30, 43] (e' := [(0, .int .i64 kind), (1, .slice (some ad) n c0), (4, .bool false), (5, .bool true), (6, .pointer (some ⟨g6, 0, none⟩)), (7, .int .u64 S1), (8, .int .i64 (k : Int)), (9, .int .i64 (wsum (l.take (j + 1)))), (10, .bool true), (11, .bool true), (12, .int .i64 (j : Int)), (21, .bool false), (30, .bool false), (43, .bool true)]) (by kernel_rfl) ?_
              refine WQ.thenN ?_
              refine WE.seq ?_
              -- R19* law.go:63
              refine WE.draw [.free, .free, .free, .still, .free, .still, .free, .free, .free, .free, .free, .still, .free, .still, .free, .free] Same sameR (by kernel_rfl) 16 (Array.replicate 16 false) (by kernel_rfl) rfl ?_
              intro w25 F26 _
              have HB13 := Blk.keep HB13 F26 (nin0 _)
              have HA := Fr.step0 HA F26
              have HZ := Fr.step0 HZ F26
              refine WO.one (SA.F sameR sameT _ 0 _ (by kernel_rfl)) 72 (.slice (some ad) n c0) (by kernel_rfl) ?_
              refine WO.one (SA.F sameR sameT _ 1 _ (by kernel_rfl)) 73 (.int .i64 (j : Int)) (by kernel_rfl) ?_
              refine WO.ix (SA.F sameR sameT _ 2 _ (by kernel_rfl)) 74 (ad.add j) ad n 1 (j : Int) (by kernel_rfl) (by omega) (by omega) (by congr 1; omega) ?_
              refine WO.ld (SA.S sameR sameT _ 3 _ (by kernel_rfl)) 75 (.int .i64 (l.getD j 0)) (by kernel_rfl) (same (HA.cell0 (hc j (by omega)))) ?_
              refine WO.one (SA.F sameR sameT _ 4 _ (by kernel_rfl)) 76 (.pointer (some ⟨g6, 4, none⟩)) (by kernel_rfl) ?_
              refine WO.ld (SA.S sameR sameT _ 5 _ (by kernel_rfl)) 77 (.int .i64 r.least) (by kernel_rfl) (same (HB13.at 4 (by kernel_rfl))) ?_
              refine WO.one (SA.F sameR sameT _ 6 _ (by kernel_rfl)) 78 (.bool (decide ((l.getD j 0 : Int) < r.least))) (by kernel_rfl) ?_
              refine WO.topPF ((l.getD j 0 : Int) < r.least) (by have := (hLE.2 _ hj).1; omega) ?_
              refine WO.one (SA.F sameR sameT _ 7 _ (by kernel_rfl)) 79 (.bool false) (by kernel_rfl) ?_
              refine WO.one (SA.F sameR sameT _ 8 _ (by kernel_rfl)) 80 (.slice (some ad) n c0) (by kernel_rfl) ?_
              refine WO.one (SA.F sameR sameT _ 9 _ (by kernel_rfl)) 81 (.int .i64 (j : Int)) (by kernel_rfl) ?_
              refine WO.ix (SA.F sameR sameT _ 10 _ (by kernel_rfl)) 82 (ad.add j) ad n 1 (j : Int) (by kernel_rfl) (by omega) (by omega) (by congr 1; omega) ?_
              refine WO.ld (SA.S sameR sameT _ 11 _ (by kernel_rfl)) 83 (.int .i64 (l.getD j 0)) (by kernel_rfl) (same (HA.cell0 (hc j (by omega)))) ?_
              refine WO.one (SA.F sameR sameT _ 12 _ (by kernel_rfl)) 84 (.pointer (some ⟨g6, 5, none⟩)) (by kernel_rfl) ?_
              refine WO.ld (SA.S sameR sameT _ 13 _ (by kernel_rfl)) 85 (.int .i64 r.most) (by kernel_rfl) (same (HB13.at 5 (by kernel_rfl))) ?_
              refine WO.one (SA.F sameR sameT _ 14 _ (by kernel_rfl)) 86 (.bool (decide ((l.getD j 0 : Int) > r.most))) (by kernel_rfl) ?_
              refine WO.topPF ((l.getD j 0 : Int) > r.most) (by have := (hLE.2 _ hj).2; omega) ?_
              refine WO.one (SA.F sameR sameT _ 15 _ (by kernel_rfl)) 87 (.bool false) (by kernel_rfl) ?_
              refine WO.doneA (by kernel_rfl) ?_
              refine WQ.keep [0, 1, 4, 5, 6, 7, 8, 9, 10, 11, 12, 21, 30, 43, 87] (e' := [(0, .int .i64 kind), (1, .slice (some ad) n c0), (4, .bool false), (5, .bool true), (6, .pointer (some ⟨g6, 0, none⟩)), (7, .int .u64 S1), (8, .int .i64 (k : Int)), (9, .int .i64 (wsum (l.take (j + 1)))), (10, .bool true), (11, .bool true), (12, .int .i64 (j : Int)), (21, .bool false), (30, .bool false), (43, .bool true), (87, .bool false)]) (by kernel_rfl) ?_
              refine WQ.thenN ?_
              refine WE.condF (by kernel_rfl) ?_
              refine WE.skip ?_
              refine WQ.blkN ?_
              refine WQ.thenN ?_
              -- R15 law.go:59
              refine WE.region ?_
              refine WO.run 1 0 [(44, .int .i64 (j : Int))] (by kernel_rfl) (by kernel_rfl) ?_
              refine WO.one (SQ.F 1 (by kernel_rfl)) 45 (.int .i64 (IntKind.i64.wrap ((j : Int) + 1))) (by kernel_rfl) ?_
              refine WO.top (v' := .int .i64 ((j + 1 : Nat) : Int)) (wrap_i64 (by omega) (by omega)) ?_
              refine WO.run 1 2 [(12, .int .i64 ((j + 1 : Nat) : Int))] (by kernel_rfl) (by kernel_rfl) ?_
              refine WO.done (by kernel_rfl) ?_
              refine WQ.keep [0, 1, 4, 5, 6, 7, 8, 9, 10, 11, 12, 21, 30, 43, 87] (e' := [(0, .int .i64 kind), (1, .slice (some ad) n c0), (4, .bool false), (5, .bool true), (6, .pointer (some ⟨g6, 0, none⟩)), (7, .int .u64 S1), (8, .int .i64 (k : Int)), (9, .int .i64 (wsum (l.take (j + 1)))), (10, .bool true), (11, .bool true), (12, .int .i64 ((j + 1 : Nat) : Int)), (21, .bool false), (30, .bool false), (43, .bool true), (87, .bool false)]) (by kernel_rfl) ?_
              have hLj : decide (r.least ∈ l.take (j + 1)) = true := mem_step hj' (by simp_all)
              have hMj : decide (r.most ∈ l.take (j + 1)) = true := mem_step hj' (by simp_all)
              refine WQ.env (e' := [(0, .int .i64 kind), (1, .slice (some ad) n c0), (4, .bool false), (5, .bool true), (6, .pointer (some ⟨g6, 0, none⟩)), (7, .int .u64 S1), (8, .int .i64 (k : Int)), (9, .int .i64 (wsum (l.take (j + 1)))), (10, .bool (decide (r.least ∈ l.take (j + 1)))), (11, .bool (decide (r.most ∈ l.take (j + 1)))), (12, .int .i64 ((j + 1 : Nat) : Int)), (21, .bool false), (30, .bool false), (43, .bool true), (87, .bool false)]) (by rw [hLj, hMj]) ?_
              refine WQ.again (j + 1) [0, 1, 4, 5, 6, 7, 8, 9, 10, 11, 12, 21, 30] (by kernel_rfl) ?_ ?_
              · show n - (j + 1) < n - j; omega
              · exact ⟨by omega, HZ⟩
            · intro h24
              refine WO.one (SA.F sameR sameT _ 9 _ (by kernel_rfl)) 71 (.bool false) (by kernel_rfl) ?_
              refine WO.one (SA.F sameR sameT _ 10 _ (by kernel_rfl)) 11 (.bool false) (by kernel_rfl) ?_
              refine WO.doneA (by kernel_rfl) ?_
              refine WQ.keep [0, 1, 4, 5, 6, 7, 8, 9, 10, 11, 12, 21, 30, 43] (e' := [(0, .int .i64 kind), (1, .slice (some ad) n c0), (4, .bool false), (5, .bool true), (6, .pointer (some ⟨g6, 0, none⟩)), (7, .int .u64 S1), (8, .int .i64 (k : Int)), (9, .int .i64 (wsum (l.take (j + 1)))), (10, .bool true), (11, .bool false), (12, .int .i64 (j : Int)), (21, .bool false), (30, .bool false), (43, .bool true)]) (by kernel_rfl) ?_
              refine WQ.thenN ?_
              refine WE.seq ?_
              -- R19* law.go:63
              refine WE.draw [.free, .free, .free, .still, .free, .still, .free, .free, .free, .free, .free, .still, .free, .still, .free, .free] Same sameR (by kernel_rfl) 16 (Array.replicate 16 false) (by kernel_rfl) rfl ?_
              intro w27 F28 _
              have HB13 := Blk.keep HB13 F28 (nin0 _)
              have HA := Fr.step0 HA F28
              have HZ := Fr.step0 HZ F28
              refine WO.one (SA.F sameR sameT _ 0 _ (by kernel_rfl)) 72 (.slice (some ad) n c0) (by kernel_rfl) ?_
              refine WO.one (SA.F sameR sameT _ 1 _ (by kernel_rfl)) 73 (.int .i64 (j : Int)) (by kernel_rfl) ?_
              refine WO.ix (SA.F sameR sameT _ 2 _ (by kernel_rfl)) 74 (ad.add j) ad n 1 (j : Int) (by kernel_rfl) (by omega) (by omega) (by congr 1; omega) ?_
              refine WO.ld (SA.S sameR sameT _ 3 _ (by kernel_rfl)) 75 (.int .i64 (l.getD j 0)) (by kernel_rfl) (same (HA.cell0 (hc j (by omega)))) ?_
              refine WO.one (SA.F sameR sameT _ 4 _ (by kernel_rfl)) 76 (.pointer (some ⟨g6, 4, none⟩)) (by kernel_rfl) ?_
              refine WO.ld (SA.S sameR sameT _ 5 _ (by kernel_rfl)) 77 (.int .i64 r.least) (by kernel_rfl) (same (HB13.at 4 (by kernel_rfl))) ?_
              refine WO.one (SA.F sameR sameT _ 6 _ (by kernel_rfl)) 78 (.bool (decide ((l.getD j 0 : Int) < r.least))) (by kernel_rfl) ?_
              refine WO.topPF ((l.getD j 0 : Int) < r.least) (by have := (hLE.2 _ hj).1; omega) ?_
              refine WO.one (SA.F sameR sameT _ 7 _ (by kernel_rfl)) 79 (.bool false) (by kernel_rfl) ?_
              refine WO.one (SA.F sameR sameT _ 8 _ (by kernel_rfl)) 80 (.slice (some ad) n c0) (by kernel_rfl) ?_
              refine WO.one (SA.F sameR sameT _ 9 _ (by kernel_rfl)) 81 (.int .i64 (j : Int)) (by kernel_rfl) ?_
              refine WO.ix (SA.F sameR sameT _ 10 _ (by kernel_rfl)) 82 (ad.add j) ad n 1 (j : Int) (by kernel_rfl) (by omega) (by omega) (by congr 1; omega) ?_
              refine WO.ld (SA.S sameR sameT _ 11 _ (by kernel_rfl)) 83 (.int .i64 (l.getD j 0)) (by kernel_rfl) (same (HA.cell0 (hc j (by omega)))) ?_
              refine WO.one (SA.F sameR sameT _ 12 _ (by kernel_rfl)) 84 (.pointer (some ⟨g6, 5, none⟩)) (by kernel_rfl) ?_
              refine WO.ld (SA.S sameR sameT _ 13 _ (by kernel_rfl)) 85 (.int .i64 r.most) (by kernel_rfl) (same (HB13.at 5 (by kernel_rfl))) ?_
              refine WO.one (SA.F sameR sameT _ 14 _ (by kernel_rfl)) 86 (.bool (decide ((l.getD j 0 : Int) > r.most))) (by kernel_rfl) ?_
              refine WO.topPF ((l.getD j 0 : Int) > r.most) (by have := (hLE.2 _ hj).2; omega) ?_
              refine WO.one (SA.F sameR sameT _ 15 _ (by kernel_rfl)) 87 (.bool false) (by kernel_rfl) ?_
              refine WO.doneA (by kernel_rfl) ?_
              refine WQ.keep [0, 1, 4, 5, 6, 7, 8, 9, 10, 11, 12, 21, 30, 43, 87] (e' := [(0, .int .i64 kind), (1, .slice (some ad) n c0), (4, .bool false), (5, .bool true), (6, .pointer (some ⟨g6, 0, none⟩)), (7, .int .u64 S1), (8, .int .i64 (k : Int)), (9, .int .i64 (wsum (l.take (j + 1)))), (10, .bool true), (11, .bool false), (12, .int .i64 (j : Int)), (21, .bool false), (30, .bool false), (43, .bool true), (87, .bool false)]) (by kernel_rfl) ?_
              refine WQ.thenN ?_
              refine WE.condF (by kernel_rfl) ?_
              refine WE.skip ?_
              refine WQ.blkN ?_
              refine WQ.thenN ?_
              -- R15 law.go:59
              refine WE.region ?_
              refine WO.run 1 0 [(44, .int .i64 (j : Int))] (by kernel_rfl) (by kernel_rfl) ?_
              refine WO.one (SQ.F 1 (by kernel_rfl)) 45 (.int .i64 (IntKind.i64.wrap ((j : Int) + 1))) (by kernel_rfl) ?_
              refine WO.top (v' := .int .i64 ((j + 1 : Nat) : Int)) (wrap_i64 (by omega) (by omega)) ?_
              refine WO.run 1 2 [(12, .int .i64 ((j + 1 : Nat) : Int))] (by kernel_rfl) (by kernel_rfl) ?_
              refine WO.done (by kernel_rfl) ?_
              refine WQ.keep [0, 1, 4, 5, 6, 7, 8, 9, 10, 11, 12, 21, 30, 43, 87] (e' := [(0, .int .i64 kind), (1, .slice (some ad) n c0), (4, .bool false), (5, .bool true), (6, .pointer (some ⟨g6, 0, none⟩)), (7, .int .u64 S1), (8, .int .i64 (k : Int)), (9, .int .i64 (wsum (l.take (j + 1)))), (10, .bool true), (11, .bool false), (12, .int .i64 ((j + 1 : Nat) : Int)), (21, .bool false), (30, .bool false), (43, .bool true), (87, .bool false)]) (by kernel_rfl) ?_
              have hLj : decide (r.least ∈ l.take (j + 1)) = true := mem_step hj' (by simp_all)
              have hMj : decide (r.most ∈ l.take (j + 1)) = false := mem_step hj' (by simp_all)
              refine WQ.env (e' := [(0, .int .i64 kind), (1, .slice (some ad) n c0), (4, .bool false), (5, .bool true), (6, .pointer (some ⟨g6, 0, none⟩)), (7, .int .u64 S1), (8, .int .i64 (k : Int)), (9, .int .i64 (wsum (l.take (j + 1)))), (10, .bool (decide (r.least ∈ l.take (j + 1)))), (11, .bool (decide (r.most ∈ l.take (j + 1)))), (12, .int .i64 ((j + 1 : Nat) : Int)), (21, .bool false), (30, .bool false), (43, .bool true), (87, .bool false)]) (by rw [hLj, hMj]) ?_
              refine WQ.again (j + 1) [0, 1, 4, 5, 6, 7, 8, 9, 10, 11, 12, 21, 30] (by kernel_rfl) ?_ ?_
              · show n - (j + 1) < n - j; omega
              · exact ⟨by omega, HZ⟩
        · intro h18
          refine WO.one (SA.F sameR sameT _ 1 _ (by kernel_rfl)) 53 (.bool false) (by kernel_rfl) ?_
          refine WO.one (SA.F sameR sameT _ 2 _ (by kernel_rfl)) 54 (.slice (some ad) n c0) (by kernel_rfl) ?_
          refine WO.one (SA.F sameR sameT _ 3 _ (by kernel_rfl)) 55 (.int .i64 (j : Int)) (by kernel_rfl) ?_
          refine WO.ix (SA.F sameR sameT _ 4 _ (by kernel_rfl)) 56 (ad.add j) ad n 1 (j : Int) (by kernel_rfl) (by omega) (by omega) (by congr 1; omega) ?_
          refine WO.ld (SA.S sameR sameT _ 5 _ (by kernel_rfl)) 57 (.int .i64 (l.getD j 0)) (by kernel_rfl) (same (HA.cell0 (hc j (by omega)))) ?_
          refine WO.one (SA.F sameR sameT _ 6 _ (by kernel_rfl)) 58 (.pointer (some ⟨g6, 4, none⟩)) (by kernel_rfl) ?_
          refine WO.ld (SA.S sameR sameT _ 7 _ (by kernel_rfl)) 59 (.int .i64 r.least) (by kernel_rfl) (same (HB13.at 4 (by kernel_rfl))) ?_
          refine WO.one (SA.F sameR sameT _ 8 _ (by kernel_rfl)) 60 (.bool (decide ((l.getD j 0 : Int) = r.least))) (by kernel_rfl) ?_
          refine WO.topP ((l.getD j 0 : Int) = r.least) ?_ ?_
          · intro h29
            refine WO.one (SA.F sameR sameT _ 9 _ (by kernel_rfl)) 61 (.bool true) (by kernel_rfl) ?_
            refine WO.one (SA.F sameR sameT _ 10 _ (by kernel_rfl)) 10 (.bool true) (by kernel_rfl) ?_
            refine WO.doneA (by kernel_rfl) ?_
            refine WQ.keep [0, 1, 4, 5, 6, 7, 8, 9, 10, 11, 12, 21, 30, 43] (e' := [(0, .int .i64 kind), (1, .slice (some ad) n c0), (4, .bool false), (5, .bool true), (6, .pointer (some ⟨g6, 0, none⟩)), (7, .int .u64 S1), (8, .int .i64 (k : Int)), (9, .int .i64 (wsum (l.take (j + 1)))), (10, .bool true), (11, .bool (decide (r.most ∈ l.take j))), (12, .int .i64 (j : Int)), (21, .bool false), (30, .bool false), (43, .bool true)]) (by kernel_rfl) ?_
            refine WQ.thenN ?_
            refine WE.seq ?_
            -- R18* law.go:62
            refine WE.draw [.free, .free, .free, .free, .free, .still, .free, .still, .free, .free, .free] Same sameR (by kernel_rfl) 11 (Array.replicate 11 false) (by kernel_rfl) rfl ?_
            intro w30 F31 _
            have HB13 := Blk.keep HB13 F31 (nin0 _)
            have HA := Fr.step0 HA F31
            have HZ := Fr.step0 HZ F31
            refine WO.one (SA.F sameR sameT _ 0 _ (by kernel_rfl)) 62 (.bool (decide (r.most ∈ l.take j))) (by kernel_rfl) ?_
            refine WO.topP (r.most ∈ l.take j) ?_ ?_
            · intro h32
              refine WO.one (SA.F sameR sameT _ 1 _ (by kernel_rfl)) 63 (.bool true) (by kernel_rfl) ?_
              refine WO.off (SA.O sameR sameT _ 2 _ (by kernel_rfl)) 64 (by kernel_rfl) ?_
              refine WO.off (SA.O sameR sameT _ 3 _ (by kernel_rfl)) 65 (by kernel_rfl) ?_
              refine WO.off (SA.O sameR sameT _ 4 _ (by kernel_rfl)) 66 (by kernel_rfl) ?_
              refine WO.off (SA.O sameR sameT _ 5 _ (by kernel_rfl)) 67 (by kernel_rfl) ?_
              refine WO.off (SA.O sameR sameT _ 6 _ (by kernel_rfl)) 68 (by kernel_rfl) ?_
              refine WO.off (SA.O sameR sameT _ 7 _ (by kernel_rfl)) 69 (by kernel_rfl) ?_
              refine WO.off (SA.O sameR sameT _ 8 _ (by kernel_rfl)) 70 (by kernel_rfl) ?_
              refine WO.one (SA.F sameR sameT _ 9 _ (by kernel_rfl)) 71 (.bool true) (by kernel_rfl) ?_
              refine WO.one (SA.F sameR sameT _ 10 _ (by kernel_rfl)) 11 (.bool true) (by kernel_rfl) ?_
              refine WO.doneA (by kernel_rfl) ?_
              refine WQ.keep [0, 1, 4, 5, 6, 7, 8, 9, 10, 11, 12, 21, 30, 43] (e' := [(0, .int .i64 kind), (1, .slice (some ad) n c0), (4, .bool false), (5, .bool true), (6, .pointer (some ⟨g6, 0, none⟩)), (7, .int .u64 S1), (8, .int .i64 (k : Int)), (9, .int .i64 (wsum (l.take (j + 1)))), (10, .bool true), (11, .bool true), (12, .int .i64 (j : Int)), (21, .bool false), (30, .bool false), (43, .bool true)]) (by kernel_rfl) ?_
              refine WQ.thenN ?_
              refine WE.seq ?_
              -- R19* law.go:63
              refine WE.draw [.free, .free, .free, .still, .free, .still, .free, .free, .free, .free, .free, .still, .free, .still, .free, .free] Same sameR (by kernel_rfl) 16 (Array.replicate 16 false) (by kernel_rfl) rfl ?_
              intro w33 F34 _
              have HB13 := Blk.keep HB13 F34 (nin0 _)
              have HA := Fr.step0 HA F34
              have HZ := Fr.step0 HZ F34
              refine WO.one (SA.F sameR sameT _ 0 _ (by kernel_rfl)) 72 (.slice (some ad) n c0) (by kernel_rfl) ?_
              refine WO.one (SA.F sameR sameT _ 1 _ (by kernel_rfl)) 73 (.int .i64 (j : Int)) (by kernel_rfl) ?_
              refine WO.ix (SA.F sameR sameT _ 2 _ (by kernel_rfl)) 74 (ad.add j) ad n 1 (j : Int) (by kernel_rfl) (by omega) (by omega) (by congr 1; omega) ?_
              refine WO.ld (SA.S sameR sameT _ 3 _ (by kernel_rfl)) 75 (.int .i64 (l.getD j 0)) (by kernel_rfl) (same (HA.cell0 (hc j (by omega)))) ?_
              refine WO.one (SA.F sameR sameT _ 4 _ (by kernel_rfl)) 76 (.pointer (some ⟨g6, 4, none⟩)) (by kernel_rfl) ?_
              refine WO.ld (SA.S sameR sameT _ 5 _ (by kernel_rfl)) 77 (.int .i64 r.least) (by kernel_rfl) (same (HB13.at 4 (by kernel_rfl))) ?_
              refine WO.one (SA.F sameR sameT _ 6 _ (by kernel_rfl)) 78 (.bool (decide ((l.getD j 0 : Int) < r.least))) (by kernel_rfl) ?_
              refine WO.topPF ((l.getD j 0 : Int) < r.least) (by have := (hLE.2 _ hj).1; omega) ?_
              refine WO.one (SA.F sameR sameT _ 7 _ (by kernel_rfl)) 79 (.bool false) (by kernel_rfl) ?_
              refine WO.one (SA.F sameR sameT _ 8 _ (by kernel_rfl)) 80 (.slice (some ad) n c0) (by kernel_rfl) ?_
              refine WO.one (SA.F sameR sameT _ 9 _ (by kernel_rfl)) 81 (.int .i64 (j : Int)) (by kernel_rfl) ?_
              refine WO.ix (SA.F sameR sameT _ 10 _ (by kernel_rfl)) 82 (ad.add j) ad n 1 (j : Int) (by kernel_rfl) (by omega) (by omega) (by congr 1; omega) ?_
              refine WO.ld (SA.S sameR sameT _ 11 _ (by kernel_rfl)) 83 (.int .i64 (l.getD j 0)) (by kernel_rfl) (same (HA.cell0 (hc j (by omega)))) ?_
              refine WO.one (SA.F sameR sameT _ 12 _ (by kernel_rfl)) 84 (.pointer (some ⟨g6, 5, none⟩)) (by kernel_rfl) ?_
              refine WO.ld (SA.S sameR sameT _ 13 _ (by kernel_rfl)) 85 (.int .i64 r.most) (by kernel_rfl) (same (HB13.at 5 (by kernel_rfl))) ?_
              refine WO.one (SA.F sameR sameT _ 14 _ (by kernel_rfl)) 86 (.bool (decide ((l.getD j 0 : Int) > r.most))) (by kernel_rfl) ?_
              refine WO.topPF ((l.getD j 0 : Int) > r.most) (by have := (hLE.2 _ hj).2; omega) ?_
              refine WO.one (SA.F sameR sameT _ 15 _ (by kernel_rfl)) 87 (.bool false) (by kernel_rfl) ?_
              refine WO.doneA (by kernel_rfl) ?_
              refine WQ.keep [0, 1, 4, 5, 6, 7, 8, 9, 10, 11, 12, 21, 30, 43, 87] (e' := [(0, .int .i64 kind), (1, .slice (some ad) n c0), (4, .bool false), (5, .bool true), (6, .pointer (some ⟨g6, 0, none⟩)), (7, .int .u64 S1), (8, .int .i64 (k : Int)), (9, .int .i64 (wsum (l.take (j + 1)))), (10, .bool true), (11, .bool true), (12, .int .i64 (j : Int)), (21, .bool false), (30, .bool false), (43, .bool true), (87, .bool false)]) (by kernel_rfl) ?_
              refine WQ.thenN ?_
              refine WE.condF (by kernel_rfl) ?_
              refine WE.skip ?_
              refine WQ.blkN ?_
              refine WQ.thenN ?_
              -- R15 law.go:59
              refine WE.region ?_
              refine WO.run 1 0 [(44, .int .i64 (j : Int))] (by kernel_rfl) (by kernel_rfl) ?_
              refine WO.one (SQ.F 1 (by kernel_rfl)) 45 (.int .i64 (IntKind.i64.wrap ((j : Int) + 1))) (by kernel_rfl) ?_
              refine WO.top (v' := .int .i64 ((j + 1 : Nat) : Int)) (wrap_i64 (by omega) (by omega)) ?_
              refine WO.run 1 2 [(12, .int .i64 ((j + 1 : Nat) : Int))] (by kernel_rfl) (by kernel_rfl) ?_
              refine WO.done (by kernel_rfl) ?_
              refine WQ.keep [0, 1, 4, 5, 6, 7, 8, 9, 10, 11, 12, 21, 30, 43, 87] (e' := [(0, .int .i64 kind), (1, .slice (some ad) n c0), (4, .bool false), (5, .bool true), (6, .pointer (some ⟨g6, 0, none⟩)), (7, .int .u64 S1), (8, .int .i64 (k : Int)), (9, .int .i64 (wsum (l.take (j + 1)))), (10, .bool true), (11, .bool true), (12, .int .i64 ((j + 1 : Nat) : Int)), (21, .bool false), (30, .bool false), (43, .bool true), (87, .bool false)]) (by kernel_rfl) ?_
              have hLj : decide (r.least ∈ l.take (j + 1)) = true := mem_step hj' (by simp_all)
              have hMj : decide (r.most ∈ l.take (j + 1)) = true := mem_step hj' (by simp_all)
              refine WQ.env (e' := [(0, .int .i64 kind), (1, .slice (some ad) n c0), (4, .bool false), (5, .bool true), (6, .pointer (some ⟨g6, 0, none⟩)), (7, .int .u64 S1), (8, .int .i64 (k : Int)), (9, .int .i64 (wsum (l.take (j + 1)))), (10, .bool (decide (r.least ∈ l.take (j + 1)))), (11, .bool (decide (r.most ∈ l.take (j + 1)))), (12, .int .i64 ((j + 1 : Nat) : Int)), (21, .bool false), (30, .bool false), (43, .bool true), (87, .bool false)]) (by rw [hLj, hMj]) ?_
              refine WQ.again (j + 1) [0, 1, 4, 5, 6, 7, 8, 9, 10, 11, 12, 21, 30] (by kernel_rfl) ?_ ?_
              · show n - (j + 1) < n - j; omega
              · exact ⟨by omega, HZ⟩
            · intro h32
              refine WO.one (SA.F sameR sameT _ 1 _ (by kernel_rfl)) 63 (.bool false) (by kernel_rfl) ?_
              refine WO.one (SA.F sameR sameT _ 2 _ (by kernel_rfl)) 64 (.slice (some ad) n c0) (by kernel_rfl) ?_
              refine WO.one (SA.F sameR sameT _ 3 _ (by kernel_rfl)) 65 (.int .i64 (j : Int)) (by kernel_rfl) ?_
              refine WO.ix (SA.F sameR sameT _ 4 _ (by kernel_rfl)) 66 (ad.add j) ad n 1 (j : Int) (by kernel_rfl) (by omega) (by omega) (by congr 1; omega) ?_
              refine WO.ld (SA.S sameR sameT _ 5 _ (by kernel_rfl)) 67 (.int .i64 (l.getD j 0)) (by kernel_rfl) (same (HA.cell0 (hc j (by omega)))) ?_
              refine WO.one (SA.F sameR sameT _ 6 _ (by kernel_rfl)) 68 (.pointer (some ⟨g6, 5, none⟩)) (by kernel_rfl) ?_
              refine WO.ld (SA.S sameR sameT _ 7 _ (by kernel_rfl)) 69 (.int .i64 r.most) (by kernel_rfl) (same (HB13.at 5 (by kernel_rfl))) ?_
              refine WO.one (SA.F sameR sameT _ 8 _ (by kernel_rfl)) 70 (.bool (decide ((l.getD j 0 : Int) = r.most))) (by kernel_rfl) ?_
              refine WO.topP ((l.getD j 0 : Int) = r.most) ?_ ?_
              · intro h35
                refine WO.one (SA.F sameR sameT _ 9 _ (by kernel_rfl)) 71 (.bool true) (by kernel_rfl) ?_
                refine WO.one (SA.F sameR sameT _ 10 _ (by kernel_rfl)) 11 (.bool true) (by kernel_rfl) ?_
                refine WO.doneA (by kernel_rfl) ?_
                refine WQ.keep [0, 1, 4, 5, 6, 7, 8, 9, 10, 11, 12, 21, 30, 43] (e' := [(0, .int .i64 kind), (1, .slice (some ad) n c0), (4, .bool false), (5, .bool true), (6, .pointer (some ⟨g6, 0, none⟩)), (7, .int .u64 S1), (8, .int .i64 (k : Int)), (9, .int .i64 (wsum (l.take (j + 1)))), (10, .bool true), (11, .bool true), (12, .int .i64 (j : Int)), (21, .bool false), (30, .bool false), (43, .bool true)]) (by kernel_rfl) ?_
                refine WQ.thenN ?_
                refine WE.seq ?_
                -- R19* law.go:63
                refine WE.draw [.free, .free, .free, .still, .free, .still, .free, .free, .free, .free, .free, .still, .free, .still, .free, .free] Same sameR (by kernel_rfl) 16 (Array.replicate 16 false) (by kernel_rfl) rfl ?_
                intro w36 F37 _
                have HB13 := Blk.keep HB13 F37 (nin0 _)
                have HA := Fr.step0 HA F37
                have HZ := Fr.step0 HZ F37
                refine WO.one (SA.F sameR sameT _ 0 _ (by kernel_rfl)) 72 (.slice (some ad) n c0) (by kernel_rfl) ?_
                refine WO.one (SA.F sameR sameT _ 1 _ (by kernel_rfl)) 73 (.int .i64 (j : Int)) (by kernel_rfl) ?_
                refine WO.ix (SA.F sameR sameT _ 2 _ (by kernel_rfl)) 74 (ad.add j) ad n 1 (j : Int) (by kernel_rfl) (by omega) (by omega) (by congr 1; omega) ?_
                refine WO.ld (SA.S sameR sameT _ 3 _ (by kernel_rfl)) 75 (.int .i64 (l.getD j 0)) (by kernel_rfl) (same (HA.cell0 (hc j (by omega)))) ?_
                refine WO.one (SA.F sameR sameT _ 4 _ (by kernel_rfl)) 76 (.pointer (some ⟨g6, 4, none⟩)) (by kernel_rfl) ?_
                refine WO.ld (SA.S sameR sameT _ 5 _ (by kernel_rfl)) 77 (.int .i64 r.least) (by kernel_rfl) (same (HB13.at 4 (by kernel_rfl))) ?_
                refine WO.one (SA.F sameR sameT _ 6 _ (by kernel_rfl)) 78 (.bool (decide ((l.getD j 0 : Int) < r.least))) (by kernel_rfl) ?_
                refine WO.topPF ((l.getD j 0 : Int) < r.least) (by have := (hLE.2 _ hj).1; omega) ?_
                refine WO.one (SA.F sameR sameT _ 7 _ (by kernel_rfl)) 79 (.bool false) (by kernel_rfl) ?_
                refine WO.one (SA.F sameR sameT _ 8 _ (by kernel_rfl)) 80 (.slice (some ad) n c0) (by kernel_rfl) ?_
                refine WO.one (SA.F sameR sameT _ 9 _ (by kernel_rfl)) 81 (.int .i64 (j : Int)) (by kernel_rfl) ?_
                refine WO.ix (SA.F sameR sameT _ 10 _ (by kernel_rfl)) 82 (ad.add j) ad n 1 (j : Int) (by kernel_rfl) (by omega) (by omega) (by congr 1; omega) ?_
                refine WO.ld (SA.S sameR sameT _ 11 _ (by kernel_rfl)) 83 (.int .i64 (l.getD j 0)) (by kernel_rfl) (same (HA.cell0 (hc j (by omega)))) ?_
                refine WO.one (SA.F sameR sameT _ 12 _ (by kernel_rfl)) 84 (.pointer (some ⟨g6, 5, none⟩)) (by kernel_rfl) ?_
                refine WO.ld (SA.S sameR sameT _ 13 _ (by kernel_rfl)) 85 (.int .i64 r.most) (by kernel_rfl) (same (HB13.at 5 (by kernel_rfl))) ?_
                refine WO.one (SA.F sameR sameT _ 14 _ (by kernel_rfl)) 86 (.bool (decide ((l.getD j 0 : Int) > r.most))) (by kernel_rfl) ?_
                refine WO.topPF ((l.getD j 0 : Int) > r.most) (by have := (hLE.2 _ hj).2; omega) ?_
                refine WO.one (SA.F sameR sameT _ 15 _ (by kernel_rfl)) 87 (.bool false) (by kernel_rfl) ?_
                refine WO.doneA (by kernel_rfl) ?_
                refine WQ.keep [0, 1, 4, 5, 6, 7, 8, 9, 10, 11, 12, 21, 30, 43, 87] (e' := [(0, .int .i64 kind), (1, .slice (some ad) n c0), (4, .bool false), (5, .bool true), (6, .pointer (some ⟨g6, 0, none⟩)), (7, .int .u64 S1), (8, .int .i64 (k : Int)), (9, .int .i64 (wsum (l.take (j + 1)))), (10, .bool true), (11, .bool true), (12, .int .i64 (j : Int)), (21, .bool false), (30, .bool false), (43, .bool true), (87, .bool false)]) (by kernel_rfl) ?_
                refine WQ.thenN ?_
                refine WE.condF (by kernel_rfl) ?_
                refine WE.skip ?_
                refine WQ.blkN ?_
                refine WQ.thenN ?_
                -- R15 law.go:59
                refine WE.region ?_
                refine WO.run 1 0 [(44, .int .i64 (j : Int))] (by kernel_rfl) (by kernel_rfl) ?_
                refine WO.one (SQ.F 1 (by kernel_rfl)) 45 (.int .i64 (IntKind.i64.wrap ((j : Int) + 1))) (by kernel_rfl) ?_
                refine WO.top (v' := .int .i64 ((j + 1 : Nat) : Int)) (wrap_i64 (by omega) (by omega)) ?_
                refine WO.run 1 2 [(12, .int .i64 ((j + 1 : Nat) : Int))] (by kernel_rfl) (by kernel_rfl) ?_
                refine WO.done (by kernel_rfl) ?_
                refine WQ.keep [0, 1, 4, 5, 6, 7, 8, 9, 10, 11, 12, 21, 30, 43, 87] (e' := [(0, .int .i64 kind), (1, .slice (some ad) n c0), (4, .bool false), (5, .bool true), (6, .pointer (some ⟨g6, 0, none⟩)), (7, .int .u64 S1), (8, .int .i64 (k : Int)), (9, .int .i64 (wsum (l.take (j + 1)))), (10, .bool true), (11, .bool true), (12, .int .i64 ((j + 1 : Nat) : Int)), (21, .bool false), (30, .bool false), (43, .bool true), (87, .bool false)]) (by kernel_rfl) ?_
                have hLj : decide (r.least ∈ l.take (j + 1)) = true := mem_step hj' (by simp_all)
                have hMj : decide (r.most ∈ l.take (j + 1)) = true := mem_step hj' (by simp_all)
                refine WQ.env (e' := [(0, .int .i64 kind), (1, .slice (some ad) n c0), (4, .bool false), (5, .bool true), (6, .pointer (some ⟨g6, 0, none⟩)), (7, .int .u64 S1), (8, .int .i64 (k : Int)), (9, .int .i64 (wsum (l.take (j + 1)))), (10, .bool (decide (r.least ∈ l.take (j + 1)))), (11, .bool (decide (r.most ∈ l.take (j + 1)))), (12, .int .i64 ((j + 1 : Nat) : Int)), (21, .bool false), (30, .bool false), (43, .bool true), (87, .bool false)]) (by rw [hLj, hMj]) ?_
                refine WQ.again (j + 1) [0, 1, 4, 5, 6, 7, 8, 9, 10, 11, 12, 21, 30] (by kernel_rfl) ?_ ?_
                · show n - (j + 1) < n - j; omega
                · exact ⟨by omega, HZ⟩
              · intro h35
                refine WO.one (SA.F sameR sameT _ 9 _ (by kernel_rfl)) 71 (.bool false) (by kernel_rfl) ?_
                refine WO.one (SA.F sameR sameT _ 10 _ (by kernel_rfl)) 11 (.bool false) (by kernel_rfl) ?_
                refine WO.doneA (by kernel_rfl) ?_
                refine WQ.keep [0, 1, 4, 5, 6, 7, 8, 9, 10, 11, 12, 21, 30, 43] (e' := [(0, .int .i64 kind), (1, .slice (some ad) n c0), (4, .bool false), (5, .bool true), (6, .pointer (some ⟨g6, 0, none⟩)), (7, .int .u64 S1), (8, .int .i64 (k : Int)), (9, .int .i64 (wsum (l.take (j + 1)))), (10, .bool true), (11, .bool false), (12, .int .i64 (j : Int)), (21, .bool false), (30, .bool false), (43, .bool true)]) (by kernel_rfl) ?_
                refine WQ.thenN ?_
                refine WE.seq ?_
                -- R19* law.go:63
                refine WE.draw [.free, .free, .free, .still, .free, .still, .free, .free, .free, .free, .free, .still, .free, .still, .free, .free] Same sameR (by kernel_rfl) 16 (Array.replicate 16 false) (by kernel_rfl) rfl ?_
                intro w38 F39 _
                have HB13 := Blk.keep HB13 F39 (nin0 _)
                have HA := Fr.step0 HA F39
                have HZ := Fr.step0 HZ F39
                refine WO.one (SA.F sameR sameT _ 0 _ (by kernel_rfl)) 72 (.slice (some ad) n c0) (by kernel_rfl) ?_
                refine WO.one (SA.F sameR sameT _ 1 _ (by kernel_rfl)) 73 (.int .i64 (j : Int)) (by kernel_rfl) ?_
                refine WO.ix (SA.F sameR sameT _ 2 _ (by kernel_rfl)) 74 (ad.add j) ad n 1 (j : Int) (by kernel_rfl) (by omega) (by omega) (by congr 1; omega) ?_
                refine WO.ld (SA.S sameR sameT _ 3 _ (by kernel_rfl)) 75 (.int .i64 (l.getD j 0)) (by kernel_rfl) (same (HA.cell0 (hc j (by omega)))) ?_
                refine WO.one (SA.F sameR sameT _ 4 _ (by kernel_rfl)) 76 (.pointer (some ⟨g6, 4, none⟩)) (by kernel_rfl) ?_
                refine WO.ld (SA.S sameR sameT _ 5 _ (by kernel_rfl)) 77 (.int .i64 r.least) (by kernel_rfl) (same (HB13.at 4 (by kernel_rfl))) ?_
                refine WO.one (SA.F sameR sameT _ 6 _ (by kernel_rfl)) 78 (.bool (decide ((l.getD j 0 : Int) < r.least))) (by kernel_rfl) ?_
                refine WO.topPF ((l.getD j 0 : Int) < r.least) (by have := (hLE.2 _ hj).1; omega) ?_
                refine WO.one (SA.F sameR sameT _ 7 _ (by kernel_rfl)) 79 (.bool false) (by kernel_rfl) ?_
                refine WO.one (SA.F sameR sameT _ 8 _ (by kernel_rfl)) 80 (.slice (some ad) n c0) (by kernel_rfl) ?_
                refine WO.one (SA.F sameR sameT _ 9 _ (by kernel_rfl)) 81 (.int .i64 (j : Int)) (by kernel_rfl) ?_
                refine WO.ix (SA.F sameR sameT _ 10 _ (by kernel_rfl)) 82 (ad.add j) ad n 1 (j : Int) (by kernel_rfl) (by omega) (by omega) (by congr 1; omega) ?_
                refine WO.ld (SA.S sameR sameT _ 11 _ (by kernel_rfl)) 83 (.int .i64 (l.getD j 0)) (by kernel_rfl) (same (HA.cell0 (hc j (by omega)))) ?_
                refine WO.one (SA.F sameR sameT _ 12 _ (by kernel_rfl)) 84 (.pointer (some ⟨g6, 5, none⟩)) (by kernel_rfl) ?_
                refine WO.ld (SA.S sameR sameT _ 13 _ (by kernel_rfl)) 85 (.int .i64 r.most) (by kernel_rfl) (same (HB13.at 5 (by kernel_rfl))) ?_
                refine WO.one (SA.F sameR sameT _ 14 _ (by kernel_rfl)) 86 (.bool (decide ((l.getD j 0 : Int) > r.most))) (by kernel_rfl) ?_
                refine WO.topPF ((l.getD j 0 : Int) > r.most) (by have := (hLE.2 _ hj).2; omega) ?_
                refine WO.one (SA.F sameR sameT _ 15 _ (by kernel_rfl)) 87 (.bool false) (by kernel_rfl) ?_
                refine WO.doneA (by kernel_rfl) ?_
                refine WQ.keep [0, 1, 4, 5, 6, 7, 8, 9, 10, 11, 12, 21, 30, 43, 87] (e' := [(0, .int .i64 kind), (1, .slice (some ad) n c0), (4, .bool false), (5, .bool true), (6, .pointer (some ⟨g6, 0, none⟩)), (7, .int .u64 S1), (8, .int .i64 (k : Int)), (9, .int .i64 (wsum (l.take (j + 1)))), (10, .bool true), (11, .bool false), (12, .int .i64 (j : Int)), (21, .bool false), (30, .bool false), (43, .bool true), (87, .bool false)]) (by kernel_rfl) ?_
                refine WQ.thenN ?_
                refine WE.condF (by kernel_rfl) ?_
                refine WE.skip ?_
                refine WQ.blkN ?_
                refine WQ.thenN ?_
                -- R15 law.go:59
                refine WE.region ?_
                refine WO.run 1 0 [(44, .int .i64 (j : Int))] (by kernel_rfl) (by kernel_rfl) ?_
                refine WO.one (SQ.F 1 (by kernel_rfl)) 45 (.int .i64 (IntKind.i64.wrap ((j : Int) + 1))) (by kernel_rfl) ?_
                refine WO.top (v' := .int .i64 ((j + 1 : Nat) : Int)) (wrap_i64 (by omega) (by omega)) ?_
                refine WO.run 1 2 [(12, .int .i64 ((j + 1 : Nat) : Int))] (by kernel_rfl) (by kernel_rfl) ?_
                refine WO.done (by kernel_rfl) ?_
                refine WQ.keep [0, 1, 4, 5, 6, 7, 8, 9, 10, 11, 12, 21, 30, 43, 87] (e' := [(0, .int .i64 kind), (1, .slice (some ad) n c0), (4, .bool false), (5, .bool true), (6, .pointer (some ⟨g6, 0, none⟩)), (7, .int .u64 S1), (8, .int .i64 (k : Int)), (9, .int .i64 (wsum (l.take (j + 1)))), (10, .bool true), (11, .bool false), (12, .int .i64 ((j + 1 : Nat) : Int)), (21, .bool false), (30, .bool false), (43, .bool true), (87, .bool false)]) (by kernel_rfl) ?_
                have hLj : decide (r.least ∈ l.take (j + 1)) = true := mem_step hj' (by simp_all)
                have hMj : decide (r.most ∈ l.take (j + 1)) = false := mem_step hj' (by simp_all)
                refine WQ.env (e' := [(0, .int .i64 kind), (1, .slice (some ad) n c0), (4, .bool false), (5, .bool true), (6, .pointer (some ⟨g6, 0, none⟩)), (7, .int .u64 S1), (8, .int .i64 (k : Int)), (9, .int .i64 (wsum (l.take (j + 1)))), (10, .bool (decide (r.least ∈ l.take (j + 1)))), (11, .bool (decide (r.most ∈ l.take (j + 1)))), (12, .int .i64 ((j + 1 : Nat) : Int)), (21, .bool false), (30, .bool false), (43, .bool true), (87, .bool false)]) (by rw [hLj, hMj]) ?_
                refine WQ.again (j + 1) [0, 1, 4, 5, 6, 7, 8, 9, 10, 11, 12, 21, 30] (by kernel_rfl) ?_ ?_
                · show n - (j + 1) < n - j; omega
                · exact ⟨by omega, HZ⟩
          · intro h29
            refine WO.one (SA.F sameR sameT _ 9 _ (by kernel_rfl)) 61 (.bool false) (by kernel_rfl) ?_
            refine WO.one (SA.F sameR sameT _ 10 _ (by kernel_rfl)) 10 (.bool false) (by kernel_rfl) ?_
            refine WO.doneA (by kernel_rfl) ?_
            refine WQ.keep [0, 1, 4, 5, 6, 7, 8, 9, 10, 11, 12, 21, 30, 43] (e' := [(0, .int .i64 kind), (1, .slice (some ad) n c0), (4, .bool false), (5, .bool true), (6, .pointer (some ⟨g6, 0, none⟩)), (7, .int .u64 S1), (8, .int .i64 (k : Int)), (9, .int .i64 (wsum (l.take (j + 1)))), (10, .bool false), (11, .bool (decide (r.most ∈ l.take j))), (12, .int .i64 (j : Int)), (21, .bool false), (30, .bool false), (43, .bool true)]) (by kernel_rfl) ?_
            refine WQ.thenN ?_
            refine WE.seq ?_
            -- R18* law.go:62
            refine WE.draw [.free, .free, .free, .free, .free, .still, .free, .still, .free, .free, .free] Same sameR (by kernel_rfl) 11 (Array.replicate 11 false) (by kernel_rfl) rfl ?_
            intro w40 F41 _
            have HB13 := Blk.keep HB13 F41 (nin0 _)
            have HA := Fr.step0 HA F41
            have HZ := Fr.step0 HZ F41
            refine WO.one (SA.F sameR sameT _ 0 _ (by kernel_rfl)) 62 (.bool (decide (r.most ∈ l.take j))) (by kernel_rfl) ?_
            refine WO.topP (r.most ∈ l.take j) ?_ ?_
            · intro h42
              refine WO.one (SA.F sameR sameT _ 1 _ (by kernel_rfl)) 63 (.bool true) (by kernel_rfl) ?_
              refine WO.off (SA.O sameR sameT _ 2 _ (by kernel_rfl)) 64 (by kernel_rfl) ?_
              refine WO.off (SA.O sameR sameT _ 3 _ (by kernel_rfl)) 65 (by kernel_rfl) ?_
              refine WO.off (SA.O sameR sameT _ 4 _ (by kernel_rfl)) 66 (by kernel_rfl) ?_
              refine WO.off (SA.O sameR sameT _ 5 _ (by kernel_rfl)) 67 (by kernel_rfl) ?_
              refine WO.off (SA.O sameR sameT _ 6 _ (by kernel_rfl)) 68 (by kernel_rfl) ?_
              refine WO.off (SA.O sameR sameT _ 7 _ (by kernel_rfl)) 69 (by kernel_rfl) ?_
              refine WO.off (SA.O sameR sameT _ 8 _ (by kernel_rfl)) 70 (by kernel_rfl) ?_
              refine WO.one (SA.F sameR sameT _ 9 _ (by kernel_rfl)) 71 (.bool true) (by kernel_rfl) ?_
              refine WO.one (SA.F sameR sameT _ 10 _ (by kernel_rfl)) 11 (.bool true) (by kernel_rfl) ?_
              refine WO.doneA (by kernel_rfl) ?_
              refine WQ.keep [0, 1, 4, 5, 6, 7, 8, 9, 10, 11, 12, 21, 30, 43] (e' := [(0, .int .i64 kind), (1, .slice (some ad) n c0), (4, .bool false), (5, .bool true), (6, .pointer (some ⟨g6, 0, none⟩)), (7, .int .u64 S1), (8, .int .i64 (k : Int)), (9, .int .i64 (wsum (l.take (j + 1)))), (10, .bool false), (11, .bool true), (12, .int .i64 (j : Int)), (21, .bool false), (30, .bool false), (43, .bool true)]) (by kernel_rfl) ?_
              refine WQ.thenN ?_
              refine WE.seq ?_
              -- R19* law.go:63
              refine WE.draw [.free, .free, .free, .still, .free, .still, .free, .free, .free, .free, .free, .still, .free, .still, .free, .free] Same sameR (by kernel_rfl) 16 (Array.replicate 16 false) (by kernel_rfl) rfl ?_
              intro w43 F44 _
              have HB13 := Blk.keep HB13 F44 (nin0 _)
              have HA := Fr.step0 HA F44
              have HZ := Fr.step0 HZ F44
              refine WO.one (SA.F sameR sameT _ 0 _ (by kernel_rfl)) 72 (.slice (some ad) n c0) (by kernel_rfl) ?_
              refine WO.one (SA.F sameR sameT _ 1 _ (by kernel_rfl)) 73 (.int .i64 (j : Int)) (by kernel_rfl) ?_
              refine WO.ix (SA.F sameR sameT _ 2 _ (by kernel_rfl)) 74 (ad.add j) ad n 1 (j : Int) (by kernel_rfl) (by omega) (by omega) (by congr 1; omega) ?_
              refine WO.ld (SA.S sameR sameT _ 3 _ (by kernel_rfl)) 75 (.int .i64 (l.getD j 0)) (by kernel_rfl) (same (HA.cell0 (hc j (by omega)))) ?_
              refine WO.one (SA.F sameR sameT _ 4 _ (by kernel_rfl)) 76 (.pointer (some ⟨g6, 4, none⟩)) (by kernel_rfl) ?_
              refine WO.ld (SA.S sameR sameT _ 5 _ (by kernel_rfl)) 77 (.int .i64 r.least) (by kernel_rfl) (same (HB13.at 4 (by kernel_rfl))) ?_
              refine WO.one (SA.F sameR sameT _ 6 _ (by kernel_rfl)) 78 (.bool (decide ((l.getD j 0 : Int) < r.least))) (by kernel_rfl) ?_
              refine WO.topPF ((l.getD j 0 : Int) < r.least) (by have := (hLE.2 _ hj).1; omega) ?_
              refine WO.one (SA.F sameR sameT _ 7 _ (by kernel_rfl)) 79 (.bool false) (by kernel_rfl) ?_
              refine WO.one (SA.F sameR sameT _ 8 _ (by kernel_rfl)) 80 (.slice (some ad) n c0) (by kernel_rfl) ?_
              refine WO.one (SA.F sameR sameT _ 9 _ (by kernel_rfl)) 81 (.int .i64 (j : Int)) (by kernel_rfl) ?_
              refine WO.ix (SA.F sameR sameT _ 10 _ (by kernel_rfl)) 82 (ad.add j) ad n 1 (j : Int) (by kernel_rfl) (by omega) (by omega) (by congr 1; omega) ?_
              refine WO.ld (SA.S sameR sameT _ 11 _ (by kernel_rfl)) 83 (.int .i64 (l.getD j 0)) (by kernel_rfl) (same (HA.cell0 (hc j (by omega)))) ?_
              refine WO.one (SA.F sameR sameT _ 12 _ (by kernel_rfl)) 84 (.pointer (some ⟨g6, 5, none⟩)) (by kernel_rfl) ?_
              refine WO.ld (SA.S sameR sameT _ 13 _ (by kernel_rfl)) 85 (.int .i64 r.most) (by kernel_rfl) (same (HB13.at 5 (by kernel_rfl))) ?_
              refine WO.one (SA.F sameR sameT _ 14 _ (by kernel_rfl)) 86 (.bool (decide ((l.getD j 0 : Int) > r.most))) (by kernel_rfl) ?_
              refine WO.topPF ((l.getD j 0 : Int) > r.most) (by have := (hLE.2 _ hj).2; omega) ?_
              refine WO.one (SA.F sameR sameT _ 15 _ (by kernel_rfl)) 87 (.bool false) (by kernel_rfl) ?_
              refine WO.doneA (by kernel_rfl) ?_
              refine WQ.keep [0, 1, 4, 5, 6, 7, 8, 9, 10, 11, 12, 21, 30, 43, 87] (e' := [(0, .int .i64 kind), (1, .slice (some ad) n c0), (4, .bool false), (5, .bool true), (6, .pointer (some ⟨g6, 0, none⟩)), (7, .int .u64 S1), (8, .int .i64 (k : Int)), (9, .int .i64 (wsum (l.take (j + 1)))), (10, .bool false), (11, .bool true), (12, .int .i64 (j : Int)), (21, .bool false), (30, .bool false), (43, .bool true), (87, .bool false)]) (by kernel_rfl) ?_
              refine WQ.thenN ?_
              refine WE.condF (by kernel_rfl) ?_
              refine WE.skip ?_
              refine WQ.blkN ?_
              refine WQ.thenN ?_
              -- R15 law.go:59
              refine WE.region ?_
              refine WO.run 1 0 [(44, .int .i64 (j : Int))] (by kernel_rfl) (by kernel_rfl) ?_
              refine WO.one (SQ.F 1 (by kernel_rfl)) 45 (.int .i64 (IntKind.i64.wrap ((j : Int) + 1))) (by kernel_rfl) ?_
              refine WO.top (v' := .int .i64 ((j + 1 : Nat) : Int)) (wrap_i64 (by omega) (by omega)) ?_
              refine WO.run 1 2 [(12, .int .i64 ((j + 1 : Nat) : Int))] (by kernel_rfl) (by kernel_rfl) ?_
              refine WO.done (by kernel_rfl) ?_
              refine WQ.keep [0, 1, 4, 5, 6, 7, 8, 9, 10, 11, 12, 21, 30, 43, 87] (e' := [(0, .int .i64 kind), (1, .slice (some ad) n c0), (4, .bool false), (5, .bool true), (6, .pointer (some ⟨g6, 0, none⟩)), (7, .int .u64 S1), (8, .int .i64 (k : Int)), (9, .int .i64 (wsum (l.take (j + 1)))), (10, .bool false), (11, .bool true), (12, .int .i64 ((j + 1 : Nat) : Int)), (21, .bool false), (30, .bool false), (43, .bool true), (87, .bool false)]) (by kernel_rfl) ?_
              have hLj : decide (r.least ∈ l.take (j + 1)) = false := mem_step hj' (by simp_all)
              have hMj : decide (r.most ∈ l.take (j + 1)) = true := mem_step hj' (by simp_all)
              refine WQ.env (e' := [(0, .int .i64 kind), (1, .slice (some ad) n c0), (4, .bool false), (5, .bool true), (6, .pointer (some ⟨g6, 0, none⟩)), (7, .int .u64 S1), (8, .int .i64 (k : Int)), (9, .int .i64 (wsum (l.take (j + 1)))), (10, .bool (decide (r.least ∈ l.take (j + 1)))), (11, .bool (decide (r.most ∈ l.take (j + 1)))), (12, .int .i64 ((j + 1 : Nat) : Int)), (21, .bool false), (30, .bool false), (43, .bool true), (87, .bool false)]) (by rw [hLj, hMj]) ?_
              refine WQ.again (j + 1) [0, 1, 4, 5, 6, 7, 8, 9, 10, 11, 12, 21, 30] (by kernel_rfl) ?_ ?_
              · show n - (j + 1) < n - j; omega
              · exact ⟨by omega, HZ⟩
            · intro h42
              refine WO.one (SA.F sameR sameT _ 1 _ (by kernel_rfl)) 63 (.bool false) (by kernel_rfl) ?_
              refine WO.one (SA.F sameR sameT _ 2 _ (by kernel_rfl)) 64 (.slice (some ad) n c0) (by kernel_rfl) ?_
              refine WO.one (SA.F sameR sameT _ 3 _ (by kernel_rfl)) 65 (.int .i64 (j : Int)) (by kernel_rfl) ?_
              refine WO.ix (SA.F sameR sameT _ 4 _ (by kernel_rfl)) 66 (ad.add j) ad n 1 (j : Int) (by kernel_rfl) (by omega) (by omega) (by congr 1; omega) ?_
              refine WO.ld (SA.S sameR sameT _ 5 _ (by kernel_rfl)) 67 (.int .i64 (l.getD j 0)) (by kernel_rfl) (same (HA.cell0 (hc j (by omega)))) ?_
              refine WO.one (SA.F sameR sameT _ 6 _ (by kernel_rfl)) 68 (.pointer (some ⟨g6, 5, none⟩)) (by kernel_rfl) ?_
              refine WO.ld (SA.S sameR sameT _ 7 _ (by kernel_rfl)) 69 (.int .i64 r.most) (by kernel_rfl) (same (HB13.at 5 (by kernel_rfl))) ?_
              refine WO.one (SA.F sameR sameT _ 8 _ (by kernel_rfl)) 70 (.bool (decide ((l.getD j 0 : Int) = r.most))) (by kernel_rfl) ?_
              refine WO.topP ((l.getD j 0 : Int) = r.most) ?_ ?_
              · intro h45
                refine WO.one (SA.F sameR sameT _ 9 _ (by kernel_rfl)) 71 (.bool true) (by kernel_rfl) ?_
                refine WO.one (SA.F sameR sameT _ 10 _ (by kernel_rfl)) 11 (.bool true) (by kernel_rfl) ?_
                refine WO.doneA (by kernel_rfl) ?_
                refine WQ.keep [0, 1, 4, 5, 6, 7, 8, 9, 10, 11, 12, 21, 30, 43] (e' := [(0, .int .i64 kind), (1, .slice (some ad) n c0), (4, .bool false), (5, .bool true), (6, .pointer (some ⟨g6, 0, none⟩)), (7, .int .u64 S1), (8, .int .i64 (k : Int)), (9, .int .i64 (wsum (l.take (j + 1)))), (10, .bool false), (11, .bool true), (12, .int .i64 (j : Int)), (21, .bool false), (30, .bool false), (43, .bool true)]) (by kernel_rfl) ?_
                refine WQ.thenN ?_
                refine WE.seq ?_
                -- R19* law.go:63
                refine WE.draw [.free, .free, .free, .still, .free, .still, .free, .free, .free, .free, .free, .still, .free, .still, .free, .free] Same sameR (by kernel_rfl) 16 (Array.replicate 16 false) (by kernel_rfl) rfl ?_
                intro w46 F47 _
                have HB13 := Blk.keep HB13 F47 (nin0 _)
                have HA := Fr.step0 HA F47
                have HZ := Fr.step0 HZ F47
                refine WO.one (SA.F sameR sameT _ 0 _ (by kernel_rfl)) 72 (.slice (some ad) n c0) (by kernel_rfl) ?_
                refine WO.one (SA.F sameR sameT _ 1 _ (by kernel_rfl)) 73 (.int .i64 (j : Int)) (by kernel_rfl) ?_
                refine WO.ix (SA.F sameR sameT _ 2 _ (by kernel_rfl)) 74 (ad.add j) ad n 1 (j : Int) (by kernel_rfl) (by omega) (by omega) (by congr 1; omega) ?_
                refine WO.ld (SA.S sameR sameT _ 3 _ (by kernel_rfl)) 75 (.int .i64 (l.getD j 0)) (by kernel_rfl) (same (HA.cell0 (hc j (by omega)))) ?_
                refine WO.one (SA.F sameR sameT _ 4 _ (by kernel_rfl)) 76 (.pointer (some ⟨g6, 4, none⟩)) (by kernel_rfl) ?_
                refine WO.ld (SA.S sameR sameT _ 5 _ (by kernel_rfl)) 77 (.int .i64 r.least) (by kernel_rfl) (same (HB13.at 4 (by kernel_rfl))) ?_
                refine WO.one (SA.F sameR sameT _ 6 _ (by kernel_rfl)) 78 (.bool (decide ((l.getD j 0 : Int) < r.least))) (by kernel_rfl) ?_
                refine WO.topPF ((l.getD j 0 : Int) < r.least) (by have := (hLE.2 _ hj).1; omega) ?_
                refine WO.one (SA.F sameR sameT _ 7 _ (by kernel_rfl)) 79 (.bool false) (by kernel_rfl) ?_
                refine WO.one (SA.F sameR sameT _ 8 _ (by kernel_rfl)) 80 (.slice (some ad) n c0) (by kernel_rfl) ?_
                refine WO.one (SA.F sameR sameT _ 9 _ (by kernel_rfl)) 81 (.int .i64 (j : Int)) (by kernel_rfl) ?_
                refine WO.ix (SA.F sameR sameT _ 10 _ (by kernel_rfl)) 82 (ad.add j) ad n 1 (j : Int) (by kernel_rfl) (by omega) (by omega) (by congr 1; omega) ?_
                refine WO.ld (SA.S sameR sameT _ 11 _ (by kernel_rfl)) 83 (.int .i64 (l.getD j 0)) (by kernel_rfl) (same (HA.cell0 (hc j (by omega)))) ?_
                refine WO.one (SA.F sameR sameT _ 12 _ (by kernel_rfl)) 84 (.pointer (some ⟨g6, 5, none⟩)) (by kernel_rfl) ?_
                refine WO.ld (SA.S sameR sameT _ 13 _ (by kernel_rfl)) 85 (.int .i64 r.most) (by kernel_rfl) (same (HB13.at 5 (by kernel_rfl))) ?_
                refine WO.one (SA.F sameR sameT _ 14 _ (by kernel_rfl)) 86 (.bool (decide ((l.getD j 0 : Int) > r.most))) (by kernel_rfl) ?_
                refine WO.topPF ((l.getD j 0 : Int) > r.most) (by have := (hLE.2 _ hj).2; omega) ?_
                refine WO.one (SA.F sameR sameT _ 15 _ (by kernel_rfl)) 87 (.bool false) (by kernel_rfl) ?_
                refine WO.doneA (by kernel_rfl) ?_
                refine WQ.keep [0, 1, 4, 5, 6, 7, 8, 9, 10, 11, 12, 21, 30, 43, 87] (e' := [(0, .int .i64 kind), (1, .slice (some ad) n c0), (4, .bool false), (5, .bool true), (6, .pointer (some ⟨g6, 0, none⟩)), (7, .int .u64 S1), (8, .int .i64 (k : Int)), (9, .int .i64 (wsum (l.take (j + 1)))), (10, .bool false), (11, .bool true), (12, .int .i64 (j : Int)), (21, .bool false), (30, .bool false), (43, .bool true), (87, .bool false)]) (by kernel_rfl) ?_
                refine WQ.thenN ?_
                refine WE.condF (by kernel_rfl) ?_
                refine WE.skip ?_
                refine WQ.blkN ?_
                refine WQ.thenN ?_
                -- R15 law.go:59
                refine WE.region ?_
                refine WO.run 1 0 [(44, .int .i64 (j : Int))] (by kernel_rfl) (by kernel_rfl) ?_
                refine WO.one (SQ.F 1 (by kernel_rfl)) 45 (.int .i64 (IntKind.i64.wrap ((j : Int) + 1))) (by kernel_rfl) ?_
                refine WO.top (v' := .int .i64 ((j + 1 : Nat) : Int)) (wrap_i64 (by omega) (by omega)) ?_
                refine WO.run 1 2 [(12, .int .i64 ((j + 1 : Nat) : Int))] (by kernel_rfl) (by kernel_rfl) ?_
                refine WO.done (by kernel_rfl) ?_
                refine WQ.keep [0, 1, 4, 5, 6, 7, 8, 9, 10, 11, 12, 21, 30, 43, 87] (e' := [(0, .int .i64 kind), (1, .slice (some ad) n c0), (4, .bool false), (5, .bool true), (6, .pointer (some ⟨g6, 0, none⟩)), (7, .int .u64 S1), (8, .int .i64 (k : Int)), (9, .int .i64 (wsum (l.take (j + 1)))), (10, .bool false), (11, .bool true), (12, .int .i64 ((j + 1 : Nat) : Int)), (21, .bool false), (30, .bool false), (43, .bool true), (87, .bool false)]) (by kernel_rfl) ?_
                have hLj : decide (r.least ∈ l.take (j + 1)) = false := mem_step hj' (by simp_all)
                have hMj : decide (r.most ∈ l.take (j + 1)) = true := mem_step hj' (by simp_all)
                refine WQ.env (e' := [(0, .int .i64 kind), (1, .slice (some ad) n c0), (4, .bool false), (5, .bool true), (6, .pointer (some ⟨g6, 0, none⟩)), (7, .int .u64 S1), (8, .int .i64 (k : Int)), (9, .int .i64 (wsum (l.take (j + 1)))), (10, .bool (decide (r.least ∈ l.take (j + 1)))), (11, .bool (decide (r.most ∈ l.take (j + 1)))), (12, .int .i64 ((j + 1 : Nat) : Int)), (21, .bool false), (30, .bool false), (43, .bool true), (87, .bool false)]) (by rw [hLj, hMj]) ?_
                refine WQ.again (j + 1) [0, 1, 4, 5, 6, 7, 8, 9, 10, 11, 12, 21, 30] (by kernel_rfl) ?_ ?_
                · show n - (j + 1) < n - j; omega
                · exact ⟨by omega, HZ⟩
              · intro h45
                refine WO.one (SA.F sameR sameT _ 9 _ (by kernel_rfl)) 71 (.bool false) (by kernel_rfl) ?_
                refine WO.one (SA.F sameR sameT _ 10 _ (by kernel_rfl)) 11 (.bool false) (by kernel_rfl) ?_
                refine WO.doneA (by kernel_rfl) ?_
                refine WQ.keep [0, 1, 4, 5, 6, 7, 8, 9, 10, 11, 12, 21, 30, 43] (e' := [(0, .int .i64 kind), (1, .slice (some ad) n c0), (4, .bool false), (5, .bool true), (6, .pointer (some ⟨g6, 0, none⟩)), (7, .int .u64 S1), (8, .int .i64 (k : Int)), (9, .int .i64 (wsum (l.take (j + 1)))), (10, .bool false), (11, .bool false), (12, .int .i64 (j : Int)), (21, .bool false), (30, .bool false), (43, .bool true)]) (by kernel_rfl) ?_
                refine WQ.thenN ?_
                refine WE.seq ?_
                -- R19* law.go:63
                refine WE.draw [.free, .free, .free, .still, .free, .still, .free, .free, .free, .free, .free, .still, .free, .still, .free, .free] Same sameR (by kernel_rfl) 16 (Array.replicate 16 false) (by kernel_rfl) rfl ?_
                intro w48 F49 _
                have HB13 := Blk.keep HB13 F49 (nin0 _)
                have HA := Fr.step0 HA F49
                have HZ := Fr.step0 HZ F49
                refine WO.one (SA.F sameR sameT _ 0 _ (by kernel_rfl)) 72 (.slice (some ad) n c0) (by kernel_rfl) ?_
                refine WO.one (SA.F sameR sameT _ 1 _ (by kernel_rfl)) 73 (.int .i64 (j : Int)) (by kernel_rfl) ?_
                refine WO.ix (SA.F sameR sameT _ 2 _ (by kernel_rfl)) 74 (ad.add j) ad n 1 (j : Int) (by kernel_rfl) (by omega) (by omega) (by congr 1; omega) ?_
                refine WO.ld (SA.S sameR sameT _ 3 _ (by kernel_rfl)) 75 (.int .i64 (l.getD j 0)) (by kernel_rfl) (same (HA.cell0 (hc j (by omega)))) ?_
                refine WO.one (SA.F sameR sameT _ 4 _ (by kernel_rfl)) 76 (.pointer (some ⟨g6, 4, none⟩)) (by kernel_rfl) ?_
                refine WO.ld (SA.S sameR sameT _ 5 _ (by kernel_rfl)) 77 (.int .i64 r.least) (by kernel_rfl) (same (HB13.at 4 (by kernel_rfl))) ?_
                refine WO.one (SA.F sameR sameT _ 6 _ (by kernel_rfl)) 78 (.bool (decide ((l.getD j 0 : Int) < r.least))) (by kernel_rfl) ?_
                refine WO.topPF ((l.getD j 0 : Int) < r.least) (by have := (hLE.2 _ hj).1; omega) ?_
                refine WO.one (SA.F sameR sameT _ 7 _ (by kernel_rfl)) 79 (.bool false) (by kernel_rfl) ?_
                refine WO.one (SA.F sameR sameT _ 8 _ (by kernel_rfl)) 80 (.slice (some ad) n c0) (by kernel_rfl) ?_
                refine WO.one (SA.F sameR sameT _ 9 _ (by kernel_rfl)) 81 (.int .i64 (j : Int)) (by kernel_rfl) ?_
                refine WO.ix (SA.F sameR sameT _ 10 _ (by kernel_rfl)) 82 (ad.add j) ad n 1 (j : Int) (by kernel_rfl) (by omega) (by omega) (by congr 1; omega) ?_
                refine WO.ld (SA.S sameR sameT _ 11 _ (by kernel_rfl)) 83 (.int .i64 (l.getD j 0)) (by kernel_rfl) (same (HA.cell0 (hc j (by omega)))) ?_
                refine WO.one (SA.F sameR sameT _ 12 _ (by kernel_rfl)) 84 (.pointer (some ⟨g6, 5, none⟩)) (by kernel_rfl) ?_
                refine WO.ld (SA.S sameR sameT _ 13 _ (by kernel_rfl)) 85 (.int .i64 r.most) (by kernel_rfl) (same (HB13.at 5 (by kernel_rfl))) ?_
                refine WO.one (SA.F sameR sameT _ 14 _ (by kernel_rfl)) 86 (.bool (decide ((l.getD j 0 : Int) > r.most))) (by kernel_rfl) ?_
                refine WO.topPF ((l.getD j 0 : Int) > r.most) (by have := (hLE.2 _ hj).2; omega) ?_
                refine WO.one (SA.F sameR sameT _ 15 _ (by kernel_rfl)) 87 (.bool false) (by kernel_rfl) ?_
                refine WO.doneA (by kernel_rfl) ?_
                refine WQ.keep [0, 1, 4, 5, 6, 7, 8, 9, 10, 11, 12, 21, 30, 43, 87] (e' := [(0, .int .i64 kind), (1, .slice (some ad) n c0), (4, .bool false), (5, .bool true), (6, .pointer (some ⟨g6, 0, none⟩)), (7, .int .u64 S1), (8, .int .i64 (k : Int)), (9, .int .i64 (wsum (l.take (j + 1)))), (10, .bool false), (11, .bool false), (12, .int .i64 (j : Int)), (21, .bool false), (30, .bool false), (43, .bool true), (87, .bool false)]) (by kernel_rfl) ?_
                refine WQ.thenN ?_
                refine WE.condF (by kernel_rfl) ?_
                refine WE.skip ?_
                refine WQ.blkN ?_
                refine WQ.thenN ?_
                -- R15 law.go:59
                refine WE.region ?_
                refine WO.run 1 0 [(44, .int .i64 (j : Int))] (by kernel_rfl) (by kernel_rfl) ?_
                refine WO.one (SQ.F 1 (by kernel_rfl)) 45 (.int .i64 (IntKind.i64.wrap ((j : Int) + 1))) (by kernel_rfl) ?_
                refine WO.top (v' := .int .i64 ((j + 1 : Nat) : Int)) (wrap_i64 (by omega) (by omega)) ?_
                refine WO.run 1 2 [(12, .int .i64 ((j + 1 : Nat) : Int))] (by kernel_rfl) (by kernel_rfl) ?_
                refine WO.done (by kernel_rfl) ?_
                refine WQ.keep [0, 1, 4, 5, 6, 7, 8, 9, 10, 11, 12, 21, 30, 43, 87] (e' := [(0, .int .i64 kind), (1, .slice (some ad) n c0), (4, .bool false), (5, .bool true), (6, .pointer (some ⟨g6, 0, none⟩)), (7, .int .u64 S1), (8, .int .i64 (k : Int)), (9, .int .i64 (wsum (l.take (j + 1)))), (10, .bool false), (11, .bool false), (12, .int .i64 ((j + 1 : Nat) : Int)), (21, .bool false), (30, .bool false), (43, .bool true), (87, .bool false)]) (by kernel_rfl) ?_
                have hLj : decide (r.least ∈ l.take (j + 1)) = false := mem_step hj' (by simp_all)
                have hMj : decide (r.most ∈ l.take (j + 1)) = false := mem_step hj' (by simp_all)
                refine WQ.env (e' := [(0, .int .i64 kind), (1, .slice (some ad) n c0), (4, .bool false), (5, .bool true), (6, .pointer (some ⟨g6, 0, none⟩)), (7, .int .u64 S1), (8, .int .i64 (k : Int)), (9, .int .i64 (wsum (l.take (j + 1)))), (10, .bool (decide (r.least ∈ l.take (j + 1)))), (11, .bool (decide (r.most ∈ l.take (j + 1)))), (12, .int .i64 ((j + 1 : Nat) : Int)), (21, .bool false), (30, .bool false), (43, .bool true), (87, .bool false)]) (by rw [hLj, hMj]) ?_
                refine WQ.again (j + 1) [0, 1, 4, 5, 6, 7, 8, 9, 10, 11, 12, 21, 30] (by kernel_rfl) ?_ ?_
                · show n - (j + 1) < n - j; omega
                · exact ⟨by omega, HZ⟩
      · intro h15
        refine WO.done (by kernel_rfl) ?_
        refine WQ.keep [0, 1, 4, 5, 6, 7, 8, 9, 10, 11, 12, 21, 30, 43] (e' := [(0, .int .i64 kind), (1, .slice (some ad) n c0), (4, .bool false), (5, .bool true), (6, .pointer (some ⟨g6, 0, none⟩)), (7, .int .u64 S1), (8, .int .i64 (k : Int)), (9, .int .i64 (wsum (l.take j))), (10, .bool (decide (r.least ∈ l.take j))), (11, .bool (decide (r.most ∈ l.take j))), (12, .int .i64 (j : Int)), (21, .bool false), (30, .bool false), (43, .bool false)]) (by kernel_rfl) ?_
        refine WQ.thenN ?_
        refine WE.condF (by kernel_rfl) ?_
        refine WE.exit ?_
        refine WQ.thenE ?_
        refine WQ.thenE ?_
        refine WQ.blkE ?_
        refine WQ.thenN ?_
        refine WE.seq ?_
        refine WE.seq ?_
        -- R21 law.go:67
        refine WE.region ?_
        refine WO.run 1 0 [(88, .int .i64 kind)] (by kernel_rfl) (by kernel_rfl) ?_
        refine WO.one (SQ.F 1 (by kernel_rfl)) 89 (.bool (decide ((kind : Int) = 2))) (by kernel_rfl) ?_
        refine WO.topP ((kind : Int) = 2) ?_ ?_
        · intro h50
          refine WO.done (by kernel_rfl) ?_
          refine WQ.keep [0, 1, 4, 5, 6, 7, 8, 9, 10, 11, 12, 21, 30, 43, 89] (e' := [(0, .int .i64 kind), (1, .slice (some ad) n c0), (4, .bool false), (5, .bool true), (6, .pointer (some ⟨g6, 0, none⟩)), (7, .int .u64 S1), (8, .int .i64 (k : Int)), (9, .int .i64 (wsum (l.take j))), (10, .bool (decide (r.least ∈ l.take j))), (11, .bool (decide (r.most ∈ l.take j))), (12, .int .i64 (j : Int)), (21, .bool false), (30, .bool false), (43, .bool false), (89, .bool true)]) (by kernel_rfl) ?_
          refine WQ.thenN ?_
          refine WE.condT (by kernel_rfl) ?_
          -- R22 law.go:68
          refine WE.region ?_
          refine WO.run 3 0 [(92, .int .i64 (n : Int)), (91, .slice (some ad) n c0), (90, .slice (some ad) n c0)] (by kernel_rfl) (by kernel_rfl) ?_
          refine WO.one (SQ.F 3 (by kernel_rfl)) 93 (.int .i64 (IntKind.i64.wrap ((n : Int) - 1))) (by kernel_rfl) ?_
          refine WO.top (v' := .int .i64 ((n : Int) - 1)) (wrap_i64 (by omega) (by omega)) ?_
          refine WO.ix (SQ.F 4 (by kernel_rfl)) 94 (ad.add (((n : Int) - 1).toNat)) ad n 1 ((n : Int) - 1) (by kernel_rfl) (by omega) (by omega) (by congr 1; omega) ?_
          refine WO.ld (SQ.S 5 (by kernel_rfl)) 95 (.int .i64 (l.getD (((n : Int) - 1).toNat) 0)) (by kernel_rfl) (same (HA.cell0 (hc (((n : Int) - 1).toNat) (by omega)))) ?_
          refine WO.run 1 6 [(9, .int .i64 (l.getD (((n : Int) - 1).toNat) 0))] (by kernel_rfl) (by kernel_rfl) ?_
          refine WO.done (by kernel_rfl) ?_
          refine WQ.keep [0, 1, 4, 5, 6, 7, 8, 9, 10, 11, 12, 21, 30, 43, 89] (e' := [(0, .int .i64 kind), (1, .slice (some ad) n c0), (4, .bool false), (5, .bool true), (6, .pointer (some ⟨g6, 0, none⟩)), (7, .int .u64 S1), (8, .int .i64 (k : Int)), (9, .int .i64 (l.getD (((n : Int) - 1).toNat) 0)), (10, .bool (decide (r.least ∈ l.take j))), (11, .bool (decide (r.most ∈ l.take j))), (12, .int .i64 (j : Int)), (21, .bool false), (30, .bool false), (43, .bool false), (89, .bool true)]) (by kernel_rfl) ?_
          refine WQ.thenN ?_
          refine WE.seq ?_
          refine WE.seq ?_
          -- R23 law.go:70
          refine WE.region ?_
          refine WO.run 1 0 [(96, .int .i64 kind)] (by kernel_rfl) (by kernel_rfl) ?_
          refine WO.one (SQ.F 1 (by kernel_rfl)) 97 (.bool (decide ((kind : Int) = 3))) (by kernel_rfl) ?_
          refine WO.topP ((kind : Int) = 3) ?_ ?_
          · intro h51
            refine WO.run 4 2 [(101, .int .i64 (n : Int)), (100, .slice (some ad) n c0), (99, .int .u64 S1), (98, .bool true)] (by kernel_rfl) (by kernel_rfl) ?_
            refine WO.one (SQ.F 6 (by kernel_rfl)) 102 (.int .u64 (IntKind.u64.wrap (n : Int))) (by kernel_rfl) ?_
            refine WO.top (v' := .int .u64 (n : Int)) (wrap_u64 rfl (by omega)) ?_
            refine WO.one (SQ.F 7 (by kernel_rfl)) 103 (.bool (!decide ((S1 : Int) = (n : Int)))) (by kernel_rfl) ?_
            refine WO.topN ((S1 : Int) = (n : Int)) ?_ ?_
            · intro h52
              refine WO.run 3 8 [(106, .int .i64 kind), (105, .bool false), (104, .bool false)] (by kernel_rfl) (by kernel_rfl) ?_
              refine WO.one (SQ.F 11 (by kernel_rfl)) 107 (.bool (!decide ((kind : Int) = 3))) (by kernel_rfl) ?_
              refine WO.topN ((kind : Int) = 3) ?_ ?_
              · intro h53
                refine WO.run 5 12 [(112, .bool false), (111, .bool false), (110, undef), (109, undef), (108, .bool false)] (by kernel_rfl) (by kernel_rfl) ?_
                refine WO.done (by kernel_rfl) ?_
                refine WQ.keep [0, 1, 4, 5, 6, 7, 8, 9, 10, 11, 12, 21, 30, 43, 89, 112] (e' := [(0, .int .i64 kind), (1, .slice (some ad) n c0), (4, .bool false), (5, .bool true), (6, .pointer (some ⟨g6, 0, none⟩)), (7, .int .u64 S1), (8, .int .i64 (k : Int)), (9, .int .i64 (l.getD (((n : Int) - 1).toNat) 0)), (10, .bool (decide (r.least ∈ l.take j))), (11, .bool (decide (r.most ∈ l.take j))), (12, .int .i64 (j : Int)), (21, .bool false), (30, .bool false), (43, .bool false), (89, .bool true), (112, .bool false)]) (by kernel_rfl) ?_
                refine WQ.thenN ?_
                refine WE.condF (by kernel_rfl) ?_
                refine WE.skip ?_
                refine WQ.thenN ?_
                refine WE.seq ?_
                -- R25 law.go:73
                refine WE.region ?_
                refine WO.run 3 0 [(115, .pointer (some ⟨g6, 2, none⟩)), (114, .bool true), (113, .bool true)] (by kernel_rfl) (by kernel_rfl) ?_
                refine WO.ld (SQ.S 3 (by kernel_rfl)) 116 (.int .u64 r.many) (by kernel_rfl) (same (HB13.at 2 (by kernel_rfl))) ?_
                refine WO.run 2 4 [(118, .int .i64 (n : Int)), (117, .slice (some ad) n c0)] (by kernel_rfl) (by kernel_rfl) ?_
                refine WO.one (SQ.F 6 (by kernel_rfl)) 119 (.int .u64 (IntKind.u64.wrap (n : Int))) (by kernel_rfl) ?_
                refine WO.top (v' := .int .u64 (n : Int)) (wrap_u64 rfl (by omega)) ?_
                refine WO.one (SQ.F 7 (by kernel_rfl)) 120 (.bool (decide ((r.many : Int) = (n : Int)))) (by kernel_rfl) ?_
                refine WO.topPT ((r.many : Int) = (n : Int)) (by rw [hOK.many, ← hn]) ?_
                refine WO.run 2 8 [(122, .bool true), (121, .bool true)] (by kernel_rfl) (by kernel_rfl) ?_
                refine WO.one (SQ.F 10 (by kernel_rfl)) 123 (.bool (decide (r.least ∈ l.take j))) (by kernel_rfl) ?_
                refine WO.topP (r.least ∈ l.take j) ?_ ?_
                · intro h54
                  refine WO.run 2 11 [(125, .bool true), (124, .bool true)] (by kernel_rfl) (by kernel_rfl) ?_
                  refine WO.one (SQ.F 13 (by kernel_rfl)) 126 (.bool (decide (r.most ∈ l.take j))) (by kernel_rfl) ?_
                  refine WO.topP (r.most ∈ l.take j) ?_ ?_
                  · intro h55
                    refine WO.run 3 14 [(129, .pointer (some ⟨g6, 6, none⟩)), (128, .bool true), (127, .bool true)] (by kernel_rfl) (by kernel_rfl) ?_
                    refine WO.ld (SQ.S 17 (by kernel_rfl)) 130 (.bool r.over) (by kernel_rfl) (same (HB13.at 6 (by kernel_rfl))) ?_
                    refine WO.one (SQ.F 18 (by kernel_rfl)) 131 (.bool r.over) (by kernel_rfl) ?_
                    refine WO.topB (r.over) ?_ ?_
                    · intro h56
                      refine WO.run 7 19 [(4, .bool true), (137, .bool true), (136, .bool true), (135, undef), (134, undef), (133, undef), (132, undef)] (by kernel_rfl) (by kernel_rfl) ?_
                      refine WO.done (by kernel_rfl) ?_
                      refine WQ.keep [0, 1, 4, 5, 6, 7, 8, 9, 10, 11, 12, 21, 30, 43, 89, 112] (e' := [(0, .int .i64 kind), (1, .slice (some ad) n c0), (4, .bool true), (5, .bool true), (6, .pointer (some ⟨g6, 0, none⟩)), (7, .int .u64 S1), (8, .int .i64 (k : Int)), (9, .int .i64 (l.getD (((n : Int) - 1).toNat) 0)), (10, .bool (decide (r.least ∈ l.take j))), (11, .bool (decide (r.most ∈ l.take j))), (12, .int .i64 (j : Int)), (21, .bool false), (30, .bool false), (43, .bool false), (89, .bool true), (112, .bool false)]) (by kernel_rfl) ?_
                      refine WQ.thenN ?_
                      refine WE.ret ?_
                      refine WQ.ret (v := .bool true) (by kernel_rfl) ?_
                      exact ⟨rfl, HA⟩
                    · intro h56
                      refine WO.run 1 19 [(132, .pointer (some ⟨g6, 3, none⟩))] (by kernel_rfl) (by kernel_rfl) ?_
                      refine WO.ld (SQ.S 20 (by kernel_rfl)) 133 (.int .i64 r.sum) (by kernel_rfl) (same (HB13.at 3 (by kernel_rfl))) ?_
                      refine WO.run 5 21 [(4, .bool (decide ((r.sum : Int) = (l.getD (((n : Int) - 1).toNat) 0)))), (137, .bool (decide ((r.sum : Int) = (l.getD (((n : Int) - 1).toNat) 0)))), (136, .bool (decide ((r.sum : Int) = (l.getD (((n : Int) - 1).toNat) 0)))), (135, .bool (decide ((r.sum : Int) = (l.getD (((n : Int) - 1).toNat) 0)))), (134, .int .i64 (l.getD (((n : Int) - 1).toNat) 0))] (by kernel_rfl) (by kernel_rfl) ?_
                      refine WO.done (by kernel_rfl) ?_
                      refine WQ.keep [0, 1, 4, 5, 6, 7, 8, 9, 10, 11, 12, 21, 30, 43, 89, 112] (e' := [(0, .int .i64 kind), (1, .slice (some ad) n c0), (4, .bool (decide ((r.sum : Int) = (l.getD (((n : Int) - 1).toNat) 0)))), (5, .bool true), (6, .pointer (some ⟨g6, 0, none⟩)), (7, .int .u64 S1), (8, .int .i64 (k : Int)), (9, .int .i64 (l.getD (((n : Int) - 1).toNat) 0)), (10, .bool (decide (r.least ∈ l.take j))), (11, .bool (decide (r.most ∈ l.take j))), (12, .int .i64 (j : Int)), (21, .bool false), (30, .bool false), (43, .bool false), (89, .bool true), (112, .bool false)]) (by kernel_rfl) ?_
                      refine WQ.thenN ?_
                      refine WE.ret ?_
                      refine WQ.ret (v := .bool (decide ((r.sum : Int) = (l.getD (((n : Int) - 1).toNat) 0)))) (by kernel_rfl) ?_
                      have hjn : l.take j = l := List.take_of_length_le (by omega)
                      have hnn1 : ((n : Int) - 1).toNat = n - 1 := by omega
                      have hs : (r.sum : Int) = (l.getD (((n : Int) - 1).toNat) 0) := by
                        rcases hSU with h | h
                        · rw [h56] at h; cases h
                        · rw [h, if_pos h50, hnn1]
                      exact ⟨by rw [decide_eq_true hs], HA⟩
                  · intro h55
                    refine WO.run 12 14 [(4, .bool false), (137, .bool false), (136, undef), (135, undef), (134, undef), (133, undef), (132, undef), (131, undef), (130, undef), (129, undef), (128, .bool false), (127, .bool false)] (by kernel_rfl) (by kernel_rfl) ?_
                    refine WO.done (by kernel_rfl) ?_
                    refine WQ.keep [0, 1, 4, 5, 6, 7, 8, 9, 10, 11, 12, 21, 30, 43, 89, 112] (e' := [(0, .int .i64 kind), (1, .slice (some ad) n c0), (4, .bool false), (5, .bool true), (6, .pointer (some ⟨g6, 0, none⟩)), (7, .int .u64 S1), (8, .int .i64 (k : Int)), (9, .int .i64 (l.getD (((n : Int) - 1).toNat) 0)), (10, .bool (decide (r.least ∈ l.take j))), (11, .bool (decide (r.most ∈ l.take j))), (12, .int .i64 (j : Int)), (21, .bool false), (30, .bool false), (43, .bool false), (89, .bool true), (112, .bool false)]) (by kernel_rfl) ?_
                    refine WQ.thenN ?_
                    refine WE.ret ?_
                    refine WQ.ret (v := .bool false) (by kernel_rfl) ?_
                    exfalso
                    have hjn : l.take j = l := List.take_of_length_le (by omega)
                    have hnn1 : ((n : Int) - 1).toNat = n - 1 := by omega
                    first | (split at hS1 <;> omega) | exact absurd (by rw [hjn]; exact hLE.1.1) ‹¬ (r.least ∈ l.take j)› | exact absurd (by rw [hjn]; exact hLE.1.2) ‹¬ (r.most ∈ l.take j)›
                · intro h54
                  refine WO.run 15 11 [(4, .bool false), (137, .bool false), (136, undef), (135, undef), (134, undef), (133, undef), (132, undef), (131, undef), (130, undef), (129, undef), (128, .bool false), (127, .bool false), (126, undef), (125, .bool false), (124, .bool false)] (by kernel_rfl) (by kernel_rfl) ?_
                  refine WO.done (by kernel_rfl) ?_
                  refine WQ.keep [0, 1, 4, 5, 6, 7, 8, 9, 10, 11, 12, 21, 30, 43, 89, 112] (e' := [(0, .int .i64 kind), (1, .slice (some ad) n c0), (4, .bool false), (5, .bool true), (6, .pointer (some ⟨g6, 0, none⟩)), (7, .int .u64 S1), (8, .int .i64 (k : Int)), (9, .int .i64 (l.getD (((n : Int) - 1).toNat) 0)), (10, .bool (decide (r.least ∈ l.take j))), (11, .bool (decide (r.most ∈ l.take j))), (12, .int .i64 (j : Int)), (21, .bool false), (30, .bool false), (43, .bool false), (89, .bool true), (112, .bool false)]) (by kernel_rfl) ?_
                  refine WQ.thenN ?_
                  refine WE.ret ?_
                  refine WQ.ret (v := .bool false) (by kernel_rfl) ?_
                  exfalso
                  have hjn : l.take j = l := List.take_of_length_le (by omega)
                  have hnn1 : ((n : Int) - 1).toNat = n - 1 := by omega
                  first | (split at hS1 <;> omega) | exact absurd (by rw [hjn]; exact hLE.1.1) ‹¬ (r.least ∈ l.take j)› | exact absurd (by rw [hjn]; exact hLE.1.2) ‹¬ (r.most ∈ l.take j)›
              · intro h53
                refine WO.run 2 12 [(109, .int .u64 S1), (108, .bool true)] (by kernel_rfl) (by kernel_rfl) ?_
                refine WO.one (SQ.F 14 (by kernel_rfl)) 110 (.bool (!decide ((S1 : Int) = 0))) (by kernel_rfl) ?_
                refine WO.topN ((S1 : Int) = 0) ?_ ?_
                · intro h57
                  refine WO.run 2 15 [(112, .bool false), (111, .bool false)] (by kernel_rfl) (by kernel_rfl) ?_
                  refine WO.done (by kernel_rfl) ?_
                  refine WQ.keep [0, 1, 4, 5, 6, 7, 8, 9, 10, 11, 12, 21, 30, 43, 89, 112] (e' := [(0, .int .i64 kind), (1, .slice (some ad) n c0), (4, .bool false), (5, .bool true), (6, .pointer (some ⟨g6, 0, none⟩)), (7, .int .u64 S1), (8, .int .i64 (k : Int)), (9, .int .i64 (l.getD (((n : Int) - 1).toNat) 0)), (10, .bool (decide (r.least ∈ l.take j))), (11, .bool (decide (r.most ∈ l.take j))), (12, .int .i64 (j : Int)), (21, .bool false), (30, .bool false), (43, .bool false), (89, .bool true), (112, .bool false)]) (by kernel_rfl) ?_
                  refine WQ.thenN ?_
                  refine WE.condF (by kernel_rfl) ?_
                  refine WE.skip ?_
                  refine WQ.thenN ?_
                  refine WE.seq ?_
                  -- R25 law.go:73
                  refine WE.region ?_
                  refine WO.run 3 0 [(115, .pointer (some ⟨g6, 2, none⟩)), (114, .bool true), (113, .bool true)] (by kernel_rfl) (by kernel_rfl) ?_
                  refine WO.ld (SQ.S 3 (by kernel_rfl)) 116 (.int .u64 r.many) (by kernel_rfl) (same (HB13.at 2 (by kernel_rfl))) ?_
                  refine WO.run 2 4 [(118, .int .i64 (n : Int)), (117, .slice (some ad) n c0)] (by kernel_rfl) (by kernel_rfl) ?_
                  refine WO.one (SQ.F 6 (by kernel_rfl)) 119 (.int .u64 (IntKind.u64.wrap (n : Int))) (by kernel_rfl) ?_
                  refine WO.top (v' := .int .u64 (n : Int)) (wrap_u64 rfl (by omega)) ?_
                  refine WO.one (SQ.F 7 (by kernel_rfl)) 120 (.bool (decide ((r.many : Int) = (n : Int)))) (by kernel_rfl) ?_
                  refine WO.topPT ((r.many : Int) = (n : Int)) (by rw [hOK.many, ← hn]) ?_
                  refine WO.run 2 8 [(122, .bool true), (121, .bool true)] (by kernel_rfl) (by kernel_rfl) ?_
                  refine WO.one (SQ.F 10 (by kernel_rfl)) 123 (.bool (decide (r.least ∈ l.take j))) (by kernel_rfl) ?_
                  refine WO.topP (r.least ∈ l.take j) ?_ ?_
                  · intro h58
                    refine WO.run 2 11 [(125, .bool true), (124, .bool true)] (by kernel_rfl) (by kernel_rfl) ?_
                    refine WO.one (SQ.F 13 (by kernel_rfl)) 126 (.bool (decide (r.most ∈ l.take j))) (by kernel_rfl) ?_
                    refine WO.topP (r.most ∈ l.take j) ?_ ?_
                    · intro h59
                      refine WO.run 3 14 [(129, .pointer (some ⟨g6, 6, none⟩)), (128, .bool true), (127, .bool true)] (by kernel_rfl) (by kernel_rfl) ?_
                      refine WO.ld (SQ.S 17 (by kernel_rfl)) 130 (.bool r.over) (by kernel_rfl) (same (HB13.at 6 (by kernel_rfl))) ?_
                      refine WO.one (SQ.F 18 (by kernel_rfl)) 131 (.bool r.over) (by kernel_rfl) ?_
                      refine WO.topB (r.over) ?_ ?_
                      · intro h60
                        refine WO.run 7 19 [(4, .bool true), (137, .bool true), (136, .bool true), (135, undef), (134, undef), (133, undef), (132, undef)] (by kernel_rfl) (by kernel_rfl) ?_
                        refine WO.done (by kernel_rfl) ?_
                        refine WQ.keep [0, 1, 4, 5, 6, 7, 8, 9, 10, 11, 12, 21, 30, 43, 89, 112] (e' := [(0, .int .i64 kind), (1, .slice (some ad) n c0), (4, .bool true), (5, .bool true), (6, .pointer (some ⟨g6, 0, none⟩)), (7, .int .u64 S1), (8, .int .i64 (k : Int)), (9, .int .i64 (l.getD (((n : Int) - 1).toNat) 0)), (10, .bool (decide (r.least ∈ l.take j))), (11, .bool (decide (r.most ∈ l.take j))), (12, .int .i64 (j : Int)), (21, .bool false), (30, .bool false), (43, .bool false), (89, .bool true), (112, .bool false)]) (by kernel_rfl) ?_
                        refine WQ.thenN ?_
                        refine WE.ret ?_
                        refine WQ.ret (v := .bool true) (by kernel_rfl) ?_
                        exact ⟨rfl, HA⟩
                      · intro h60
                        refine WO.run 1 19 [(132, .pointer (some ⟨g6, 3, none⟩))] (by kernel_rfl) (by kernel_rfl) ?_
                        refine WO.ld (SQ.S 20 (by kernel_rfl)) 133 (.int .i64 r.sum) (by kernel_rfl) (same (HB13.at 3 (by kernel_rfl))) ?_
                        refine WO.run 5 21 [(4, .bool (decide ((r.sum : Int) = (l.getD (((n : Int) - 1).toNat) 0)))), (137, .bool (decide ((r.sum : Int) = (l.getD (((n : Int) - 1).toNat) 0)))), (136, .bool (decide ((r.sum : Int) = (l.getD (((n : Int) - 1).toNat) 0)))), (135, .bool (decide ((r.sum : Int) = (l.getD (((n : Int) - 1).toNat) 0)))), (134, .int .i64 (l.getD (((n : Int) - 1).toNat) 0))] (by kernel_rfl) (by kernel_rfl) ?_
                        refine WO.done (by kernel_rfl) ?_
                        refine WQ.keep [0, 1, 4, 5, 6, 7, 8, 9, 10, 11, 12, 21, 30, 43, 89, 112] (e' := [(0, .int .i64 kind), (1, .slice (some ad) n c0), (4, .bool (decide ((r.sum : Int) = (l.getD (((n : Int) - 1).toNat) 0)))), (5, .bool true), (6, .pointer (some ⟨g6, 0, none⟩)), (7, .int .u64 S1), (8, .int .i64 (k : Int)), (9, .int .i64 (l.getD (((n : Int) - 1).toNat) 0)), (10, .bool (decide (r.least ∈ l.take j))), (11, .bool (decide (r.most ∈ l.take j))), (12, .int .i64 (j : Int)), (21, .bool false), (30, .bool false), (43, .bool false), (89, .bool true), (112, .bool false)]) (by kernel_rfl) ?_
                        refine WQ.thenN ?_
                        refine WE.ret ?_
                        refine WQ.ret (v := .bool (decide ((r.sum : Int) = (l.getD (((n : Int) - 1).toNat) 0)))) (by kernel_rfl) ?_
                        have hjn : l.take j = l := List.take_of_length_le (by omega)
                        have hnn1 : ((n : Int) - 1).toNat = n - 1 := by omega
                        have hs : (r.sum : Int) = (l.getD (((n : Int) - 1).toNat) 0) := by
                          rcases hSU with h | h
                          · rw [h60] at h; cases h
                          · rw [h, if_pos h50, hnn1]
                        exact ⟨by rw [decide_eq_true hs], HA⟩
                    · intro h59
                      refine WO.run 12 14 [(4, .bool false), (137, .bool false), (136, undef), (135, undef), (134, undef), (133, undef), (132, undef), (131, undef), (130, undef), (129, undef), (128, .bool false), (127, .bool false)] (by kernel_rfl) (by kernel_rfl) ?_
                      refine WO.done (by kernel_rfl) ?_
                      refine WQ.keep [0, 1, 4, 5, 6, 7, 8, 9, 10, 11, 12, 21, 30, 43, 89, 112] (e' := [(0, .int .i64 kind), (1, .slice (some ad) n c0), (4, .bool false), (5, .bool true), (6, .pointer (some ⟨g6, 0, none⟩)), (7, .int .u64 S1), (8, .int .i64 (k : Int)), (9, .int .i64 (l.getD (((n : Int) - 1).toNat) 0)), (10, .bool (decide (r.least ∈ l.take j))), (11, .bool (decide (r.most ∈ l.take j))), (12, .int .i64 (j : Int)), (21, .bool false), (30, .bool false), (43, .bool false), (89, .bool true), (112, .bool false)]) (by kernel_rfl) ?_
                      refine WQ.thenN ?_
                      refine WE.ret ?_
                      refine WQ.ret (v := .bool false) (by kernel_rfl) ?_
                      exfalso
                      have hjn : l.take j = l := List.take_of_length_le (by omega)
                      have hnn1 : ((n : Int) - 1).toNat = n - 1 := by omega
                      first | (split at hS1 <;> omega) | exact absurd (by rw [hjn]; exact hLE.1.1) ‹¬ (r.least ∈ l.take j)› | exact absurd (by rw [hjn]; exact hLE.1.2) ‹¬ (r.most ∈ l.take j)›
                  · intro h58
                    refine WO.run 15 11 [(4, .bool false), (137, .bool false), (136, undef), (135, undef), (134, undef), (133, undef), (132, undef), (131, undef), (130, undef), (129, undef), (128, .bool false), (127, .bool false), (126, undef), (125, .bool false), (124, .bool false)] (by kernel_rfl) (by kernel_rfl) ?_
                    refine WO.done (by kernel_rfl) ?_
                    refine WQ.keep [0, 1, 4, 5, 6, 7, 8, 9, 10, 11, 12, 21, 30, 43, 89, 112] (e' := [(0, .int .i64 kind), (1, .slice (some ad) n c0), (4, .bool false), (5, .bool true), (6, .pointer (some ⟨g6, 0, none⟩)), (7, .int .u64 S1), (8, .int .i64 (k : Int)), (9, .int .i64 (l.getD (((n : Int) - 1).toNat) 0)), (10, .bool (decide (r.least ∈ l.take j))), (11, .bool (decide (r.most ∈ l.take j))), (12, .int .i64 (j : Int)), (21, .bool false), (30, .bool false), (43, .bool false), (89, .bool true), (112, .bool false)]) (by kernel_rfl) ?_
                    refine WQ.thenN ?_
                    refine WE.ret ?_
                    refine WQ.ret (v := .bool false) (by kernel_rfl) ?_
                    exfalso
                    have hjn : l.take j = l := List.take_of_length_le (by omega)
                    have hnn1 : ((n : Int) - 1).toNat = n - 1 := by omega
                    first | (split at hS1 <;> omega) | exact absurd (by rw [hjn]; exact hLE.1.1) ‹¬ (r.least ∈ l.take j)› | exact absurd (by rw [hjn]; exact hLE.1.2) ‹¬ (r.most ∈ l.take j)›
                · intro h57
                  refine WO.run 2 15 [(112, .bool true), (111, .bool true)] (by kernel_rfl) (by kernel_rfl) ?_
                  refine WO.done (by kernel_rfl) ?_
                  refine WQ.keep [0, 1, 4, 5, 6, 7, 8, 9, 10, 11, 12, 21, 30, 43, 89, 112] (e' := [(0, .int .i64 kind), (1, .slice (some ad) n c0), (4, .bool false), (5, .bool true), (6, .pointer (some ⟨g6, 0, none⟩)), (7, .int .u64 S1), (8, .int .i64 (k : Int)), (9, .int .i64 (l.getD (((n : Int) - 1).toNat) 0)), (10, .bool (decide (r.least ∈ l.take j))), (11, .bool (decide (r.most ∈ l.take j))), (12, .int .i64 (j : Int)), (21, .bool false), (30, .bool false), (43, .bool false), (89, .bool true), (112, .bool true)]) (by kernel_rfl) ?_
                  refine WQ.thenN ?_
                  refine WE.condT (by kernel_rfl) ?_
                  refine WE.seq ?_
                  -- R24 law.go:71
                  refine WE.region ?_
                  refine WO.run 1 0 [(4, .bool false)] (by kernel_rfl) (by kernel_rfl) ?_
                  refine WO.done (by kernel_rfl) ?_
                  refine WQ.keep [0, 1, 4, 5, 6, 7, 8, 9, 10, 11, 12, 21, 30, 43, 89, 112] (e' := [(0, .int .i64 kind), (1, .slice (some ad) n c0), (4, .bool false), (5, .bool true), (6, .pointer (some ⟨g6, 0, none⟩)), (7, .int .u64 S1), (8, .int .i64 (k : Int)), (9, .int .i64 (l.getD (((n : Int) - 1).toNat) 0)), (10, .bool (decide (r.least ∈ l.take j))), (11, .bool (decide (r.most ∈ l.take j))), (12, .int .i64 (j : Int)), (21, .bool false), (30, .bool false), (43, .bool false), (89, .bool true), (112, .bool true)]) (by kernel_rfl) ?_
                  refine WQ.thenN ?_
                  refine WE.ret ?_
                  refine WQ.thenR ?_
                  refine WQ.ret (v := .bool false) (by kernel_rfl) ?_
                  exfalso
                  have hjn : l.take j = l := List.take_of_length_le (by omega)
                  have hnn1 : ((n : Int) - 1).toNat = n - 1 := by omega
                  first | (split at hS1 <;> omega) | exact absurd (by rw [hjn]; exact hLE.1.1) ‹¬ (r.least ∈ l.take j)› | exact absurd (by rw [hjn]; exact hLE.1.2) ‹¬ (r.most ∈ l.take j)›
            · intro h52
              refine WO.run 9 8 [(112, .bool true), (111, undef), (110, undef), (109, undef), (108, undef), (107, undef), (106, undef), (105, .bool true), (104, .bool true)] (by kernel_rfl) (by kernel_rfl) ?_
              refine WO.done (by kernel_rfl) ?_
              refine WQ.keep [0, 1, 4, 5, 6, 7, 8, 9, 10, 11, 12, 21, 30, 43, 89, 112] (e' := [(0, .int .i64 kind), (1, .slice (some ad) n c0), (4, .bool false), (5, .bool true), (6, .pointer (some ⟨g6, 0, none⟩)), (7, .int .u64 S1), (8, .int .i64 (k : Int)), (9, .int .i64 (l.getD (((n : Int) - 1).toNat) 0)), (10, .bool (decide (r.least ∈ l.take j))), (11, .bool (decide (r.most ∈ l.take j))), (12, .int .i64 (j : Int)), (21, .bool false), (30, .bool false), (43, .bool false), (89, .bool true), (112, .bool true)]) (by kernel_rfl) ?_
              refine WQ.thenN ?_
              refine WE.condT (by kernel_rfl) ?_
              refine WE.seq ?_
              -- R24 law.go:71
              refine WE.region ?_
              refine WO.run 1 0 [(4, .bool false)] (by kernel_rfl) (by kernel_rfl) ?_
              refine WO.done (by kernel_rfl) ?_
              refine WQ.keep [0, 1, 4, 5, 6, 7, 8, 9, 10, 11, 12, 21, 30, 43, 89, 112] (e' := [(0, .int .i64 kind), (1, .slice (some ad) n c0), (4, .bool false), (5, .bool true), (6, .pointer (some ⟨g6, 0, none⟩)), (7, .int .u64 S1), (8, .int .i64 (k : Int)), (9, .int .i64 (l.getD (((n : Int) - 1).toNat) 0)), (10, .bool (decide (r.least ∈ l.take j))), (11, .bool (decide (r.most ∈ l.take j))), (12, .int .i64 (j : Int)), (21, .bool false), (30, .bool false), (43, .bool false), (89, .bool true), (112, .bool true)]) (by kernel_rfl) ?_
              refine WQ.thenN ?_
              refine WE.ret ?_
              refine WQ.thenR ?_
              refine WQ.ret (v := .bool false) (by kernel_rfl) ?_
              exfalso
              have hjn : l.take j = l := List.take_of_length_le (by omega)
              have hnn1 : ((n : Int) - 1).toNat = n - 1 := by omega
              first | (split at hS1 <;> omega) | exact absurd (by rw [hjn]; exact hLE.1.1) ‹¬ (r.least ∈ l.take j)› | exact absurd (by rw [hjn]; exact hLE.1.2) ‹¬ (r.most ∈ l.take j)›
          · intro h51
            refine WO.run 9 2 [(106, .int .i64 kind), (105, .bool false), (104, .bool false), (103, undef), (102, undef), (101, undef), (100, undef), (99, undef), (98, .bool false)] (by kernel_rfl) (by kernel_rfl) ?_
            refine WO.one (SQ.F 11 (by kernel_rfl)) 107 (.bool (!decide ((kind : Int) = 3))) (by kernel_rfl) ?_
            refine WO.topN ((kind : Int) = 3) ?_ ?_
            · intro h61
              refine WO.run 5 12 [(112, .bool false), (111, .bool false), (110, undef), (109, undef), (108, .bool false)] (by kernel_rfl) (by kernel_rfl) ?_
              refine WO.done (by kernel_rfl) ?_
              refine WQ.keep [0, 1, 4, 5, 6, 7, 8, 9, 10, 11, 12, 21, 30, 43, 89, 112] (e' := [(0, .int .i64 kind), (1, .slice (some ad) n c0), (4, .bool false), (5, .bool true), (6, .pointer (some ⟨g6, 0, none⟩)), (7, .int .u64 S1), (8, .int .i64 (k : Int)), (9, .int .i64 (l.getD (((n : Int) - 1).toNat) 0)), (10, .bool (decide (r.least ∈ l.take j))), (11, .bool (decide (r.most ∈ l.take j))), (12, .int .i64 (j : Int)), (21, .bool false), (30, .bool false), (43, .bool false), (89, .bool true), (112, .bool false)]) (by kernel_rfl) ?_
              refine WQ.thenN ?_
              refine WE.condF (by kernel_rfl) ?_
              refine WE.skip ?_
              refine WQ.thenN ?_
              refine WE.seq ?_
              -- R25 law.go:73
              refine WE.region ?_
              refine WO.run 3 0 [(115, .pointer (some ⟨g6, 2, none⟩)), (114, .bool true), (113, .bool true)] (by kernel_rfl) (by kernel_rfl) ?_
              refine WO.ld (SQ.S 3 (by kernel_rfl)) 116 (.int .u64 r.many) (by kernel_rfl) (same (HB13.at 2 (by kernel_rfl))) ?_
              refine WO.run 2 4 [(118, .int .i64 (n : Int)), (117, .slice (some ad) n c0)] (by kernel_rfl) (by kernel_rfl) ?_
              refine WO.one (SQ.F 6 (by kernel_rfl)) 119 (.int .u64 (IntKind.u64.wrap (n : Int))) (by kernel_rfl) ?_
              refine WO.top (v' := .int .u64 (n : Int)) (wrap_u64 rfl (by omega)) ?_
              refine WO.one (SQ.F 7 (by kernel_rfl)) 120 (.bool (decide ((r.many : Int) = (n : Int)))) (by kernel_rfl) ?_
              refine WO.topPT ((r.many : Int) = (n : Int)) (by rw [hOK.many, ← hn]) ?_
              refine WO.run 2 8 [(122, .bool true), (121, .bool true)] (by kernel_rfl) (by kernel_rfl) ?_
              refine WO.one (SQ.F 10 (by kernel_rfl)) 123 (.bool (decide (r.least ∈ l.take j))) (by kernel_rfl) ?_
              refine WO.topP (r.least ∈ l.take j) ?_ ?_
              · intro h62
                refine WO.run 2 11 [(125, .bool true), (124, .bool true)] (by kernel_rfl) (by kernel_rfl) ?_
                refine WO.one (SQ.F 13 (by kernel_rfl)) 126 (.bool (decide (r.most ∈ l.take j))) (by kernel_rfl) ?_
                refine WO.topP (r.most ∈ l.take j) ?_ ?_
                · intro h63
                  refine WO.run 3 14 [(129, .pointer (some ⟨g6, 6, none⟩)), (128, .bool true), (127, .bool true)] (by kernel_rfl) (by kernel_rfl) ?_
                  refine WO.ld (SQ.S 17 (by kernel_rfl)) 130 (.bool r.over) (by kernel_rfl) (same (HB13.at 6 (by kernel_rfl))) ?_
                  refine WO.one (SQ.F 18 (by kernel_rfl)) 131 (.bool r.over) (by kernel_rfl) ?_
                  refine WO.topB (r.over) ?_ ?_
                  · intro h64
                    refine WO.run 7 19 [(4, .bool true), (137, .bool true), (136, .bool true), (135, undef), (134, undef), (133, undef), (132, undef)] (by kernel_rfl) (by kernel_rfl) ?_
                    refine WO.done (by kernel_rfl) ?_
                    refine WQ.keep [0, 1, 4, 5, 6, 7, 8, 9, 10, 11, 12, 21, 30, 43, 89, 112] (e' := [(0, .int .i64 kind), (1, .slice (some ad) n c0), (4, .bool true), (5, .bool true), (6, .pointer (some ⟨g6, 0, none⟩)), (7, .int .u64 S1), (8, .int .i64 (k : Int)), (9, .int .i64 (l.getD (((n : Int) - 1).toNat) 0)), (10, .bool (decide (r.least ∈ l.take j))), (11, .bool (decide (r.most ∈ l.take j))), (12, .int .i64 (j : Int)), (21, .bool false), (30, .bool false), (43, .bool false), (89, .bool true), (112, .bool false)]) (by kernel_rfl) ?_
                    refine WQ.thenN ?_
                    refine WE.ret ?_
                    refine WQ.ret (v := .bool true) (by kernel_rfl) ?_
                    exact ⟨rfl, HA⟩
                  · intro h64
                    refine WO.run 1 19 [(132, .pointer (some ⟨g6, 3, none⟩))] (by kernel_rfl) (by kernel_rfl) ?_
                    refine WO.ld (SQ.S 20 (by kernel_rfl)) 133 (.int .i64 r.sum) (by kernel_rfl) (same (HB13.at 3 (by kernel_rfl))) ?_
                    refine WO.run 5 21 [(4, .bool (decide ((r.sum : Int) = (l.getD (((n : Int) - 1).toNat) 0)))), (137, .bool (decide ((r.sum : Int) = (l.getD (((n : Int) - 1).toNat) 0)))), (136, .bool (decide ((r.sum : Int) = (l.getD (((n : Int) - 1).toNat) 0)))), (135, .bool (decide ((r.sum : Int) = (l.getD (((n : Int) - 1).toNat) 0)))), (134, .int .i64 (l.getD (((n : Int) - 1).toNat) 0))] (by kernel_rfl) (by kernel_rfl) ?_
                    refine WO.done (by kernel_rfl) ?_
                    refine WQ.keep [0, 1, 4, 5, 6, 7, 8, 9, 10, 11, 12, 21, 30, 43, 89, 112] (e' := [(0, .int .i64 kind), (1, .slice (some ad) n c0), (4, .bool (decide ((r.sum : Int) = (l.getD (((n : Int) - 1).toNat) 0)))), (5, .bool true), (6, .pointer (some ⟨g6, 0, none⟩)), (7, .int .u64 S1), (8, .int .i64 (k : Int)), (9, .int .i64 (l.getD (((n : Int) - 1).toNat) 0)), (10, .bool (decide (r.least ∈ l.take j))), (11, .bool (decide (r.most ∈ l.take j))), (12, .int .i64 (j : Int)), (21, .bool false), (30, .bool false), (43, .bool false), (89, .bool true), (112, .bool false)]) (by kernel_rfl) ?_
                    refine WQ.thenN ?_
                    refine WE.ret ?_
                    refine WQ.ret (v := .bool (decide ((r.sum : Int) = (l.getD (((n : Int) - 1).toNat) 0)))) (by kernel_rfl) ?_
                    have hjn : l.take j = l := List.take_of_length_le (by omega)
                    have hnn1 : ((n : Int) - 1).toNat = n - 1 := by omega
                    have hs : (r.sum : Int) = (l.getD (((n : Int) - 1).toNat) 0) := by
                      rcases hSU with h | h
                      · rw [h64] at h; cases h
                      · rw [h, if_pos h50, hnn1]
                    exact ⟨by rw [decide_eq_true hs], HA⟩
                · intro h63
                  refine WO.run 12 14 [(4, .bool false), (137, .bool false), (136, undef), (135, undef), (134, undef), (133, undef), (132, undef), (131, undef), (130, undef), (129, undef), (128, .bool false), (127, .bool false)] (by kernel_rfl) (by kernel_rfl) ?_
                  refine WO.done (by kernel_rfl) ?_
                  refine WQ.keep [0, 1, 4, 5, 6, 7, 8, 9, 10, 11, 12, 21, 30, 43, 89, 112] (e' := [(0, .int .i64 kind), (1, .slice (some ad) n c0), (4, .bool false), (5, .bool true), (6, .pointer (some ⟨g6, 0, none⟩)), (7, .int .u64 S1), (8, .int .i64 (k : Int)), (9, .int .i64 (l.getD (((n : Int) - 1).toNat) 0)), (10, .bool (decide (r.least ∈ l.take j))), (11, .bool (decide (r.most ∈ l.take j))), (12, .int .i64 (j : Int)), (21, .bool false), (30, .bool false), (43, .bool false), (89, .bool true), (112, .bool false)]) (by kernel_rfl) ?_
                  refine WQ.thenN ?_
                  refine WE.ret ?_
                  refine WQ.ret (v := .bool false) (by kernel_rfl) ?_
                  exfalso
                  have hjn : l.take j = l := List.take_of_length_le (by omega)
                  have hnn1 : ((n : Int) - 1).toNat = n - 1 := by omega
                  first | (split at hS1 <;> omega) | exact absurd (by rw [hjn]; exact hLE.1.1) ‹¬ (r.least ∈ l.take j)› | exact absurd (by rw [hjn]; exact hLE.1.2) ‹¬ (r.most ∈ l.take j)›
              · intro h62
                refine WO.run 15 11 [(4, .bool false), (137, .bool false), (136, undef), (135, undef), (134, undef), (133, undef), (132, undef), (131, undef), (130, undef), (129, undef), (128, .bool false), (127, .bool false), (126, undef), (125, .bool false), (124, .bool false)] (by kernel_rfl) (by kernel_rfl) ?_
                refine WO.done (by kernel_rfl) ?_
                refine WQ.keep [0, 1, 4, 5, 6, 7, 8, 9, 10, 11, 12, 21, 30, 43, 89, 112] (e' := [(0, .int .i64 kind), (1, .slice (some ad) n c0), (4, .bool false), (5, .bool true), (6, .pointer (some ⟨g6, 0, none⟩)), (7, .int .u64 S1), (8, .int .i64 (k : Int)), (9, .int .i64 (l.getD (((n : Int) - 1).toNat) 0)), (10, .bool (decide (r.least ∈ l.take j))), (11, .bool (decide (r.most ∈ l.take j))), (12, .int .i64 (j : Int)), (21, .bool false), (30, .bool false), (43, .bool false), (89, .bool true), (112, .bool false)]) (by kernel_rfl) ?_
                refine WQ.thenN ?_
                refine WE.ret ?_
                refine WQ.ret (v := .bool false) (by kernel_rfl) ?_
                exfalso
                have hjn : l.take j = l := List.take_of_length_le (by omega)
                have hnn1 : ((n : Int) - 1).toNat = n - 1 := by omega
                first | (split at hS1 <;> omega) | exact absurd (by rw [hjn]; exact hLE.1.1) ‹¬ (r.least ∈ l.take j)› | exact absurd (by rw [hjn]; exact hLE.1.2) ‹¬ (r.most ∈ l.take j)›
            · intro h61
              refine WO.run 2 12 [(109, .int .u64 S1), (108, .bool true)] (by kernel_rfl) (by kernel_rfl) ?_
              refine WO.one (SQ.F 14 (by kernel_rfl)) 110 (.bool (!decide ((S1 : Int) = 0))) (by kernel_rfl) ?_
              refine WO.topN ((S1 : Int) = 0) ?_ ?_
              · intro h65
                refine WO.run 2 15 [(112, .bool false), (111, .bool false)] (by kernel_rfl) (by kernel_rfl) ?_
                refine WO.done (by kernel_rfl) ?_
                refine WQ.keep [0, 1, 4, 5, 6, 7, 8, 9, 10, 11, 12, 21, 30, 43, 89, 112] (e' := [(0, .int .i64 kind), (1, .slice (some ad) n c0), (4, .bool false), (5, .bool true), (6, .pointer (some ⟨g6, 0, none⟩)), (7, .int .u64 S1), (8, .int .i64 (k : Int)), (9, .int .i64 (l.getD (((n : Int) - 1).toNat) 0)), (10, .bool (decide (r.least ∈ l.take j))), (11, .bool (decide (r.most ∈ l.take j))), (12, .int .i64 (j : Int)), (21, .bool false), (30, .bool false), (43, .bool false), (89, .bool true), (112, .bool false)]) (by kernel_rfl) ?_
                refine WQ.thenN ?_
                refine WE.condF (by kernel_rfl) ?_
                refine WE.skip ?_
                refine WQ.thenN ?_
                refine WE.seq ?_
                -- R25 law.go:73
                refine WE.region ?_
                refine WO.run 3 0 [(115, .pointer (some ⟨g6, 2, none⟩)), (114, .bool true), (113, .bool true)] (by kernel_rfl) (by kernel_rfl) ?_
                refine WO.ld (SQ.S 3 (by kernel_rfl)) 116 (.int .u64 r.many) (by kernel_rfl) (same (HB13.at 2 (by kernel_rfl))) ?_
                refine WO.run 2 4 [(118, .int .i64 (n : Int)), (117, .slice (some ad) n c0)] (by kernel_rfl) (by kernel_rfl) ?_
                refine WO.one (SQ.F 6 (by kernel_rfl)) 119 (.int .u64 (IntKind.u64.wrap (n : Int))) (by kernel_rfl) ?_
                refine WO.top (v' := .int .u64 (n : Int)) (wrap_u64 rfl (by omega)) ?_
                refine WO.one (SQ.F 7 (by kernel_rfl)) 120 (.bool (decide ((r.many : Int) = (n : Int)))) (by kernel_rfl) ?_
                refine WO.topPT ((r.many : Int) = (n : Int)) (by rw [hOK.many, ← hn]) ?_
                refine WO.run 2 8 [(122, .bool true), (121, .bool true)] (by kernel_rfl) (by kernel_rfl) ?_
                refine WO.one (SQ.F 10 (by kernel_rfl)) 123 (.bool (decide (r.least ∈ l.take j))) (by kernel_rfl) ?_
                refine WO.topP (r.least ∈ l.take j) ?_ ?_
                · intro h66
                  refine WO.run 2 11 [(125, .bool true), (124, .bool true)] (by kernel_rfl) (by kernel_rfl) ?_
                  refine WO.one (SQ.F 13 (by kernel_rfl)) 126 (.bool (decide (r.most ∈ l.take j))) (by kernel_rfl) ?_
                  refine WO.topP (r.most ∈ l.take j) ?_ ?_
                  · intro h67
                    refine WO.run 3 14 [(129, .pointer (some ⟨g6, 6, none⟩)), (128, .bool true), (127, .bool true)] (by kernel_rfl) (by kernel_rfl) ?_
                    refine WO.ld (SQ.S 17 (by kernel_rfl)) 130 (.bool r.over) (by kernel_rfl) (same (HB13.at 6 (by kernel_rfl))) ?_
                    refine WO.one (SQ.F 18 (by kernel_rfl)) 131 (.bool r.over) (by kernel_rfl) ?_
                    refine WO.topB (r.over) ?_ ?_
                    · intro h68
                      refine WO.run 7 19 [(4, .bool true), (137, .bool true), (136, .bool true), (135, undef), (134, undef), (133, undef), (132, undef)] (by kernel_rfl) (by kernel_rfl) ?_
                      refine WO.done (by kernel_rfl) ?_
                      refine WQ.keep [0, 1, 4, 5, 6, 7, 8, 9, 10, 11, 12, 21, 30, 43, 89, 112] (e' := [(0, .int .i64 kind), (1, .slice (some ad) n c0), (4, .bool true), (5, .bool true), (6, .pointer (some ⟨g6, 0, none⟩)), (7, .int .u64 S1), (8, .int .i64 (k : Int)), (9, .int .i64 (l.getD (((n : Int) - 1).toNat) 0)), (10, .bool (decide (r.least ∈ l.take j))), (11, .bool (decide (r.most ∈ l.take j))), (12, .int .i64 (j : Int)), (21, .bool false), (30, .bool false), (43, .bool false), (89, .bool true), (112, .bool false)]) (by kernel_rfl) ?_
                      refine WQ.thenN ?_
                      refine WE.ret ?_
                      refine WQ.ret (v := .bool true) (by kernel_rfl) ?_
                      exact ⟨rfl, HA⟩
                    · intro h68
                      refine WO.run 1 19 [(132, .pointer (some ⟨g6, 3, none⟩))] (by kernel_rfl) (by kernel_rfl) ?_
                      refine WO.ld (SQ.S 20 (by kernel_rfl)) 133 (.int .i64 r.sum) (by kernel_rfl) (same (HB13.at 3 (by kernel_rfl))) ?_
                      refine WO.run 5 21 [(4, .bool (decide ((r.sum : Int) = (l.getD (((n : Int) - 1).toNat) 0)))), (137, .bool (decide ((r.sum : Int) = (l.getD (((n : Int) - 1).toNat) 0)))), (136, .bool (decide ((r.sum : Int) = (l.getD (((n : Int) - 1).toNat) 0)))), (135, .bool (decide ((r.sum : Int) = (l.getD (((n : Int) - 1).toNat) 0)))), (134, .int .i64 (l.getD (((n : Int) - 1).toNat) 0))] (by kernel_rfl) (by kernel_rfl) ?_
                      refine WO.done (by kernel_rfl) ?_
                      refine WQ.keep [0, 1, 4, 5, 6, 7, 8, 9, 10, 11, 12, 21, 30, 43, 89, 112] (e' := [(0, .int .i64 kind), (1, .slice (some ad) n c0), (4, .bool (decide ((r.sum : Int) = (l.getD (((n : Int) - 1).toNat) 0)))), (5, .bool true), (6, .pointer (some ⟨g6, 0, none⟩)), (7, .int .u64 S1), (8, .int .i64 (k : Int)), (9, .int .i64 (l.getD (((n : Int) - 1).toNat) 0)), (10, .bool (decide (r.least ∈ l.take j))), (11, .bool (decide (r.most ∈ l.take j))), (12, .int .i64 (j : Int)), (21, .bool false), (30, .bool false), (43, .bool false), (89, .bool true), (112, .bool false)]) (by kernel_rfl) ?_
                      refine WQ.thenN ?_
                      refine WE.ret ?_
                      refine WQ.ret (v := .bool (decide ((r.sum : Int) = (l.getD (((n : Int) - 1).toNat) 0)))) (by kernel_rfl) ?_
                      have hjn : l.take j = l := List.take_of_length_le (by omega)
                      have hnn1 : ((n : Int) - 1).toNat = n - 1 := by omega
                      have hs : (r.sum : Int) = (l.getD (((n : Int) - 1).toNat) 0) := by
                        rcases hSU with h | h
                        · rw [h68] at h; cases h
                        · rw [h, if_pos h50, hnn1]
                      exact ⟨by rw [decide_eq_true hs], HA⟩
                  · intro h67
                    refine WO.run 12 14 [(4, .bool false), (137, .bool false), (136, undef), (135, undef), (134, undef), (133, undef), (132, undef), (131, undef), (130, undef), (129, undef), (128, .bool false), (127, .bool false)] (by kernel_rfl) (by kernel_rfl) ?_
                    refine WO.done (by kernel_rfl) ?_
                    refine WQ.keep [0, 1, 4, 5, 6, 7, 8, 9, 10, 11, 12, 21, 30, 43, 89, 112] (e' := [(0, .int .i64 kind), (1, .slice (some ad) n c0), (4, .bool false), (5, .bool true), (6, .pointer (some ⟨g6, 0, none⟩)), (7, .int .u64 S1), (8, .int .i64 (k : Int)), (9, .int .i64 (l.getD (((n : Int) - 1).toNat) 0)), (10, .bool (decide (r.least ∈ l.take j))), (11, .bool (decide (r.most ∈ l.take j))), (12, .int .i64 (j : Int)), (21, .bool false), (30, .bool false), (43, .bool false), (89, .bool true), (112, .bool false)]) (by kernel_rfl) ?_
                    refine WQ.thenN ?_
                    refine WE.ret ?_
                    refine WQ.ret (v := .bool false) (by kernel_rfl) ?_
                    exfalso
                    have hjn : l.take j = l := List.take_of_length_le (by omega)
                    have hnn1 : ((n : Int) - 1).toNat = n - 1 := by omega
                    first | (split at hS1 <;> omega) | exact absurd (by rw [hjn]; exact hLE.1.1) ‹¬ (r.least ∈ l.take j)› | exact absurd (by rw [hjn]; exact hLE.1.2) ‹¬ (r.most ∈ l.take j)›
                · intro h66
                  refine WO.run 15 11 [(4, .bool false), (137, .bool false), (136, undef), (135, undef), (134, undef), (133, undef), (132, undef), (131, undef), (130, undef), (129, undef), (128, .bool false), (127, .bool false), (126, undef), (125, .bool false), (124, .bool false)] (by kernel_rfl) (by kernel_rfl) ?_
                  refine WO.done (by kernel_rfl) ?_
                  refine WQ.keep [0, 1, 4, 5, 6, 7, 8, 9, 10, 11, 12, 21, 30, 43, 89, 112] (e' := [(0, .int .i64 kind), (1, .slice (some ad) n c0), (4, .bool false), (5, .bool true), (6, .pointer (some ⟨g6, 0, none⟩)), (7, .int .u64 S1), (8, .int .i64 (k : Int)), (9, .int .i64 (l.getD (((n : Int) - 1).toNat) 0)), (10, .bool (decide (r.least ∈ l.take j))), (11, .bool (decide (r.most ∈ l.take j))), (12, .int .i64 (j : Int)), (21, .bool false), (30, .bool false), (43, .bool false), (89, .bool true), (112, .bool false)]) (by kernel_rfl) ?_
                  refine WQ.thenN ?_
                  refine WE.ret ?_
                  refine WQ.ret (v := .bool false) (by kernel_rfl) ?_
                  exfalso
                  have hjn : l.take j = l := List.take_of_length_le (by omega)
                  have hnn1 : ((n : Int) - 1).toNat = n - 1 := by omega
                  first | (split at hS1 <;> omega) | exact absurd (by rw [hjn]; exact hLE.1.1) ‹¬ (r.least ∈ l.take j)› | exact absurd (by rw [hjn]; exact hLE.1.2) ‹¬ (r.most ∈ l.take j)›
              · intro h65
                refine WO.run 2 15 [(112, .bool true), (111, .bool true)] (by kernel_rfl) (by kernel_rfl) ?_
                refine WO.done (by kernel_rfl) ?_
                refine WQ.keep [0, 1, 4, 5, 6, 7, 8, 9, 10, 11, 12, 21, 30, 43, 89, 112] (e' := [(0, .int .i64 kind), (1, .slice (some ad) n c0), (4, .bool false), (5, .bool true), (6, .pointer (some ⟨g6, 0, none⟩)), (7, .int .u64 S1), (8, .int .i64 (k : Int)), (9, .int .i64 (l.getD (((n : Int) - 1).toNat) 0)), (10, .bool (decide (r.least ∈ l.take j))), (11, .bool (decide (r.most ∈ l.take j))), (12, .int .i64 (j : Int)), (21, .bool false), (30, .bool false), (43, .bool false), (89, .bool true), (112, .bool true)]) (by kernel_rfl) ?_
                refine WQ.thenN ?_
                refine WE.condT (by kernel_rfl) ?_
                refine WE.seq ?_
                -- R24 law.go:71
                refine WE.region ?_
                refine WO.run 1 0 [(4, .bool false)] (by kernel_rfl) (by kernel_rfl) ?_
                refine WO.done (by kernel_rfl) ?_
                refine WQ.keep [0, 1, 4, 5, 6, 7, 8, 9, 10, 11, 12, 21, 30, 43, 89, 112] (e' := [(0, .int .i64 kind), (1, .slice (some ad) n c0), (4, .bool false), (5, .bool true), (6, .pointer (some ⟨g6, 0, none⟩)), (7, .int .u64 S1), (8, .int .i64 (k : Int)), (9, .int .i64 (l.getD (((n : Int) - 1).toNat) 0)), (10, .bool (decide (r.least ∈ l.take j))), (11, .bool (decide (r.most ∈ l.take j))), (12, .int .i64 (j : Int)), (21, .bool false), (30, .bool false), (43, .bool false), (89, .bool true), (112, .bool true)]) (by kernel_rfl) ?_
                refine WQ.thenN ?_
                refine WE.ret ?_
                refine WQ.thenR ?_
                refine WQ.ret (v := .bool false) (by kernel_rfl) ?_
                exfalso
                have hjn : l.take j = l := List.take_of_length_le (by omega)
                have hnn1 : ((n : Int) - 1).toNat = n - 1 := by omega
                first | (split at hS1 <;> omega) | exact absurd (by rw [hjn]; exact hLE.1.1) ‹¬ (r.least ∈ l.take j)› | exact absurd (by rw [hjn]; exact hLE.1.2) ‹¬ (r.most ∈ l.take j)›
        · intro h50
          refine WO.done (by kernel_rfl) ?_
          refine WQ.keep [0, 1, 4, 5, 6, 7, 8, 9, 10, 11, 12, 21, 30, 43, 89] (e' := [(0, .int .i64 kind), (1, .slice (some ad) n c0), (4, .bool false), (5, .bool true), (6, .pointer (some ⟨g6, 0, none⟩)), (7, .int .u64 S1), (8, .int .i64 (k : Int)), (9, .int .i64 (wsum (l.take j))), (10, .bool (decide (r.least ∈ l.take j))), (11, .bool (decide (r.most ∈ l.take j))), (12, .int .i64 (j : Int)), (21, .bool false), (30, .bool false), (43, .bool false), (89, .bool false)]) (by kernel_rfl) ?_
          refine WQ.thenN ?_
          refine WE.condF (by kernel_rfl) ?_
          refine WE.skip ?_
          refine WQ.thenN ?_
          refine WE.seq ?_
          refine WE.seq ?_
          -- R23 law.go:70
          refine WE.region ?_
          refine WO.run 1 0 [(96, .int .i64 kind)] (by kernel_rfl) (by kernel_rfl) ?_
          refine WO.one (SQ.F 1 (by kernel_rfl)) 97 (.bool (decide ((kind : Int) = 3))) (by kernel_rfl) ?_
          refine WO.topP ((kind : Int) = 3) ?_ ?_
          · intro h69
            refine WO.run 4 2 [(101, .int .i64 (n : Int)), (100, .slice (some ad) n c0), (99, .int .u64 S1), (98, .bool true)] (by kernel_rfl) (by kernel_rfl) ?_
            refine WO.one (SQ.F 6 (by kernel_rfl)) 102 (.int .u64 (IntKind.u64.wrap (n : Int))) (by kernel_rfl) ?_
            refine WO.top (v' := .int .u64 (n : Int)) (wrap_u64 rfl (by omega)) ?_
            refine WO.one (SQ.F 7 (by kernel_rfl)) 103 (.bool (!decide ((S1 : Int) = (n : Int)))) (by kernel_rfl) ?_
            refine WO.topN ((S1 : Int) = (n : Int)) ?_ ?_
            · intro h70
              refine WO.run 3 8 [(106, .int .i64 kind), (105, .bool false), (104, .bool false)] (by kernel_rfl) (by kernel_rfl) ?_
              refine WO.one (SQ.F 11 (by kernel_rfl)) 107 (.bool (!decide ((kind : Int) = 3))) (by kernel_rfl) ?_
              refine WO.topN ((kind : Int) = 3) ?_ ?_
              · intro h71
                refine WO.run 5 12 [(112, .bool false), (111, .bool false), (110, undef), (109, undef), (108, .bool false)] (by kernel_rfl) (by kernel_rfl) ?_
                refine WO.done (by kernel_rfl) ?_
                refine WQ.keep [0, 1, 4, 5, 6, 7, 8, 9, 10, 11, 12, 21, 30, 43, 89, 112] (e' := [(0, .int .i64 kind), (1, .slice (some ad) n c0), (4, .bool false), (5, .bool true), (6, .pointer (some ⟨g6, 0, none⟩)), (7, .int .u64 S1), (8, .int .i64 (k : Int)), (9, .int .i64 (wsum (l.take j))), (10, .bool (decide (r.least ∈ l.take j))), (11, .bool (decide (r.most ∈ l.take j))), (12, .int .i64 (j : Int)), (21, .bool false), (30, .bool false), (43, .bool false), (89, .bool false), (112, .bool false)]) (by kernel_rfl) ?_
                refine WQ.thenN ?_
                refine WE.condF (by kernel_rfl) ?_
                refine WE.skip ?_
                refine WQ.thenN ?_
                refine WE.seq ?_
                -- R25 law.go:73
                refine WE.region ?_
                refine WO.run 3 0 [(115, .pointer (some ⟨g6, 2, none⟩)), (114, .bool true), (113, .bool true)] (by kernel_rfl) (by kernel_rfl) ?_
                refine WO.ld (SQ.S 3 (by kernel_rfl)) 116 (.int .u64 r.many) (by kernel_rfl) (same (HB13.at 2 (by kernel_rfl))) ?_
                refine WO.run 2 4 [(118, .int .i64 (n : Int)), (117, .slice (some ad) n c0)] (by kernel_rfl) (by kernel_rfl) ?_
                refine WO.one (SQ.F 6 (by kernel_rfl)) 119 (.int .u64 (IntKind.u64.wrap (n : Int))) (by kernel_rfl) ?_
                refine WO.top (v' := .int .u64 (n : Int)) (wrap_u64 rfl (by omega)) ?_
                refine WO.one (SQ.F 7 (by kernel_rfl)) 120 (.bool (decide ((r.many : Int) = (n : Int)))) (by kernel_rfl) ?_
                refine WO.topPT ((r.many : Int) = (n : Int)) (by rw [hOK.many, ← hn]) ?_
                refine WO.run 2 8 [(122, .bool true), (121, .bool true)] (by kernel_rfl) (by kernel_rfl) ?_
                refine WO.one (SQ.F 10 (by kernel_rfl)) 123 (.bool (decide (r.least ∈ l.take j))) (by kernel_rfl) ?_
                refine WO.topP (r.least ∈ l.take j) ?_ ?_
                · intro h72
                  refine WO.run 2 11 [(125, .bool true), (124, .bool true)] (by kernel_rfl) (by kernel_rfl) ?_
                  refine WO.one (SQ.F 13 (by kernel_rfl)) 126 (.bool (decide (r.most ∈ l.take j))) (by kernel_rfl) ?_
                  refine WO.topP (r.most ∈ l.take j) ?_ ?_
                  · intro h73
                    refine WO.run 3 14 [(129, .pointer (some ⟨g6, 6, none⟩)), (128, .bool true), (127, .bool true)] (by kernel_rfl) (by kernel_rfl) ?_
                    refine WO.ld (SQ.S 17 (by kernel_rfl)) 130 (.bool r.over) (by kernel_rfl) (same (HB13.at 6 (by kernel_rfl))) ?_
                    refine WO.one (SQ.F 18 (by kernel_rfl)) 131 (.bool r.over) (by kernel_rfl) ?_
                    refine WO.topB (r.over) ?_ ?_
                    · intro h74
                      refine WO.run 7 19 [(4, .bool true), (137, .bool true), (136, .bool true), (135, undef), (134, undef), (133, undef), (132, undef)] (by kernel_rfl) (by kernel_rfl) ?_
                      refine WO.done (by kernel_rfl) ?_
                      refine WQ.keep [0, 1, 4, 5, 6, 7, 8, 9, 10, 11, 12, 21, 30, 43, 89, 112] (e' := [(0, .int .i64 kind), (1, .slice (some ad) n c0), (4, .bool true), (5, .bool true), (6, .pointer (some ⟨g6, 0, none⟩)), (7, .int .u64 S1), (8, .int .i64 (k : Int)), (9, .int .i64 (wsum (l.take j))), (10, .bool (decide (r.least ∈ l.take j))), (11, .bool (decide (r.most ∈ l.take j))), (12, .int .i64 (j : Int)), (21, .bool false), (30, .bool false), (43, .bool false), (89, .bool false), (112, .bool false)]) (by kernel_rfl) ?_
                      refine WQ.thenN ?_
                      refine WE.ret ?_
                      refine WQ.ret (v := .bool true) (by kernel_rfl) ?_
                      exact ⟨rfl, HA⟩
                    · intro h74
                      refine WO.run 1 19 [(132, .pointer (some ⟨g6, 3, none⟩))] (by kernel_rfl) (by kernel_rfl) ?_
                      refine WO.ld (SQ.S 20 (by kernel_rfl)) 133 (.int .i64 r.sum) (by kernel_rfl) (same (HB13.at 3 (by kernel_rfl))) ?_
                      refine WO.run 5 21 [(4, .bool (decide ((r.sum : Int) = (wsum (l.take j))))), (137, .bool (decide ((r.sum : Int) = (wsum (l.take j))))), (136, .bool (decide ((r.sum : Int) = (wsum (l.take j))))), (135, .bool (decide ((r.sum : Int) = (wsum (l.take j))))), (134, .int .i64 (wsum (l.take j)))] (by kernel_rfl) (by kernel_rfl) ?_
                      refine WO.done (by kernel_rfl) ?_
                      refine WQ.keep [0, 1, 4, 5, 6, 7, 8, 9, 10, 11, 12, 21, 30, 43, 89, 112] (e' := [(0, .int .i64 kind), (1, .slice (some ad) n c0), (4, .bool (decide ((r.sum : Int) = (wsum (l.take j))))), (5, .bool true), (6, .pointer (some ⟨g6, 0, none⟩)), (7, .int .u64 S1), (8, .int .i64 (k : Int)), (9, .int .i64 (wsum (l.take j))), (10, .bool (decide (r.least ∈ l.take j))), (11, .bool (decide (r.most ∈ l.take j))), (12, .int .i64 (j : Int)), (21, .bool false), (30, .bool false), (43, .bool false), (89, .bool false), (112, .bool false)]) (by kernel_rfl) ?_
                      refine WQ.thenN ?_
                      refine WE.ret ?_
                      refine WQ.ret (v := .bool (decide ((r.sum : Int) = (wsum (l.take j))))) (by kernel_rfl) ?_
                      have hjn : l.take j = l := List.take_of_length_le (by omega)
                      have hnn1 : ((n : Int) - 1).toNat = n - 1 := by omega
                      have hs : (r.sum : Int) = (wsum (l.take j)) := by
                        rcases hSU with h | h
                        · rw [h74] at h; cases h
                        · rw [h, if_neg h50, hjn]
                      exact ⟨by rw [decide_eq_true hs], HA⟩
                  · intro h73
                    refine WO.run 12 14 [(4, .bool false), (137, .bool false), (136, undef), (135, undef), (134, undef), (133, undef), (132, undef), (131, undef), (130, undef), (129, undef), (128, .bool false), (127, .bool false)] (by kernel_rfl) (by kernel_rfl) ?_
                    refine WO.done (by kernel_rfl) ?_
                    refine WQ.keep [0, 1, 4, 5, 6, 7, 8, 9, 10, 11, 12, 21, 30, 43, 89, 112] (e' := [(0, .int .i64 kind), (1, .slice (some ad) n c0), (4, .bool false), (5, .bool true), (6, .pointer (some ⟨g6, 0, none⟩)), (7, .int .u64 S1), (8, .int .i64 (k : Int)), (9, .int .i64 (wsum (l.take j))), (10, .bool (decide (r.least ∈ l.take j))), (11, .bool (decide (r.most ∈ l.take j))), (12, .int .i64 (j : Int)), (21, .bool false), (30, .bool false), (43, .bool false), (89, .bool false), (112, .bool false)]) (by kernel_rfl) ?_
                    refine WQ.thenN ?_
                    refine WE.ret ?_
                    refine WQ.ret (v := .bool false) (by kernel_rfl) ?_
                    exfalso
                    have hjn : l.take j = l := List.take_of_length_le (by omega)
                    have hnn1 : ((n : Int) - 1).toNat = n - 1 := by omega
                    first | (split at hS1 <;> omega) | exact absurd (by rw [hjn]; exact hLE.1.1) ‹¬ (r.least ∈ l.take j)› | exact absurd (by rw [hjn]; exact hLE.1.2) ‹¬ (r.most ∈ l.take j)›
                · intro h72
                  refine WO.run 15 11 [(4, .bool false), (137, .bool false), (136, undef), (135, undef), (134, undef), (133, undef), (132, undef), (131, undef), (130, undef), (129, undef), (128, .bool false), (127, .bool false), (126, undef), (125, .bool false), (124, .bool false)] (by kernel_rfl) (by kernel_rfl) ?_
                  refine WO.done (by kernel_rfl) ?_
                  refine WQ.keep [0, 1, 4, 5, 6, 7, 8, 9, 10, 11, 12, 21, 30, 43, 89, 112] (e' := [(0, .int .i64 kind), (1, .slice (some ad) n c0), (4, .bool false), (5, .bool true), (6, .pointer (some ⟨g6, 0, none⟩)), (7, .int .u64 S1), (8, .int .i64 (k : Int)), (9, .int .i64 (wsum (l.take j))), (10, .bool (decide (r.least ∈ l.take j))), (11, .bool (decide (r.most ∈ l.take j))), (12, .int .i64 (j : Int)), (21, .bool false), (30, .bool false), (43, .bool false), (89, .bool false), (112, .bool false)]) (by kernel_rfl) ?_
                  refine WQ.thenN ?_
                  refine WE.ret ?_
                  refine WQ.ret (v := .bool false) (by kernel_rfl) ?_
                  exfalso
                  have hjn : l.take j = l := List.take_of_length_le (by omega)
                  have hnn1 : ((n : Int) - 1).toNat = n - 1 := by omega
                  first | (split at hS1 <;> omega) | exact absurd (by rw [hjn]; exact hLE.1.1) ‹¬ (r.least ∈ l.take j)› | exact absurd (by rw [hjn]; exact hLE.1.2) ‹¬ (r.most ∈ l.take j)›
              · intro h71
                refine WO.run 2 12 [(109, .int .u64 S1), (108, .bool true)] (by kernel_rfl) (by kernel_rfl) ?_
                refine WO.one (SQ.F 14 (by kernel_rfl)) 110 (.bool (!decide ((S1 : Int) = 0))) (by kernel_rfl) ?_
                refine WO.topN ((S1 : Int) = 0) ?_ ?_
                · intro h75
                  refine WO.run 2 15 [(112, .bool false), (111, .bool false)] (by kernel_rfl) (by kernel_rfl) ?_
                  refine WO.done (by kernel_rfl) ?_
                  refine WQ.keep [0, 1, 4, 5, 6, 7, 8, 9, 10, 11, 12, 21, 30, 43, 89, 112] (e' := [(0, .int .i64 kind), (1, .slice (some ad) n c0), (4, .bool false), (5, .bool true), (6, .pointer (some ⟨g6, 0, none⟩)), (7, .int .u64 S1), (8, .int .i64 (k : Int)), (9, .int .i64 (wsum (l.take j))), (10, .bool (decide (r.least ∈ l.take j))), (11, .bool (decide (r.most ∈ l.take j))), (12, .int .i64 (j : Int)), (21, .bool false), (30, .bool false), (43, .bool false), (89, .bool false), (112, .bool false)]) (by kernel_rfl) ?_
                  refine WQ.thenN ?_
                  refine WE.condF (by kernel_rfl) ?_
                  refine WE.skip ?_
                  refine WQ.thenN ?_
                  refine WE.seq ?_
                  -- R25 law.go:73
                  refine WE.region ?_
                  refine WO.run 3 0 [(115, .pointer (some ⟨g6, 2, none⟩)), (114, .bool true), (113, .bool true)] (by kernel_rfl) (by kernel_rfl) ?_
                  refine WO.ld (SQ.S 3 (by kernel_rfl)) 116 (.int .u64 r.many) (by kernel_rfl) (same (HB13.at 2 (by kernel_rfl))) ?_
                  refine WO.run 2 4 [(118, .int .i64 (n : Int)), (117, .slice (some ad) n c0)] (by kernel_rfl) (by kernel_rfl) ?_
                  refine WO.one (SQ.F 6 (by kernel_rfl)) 119 (.int .u64 (IntKind.u64.wrap (n : Int))) (by kernel_rfl) ?_
                  refine WO.top (v' := .int .u64 (n : Int)) (wrap_u64 rfl (by omega)) ?_
                  refine WO.one (SQ.F 7 (by kernel_rfl)) 120 (.bool (decide ((r.many : Int) = (n : Int)))) (by kernel_rfl) ?_
                  refine WO.topPT ((r.many : Int) = (n : Int)) (by rw [hOK.many, ← hn]) ?_
                  refine WO.run 2 8 [(122, .bool true), (121, .bool true)] (by kernel_rfl) (by kernel_rfl) ?_
                  refine WO.one (SQ.F 10 (by kernel_rfl)) 123 (.bool (decide (r.least ∈ l.take j))) (by kernel_rfl) ?_
                  refine WO.topP (r.least ∈ l.take j) ?_ ?_
                  · intro h76
                    refine WO.run 2 11 [(125, .bool true), (124, .bool true)] (by kernel_rfl) (by kernel_rfl) ?_
                    refine WO.one (SQ.F 13 (by kernel_rfl)) 126 (.bool (decide (r.most ∈ l.take j))) (by kernel_rfl) ?_
                    refine WO.topP (r.most ∈ l.take j) ?_ ?_
                    · intro h77
                      refine WO.run 3 14 [(129, .pointer (some ⟨g6, 6, none⟩)), (128, .bool true), (127, .bool true)] (by kernel_rfl) (by kernel_rfl) ?_
                      refine WO.ld (SQ.S 17 (by kernel_rfl)) 130 (.bool r.over) (by kernel_rfl) (same (HB13.at 6 (by kernel_rfl))) ?_
                      refine WO.one (SQ.F 18 (by kernel_rfl)) 131 (.bool r.over) (by kernel_rfl) ?_
                      refine WO.topB (r.over) ?_ ?_
                      · intro h78
                        refine WO.run 7 19 [(4, .bool true), (137, .bool true), (136, .bool true), (135, undef), (134, undef), (133, undef), (132, undef)] (by kernel_rfl) (by kernel_rfl) ?_
                        refine WO.done (by kernel_rfl) ?_
                        refine WQ.keep [0, 1, 4, 5, 6, 7, 8, 9, 10, 11, 12, 21, 30, 43, 89, 112] (e' := [(0, .int .i64 kind), (1, .slice (some ad) n c0), (4, .bool true), (5, .bool true), (6, .pointer (some ⟨g6, 0, none⟩)), (7, .int .u64 S1), (8, .int .i64 (k : Int)), (9, .int .i64 (wsum (l.take j))), (10, .bool (decide (r.least ∈ l.take j))), (11, .bool (decide (r.most ∈ l.take j))), (12, .int .i64 (j : Int)), (21, .bool false), (30, .bool false), (43, .bool false), (89, .bool false), (112, .bool false)]) (by kernel_rfl) ?_
                        refine WQ.thenN ?_
                        refine WE.ret ?_
                        refine WQ.ret (v := .bool true) (by kernel_rfl) ?_
                        exact ⟨rfl, HA⟩
                      · intro h78
                        refine WO.run 1 19 [(132, .pointer (some ⟨g6, 3, none⟩))] (by kernel_rfl) (by kernel_rfl) ?_
                        refine WO.ld (SQ.S 20 (by kernel_rfl)) 133 (.int .i64 r.sum) (by kernel_rfl) (same (HB13.at 3 (by kernel_rfl))) ?_
                        refine WO.run 5 21 [(4, .bool (decide ((r.sum : Int) = (wsum (l.take j))))), (137, .bool (decide ((r.sum : Int) = (wsum (l.take j))))), (136, .bool (decide ((r.sum : Int) = (wsum (l.take j))))), (135, .bool (decide ((r.sum : Int) = (wsum (l.take j))))), (134, .int .i64 (wsum (l.take j)))] (by kernel_rfl) (by kernel_rfl) ?_
                        refine WO.done (by kernel_rfl) ?_
                        refine WQ.keep [0, 1, 4, 5, 6, 7, 8, 9, 10, 11, 12, 21, 30, 43, 89, 112] (e' := [(0, .int .i64 kind), (1, .slice (some ad) n c0), (4, .bool (decide ((r.sum : Int) = (wsum (l.take j))))), (5, .bool true), (6, .pointer (some ⟨g6, 0, none⟩)), (7, .int .u64 S1), (8, .int .i64 (k : Int)), (9, .int .i64 (wsum (l.take j))), (10, .bool (decide (r.least ∈ l.take j))), (11, .bool (decide (r.most ∈ l.take j))), (12, .int .i64 (j : Int)), (21, .bool false), (30, .bool false), (43, .bool false), (89, .bool false), (112, .bool false)]) (by kernel_rfl) ?_
                        refine WQ.thenN ?_
                        refine WE.ret ?_
                        refine WQ.ret (v := .bool (decide ((r.sum : Int) = (wsum (l.take j))))) (by kernel_rfl) ?_
                        have hjn : l.take j = l := List.take_of_length_le (by omega)
                        have hnn1 : ((n : Int) - 1).toNat = n - 1 := by omega
                        have hs : (r.sum : Int) = (wsum (l.take j)) := by
                          rcases hSU with h | h
                          · rw [h78] at h; cases h
                          · rw [h, if_neg h50, hjn]
                        exact ⟨by rw [decide_eq_true hs], HA⟩
                    · intro h77
                      refine WO.run 12 14 [(4, .bool false), (137, .bool false), (136, undef), (135, undef), (134, undef), (133, undef), (132, undef), (131, undef), (130, undef), (129, undef), (128, .bool false), (127, .bool false)] (by kernel_rfl) (by kernel_rfl) ?_
                      refine WO.done (by kernel_rfl) ?_
                      refine WQ.keep [0, 1, 4, 5, 6, 7, 8, 9, 10, 11, 12, 21, 30, 43, 89, 112] (e' := [(0, .int .i64 kind), (1, .slice (some ad) n c0), (4, .bool false), (5, .bool true), (6, .pointer (some ⟨g6, 0, none⟩)), (7, .int .u64 S1), (8, .int .i64 (k : Int)), (9, .int .i64 (wsum (l.take j))), (10, .bool (decide (r.least ∈ l.take j))), (11, .bool (decide (r.most ∈ l.take j))), (12, .int .i64 (j : Int)), (21, .bool false), (30, .bool false), (43, .bool false), (89, .bool false), (112, .bool false)]) (by kernel_rfl) ?_
                      refine WQ.thenN ?_
                      refine WE.ret ?_
                      refine WQ.ret (v := .bool false) (by kernel_rfl) ?_
                      exfalso
                      have hjn : l.take j = l := List.take_of_length_le (by omega)
                      have hnn1 : ((n : Int) - 1).toNat = n - 1 := by omega
                      first | (split at hS1 <;> omega) | exact absurd (by rw [hjn]; exact hLE.1.1) ‹¬ (r.least ∈ l.take j)› | exact absurd (by rw [hjn]; exact hLE.1.2) ‹¬ (r.most ∈ l.take j)›
                  · intro h76
                    refine WO.run 15 11 [(4, .bool false), (137, .bool false), (136, undef), (135, undef), (134, undef), (133, undef), (132, undef), (131, undef), (130, undef), (129, undef), (128, .bool false), (127, .bool false), (126, undef), (125, .bool false), (124, .bool false)] (by kernel_rfl) (by kernel_rfl) ?_
                    refine WO.done (by kernel_rfl) ?_
                    refine WQ.keep [0, 1, 4, 5, 6, 7, 8, 9, 10, 11, 12, 21, 30, 43, 89, 112] (e' := [(0, .int .i64 kind), (1, .slice (some ad) n c0), (4, .bool false), (5, .bool true), (6, .pointer (some ⟨g6, 0, none⟩)), (7, .int .u64 S1), (8, .int .i64 (k : Int)), (9, .int .i64 (wsum (l.take j))), (10, .bool (decide (r.least ∈ l.take j))), (11, .bool (decide (r.most ∈ l.take j))), (12, .int .i64 (j : Int)), (21, .bool false), (30, .bool false), (43, .bool false), (89, .bool false), (112, .bool false)]) (by kernel_rfl) ?_
                    refine WQ.thenN ?_
                    refine WE.ret ?_
                    refine WQ.ret (v := .bool false) (by kernel_rfl) ?_
                    exfalso
                    have hjn : l.take j = l := List.take_of_length_le (by omega)
                    have hnn1 : ((n : Int) - 1).toNat = n - 1 := by omega
                    first | (split at hS1 <;> omega) | exact absurd (by rw [hjn]; exact hLE.1.1) ‹¬ (r.least ∈ l.take j)› | exact absurd (by rw [hjn]; exact hLE.1.2) ‹¬ (r.most ∈ l.take j)›
                · intro h75
                  refine WO.run 2 15 [(112, .bool true), (111, .bool true)] (by kernel_rfl) (by kernel_rfl) ?_
                  refine WO.done (by kernel_rfl) ?_
                  refine WQ.keep [0, 1, 4, 5, 6, 7, 8, 9, 10, 11, 12, 21, 30, 43, 89, 112] (e' := [(0, .int .i64 kind), (1, .slice (some ad) n c0), (4, .bool false), (5, .bool true), (6, .pointer (some ⟨g6, 0, none⟩)), (7, .int .u64 S1), (8, .int .i64 (k : Int)), (9, .int .i64 (wsum (l.take j))), (10, .bool (decide (r.least ∈ l.take j))), (11, .bool (decide (r.most ∈ l.take j))), (12, .int .i64 (j : Int)), (21, .bool false), (30, .bool false), (43, .bool false), (89, .bool false), (112, .bool true)]) (by kernel_rfl) ?_
                  refine WQ.thenN ?_
                  refine WE.condT (by kernel_rfl) ?_
                  refine WE.seq ?_
                  -- R24 law.go:71
                  refine WE.region ?_
                  refine WO.run 1 0 [(4, .bool false)] (by kernel_rfl) (by kernel_rfl) ?_
                  refine WO.done (by kernel_rfl) ?_
                  refine WQ.keep [0, 1, 4, 5, 6, 7, 8, 9, 10, 11, 12, 21, 30, 43, 89, 112] (e' := [(0, .int .i64 kind), (1, .slice (some ad) n c0), (4, .bool false), (5, .bool true), (6, .pointer (some ⟨g6, 0, none⟩)), (7, .int .u64 S1), (8, .int .i64 (k : Int)), (9, .int .i64 (wsum (l.take j))), (10, .bool (decide (r.least ∈ l.take j))), (11, .bool (decide (r.most ∈ l.take j))), (12, .int .i64 (j : Int)), (21, .bool false), (30, .bool false), (43, .bool false), (89, .bool false), (112, .bool true)]) (by kernel_rfl) ?_
                  refine WQ.thenN ?_
                  refine WE.ret ?_
                  refine WQ.thenR ?_
                  refine WQ.ret (v := .bool false) (by kernel_rfl) ?_
                  exfalso
                  have hjn : l.take j = l := List.take_of_length_le (by omega)
                  have hnn1 : ((n : Int) - 1).toNat = n - 1 := by omega
                  first | (split at hS1 <;> omega) | exact absurd (by rw [hjn]; exact hLE.1.1) ‹¬ (r.least ∈ l.take j)› | exact absurd (by rw [hjn]; exact hLE.1.2) ‹¬ (r.most ∈ l.take j)›
            · intro h70
              refine WO.run 9 8 [(112, .bool true), (111, undef), (110, undef), (109, undef), (108, undef), (107, undef), (106, undef), (105, .bool true), (104, .bool true)] (by kernel_rfl) (by kernel_rfl) ?_
              refine WO.done (by kernel_rfl) ?_
              refine WQ.keep [0, 1, 4, 5, 6, 7, 8, 9, 10, 11, 12, 21, 30, 43, 89, 112] (e' := [(0, .int .i64 kind), (1, .slice (some ad) n c0), (4, .bool false), (5, .bool true), (6, .pointer (some ⟨g6, 0, none⟩)), (7, .int .u64 S1), (8, .int .i64 (k : Int)), (9, .int .i64 (wsum (l.take j))), (10, .bool (decide (r.least ∈ l.take j))), (11, .bool (decide (r.most ∈ l.take j))), (12, .int .i64 (j : Int)), (21, .bool false), (30, .bool false), (43, .bool false), (89, .bool false), (112, .bool true)]) (by kernel_rfl) ?_
              refine WQ.thenN ?_
              refine WE.condT (by kernel_rfl) ?_
              refine WE.seq ?_
              -- R24 law.go:71
              refine WE.region ?_
              refine WO.run 1 0 [(4, .bool false)] (by kernel_rfl) (by kernel_rfl) ?_
              refine WO.done (by kernel_rfl) ?_
              refine WQ.keep [0, 1, 4, 5, 6, 7, 8, 9, 10, 11, 12, 21, 30, 43, 89, 112] (e' := [(0, .int .i64 kind), (1, .slice (some ad) n c0), (4, .bool false), (5, .bool true), (6, .pointer (some ⟨g6, 0, none⟩)), (7, .int .u64 S1), (8, .int .i64 (k : Int)), (9, .int .i64 (wsum (l.take j))), (10, .bool (decide (r.least ∈ l.take j))), (11, .bool (decide (r.most ∈ l.take j))), (12, .int .i64 (j : Int)), (21, .bool false), (30, .bool false), (43, .bool false), (89, .bool false), (112, .bool true)]) (by kernel_rfl) ?_
              refine WQ.thenN ?_
              refine WE.ret ?_
              refine WQ.thenR ?_
              refine WQ.ret (v := .bool false) (by kernel_rfl) ?_
              exfalso
              have hjn : l.take j = l := List.take_of_length_le (by omega)
              have hnn1 : ((n : Int) - 1).toNat = n - 1 := by omega
              first | (split at hS1 <;> omega) | exact absurd (by rw [hjn]; exact hLE.1.1) ‹¬ (r.least ∈ l.take j)› | exact absurd (by rw [hjn]; exact hLE.1.2) ‹¬ (r.most ∈ l.take j)›
          · intro h69
            refine WO.run 9 2 [(106, .int .i64 kind), (105, .bool false), (104, .bool false), (103, undef), (102, undef), (101, undef), (100, undef), (99, undef), (98, .bool false)] (by kernel_rfl) (by kernel_rfl) ?_
            refine WO.one (SQ.F 11 (by kernel_rfl)) 107 (.bool (!decide ((kind : Int) = 3))) (by kernel_rfl) ?_
            refine WO.topN ((kind : Int) = 3) ?_ ?_
            · intro h79
              refine WO.run 5 12 [(112, .bool false), (111, .bool false), (110, undef), (109, undef), (108, .bool false)] (by kernel_rfl) (by kernel_rfl) ?_
              refine WO.done (by kernel_rfl) ?_
              refine WQ.keep [0, 1, 4, 5, 6, 7, 8, 9, 10, 11, 12, 21, 30, 43, 89, 112] (e' := [(0, .int .i64 kind), (1, .slice (some ad) n c0), (4, .bool false), (5, .bool true), (6, .pointer (some ⟨g6, 0, none⟩)), (7, .int .u64 S1), (8, .int .i64 (k : Int)), (9, .int .i64 (wsum (l.take j))), (10, .bool (decide (r.least ∈ l.take j))), (11, .bool (decide (r.most ∈ l.take j))), (12, .int .i64 (j : Int)), (21, .bool false), (30, .bool false), (43, .bool false), (89, .bool false), (112, .bool false)]) (by kernel_rfl) ?_
              refine WQ.thenN ?_
              refine WE.condF (by kernel_rfl) ?_
              refine WE.skip ?_
              refine WQ.thenN ?_
              refine WE.seq ?_
              -- R25 law.go:73
              refine WE.region ?_
              refine WO.run 3 0 [(115, .pointer (some ⟨g6, 2, none⟩)), (114, .bool true), (113, .bool true)] (by kernel_rfl) (by kernel_rfl) ?_
              refine WO.ld (SQ.S 3 (by kernel_rfl)) 116 (.int .u64 r.many) (by kernel_rfl) (same (HB13.at 2 (by kernel_rfl))) ?_
              refine WO.run 2 4 [(118, .int .i64 (n : Int)), (117, .slice (some ad) n c0)] (by kernel_rfl) (by kernel_rfl) ?_
              refine WO.one (SQ.F 6 (by kernel_rfl)) 119 (.int .u64 (IntKind.u64.wrap (n : Int))) (by kernel_rfl) ?_
              refine WO.top (v' := .int .u64 (n : Int)) (wrap_u64 rfl (by omega)) ?_
              refine WO.one (SQ.F 7 (by kernel_rfl)) 120 (.bool (decide ((r.many : Int) = (n : Int)))) (by kernel_rfl) ?_
              refine WO.topPT ((r.many : Int) = (n : Int)) (by rw [hOK.many, ← hn]) ?_
              refine WO.run 2 8 [(122, .bool true), (121, .bool true)] (by kernel_rfl) (by kernel_rfl) ?_
              refine WO.one (SQ.F 10 (by kernel_rfl)) 123 (.bool (decide (r.least ∈ l.take j))) (by kernel_rfl) ?_
              refine WO.topP (r.least ∈ l.take j) ?_ ?_
              · intro h80
                refine WO.run 2 11 [(125, .bool true), (124, .bool true)] (by kernel_rfl) (by kernel_rfl) ?_
                refine WO.one (SQ.F 13 (by kernel_rfl)) 126 (.bool (decide (r.most ∈ l.take j))) (by kernel_rfl) ?_
                refine WO.topP (r.most ∈ l.take j) ?_ ?_
                · intro h81
                  refine WO.run 3 14 [(129, .pointer (some ⟨g6, 6, none⟩)), (128, .bool true), (127, .bool true)] (by kernel_rfl) (by kernel_rfl) ?_
                  refine WO.ld (SQ.S 17 (by kernel_rfl)) 130 (.bool r.over) (by kernel_rfl) (same (HB13.at 6 (by kernel_rfl))) ?_
                  refine WO.one (SQ.F 18 (by kernel_rfl)) 131 (.bool r.over) (by kernel_rfl) ?_
                  refine WO.topB (r.over) ?_ ?_
                  · intro h82
                    refine WO.run 7 19 [(4, .bool true), (137, .bool true), (136, .bool true), (135, undef), (134, undef), (133, undef), (132, undef)] (by kernel_rfl) (by kernel_rfl) ?_
                    refine WO.done (by kernel_rfl) ?_
                    refine WQ.keep [0, 1, 4, 5, 6, 7, 8, 9, 10, 11, 12, 21, 30, 43, 89, 112] (e' := [(0, .int .i64 kind), (1, .slice (some ad) n c0), (4, .bool true), (5, .bool true), (6, .pointer (some ⟨g6, 0, none⟩)), (7, .int .u64 S1), (8, .int .i64 (k : Int)), (9, .int .i64 (wsum (l.take j))), (10, .bool (decide (r.least ∈ l.take j))), (11, .bool (decide (r.most ∈ l.take j))), (12, .int .i64 (j : Int)), (21, .bool false), (30, .bool false), (43, .bool false), (89, .bool false), (112, .bool false)]) (by kernel_rfl) ?_
                    refine WQ.thenN ?_
                    refine WE.ret ?_
                    refine WQ.ret (v := .bool true) (by kernel_rfl) ?_
                    exact ⟨rfl, HA⟩
                  · intro h82
                    refine WO.run 1 19 [(132, .pointer (some ⟨g6, 3, none⟩))] (by kernel_rfl) (by kernel_rfl) ?_
                    refine WO.ld (SQ.S 20 (by kernel_rfl)) 133 (.int .i64 r.sum) (by kernel_rfl) (same (HB13.at 3 (by kernel_rfl))) ?_
                    refine WO.run 5 21 [(4, .bool (decide ((r.sum : Int) = (wsum (l.take j))))), (137, .bool (decide ((r.sum : Int) = (wsum (l.take j))))), (136, .bool (decide ((r.sum : Int) = (wsum (l.take j))))), (135, .bool (decide ((r.sum : Int) = (wsum (l.take j))))), (134, .int .i64 (wsum (l.take j)))] (by kernel_rfl) (by kernel_rfl) ?_
                    refine WO.done (by kernel_rfl) ?_
                    refine WQ.keep [0, 1, 4, 5, 6, 7, 8, 9, 10, 11, 12, 21, 30, 43, 89, 112] (e' := [(0, .int .i64 kind), (1, .slice (some ad) n c0), (4, .bool (decide ((r.sum : Int) = (wsum (l.take j))))), (5, .bool true), (6, .pointer (some ⟨g6, 0, none⟩)), (7, .int .u64 S1), (8, .int .i64 (k : Int)), (9, .int .i64 (wsum (l.take j))), (10, .bool (decide (r.least ∈ l.take j))), (11, .bool (decide (r.most ∈ l.take j))), (12, .int .i64 (j : Int)), (21, .bool false), (30, .bool false), (43, .bool false), (89, .bool false), (112, .bool false)]) (by kernel_rfl) ?_
                    refine WQ.thenN ?_
                    refine WE.ret ?_
                    refine WQ.ret (v := .bool (decide ((r.sum : Int) = (wsum (l.take j))))) (by kernel_rfl) ?_
                    have hjn : l.take j = l := List.take_of_length_le (by omega)
                    have hnn1 : ((n : Int) - 1).toNat = n - 1 := by omega
                    have hs : (r.sum : Int) = (wsum (l.take j)) := by
                      rcases hSU with h | h
                      · rw [h82] at h; cases h
                      · rw [h, if_neg h50, hjn]
                    exact ⟨by rw [decide_eq_true hs], HA⟩
                · intro h81
                  refine WO.run 12 14 [(4, .bool false), (137, .bool false), (136, undef), (135, undef), (134, undef), (133, undef), (132, undef), (131, undef), (130, undef), (129, undef), (128, .bool false), (127, .bool false)] (by kernel_rfl) (by kernel_rfl) ?_
                  refine WO.done (by kernel_rfl) ?_
                  refine WQ.keep [0, 1, 4, 5, 6, 7, 8, 9, 10, 11, 12, 21, 30, 43, 89, 112] (e' := [(0, .int .i64 kind), (1, .slice (some ad) n c0), (4, .bool false), (5, .bool true), (6, .pointer (some ⟨g6, 0, none⟩)), (7, .int .u64 S1), (8, .int .i64 (k : Int)), (9, .int .i64 (wsum (l.take j))), (10, .bool (decide (r.least ∈ l.take j))), (11, .bool (decide (r.most ∈ l.take j))), (12, .int .i64 (j : Int)), (21, .bool false), (30, .bool false), (43, .bool false), (89, .bool false), (112, .bool false)]) (by kernel_rfl) ?_
                  refine WQ.thenN ?_
                  refine WE.ret ?_
                  refine WQ.ret (v := .bool false) (by kernel_rfl) ?_
                  exfalso
                  have hjn : l.take j = l := List.take_of_length_le (by omega)
                  have hnn1 : ((n : Int) - 1).toNat = n - 1 := by omega
                  first | (split at hS1 <;> omega) | exact absurd (by rw [hjn]; exact hLE.1.1) ‹¬ (r.least ∈ l.take j)› | exact absurd (by rw [hjn]; exact hLE.1.2) ‹¬ (r.most ∈ l.take j)›
              · intro h80
                refine WO.run 15 11 [(4, .bool false), (137, .bool false), (136, undef), (135, undef), (134, undef), (133, undef), (132, undef), (131, undef), (130, undef), (129, undef), (128, .bool false), (127, .bool false), (126, undef), (125, .bool false), (124, .bool false)] (by kernel_rfl) (by kernel_rfl) ?_
                refine WO.done (by kernel_rfl) ?_
                refine WQ.keep [0, 1, 4, 5, 6, 7, 8, 9, 10, 11, 12, 21, 30, 43, 89, 112] (e' := [(0, .int .i64 kind), (1, .slice (some ad) n c0), (4, .bool false), (5, .bool true), (6, .pointer (some ⟨g6, 0, none⟩)), (7, .int .u64 S1), (8, .int .i64 (k : Int)), (9, .int .i64 (wsum (l.take j))), (10, .bool (decide (r.least ∈ l.take j))), (11, .bool (decide (r.most ∈ l.take j))), (12, .int .i64 (j : Int)), (21, .bool false), (30, .bool false), (43, .bool false), (89, .bool false), (112, .bool false)]) (by kernel_rfl) ?_
                refine WQ.thenN ?_
                refine WE.ret ?_
                refine WQ.ret (v := .bool false) (by kernel_rfl) ?_
                exfalso
                have hjn : l.take j = l := List.take_of_length_le (by omega)
                have hnn1 : ((n : Int) - 1).toNat = n - 1 := by omega
                first | (split at hS1 <;> omega) | exact absurd (by rw [hjn]; exact hLE.1.1) ‹¬ (r.least ∈ l.take j)› | exact absurd (by rw [hjn]; exact hLE.1.2) ‹¬ (r.most ∈ l.take j)›
            · intro h79
              refine WO.run 2 12 [(109, .int .u64 S1), (108, .bool true)] (by kernel_rfl) (by kernel_rfl) ?_
              refine WO.one (SQ.F 14 (by kernel_rfl)) 110 (.bool (!decide ((S1 : Int) = 0))) (by kernel_rfl) ?_
              refine WO.topN ((S1 : Int) = 0) ?_ ?_
              · intro h83
                refine WO.run 2 15 [(112, .bool false), (111, .bool false)] (by kernel_rfl) (by kernel_rfl) ?_
                refine WO.done (by kernel_rfl) ?_
                refine WQ.keep [0, 1, 4, 5, 6, 7, 8, 9, 10, 11, 12, 21, 30, 43, 89, 112] (e' := [(0, .int .i64 kind), (1, .slice (some ad) n c0), (4, .bool false), (5, .bool true), (6, .pointer (some ⟨g6, 0, none⟩)), (7, .int .u64 S1), (8, .int .i64 (k : Int)), (9, .int .i64 (wsum (l.take j))), (10, .bool (decide (r.least ∈ l.take j))), (11, .bool (decide (r.most ∈ l.take j))), (12, .int .i64 (j : Int)), (21, .bool false), (30, .bool false), (43, .bool false), (89, .bool false), (112, .bool false)]) (by kernel_rfl) ?_
                refine WQ.thenN ?_
                refine WE.condF (by kernel_rfl) ?_
                refine WE.skip ?_
                refine WQ.thenN ?_
                refine WE.seq ?_
                -- R25 law.go:73
                refine WE.region ?_
                refine WO.run 3 0 [(115, .pointer (some ⟨g6, 2, none⟩)), (114, .bool true), (113, .bool true)] (by kernel_rfl) (by kernel_rfl) ?_
                refine WO.ld (SQ.S 3 (by kernel_rfl)) 116 (.int .u64 r.many) (by kernel_rfl) (same (HB13.at 2 (by kernel_rfl))) ?_
                refine WO.run 2 4 [(118, .int .i64 (n : Int)), (117, .slice (some ad) n c0)] (by kernel_rfl) (by kernel_rfl) ?_
                refine WO.one (SQ.F 6 (by kernel_rfl)) 119 (.int .u64 (IntKind.u64.wrap (n : Int))) (by kernel_rfl) ?_
                refine WO.top (v' := .int .u64 (n : Int)) (wrap_u64 rfl (by omega)) ?_
                refine WO.one (SQ.F 7 (by kernel_rfl)) 120 (.bool (decide ((r.many : Int) = (n : Int)))) (by kernel_rfl) ?_
                refine WO.topPT ((r.many : Int) = (n : Int)) (by rw [hOK.many, ← hn]) ?_
                refine WO.run 2 8 [(122, .bool true), (121, .bool true)] (by kernel_rfl) (by kernel_rfl) ?_
                refine WO.one (SQ.F 10 (by kernel_rfl)) 123 (.bool (decide (r.least ∈ l.take j))) (by kernel_rfl) ?_
                refine WO.topP (r.least ∈ l.take j) ?_ ?_
                · intro h84
                  refine WO.run 2 11 [(125, .bool true), (124, .bool true)] (by kernel_rfl) (by kernel_rfl) ?_
                  refine WO.one (SQ.F 13 (by kernel_rfl)) 126 (.bool (decide (r.most ∈ l.take j))) (by kernel_rfl) ?_
                  refine WO.topP (r.most ∈ l.take j) ?_ ?_
                  · intro h85
                    refine WO.run 3 14 [(129, .pointer (some ⟨g6, 6, none⟩)), (128, .bool true), (127, .bool true)] (by kernel_rfl) (by kernel_rfl) ?_
                    refine WO.ld (SQ.S 17 (by kernel_rfl)) 130 (.bool r.over) (by kernel_rfl) (same (HB13.at 6 (by kernel_rfl))) ?_
                    refine WO.one (SQ.F 18 (by kernel_rfl)) 131 (.bool r.over) (by kernel_rfl) ?_
                    refine WO.topB (r.over) ?_ ?_
                    · intro h86
                      refine WO.run 7 19 [(4, .bool true), (137, .bool true), (136, .bool true), (135, undef), (134, undef), (133, undef), (132, undef)] (by kernel_rfl) (by kernel_rfl) ?_
                      refine WO.done (by kernel_rfl) ?_
                      refine WQ.keep [0, 1, 4, 5, 6, 7, 8, 9, 10, 11, 12, 21, 30, 43, 89, 112] (e' := [(0, .int .i64 kind), (1, .slice (some ad) n c0), (4, .bool true), (5, .bool true), (6, .pointer (some ⟨g6, 0, none⟩)), (7, .int .u64 S1), (8, .int .i64 (k : Int)), (9, .int .i64 (wsum (l.take j))), (10, .bool (decide (r.least ∈ l.take j))), (11, .bool (decide (r.most ∈ l.take j))), (12, .int .i64 (j : Int)), (21, .bool false), (30, .bool false), (43, .bool false), (89, .bool false), (112, .bool false)]) (by kernel_rfl) ?_
                      refine WQ.thenN ?_
                      refine WE.ret ?_
                      refine WQ.ret (v := .bool true) (by kernel_rfl) ?_
                      exact ⟨rfl, HA⟩
                    · intro h86
                      refine WO.run 1 19 [(132, .pointer (some ⟨g6, 3, none⟩))] (by kernel_rfl) (by kernel_rfl) ?_
                      refine WO.ld (SQ.S 20 (by kernel_rfl)) 133 (.int .i64 r.sum) (by kernel_rfl) (same (HB13.at 3 (by kernel_rfl))) ?_
                      refine WO.run 5 21 [(4, .bool (decide ((r.sum : Int) = (wsum (l.take j))))), (137, .bool (decide ((r.sum : Int) = (wsum (l.take j))))), (136, .bool (decide ((r.sum : Int) = (wsum (l.take j))))), (135, .bool (decide ((r.sum : Int) = (wsum (l.take j))))), (134, .int .i64 (wsum (l.take j)))] (by kernel_rfl) (by kernel_rfl) ?_
                      refine WO.done (by kernel_rfl) ?_
                      refine WQ.keep [0, 1, 4, 5, 6, 7, 8, 9, 10, 11, 12, 21, 30, 43, 89, 112] (e' := [(0, .int .i64 kind), (1, .slice (some ad) n c0), (4, .bool (decide ((r.sum : Int) = (wsum (l.take j))))), (5, .bool true), (6, .pointer (some ⟨g6, 0, none⟩)), (7, .int .u64 S1), (8, .int .i64 (k : Int)), (9, .int .i64 (wsum (l.take j))), (10, .bool (decide (r.least ∈ l.take j))), (11, .bool (decide (r.most ∈ l.take j))), (12, .int .i64 (j : Int)), (21, .bool false), (30, .bool false), (43, .bool false), (89, .bool false), (112, .bool false)]) (by kernel_rfl) ?_
                      refine WQ.thenN ?_
                      refine WE.ret ?_
                      refine WQ.ret (v := .bool (decide ((r.sum : Int) = (wsum (l.take j))))) (by kernel_rfl) ?_
                      have hjn : l.take j = l := List.take_of_length_le (by omega)
                      have hnn1 : ((n : Int) - 1).toNat = n - 1 := by omega
                      have hs : (r.sum : Int) = (wsum (l.take j)) := by
                        rcases hSU with h | h
                        · rw [h86] at h; cases h
                        · rw [h, if_neg h50, hjn]
                      exact ⟨by rw [decide_eq_true hs], HA⟩
                  · intro h85
                    refine WO.run 12 14 [(4, .bool false), (137, .bool false), (136, undef), (135, undef), (134, undef), (133, undef), (132, undef), (131, undef), (130, undef), (129, undef), (128, .bool false), (127, .bool false)] (by kernel_rfl) (by kernel_rfl) ?_
                    refine WO.done (by kernel_rfl) ?_
                    refine WQ.keep [0, 1, 4, 5, 6, 7, 8, 9, 10, 11, 12, 21, 30, 43, 89, 112] (e' := [(0, .int .i64 kind), (1, .slice (some ad) n c0), (4, .bool false), (5, .bool true), (6, .pointer (some ⟨g6, 0, none⟩)), (7, .int .u64 S1), (8, .int .i64 (k : Int)), (9, .int .i64 (wsum (l.take j))), (10, .bool (decide (r.least ∈ l.take j))), (11, .bool (decide (r.most ∈ l.take j))), (12, .int .i64 (j : Int)), (21, .bool false), (30, .bool false), (43, .bool false), (89, .bool false), (112, .bool false)]) (by kernel_rfl) ?_
                    refine WQ.thenN ?_
                    refine WE.ret ?_
                    refine WQ.ret (v := .bool false) (by kernel_rfl) ?_
                    exfalso
                    have hjn : l.take j = l := List.take_of_length_le (by omega)
                    have hnn1 : ((n : Int) - 1).toNat = n - 1 := by omega
                    first | (split at hS1 <;> omega) | exact absurd (by rw [hjn]; exact hLE.1.1) ‹¬ (r.least ∈ l.take j)› | exact absurd (by rw [hjn]; exact hLE.1.2) ‹¬ (r.most ∈ l.take j)›
                · intro h84
                  refine WO.run 15 11 [(4, .bool false), (137, .bool false), (136, undef), (135, undef), (134, undef), (133, undef), (132, undef), (131, undef), (130, undef), (129, undef), (128, .bool false), (127, .bool false), (126, undef), (125, .bool false), (124, .bool false)] (by kernel_rfl) (by kernel_rfl) ?_
                  refine WO.done (by kernel_rfl) ?_
                  refine WQ.keep [0, 1, 4, 5, 6, 7, 8, 9, 10, 11, 12, 21, 30, 43, 89, 112] (e' := [(0, .int .i64 kind), (1, .slice (some ad) n c0), (4, .bool false), (5, .bool true), (6, .pointer (some ⟨g6, 0, none⟩)), (7, .int .u64 S1), (8, .int .i64 (k : Int)), (9, .int .i64 (wsum (l.take j))), (10, .bool (decide (r.least ∈ l.take j))), (11, .bool (decide (r.most ∈ l.take j))), (12, .int .i64 (j : Int)), (21, .bool false), (30, .bool false), (43, .bool false), (89, .bool false), (112, .bool false)]) (by kernel_rfl) ?_
                  refine WQ.thenN ?_
                  refine WE.ret ?_
                  refine WQ.ret (v := .bool false) (by kernel_rfl) ?_
                  exfalso
                  have hjn : l.take j = l := List.take_of_length_le (by omega)
                  have hnn1 : ((n : Int) - 1).toNat = n - 1 := by omega
                  first | (split at hS1 <;> omega) | exact absurd (by rw [hjn]; exact hLE.1.1) ‹¬ (r.least ∈ l.take j)› | exact absurd (by rw [hjn]; exact hLE.1.2) ‹¬ (r.most ∈ l.take j)›
              · intro h83
                refine WO.run 2 15 [(112, .bool true), (111, .bool true)] (by kernel_rfl) (by kernel_rfl) ?_
                refine WO.done (by kernel_rfl) ?_
                refine WQ.keep [0, 1, 4, 5, 6, 7, 8, 9, 10, 11, 12, 21, 30, 43, 89, 112] (e' := [(0, .int .i64 kind), (1, .slice (some ad) n c0), (4, .bool false), (5, .bool true), (6, .pointer (some ⟨g6, 0, none⟩)), (7, .int .u64 S1), (8, .int .i64 (k : Int)), (9, .int .i64 (wsum (l.take j))), (10, .bool (decide (r.least ∈ l.take j))), (11, .bool (decide (r.most ∈ l.take j))), (12, .int .i64 (j : Int)), (21, .bool false), (30, .bool false), (43, .bool false), (89, .bool false), (112, .bool true)]) (by kernel_rfl) ?_
                refine WQ.thenN ?_
                refine WE.condT (by kernel_rfl) ?_
                refine WE.seq ?_
                -- R24 law.go:71
                refine WE.region ?_
                refine WO.run 1 0 [(4, .bool false)] (by kernel_rfl) (by kernel_rfl) ?_
                refine WO.done (by kernel_rfl) ?_
                refine WQ.keep [0, 1, 4, 5, 6, 7, 8, 9, 10, 11, 12, 21, 30, 43, 89, 112] (e' := [(0, .int .i64 kind), (1, .slice (some ad) n c0), (4, .bool false), (5, .bool true), (6, .pointer (some ⟨g6, 0, none⟩)), (7, .int .u64 S1), (8, .int .i64 (k : Int)), (9, .int .i64 (wsum (l.take j))), (10, .bool (decide (r.least ∈ l.take j))), (11, .bool (decide (r.most ∈ l.take j))), (12, .int .i64 (j : Int)), (21, .bool false), (30, .bool false), (43, .bool false), (89, .bool false), (112, .bool true)]) (by kernel_rfl) ?_
                refine WQ.thenN ?_
                refine WE.ret ?_
                refine WQ.thenR ?_
                refine WQ.ret (v := .bool false) (by kernel_rfl) ?_
                exfalso
                have hjn : l.take j = l := List.take_of_length_le (by omega)
                have hnn1 : ((n : Int) - 1).toNat = n - 1 := by omega
                first | (split at hS1 <;> omega) | exact absurd (by rw [hjn]; exact hLE.1.1) ‹¬ (r.least ∈ l.take j)› | exact absurd (by rw [hjn]; exact hLE.1.2) ‹¬ (r.most ∈ l.take j)›

theorem whole_any (A : Option Addr) (c0 : Nat) (kind : Int) (l : List Int) (w : World) (hI : ∀ x ∈ l, I64 x) (hr : Kd.C (Kd.int .i64) w A l.length l) (hcap : l.length ≤ c0) :
    Calls Try.prog 6 #[.int .i64 kind, .slice A l.length c0] w fun e w' => e = .returned (.bool true) ∧ Below w.heap.size w w' := by
  by_cases h : l.length ≤ 200
  · rcases Nat.eq_zero_or_pos l.length with h0 | h0
    · have hl : l = [] := List.length_eq_zero_iff.1 h0
      subst hl
      exact (whole_none A 0 c0 kind w).mono fun e w' ⟨h1, h2⟩ => ⟨h1, h2.below0⟩
    · rcases Lists.C_ints hr with rfl | ⟨ad, rfl, hc2⟩
      · simp at h0
      · exact (whole_some ad l.length c0 kind l _ w rfl rfl h0 h hI hr hc2 hcap).mono fun e w' ⟨h1, h2⟩ => ⟨h1, h2.below0⟩
  · exact (whole_long A l.length c0 kind w (by omega)).mono fun e w' ⟨h1, h2⟩ => ⟨h1, h2.below0⟩
end Go.Proofs.Ytjnjkgoofkgiiaa.Tally
