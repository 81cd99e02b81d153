/- Layer 2's walks: the least and the most. -/
import Derived.Test.YtjnjkgoofkgiiaaEdgeLaws
import Derived.Test.YtjnjkgoofkgiiaaOpens
set_option linter.unusedVariables false
set_option linter.unusedSimpArgs false
namespace Go.Proofs.Ytjnjkgoofkgiiaa.Edge
open Go Go.RowKit Go.Proofs.Ytjnjkgoofkgiiaa Go.Proofs.Ytjnjkgoofkgiiaa.Eng Go.Proofs.YtjnjkgoofkgiiaaW.PrintWords
/-- a slice reads as a list of floats -/
def Rd (w : World) (A : Option Addr) (l : List Nat) : Prop := ∀ k, k < l.length → ∃ ad, A = some ad ∧ w.cell? (ad.add k) = some (.float .f64 (g0 l k))
theorem Rd.keep {w w1 : World} {A : Option Addr} {l : List Nat} (h : Rd w A l) (k : Fr [] w w1) : Rd w1 A l := fun i hi => by
  obtain ⟨ad, h1, h2⟩ := h i hi
  exact ⟨ad, h1, k.cell0 h2⟩
def bs (lt : Nat → Nat → Bool) (p : Nat × Bool) (x : Nat) : Nat × Bool := if nanB x then p else if !p.2 || lt x p.1 then (x, true) else p
def best (lt : Nat → Nat → Bool) (l : List Nat) : Nat → Nat × Bool
  | 0 => (0, false)
  | k + 1 => bs lt (best lt l k) (g0 l k)
theorem all_g0 {l : List Nat} (h : All l) (k : Nat) : g0 l k < 18446744073709551616 := by
  by_cases hk : k < l.length
  · exact h k hk
  · unfold g0
    rw [List.getD_eq_getElem?_getD, List.getElem?_eq_none (by omega)]
    decide
theorem best_lt (lt : Nat → Nat → Bool) {l : List Nat} (h : All l) : ∀ k, (best lt l k).1 < 18446744073709551616
  | 0 => by show (0 : Nat) < _; decide
  | k + 1 => by
    have ih := best_lt lt h k
    rw [best, bs]
    split
    · exact ih
    · split
      · exact all_g0 h k
      · exact ih
def KF : Kd Nat := Kd.scalar (Value.float .f64) (fun _ => rfl)
theorem opens_float {P : Program} {t : TypeId} (ht : P.underlying t = some (.float .f64)) : Opens.Opens P KF (fun x => (Lit.float .f64 x).wf = true) t := by
  intro H enc W base spare held fuel cs x h
  cases fuel with
  | zero => simp [DataW.trod] at h
  | succ n =>
    unfold DataW.trod at h
    rw [ht] at h
    split at h <;> simp_all [KF, Kd.scalar]
theorem rd_of {w : World} {A : Option Addr} {l : List Nat} (h : Kd.C KF w A l.length l) : Rd w A l := by
  intro k hk
  obtain ⟨_, _, h3⟩ := h
  obtain ⟨ad, e, hc⟩ := h3 (by omega)
  obtain ⟨cs, _, hkk, hcell⟩ := hc k (g0 l k) (by simp [g0, hk])
  obtain rfl : cs = [.float .f64 (g0 l k)] := hkk
  have := hcell 0 _ rfl
  rw [show k * KF.sz + 0 = k from Nat.mul_one k] at this
  exact ⟨ad, e, this⟩
theorem all_of {l : List Nat} (h : ∀ x ∈ l, (Lit.float .f64 x).wf = true) : All l := fun k hk => bits_f64 (h _ (by
  have : g0 l k = l[k] := by simp [g0, hk]
  rw [this]
  exact List.getElem_mem hk))
set_option maxRecDepth 100000 in
set_option maxHeartbeats 400000 in
theorem most_f (x y : Nat) (w : World) (hx : x < 18446744073709551616) (hy : y < 18446744073709551616) :
    Calls Try.prog 54 #[.float .f64 x, .float .f64 y] w fun e w' => e = .returned (.bool (lessB y x)) ∧ Fr [] w w' := by
  have HA := Fr.refl [] w
  refine enter (N := 8) Try.func54 (c := _) rfl (by kernel_rfl) (by kernel_rfl) (e := [(0, .float .f64 x), (1, .float .f64 y)]) (by kernel_rfl) ?_
  refine WE.seq ?_
  -- R0 edge.go:44
  refine WE.region ?_
  refine WO.run 1 0 [(4, .bool false)] (by kernel_rfl) (by kernel_rfl) ?_
  refine WO.done (by kernel_rfl) ?_
  refine WQ.keep [0, 1, 4] (e' := [(0, .float .f64 x), (1, .float .f64 y), (4, .bool false)]) (by kernel_rfl) ?_
  refine WQ.thenN ?_
  refine WE.seq ?_
  -- R1 edge.go:44
  refine WE.region ?_
  refine WO.run 2 0 [(6, .float .f64 x), (5, .float .f64 y)] (by kernel_rfl) (by kernel_rfl) ?_
  refine WO.call (SQ.E 2 (by kernel_rfl)) 7 (by kernel_rfl) ((fun w_ => less_f y x w_ hy hx) _) ?_
  rintro _ w1 ⟨rfl, F2⟩
  refine ⟨_, rfl, trivial, ?_⟩
  have HA := Fr.step0 HA F2
  refine WO.run 1 3 [(4, .bool (lessB y x))] (by kernel_rfl) (by kernel_rfl) ?_
  refine WO.done (by kernel_rfl) ?_
  refine WQ.keep [0, 1, 4] (e' := [(0, .float .f64 x), (1, .float .f64 y), (4, .bool (lessB y x))]) (by kernel_rfl) ?_
  refine WQ.thenN ?_
  refine WE.ret ?_
  refine WQ.ret (v := .bool (lessB y x)) (by kernel_rfl) ?_
  exact ⟨rfl, HA⟩

set_option maxRecDepth 100000 in
set_option maxHeartbeats 400000 in
theorem best_least (A : Option Addr) (n cap : Nat) (l : List Nat) (w : World) (hn : l.length = n) (hm : n ≤ 1000000) (hall : All l) (hrd : Rd w A l) :
    Calls Try.prog 53 #[.slice A n cap, .func (.func 24) #[] #[]] w fun e w' => e = .returned (.tuple #[.float .f64 (best lessB l n).1, .bool (best lessB l n).2]) ∧ Fr [] w w' := by
  have HA := Fr.refl [] w
  refine enter (N := 33) Try.func53 (c := _) rfl (by kernel_rfl) (by kernel_rfl) (e := [(0, .slice A n cap), (1, .func (.func 24) #[] #[])]) (by kernel_rfl) ?_
  refine WE.seq ?_
  -- R0 edge.go:28
  refine WE.region ?_
  refine WO.run 2 0 [(5, .bool false), (4, .float .f64 0)] (by kernel_rfl) (by kernel_rfl) ?_
  refine WO.done (by kernel_rfl) ?_
  refine WQ.keep [0, 1, 4, 5] (e' := [(0, .slice A n cap), (1, .func (.func 24) #[] #[]), (4, .float .f64 0), (5, .bool false)]) (by kernel_rfl) ?_
  refine WQ.thenN ?_
  refine WE.seq ?_
  -- R1 edge.go:29
  refine WE.region ?_
  refine WO.run 1 0 [(6, .float .f64 0)] (by kernel_rfl) (by kernel_rfl) ?_
  refine WO.done (by kernel_rfl) ?_
  refine WQ.keep [0, 1, 4, 5, 6] (e' := [(0, .slice A n cap), (1, .func (.func 24) #[] #[]), (4, .float .f64 0), (5, .bool false), (6, .float .f64 0)]) (by kernel_rfl) ?_
  refine WQ.thenN ?_
  refine WE.seq ?_
  -- R2 edge.go:30
  refine WE.region ?_
  refine WO.run 1 0 [(7, .bool false)] (by kernel_rfl) (by kernel_rfl) ?_
  refine WO.done (by kernel_rfl) ?_
  refine WQ.keep [0, 1, 4, 5, 6, 7] (e' := [(0, .slice A n cap), (1, .func (.func 24) #[] #[]), (4, .float .f64 0), (5, .bool false), (6, .float .f64 0), (7, .bool false)]) (by kernel_rfl) ?_
  refine WQ.thenN ?_
  refine WE.seq ?_
  refine WE.seq ?_
  -- R3 edge.go:31
  refine WE.region ?_
  refine WO.run 3 0 [(12, .int .i64 0), (11, .int .i64 (n : Int)), (10, .slice A n cap)] (by kernel_rfl) (by kernel_rfl) ?_
  refine WO.done (by kernel_rfl) ?_
  refine WQ.keep [0, 1, 4, 5, 6, 7, 10, 11, 12] (e' := [(0, .slice A n cap), (1, .func (.func 24) #[] #[]), (4, .float .f64 0), (5, .bool false), (6, .float .f64 0), (7, .bool false), (10, .slice A n cap), (11, .int .i64 (n : Int)), (12, .int .i64 0)]) (by kernel_rfl) ?_
  refine WQ.thenN ?_
  refine WE.block ?_
  refine WE.loop (α := Nat × Nat × Bool) (E := fun z => [(1, .func (.func 24) #[] #[]), (6, .float .f64 z.2.1), (7, .bool z.2.2), (10, .slice A n cap), (11, .int .i64 (n : Int)), (12, .int .i64 (z.1 : Int))]) (I := fun z wr => z.1 ≤ n ∧ (z.2.1, z.2.2) = best lessB l z.1 ∧ z.2.1 < 18446744073709551616 ∧ Fr [] w wr) (m := fun z => n - z.1) (0, 0, false) [1, 6, 7, 10, 11, 12] (by kernel_rfl) ?_ ?_
  · exact ⟨Nat.zero_le _, rfl, by decide, HA⟩
  rintro ⟨k, m, ok⟩ wr ⟨hk, hb, hmb, HA⟩
  dsimp only at hk hb hmb
  refine WE.seq ?_
  -- R4 edge.go:31
  refine WE.region ?_
  refine WO.one (SQ.F 0 (by kernel_rfl)) 13 (.bool (decide (((k : Int) : Int) < (n : Int)))) (by kernel_rfl) ?_
  refine WO.topP (((k : Int) : Int) < (n : Int)) ?_ ?_
  · intro h1
    refine WO.done (by kernel_rfl) ?_
    refine WQ.keep [1, 6, 7, 10, 11, 12, 13] (e' := [(1, .func (.func 24) #[] #[]), (6, .float .f64 m), (7, .bool ok), (10, .slice A n cap), (11, .int .i64 (n : Int)), (12, .int .i64 (k : Int)), (13, .bool true)]) (by kernel_rfl) ?_
    refine WQ.thenN ?_
    refine WE.seq ?_
    refine WE.condT (by kernel_rfl) ?_
    refine WE.skip ?_
    refine WQ.thenN ?_
    refine WE.seq ?_
    refine WE.block ?_
    refine WE.seq ?_
    -- R5 edge.go:31
    refine WE.region ?_
    obtain ⟨ad_l, hA_l, hcl_l⟩ := hrd k (by omega)
    subst hA_l
    refine WO.ix (SQ.F 0 (by kernel_rfl)) 14 (ad_l.add k) ad_l n 1 (k : Int) (by kernel_rfl) (by omega) (by omega) (by congr 1 <;> omega) ?_
    refine WO.ld (SQ.S 1 (by kernel_rfl)) 15 (.float .f64 (g0 l k)) (by kernel_rfl) (same (HA.cell0 hcl_l)) ?_
    refine WO.run 1 2 [(9, .float .f64 (g0 l k))] (by kernel_rfl) (by kernel_rfl) ?_
    refine WO.done (by kernel_rfl) ?_
    refine WQ.keep [1, 6, 7, 9, 10, 11, 12, 13] (e' := [(1, .func (.func 24) #[] #[]), (6, .float .f64 m), (7, .bool ok), (9, .float .f64 (g0 l k)), (10, .slice (some ad_l) n cap), (11, .int .i64 (n : Int)), (12, .int .i64 (k : Int)), (13, .bool true)]) (by kernel_rfl) ?_
    refine WQ.thenN ?_
    refine WE.seq ?_
    -- R6 edge.go:32
    refine WE.region ?_
    refine WO.run 1 0 [(16, .float .f64 (g0 l k))] (by kernel_rfl) (by kernel_rfl) ?_
    refine WO.call (SQ.E 1 (by kernel_rfl)) 17 (by kernel_rfl) (isnan_f (g0 l k) _) ?_
    rintro _ w2 ⟨rfl, F3⟩
    refine ⟨_, rfl, trivial, ?_⟩
    have HA := Fr.step0 HA F3
    refine WO.topB (nanB (g0 l k)) ?_ ?_
    · intro h4
      refine WO.run 11 2 [(28, .bool false), (27, undef), (26, undef), (25, undef), (24, undef), (23, undef), (22, undef), (21, undef), (20, undef), (19, .bool false), (18, .bool false)] (by kernel_rfl) (by kernel_rfl) ?_
      refine WO.done (by kernel_rfl) ?_
      refine WQ.keep [1, 6, 7, 9, 10, 11, 12, 13, 28] (e' := [(1, .func (.func 24) #[] #[]), (6, .float .f64 m), (7, .bool ok), (9, .float .f64 (g0 l k)), (10, .slice (some ad_l) n cap), (11, .int .i64 (n : Int)), (12, .int .i64 (k : Int)), (13, .bool true), (28, .bool false)]) (by kernel_rfl) ?_
      refine WQ.thenN ?_
      refine WE.condF (by kernel_rfl) ?_
      refine WE.skip ?_
      refine WQ.blkN ?_
      refine WQ.thenN ?_
      -- R8 edge.go:31
      refine WE.region ?_
      refine WO.one (SQ.F 0 (by kernel_rfl)) 30 (.int .i64 (IntKind.i64.wrap ((k : Int) + 1))) (by kernel_rfl) ?_
      refine WO.top (v' := .int .i64 ((k + 1 : Nat) : Int)) (wrap_i64 (by omega) (by omega)) ?_
      refine WO.run 1 1 [(12, .int .i64 ((k + 1 : Nat) : Int))] (by kernel_rfl) (by kernel_rfl) ?_
      refine WO.done (by kernel_rfl) ?_
      refine WQ.keep [1, 6, 7, 9, 10, 11, 12, 13, 28] (e' := [(1, .func (.func 24) #[] #[]), (6, .float .f64 m), (7, .bool ok), (9, .float .f64 (g0 l k)), (10, .slice (some ad_l) n cap), (11, .int .i64 (n : Int)), (12, .int .i64 ((k + 1 : Nat) : Int)), (13, .bool true), (28, .bool false)]) (by kernel_rfl) ?_
      refine WQ.round ?_
      intro a_ ha_
      refine ⟨(k + 1, m, ok), ?_, ha_.keep [1, 6, 7, 10, 11, 12] (by kernel_rfl), ?_⟩
      · show n - (k + 1) < n - k; omega
      · exact ⟨by show k + 1 ≤ n; omega, by show _ = bs lessB (best lessB l k) (g0 l k); rw [← hb]; simp [bs, h4], hmb, HA⟩
    · intro h4
      refine WO.run 2 2 [(19, .bool true), (18, .bool true)] (by kernel_rfl) (by kernel_rfl) ?_
      refine WO.one (SQ.F 4 (by kernel_rfl)) 20 (.bool ok) (by kernel_rfl) ?_
      refine WO.topB (ok) ?_ ?_
      · intro h5
        refine WO.run 5 5 [(25, .float .f64 m), (24, .float .f64 (g0 l k)), (23, .func (.func 24) #[] #[]), (22, .bool false), (21, .bool false)] (by kernel_rfl) (by kernel_rfl) ?_
        refine WO.call (SQ.E 10 (by kernel_rfl)) 26 (by kernel_rfl) (less_f (g0 l k) m _ (hall k (by omega)) hmb) ?_
        rintro _ w6 ⟨rfl, F7⟩
        refine ⟨_, rfl, trivial, ?_⟩
        have HA := Fr.step0 HA F7
        refine WO.topB (lessB (g0 l k) m) ?_ ?_
        · intro h8
          refine WO.run 2 11 [(28, .bool true), (27, .bool true)] (by kernel_rfl) (by kernel_rfl) ?_
          refine WO.done (by kernel_rfl) ?_
          refine WQ.keep [1, 6, 7, 9, 10, 11, 12, 13, 28] (e' := [(1, .func (.func 24) #[] #[]), (6, .float .f64 m), (7, .bool ok), (9, .float .f64 (g0 l k)), (10, .slice (some ad_l) n cap), (11, .int .i64 (n : Int)), (12, .int .i64 (k : Int)), (13, .bool true), (28, .bool true)]) (by kernel_rfl) ?_
          refine WQ.thenN ?_
          refine WE.condT (by kernel_rfl) ?_
          -- R7 edge.go:33
          refine WE.region ?_
          refine WO.run 3 0 [(7, .bool true), (6, .float .f64 (g0 l k)), (29, .float .f64 (g0 l k))] (by kernel_rfl) (by kernel_rfl) ?_
          refine WO.done (by kernel_rfl) ?_
          refine WQ.keep [1, 6, 7, 9, 10, 11, 12, 13, 28] (e' := [(1, .func (.func 24) #[] #[]), (6, .float .f64 (g0 l k)), (7, .bool true), (9, .float .f64 (g0 l k)), (10, .slice (some ad_l) n cap), (11, .int .i64 (n : Int)), (12, .int .i64 (k : Int)), (13, .bool true), (28, .bool true)]) (by kernel_rfl) ?_
          refine WQ.blkN ?_
          refine WQ.thenN ?_
          -- R8 edge.go:31
          refine WE.region ?_
          refine WO.one (SQ.F 0 (by kernel_rfl)) 30 (.int .i64 (IntKind.i64.wrap ((k : Int) + 1))) (by kernel_rfl) ?_
          refine WO.top (v' := .int .i64 ((k + 1 : Nat) : Int)) (wrap_i64 (by omega) (by omega)) ?_
          refine WO.run 1 1 [(12, .int .i64 ((k + 1 : Nat) : Int))] (by kernel_rfl) (by kernel_rfl) ?_
          refine WO.done (by kernel_rfl) ?_
          refine WQ.keep [1, 6, 7, 9, 10, 11, 12, 13, 28] (e' := [(1, .func (.func 24) #[] #[]), (6, .float .f64 (g0 l k)), (7, .bool true), (9, .float .f64 (g0 l k)), (10, .slice (some ad_l) n cap), (11, .int .i64 (n : Int)), (12, .int .i64 ((k + 1 : Nat) : Int)), (13, .bool true), (28, .bool true)]) (by kernel_rfl) ?_
          refine WQ.round ?_
          intro a_ ha_
          refine ⟨(k + 1, g0 l k, true), ?_, ha_.keep [1, 6, 7, 10, 11, 12] (by kernel_rfl), ?_⟩
          · show n - (k + 1) < n - k; omega
          · exact ⟨by show k + 1 ≤ n; omega, by show _ = bs lessB (best lessB l k) (g0 l k); rw [← hb]; simp [bs, h4, h5, h8], hall k (by omega), HA⟩
        · intro h8
          refine WO.run 2 11 [(28, .bool false), (27, .bool false)] (by kernel_rfl) (by kernel_rfl) ?_
          refine WO.done (by kernel_rfl) ?_
          refine WQ.keep [1, 6, 7, 9, 10, 11, 12, 13, 28] (e' := [(1, .func (.func 24) #[] #[]), (6, .float .f64 m), (7, .bool ok), (9, .float .f64 (g0 l k)), (10, .slice (some ad_l) n cap), (11, .int .i64 (n : Int)), (12, .int .i64 (k : Int)), (13, .bool true), (28, .bool false)]) (by kernel_rfl) ?_
          refine WQ.thenN ?_
          refine WE.condF (by kernel_rfl) ?_
          refine WE.skip ?_
          refine WQ.blkN ?_
          refine WQ.thenN ?_
          -- R8 edge.go:31
          refine WE.region ?_
          refine WO.one (SQ.F 0 (by kernel_rfl)) 30 (.int .i64 (IntKind.i64.wrap ((k : Int) + 1))) (by kernel_rfl) ?_
          refine WO.top (v' := .int .i64 ((k + 1 : Nat) : Int)) (wrap_i64 (by omega) (by omega)) ?_
          refine WO.run 1 1 [(12, .int .i64 ((k + 1 : Nat) : Int))] (by kernel_rfl) (by kernel_rfl) ?_
          refine WO.done (by kernel_rfl) ?_
          refine WQ.keep [1, 6, 7, 9, 10, 11, 12, 13, 28] (e' := [(1, .func (.func 24) #[] #[]), (6, .float .f64 m), (7, .bool ok), (9, .float .f64 (g0 l k)), (10, .slice (some ad_l) n cap), (11, .int .i64 (n : Int)), (12, .int .i64 ((k + 1 : Nat) : Int)), (13, .bool true), (28, .bool false)]) (by kernel_rfl) ?_
          refine WQ.round ?_
          intro a_ ha_
          refine ⟨(k + 1, m, ok), ?_, ha_.keep [1, 6, 7, 10, 11, 12] (by kernel_rfl), ?_⟩
          · show n - (k + 1) < n - k; omega
          · exact ⟨by show k + 1 ≤ n; omega, by show _ = bs lessB (best lessB l k) (g0 l k); rw [← hb]; simp [bs, h4, h5, h8], hmb, HA⟩
      · intro h5
        refine WO.run 8 5 [(28, .bool true), (27, .bool true), (26, undef), (25, undef), (24, undef), (23, undef), (22, .bool true), (21, .bool true)] (by kernel_rfl) (by kernel_rfl) ?_
        refine WO.done (by kernel_rfl) ?_
        refine WQ.keep [1, 6, 7, 9, 10, 11, 12, 13, 28] (e' := [(1, .func (.func 24) #[] #[]), (6, .float .f64 m), (7, .bool ok), (9, .float .f64 (g0 l k)), (10, .slice (some ad_l) n cap), (11, .int .i64 (n : Int)), (12, .int .i64 (k : Int)), (13, .bool true), (28, .bool true)]) (by kernel_rfl) ?_
        refine WQ.thenN ?_
        refine WE.condT (by kernel_rfl) ?_
        -- R7 edge.go:33
        refine WE.region ?_
        refine WO.run 3 0 [(7, .bool true), (6, .float .f64 (g0 l k)), (29, .float .f64 (g0 l k))] (by kernel_rfl) (by kernel_rfl) ?_
        refine WO.done (by kernel_rfl) ?_
        refine WQ.keep [1, 6, 7, 9, 10, 11, 12, 13, 28] (e' := [(1, .func (.func 24) #[] #[]), (6, .float .f64 (g0 l k)), (7, .bool true), (9, .float .f64 (g0 l k)), (10, .slice (some ad_l) n cap), (11, .int .i64 (n : Int)), (12, .int .i64 (k : Int)), (13, .bool true), (28, .bool true)]) (by kernel_rfl) ?_
        refine WQ.blkN ?_
        refine WQ.thenN ?_
        -- R8 edge.go:31
        refine WE.region ?_
        refine WO.one (SQ.F 0 (by kernel_rfl)) 30 (.int .i64 (IntKind.i64.wrap ((k : Int) + 1))) (by kernel_rfl) ?_
        refine WO.top (v' := .int .i64 ((k + 1 : Nat) : Int)) (wrap_i64 (by omega) (by omega)) ?_
        refine WO.run 1 1 [(12, .int .i64 ((k + 1 : Nat) : Int))] (by kernel_rfl) (by kernel_rfl) ?_
        refine WO.done (by kernel_rfl) ?_
        refine WQ.keep [1, 6, 7, 9, 10, 11, 12, 13, 28] (e' := [(1, .func (.func 24) #[] #[]), (6, .float .f64 (g0 l k)), (7, .bool true), (9, .float .f64 (g0 l k)), (10, .slice (some ad_l) n cap), (11, .int .i64 (n : Int)), (12, .int .i64 ((k + 1 : Nat) : Int)), (13, .bool true), (28, .bool true)]) (by kernel_rfl) ?_
        refine WQ.round ?_
        intro a_ ha_
        refine ⟨(k + 1, g0 l k, true), ?_, ha_.keep [1, 6, 7, 10, 11, 12] (by kernel_rfl), ?_⟩
        · show n - (k + 1) < n - k; omega
        · exact ⟨by show k + 1 ≤ n; omega, by show _ = bs lessB (best lessB l k) (g0 l k); rw [← hb]; simp [bs, h4, h5], hall k (by omega), HA⟩
  · intro h1
    refine WO.done (by kernel_rfl) ?_
    refine WQ.keep [1, 6, 7, 10, 11, 12, 13] (e' := [(1, .func (.func 24) #[] #[]), (6, .float .f64 m), (7, .bool ok), (10, .slice A n cap), (11, .int .i64 (n : Int)), (12, .int .i64 (k : Int)), (13, .bool false)]) (by kernel_rfl) ?_
    refine WQ.thenN ?_
    refine WE.seq ?_
    refine WE.condF (by kernel_rfl) ?_
    refine WE.exit ?_
    refine WQ.thenE ?_
    refine WQ.thenE ?_
    refine WQ.blkE ?_
    refine WQ.thenN ?_
    refine WE.seq ?_
    -- R9 edge.go:36
    refine WE.region ?_
    refine WO.run 4 0 [(5, .bool ok), (4, .float .f64 m), (32, .bool ok), (31, .float .f64 m)] (by kernel_rfl) (by kernel_rfl) ?_
    refine WO.done (by kernel_rfl) ?_
    refine WQ.keep [1, 4, 5, 6, 7, 10, 11, 12, 13] (e' := [(1, .func (.func 24) #[] #[]), (4, .float .f64 m), (5, .bool ok), (6, .float .f64 m), (7, .bool ok), (10, .slice A n cap), (11, .int .i64 (n : Int)), (12, .int .i64 (k : Int)), (13, .bool false)]) (by kernel_rfl) ?_
    refine WQ.thenN ?_
    refine WE.ret ?_
    refine WQ.ret (v := .tuple #[.float .f64 m, .bool ok]) (by kernel_rfl) ?_
    obtain rfl : k = n := by omega
    exact ⟨by rw [← hb], HA⟩

set_option maxRecDepth 100000 in
set_option maxHeartbeats 400000 in
theorem least_any (A : Option Addr) (n cap : Nat) (l : List Nat) (w : World) (hn : l.length = n) (hm : n ≤ 1000000) (hall : All l) (hrd : Rd w A l) :
    Calls Try.prog 32 #[.slice A n cap] w fun e w' => e = .returned (.tuple #[.float .f64 (best lessB l n).1, .bool (best lessB l n).2]) ∧ Fr [] w w' := by
  have HA := Fr.refl [] w
  refine enter (N := 8) Try.func32 (c := _) rfl (by kernel_rfl) (by kernel_rfl) (e := [(0, .slice A n cap)]) (by kernel_rfl) ?_
  refine WE.seq ?_
  -- R0 edge.go:40
  refine WE.region ?_
  refine WO.run 2 0 [(3, .bool false), (2, .float .f64 0)] (by kernel_rfl) (by kernel_rfl) ?_
  refine WO.done (by kernel_rfl) ?_
  refine WQ.keep [0, 2, 3] (e' := [(0, .slice A n cap), (2, .float .f64 0), (3, .bool false)]) (by kernel_rfl) ?_
  refine WQ.thenN ?_
  refine WE.seq ?_
  -- R1 edge.go:40
  refine WE.region ?_
  refine WO.run 1 0 [(4, .slice A n cap)] (by kernel_rfl) (by kernel_rfl) ?_
  refine WO.call (SQ.E 1 (by kernel_rfl)) 5 (by kernel_rfl) (best_least A n cap l _ hn hm hall (hrd.keep HA)) ?_
  rintro _ w1 ⟨rfl, F2⟩
  refine ⟨_, rfl, trivial, ?_⟩
  have HA := Fr.step0 HA F2
  refine WO.run 4 2 [(3, .bool ((best lessB l n).2)), (2, .float .f64 ((best lessB l n).1)), (7, .bool ((best lessB l n).2)), (6, .float .f64 ((best lessB l n).1))] (by kernel_rfl) (by kernel_rfl) ?_
  refine WO.done (by kernel_rfl) ?_
  refine WQ.keep [0, 2, 3] (e' := [(0, .slice A n cap), (2, .float .f64 ((best lessB l n).1)), (3, .bool ((best lessB l n).2))]) (by kernel_rfl) ?_
  refine WQ.thenN ?_
  refine WE.ret ?_
  refine WQ.ret (v := .tuple #[.float .f64 ((best lessB l n).1), .bool ((best lessB l n).2)]) (by kernel_rfl) ?_
  exact ⟨rfl, HA⟩

set_option maxRecDepth 100000 in
set_option maxHeartbeats 400000 in
theorem ref_least (A : Option Addr) (n cap : Nat) (l : List Nat) (w : World) (hn : l.length = n) (hm : n ≤ 1000000) (hall : All l) (hrd : Rd w A l) :
    Calls Try.prog 34 #[.slice A n cap, .bool false] w fun e w' => e = .returned (.tuple #[.float .f64 (best lessB l n).1, .bool (best lessB l n).2]) ∧ Fr [] w w' := by
  have HA := Fr.refl [] w
  refine enter (N := 55) Try.func34 (c := _) rfl (by kernel_rfl) (by kernel_rfl) (e := [(0, .slice A n cap), (1, .bool false)]) (by kernel_rfl) ?_
  refine WE.seq ?_
  -- R0 ref.go:63
  refine WE.region ?_
  refine WO.run 2 0 [(5, .bool false), (4, .float .f64 0)] (by kernel_rfl) (by kernel_rfl) ?_
  refine WO.done (by kernel_rfl) ?_
  refine WQ.keep [0, 1, 4, 5] (e' := [(0, .slice A n cap), (1, .bool false), (4, .float .f64 0), (5, .bool false)]) (by kernel_rfl) ?_
  refine WQ.thenN ?_
  refine WE.seq ?_
  -- R1 ref.go:64
  refine WE.region ?_
  refine WO.run 1 0 [(6, .bool false)] (by kernel_rfl) (by kernel_rfl) ?_
  refine WO.done (by kernel_rfl) ?_
  refine WQ.keep [0, 1, 4, 5, 6] (e' := [(0, .slice A n cap), (1, .bool false), (4, .float .f64 0), (5, .bool false), (6, .bool false)]) (by kernel_rfl) ?_
  refine WQ.thenN ?_
  refine WE.seq ?_
  -- R2 ref.go:65
  refine WE.region ?_
  refine WO.run 1 0 [(7, .float .f64 0)] (by kernel_rfl) (by kernel_rfl) ?_
  refine WO.done (by kernel_rfl) ?_
  refine WQ.keep [0, 1, 4, 5, 6, 7] (e' := [(0, .slice A n cap), (1, .bool false), (4, .float .f64 0), (5, .bool false), (6, .bool false), (7, .float .f64 0)]) (by kernel_rfl) ?_
  refine WQ.thenN ?_
  refine WE.seq ?_
  refine WE.seq ?_
  -- R3 ref.go:66
  refine WE.region ?_
  refine WO.run 1 0 [(8, .int .i64 0)] (by kernel_rfl) (by kernel_rfl) ?_
  refine WO.done (by kernel_rfl) ?_
  refine WQ.keep [0, 1, 4, 5, 6, 7, 8] (e' := [(0, .slice A n cap), (1, .bool false), (4, .float .f64 0), (5, .bool false), (6, .bool false), (7, .float .f64 0), (8, .int .i64 0)]) (by kernel_rfl) ?_
  refine WQ.thenN ?_
  refine WE.block ?_
  refine WE.loop (α := Nat × Nat × Bool) (E := fun z => [(0, .slice A n cap), (1, .bool false), (6, .bool z.2.2), (7, .float .f64 z.2.1), (8, .int .i64 (z.1 : Int))]) (I := fun z wr => z.1 ≤ n ∧ (z.2.1, z.2.2) = best lessB l z.1 ∧ z.2.1 < 18446744073709551616 ∧ Fr [] w wr) (m := fun z => n - z.1) (0, 0, false) [0, 1, 6, 7, 8] (by kernel_rfl) ?_ ?_
  · exact ⟨Nat.zero_le _, rfl, by decide, HA⟩
  rintro ⟨k, m, ok⟩ wr ⟨hk, hb, hmb, HA⟩
  dsimp only at hk hb hmb
  refine WE.seq ?_
  refine WE.seq ?_
  -- R4 ref.go:66
  refine WE.region ?_
  refine WO.run 3 0 [(13, .int .i64 (n : Int)), (12, .slice A n cap), (11, .int .i64 (k : Int))] (by kernel_rfl) (by kernel_rfl) ?_
  refine WO.one (SQ.F 3 (by kernel_rfl)) 14 (.bool (decide (((k : Int) : Int) < (n : Int)))) (by kernel_rfl) ?_
  refine WO.topP (((k : Int) : Int) < (n : Int)) ?_ ?_
  · intro h1
    refine WO.done (by kernel_rfl) ?_
    refine WQ.keep [0, 1, 6, 7, 8, 14] (e' := [(0, .slice A n cap), (1, .bool false), (6, .bool ok), (7, .float .f64 m), (8, .int .i64 (k : Int)), (14, .bool true)]) (by kernel_rfl) ?_
    refine WQ.thenN ?_
    refine WE.condT (by kernel_rfl) ?_
    refine WE.skip ?_
    refine WQ.thenN ?_
    refine WE.seq ?_
    refine WE.block ?_
    refine WE.seq ?_
    refine WE.seq ?_
    -- R6 ref.go:67
    refine WE.region ?_
    refine WO.run 2 0 [(18, .int .i64 (k : Int)), (17, .slice A n cap)] (by kernel_rfl) (by kernel_rfl) ?_
    obtain ⟨ad_l, hA_l, hcl_l⟩ := hrd k (by omega)
    subst hA_l
    refine WO.ix (SQ.F 2 (by kernel_rfl)) 19 (ad_l.add k) ad_l n 1 (k : Int) (by kernel_rfl) (by omega) (by omega) (by congr 1 <;> omega) ?_
    refine WO.ld (SQ.S 3 (by kernel_rfl)) 20 (.float .f64 (g0 l k)) (by kernel_rfl) (same (HA.cell0 hcl_l)) ?_
    refine WO.call (SQ.E 4 (by kernel_rfl)) 21 (by kernel_rfl) (none_f (g0 l k) _) ?_
    rintro _ w2 ⟨rfl, F3⟩
    refine ⟨_, rfl, trivial, ?_⟩
    have HA := Fr.step0 HA F3
    refine WO.topB (nanB (g0 l k)) ?_ ?_
    · intro h4
      refine WO.done (by kernel_rfl) ?_
      refine WQ.keep [0, 1, 6, 7, 8, 14, 21] (e' := [(0, .slice (some ad_l) n cap), (1, .bool false), (6, .bool ok), (7, .float .f64 m), (8, .int .i64 (k : Int)), (14, .bool true), (21, .bool true)]) (by kernel_rfl) ?_
      refine WQ.thenN ?_
      refine WE.condT (by kernel_rfl) ?_
      refine WE.exit ?_
      refine WQ.thenE ?_
      refine WQ.blkE ?_
      refine WQ.thenN ?_
      -- R5 ref.go:66
      refine WE.region ?_
      refine WO.run 1 0 [(15, .int .i64 (k : Int))] (by kernel_rfl) (by kernel_rfl) ?_
      refine WO.one (SQ.F 1 (by kernel_rfl)) 16 (.int .i64 (IntKind.i64.wrap ((k : Int) + 1))) (by kernel_rfl) ?_
      refine WO.top (v' := .int .i64 ((k + 1 : Nat) : Int)) (wrap_i64 (by omega) (by omega)) ?_
      refine WO.run 1 2 [(8, .int .i64 ((k + 1 : Nat) : Int))] (by kernel_rfl) (by kernel_rfl) ?_
      refine WO.done (by kernel_rfl) ?_
      refine WQ.keep [0, 1, 6, 7, 8, 14, 21] (e' := [(0, .slice (some ad_l) n cap), (1, .bool false), (6, .bool ok), (7, .float .f64 m), (8, .int .i64 ((k + 1 : Nat) : Int)), (14, .bool true), (21, .bool true)]) (by kernel_rfl) ?_
      refine WQ.round ?_
      intro a_ ha_
      refine ⟨(k + 1, m, ok), ?_, ha_.keep [0, 1, 6, 7, 8] (by kernel_rfl), ?_⟩
      · show n - (k + 1) < n - k; omega
      · exact ⟨by show k + 1 ≤ n; omega, by show _ = bs lessB (best lessB l k) (g0 l k); rw [← hb]; simp [bs, h4], hmb, HA⟩
    · intro h4
      refine WO.done (by kernel_rfl) ?_
      refine WQ.keep [0, 1, 6, 7, 8, 14, 21] (e' := [(0, .slice (some ad_l) n cap), (1, .bool false), (6, .bool ok), (7, .float .f64 m), (8, .int .i64 (k : Int)), (14, .bool true), (21, .bool false)]) (by kernel_rfl) ?_
      refine WQ.thenN ?_
      refine WE.condF (by kernel_rfl) ?_
      refine WE.skip ?_
      refine WQ.thenN ?_
      refine WE.seq ?_
      -- R7 ref.go:70
      refine WE.region ?_
      refine WO.run 2 0 [(23, .int .i64 (k : Int)), (22, .slice (some ad_l) n cap)] (by kernel_rfl) (by kernel_rfl) ?_
      refine WO.ix (SQ.F 2 (by kernel_rfl)) 24 (ad_l.add k) ad_l n 1 (k : Int) (by kernel_rfl) (by omega) (by omega) (by congr 1 <;> omega) ?_
      refine WO.ld (SQ.S 3 (by kernel_rfl)) 25 (.float .f64 (g0 l k)) (by kernel_rfl) (same (HA.cell0 hcl_l)) ?_
      refine WO.run 1 4 [(26, .float .f64 m)] (by kernel_rfl) (by kernel_rfl) ?_
      refine WO.call (SQ.E 5 (by kernel_rfl)) 27 (by kernel_rfl) (refless_f (g0 l k) m _ (hall k (by omega)) hmb) ?_
      rintro _ w5 ⟨rfl, F6⟩
      refine ⟨_, rfl, trivial, ?_⟩
      have HA := Fr.step0 HA F6
      refine WO.topB (lessB (g0 l k) m) ?_ ?_
      · intro h7
        refine WO.run 1 6 [(9, .bool true)] (by kernel_rfl) (by kernel_rfl) ?_
        refine WO.done (by kernel_rfl) ?_
        refine WQ.keep [0, 1, 6, 7, 8, 9, 14, 21] (e' := [(0, .slice (some ad_l) n cap), (1, .bool false), (6, .bool ok), (7, .float .f64 m), (8, .int .i64 (k : Int)), (9, .bool true), (14, .bool true), (21, .bool false)]) (by kernel_rfl) ?_
        refine WQ.thenN ?_
        refine WE.seq ?_
        -- R8 ref.go:71
        refine WE.region ?_
        refine WO.run 3 0 [(30, .int .i64 (k : Int)), (29, .slice (some ad_l) n cap), (28, .float .f64 m)] (by kernel_rfl) (by kernel_rfl) ?_
        refine WO.ix (SQ.F 3 (by kernel_rfl)) 31 (ad_l.add k) ad_l n 1 (k : Int) (by kernel_rfl) (by omega) (by omega) (by congr 1 <;> omega) ?_
        refine WO.ld (SQ.S 4 (by kernel_rfl)) 32 (.float .f64 (g0 l k)) (by kernel_rfl) (same (HA.cell0 hcl_l)) ?_
        refine WO.call (SQ.E 5 (by kernel_rfl)) 33 (by kernel_rfl) (refless_f m (g0 l k) _ hmb (hall k (by omega))) ?_
        rintro _ w8 ⟨rfl, F9⟩
        refine ⟨_, rfl, trivial, ?_⟩
        have HA := Fr.step0 HA F9
        refine WO.topB (lessB m (g0 l k)) ?_ ?_
        · intro h10
          refine WO.run 1 6 [(10, .bool true)] (by kernel_rfl) (by kernel_rfl) ?_
          refine WO.done (by kernel_rfl) ?_
          refine WQ.keep [0, 1, 6, 7, 8, 9, 10, 14, 21] (e' := [(0, .slice (some ad_l) n cap), (1, .bool false), (6, .bool ok), (7, .float .f64 m), (8, .int .i64 (k : Int)), (9, .bool true), (10, .bool true), (14, .bool true), (21, .bool false)]) (by kernel_rfl) ?_
          refine WQ.thenN ?_
          refine WE.seq ?_
          -- R9 ref.go:72
          refine WE.region ?_
          refine WO.one (SQ.F 0 (by kernel_rfl)) 34 (.bool ok) (by kernel_rfl) ?_
          refine WO.topB (ok) ?_ ?_
          · intro h11
            refine WO.run 14 1 [(48, .bool true), (47, undef), (46, undef), (45, undef), (44, undef), (43, .bool true), (42, .bool true), (41, .bool true), (40, .bool true), (39, .bool true), (38, .bool true), (37, .bool false), (36, .bool false), (35, .bool false)] (by kernel_rfl) (by kernel_rfl) ?_
            refine WO.done (by kernel_rfl) ?_
            refine WQ.keep [0, 1, 6, 7, 8, 9, 10, 14, 21, 48] (e' := [(0, .slice (some ad_l) n cap), (1, .bool false), (6, .bool ok), (7, .float .f64 m), (8, .int .i64 (k : Int)), (9, .bool true), (10, .bool true), (14, .bool true), (21, .bool false), (48, .bool true)]) (by kernel_rfl) ?_
            refine WQ.thenN ?_
            refine WE.condT (by kernel_rfl) ?_
            refine WE.seq ?_
            -- R10 ref.go:73
            refine WE.region ?_
            refine WO.run 2 0 [(50, .int .i64 (k : Int)), (49, .slice (some ad_l) n cap)] (by kernel_rfl) (by kernel_rfl) ?_
            refine WO.ix (SQ.F 2 (by kernel_rfl)) 51 (ad_l.add k) ad_l n 1 (k : Int) (by kernel_rfl) (by omega) (by omega) (by congr 1 <;> omega) ?_
            refine WO.ld (SQ.S 3 (by kernel_rfl)) 52 (.float .f64 (g0 l k)) (by kernel_rfl) (same (HA.cell0 hcl_l)) ?_
            refine WO.run 1 4 [(7, .float .f64 (g0 l k))] (by kernel_rfl) (by kernel_rfl) ?_
            refine WO.done (by kernel_rfl) ?_
            refine WQ.keep [0, 1, 6, 7, 8, 9, 10, 14, 21, 48] (e' := [(0, .slice (some ad_l) n cap), (1, .bool false), (6, .bool ok), (7, .float .f64 (g0 l k)), (8, .int .i64 (k : Int)), (9, .bool true), (10, .bool true), (14, .bool true), (21, .bool false), (48, .bool true)]) (by kernel_rfl) ?_
            refine WQ.thenN ?_
            -- R11 ref.go:74
            refine WE.region ?_
            refine WO.run 1 0 [(6, .bool true)] (by kernel_rfl) (by kernel_rfl) ?_
            refine WO.done (by kernel_rfl) ?_
            refine WQ.keep [0, 1, 6, 7, 8, 9, 10, 14, 21, 48] (e' := [(0, .slice (some ad_l) n cap), (1, .bool false), (6, .bool true), (7, .float .f64 (g0 l k)), (8, .int .i64 (k : Int)), (9, .bool true), (10, .bool true), (14, .bool true), (21, .bool false), (48, .bool true)]) (by kernel_rfl) ?_
            refine WQ.blkN ?_
            refine WQ.thenN ?_
            -- R5 ref.go:66
            refine WE.region ?_
            refine WO.run 1 0 [(15, .int .i64 (k : Int))] (by kernel_rfl) (by kernel_rfl) ?_
            refine WO.one (SQ.F 1 (by kernel_rfl)) 16 (.int .i64 (IntKind.i64.wrap ((k : Int) + 1))) (by kernel_rfl) ?_
            refine WO.top (v' := .int .i64 ((k + 1 : Nat) : Int)) (wrap_i64 (by omega) (by omega)) ?_
            refine WO.run 1 2 [(8, .int .i64 ((k + 1 : Nat) : Int))] (by kernel_rfl) (by kernel_rfl) ?_
            refine WO.done (by kernel_rfl) ?_
            refine WQ.keep [0, 1, 6, 7, 8, 9, 10, 14, 21, 48] (e' := [(0, .slice (some ad_l) n cap), (1, .bool false), (6, .bool true), (7, .float .f64 (g0 l k)), (8, .int .i64 ((k + 1 : Nat) : Int)), (9, .bool true), (10, .bool true), (14, .bool true), (21, .bool false), (48, .bool true)]) (by kernel_rfl) ?_
            refine WQ.round ?_
            intro a_ ha_
            refine ⟨(k + 1, g0 l k, true), ?_, ha_.keep [0, 1, 6, 7, 8] (by kernel_rfl), ?_⟩
            · show n - (k + 1) < n - k; omega
            · exact ⟨by show k + 1 ≤ n; omega, by show _ = bs lessB (best lessB l k) (g0 l k); rw [← hb]; simp [bs, h4, h7, h10, h11], hall k (by omega), HA⟩
          · intro h11
            refine WO.run 14 1 [(48, .bool true), (47, undef), (46, undef), (45, undef), (44, undef), (43, .bool true), (42, .bool true), (41, undef), (40, undef), (39, undef), (38, undef), (37, undef), (36, .bool true), (35, .bool true)] (by kernel_rfl) (by kernel_rfl) ?_
            refine WO.done (by kernel_rfl) ?_
            refine WQ.keep [0, 1, 6, 7, 8, 9, 10, 14, 21, 48] (e' := [(0, .slice (some ad_l) n cap), (1, .bool false), (6, .bool ok), (7, .float .f64 m), (8, .int .i64 (k : Int)), (9, .bool true), (10, .bool true), (14, .bool true), (21, .bool false), (48, .bool true)]) (by kernel_rfl) ?_
            refine WQ.thenN ?_
            refine WE.condT (by kernel_rfl) ?_
            refine WE.seq ?_
            -- R10 ref.go:73
            refine WE.region ?_
            refine WO.run 2 0 [(50, .int .i64 (k : Int)), (49, .slice (some ad_l) n cap)] (by kernel_rfl) (by kernel_rfl) ?_
            refine WO.ix (SQ.F 2 (by kernel_rfl)) 51 (ad_l.add k) ad_l n 1 (k : Int) (by kernel_rfl) (by omega) (by omega) (by congr 1 <;> omega) ?_
            refine WO.ld (SQ.S 3 (by kernel_rfl)) 52 (.float .f64 (g0 l k)) (by kernel_rfl) (same (HA.cell0 hcl_l)) ?_
            refine WO.run 1 4 [(7, .float .f64 (g0 l k))] (by kernel_rfl) (by kernel_rfl) ?_
            refine WO.done (by kernel_rfl) ?_
            refine WQ.keep [0, 1, 6, 7, 8, 9, 10, 14, 21, 48] (e' := [(0, .slice (some ad_l) n cap), (1, .bool false), (6, .bool ok), (7, .float .f64 (g0 l k)), (8, .int .i64 (k : Int)), (9, .bool true), (10, .bool true), (14, .bool true), (21, .bool false), (48, .bool true)]) (by kernel_rfl) ?_
            refine WQ.thenN ?_
            -- R11 ref.go:74
            refine WE.region ?_
            refine WO.run 1 0 [(6, .bool true)] (by kernel_rfl) (by kernel_rfl) ?_
            refine WO.done (by kernel_rfl) ?_
            refine WQ.keep [0, 1, 6, 7, 8, 9, 10, 14, 21, 48] (e' := [(0, .slice (some ad_l) n cap), (1, .bool false), (6, .bool true), (7, .float .f64 (g0 l k)), (8, .int .i64 (k : Int)), (9, .bool true), (10, .bool true), (14, .bool true), (21, .bool false), (48, .bool true)]) (by kernel_rfl) ?_
            refine WQ.blkN ?_
            refine WQ.thenN ?_
            -- R5 ref.go:66
            refine WE.region ?_
            refine WO.run 1 0 [(15, .int .i64 (k : Int))] (by kernel_rfl) (by kernel_rfl) ?_
            refine WO.one (SQ.F 1 (by kernel_rfl)) 16 (.int .i64 (IntKind.i64.wrap ((k : Int) + 1))) (by kernel_rfl) ?_
            refine WO.top (v' := .int .i64 ((k + 1 : Nat) : Int)) (wrap_i64 (by omega) (by omega)) ?_
            refine WO.run 1 2 [(8, .int .i64 ((k + 1 : Nat) : Int))] (by kernel_rfl) (by kernel_rfl) ?_
            refine WO.done (by kernel_rfl) ?_
            refine WQ.keep [0, 1, 6, 7, 8, 9, 10, 14, 21, 48] (e' := [(0, .slice (some ad_l) n cap), (1, .bool false), (6, .bool true), (7, .float .f64 (g0 l k)), (8, .int .i64 ((k + 1 : Nat) : Int)), (9, .bool true), (10, .bool true), (14, .bool true), (21, .bool false), (48, .bool true)]) (by kernel_rfl) ?_
            refine WQ.round ?_
            intro a_ ha_
            refine ⟨(k + 1, g0 l k, true), ?_, ha_.keep [0, 1, 6, 7, 8] (by kernel_rfl), ?_⟩
            · show n - (k + 1) < n - k; omega
            · exact ⟨by show k + 1 ≤ n; omega, by show _ = bs lessB (best lessB l k) (g0 l k); rw [← hb]; simp [bs, h4, h7, h10, h11], hall k (by omega), HA⟩
        · intro h10
          refine WO.run 1 6 [(10, .bool false)] (by kernel_rfl) (by kernel_rfl) ?_
          refine WO.done (by kernel_rfl) ?_
          refine WQ.keep [0, 1, 6, 7, 8, 9, 10, 14, 21] (e' := [(0, .slice (some ad_l) n cap), (1, .bool false), (6, .bool ok), (7, .float .f64 m), (8, .int .i64 (k : Int)), (9, .bool true), (10, .bool false), (14, .bool true), (21, .bool false)]) (by kernel_rfl) ?_
          refine WQ.thenN ?_
          refine WE.seq ?_
          -- R9 ref.go:72
          refine WE.region ?_
          refine WO.one (SQ.F 0 (by kernel_rfl)) 34 (.bool ok) (by kernel_rfl) ?_
          refine WO.topB (ok) ?_ ?_
          · intro h12
            refine WO.run 14 1 [(48, .bool true), (47, undef), (46, undef), (45, undef), (44, undef), (43, .bool true), (42, .bool true), (41, .bool true), (40, .bool true), (39, .bool true), (38, .bool true), (37, .bool false), (36, .bool false), (35, .bool false)] (by kernel_rfl) (by kernel_rfl) ?_
            refine WO.done (by kernel_rfl) ?_
            refine WQ.keep [0, 1, 6, 7, 8, 9, 10, 14, 21, 48] (e' := [(0, .slice (some ad_l) n cap), (1, .bool false), (6, .bool ok), (7, .float .f64 m), (8, .int .i64 (k : Int)), (9, .bool true), (10, .bool false), (14, .bool true), (21, .bool false), (48, .bool true)]) (by kernel_rfl) ?_
            refine WQ.thenN ?_
            refine WE.condT (by kernel_rfl) ?_
            refine WE.seq ?_
            -- R10 ref.go:73
            refine WE.region ?_
            refine WO.run 2 0 [(50, .int .i64 (k : Int)), (49, .slice (some ad_l) n cap)] (by kernel_rfl) (by kernel_rfl) ?_
            refine WO.ix (SQ.F 2 (by kernel_rfl)) 51 (ad_l.add k) ad_l n 1 (k : Int) (by kernel_rfl) (by omega) (by omega) (by congr 1 <;> omega) ?_
            refine WO.ld (SQ.S 3 (by kernel_rfl)) 52 (.float .f64 (g0 l k)) (by kernel_rfl) (same (HA.cell0 hcl_l)) ?_
            refine WO.run 1 4 [(7, .float .f64 (g0 l k))] (by kernel_rfl) (by kernel_rfl) ?_
            refine WO.done (by kernel_rfl) ?_
            refine WQ.keep [0, 1, 6, 7, 8, 9, 10, 14, 21, 48] (e' := [(0, .slice (some ad_l) n cap), (1, .bool false), (6, .bool ok), (7, .float .f64 (g0 l k)), (8, .int .i64 (k : Int)), (9, .bool true), (10, .bool false), (14, .bool true), (21, .bool false), (48, .bool true)]) (by kernel_rfl) ?_
            refine WQ.thenN ?_
            -- R11 ref.go:74
            refine WE.region ?_
            refine WO.run 1 0 [(6, .bool true)] (by kernel_rfl) (by kernel_rfl) ?_
            refine WO.done (by kernel_rfl) ?_
            refine WQ.keep [0, 1, 6, 7, 8, 9, 10, 14, 21, 48] (e' := [(0, .slice (some ad_l) n cap), (1, .bool false), (6, .bool true), (7, .float .f64 (g0 l k)), (8, .int .i64 (k : Int)), (9, .bool true), (10, .bool false), (14, .bool true), (21, .bool false), (48, .bool true)]) (by kernel_rfl) ?_
            refine WQ.blkN ?_
            refine WQ.thenN ?_
            -- R5 ref.go:66
            refine WE.region ?_
            refine WO.run 1 0 [(15, .int .i64 (k : Int))] (by kernel_rfl) (by kernel_rfl) ?_
            refine WO.one (SQ.F 1 (by kernel_rfl)) 16 (.int .i64 (IntKind.i64.wrap ((k : Int) + 1))) (by kernel_rfl) ?_
            refine WO.top (v' := .int .i64 ((k + 1 : Nat) : Int)) (wrap_i64 (by omega) (by omega)) ?_
            refine WO.run 1 2 [(8, .int .i64 ((k + 1 : Nat) : Int))] (by kernel_rfl) (by kernel_rfl) ?_
            refine WO.done (by kernel_rfl) ?_
            refine WQ.keep [0, 1, 6, 7, 8, 9, 10, 14, 21, 48] (e' := [(0, .slice (some ad_l) n cap), (1, .bool false), (6, .bool true), (7, .float .f64 (g0 l k)), (8, .int .i64 ((k + 1 : Nat) : Int)), (9, .bool true), (10, .bool false), (14, .bool true), (21, .bool false), (48, .bool true)]) (by kernel_rfl) ?_
            refine WQ.round ?_
            intro a_ ha_
            refine ⟨(k + 1, g0 l k, true), ?_, ha_.keep [0, 1, 6, 7, 8] (by kernel_rfl), ?_⟩
            · show n - (k + 1) < n - k; omega
            · exact ⟨by show k + 1 ≤ n; omega, by show _ = bs lessB (best lessB l k) (g0 l k); rw [← hb]; simp [bs, h4, h7, h10, h12], hall k (by omega), HA⟩
          · intro h12
            refine WO.run 14 1 [(48, .bool true), (47, undef), (46, undef), (45, undef), (44, undef), (43, .bool true), (42, .bool true), (41, undef), (40, undef), (39, undef), (38, undef), (37, undef), (36, .bool true), (35, .bool true)] (by kernel_rfl) (by kernel_rfl) ?_
            refine WO.done (by kernel_rfl) ?_
            refine WQ.keep [0, 1, 6, 7, 8, 9, 10, 14, 21, 48] (e' := [(0, .slice (some ad_l) n cap), (1, .bool false), (6, .bool ok), (7, .float .f64 m), (8, .int .i64 (k : Int)), (9, .bool true), (10, .bool false), (14, .bool true), (21, .bool false), (48, .bool true)]) (by kernel_rfl) ?_
            refine WQ.thenN ?_
            refine WE.condT (by kernel_rfl) ?_
            refine WE.seq ?_
            -- R10 ref.go:73
            refine WE.region ?_
            refine WO.run 2 0 [(50, .int .i64 (k : Int)), (49, .slice (some ad_l) n cap)] (by kernel_rfl) (by kernel_rfl) ?_
            refine WO.ix (SQ.F 2 (by kernel_rfl)) 51 (ad_l.add k) ad_l n 1 (k : Int) (by kernel_rfl) (by omega) (by omega) (by congr 1 <;> omega) ?_
            refine WO.ld (SQ.S 3 (by kernel_rfl)) 52 (.float .f64 (g0 l k)) (by kernel_rfl) (same (HA.cell0 hcl_l)) ?_
            refine WO.run 1 4 [(7, .float .f64 (g0 l k))] (by kernel_rfl) (by kernel_rfl) ?_
            refine WO.done (by kernel_rfl) ?_
            refine WQ.keep [0, 1, 6, 7, 8, 9, 10, 14, 21, 48] (e' := [(0, .slice (some ad_l) n cap), (1, .bool false), (6, .bool ok), (7, .float .f64 (g0 l k)), (8, .int .i64 (k : Int)), (9, .bool true), (10, .bool false), (14, .bool true), (21, .bool false), (48, .bool true)]) (by kernel_rfl) ?_
            refine WQ.thenN ?_
            -- R11 ref.go:74
            refine WE.region ?_
            refine WO.run 1 0 [(6, .bool true)] (by kernel_rfl) (by kernel_rfl) ?_
            refine WO.done (by kernel_rfl) ?_
            refine WQ.keep [0, 1, 6, 7, 8, 9, 10, 14, 21, 48] (e' := [(0, .slice (some ad_l) n cap), (1, .bool false), (6, .bool true), (7, .float .f64 (g0 l k)), (8, .int .i64 (k : Int)), (9, .bool true), (10, .bool false), (14, .bool true), (21, .bool false), (48, .bool true)]) (by kernel_rfl) ?_
            refine WQ.blkN ?_
            refine WQ.thenN ?_
            -- R5 ref.go:66
            refine WE.region ?_
            refine WO.run 1 0 [(15, .int .i64 (k : Int))] (by kernel_rfl) (by kernel_rfl) ?_
            refine WO.one (SQ.F 1 (by kernel_rfl)) 16 (.int .i64 (IntKind.i64.wrap ((k : Int) + 1))) (by kernel_rfl) ?_
            refine WO.top (v' := .int .i64 ((k + 1 : Nat) : Int)) (wrap_i64 (by omega) (by omega)) ?_
            refine WO.run 1 2 [(8, .int .i64 ((k + 1 : Nat) : Int))] (by kernel_rfl) (by kernel_rfl) ?_
            refine WO.done (by kernel_rfl) ?_
            refine WQ.keep [0, 1, 6, 7, 8, 9, 10, 14, 21, 48] (e' := [(0, .slice (some ad_l) n cap), (1, .bool false), (6, .bool true), (7, .float .f64 (g0 l k)), (8, .int .i64 ((k + 1 : Nat) : Int)), (9, .bool true), (10, .bool false), (14, .bool true), (21, .bool false), (48, .bool true)]) (by kernel_rfl) ?_
            refine WQ.round ?_
            intro a_ ha_
            refine ⟨(k + 1, g0 l k, true), ?_, ha_.keep [0, 1, 6, 7, 8] (by kernel_rfl), ?_⟩
            · show n - (k + 1) < n - k; omega
            · exact ⟨by show k + 1 ≤ n; omega, by show _ = bs lessB (best lessB l k) (g0 l k); rw [← hb]; simp [bs, h4, h7, h10, h12], hall k (by omega), HA⟩
      · intro h7
        refine WO.run 1 6 [(9, .bool false)] (by kernel_rfl) (by kernel_rfl) ?_
        refine WO.done (by kernel_rfl) ?_
        refine WQ.keep [0, 1, 6, 7, 8, 9, 14, 21] (e' := [(0, .slice (some ad_l) n cap), (1, .bool false), (6, .bool ok), (7, .float .f64 m), (8, .int .i64 (k : Int)), (9, .bool false), (14, .bool true), (21, .bool false)]) (by kernel_rfl) ?_
        refine WQ.thenN ?_
        refine WE.seq ?_
        -- R8 ref.go:71
        refine WE.region ?_
        refine WO.run 3 0 [(30, .int .i64 (k : Int)), (29, .slice (some ad_l) n cap), (28, .float .f64 m)] (by kernel_rfl) (by kernel_rfl) ?_
        refine WO.ix (SQ.F 3 (by kernel_rfl)) 31 (ad_l.add k) ad_l n 1 (k : Int) (by kernel_rfl) (by omega) (by omega) (by congr 1 <;> omega) ?_
        refine WO.ld (SQ.S 4 (by kernel_rfl)) 32 (.float .f64 (g0 l k)) (by kernel_rfl) (same (HA.cell0 hcl_l)) ?_
        refine WO.call (SQ.E 5 (by kernel_rfl)) 33 (by kernel_rfl) (refless_f m (g0 l k) _ hmb (hall k (by omega))) ?_
        rintro _ w13 ⟨rfl, F14⟩
        refine ⟨_, rfl, trivial, ?_⟩
        have HA := Fr.step0 HA F14
        refine WO.topB (lessB m (g0 l k)) ?_ ?_
        · intro h15
          refine WO.run 1 6 [(10, .bool true)] (by kernel_rfl) (by kernel_rfl) ?_
          refine WO.done (by kernel_rfl) ?_
          refine WQ.keep [0, 1, 6, 7, 8, 9, 10, 14, 21] (e' := [(0, .slice (some ad_l) n cap), (1, .bool false), (6, .bool ok), (7, .float .f64 m), (8, .int .i64 (k : Int)), (9, .bool false), (10, .bool true), (14, .bool true), (21, .bool false)]) (by kernel_rfl) ?_
          refine WQ.thenN ?_
          refine WE.seq ?_
          -- R9 ref.go:72
          refine WE.region ?_
          refine WO.one (SQ.F 0 (by kernel_rfl)) 34 (.bool ok) (by kernel_rfl) ?_
          refine WO.topB (ok) ?_ ?_
          · intro h16
            refine WO.run 14 1 [(48, .bool false), (47, .bool false), (46, undef), (45, .bool false), (44, .bool false), (43, .bool false), (42, .bool false), (41, .bool false), (40, .bool false), (39, .bool true), (38, .bool true), (37, .bool false), (36, .bool false), (35, .bool false)] (by kernel_rfl) (by kernel_rfl) ?_
            refine WO.done (by kernel_rfl) ?_
            refine WQ.keep [0, 1, 6, 7, 8, 9, 10, 14, 21, 48] (e' := [(0, .slice (some ad_l) n cap), (1, .bool false), (6, .bool ok), (7, .float .f64 m), (8, .int .i64 (k : Int)), (9, .bool false), (10, .bool true), (14, .bool true), (21, .bool false), (48, .bool false)]) (by kernel_rfl) ?_
            refine WQ.thenN ?_
            refine WE.condF (by kernel_rfl) ?_
            refine WE.skip ?_
            refine WQ.blkN ?_
            refine WQ.thenN ?_
            -- R5 ref.go:66
            refine WE.region ?_
            refine WO.run 1 0 [(15, .int .i64 (k : Int))] (by kernel_rfl) (by kernel_rfl) ?_
            refine WO.one (SQ.F 1 (by kernel_rfl)) 16 (.int .i64 (IntKind.i64.wrap ((k : Int) + 1))) (by kernel_rfl) ?_
            refine WO.top (v' := .int .i64 ((k + 1 : Nat) : Int)) (wrap_i64 (by omega) (by omega)) ?_
            refine WO.run 1 2 [(8, .int .i64 ((k + 1 : Nat) : Int))] (by kernel_rfl) (by kernel_rfl) ?_
            refine WO.done (by kernel_rfl) ?_
            refine WQ.keep [0, 1, 6, 7, 8, 9, 10, 14, 21, 48] (e' := [(0, .slice (some ad_l) n cap), (1, .bool false), (6, .bool ok), (7, .float .f64 m), (8, .int .i64 ((k + 1 : Nat) : Int)), (9, .bool false), (10, .bool true), (14, .bool true), (21, .bool false), (48, .bool false)]) (by kernel_rfl) ?_
            refine WQ.round ?_
            intro a_ ha_
            refine ⟨(k + 1, m, ok), ?_, ha_.keep [0, 1, 6, 7, 8] (by kernel_rfl), ?_⟩
            · show n - (k + 1) < n - k; omega
            · exact ⟨by show k + 1 ≤ n; omega, by show _ = bs lessB (best lessB l k) (g0 l k); rw [← hb]; simp [bs, h4, h7, h15, h16], hmb, HA⟩
          · intro h16
            refine WO.run 14 1 [(48, .bool true), (47, undef), (46, undef), (45, undef), (44, undef), (43, .bool true), (42, .bool true), (41, undef), (40, undef), (39, undef), (38, undef), (37, undef), (36, .bool true), (35, .bool true)] (by kernel_rfl) (by kernel_rfl) ?_
            refine WO.done (by kernel_rfl) ?_
            refine WQ.keep [0, 1, 6, 7, 8, 9, 10, 14, 21, 48] (e' := [(0, .slice (some ad_l) n cap), (1, .bool false), (6, .bool ok), (7, .float .f64 m), (8, .int .i64 (k : Int)), (9, .bool false), (10, .bool true), (14, .bool true), (21, .bool false), (48, .bool true)]) (by kernel_rfl) ?_
            refine WQ.thenN ?_
            refine WE.condT (by kernel_rfl) ?_
            refine WE.seq ?_
            -- R10 ref.go:73
            refine WE.region ?_
            refine WO.run 2 0 [(50, .int .i64 (k : Int)), (49, .slice (some ad_l) n cap)] (by kernel_rfl) (by kernel_rfl) ?_
            refine WO.ix (SQ.F 2 (by kernel_rfl)) 51 (ad_l.add k) ad_l n 1 (k : Int) (by kernel_rfl) (by omega) (by omega) (by congr 1 <;> omega) ?_
            refine WO.ld (SQ.S 3 (by kernel_rfl)) 52 (.float .f64 (g0 l k)) (by kernel_rfl) (same (HA.cell0 hcl_l)) ?_
            refine WO.run 1 4 [(7, .float .f64 (g0 l k))] (by kernel_rfl) (by kernel_rfl) ?_
            refine WO.done (by kernel_rfl) ?_
            refine WQ.keep [0, 1, 6, 7, 8, 9, 10, 14, 21, 48] (e' := [(0, .slice (some ad_l) n cap), (1, .bool false), (6, .bool ok), (7, .float .f64 (g0 l k)), (8, .int .i64 (k : Int)), (9, .bool false), (10, .bool true), (14, .bool true), (21, .bool false), (48, .bool true)]) (by kernel_rfl) ?_
            refine WQ.thenN ?_
            -- R11 ref.go:74
            refine WE.region ?_
            refine WO.run 1 0 [(6, .bool true)] (by kernel_rfl) (by kernel_rfl) ?_
            refine WO.done (by kernel_rfl) ?_
            refine WQ.keep [0, 1, 6, 7, 8, 9, 10, 14, 21, 48] (e' := [(0, .slice (some ad_l) n cap), (1, .bool false), (6, .bool true), (7, .float .f64 (g0 l k)), (8, .int .i64 (k : Int)), (9, .bool false), (10, .bool true), (14, .bool true), (21, .bool false), (48, .bool true)]) (by kernel_rfl) ?_
            refine WQ.blkN ?_
            refine WQ.thenN ?_
            -- R5 ref.go:66
            refine WE.region ?_
            refine WO.run 1 0 [(15, .int .i64 (k : Int))] (by kernel_rfl) (by kernel_rfl) ?_
            refine WO.one (SQ.F 1 (by kernel_rfl)) 16 (.int .i64 (IntKind.i64.wrap ((k : Int) + 1))) (by kernel_rfl) ?_
            refine WO.top (v' := .int .i64 ((k + 1 : Nat) : Int)) (wrap_i64 (by omega) (by omega)) ?_
            refine WO.run 1 2 [(8, .int .i64 ((k + 1 : Nat) : Int))] (by kernel_rfl) (by kernel_rfl) ?_
            refine WO.done (by kernel_rfl) ?_
            refine WQ.keep [0, 1, 6, 7, 8, 9, 10, 14, 21, 48] (e' := [(0, .slice (some ad_l) n cap), (1, .bool false), (6, .bool true), (7, .float .f64 (g0 l k)), (8, .int .i64 ((k + 1 : Nat) : Int)), (9, .bool false), (10, .bool true), (14, .bool true), (21, .bool false), (48, .bool true)]) (by kernel_rfl) ?_
            refine WQ.round ?_
            intro a_ ha_
            refine ⟨(k + 1, g0 l k, true), ?_, ha_.keep [0, 1, 6, 7, 8] (by kernel_rfl), ?_⟩
            · show n - (k + 1) < n - k; omega
            · exact ⟨by show k + 1 ≤ n; omega, by show _ = bs lessB (best lessB l k) (g0 l k); rw [← hb]; simp [bs, h4, h7, h15, h16], hall k (by omega), HA⟩
        · intro h15
          refine WO.run 1 6 [(10, .bool false)] (by kernel_rfl) (by kernel_rfl) ?_
          refine WO.done (by kernel_rfl) ?_
          refine WQ.keep [0, 1, 6, 7, 8, 9, 10, 14, 21] (e' := [(0, .slice (some ad_l) n cap), (1, .bool false), (6, .bool ok), (7, .float .f64 m), (8, .int .i64 (k : Int)), (9, .bool false), (10, .bool false), (14, .bool true), (21, .bool false)]) (by kernel_rfl) ?_
          refine WQ.thenN ?_
          refine WE.seq ?_
          -- R9 ref.go:72
          refine WE.region ?_
          refine WO.one (SQ.F 0 (by kernel_rfl)) 34 (.bool ok) (by kernel_rfl) ?_
          refine WO.topB (ok) ?_ ?_
          · intro h17
            refine WO.run 14 1 [(48, .bool false), (47, .bool false), (46, undef), (45, .bool false), (44, .bool false), (43, .bool false), (42, .bool false), (41, .bool false), (40, .bool false), (39, .bool true), (38, .bool true), (37, .bool false), (36, .bool false), (35, .bool false)] (by kernel_rfl) (by kernel_rfl) ?_
            refine WO.done (by kernel_rfl) ?_
            refine WQ.keep [0, 1, 6, 7, 8, 9, 10, 14, 21, 48] (e' := [(0, .slice (some ad_l) n cap), (1, .bool false), (6, .bool ok), (7, .float .f64 m), (8, .int .i64 (k : Int)), (9, .bool false), (10, .bool false), (14, .bool true), (21, .bool false), (48, .bool false)]) (by kernel_rfl) ?_
            refine WQ.thenN ?_
            refine WE.condF (by kernel_rfl) ?_
            refine WE.skip ?_
            refine WQ.blkN ?_
            refine WQ.thenN ?_
            -- R5 ref.go:66
            refine WE.region ?_
            refine WO.run 1 0 [(15, .int .i64 (k : Int))] (by kernel_rfl) (by kernel_rfl) ?_
            refine WO.one (SQ.F 1 (by kernel_rfl)) 16 (.int .i64 (IntKind.i64.wrap ((k : Int) + 1))) (by kernel_rfl) ?_
            refine WO.top (v' := .int .i64 ((k + 1 : Nat) : Int)) (wrap_i64 (by omega) (by omega)) ?_
            refine WO.run 1 2 [(8, .int .i64 ((k + 1 : Nat) : Int))] (by kernel_rfl) (by kernel_rfl) ?_
            refine WO.done (by kernel_rfl) ?_
            refine WQ.keep [0, 1, 6, 7, 8, 9, 10, 14, 21, 48] (e' := [(0, .slice (some ad_l) n cap), (1, .bool false), (6, .bool ok), (7, .float .f64 m), (8, .int .i64 ((k + 1 : Nat) : Int)), (9, .bool false), (10, .bool false), (14, .bool true), (21, .bool false), (48, .bool false)]) (by kernel_rfl) ?_
            refine WQ.round ?_
            intro a_ ha_
            refine ⟨(k + 1, m, ok), ?_, ha_.keep [0, 1, 6, 7, 8] (by kernel_rfl), ?_⟩
            · show n - (k + 1) < n - k; omega
            · exact ⟨by show k + 1 ≤ n; omega, by show _ = bs lessB (best lessB l k) (g0 l k); rw [← hb]; simp [bs, h4, h7, h15, h17], hmb, HA⟩
          · intro h17
            refine WO.run 14 1 [(48, .bool true), (47, undef), (46, undef), (45, undef), (44, undef), (43, .bool true), (42, .bool true), (41, undef), (40, undef), (39, undef), (38, undef), (37, undef), (36, .bool true), (35, .bool true)] (by kernel_rfl) (by kernel_rfl) ?_
            refine WO.done (by kernel_rfl) ?_
            refine WQ.keep [0, 1, 6, 7, 8, 9, 10, 14, 21, 48] (e' := [(0, .slice (some ad_l) n cap), (1, .bool false), (6, .bool ok), (7, .float .f64 m), (8, .int .i64 (k : Int)), (9, .bool false), (10, .bool false), (14, .bool true), (21, .bool false), (48, .bool true)]) (by kernel_rfl) ?_
            refine WQ.thenN ?_
            refine WE.condT (by kernel_rfl) ?_
            refine WE.seq ?_
            -- R10 ref.go:73
            refine WE.region ?_
            refine WO.run 2 0 [(50, .int .i64 (k : Int)), (49, .slice (some ad_l) n cap)] (by kernel_rfl) (by kernel_rfl) ?_
            refine WO.ix (SQ.F 2 (by kernel_rfl)) 51 (ad_l.add k) ad_l n 1 (k : Int) (by kernel_rfl) (by omega) (by omega) (by congr 1 <;> omega) ?_
            refine WO.ld (SQ.S 3 (by kernel_rfl)) 52 (.float .f64 (g0 l k)) (by kernel_rfl) (same (HA.cell0 hcl_l)) ?_
            refine WO.run 1 4 [(7, .float .f64 (g0 l k))] (by kernel_rfl) (by kernel_rfl) ?_
            refine WO.done (by kernel_rfl) ?_
            refine WQ.keep [0, 1, 6, 7, 8, 9, 10, 14, 21, 48] (e' := [(0, .slice (some ad_l) n cap), (1, .bool false), (6, .bool ok), (7, .float .f64 (g0 l k)), (8, .int .i64 (k : Int)), (9, .bool false), (10, .bool false), (14, .bool true), (21, .bool false), (48, .bool true)]) (by kernel_rfl) ?_
            refine WQ.thenN ?_
            -- R11 ref.go:74
            refine WE.region ?_
            refine WO.run 1 0 [(6, .bool true)] (by kernel_rfl) (by kernel_rfl) ?_
            refine WO.done (by kernel_rfl) ?_
            refine WQ.keep [0, 1, 6, 7, 8, 9, 10, 14, 21, 48] (e' := [(0, .slice (some ad_l) n cap), (1, .bool false), (6, .bool true), (7, .float .f64 (g0 l k)), (8, .int .i64 (k : Int)), (9, .bool false), (10, .bool false), (14, .bool true), (21, .bool false), (48, .bool true)]) (by kernel_rfl) ?_
            refine WQ.blkN ?_
            refine WQ.thenN ?_
            -- R5 ref.go:66
            refine WE.region ?_
            refine WO.run 1 0 [(15, .int .i64 (k : Int))] (by kernel_rfl) (by kernel_rfl) ?_
            refine WO.one (SQ.F 1 (by kernel_rfl)) 16 (.int .i64 (IntKind.i64.wrap ((k : Int) + 1))) (by kernel_rfl) ?_
            refine WO.top (v' := .int .i64 ((k + 1 : Nat) : Int)) (wrap_i64 (by omega) (by omega)) ?_
            refine WO.run 1 2 [(8, .int .i64 ((k + 1 : Nat) : Int))] (by kernel_rfl) (by kernel_rfl) ?_
            refine WO.done (by kernel_rfl) ?_
            refine WQ.keep [0, 1, 6, 7, 8, 9, 10, 14, 21, 48] (e' := [(0, .slice (some ad_l) n cap), (1, .bool false), (6, .bool true), (7, .float .f64 (g0 l k)), (8, .int .i64 ((k + 1 : Nat) : Int)), (9, .bool false), (10, .bool false), (14, .bool true), (21, .bool false), (48, .bool true)]) (by kernel_rfl) ?_
            refine WQ.round ?_
            intro a_ ha_
            refine ⟨(k + 1, g0 l k, true), ?_, ha_.keep [0, 1, 6, 7, 8] (by kernel_rfl), ?_⟩
            · show n - (k + 1) < n - k; omega
            · exact ⟨by show k + 1 ≤ n; omega, by show _ = bs lessB (best lessB l k) (g0 l k); rw [← hb]; simp [bs, h4, h7, h15, h17], hall k (by omega), HA⟩
  · intro h1
    refine WO.done (by kernel_rfl) ?_
    refine WQ.keep [0, 1, 6, 7, 8, 14] (e' := [(0, .slice A n cap), (1, .bool false), (6, .bool ok), (7, .float .f64 m), (8, .int .i64 (k : Int)), (14, .bool false)]) (by kernel_rfl) ?_
    refine WQ.thenN ?_
    refine WE.condF (by kernel_rfl) ?_
    refine WE.exit ?_
    refine WQ.thenE ?_
    refine WQ.thenE ?_
    refine WQ.blkE ?_
    refine WQ.thenN ?_
    refine WE.seq ?_
    -- R12 ref.go:77
    refine WE.region ?_
    refine WO.run 4 0 [(5, .bool ok), (4, .float .f64 m), (54, .bool ok), (53, .float .f64 m)] (by kernel_rfl) (by kernel_rfl) ?_
    refine WO.done (by kernel_rfl) ?_
    refine WQ.keep [0, 1, 4, 5, 6, 7, 8, 14] (e' := [(0, .slice A n cap), (1, .bool false), (4, .float .f64 m), (5, .bool ok), (6, .bool ok), (7, .float .f64 m), (8, .int .i64 (k : Int)), (14, .bool false)]) (by kernel_rfl) ?_
    refine WQ.thenN ?_
    refine WE.ret ?_
    refine WQ.ret (v := .tuple #[.float .f64 m, .bool ok]) (by kernel_rfl) ?_
    obtain rfl : k = n := by omega
    exact ⟨by rw [← hb], HA⟩

set_option maxRecDepth 100000 in
set_option maxHeartbeats 400000 in
theorem best_most (A : Option Addr) (n cap : Nat) (l : List Nat) (w : World) (hn : l.length = n) (hm : n ≤ 1000000) (hall : All l) (hrd : Rd w A l) :
    Calls Try.prog 53 #[.slice A n cap, .func (.func 54) #[] #[]] w fun e w' => e = .returned (.tuple #[.float .f64 (best (fun x y => lessB y x) l n).1, .bool (best (fun x y => lessB y x) l n).2]) ∧ Fr [] w w' := by
  have HA := Fr.refl [] w
  refine enter (N := 33) Try.func53 (c := _) rfl (by kernel_rfl) (by kernel_rfl) (e := [(0, .slice A n cap), (1, .func (.func 54) #[] #[])]) (by kernel_rfl) ?_
  refine WE.seq ?_
  -- R0 edge.go:28
  refine WE.region ?_
  refine WO.run 2 0 [(5, .bool false), (4, .float .f64 0)] (by kernel_rfl) (by kernel_rfl) ?_
  refine WO.done (by kernel_rfl) ?_
  refine WQ.keep [0, 1, 4, 5] (e' := [(0, .slice A n cap), (1, .func (.func 54) #[] #[]), (4, .float .f64 0), (5, .bool false)]) (by kernel_rfl) ?_
  refine WQ.thenN ?_
  refine WE.seq ?_
  -- R1 edge.go:29
  refine WE.region ?_
  refine WO.run 1 0 [(6, .float .f64 0)] (by kernel_rfl) (by kernel_rfl) ?_
  refine WO.done (by kernel_rfl) ?_
  refine WQ.keep [0, 1, 4, 5, 6] (e' := [(0, .slice A n cap), (1, .func (.func 54) #[] #[]), (4, .float .f64 0), (5, .bool false), (6, .float .f64 0)]) (by kernel_rfl) ?_
  refine WQ.thenN ?_
  refine WE.seq ?_
  -- R2 edge.go:30
  refine WE.region ?_
  refine WO.run 1 0 [(7, .bool false)] (by kernel_rfl) (by kernel_rfl) ?_
  refine WO.done (by kernel_rfl) ?_
  refine WQ.keep [0, 1, 4, 5, 6, 7] (e' := [(0, .slice A n cap), (1, .func (.func 54) #[] #[]), (4, .float .f64 0), (5, .bool false), (6, .float .f64 0), (7, .bool false)]) (by kernel_rfl) ?_
  refine WQ.thenN ?_
  refine WE.seq ?_
  refine WE.seq ?_
  -- R3 edge.go:31
  refine WE.region ?_
  refine WO.run 3 0 [(12, .int .i64 0), (11, .int .i64 (n : Int)), (10, .slice A n cap)] (by kernel_rfl) (by kernel_rfl) ?_
  refine WO.done (by kernel_rfl) ?_
  refine WQ.keep [0, 1, 4, 5, 6, 7, 10, 11, 12] (e' := [(0, .slice A n cap), (1, .func (.func 54) #[] #[]), (4, .float .f64 0), (5, .bool false), (6, .float .f64 0), (7, .bool false), (10, .slice A n cap), (11, .int .i64 (n : Int)), (12, .int .i64 0)]) (by kernel_rfl) ?_
  refine WQ.thenN ?_
  refine WE.block ?_
  refine WE.loop (α := Nat × Nat × Bool) (E := fun z => [(1, .func (.func 54) #[] #[]), (6, .float .f64 z.2.1), (7, .bool z.2.2), (10, .slice A n cap), (11, .int .i64 (n : Int)), (12, .int .i64 (z.1 : Int))]) (I := fun z wr => z.1 ≤ n ∧ (z.2.1, z.2.2) = best (fun x y => lessB y x) l z.1 ∧ z.2.1 < 18446744073709551616 ∧ Fr [] w wr) (m := fun z => n - z.1) (0, 0, false) [1, 6, 7, 10, 11, 12] (by kernel_rfl) ?_ ?_
  · exact ⟨Nat.zero_le _, rfl, by decide, HA⟩
  rintro ⟨k, m, ok⟩ wr ⟨hk, hb, hmb, HA⟩
  dsimp only at hk hb hmb
  refine WE.seq ?_
  -- R4 edge.go:31
  refine WE.region ?_
  refine WO.one (SQ.F 0 (by kernel_rfl)) 13 (.bool (decide (((k : Int) : Int) < (n : Int)))) (by kernel_rfl) ?_
  refine WO.topP (((k : Int) : Int) < (n : Int)) ?_ ?_
  · intro h1
    refine WO.done (by kernel_rfl) ?_
    refine WQ.keep [1, 6, 7, 10, 11, 12, 13] (e' := [(1, .func (.func 54) #[] #[]), (6, .float .f64 m), (7, .bool ok), (10, .slice A n cap), (11, .int .i64 (n : Int)), (12, .int .i64 (k : Int)), (13, .bool true)]) (by kernel_rfl) ?_
    refine WQ.thenN ?_
    refine WE.seq ?_
    refine WE.condT (by kernel_rfl) ?_
    refine WE.skip ?_
    refine WQ.thenN ?_
    refine WE.seq ?_
    refine WE.block ?_
    refine WE.seq ?_
    -- R5 edge.go:31
    refine WE.region ?_
    obtain ⟨ad_l, hA_l, hcl_l⟩ := hrd k (by omega)
    subst hA_l
    refine WO.ix (SQ.F 0 (by kernel_rfl)) 14 (ad_l.add k) ad_l n 1 (k : Int) (by kernel_rfl) (by omega) (by omega) (by congr 1 <;> omega) ?_
    refine WO.ld (SQ.S 1 (by kernel_rfl)) 15 (.float .f64 (g0 l k)) (by kernel_rfl) (same (HA.cell0 hcl_l)) ?_
    refine WO.run 1 2 [(9, .float .f64 (g0 l k))] (by kernel_rfl) (by kernel_rfl) ?_
    refine WO.done (by kernel_rfl) ?_
    refine WQ.keep [1, 6, 7, 9, 10, 11, 12, 13] (e' := [(1, .func (.func 54) #[] #[]), (6, .float .f64 m), (7, .bool ok), (9, .float .f64 (g0 l k)), (10, .slice (some ad_l) n cap), (11, .int .i64 (n : Int)), (12, .int .i64 (k : Int)), (13, .bool true)]) (by kernel_rfl) ?_
    refine WQ.thenN ?_
    refine WE.seq ?_
    -- R6 edge.go:32
    refine WE.region ?_
    refine WO.run 1 0 [(16, .float .f64 (g0 l k))] (by kernel_rfl) (by kernel_rfl) ?_
    refine WO.call (SQ.E 1 (by kernel_rfl)) 17 (by kernel_rfl) (isnan_f (g0 l k) _) ?_
    rintro _ w2 ⟨rfl, F3⟩
    refine ⟨_, rfl, trivial, ?_⟩
    have HA := Fr.step0 HA F3
    refine WO.topB (nanB (g0 l k)) ?_ ?_
    · intro h4
      refine WO.run 11 2 [(28, .bool false), (27, undef), (26, undef), (25, undef), (24, undef), (23, undef), (22, undef), (21, undef), (20, undef), (19, .bool false), (18, .bool false)] (by kernel_rfl) (by kernel_rfl) ?_
      refine WO.done (by kernel_rfl) ?_
      refine WQ.keep [1, 6, 7, 9, 10, 11, 12, 13, 28] (e' := [(1, .func (.func 54) #[] #[]), (6, .float .f64 m), (7, .bool ok), (9, .float .f64 (g0 l k)), (10, .slice (some ad_l) n cap), (11, .int .i64 (n : Int)), (12, .int .i64 (k : Int)), (13, .bool true), (28, .bool false)]) (by kernel_rfl) ?_
      refine WQ.thenN ?_
      refine WE.condF (by kernel_rfl) ?_
      refine WE.skip ?_
      refine WQ.blkN ?_
      refine WQ.thenN ?_
      -- R8 edge.go:31
      refine WE.region ?_
      refine WO.one (SQ.F 0 (by kernel_rfl)) 30 (.int .i64 (IntKind.i64.wrap ((k : Int) + 1))) (by kernel_rfl) ?_
      refine WO.top (v' := .int .i64 ((k + 1 : Nat) : Int)) (wrap_i64 (by omega) (by omega)) ?_
      refine WO.run 1 1 [(12, .int .i64 ((k + 1 : Nat) : Int))] (by kernel_rfl) (by kernel_rfl) ?_
      refine WO.done (by kernel_rfl) ?_
      refine WQ.keep [1, 6, 7, 9, 10, 11, 12, 13, 28] (e' := [(1, .func (.func 54) #[] #[]), (6, .float .f64 m), (7, .bool ok), (9, .float .f64 (g0 l k)), (10, .slice (some ad_l) n cap), (11, .int .i64 (n : Int)), (12, .int .i64 ((k + 1 : Nat) : Int)), (13, .bool true), (28, .bool false)]) (by kernel_rfl) ?_
      refine WQ.round ?_
      intro a_ ha_
      refine ⟨(k + 1, m, ok), ?_, ha_.keep [1, 6, 7, 10, 11, 12] (by kernel_rfl), ?_⟩
      · show n - (k + 1) < n - k; omega
      · exact ⟨by show k + 1 ≤ n; omega, by show _ = bs (fun x y => lessB y x) (best (fun x y => lessB y x) l k) (g0 l k); rw [← hb]; simp [bs, h4], hmb, HA⟩
    · intro h4
      refine WO.run 2 2 [(19, .bool true), (18, .bool true)] (by kernel_rfl) (by kernel_rfl) ?_
      refine WO.one (SQ.F 4 (by kernel_rfl)) 20 (.bool ok) (by kernel_rfl) ?_
      refine WO.topB (ok) ?_ ?_
      · intro h5
        refine WO.run 5 5 [(25, .float .f64 m), (24, .float .f64 (g0 l k)), (23, .func (.func 54) #[] #[]), (22, .bool false), (21, .bool false)] (by kernel_rfl) (by kernel_rfl) ?_
        refine WO.call (SQ.E 10 (by kernel_rfl)) 26 (by kernel_rfl) (most_f (g0 l k) m _ (hall k (by omega)) hmb) ?_
        rintro _ w6 ⟨rfl, F7⟩
        refine ⟨_, rfl, trivial, ?_⟩
        have HA := Fr.step0 HA F7
        refine WO.topB (lessB m (g0 l k)) ?_ ?_
        · intro h8
          refine WO.run 2 11 [(28, .bool true), (27, .bool true)] (by kernel_rfl) (by kernel_rfl) ?_
          refine WO.done (by kernel_rfl) ?_
          refine WQ.keep [1, 6, 7, 9, 10, 11, 12, 13, 28] (e' := [(1, .func (.func 54) #[] #[]), (6, .float .f64 m), (7, .bool ok), (9, .float .f64 (g0 l k)), (10, .slice (some ad_l) n cap), (11, .int .i64 (n : Int)), (12, .int .i64 (k : Int)), (13, .bool true), (28, .bool true)]) (by kernel_rfl) ?_
          refine WQ.thenN ?_
          refine WE.condT (by kernel_rfl) ?_
          -- R7 edge.go:33
          refine WE.region ?_
          refine WO.run 3 0 [(7, .bool true), (6, .float .f64 (g0 l k)), (29, .float .f64 (g0 l k))] (by kernel_rfl) (by kernel_rfl) ?_
          refine WO.done (by kernel_rfl) ?_
          refine WQ.keep [1, 6, 7, 9, 10, 11, 12, 13, 28] (e' := [(1, .func (.func 54) #[] #[]), (6, .float .f64 (g0 l k)), (7, .bool true), (9, .float .f64 (g0 l k)), (10, .slice (some ad_l) n cap), (11, .int .i64 (n : Int)), (12, .int .i64 (k : Int)), (13, .bool true), (28, .bool true)]) (by kernel_rfl) ?_
          refine WQ.blkN ?_
          refine WQ.thenN ?_
          -- R8 edge.go:31
          refine WE.region ?_
          refine WO.one (SQ.F 0 (by kernel_rfl)) 30 (.int .i64 (IntKind.i64.wrap ((k : Int) + 1))) (by kernel_rfl) ?_
          refine WO.top (v' := .int .i64 ((k + 1 : Nat) : Int)) (wrap_i64 (by omega) (by omega)) ?_
          refine WO.run 1 1 [(12, .int .i64 ((k + 1 : Nat) : Int))] (by kernel_rfl) (by kernel_rfl) ?_
          refine WO.done (by kernel_rfl) ?_
          refine WQ.keep [1, 6, 7, 9, 10, 11, 12, 13, 28] (e' := [(1, .func (.func 54) #[] #[]), (6, .float .f64 (g0 l k)), (7, .bool true), (9, .float .f64 (g0 l k)), (10, .slice (some ad_l) n cap), (11, .int .i64 (n : Int)), (12, .int .i64 ((k + 1 : Nat) : Int)), (13, .bool true), (28, .bool true)]) (by kernel_rfl) ?_
          refine WQ.round ?_
          intro a_ ha_
          refine ⟨(k + 1, g0 l k, true), ?_, ha_.keep [1, 6, 7, 10, 11, 12] (by kernel_rfl), ?_⟩
          · show n - (k + 1) < n - k; omega
          · exact ⟨by show k + 1 ≤ n; omega, by show _ = bs (fun x y => lessB y x) (best (fun x y => lessB y x) l k) (g0 l k); rw [← hb]; simp [bs, h4, h5, h8], hall k (by omega), HA⟩
        · intro h8
          refine WO.run 2 11 [(28, .bool false), (27, .bool false)] (by kernel_rfl) (by kernel_rfl) ?_
          refine WO.done (by kernel_rfl) ?_
          refine WQ.keep [1, 6, 7, 9, 10, 11, 12, 13, 28] (e' := [(1, .func (.func 54) #[] #[]), (6, .float .f64 m), (7, .bool ok), (9, .float .f64 (g0 l k)), (10, .slice (some ad_l) n cap), (11, .int .i64 (n : Int)), (12, .int .i64 (k : Int)), (13, .bool true), (28, .bool false)]) (by kernel_rfl) ?_
          refine WQ.thenN ?_
          refine WE.condF (by kernel_rfl) ?_
          refine WE.skip ?_
          refine WQ.blkN ?_
          refine WQ.thenN ?_
          -- R8 edge.go:31
          refine WE.region ?_
          refine WO.one (SQ.F 0 (by kernel_rfl)) 30 (.int .i64 (IntKind.i64.wrap ((k : Int) + 1))) (by kernel_rfl) ?_
          refine WO.top (v' := .int .i64 ((k + 1 : Nat) : Int)) (wrap_i64 (by omega) (by omega)) ?_
          refine WO.run 1 1 [(12, .int .i64 ((k + 1 : Nat) : Int))] (by kernel_rfl) (by kernel_rfl) ?_
          refine WO.done (by kernel_rfl) ?_
          refine WQ.keep [1, 6, 7, 9, 10, 11, 12, 13, 28] (e' := [(1, .func (.func 54) #[] #[]), (6, .float .f64 m), (7, .bool ok), (9, .float .f64 (g0 l k)), (10, .slice (some ad_l) n cap), (11, .int .i64 (n : Int)), (12, .int .i64 ((k + 1 : Nat) : Int)), (13, .bool true), (28, .bool false)]) (by kernel_rfl) ?_
          refine WQ.round ?_
          intro a_ ha_
          refine ⟨(k + 1, m, ok), ?_, ha_.keep [1, 6, 7, 10, 11, 12] (by kernel_rfl), ?_⟩
          · show n - (k + 1) < n - k; omega
          · exact ⟨by show k + 1 ≤ n; omega, by show _ = bs (fun x y => lessB y x) (best (fun x y => lessB y x) l k) (g0 l k); rw [← hb]; simp [bs, h4, h5, h8], hmb, HA⟩
      · intro h5
        refine WO.run 8 5 [(28, .bool true), (27, .bool true), (26, undef), (25, undef), (24, undef), (23, undef), (22, .bool true), (21, .bool true)] (by kernel_rfl) (by kernel_rfl) ?_
        refine WO.done (by kernel_rfl) ?_
        refine WQ.keep [1, 6, 7, 9, 10, 11, 12, 13, 28] (e' := [(1, .func (.func 54) #[] #[]), (6, .float .f64 m), (7, .bool ok), (9, .float .f64 (g0 l k)), (10, .slice (some ad_l) n cap), (11, .int .i64 (n : Int)), (12, .int .i64 (k : Int)), (13, .bool true), (28, .bool true)]) (by kernel_rfl) ?_
        refine WQ.thenN ?_
        refine WE.condT (by kernel_rfl) ?_
        -- R7 edge.go:33
        refine WE.region ?_
        refine WO.run 3 0 [(7, .bool true), (6, .float .f64 (g0 l k)), (29, .float .f64 (g0 l k))] (by kernel_rfl) (by kernel_rfl) ?_
        refine WO.done (by kernel_rfl) ?_
        refine WQ.keep [1, 6, 7, 9, 10, 11, 12, 13, 28] (e' := [(1, .func (.func 54) #[] #[]), (6, .float .f64 (g0 l k)), (7, .bool true), (9, .float .f64 (g0 l k)), (10, .slice (some ad_l) n cap), (11, .int .i64 (n : Int)), (12, .int .i64 (k : Int)), (13, .bool true), (28, .bool true)]) (by kernel_rfl) ?_
        refine WQ.blkN ?_
        refine WQ.thenN ?_
        -- R8 edge.go:31
        refine WE.region ?_
        refine WO.one (SQ.F 0 (by kernel_rfl)) 30 (.int .i64 (IntKind.i64.wrap ((k : Int) + 1))) (by kernel_rfl) ?_
        refine WO.top (v' := .int .i64 ((k + 1 : Nat) : Int)) (wrap_i64 (by omega) (by omega)) ?_
        refine WO.run 1 1 [(12, .int .i64 ((k + 1 : Nat) : Int))] (by kernel_rfl) (by kernel_rfl) ?_
        refine WO.done (by kernel_rfl) ?_
        refine WQ.keep [1, 6, 7, 9, 10, 11, 12, 13, 28] (e' := [(1, .func (.func 54) #[] #[]), (6, .float .f64 (g0 l k)), (7, .bool true), (9, .float .f64 (g0 l k)), (10, .slice (some ad_l) n cap), (11, .int .i64 (n : Int)), (12, .int .i64 ((k + 1 : Nat) : Int)), (13, .bool true), (28, .bool true)]) (by kernel_rfl) ?_
        refine WQ.round ?_
        intro a_ ha_
        refine ⟨(k + 1, g0 l k, true), ?_, ha_.keep [1, 6, 7, 10, 11, 12] (by kernel_rfl), ?_⟩
        · show n - (k + 1) < n - k; omega
        · exact ⟨by show k + 1 ≤ n; omega, by show _ = bs (fun x y => lessB y x) (best (fun x y => lessB y x) l k) (g0 l k); rw [← hb]; simp [bs, h4, h5], hall k (by omega), HA⟩
  · intro h1
    refine WO.done (by kernel_rfl) ?_
    refine WQ.keep [1, 6, 7, 10, 11, 12, 13] (e' := [(1, .func (.func 54) #[] #[]), (6, .float .f64 m), (7, .bool ok), (10, .slice A n cap), (11, .int .i64 (n : Int)), (12, .int .i64 (k : Int)), (13, .bool false)]) (by kernel_rfl) ?_
    refine WQ.thenN ?_
    refine WE.seq ?_
    refine WE.condF (by kernel_rfl) ?_
    refine WE.exit ?_
    refine WQ.thenE ?_
    refine WQ.thenE ?_
    refine WQ.blkE ?_
    refine WQ.thenN ?_
    refine WE.seq ?_
    -- R9 edge.go:36
    refine WE.region ?_
    refine WO.run 4 0 [(5, .bool ok), (4, .float .f64 m), (32, .bool ok), (31, .float .f64 m)] (by kernel_rfl) (by kernel_rfl) ?_
    refine WO.done (by kernel_rfl) ?_
    refine WQ.keep [1, 4, 5, 6, 7, 10, 11, 12, 13] (e' := [(1, .func (.func 54) #[] #[]), (4, .float .f64 m), (5, .bool ok), (6, .float .f64 m), (7, .bool ok), (10, .slice A n cap), (11, .int .i64 (n : Int)), (12, .int .i64 (k : Int)), (13, .bool false)]) (by kernel_rfl) ?_
    refine WQ.thenN ?_
    refine WE.ret ?_
    refine WQ.ret (v := .tuple #[.float .f64 m, .bool ok]) (by kernel_rfl) ?_
    obtain rfl : k = n := by omega
    exact ⟨by rw [← hb], HA⟩

set_option maxRecDepth 100000 in
set_option maxHeartbeats 400000 in
theorem most_any (A : Option Addr) (n cap : Nat) (l : List Nat) (w : World) (hn : l.length = n) (hm : n ≤ 1000000) (hall : All l) (hrd : Rd w A l) :
    Calls Try.prog 33 #[.slice A n cap] w fun e w' => e = .returned (.tuple #[.float .f64 (best (fun x y => lessB y x) l n).1, .bool (best (fun x y => lessB y x) l n).2]) ∧ Fr [] w w' := by
  have HA := Fr.refl [] w
  refine enter (N := 8) Try.func33 (c := _) rfl (by kernel_rfl) (by kernel_rfl) (e := [(0, .slice A n cap)]) (by kernel_rfl) ?_
  refine WE.seq ?_
  -- R0 edge.go:43
  refine WE.region ?_
  refine WO.run 2 0 [(3, .bool false), (2, .float .f64 0)] (by kernel_rfl) (by kernel_rfl) ?_
  refine WO.done (by kernel_rfl) ?_
  refine WQ.keep [0, 2, 3] (e' := [(0, .slice A n cap), (2, .float .f64 0), (3, .bool false)]) (by kernel_rfl) ?_
  refine WQ.thenN ?_
  refine WE.seq ?_
  -- R1 edge.go:44
  refine WE.region ?_
  refine WO.run 1 0 [(4, .slice A n cap)] (by kernel_rfl) (by kernel_rfl) ?_
  refine WO.call (SQ.E 1 (by kernel_rfl)) 5 (by kernel_rfl) (best_most A n cap l _ hn hm hall (hrd.keep HA)) ?_
  rintro _ w1 ⟨rfl, F2⟩
  refine ⟨_, rfl, trivial, ?_⟩
  have HA := Fr.step0 HA F2
  refine WO.run 4 2 [(3, .bool ((best (fun x y => lessB y x) l n).2)), (2, .float .f64 ((best (fun x y => lessB y x) l n).1)), (7, .bool ((best (fun x y => lessB y x) l n).2)), (6, .float .f64 ((best (fun x y => lessB y x) l n).1))] (by kernel_rfl) (by kernel_rfl) ?_
  refine WO.done (by kernel_rfl) ?_
  refine WQ.keep [0, 2, 3] (e' := [(0, .slice A n cap), (2, .float .f64 ((best (fun x y => lessB y x) l n).1)), (3, .bool ((best (fun x y => lessB y x) l n).2))]) (by kernel_rfl) ?_
  refine WQ.thenN ?_
  refine WE.ret ?_
  refine WQ.ret (v := .tuple #[.float .f64 ((best (fun x y => lessB y x) l n).1), .bool ((best (fun x y => lessB y x) l n).2)]) (by kernel_rfl) ?_
  exact ⟨rfl, HA⟩

set_option maxRecDepth 100000 in
set_option maxHeartbeats 400000 in
theorem ref_most (A : Option Addr) (n cap : Nat) (l : List Nat) (w : World) (hn : l.length = n) (hm : n ≤ 1000000) (hall : All l) (hrd : Rd w A l) :
    Calls Try.prog 34 #[.slice A n cap, .bool true] w fun e w' => e = .returned (.tuple #[.float .f64 (best (fun x y => lessB y x) l n).1, .bool (best (fun x y => lessB y x) l n).2]) ∧ Fr [] w w' := by
  have HA := Fr.refl [] w
  refine enter (N := 55) Try.func34 (c := _) rfl (by kernel_rfl) (by kernel_rfl) (e := [(0, .slice A n cap), (1, .bool true)]) (by kernel_rfl) ?_
  refine WE.seq ?_
  -- R0 ref.go:63
  refine WE.region ?_
  refine WO.run 2 0 [(5, .bool false), (4, .float .f64 0)] (by kernel_rfl) (by kernel_rfl) ?_
  refine WO.done (by kernel_rfl) ?_
  refine WQ.keep [0, 1, 4, 5] (e' := [(0, .slice A n cap), (1, .bool true), (4, .float .f64 0), (5, .bool false)]) (by kernel_rfl) ?_
  refine WQ.thenN ?_
  refine WE.seq ?_
  -- R1 ref.go:64
  refine WE.region ?_
  refine WO.run 1 0 [(6, .bool false)] (by kernel_rfl) (by kernel_rfl) ?_
  refine WO.done (by kernel_rfl) ?_
  refine WQ.keep [0, 1, 4, 5, 6] (e' := [(0, .slice A n cap), (1, .bool true), (4, .float .f64 0), (5, .bool false), (6, .bool false)]) (by kernel_rfl) ?_
  refine WQ.thenN ?_
  refine WE.seq ?_
  -- R2 ref.go:65
  refine WE.region ?_
  refine WO.run 1 0 [(7, .float .f64 0)] (by kernel_rfl) (by kernel_rfl) ?_
  refine WO.done (by kernel_rfl) ?_
  refine WQ.keep [0, 1, 4, 5, 6, 7] (e' := [(0, .slice A n cap), (1, .bool true), (4, .float .f64 0), (5, .bool false), (6, .bool false), (7, .float .f64 0)]) (by kernel_rfl) ?_
  refine WQ.thenN ?_
  refine WE.seq ?_
  refine WE.seq ?_
  -- R3 ref.go:66
  refine WE.region ?_
  refine WO.run 1 0 [(8, .int .i64 0)] (by kernel_rfl) (by kernel_rfl) ?_
  refine WO.done (by kernel_rfl) ?_
  refine WQ.keep [0, 1, 4, 5, 6, 7, 8] (e' := [(0, .slice A n cap), (1, .bool true), (4, .float .f64 0), (5, .bool false), (6, .bool false), (7, .float .f64 0), (8, .int .i64 0)]) (by kernel_rfl) ?_
  refine WQ.thenN ?_
  refine WE.block ?_
  refine WE.loop (α := Nat × Nat × Bool) (E := fun z => [(0, .slice A n cap), (1, .bool true), (6, .bool z.2.2), (7, .float .f64 z.2.1), (8, .int .i64 (z.1 : Int))]) (I := fun z wr => z.1 ≤ n ∧ (z.2.1, z.2.2) = best (fun x y => lessB y x) l z.1 ∧ z.2.1 < 18446744073709551616 ∧ Fr [] w wr) (m := fun z => n - z.1) (0, 0, false) [0, 1, 6, 7, 8] (by kernel_rfl) ?_ ?_
  · exact ⟨Nat.zero_le _, rfl, by decide, HA⟩
  rintro ⟨k, m, ok⟩ wr ⟨hk, hb, hmb, HA⟩
  dsimp only at hk hb hmb
  refine WE.seq ?_
  refine WE.seq ?_
  -- R4 ref.go:66
  refine WE.region ?_
  refine WO.run 3 0 [(13, .int .i64 (n : Int)), (12, .slice A n cap), (11, .int .i64 (k : Int))] (by kernel_rfl) (by kernel_rfl) ?_
  refine WO.one (SQ.F 3 (by kernel_rfl)) 14 (.bool (decide (((k : Int) : Int) < (n : Int)))) (by kernel_rfl) ?_
  refine WO.topP (((k : Int) : Int) < (n : Int)) ?_ ?_
  · intro h1
    refine WO.done (by kernel_rfl) ?_
    refine WQ.keep [0, 1, 6, 7, 8, 14] (e' := [(0, .slice A n cap), (1, .bool true), (6, .bool ok), (7, .float .f64 m), (8, .int .i64 (k : Int)), (14, .bool true)]) (by kernel_rfl) ?_
    refine WQ.thenN ?_
    refine WE.condT (by kernel_rfl) ?_
    refine WE.skip ?_
    refine WQ.thenN ?_
    refine WE.seq ?_
    refine WE.block ?_
    refine WE.seq ?_
    refine WE.seq ?_
    -- R6 ref.go:67
    refine WE.region ?_
    refine WO.run 2 0 [(18, .int .i64 (k : Int)), (17, .slice A n cap)] (by kernel_rfl) (by kernel_rfl) ?_
    obtain ⟨ad_l, hA_l, hcl_l⟩ := hrd k (by omega)
    subst hA_l
    refine WO.ix (SQ.F 2 (by kernel_rfl)) 19 (ad_l.add k) ad_l n 1 (k : Int) (by kernel_rfl) (by omega) (by omega) (by congr 1 <;> omega) ?_
    refine WO.ld (SQ.S 3 (by kernel_rfl)) 20 (.float .f64 (g0 l k)) (by kernel_rfl) (same (HA.cell0 hcl_l)) ?_
    refine WO.call (SQ.E 4 (by kernel_rfl)) 21 (by kernel_rfl) (none_f (g0 l k) _) ?_
    rintro _ w2 ⟨rfl, F3⟩
    refine ⟨_, rfl, trivial, ?_⟩
    have HA := Fr.step0 HA F3
    refine WO.topB (nanB (g0 l k)) ?_ ?_
    · intro h4
      refine WO.done (by kernel_rfl) ?_
      refine WQ.keep [0, 1, 6, 7, 8, 14, 21] (e' := [(0, .slice (some ad_l) n cap), (1, .bool true), (6, .bool ok), (7, .float .f64 m), (8, .int .i64 (k : Int)), (14, .bool true), (21, .bool true)]) (by kernel_rfl) ?_
      refine WQ.thenN ?_
      refine WE.condT (by kernel_rfl) ?_
      refine WE.exit ?_
      refine WQ.thenE ?_
      refine WQ.blkE ?_
      refine WQ.thenN ?_
      -- R5 ref.go:66
      refine WE.region ?_
      refine WO.run 1 0 [(15, .int .i64 (k : Int))] (by kernel_rfl) (by kernel_rfl) ?_
      refine WO.one (SQ.F 1 (by kernel_rfl)) 16 (.int .i64 (IntKind.i64.wrap ((k : Int) + 1))) (by kernel_rfl) ?_
      refine WO.top (v' := .int .i64 ((k + 1 : Nat) : Int)) (wrap_i64 (by omega) (by omega)) ?_
      refine WO.run 1 2 [(8, .int .i64 ((k + 1 : Nat) : Int))] (by kernel_rfl) (by kernel_rfl) ?_
      refine WO.done (by kernel_rfl) ?_
      refine WQ.keep [0, 1, 6, 7, 8, 14, 21] (e' := [(0, .slice (some ad_l) n cap), (1, .bool true), (6, .bool ok), (7, .float .f64 m), (8, .int .i64 ((k + 1 : Nat) : Int)), (14, .bool true), (21, .bool true)]) (by kernel_rfl) ?_
      refine WQ.round ?_
      intro a_ ha_
      refine ⟨(k + 1, m, ok), ?_, ha_.keep [0, 1, 6, 7, 8] (by kernel_rfl), ?_⟩
      · show n - (k + 1) < n - k; omega
      · exact ⟨by show k + 1 ≤ n; omega, by show _ = bs (fun x y => lessB y x) (best (fun x y => lessB y x) l k) (g0 l k); rw [← hb]; simp [bs, h4], hmb, HA⟩
    · intro h4
      refine WO.done (by kernel_rfl) ?_
      refine WQ.keep [0, 1, 6, 7, 8, 14, 21] (e' := [(0, .slice (some ad_l) n cap), (1, .bool true), (6, .bool ok), (7, .float .f64 m), (8, .int .i64 (k : Int)), (14, .bool true), (21, .bool false)]) (by kernel_rfl) ?_
      refine WQ.thenN ?_
      refine WE.condF (by kernel_rfl) ?_
      refine WE.skip ?_
      refine WQ.thenN ?_
      refine WE.seq ?_
      -- R7 ref.go:70
      refine WE.region ?_
      refine WO.run 2 0 [(23, .int .i64 (k : Int)), (22, .slice (some ad_l) n cap)] (by kernel_rfl) (by kernel_rfl) ?_
      refine WO.ix (SQ.F 2 (by kernel_rfl)) 24 (ad_l.add k) ad_l n 1 (k : Int) (by kernel_rfl) (by omega) (by omega) (by congr 1 <;> omega) ?_
      refine WO.ld (SQ.S 3 (by kernel_rfl)) 25 (.float .f64 (g0 l k)) (by kernel_rfl) (same (HA.cell0 hcl_l)) ?_
      refine WO.run 1 4 [(26, .float .f64 m)] (by kernel_rfl) (by kernel_rfl) ?_
      refine WO.call (SQ.E 5 (by kernel_rfl)) 27 (by kernel_rfl) (refless_f (g0 l k) m _ (hall k (by omega)) hmb) ?_
      rintro _ w5 ⟨rfl, F6⟩
      refine ⟨_, rfl, trivial, ?_⟩
      have HA := Fr.step0 HA F6
      refine WO.topB (lessB (g0 l k) m) ?_ ?_
      · intro h7
        refine WO.run 1 6 [(9, .bool true)] (by kernel_rfl) (by kernel_rfl) ?_
        refine WO.done (by kernel_rfl) ?_
        refine WQ.keep [0, 1, 6, 7, 8, 9, 14, 21] (e' := [(0, .slice (some ad_l) n cap), (1, .bool true), (6, .bool ok), (7, .float .f64 m), (8, .int .i64 (k : Int)), (9, .bool true), (14, .bool true), (21, .bool false)]) (by kernel_rfl) ?_
        refine WQ.thenN ?_
        refine WE.seq ?_
        -- R8 ref.go:71
        refine WE.region ?_
        refine WO.run 3 0 [(30, .int .i64 (k : Int)), (29, .slice (some ad_l) n cap), (28, .float .f64 m)] (by kernel_rfl) (by kernel_rfl) ?_
        refine WO.ix (SQ.F 3 (by kernel_rfl)) 31 (ad_l.add k) ad_l n 1 (k : Int) (by kernel_rfl) (by omega) (by omega) (by congr 1 <;> omega) ?_
        refine WO.ld (SQ.S 4 (by kernel_rfl)) 32 (.float .f64 (g0 l k)) (by kernel_rfl) (same (HA.cell0 hcl_l)) ?_
        refine WO.call (SQ.E 5 (by kernel_rfl)) 33 (by kernel_rfl) (refless_f m (g0 l k) _ hmb (hall k (by omega))) ?_
        rintro _ w8 ⟨rfl, F9⟩
        refine ⟨_, rfl, trivial, ?_⟩
        have HA := Fr.step0 HA F9
        refine WO.topB (lessB m (g0 l k)) ?_ ?_
        · intro h10
          refine WO.run 1 6 [(10, .bool true)] (by kernel_rfl) (by kernel_rfl) ?_
          refine WO.done (by kernel_rfl) ?_
          refine WQ.keep [0, 1, 6, 7, 8, 9, 10, 14, 21] (e' := [(0, .slice (some ad_l) n cap), (1, .bool true), (6, .bool ok), (7, .float .f64 m), (8, .int .i64 (k : Int)), (9, .bool true), (10, .bool true), (14, .bool true), (21, .bool false)]) (by kernel_rfl) ?_
          refine WQ.thenN ?_
          refine WE.seq ?_
          -- R9 ref.go:72
          refine WE.region ?_
          refine WO.one (SQ.F 0 (by kernel_rfl)) 34 (.bool ok) (by kernel_rfl) ?_
          refine WO.topB (ok) ?_ ?_
          · intro h11
            refine WO.run 14 1 [(48, .bool true), (47, .bool true), (46, .bool true), (45, .bool true), (44, .bool true), (43, .bool false), (42, .bool false), (41, .bool false), (40, undef), (39, .bool false), (38, .bool false), (37, .bool true), (36, .bool false), (35, .bool false)] (by kernel_rfl) (by kernel_rfl) ?_
            refine WO.done (by kernel_rfl) ?_
            refine WQ.keep [0, 1, 6, 7, 8, 9, 10, 14, 21, 48] (e' := [(0, .slice (some ad_l) n cap), (1, .bool true), (6, .bool ok), (7, .float .f64 m), (8, .int .i64 (k : Int)), (9, .bool true), (10, .bool true), (14, .bool true), (21, .bool false), (48, .bool true)]) (by kernel_rfl) ?_
            refine WQ.thenN ?_
            refine WE.condT (by kernel_rfl) ?_
            refine WE.seq ?_
            -- R10 ref.go:73
            refine WE.region ?_
            refine WO.run 2 0 [(50, .int .i64 (k : Int)), (49, .slice (some ad_l) n cap)] (by kernel_rfl) (by kernel_rfl) ?_
            refine WO.ix (SQ.F 2 (by kernel_rfl)) 51 (ad_l.add k) ad_l n 1 (k : Int) (by kernel_rfl) (by omega) (by omega) (by congr 1 <;> omega) ?_
            refine WO.ld (SQ.S 3 (by kernel_rfl)) 52 (.float .f64 (g0 l k)) (by kernel_rfl) (same (HA.cell0 hcl_l)) ?_
            refine WO.run 1 4 [(7, .float .f64 (g0 l k))] (by kernel_rfl) (by kernel_rfl) ?_
            refine WO.done (by kernel_rfl) ?_
            refine WQ.keep [0, 1, 6, 7, 8, 9, 10, 14, 21, 48] (e' := [(0, .slice (some ad_l) n cap), (1, .bool true), (6, .bool ok), (7, .float .f64 (g0 l k)), (8, .int .i64 (k : Int)), (9, .bool true), (10, .bool true), (14, .bool true), (21, .bool false), (48, .bool true)]) (by kernel_rfl) ?_
            refine WQ.thenN ?_
            -- R11 ref.go:74
            refine WE.region ?_
            refine WO.run 1 0 [(6, .bool true)] (by kernel_rfl) (by kernel_rfl) ?_
            refine WO.done (by kernel_rfl) ?_
            refine WQ.keep [0, 1, 6, 7, 8, 9, 10, 14, 21, 48] (e' := [(0, .slice (some ad_l) n cap), (1, .bool true), (6, .bool true), (7, .float .f64 (g0 l k)), (8, .int .i64 (k : Int)), (9, .bool true), (10, .bool true), (14, .bool true), (21, .bool false), (48, .bool true)]) (by kernel_rfl) ?_
            refine WQ.blkN ?_
            refine WQ.thenN ?_
            -- R5 ref.go:66
            refine WE.region ?_
            refine WO.run 1 0 [(15, .int .i64 (k : Int))] (by kernel_rfl) (by kernel_rfl) ?_
            refine WO.one (SQ.F 1 (by kernel_rfl)) 16 (.int .i64 (IntKind.i64.wrap ((k : Int) + 1))) (by kernel_rfl) ?_
            refine WO.top (v' := .int .i64 ((k + 1 : Nat) : Int)) (wrap_i64 (by omega) (by omega)) ?_
            refine WO.run 1 2 [(8, .int .i64 ((k + 1 : Nat) : Int))] (by kernel_rfl) (by kernel_rfl) ?_
            refine WO.done (by kernel_rfl) ?_
            refine WQ.keep [0, 1, 6, 7, 8, 9, 10, 14, 21, 48] (e' := [(0, .slice (some ad_l) n cap), (1, .bool true), (6, .bool true), (7, .float .f64 (g0 l k)), (8, .int .i64 ((k + 1 : Nat) : Int)), (9, .bool true), (10, .bool true), (14, .bool true), (21, .bool false), (48, .bool true)]) (by kernel_rfl) ?_
            refine WQ.round ?_
            intro a_ ha_
            refine ⟨(k + 1, g0 l k, true), ?_, ha_.keep [0, 1, 6, 7, 8] (by kernel_rfl), ?_⟩
            · show n - (k + 1) < n - k; omega
            · exact ⟨by show k + 1 ≤ n; omega, by show _ = bs (fun x y => lessB y x) (best (fun x y => lessB y x) l k) (g0 l k); rw [← hb]; simp [bs, h4, h7, h10, h11], hall k (by omega), HA⟩
          · intro h11
            refine WO.run 14 1 [(48, .bool true), (47, undef), (46, undef), (45, undef), (44, undef), (43, .bool true), (42, .bool true), (41, undef), (40, undef), (39, undef), (38, undef), (37, undef), (36, .bool true), (35, .bool true)] (by kernel_rfl) (by kernel_rfl) ?_
            refine WO.done (by kernel_rfl) ?_
            refine WQ.keep [0, 1, 6, 7, 8, 9, 10, 14, 21, 48] (e' := [(0, .slice (some ad_l) n cap), (1, .bool true), (6, .bool ok), (7, .float .f64 m), (8, .int .i64 (k : Int)), (9, .bool true), (10, .bool true), (14, .bool true), (21, .bool false), (48, .bool true)]) (by kernel_rfl) ?_
            refine WQ.thenN ?_
            refine WE.condT (by kernel_rfl) ?_
            refine WE.seq ?_
            -- R10 ref.go:73
            refine WE.region ?_
            refine WO.run 2 0 [(50, .int .i64 (k : Int)), (49, .slice (some ad_l) n cap)] (by kernel_rfl) (by kernel_rfl) ?_
            refine WO.ix (SQ.F 2 (by kernel_rfl)) 51 (ad_l.add k) ad_l n 1 (k : Int) (by kernel_rfl) (by omega) (by omega) (by congr 1 <;> omega) ?_
            refine WO.ld (SQ.S 3 (by kernel_rfl)) 52 (.float .f64 (g0 l k)) (by kernel_rfl) (same (HA.cell0 hcl_l)) ?_
            refine WO.run 1 4 [(7, .float .f64 (g0 l k))] (by kernel_rfl) (by kernel_rfl) ?_
            refine WO.done (by kernel_rfl) ?_
            refine WQ.keep [0, 1, 6, 7, 8, 9, 10, 14, 21, 48] (e' := [(0, .slice (some ad_l) n cap), (1, .bool true), (6, .bool ok), (7, .float .f64 (g0 l k)), (8, .int .i64 (k : Int)), (9, .bool true), (10, .bool true), (14, .bool true), (21, .bool false), (48, .bool true)]) (by kernel_rfl) ?_
            refine WQ.thenN ?_
            -- R11 ref.go:74
            refine WE.region ?_
            refine WO.run 1 0 [(6, .bool true)] (by kernel_rfl) (by kernel_rfl) ?_
            refine WO.done (by kernel_rfl) ?_
            refine WQ.keep [0, 1, 6, 7, 8, 9, 10, 14, 21, 48] (e' := [(0, .slice (some ad_l) n cap), (1, .bool true), (6, .bool true), (7, .float .f64 (g0 l k)), (8, .int .i64 (k : Int)), (9, .bool true), (10, .bool true), (14, .bool true), (21, .bool false), (48, .bool true)]) (by kernel_rfl) ?_
            refine WQ.blkN ?_
            refine WQ.thenN ?_
            -- R5 ref.go:66
            refine WE.region ?_
            refine WO.run 1 0 [(15, .int .i64 (k : Int))] (by kernel_rfl) (by kernel_rfl) ?_
            refine WO.one (SQ.F 1 (by kernel_rfl)) 16 (.int .i64 (IntKind.i64.wrap ((k : Int) + 1))) (by kernel_rfl) ?_
            refine WO.top (v' := .int .i64 ((k + 1 : Nat) : Int)) (wrap_i64 (by omega) (by omega)) ?_
            refine WO.run 1 2 [(8, .int .i64 ((k + 1 : Nat) : Int))] (by kernel_rfl) (by kernel_rfl) ?_
            refine WO.done (by kernel_rfl) ?_
            refine WQ.keep [0, 1, 6, 7, 8, 9, 10, 14, 21, 48] (e' := [(0, .slice (some ad_l) n cap), (1, .bool true), (6, .bool true), (7, .float .f64 (g0 l k)), (8, .int .i64 ((k + 1 : Nat) : Int)), (9, .bool true), (10, .bool true), (14, .bool true), (21, .bool false), (48, .bool true)]) (by kernel_rfl) ?_
            refine WQ.round ?_
            intro a_ ha_
            refine ⟨(k + 1, g0 l k, true), ?_, ha_.keep [0, 1, 6, 7, 8] (by kernel_rfl), ?_⟩
            · show n - (k + 1) < n - k; omega
            · exact ⟨by show k + 1 ≤ n; omega, by show _ = bs (fun x y => lessB y x) (best (fun x y => lessB y x) l k) (g0 l k); rw [← hb]; simp [bs, h4, h7, h10, h11], hall k (by omega), HA⟩
        · intro h10
          refine WO.run 1 6 [(10, .bool false)] (by kernel_rfl) (by kernel_rfl) ?_
          refine WO.done (by kernel_rfl) ?_
          refine WQ.keep [0, 1, 6, 7, 8, 9, 10, 14, 21] (e' := [(0, .slice (some ad_l) n cap), (1, .bool true), (6, .bool ok), (7, .float .f64 m), (8, .int .i64 (k : Int)), (9, .bool true), (10, .bool false), (14, .bool true), (21, .bool false)]) (by kernel_rfl) ?_
          refine WQ.thenN ?_
          refine WE.seq ?_
          -- R9 ref.go:72
          refine WE.region ?_
          refine WO.one (SQ.F 0 (by kernel_rfl)) 34 (.bool ok) (by kernel_rfl) ?_
          refine WO.topB (ok) ?_ ?_
          · intro h12
            refine WO.run 14 1 [(48, .bool false), (47, .bool false), (46, .bool false), (45, .bool true), (44, .bool true), (43, .bool false), (42, .bool false), (41, .bool false), (40, undef), (39, .bool false), (38, .bool false), (37, .bool true), (36, .bool false), (35, .bool false)] (by kernel_rfl) (by kernel_rfl) ?_
            refine WO.done (by kernel_rfl) ?_
            refine WQ.keep [0, 1, 6, 7, 8, 9, 10, 14, 21, 48] (e' := [(0, .slice (some ad_l) n cap), (1, .bool true), (6, .bool ok), (7, .float .f64 m), (8, .int .i64 (k : Int)), (9, .bool true), (10, .bool false), (14, .bool true), (21, .bool false), (48, .bool false)]) (by kernel_rfl) ?_
            refine WQ.thenN ?_
            refine WE.condF (by kernel_rfl) ?_
            refine WE.skip ?_
            refine WQ.blkN ?_
            refine WQ.thenN ?_
            -- R5 ref.go:66
            refine WE.region ?_
            refine WO.run 1 0 [(15, .int .i64 (k : Int))] (by kernel_rfl) (by kernel_rfl) ?_
            refine WO.one (SQ.F 1 (by kernel_rfl)) 16 (.int .i64 (IntKind.i64.wrap ((k : Int) + 1))) (by kernel_rfl) ?_
            refine WO.top (v' := .int .i64 ((k + 1 : Nat) : Int)) (wrap_i64 (by omega) (by omega)) ?_
            refine WO.run 1 2 [(8, .int .i64 ((k + 1 : Nat) : Int))] (by kernel_rfl) (by kernel_rfl) ?_
            refine WO.done (by kernel_rfl) ?_
            refine WQ.keep [0, 1, 6, 7, 8, 9, 10, 14, 21, 48] (e' := [(0, .slice (some ad_l) n cap), (1, .bool true), (6, .bool ok), (7, .float .f64 m), (8, .int .i64 ((k + 1 : Nat) : Int)), (9, .bool true), (10, .bool false), (14, .bool true), (21, .bool false), (48, .bool false)]) (by kernel_rfl) ?_
            refine WQ.round ?_
            intro a_ ha_
            refine ⟨(k + 1, m, ok), ?_, ha_.keep [0, 1, 6, 7, 8] (by kernel_rfl), ?_⟩
            · show n - (k + 1) < n - k; omega
            · exact ⟨by show k + 1 ≤ n; omega, by show _ = bs (fun x y => lessB y x) (best (fun x y => lessB y x) l k) (g0 l k); rw [← hb]; simp [bs, h4, h7, h10, h12], hmb, HA⟩
          · intro h12
            refine WO.run 14 1 [(48, .bool true), (47, undef), (46, undef), (45, undef), (44, undef), (43, .bool true), (42, .bool true), (41, undef), (40, undef), (39, undef), (38, undef), (37, undef), (36, .bool true), (35, .bool true)] (by kernel_rfl) (by kernel_rfl) ?_
            refine WO.done (by kernel_rfl) ?_
            refine WQ.keep [0, 1, 6, 7, 8, 9, 10, 14, 21, 48] (e' := [(0, .slice (some ad_l) n cap), (1, .bool true), (6, .bool ok), (7, .float .f64 m), (8, .int .i64 (k : Int)), (9, .bool true), (10, .bool false), (14, .bool true), (21, .bool false), (48, .bool true)]) (by kernel_rfl) ?_
            refine WQ.thenN ?_
            refine WE.condT (by kernel_rfl) ?_
            refine WE.seq ?_
            -- R10 ref.go:73
            refine WE.region ?_
            refine WO.run 2 0 [(50, .int .i64 (k : Int)), (49, .slice (some ad_l) n cap)] (by kernel_rfl) (by kernel_rfl) ?_
            refine WO.ix (SQ.F 2 (by kernel_rfl)) 51 (ad_l.add k) ad_l n 1 (k : Int) (by kernel_rfl) (by omega) (by omega) (by congr 1 <;> omega) ?_
            refine WO.ld (SQ.S 3 (by kernel_rfl)) 52 (.float .f64 (g0 l k)) (by kernel_rfl) (same (HA.cell0 hcl_l)) ?_
            refine WO.run 1 4 [(7, .float .f64 (g0 l k))] (by kernel_rfl) (by kernel_rfl) ?_
            refine WO.done (by kernel_rfl) ?_
            refine WQ.keep [0, 1, 6, 7, 8, 9, 10, 14, 21, 48] (e' := [(0, .slice (some ad_l) n cap), (1, .bool true), (6, .bool ok), (7, .float .f64 (g0 l k)), (8, .int .i64 (k : Int)), (9, .bool true), (10, .bool false), (14, .bool true), (21, .bool false), (48, .bool true)]) (by kernel_rfl) ?_
            refine WQ.thenN ?_
            -- R11 ref.go:74
            refine WE.region ?_
            refine WO.run 1 0 [(6, .bool true)] (by kernel_rfl) (by kernel_rfl) ?_
            refine WO.done (by kernel_rfl) ?_
            refine WQ.keep [0, 1, 6, 7, 8, 9, 10, 14, 21, 48] (e' := [(0, .slice (some ad_l) n cap), (1, .bool true), (6, .bool true), (7, .float .f64 (g0 l k)), (8, .int .i64 (k : Int)), (9, .bool true), (10, .bool false), (14, .bool true), (21, .bool false), (48, .bool true)]) (by kernel_rfl) ?_
            refine WQ.blkN ?_
            refine WQ.thenN ?_
            -- R5 ref.go:66
            refine WE.region ?_
            refine WO.run 1 0 [(15, .int .i64 (k : Int))] (by kernel_rfl) (by kernel_rfl) ?_
            refine WO.one (SQ.F 1 (by kernel_rfl)) 16 (.int .i64 (IntKind.i64.wrap ((k : Int) + 1))) (by kernel_rfl) ?_
            refine WO.top (v' := .int .i64 ((k + 1 : Nat) : Int)) (wrap_i64 (by omega) (by omega)) ?_
            refine WO.run 1 2 [(8, .int .i64 ((k + 1 : Nat) : Int))] (by kernel_rfl) (by kernel_rfl) ?_
            refine WO.done (by kernel_rfl) ?_
            refine WQ.keep [0, 1, 6, 7, 8, 9, 10, 14, 21, 48] (e' := [(0, .slice (some ad_l) n cap), (1, .bool true), (6, .bool true), (7, .float .f64 (g0 l k)), (8, .int .i64 ((k + 1 : Nat) : Int)), (9, .bool true), (10, .bool false), (14, .bool true), (21, .bool false), (48, .bool true)]) (by kernel_rfl) ?_
            refine WQ.round ?_
            intro a_ ha_
            refine ⟨(k + 1, g0 l k, true), ?_, ha_.keep [0, 1, 6, 7, 8] (by kernel_rfl), ?_⟩
            · show n - (k + 1) < n - k; omega
            · exact ⟨by show k + 1 ≤ n; omega, by show _ = bs (fun x y => lessB y x) (best (fun x y => lessB y x) l k) (g0 l k); rw [← hb]; simp [bs, h4, h7, h10, h12], hall k (by omega), HA⟩
      · intro h7
        refine WO.run 1 6 [(9, .bool false)] (by kernel_rfl) (by kernel_rfl) ?_
        refine WO.done (by kernel_rfl) ?_
        refine WQ.keep [0, 1, 6, 7, 8, 9, 14, 21] (e' := [(0, .slice (some ad_l) n cap), (1, .bool true), (6, .bool ok), (7, .float .f64 m), (8, .int .i64 (k : Int)), (9, .bool false), (14, .bool true), (21, .bool false)]) (by kernel_rfl) ?_
        refine WQ.thenN ?_
        refine WE.seq ?_
        -- R8 ref.go:71
        refine WE.region ?_
        refine WO.run 3 0 [(30, .int .i64 (k : Int)), (29, .slice (some ad_l) n cap), (28, .float .f64 m)] (by kernel_rfl) (by kernel_rfl) ?_
        refine WO.ix (SQ.F 3 (by kernel_rfl)) 31 (ad_l.add k) ad_l n 1 (k : Int) (by kernel_rfl) (by omega) (by omega) (by congr 1 <;> omega) ?_
        refine WO.ld (SQ.S 4 (by kernel_rfl)) 32 (.float .f64 (g0 l k)) (by kernel_rfl) (same (HA.cell0 hcl_l)) ?_
        refine WO.call (SQ.E 5 (by kernel_rfl)) 33 (by kernel_rfl) (refless_f m (g0 l k) _ hmb (hall k (by omega))) ?_
        rintro _ w13 ⟨rfl, F14⟩
        refine ⟨_, rfl, trivial, ?_⟩
        have HA := Fr.step0 HA F14
        refine WO.topB (lessB m (g0 l k)) ?_ ?_
        · intro h15
          refine WO.run 1 6 [(10, .bool true)] (by kernel_rfl) (by kernel_rfl) ?_
          refine WO.done (by kernel_rfl) ?_
          refine WQ.keep [0, 1, 6, 7, 8, 9, 10, 14, 21] (e' := [(0, .slice (some ad_l) n cap), (1, .bool true), (6, .bool ok), (7, .float .f64 m), (8, .int .i64 (k : Int)), (9, .bool false), (10, .bool true), (14, .bool true), (21, .bool false)]) (by kernel_rfl) ?_
          refine WQ.thenN ?_
          refine WE.seq ?_
          -- R9 ref.go:72
          refine WE.region ?_
          refine WO.one (SQ.F 0 (by kernel_rfl)) 34 (.bool ok) (by kernel_rfl) ?_
          refine WO.topB (ok) ?_ ?_
          · intro h16
            refine WO.run 14 1 [(48, .bool true), (47, .bool true), (46, .bool true), (45, .bool true), (44, .bool true), (43, .bool false), (42, .bool false), (41, .bool false), (40, undef), (39, .bool false), (38, .bool false), (37, .bool true), (36, .bool false), (35, .bool false)] (by kernel_rfl) (by kernel_rfl) ?_
            refine WO.done (by kernel_rfl) ?_
            refine WQ.keep [0, 1, 6, 7, 8, 9, 10, 14, 21, 48] (e' := [(0, .slice (some ad_l) n cap), (1, .bool true), (6, .bool ok), (7, .float .f64 m), (8, .int .i64 (k : Int)), (9, .bool false), (10, .bool true), (14, .bool true), (21, .bool false), (48, .bool true)]) (by kernel_rfl) ?_
            refine WQ.thenN ?_
            refine WE.condT (by kernel_rfl) ?_
            refine WE.seq ?_
            -- R10 ref.go:73
            refine WE.region ?_
            refine WO.run 2 0 [(50, .int .i64 (k : Int)), (49, .slice (some ad_l) n cap)] (by kernel_rfl) (by kernel_rfl) ?_
            refine WO.ix (SQ.F 2 (by kernel_rfl)) 51 (ad_l.add k) ad_l n 1 (k : Int) (by kernel_rfl) (by omega) (by omega) (by congr 1 <;> omega) ?_
            refine WO.ld (SQ.S 3 (by kernel_rfl)) 52 (.float .f64 (g0 l k)) (by kernel_rfl) (same (HA.cell0 hcl_l)) ?_
            refine WO.run 1 4 [(7, .float .f64 (g0 l k))] (by kernel_rfl) (by kernel_rfl) ?_
            refine WO.done (by kernel_rfl) ?_
            refine WQ.keep [0, 1, 6, 7, 8, 9, 10, 14, 21, 48] (e' := [(0, .slice (some ad_l) n cap), (1, .bool true), (6, .bool ok), (7, .float .f64 (g0 l k)), (8, .int .i64 (k : Int)), (9, .bool false), (10, .bool true), (14, .bool true), (21, .bool false), (48, .bool true)]) (by kernel_rfl) ?_
            refine WQ.thenN ?_
            -- R11 ref.go:74
            refine WE.region ?_
            refine WO.run 1 0 [(6, .bool true)] (by kernel_rfl) (by kernel_rfl) ?_
            refine WO.done (by kernel_rfl) ?_
            refine WQ.keep [0, 1, 6, 7, 8, 9, 10, 14, 21, 48] (e' := [(0, .slice (some ad_l) n cap), (1, .bool true), (6, .bool true), (7, .float .f64 (g0 l k)), (8, .int .i64 (k : Int)), (9, .bool false), (10, .bool true), (14, .bool true), (21, .bool false), (48, .bool true)]) (by kernel_rfl) ?_
            refine WQ.blkN ?_
            refine WQ.thenN ?_
            -- R5 ref.go:66
            refine WE.region ?_
            refine WO.run 1 0 [(15, .int .i64 (k : Int))] (by kernel_rfl) (by kernel_rfl) ?_
            refine WO.one (SQ.F 1 (by kernel_rfl)) 16 (.int .i64 (IntKind.i64.wrap ((k : Int) + 1))) (by kernel_rfl) ?_
            refine WO.top (v' := .int .i64 ((k + 1 : Nat) : Int)) (wrap_i64 (by omega) (by omega)) ?_
            refine WO.run 1 2 [(8, .int .i64 ((k + 1 : Nat) : Int))] (by kernel_rfl) (by kernel_rfl) ?_
            refine WO.done (by kernel_rfl) ?_
            refine WQ.keep [0, 1, 6, 7, 8, 9, 10, 14, 21, 48] (e' := [(0, .slice (some ad_l) n cap), (1, .bool true), (6, .bool true), (7, .float .f64 (g0 l k)), (8, .int .i64 ((k + 1 : Nat) : Int)), (9, .bool false), (10, .bool true), (14, .bool true), (21, .bool false), (48, .bool true)]) (by kernel_rfl) ?_
            refine WQ.round ?_
            intro a_ ha_
            refine ⟨(k + 1, g0 l k, true), ?_, ha_.keep [0, 1, 6, 7, 8] (by kernel_rfl), ?_⟩
            · show n - (k + 1) < n - k; omega
            · exact ⟨by show k + 1 ≤ n; omega, by show _ = bs (fun x y => lessB y x) (best (fun x y => lessB y x) l k) (g0 l k); rw [← hb]; simp [bs, h4, h7, h15, h16], hall k (by omega), HA⟩
          · intro h16
            refine WO.run 14 1 [(48, .bool true), (47, undef), (46, undef), (45, undef), (44, undef), (43, .bool true), (42, .bool true), (41, undef), (40, undef), (39, undef), (38, undef), (37, undef), (36, .bool true), (35, .bool true)] (by kernel_rfl) (by kernel_rfl) ?_
            refine WO.done (by kernel_rfl) ?_
            refine WQ.keep [0, 1, 6, 7, 8, 9, 10, 14, 21, 48] (e' := [(0, .slice (some ad_l) n cap), (1, .bool true), (6, .bool ok), (7, .float .f64 m), (8, .int .i64 (k : Int)), (9, .bool false), (10, .bool true), (14, .bool true), (21, .bool false), (48, .bool true)]) (by kernel_rfl) ?_
            refine WQ.thenN ?_
            refine WE.condT (by kernel_rfl) ?_
            refine WE.seq ?_
            -- R10 ref.go:73
            refine WE.region ?_
            refine WO.run 2 0 [(50, .int .i64 (k : Int)), (49, .slice (some ad_l) n cap)] (by kernel_rfl) (by kernel_rfl) ?_
            refine WO.ix (SQ.F 2 (by kernel_rfl)) 51 (ad_l.add k) ad_l n 1 (k : Int) (by kernel_rfl) (by omega) (by omega) (by congr 1 <;> omega) ?_
            refine WO.ld (SQ.S 3 (by kernel_rfl)) 52 (.float .f64 (g0 l k)) (by kernel_rfl) (same (HA.cell0 hcl_l)) ?_
            refine WO.run 1 4 [(7, .float .f64 (g0 l k))] (by kernel_rfl) (by kernel_rfl) ?_
            refine WO.done (by kernel_rfl) ?_
            refine WQ.keep [0, 1, 6, 7, 8, 9, 10, 14, 21, 48] (e' := [(0, .slice (some ad_l) n cap), (1, .bool true), (6, .bool ok), (7, .float .f64 (g0 l k)), (8, .int .i64 (k : Int)), (9, .bool false), (10, .bool true), (14, .bool true), (21, .bool false), (48, .bool true)]) (by kernel_rfl) ?_
            refine WQ.thenN ?_
            -- R11 ref.go:74
            refine WE.region ?_
            refine WO.run 1 0 [(6, .bool true)] (by kernel_rfl) (by kernel_rfl) ?_
            refine WO.done (by kernel_rfl) ?_
            refine WQ.keep [0, 1, 6, 7, 8, 9, 10, 14, 21, 48] (e' := [(0, .slice (some ad_l) n cap), (1, .bool true), (6, .bool true), (7, .float .f64 (g0 l k)), (8, .int .i64 (k : Int)), (9, .bool false), (10, .bool true), (14, .bool true), (21, .bool false), (48, .bool true)]) (by kernel_rfl) ?_
            refine WQ.blkN ?_
            refine WQ.thenN ?_
            -- R5 ref.go:66
            refine WE.region ?_
            refine WO.run 1 0 [(15, .int .i64 (k : Int))] (by kernel_rfl) (by kernel_rfl) ?_
            refine WO.one (SQ.F 1 (by kernel_rfl)) 16 (.int .i64 (IntKind.i64.wrap ((k : Int) + 1))) (by kernel_rfl) ?_
            refine WO.top (v' := .int .i64 ((k + 1 : Nat) : Int)) (wrap_i64 (by omega) (by omega)) ?_
            refine WO.run 1 2 [(8, .int .i64 ((k + 1 : Nat) : Int))] (by kernel_rfl) (by kernel_rfl) ?_
            refine WO.done (by kernel_rfl) ?_
            refine WQ.keep [0, 1, 6, 7, 8, 9, 10, 14, 21, 48] (e' := [(0, .slice (some ad_l) n cap), (1, .bool true), (6, .bool true), (7, .float .f64 (g0 l k)), (8, .int .i64 ((k + 1 : Nat) : Int)), (9, .bool false), (10, .bool true), (14, .bool true), (21, .bool false), (48, .bool true)]) (by kernel_rfl) ?_
            refine WQ.round ?_
            intro a_ ha_
            refine ⟨(k + 1, g0 l k, true), ?_, ha_.keep [0, 1, 6, 7, 8] (by kernel_rfl), ?_⟩
            · show n - (k + 1) < n - k; omega
            · exact ⟨by show k + 1 ≤ n; omega, by show _ = bs (fun x y => lessB y x) (best (fun x y => lessB y x) l k) (g0 l k); rw [← hb]; simp [bs, h4, h7, h15, h16], hall k (by omega), HA⟩
        · intro h15
          refine WO.run 1 6 [(10, .bool false)] (by kernel_rfl) (by kernel_rfl) ?_
          refine WO.done (by kernel_rfl) ?_
          refine WQ.keep [0, 1, 6, 7, 8, 9, 10, 14, 21] (e' := [(0, .slice (some ad_l) n cap), (1, .bool true), (6, .bool ok), (7, .float .f64 m), (8, .int .i64 (k : Int)), (9, .bool false), (10, .bool false), (14, .bool true), (21, .bool false)]) (by kernel_rfl) ?_
          refine WQ.thenN ?_
          refine WE.seq ?_
          -- R9 ref.go:72
          refine WE.region ?_
          refine WO.one (SQ.F 0 (by kernel_rfl)) 34 (.bool ok) (by kernel_rfl) ?_
          refine WO.topB (ok) ?_ ?_
          · intro h17
            refine WO.run 14 1 [(48, .bool false), (47, .bool false), (46, .bool false), (45, .bool true), (44, .bool true), (43, .bool false), (42, .bool false), (41, .bool false), (40, undef), (39, .bool false), (38, .bool false), (37, .bool true), (36, .bool false), (35, .bool false)] (by kernel_rfl) (by kernel_rfl) ?_
            refine WO.done (by kernel_rfl) ?_
            refine WQ.keep [0, 1, 6, 7, 8, 9, 10, 14, 21, 48] (e' := [(0, .slice (some ad_l) n cap), (1, .bool true), (6, .bool ok), (7, .float .f64 m), (8, .int .i64 (k : Int)), (9, .bool false), (10, .bool false), (14, .bool true), (21, .bool false), (48, .bool false)]) (by kernel_rfl) ?_
            refine WQ.thenN ?_
            refine WE.condF (by kernel_rfl) ?_
            refine WE.skip ?_
            refine WQ.blkN ?_
            refine WQ.thenN ?_
            -- R5 ref.go:66
            refine WE.region ?_
            refine WO.run 1 0 [(15, .int .i64 (k : Int))] (by kernel_rfl) (by kernel_rfl) ?_
            refine WO.one (SQ.F 1 (by kernel_rfl)) 16 (.int .i64 (IntKind.i64.wrap ((k : Int) + 1))) (by kernel_rfl) ?_
            refine WO.top (v' := .int .i64 ((k + 1 : Nat) : Int)) (wrap_i64 (by omega) (by omega)) ?_
            refine WO.run 1 2 [(8, .int .i64 ((k + 1 : Nat) : Int))] (by kernel_rfl) (by kernel_rfl) ?_
            refine WO.done (by kernel_rfl) ?_
            refine WQ.keep [0, 1, 6, 7, 8, 9, 10, 14, 21, 48] (e' := [(0, .slice (some ad_l) n cap), (1, .bool true), (6, .bool ok), (7, .float .f64 m), (8, .int .i64 ((k + 1 : Nat) : Int)), (9, .bool false), (10, .bool false), (14, .bool true), (21, .bool false), (48, .bool false)]) (by kernel_rfl) ?_
            refine WQ.round ?_
            intro a_ ha_
            refine ⟨(k + 1, m, ok), ?_, ha_.keep [0, 1, 6, 7, 8] (by kernel_rfl), ?_⟩
            · show n - (k + 1) < n - k; omega
            · exact ⟨by show k + 1 ≤ n; omega, by show _ = bs (fun x y => lessB y x) (best (fun x y => lessB y x) l k) (g0 l k); rw [← hb]; simp [bs, h4, h7, h15, h17], hmb, HA⟩
          · intro h17
            refine WO.run 14 1 [(48, .bool true), (47, undef), (46, undef), (45, undef), (44, undef), (43, .bool true), (42, .bool true), (41, undef), (40, undef), (39, undef), (38, undef), (37, undef), (36, .bool true), (35, .bool true)] (by kernel_rfl) (by kernel_rfl) ?_
            refine WO.done (by kernel_rfl) ?_
            refine WQ.keep [0, 1, 6, 7, 8, 9, 10, 14, 21, 48] (e' := [(0, .slice (some ad_l) n cap), (1, .bool true), (6, .bool ok), (7, .float .f64 m), (8, .int .i64 (k : Int)), (9, .bool false), (10, .bool false), (14, .bool true), (21, .bool false), (48, .bool true)]) (by kernel_rfl) ?_
            refine WQ.thenN ?_
            refine WE.condT (by kernel_rfl) ?_
            refine WE.seq ?_
            -- R10 ref.go:73
            refine WE.region ?_
            refine WO.run 2 0 [(50, .int .i64 (k : Int)), (49, .slice (some ad_l) n cap)] (by kernel_rfl) (by kernel_rfl) ?_
            refine WO.ix (SQ.F 2 (by kernel_rfl)) 51 (ad_l.add k) ad_l n 1 (k : Int) (by kernel_rfl) (by omega) (by omega) (by congr 1 <;> omega) ?_
            refine WO.ld (SQ.S 3 (by kernel_rfl)) 52 (.float .f64 (g0 l k)) (by kernel_rfl) (same (HA.cell0 hcl_l)) ?_
            refine WO.run 1 4 [(7, .float .f64 (g0 l k))] (by kernel_rfl) (by kernel_rfl) ?_
            refine WO.done (by kernel_rfl) ?_
            refine WQ.keep [0, 1, 6, 7, 8, 9, 10, 14, 21, 48] (e' := [(0, .slice (some ad_l) n cap), (1, .bool true), (6, .bool ok), (7, .float .f64 (g0 l k)), (8, .int .i64 (k : Int)), (9, .bool false), (10, .bool false), (14, .bool true), (21, .bool false), (48, .bool true)]) (by kernel_rfl) ?_
            refine WQ.thenN ?_
            -- R11 ref.go:74
            refine WE.region ?_
            refine WO.run 1 0 [(6, .bool true)] (by kernel_rfl) (by kernel_rfl) ?_
            refine WO.done (by kernel_rfl) ?_
            refine WQ.keep [0, 1, 6, 7, 8, 9, 10, 14, 21, 48] (e' := [(0, .slice (some ad_l) n cap), (1, .bool true), (6, .bool true), (7, .float .f64 (g0 l k)), (8, .int .i64 (k : Int)), (9, .bool false), (10, .bool false), (14, .bool true), (21, .bool false), (48, .bool true)]) (by kernel_rfl) ?_
            refine WQ.blkN ?_
            refine WQ.thenN ?_
            -- R5 ref.go:66
            refine WE.region ?_
            refine WO.run 1 0 [(15, .int .i64 (k : Int))] (by kernel_rfl) (by kernel_rfl) ?_
            refine WO.one (SQ.F 1 (by kernel_rfl)) 16 (.int .i64 (IntKind.i64.wrap ((k : Int) + 1))) (by kernel_rfl) ?_
            refine WO.top (v' := .int .i64 ((k + 1 : Nat) : Int)) (wrap_i64 (by omega) (by omega)) ?_
            refine WO.run 1 2 [(8, .int .i64 ((k + 1 : Nat) : Int))] (by kernel_rfl) (by kernel_rfl) ?_
            refine WO.done (by kernel_rfl) ?_
            refine WQ.keep [0, 1, 6, 7, 8, 9, 10, 14, 21, 48] (e' := [(0, .slice (some ad_l) n cap), (1, .bool true), (6, .bool true), (7, .float .f64 (g0 l k)), (8, .int .i64 ((k + 1 : Nat) : Int)), (9, .bool false), (10, .bool false), (14, .bool true), (21, .bool false), (48, .bool true)]) (by kernel_rfl) ?_
            refine WQ.round ?_
            intro a_ ha_
            refine ⟨(k + 1, g0 l k, true), ?_, ha_.keep [0, 1, 6, 7, 8] (by kernel_rfl), ?_⟩
            · show n - (k + 1) < n - k; omega
            · exact ⟨by show k + 1 ≤ n; omega, by show _ = bs (fun x y => lessB y x) (best (fun x y => lessB y x) l k) (g0 l k); rw [← hb]; simp [bs, h4, h7, h15, h17], hall k (by omega), HA⟩
  · intro h1
    refine WO.done (by kernel_rfl) ?_
    refine WQ.keep [0, 1, 6, 7, 8, 14] (e' := [(0, .slice A n cap), (1, .bool true), (6, .bool ok), (7, .float .f64 m), (8, .int .i64 (k : Int)), (14, .bool false)]) (by kernel_rfl) ?_
    refine WQ.thenN ?_
    refine WE.condF (by kernel_rfl) ?_
    refine WE.exit ?_
    refine WQ.thenE ?_
    refine WQ.thenE ?_
    refine WQ.blkE ?_
    refine WQ.thenN ?_
    refine WE.seq ?_
    -- R12 ref.go:77
    refine WE.region ?_
    refine WO.run 4 0 [(5, .bool ok), (4, .float .f64 m), (54, .bool ok), (53, .float .f64 m)] (by kernel_rfl) (by kernel_rfl) ?_
    refine WO.done (by kernel_rfl) ?_
    refine WQ.keep [0, 1, 4, 5, 6, 7, 8, 14] (e' := [(0, .slice A n cap), (1, .bool true), (4, .float .f64 m), (5, .bool ok), (6, .bool ok), (7, .float .f64 m), (8, .int .i64 (k : Int)), (14, .bool false)]) (by kernel_rfl) ?_
    refine WQ.thenN ?_
    refine WE.ret ?_
    refine WQ.ret (v := .tuple #[.float .f64 m, .bool ok]) (by kernel_rfl) ?_
    obtain rfl : k = n := by omega
    exact ⟨by rw [← hb], HA⟩

set_option maxRecDepth 100000 in
set_option maxHeartbeats 1000000 in
theorem bestlaw_f (A : Option Addr) (n cap : Nat) (l : List Nat) (w : World) (hn : l.length = n) (hm : n ≤ 9223372036854775807) (hall : All l) (hrd : Rd w A l) :
    Calls Try.prog 10 #[.slice A n cap] w fun e w' => e = .returned (.bool (true)) ∧ Fr [] w w' := by
  have HA := Fr.refl [] w
  refine enter (N := 58) Try.func10 (c := _) rfl (by kernel_rfl) (by kernel_rfl) (e := [(0, .slice A n cap)]) (by kernel_rfl) ?_
  refine WE.seq ?_
  -- R0 law.go:32
  refine WE.region ?_
  refine WO.run 1 0 [(2, .bool false)] (by kernel_rfl) (by kernel_rfl) ?_
  refine WO.done (by kernel_rfl) ?_
  refine WQ.keep [0, 2] (e' := [(0, .slice A n cap), (2, .bool false)]) (by kernel_rfl) ?_
  refine WQ.thenN ?_
  refine WE.seq ?_
  -- R1 law.go:33
  refine WE.region ?_
  refine WO.call (SQ.E 0 (by kernel_rfl)) 12 (by kernel_rfl) (up_f _) ?_
  rintro _ w1 ⟨rfl, F2⟩
  refine ⟨_, rfl, trivial, ?_⟩
  have HA := Fr.step0 HA F2
  refine WO.run 1 1 [(3, .bool true)] (by kernel_rfl) (by kernel_rfl) ?_
  refine WO.done (by kernel_rfl) ?_
  refine WQ.keep [0, 2, 3] (e' := [(0, .slice A n cap), (2, .bool false), (3, .bool true)]) (by kernel_rfl) ?_
  refine WQ.thenN ?_
  refine WE.seq ?_
  refine WE.seq ?_
  -- R2 law.go:34
  refine WE.region ?_
  refine WO.run 2 0 [(14, .int .i64 (n : Int)), (13, .slice A n cap)] (by kernel_rfl) (by kernel_rfl) ?_
  refine WO.one (SQ.F 2 (by kernel_rfl)) 15 (.bool (decide (((n : Int) : Int) > (200 : Int)))) (by kernel_rfl) ?_
  refine WO.topP (((n : Int) : Int) > (200 : Int)) ?_ ?_
  · intro h3
    refine WO.done (by kernel_rfl) ?_
    refine WQ.keep [0, 2, 3, 15] (e' := [(0, .slice A n cap), (2, .bool false), (3, .bool true), (15, .bool true)]) (by kernel_rfl) ?_
    refine WQ.thenN ?_
    refine WE.condT (by kernel_rfl) ?_
    refine WE.seq ?_
    -- R3 law.go:35
    refine WE.region ?_
    refine WO.run 2 0 [(2, .bool true), (16, .bool true)] (by kernel_rfl) (by kernel_rfl) ?_
    refine WO.done (by kernel_rfl) ?_
    refine WQ.keep [0, 2, 3, 15] (e' := [(0, .slice A n cap), (2, .bool true), (3, .bool true), (15, .bool true)]) (by kernel_rfl) ?_
    refine WQ.thenN ?_
    refine WE.ret ?_
    refine WQ.thenR ?_
    refine WQ.ret (v := .bool true) (by kernel_rfl) ?_
    exact ⟨rfl, HA⟩
  · intro h3
    refine WO.done (by kernel_rfl) ?_
    refine WQ.keep [0, 2, 3, 15] (e' := [(0, .slice A n cap), (2, .bool false), (3, .bool true), (15, .bool false)]) (by kernel_rfl) ?_
    refine WQ.thenN ?_
    refine WE.condF (by kernel_rfl) ?_
    refine WE.skip ?_
    refine WQ.thenN ?_
    refine WE.seq ?_
    -- R4 law.go:37
    refine WE.region ?_
    refine WO.run 1 0 [(18, .slice A n cap)] (by kernel_rfl) (by kernel_rfl) ?_
    refine WO.call (SQ.E 1 (by kernel_rfl)) 19 (by kernel_rfl) (least_any A n cap l _ hn (by omega) hall (hrd.keep HA)) ?_
    rintro _ w4 ⟨rfl, F5⟩
    refine ⟨_, rfl, trivial, ?_⟩
    have HA := Fr.step0 HA F5
    refine WO.run 5 2 [(5, .bool ((best lessB l n).2)), (4, .float .f64 ((best lessB l n).1)), (21, .bool ((best lessB l n).2)), (20, .float .f64 ((best lessB l n).1)), (17, .tuple #[.float .f64 ((best lessB l n).1), .bool ((best lessB l n).2)])] (by kernel_rfl) (by kernel_rfl) ?_
    refine WO.done (by kernel_rfl) ?_
    refine WQ.keep [0, 2, 3, 4, 5, 15] (e' := [(0, .slice A n cap), (2, .bool false), (3, .bool true), (4, .float .f64 ((best lessB l n).1)), (5, .bool ((best lessB l n).2)), (15, .bool false)]) (by kernel_rfl) ?_
    refine WQ.thenN ?_
    refine WE.seq ?_
    -- R5 law.go:38
    refine WE.region ?_
    refine WO.run 1 0 [(23, .slice A n cap)] (by kernel_rfl) (by kernel_rfl) ?_
    refine WO.call (SQ.E 1 (by kernel_rfl)) 24 (by kernel_rfl) (most_any A n cap l _ hn (by omega) hall (hrd.keep HA)) ?_
    rintro _ w6 ⟨rfl, F7⟩
    refine ⟨_, rfl, trivial, ?_⟩
    have HA := Fr.step0 HA F7
    refine WO.run 5 2 [(7, .bool ((best (fun x y => lessB y x) l n).2)), (6, .float .f64 ((best (fun x y => lessB y x) l n).1)), (26, .bool ((best (fun x y => lessB y x) l n).2)), (25, .float .f64 ((best (fun x y => lessB y x) l n).1)), (22, .tuple #[.float .f64 ((best (fun x y => lessB y x) l n).1), .bool ((best (fun x y => lessB y x) l n).2)])] (by kernel_rfl) (by kernel_rfl) ?_
    refine WO.done (by kernel_rfl) ?_
    refine WQ.keep [0, 2, 3, 4, 5, 6, 7, 15] (e' := [(0, .slice A n cap), (2, .bool false), (3, .bool true), (4, .float .f64 ((best lessB l n).1)), (5, .bool ((best lessB l n).2)), (6, .float .f64 ((best (fun x y => lessB y x) l n).1)), (7, .bool ((best (fun x y => lessB y x) l n).2)), (15, .bool false)]) (by kernel_rfl) ?_
    refine WQ.thenN ?_
    refine WE.seq ?_
    -- R6 law.go:39
    refine WE.region ?_
    refine WO.run 1 0 [(28, .slice A n cap)] (by kernel_rfl) (by kernel_rfl) ?_
    refine WO.call (SQ.E 1 (by kernel_rfl)) 29 (by kernel_rfl) (ref_least A n cap l _ hn (by omega) hall (hrd.keep HA)) ?_
    rintro _ w8 ⟨rfl, F9⟩
    refine ⟨_, rfl, trivial, ?_⟩
    have HA := Fr.step0 HA F9
    refine WO.run 5 2 [(9, .bool ((best lessB l n).2)), (8, .float .f64 ((best lessB l n).1)), (31, .bool ((best lessB l n).2)), (30, .float .f64 ((best lessB l n).1)), (27, .tuple #[.float .f64 ((best lessB l n).1), .bool ((best lessB l n).2)])] (by kernel_rfl) (by kernel_rfl) ?_
    refine WO.done (by kernel_rfl) ?_
    refine WQ.keep [0, 2, 3, 4, 5, 6, 7, 8, 9, 15] (e' := [(0, .slice A n cap), (2, .bool false), (3, .bool true), (4, .float .f64 ((best lessB l n).1)), (5, .bool ((best lessB l n).2)), (6, .float .f64 ((best (fun x y => lessB y x) l n).1)), (7, .bool ((best (fun x y => lessB y x) l n).2)), (8, .float .f64 ((best lessB l n).1)), (9, .bool ((best lessB l n).2)), (15, .bool false)]) (by kernel_rfl) ?_
    refine WQ.thenN ?_
    refine WE.seq ?_
    -- R7 law.go:40
    refine WE.region ?_
    refine WO.run 1 0 [(33, .slice A n cap)] (by kernel_rfl) (by kernel_rfl) ?_
    refine WO.call (SQ.E 1 (by kernel_rfl)) 34 (by kernel_rfl) (ref_most A n cap l _ hn (by omega) hall (hrd.keep HA)) ?_
    rintro _ w10 ⟨rfl, F11⟩
    refine ⟨_, rfl, trivial, ?_⟩
    have HA := Fr.step0 HA F11
    refine WO.run 5 2 [(11, .bool ((best (fun x y => lessB y x) l n).2)), (10, .float .f64 ((best (fun x y => lessB y x) l n).1)), (36, .bool ((best (fun x y => lessB y x) l n).2)), (35, .float .f64 ((best (fun x y => lessB y x) l n).1)), (32, .tuple #[.float .f64 ((best (fun x y => lessB y x) l n).1), .bool ((best (fun x y => lessB y x) l n).2)])] (by kernel_rfl) (by kernel_rfl) ?_
    refine WO.done (by kernel_rfl) ?_
    refine WQ.keep [0, 2, 3, 4, 5, 6, 7, 8, 9, 10, 11, 15] (e' := [(0, .slice A n cap), (2, .bool false), (3, .bool true), (4, .float .f64 ((best lessB l n).1)), (5, .bool ((best lessB l n).2)), (6, .float .f64 ((best (fun x y => lessB y x) l n).1)), (7, .bool ((best (fun x y => lessB y x) l n).2)), (8, .float .f64 ((best lessB l n).1)), (9, .bool ((best lessB l n).2)), (10, .float .f64 ((best (fun x y => lessB y x) l n).1)), (11, .bool ((best (fun x y => lessB y x) l n).2)), (15, .bool false)]) (by kernel_rfl) ?_
    refine WQ.thenN ?_
    refine WE.seq ?_
    -- R8 law.go:41
    refine WE.region ?_
    refine WO.run 4 0 [(40, .bool ((best lessB l n).2)), (39, .bool ((best lessB l n).2)), (38, .bool true), (37, .bool true)] (by kernel_rfl) (by kernel_rfl) ?_
    refine WO.one (SQ.F 4 (by kernel_rfl)) 41 (.bool ((best lessB l n).2 == (best lessB l n).2)) (by kernel_rfl) ?_
    refine WO.top (v' := .bool true) (congrArg Value.bool (beq_self_eq_true _)) ?_
    refine WO.run 4 5 [(45, .bool ((best (fun x y => lessB y x) l n).2)), (44, .bool ((best (fun x y => lessB y x) l n).2)), (43, .bool true), (42, .bool true)] (by kernel_rfl) (by kernel_rfl) ?_
    refine WO.one (SQ.F 9 (by kernel_rfl)) 46 (.bool ((best (fun x y => lessB y x) l n).2 == (best (fun x y => lessB y x) l n).2)) (by kernel_rfl) ?_
    refine WO.top (v' := .bool true) (congrArg Value.bool (beq_self_eq_true _)) ?_
    refine WO.run 4 10 [(50, .float .f64 ((best lessB l n).1)), (49, .float .f64 ((best lessB l n).1)), (48, .bool true), (47, .bool true)] (by kernel_rfl) (by kernel_rfl) ?_
    have hsm : alikeB ((best lessB l n).1) ((best lessB l n).1) = true := decide_eq_true rfl
    refine WO.call (SQ.E 14 (by kernel_rfl)) 51 (by kernel_rfl) (same_f ((best lessB l n).1) ((best lessB l n).1) _ (best_lt lessB hall n) (best_lt lessB hall n)) ?_
    rintro _ w12 ⟨rfl, F13⟩
    refine ⟨_, rfl, trivial, ?_⟩
    have HA := Fr.step0 HA F13
    refine WO.top (v' := .bool true) (congrArg Value.bool (by exact hsm)) ?_
    refine WO.run 4 15 [(55, .float .f64 ((best (fun x y => lessB y x) l n).1)), (54, .float .f64 ((best (fun x y => lessB y x) l n).1)), (53, .bool true), (52, .bool true)] (by kernel_rfl) (by kernel_rfl) ?_
    have hsm : alikeB ((best (fun x y => lessB y x) l n).1) ((best (fun x y => lessB y x) l n).1) = true := decide_eq_true rfl
    refine WO.call (SQ.E 19 (by kernel_rfl)) 56 (by kernel_rfl) (same_f ((best (fun x y => lessB y x) l n).1) ((best (fun x y => lessB y x) l n).1) _ (best_lt (fun x y => lessB y x) hall n) (best_lt (fun x y => lessB y x) hall n)) ?_
    rintro _ w14 ⟨rfl, F15⟩
    refine ⟨_, rfl, trivial, ?_⟩
    have HA := Fr.step0 HA F15
    refine WO.top (v' := .bool true) (congrArg Value.bool hsm) ?_
    refine WO.run 2 20 [(2, .bool true), (57, .bool true)] (by kernel_rfl) (by kernel_rfl) ?_
    refine WO.done (by kernel_rfl) ?_
    refine WQ.keep [0, 2, 3, 4, 5, 6, 7, 8, 9, 10, 11, 15] (e' := [(0, .slice A n cap), (2, .bool true), (3, .bool true), (4, .float .f64 ((best lessB l n).1)), (5, .bool ((best lessB l n).2)), (6, .float .f64 ((best (fun x y => lessB y x) l n).1)), (7, .bool ((best (fun x y => lessB y x) l n).2)), (8, .float .f64 ((best lessB l n).1)), (9, .bool ((best lessB l n).2)), (10, .float .f64 ((best (fun x y => lessB y x) l n).1)), (11, .bool ((best (fun x y => lessB y x) l n).2)), (15, .bool false)]) (by kernel_rfl) ?_
    refine WQ.thenN ?_
    refine WE.ret ?_
    refine WQ.ret (v := .bool true) (by kernel_rfl) ?_
    exact ⟨rfl, HA⟩
theorem best_any (A : Option Addr) (cap : Nat) (l : List Nat) (w : World) (hall : All l) (h : Kd.C KF w A l.length l) :
    Calls Try.prog 10 #[.slice A l.length cap] w fun e w' => e = .returned (.bool true) ∧ Below w.heap.size w w' :=
  (bestlaw_f A l.length cap l w rfl h.2.1 hall (rd_of h)).mono fun e w' ⟨h1, h2⟩ => ⟨h1, h2.below0⟩
end Go.Proofs.Ytjnjkgoofkgiiaa.Edge
