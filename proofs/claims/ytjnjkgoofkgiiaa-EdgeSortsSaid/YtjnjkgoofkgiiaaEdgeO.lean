/- Layer 2's walks: Sort. -/
import Derived.Test.YtjnjkgoofkgiiaaEdgeN
import Derived.Test.YtjnjkgoofkgiiaaEdgeB
set_option linter.unusedVariables false
set_option linter.unusedSimpArgs false
namespace Go.Proofs.Ytjnjkgoofkgiiaa.Edge
open Go Go.RowKit Go.Proofs.Ytjnjkgoofkgiiaa Go.Proofs.Ytjnjkgoofkgiiaa.Eng Go.Proofs.YtjnjkgoofkgiiaaW.PrintWords
set_option maxRecDepth 100000 in
set_option maxHeartbeats 400000 in
theorem ssort_n (b n cap : Nat) (q : List Nat) (w : World) (HR : RowB w b 53 1 cap (q.map cF)) (hn : q.length = n) (hall : All q) (hm : n ≤ 100) :
    Calls Try.prog 49 #[.slice (some ⟨b, 0, none⟩) n cap, .func (.func 50) #[] #[]] w fun e w' => ∃ p, e = .returned (.tuple #[]) ∧ PIn 0 n q p ∧ Srt (rk p) 0 n ∧ RowB w' b 53 1 cap (p.map cF) ∧ Fr [b] w w' := by
  have HA := Fr.refl [b] w
  refine enter (N := 9) Try.func49 (c := _) rfl (by kernel_rfl) (by kernel_rfl) (e := [(0, .slice (some ⟨b, 0, none⟩) n cap), (1, .func (.func 50) #[] #[])]) (by kernel_rfl) ?_
  -- R0 sort.go:38
  refine WE.region ?_
  refine WO.run 4 0 [(7, .func (.func 50) #[] #[]), (6, .int .i64 (n : Int)), (5, .slice (some ⟨b, 0, none⟩) n cap), (4, .slice (some ⟨b, 0, none⟩) n cap)] (by kernel_rfl) (by kernel_rfl) ?_
  refine WO.call (SQ.E 4 (by kernel_rfl)) 8 (by kernel_rfl) (stable_n b n cap q _ HR hn hall hm) ?_
  rintro _ w1 ⟨p, rfl, hPp, hSp, HR3, F2⟩
  refine ⟨_, rfl, trivial, ?_⟩
  have HA := Fr.step HA F2 (inSL (by simp) inS0)
  refine WO.done (by kernel_rfl) ?_
  refine WQ.keep [0, 1] (e' := [(0, .slice (some ⟨b, 0, none⟩) n cap), (1, .func (.func 50) #[] #[])]) (by kernel_rfl) ?_
  refine WQ.fall (v := .tuple #[]) (by kernel_rfl) ?_
  exact ⟨p, rfl, hPp, hSp, HR3, HA⟩

set_option maxRecDepth 100000 in
set_option maxHeartbeats 400000 in
theorem sort_n (ad : Addr) (n cap : Nat) (q : List Nat) (w : World) (hn : q.length = n) (hm : n ≤ 1000000) (hsrc : Src w (.slice (some ad) n cap) n (q.map cF).flatten 1) (hall : All q) (h100 : n ≤ 100) :
    Calls Try.prog 28 #[.slice (some ad) n cap] w fun e w' => ∃ b cap' p, e = .returned (.slice (some ⟨b, 0, none⟩) n cap') ∧ PIn 0 n q p ∧ Srt (rk p) 0 n ∧ RowB w' b 53 1 cap' (p.map cF) ∧ Fr [] w w' ∧ w.heap.size ≤ b := by
  have HA := Fr.refl [] w
  refine enter (N := 9) Try.func28 (c := _) rfl (by kernel_rfl) (by kernel_rfl) (e := [(0, .slice (some ad) n cap)]) (by kernel_rfl) ?_
  refine WE.seq ?_
  -- R0 edge.go:48
  refine WE.region ?_
  refine WO.run 1 0 [(2, .slice none 0 0)] (by kernel_rfl) (by kernel_rfl) ?_
  refine WO.done (by kernel_rfl) ?_
  refine WQ.keep [0, 2] (e' := [(0, .slice (some ad) n cap), (2, .slice none 0 0)]) (by kernel_rfl) ?_
  refine WQ.thenN ?_
  refine WE.seq ?_
  -- R1 edge.go:49
  refine WE.region ?_
  refine WO.run 1 0 [(4, .slice (some ad) n cap)] (by kernel_rfl) (by kernel_rfl) ?_
  refine WO.call (SQ.E 1 (by kernel_rfl)) 5 (by kernel_rfl) (clone_f ad n cap q _ hn (by omega) (hsrc.mono HA)) ?_
  rintro _ w1 ⟨b, cap2, rfl, HR3, F2, le4⟩
  refine ⟨_, rfl, trivial, ?_⟩
  have ge_HA_b := Nat.le_trans HA.size le4
  have HA := Fr.step0 HA F2
  refine WO.run 1 2 [(3, .slice (some ⟨b, 0, none⟩) n cap2)] (by kernel_rfl) (by kernel_rfl) ?_
  refine WO.done (by kernel_rfl) ?_
  refine WQ.keep [0, 2, 3] (e' := [(0, .slice (some ad) n cap), (2, .slice none 0 0), (3, .slice (some ⟨b, 0, none⟩) n cap2)]) (by kernel_rfl) ?_
  refine WQ.thenN ?_
  refine WE.seq ?_
  -- R2 edge.go:50
  refine WE.region ?_
  refine WO.run 1 0 [(6, .slice (some ⟨b, 0, none⟩) n cap2)] (by kernel_rfl) (by kernel_rfl) ?_
  refine WO.call (SQ.E 1 (by kernel_rfl)) 7 (by kernel_rfl) (ssort_n b n cap2 q _ HR3 hn hall h100) ?_
  rintro _ w5 ⟨p, rfl, hPp, hSp, HR7, F6⟩
  refine ⟨_, rfl, trivial, ?_⟩
  have HA := Fr.step HA F6 (inSR ge_HA_b inS0)
  refine WO.done (by kernel_rfl) ?_
  refine WQ.keep [0, 2, 3] (e' := [(0, .slice (some ad) n cap), (2, .slice none 0 0), (3, .slice (some ⟨b, 0, none⟩) n cap2)]) (by kernel_rfl) ?_
  refine WQ.thenN ?_
  refine WE.seq ?_
  -- R3 edge.go:59
  refine WE.region ?_
  refine WO.run 2 0 [(2, .slice (some ⟨b, 0, none⟩) n cap2), (8, .slice (some ⟨b, 0, none⟩) n cap2)] (by kernel_rfl) (by kernel_rfl) ?_
  refine WO.done (by kernel_rfl) ?_
  refine WQ.keep [0, 2, 3] (e' := [(0, .slice (some ad) n cap), (2, .slice (some ⟨b, 0, none⟩) n cap2), (3, .slice (some ⟨b, 0, none⟩) n cap2)]) (by kernel_rfl) ?_
  refine WQ.thenN ?_
  refine WE.ret ?_
  refine WQ.ret (v := .slice (some ⟨b, 0, none⟩) n cap2) (by kernel_rfl) ?_
  exact ⟨_, _, p, rfl, hPp, hSp, HR7, HA, ge_HA_b⟩
end Go.Proofs.Ytjnjkgoofkgiiaa.Edge
