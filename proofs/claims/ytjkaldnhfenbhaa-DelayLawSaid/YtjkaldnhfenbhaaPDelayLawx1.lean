-- PRINTED BY print.sh 35421559b90ae4d0a3588c463048766b98c2df88dd9212a6774a882060cdf62d: not written by this session
import Derived.Test.YtjkaldnhfenbhaaPDelayLawx0
namespace Go.Proofs.Ytjkaldnhfenbhaa.PDelayLaw
open Go.RowKit Go.Proofs.YtjkaldnhfenbhaaW.PrintWords Go.Proofs.YtjkaldnhfenbhaaW.PrintLast Go.Proofs.YtjkaldnhfenbhaaW.PrintMore
attribute [local go_sem] max2_int min2_int max_two min_two max_three min_three max_four min_four   -- for this text's walks alone
set_option linter.unusedVariables false
set_option linter.unusedSimpArgs false

/-! ### delay_Root: function 53 -/
def delay_Root.l0 : Nat → Int → Int → Int → Option (Int)
  | 0, _, _, _ => none
  | k + 1, x0, x3, x4 => if x4 > 0 then (if (IntKind.u64.wrap ((Go.bits .or .u64 x3 x4) * (Go.bits .or .u64 x3 x4))) ≤ x0 then (delay_Root.l0 k x0 (Go.bits .or .u64 x3 x4) (x4 / 2)) else (delay_Root.l0 k x0 x3 (x4 / 2))) else (some x3)
def delay_Root.f (k : Nat) (a0 : Int) : Option (Int) := delay_Root.l0 k a0 0 2147483648
theorem delay_Root.mono_l : ∀ k, (∀ y0 y1 y2, LeO (delay_Root.l0 k y0 y1 y2) (delay_Root.l0 (k + 1) y0 y1 y2))
  | 0 => fun _ _ _ r h => by simp [delay_Root.l0] at h
  | k + 1 => by
    have ih0 := delay_Root.mono_l k
    · intro y0 y1 y2
      unfold delay_Root.l0
      repeat' first
      | (with_reducible exact ih0 _ _ _)
      | (with_reducible exact LeO.refl _)
      | (with_reducible exact LeO.none _)
      | (with_reducible refine LeO.ite ?_ ?_)
      | (with_reducible refine LeO.bind ?_ (fun _ => ?_))
      | exact ih0 _ _ _
      | exact LeO.none _
      | refine LeO.ite ?_ ?_
      | refine LeO.bind ?_ (fun _ => ?_)
theorem delay_Root.mono : ∀ a0 k, LeO (delay_Root.f k a0) (delay_Root.f (k + 1) a0) := by
  intro a0 k
  have ih0 := delay_Root.mono_l k
  unfold delay_Root.f
  repeat' first
      | (with_reducible exact ih0 _ _ _)
      | (with_reducible exact LeO.refl _)
      | (with_reducible exact LeO.none _)
      | (with_reducible refine LeO.ite ?_ ?_)
      | (with_reducible refine LeO.bind ?_ (fun _ => ?_))
      | exact ih0 _ _ _
      | exact LeO.none _
      | refine LeO.ite ?_ ?_
      | refine LeO.bind ?_ (fun _ => ?_)
set_option maxHeartbeats 8000000 in
set_option maxRecDepth 100000 in
theorem delay_Root.calls (k : Nat) (a0 : Int) (r : Int) (w : World) (h : delay_Root.f k a0 = some r) :
    Calls Try.prog 53 #[.int .u64 a0] w fun e w' => e = .returned (.int .u64 r) ∧ Drawn0 w w' := by
  have H : (delay_Root.l0 k a0 0 2147483648) = some r := h
  clear h
  have H' := Aside0.mk H
  clear H
  go_enter Try.func53, Try.ntmps53
  go_wp2
  go_loopg [3, 4] k (fun kq v3 v4 w' => ∃ (x3_1 : Int) (x4_1 : Int), v3 = .int .u64 x3_1 ∧ v4 = .int .u64 x4_1 ∧ Aside0 (delay_Root.l0 kq a0 x3_1 x4_1 = some r) ∧ Aside0 (kq ≤ k) ∧ Drawn0 w w')
  case atStart => exact ⟨(0), (2147483648), (by first | rfl | (simp; done) | (simp [*]; done)), (by first | rfl | (simp; done) | (simp [*]; done)), H', ⟨Nat.le_refl _⟩, by repeat (first | exact Drawn0.refl _ | apply Drawn0.step)⟩
  case round =>
    clear H'
    obtain ⟨x3_1, x4_1, rfl, rfl, HA, HK1, ⟨m1, rfl⟩⟩ := hrel
    cases gk with
    | zero => exact absurd HA.out (by simp [delay_Root.l0])
    | succ k1 =>
      have H := HA.out
      clear HA
      simp only [delay_Root.l0] at H
      by_cases c2 : x4_1 > 0
      · rw [if_pos c2] at H
        have c2b0 : decide (0 < x4_1) = true := decide_eq_true c2
        clear c2
        by_cases c3 : (IntKind.u64.wrap ((Go.bits .or .u64 x3_1 x4_1) * (Go.bits .or .u64 x3_1 x4_1))) ≤ a0
        · rw [if_pos c3] at H
          have c3b0 : decide ((IntKind.u64.wrap ((Go.bits .or .u64 x3_1 x4_1) * (Go.bits .or .u64 x3_1 x4_1))) ≤ a0) = true := decide_eq_true c3
          clear c3
          have H' := Aside0.mk H
          clear H
          go_wp2
          go_roundg k1
          case measure => have := HK1.out; omega
          case rel => exact ⟨(Go.bits .or .u64 x3_1 x4_1), (x4_1 / 2), (by first | rfl | (simp; done) | (simp [*]; done)), (by first | rfl | (simp; done) | (simp [*]; done)), H', ⟨by have := HK1.out; omega⟩, by repeat (first | exact Drawn0.refl _ | apply Drawn0.step)⟩
        · rw [if_neg c3] at H
          have c3b0 : decide ((IntKind.u64.wrap ((Go.bits .or .u64 x3_1 x4_1) * (Go.bits .or .u64 x3_1 x4_1))) ≤ a0) = false := decide_eq_false c3
          clear c3
          have H' := Aside0.mk H
          clear H
          go_wp2
          go_roundg k1
          case measure => have := HK1.out; omega
          case rel => exact ⟨(x3_1), (x4_1 / 2), (by first | rfl | (simp; done) | (simp [*]; done)), (by first | rfl | (simp; done) | (simp [*]; done)), H', ⟨by have := HK1.out; omega⟩, by repeat (first | exact Drawn0.refl _ | apply Drawn0.step)⟩
      · rw [if_neg c2] at H
        have c2b0 : decide (0 < x4_1) = false := decide_eq_false c2
        clear c2
        obtain rfl := Option.some.inj H
        go_wp2
        go_ret
        exact ⟨by first | rfl | (simp; done) | (simp [*]; done), by repeat (first | exact Drawn0.refl _ | apply Drawn0.step)⟩

/-! ### delay_Pause: function 54 -/
def delay_Pause.f (k : Nat) (a0 : Int) (a1 : Int) : Option (Int) := if a0 < 1 then (some 0) else (if a0 > 1000000 then (some 0) else (if a1 < 1 then (some 0) else (if a1 > 1000000 then (some 0) else ((delay_Root.f k (IntKind.u64.wrap ((IntKind.u64.wrap ((IntKind.u64.wrap (a1)) * 1024)) * 1024))).bind fun t101 => (if (wrap64 (t101)) = 0 then (none) else (some (wrap64 (Int.tdiv (wrap64 (a0 * 1024)) (wrap64 (t101))))))))))
theorem delay_Pause.mono : ∀ a0 a1 k, LeO (delay_Pause.f k a0 a1) (delay_Pause.f (k + 1) a0 a1) := by
  intro a0 a1 k
  unfold delay_Pause.f
  repeat' first
      | (with_reducible exact delay_Root.mono _ _)
      | (with_reducible exact LeO.refl _)
      | (with_reducible exact LeO.none _)
      | (with_reducible refine LeO.ite ?_ ?_)
      | (with_reducible refine LeO.bind ?_ (fun _ => ?_))
      | exact delay_Root.mono _ _
      | exact LeO.none _
      | refine LeO.ite ?_ ?_
      | refine LeO.bind ?_ (fun _ => ?_)
set_option maxHeartbeats 8000000 in
set_option maxRecDepth 100000 in
theorem delay_Pause.calls (k : Nat) (a0 : Int) (a1 : Int) (r : Int) (w : World) (h : delay_Pause.f k a0 a1 = some r) :
    Calls Try.prog 54 #[.int .i64 a0, .int .i64 a1] w fun e w' => e = .returned (.int .i64 r) ∧ Drawn0 w w' := by
  have H : (if a0 < 1 then (some 0) else (if a0 > 1000000 then (some 0) else (if a1 < 1 then (some 0) else (if a1 > 1000000 then (some 0) else ((delay_Root.f k (IntKind.u64.wrap ((IntKind.u64.wrap ((IntKind.u64.wrap (a1)) * 1024)) * 1024))).bind fun t101 => (if (wrap64 (t101)) = 0 then (none) else (some (wrap64 (Int.tdiv (wrap64 (a0 * 1024)) (wrap64 (t101))))))))))) = some r := h
  clear h
  by_cases c3 : a0 < 1
  · rw [if_pos c3] at H
    have c3b0 : decide (a0 < 1) = true := decide_eq_true c3
    clear c3
    obtain rfl := Option.some.inj H
    go_enter Try.func54, Try.ntmps54
    go_wp2
    go_ret
    exact ⟨by first | rfl | (simp; done) | (simp [*]; done), by repeat (first | exact Drawn0.refl _ | apply Drawn0.step)⟩
  · rw [if_neg c3] at H
    have c3b0 : decide (a0 < 1) = false := decide_eq_false c3
    clear c3
    by_cases c4 : a0 > 1000000
    · rw [if_pos c4] at H
      have c4b0 : decide (1000000 < a0) = true := decide_eq_true c4
      clear c4
      obtain rfl := Option.some.inj H
      go_enter Try.func54, Try.ntmps54
      go_wp2
      go_ret
      exact ⟨by first | rfl | (simp; done) | (simp [*]; done), by repeat (first | exact Drawn0.refl _ | apply Drawn0.step)⟩
    · rw [if_neg c4] at H
      have c4b0 : decide (1000000 < a0) = false := decide_eq_false c4
      clear c4
      by_cases c5 : a1 < 1
      · rw [if_pos c5] at H
        have c5b0 : decide (a1 < 1) = true := decide_eq_true c5
        clear c5
        obtain rfl := Option.some.inj H
        go_enter Try.func54, Try.ntmps54
        go_wp2
        go_ret
        exact ⟨by first | rfl | (simp; done) | (simp [*]; done), by repeat (first | exact Drawn0.refl _ | apply Drawn0.step)⟩
      · rw [if_neg c5] at H
        have c5b0 : decide (a1 < 1) = false := decide_eq_false c5
        clear c5
        by_cases c6 : a1 > 1000000
        · rw [if_pos c6] at H
          have c6b0 : decide (1000000 < a1) = true := decide_eq_true c6
          clear c6
          obtain rfl := Option.some.inj H
          go_enter Try.func54, Try.ntmps54
          go_wp2
          go_ret
          exact ⟨by first | rfl | (simp; done) | (simp [*]; done), by repeat (first | exact Drawn0.refl _ | apply Drawn0.step)⟩
        · rw [if_neg c6] at H
          have c6b0 : decide (1000000 < a1) = false := decide_eq_false c6
          clear c6
          replace H := Option.bind_eq_some_iff.mp H
          obtain ⟨t101, A70, H⟩ := H
          replace H : (if (wrap64 (t101)) = 0 then (none) else (some (wrap64 (Int.tdiv (wrap64 (a0 * 1024)) (wrap64 (t101)))))) = some r := H
          have A7 := Aside0.mk A70
          clear A70
          by_cases c8 : (wrap64 (t101)) = 0
          · rw [if_pos c8] at H
            exact absurd H (by simp)
          · rw [if_neg c8] at H
            have c8b0 : ((wrap64 (t101)) == 0) = false := beq_eq_false_iff_ne.mpr c8
            have c8b1 : ((wrap64 (t101)) != 0) = true := bne_iff_ne.mpr c8
            obtain rfl := Option.some.inj H
            go_enter Try.func54, Try.ntmps54
            go_wp2_with (first | ((with_reducible refine gate_callee (f := 53) rfl ?_); refine goesL_ (some 25) rfl rfl Try.func53 (by kernel_rfl) rfl #[.int .u64 (IntKind.u64.wrap ((IntKind.u64.wrap ((IntKind.u64.wrap (a1)) * 1024)) * 1024))] rfl (by (try simp only [List.map_toArray, List.map_cons, List.map_nil]); first | done | rfl | (simp only [List.length_drop, List.length_take]; rfl)) ?_; (with_reducible refine (delay_Root.calls k (IntKind.u64.wrap ((IntKind.u64.wrap ((IntKind.u64.wrap (a1)) * 1024)) * 1024)) t101 _ A7.out).mono ?_); rintro e w' ⟨rfl, ⟨nd, rfl⟩⟩; refine ⟨_, rfl, ?_⟩))
            go_ret
            exact ⟨by first | rfl | (simp; done) | (simp [*]; done), by repeat (first | exact Drawn0.refl _ | apply Drawn0.step)⟩

-- NOT PRINTED: function 55 (delay_New)

/-- A state of type 133 at block g of W; what its slices lead to came in by w0. -/
def IsS133 (w0 W : World) (g : Nat) (f0 : Int) (f1 : Int) (f2 : Int) (f3 : Int) (f4 : Int) (f5 : Int) (f6 : Int) : Prop := W.heap[g]? = some (.cells #[.int .i64 f0, .int .i64 f1, .int .i64 f2, .int .i64 f3, .int .i64 f4, .int .i64 f5, .int .i64 f6] 133 (0, 0)) ∧ w0.heap.size ≤ g
theorem IsS133.grown {w0 W : World} {g : Nat} {f0 : Int} {f1 : Int} {f2 : Int} {f3 : Int} {f4 : Int} {f5 : Int} {f6 : Int} {W1 : World} {row : Option Nat} (h : IsS133 w0 W g f0 f1 f2 f3 f4 f5 f6) (hw : W.grownBy W1 row) (hne : some g ≠ row) : IsS133 w0 W1 g f0 f1 f2 f3 f4 f5 f6 := by
  obtain ⟨hb, hg⟩ := h
  exact ⟨blk_grown hb hw hne, hg⟩
theorem IsS133.own_neN {w0 W : World} {g : Nat} {f0 : Int} {f1 : Int} {f2 : Int} {f3 : Int} {f4 : Int} {f5 : Int} {f6 : Int} {α : Type} {d : Kd α} {e : Nat} {base : Nat} {ok : Nat → Prop} {v : Value} {xs : List α} (h : IsS133 w0 W g f0 f1 f2 f3 f4 f5 f6) (ho : Kd.N d e W base ok v xs) (ht : e ≠ 133) : some g ≠ v.ownBlock := by
  obtain ⟨hb, hg⟩ := h
  exact Kd.N_ne ho hb ht
theorem IsS133.fresh {w0 W : World} {g : Nat} {f0 : Int} {f1 : Int} {f2 : Int} {f3 : Int} {f4 : Int} {f5 : Int} {f6 : Int} (h : IsS133 w0 W g f0 f1 f2 f3 f4 f5 f6) : ∀ k, W.heap.size ≤ k → k ≠ g := by
  obtain ⟨hb, hg⟩ := h
  exact Kd.freshB hb
theorem IsS133.kept {w0 W : World} {g : Nat} {f0 : Int} {f1 : Int} {f2 : Int} {f3 : Int} {f4 : Int} {f5 : Int} {f6 : Int} {W1 : World} {S : Nat → Prop} (h : IsS133 w0 W g f0 f1 f2 f3 f4 f5 f6) (hk : Kept W W1 S) (hne : ¬ S g) : IsS133 w0 W1 g f0 f1 f2 f3 f4 f5 f6 := by
  obtain ⟨hb, hg⟩ := h
  exact ⟨blk_kept hb hk hne, hg⟩
theorem IsS133.below {w0 W : World} {g : Nat} {f0 : Int} {f1 : Int} {f2 : Int} {f3 : Int} {f4 : Int} {f5 : Int} {f6 : Int} {W1 : World} (h : IsS133 w0 W g f0 f1 f2 f3 f4 f5 f6) (hw : Below W.heap.size W W1) : IsS133 w0 W1 g f0 f1 f2 f3 f4 f5 f6 := h.grown (grown_of_below hw none) (by simp)
theorem IsS133.alloc {w0 W : World} {g : Nat} {f0 : Int} {f1 : Int} {f2 : Int} {f3 : Int} {f4 : Int} {f5 : Int} {f6 : Int} (h : IsS133 w0 W g f0 f1 f2 f3 f4 f5 f6) (o : Obj) : IsS133 w0 (W.alloc o) g f0 f1 f2 f3 f4 f5 f6 := h.below (below_alloc (Below.refl _ _) o)
theorem IsS133.drewN {w0 W : World} {g : Nat} {f0 : Int} {f1 : Int} {f2 : Int} {f3 : Int} {f4 : Int} {f5 : Int} {f6 : Int} (h : IsS133 w0 W g f0 f1 f2 f3 f4 f5 f6) (m : Nat) : IsS133 w0 (W.drewN m) g f0 f1 f2 f3 f4 f5 f6 := h
theorem IsS133.drew {w0 W : World} {g : Nat} {f0 : Int} {f1 : Int} {f2 : Int} {f3 : Int} {f4 : Int} {f5 : Int} {f6 : Int} (h : IsS133 w0 W g f0 f1 f2 f3 f4 f5 f6) : IsS133 w0 W.drew g f0 f1 f2 f3 f4 f5 f6 := h
theorem IsS133.at_ {w0 W : World} {g : Nat} {f0 : Int} {f1 : Int} {f2 : Int} {f3 : Int} {f4 : Int} {f5 : Int} {f6 : Int} {w' : World} {m : Nat} (hq : W.drewN m = w') (h : IsS133 w0 W g f0 f1 f2 f3 f4 f5 f6) : IsS133 w0 w' g f0 f1 f2 f3 f4 f5 f6 := by subst hq; exact IsS133.drewN h m
theorem IsS133.apart {w0 W : World} {g : Nat} {f0 : Int} {f1 : Int} {f2 : Int} {f3 : Int} {f4 : Int} {f5 : Int} {f6 : Int} {α : Type} {d : Kd α} {e : Nat} {base : Nat} {ok : Nat → Prop} {v : Value} {xs : List α} (h : IsS133 w0 W g f0 f1 f2 f3 f4 f5 f6) (ho : d.R e W base ok v xs) (ht : ∀ q, q ∈ e :: d.E → q ≠ 133) : d.R e W base (fun k => ok k ∧ k ≠ g) v xs := by
  obtain ⟨hb, hg⟩ := h
  exact Kd.R_types ho hb ht
theorem IsS133.own_ne {w0 W : World} {g : Nat} {f0 : Int} {f1 : Int} {f2 : Int} {f3 : Int} {f4 : Int} {f5 : Int} {f6 : Int} {α : Type} {d : Kd α} {e : Nat} {base : Nat} {ok : Nat → Prop} {v : Value} {xs : List α} (h : IsS133 w0 W g f0 f1 f2 f3 f4 f5 f6) (ho : d.R e W base ok v xs) (ht : e ≠ 133) : some g ≠ v.ownBlock := by
  obtain ⟨hb, hg⟩ := h
  exact Kd.R_ne ho hb ht
theorem IsS133.apartQ {w0 W : World} {g : Nat} {f0 : Int} {f1 : Int} {f2 : Int} {f3 : Int} {f4 : Int} {f5 : Int} {f6 : Int} {α : Type} {d : Kd α} {e : Nat} {base : Nat} {ok : Nat → Prop} {v : Value} {xs : List α} (h : IsS133 w0 W g f0 f1 f2 f3 f4 f5 f6) (ho : d.Q e W base ok v xs) (ht : ∀ q, q ∈ e :: d.E → q ≠ 133) : d.Q e W base (fun k => ok k ∧ k ≠ g) v xs := by
  obtain ⟨hb, hg⟩ := h
  exact Kd.Q_types ho hb ht
theorem IsS133.own_neQ {w0 W : World} {g : Nat} {f0 : Int} {f1 : Int} {f2 : Int} {f3 : Int} {f4 : Int} {f5 : Int} {f6 : Int} {α : Type} {d : Kd α} {e : Nat} {base : Nat} {ok : Nat → Prop} {v : Value} {xs : List α} (h : IsS133 w0 W g f0 f1 f2 f3 f4 f5 f6) (ho : d.Q e W base ok v xs) (ht : e ≠ 133) : some g ≠ v.ownBlock := by
  obtain ⟨hb, hg⟩ := h
  exact Kd.Q_ne ho hb ht
theorem IsS133.apartS {w0 W : World} {g : Nat} {f0 : Int} {f1 : Int} {f2 : Int} {f3 : Int} {f4 : Int} {f5 : Int} {f6 : Int} {α : Type} {d : Kd α} {e : Nat} {base : Nat} {ok : Nat → Prop} {v : Value} {xs : List α} (h : IsS133 w0 W g f0 f1 f2 f3 f4 f5 f6) (ho : d.S e W base ok v xs) (ht : ∀ q, q ∈ e :: d.E → q ≠ 133) : d.S e W base (fun k => ok k ∧ k ≠ g) v xs := by
  obtain ⟨hb, hg⟩ := h
  exact Kd.S_types ho hb ht
theorem IsS133.own_neS {w0 W : World} {g : Nat} {f0 : Int} {f1 : Int} {f2 : Int} {f3 : Int} {f4 : Int} {f5 : Int} {f6 : Int} {α : Type} {d : Kd α} {e : Nat} {base : Nat} {ok : Nat → Prop} {v : Value} {xs : List α} (h : IsS133 w0 W g f0 f1 f2 f3 f4 f5 f6) (ho : d.S e W base ok v xs) (ht : e ≠ 133) : some g ≠ v.ownBlock := by
  obtain ⟨hb, hg⟩ := h
  exact Kd.S_ne ho hb ht
theorem IsS133.lt {w0 W : World} {g : Nat} {f0 : Int} {f1 : Int} {f2 : Int} {f3 : Int} {f4 : Int} {f5 : Int} {f6 : Int} (h : IsS133 w0 W g f0 f1 f2 f3 f4 f5 f6) : g < W.heap.size := by
  obtain ⟨hb, hg⟩ := h
  exact blk_lt hb
theorem IsS133.ge {w0 W : World} {g : Nat} {f0 : Int} {f1 : Int} {f2 : Int} {f3 : Int} {f4 : Int} {f5 : Int} {f6 : Int} (h : IsS133 w0 W g f0 f1 f2 f3 f4 f5 f6) : w0.heap.size ≤ g := by
  obtain ⟨hb, hg⟩ := h
  exact hg
theorem IsS133.ne_blk {w0 W : World} {g : Nat} {f0 : Int} {f1 : Int} {f2 : Int} {f3 : Int} {f4 : Int} {f5 : Int} {f6 : Int} {a : Nat} {cs : Array Value} {t : TypeId} {fr : Nat × Nat} (h : IsS133 w0 W g f0 f1 f2 f3 f4 f5 f6) (hb2 : W.heap[a]? = some (.cells cs t fr)) (ht : t ≠ 133) : g ≠ a := by
  obtain ⟨hb, hg⟩ := h
  rintro rfl
  rw [hb] at hb2
  injection hb2 with hb2
  injection hb2 with _ ht2
  exact ht ht2.symm
theorem IsS133.far {w0 W : World} {g : Nat} {f0 : Int} {f1 : Int} {f2 : Int} {f3 : Int} {f4 : Int} {f5 : Int} {f6 : Int} {p : Addr} (h : IsS133 w0 W g f0 f1 f2 f3 f4 f5 f6) (hne : g ≠ p.block) (u : Value) : IsS133 w0 (W.setCell p u) g f0 f1 f2 f3 f4 f5 f6 := by
  obtain ⟨hb, hg⟩ := h
  exact ⟨blk_far hb hne u, hg⟩
theorem cellS133_0 {W : World} {g : Nat} {f0 : Int} {f1 : Int} {f2 : Int} {f3 : Int} {f4 : Int} {f5 : Int} {f6 : Int} (h : W.heap[g]? = some (.cells #[.int .i64 f0, .int .i64 f1, .int .i64 f2, .int .i64 f3, .int .i64 f4, .int .i64 f5, .int .i64 f6] 133 (0, 0))) : W.cell? ⟨g, 0, none⟩ = some (.int .i64 f0) := (blk_cell h 0).trans rfl
theorem IsS133.set_0 {w0 W : World} {g : Nat} {f0 : Int} {f1 : Int} {f2 : Int} {f3 : Int} {f4 : Int} {f5 : Int} {f6 : Int} (h : IsS133 w0 W g f0 f1 f2 f3 f4 f5 f6) (x : Int) : IsS133 w0 (W.setCell ⟨g, 0, none⟩ (.int .i64 x)) g x f1 f2 f3 f4 f5 f6 := by
  obtain ⟨hb, hg⟩ := h
  exact ⟨by simpa using blk_set hb 0 (.int .i64 x), hg⟩
theorem cellS133_1 {W : World} {g : Nat} {f0 : Int} {f1 : Int} {f2 : Int} {f3 : Int} {f4 : Int} {f5 : Int} {f6 : Int} (h : W.heap[g]? = some (.cells #[.int .i64 f0, .int .i64 f1, .int .i64 f2, .int .i64 f3, .int .i64 f4, .int .i64 f5, .int .i64 f6] 133 (0, 0))) : W.cell? ⟨g, 1, none⟩ = some (.int .i64 f1) := (blk_cell h 1).trans rfl
theorem IsS133.set_1 {w0 W : World} {g : Nat} {f0 : Int} {f1 : Int} {f2 : Int} {f3 : Int} {f4 : Int} {f5 : Int} {f6 : Int} (h : IsS133 w0 W g f0 f1 f2 f3 f4 f5 f6) (x : Int) : IsS133 w0 (W.setCell ⟨g, 1, none⟩ (.int .i64 x)) g f0 x f2 f3 f4 f5 f6 := by
  obtain ⟨hb, hg⟩ := h
  exact ⟨by simpa using blk_set hb 1 (.int .i64 x), hg⟩
theorem cellS133_2 {W : World} {g : Nat} {f0 : Int} {f1 : Int} {f2 : Int} {f3 : Int} {f4 : Int} {f5 : Int} {f6 : Int} (h : W.heap[g]? = some (.cells #[.int .i64 f0, .int .i64 f1, .int .i64 f2, .int .i64 f3, .int .i64 f4, .int .i64 f5, .int .i64 f6] 133 (0, 0))) : W.cell? ⟨g, 2, none⟩ = some (.int .i64 f2) := (blk_cell h 2).trans rfl
theorem IsS133.set_2 {w0 W : World} {g : Nat} {f0 : Int} {f1 : Int} {f2 : Int} {f3 : Int} {f4 : Int} {f5 : Int} {f6 : Int} (h : IsS133 w0 W g f0 f1 f2 f3 f4 f5 f6) (x : Int) : IsS133 w0 (W.setCell ⟨g, 2, none⟩ (.int .i64 x)) g f0 f1 x f3 f4 f5 f6 := by
  obtain ⟨hb, hg⟩ := h
  exact ⟨by simpa using blk_set hb 2 (.int .i64 x), hg⟩
theorem cellS133_3 {W : World} {g : Nat} {f0 : Int} {f1 : Int} {f2 : Int} {f3 : Int} {f4 : Int} {f5 : Int} {f6 : Int} (h : W.heap[g]? = some (.cells #[.int .i64 f0, .int .i64 f1, .int .i64 f2, .int .i64 f3, .int .i64 f4, .int .i64 f5, .int .i64 f6] 133 (0, 0))) : W.cell? ⟨g, 3, none⟩ = some (.int .i64 f3) := (blk_cell h 3).trans rfl
theorem IsS133.set_3 {w0 W : World} {g : Nat} {f0 : Int} {f1 : Int} {f2 : Int} {f3 : Int} {f4 : Int} {f5 : Int} {f6 : Int} (h : IsS133 w0 W g f0 f1 f2 f3 f4 f5 f6) (x : Int) : IsS133 w0 (W.setCell ⟨g, 3, none⟩ (.int .i64 x)) g f0 f1 f2 x f4 f5 f6 := by
  obtain ⟨hb, hg⟩ := h
  exact ⟨by simpa using blk_set hb 3 (.int .i64 x), hg⟩
theorem cellS133_4 {W : World} {g : Nat} {f0 : Int} {f1 : Int} {f2 : Int} {f3 : Int} {f4 : Int} {f5 : Int} {f6 : Int} (h : W.heap[g]? = some (.cells #[.int .i64 f0, .int .i64 f1, .int .i64 f2, .int .i64 f3, .int .i64 f4, .int .i64 f5, .int .i64 f6] 133 (0, 0))) : W.cell? ⟨g, 4, none⟩ = some (.int .i64 f4) := (blk_cell h 4).trans rfl
theorem IsS133.set_4 {w0 W : World} {g : Nat} {f0 : Int} {f1 : Int} {f2 : Int} {f3 : Int} {f4 : Int} {f5 : Int} {f6 : Int} (h : IsS133 w0 W g f0 f1 f2 f3 f4 f5 f6) (x : Int) : IsS133 w0 (W.setCell ⟨g, 4, none⟩ (.int .i64 x)) g f0 f1 f2 f3 x f5 f6 := by
  obtain ⟨hb, hg⟩ := h
  exact ⟨by simpa using blk_set hb 4 (.int .i64 x), hg⟩
theorem cellS133_5 {W : World} {g : Nat} {f0 : Int} {f1 : Int} {f2 : Int} {f3 : Int} {f4 : Int} {f5 : Int} {f6 : Int} (h : W.heap[g]? = some (.cells #[.int .i64 f0, .int .i64 f1, .int .i64 f2, .int .i64 f3, .int .i64 f4, .int .i64 f5, .int .i64 f6] 133 (0, 0))) : W.cell? ⟨g, 5, none⟩ = some (.int .i64 f5) := (blk_cell h 5).trans rfl
theorem IsS133.set_5 {w0 W : World} {g : Nat} {f0 : Int} {f1 : Int} {f2 : Int} {f3 : Int} {f4 : Int} {f5 : Int} {f6 : Int} (h : IsS133 w0 W g f0 f1 f2 f3 f4 f5 f6) (x : Int) : IsS133 w0 (W.setCell ⟨g, 5, none⟩ (.int .i64 x)) g f0 f1 f2 f3 f4 x f6 := by
  obtain ⟨hb, hg⟩ := h
  exact ⟨by simpa using blk_set hb 5 (.int .i64 x), hg⟩
theorem cellS133_6 {W : World} {g : Nat} {f0 : Int} {f1 : Int} {f2 : Int} {f3 : Int} {f4 : Int} {f5 : Int} {f6 : Int} (h : W.heap[g]? = some (.cells #[.int .i64 f0, .int .i64 f1, .int .i64 f2, .int .i64 f3, .int .i64 f4, .int .i64 f5, .int .i64 f6] 133 (0, 0))) : W.cell? ⟨g, 6, none⟩ = some (.int .i64 f6) := (blk_cell h 6).trans rfl
theorem IsS133.set_6 {w0 W : World} {g : Nat} {f0 : Int} {f1 : Int} {f2 : Int} {f3 : Int} {f4 : Int} {f5 : Int} {f6 : Int} (h : IsS133 w0 W g f0 f1 f2 f3 f4 f5 f6) (x : Int) : IsS133 w0 (W.setCell ⟨g, 6, none⟩ (.int .i64 x)) g f0 f1 f2 f3 f4 f5 x := by
  obtain ⟨hb, hg⟩ := h
  exact ⟨by simpa using blk_set hb 6 (.int .i64 x), hg⟩
theorem IsS133.new (w0 W : World) (f0 : Int) (f1 : Int) (f2 : Int) (f3 : Int) (f4 : Int) (f5 : Int) (f6 : Int) (hB : Below w0.heap.size w0 W) : IsS133 w0 (W.alloc (.cells #[.int .i64 f0, .int .i64 f1, .int .i64 f2, .int .i64 f3, .int .i64 f4, .int .i64 f5, .int .i64 f6] 133)) W.heap.size f0 f1 f2 f3 f4 f5 f6 := ⟨by simpa using heap_alloc_new W _, hB.size⟩

/-! ### delay_Control_Count: function 56 -/
def delay_Control_Count.f (s0_0 : Int) (s0_1 : Int) (s0_2 : Int) (s0_3 : Int) (s0_4 : Int) (s0_5 : Int) (s0_6 : Int) : Option (Int × Int × Int × Int × Int × Int × Int × Int) := some (s0_5, s0_0, s0_1, s0_2, s0_3, s0_4, s0_5, s0_6)
set_option maxHeartbeats 8000000 in
set_option maxRecDepth 100000 in
theorem delay_Control_Count.calls (g : Nat) (s0_0 : Int) (s0_1 : Int) (s0_2 : Int) (s0_3 : Int) (s0_4 : Int) (s0_5 : Int) (s0_6 : Int) (r1 : Int) (r2 : Int) (r3 : Int) (r4 : Int) (r5 : Int) (r6 : Int) (r7 : Int) (r8 : Int) (w0 w : World) (hI : IsS133 w0 w g s0_0 s0_1 s0_2 s0_3 s0_4 s0_5 s0_6) (hB : Below w0.heap.size w0 w) (h : delay_Control_Count.f s0_0 s0_1 s0_2 s0_3 s0_4 s0_5 s0_6 = some (r1, r2, r3, r4, r5, r6, r7, r8)) :
    Calls Try.prog 56 #[.pointer (some ⟨g, 0, none⟩)] w fun e w' => e = .returned (.int .i64 r1) ∧ IsS133 w0 w' g r2 r3 r4 r5 r6 r7 r8 ∧ Below w0.heap.size w0 w' ∧ KeepBut w w' g none := by
  have HI0 := Aside0.mk hI
  have HK := Aside0.mk (KeepBut.refl w g none)
  have HL := Aside0.mk hB.size
  clear hI
  have HW0 := Aside0.mk hB.size
  have HB := Aside0.mk hB
  clear hB
  have H : (some (s0_5, s0_0, s0_1, s0_2, s0_3, s0_4, s0_5, s0_6)) = some (r1, r2, r3, r4, r5, r6, r7, r8) := h
  clear h
  simp only [Option.some.injEq, Prod.mk.injEq] at H
  obtain ⟨rfl, rfl, rfl, rfl, rfl, rfl, rfl, rfl⟩ := H
  obtain ⟨HGz2, hgz2⟩ := HI0.out
  have hcz2_0 := cellS133_0 HGz2
  have hcz2_1 := cellS133_1 HGz2
  have hcz2_2 := cellS133_2 HGz2
  have hcz2_3 := cellS133_3 HGz2
  have hcz2_4 := cellS133_4 HGz2
  have hcz2_5 := cellS133_5 HGz2
  have hcz2_6 := cellS133_6 HGz2
  have hfz2_0 := blk_frozen HGz2 0
  have hfz2_1 := blk_frozen HGz2 1
  have hfz2_2 := blk_frozen HGz2 2
  have hfz2_3 := blk_frozen HGz2 3
  have hfz2_4 := blk_frozen HGz2 4
  have hfz2_5 := blk_frozen HGz2 5
  have hfz2_6 := blk_frozen HGz2 6
  clear HGz2 hgz2
  go_enter Try.func56, Try.ntmps56
  go_wp2
  go_ret
  exact ⟨by first | rfl | (simp [errW_none, errW_some] <;> rfl) | (simp [*, errW_none, errW_some] <;> rfl), by repeat (first | (with_reducible first | exact HI0.out | apply IsS133.alloc | apply IsS133.drewN | apply IsS133.drew | apply IsS133.set_0 | apply IsS133.set_1 | apply IsS133.set_2 | apply IsS133.set_3 | apply IsS133.set_4 | apply IsS133.set_5 | apply IsS133.set_6) | exact HI0.out), by repeat (first | (with_reducible first | exact HB.out | apply below_alloc | apply pw_below_drewN | apply below_drew1 | refine below_set ?_ (IsS133.ge HI0.out)) | exact HB.out), by repeat (first | (with_reducible first | exact HK.out | apply KeepBut.set_ | apply keep_drewN | apply keep_drew | apply keep_alloc) | exact HK.out)⟩

-- NOT PRINTED: function 57 (delay_Control_Ask)

-- NOT PRINTED: function 52 (nogginlaw11_up)

-- NOT PRINTED: function 11 (nogginlaw11_DelayLaw)

end Go.Proofs.Ytjkaldnhfenbhaa.PDelayLaw
