/- Layer 13's queue, as an object with its blocks. -/
import Derived.Test.YtjnjkgoofkgiiaaTimerW
set_option linter.unusedVariables false
set_option linter.unusedSimpArgs false
namespace Go.Proofs.Ytjnjkgoofkgiiaa.Timer
open Go Go.RowKit Go.Proofs.Ytjnjkgoofkgiiaa Go.Proofs.Ytjnjkgoofkgiiaa.Eng

/-- a queue at block g; F: its blocks -/
def IsQ (w : World) (F : List Nat) (g : Nat) (q : List Ent) (t : Int) : Prop :=
  (F = [g] ∧ q = [] ∧ Blk w g #[.slice none 0 0, .int .i64 t] 66) ∨
  ∃ b cap, F = [g, b] ∧ b ≠ g ∧ Blk w g #[.slice (some ⟨b, 0, none⟩) q.length cap, .int .i64 t] 66 ∧ RowB w b 68 3 cap (q.map cE)
theorem IsQ.keep {w w1 : World} {F S : List Nat} {g : Nat} {q : List Ent} {t : Int} (h : IsQ w F g q t) (k : Fr S w w1) (hn : ∀ y ∈ F, y ∉ S) : IsQ w1 F g q t := by
  rcases h with ⟨rfl, h2, h3⟩ | ⟨b, cap, rfl, h2, h3, h4⟩
  · exact .inl ⟨rfl, h2, h3.keep k (hn g (by simp))⟩
  · exact .inr ⟨b, cap, rfl, h2, h3.keep k (hn g (by simp)), h4.keep k (hn b (by simp))⟩
theorem IsQ.lt {w : World} {F : List Nat} {g : Nat} {q : List Ent} {t : Int} (h : IsQ w F g q t) : ∀ y ∈ F, y < w.heap.size := by
  rcases h with ⟨rfl, h2, h3⟩ | ⟨b, cap, rfl, h2, h3, h4⟩
  · intro y hy
    obtain rfl : y = g := by simpa using hy
    exact h3.lt
  · intro y hy
    rcases (by simpa using hy : y = g ∨ y = b) with rfl | rfl
    · exact h3.lt
    · exact h4.lt
theorem new_q (w : World) : Calls Try.prog 12 #[] w fun e w' => ∃ g, e = .returned (.pointer (some ⟨g, 0, none⟩)) ∧ IsQ w' [g] g [] 0 ∧ Fr [] w w' ∧ w.heap.size ≤ g :=
  (new_any w).mono fun e w' ⟨g, h1, h2, h3, h4⟩ => ⟨g, h1, .inl ⟨rfl, rfl, h2⟩, h3, h4⟩
theorem set_q (F : List Nat) (g : Nat) (q : List Ent) (t a x : Int) (w : World) (h : IsQ w F g q t) (ha : 0 ≤ a) (hl : q.length < 50) (ht : 0 ≤ t) (ht2 : t ≤ 1000000) :
    Calls Try.prog 14 #[.pointer (some ⟨g, 0, none⟩), .int .i64 a, .int .i64 x] w fun e w' => e = .returned .nilIface ∧ ∃ F', IsQ w' F' g (setQ q ⟨a, x, t + 1⟩) (t + 1) ∧ Fr F w w' ∧ ∀ y ∈ F', y ∈ F ∨ w.heap.size ≤ y := by
  rcases h with ⟨rfl, rfl, h3⟩ | ⟨b, cap, rfl, h2, h3, h4⟩
  · refine (set_nil g t a x w h3 ha ht ht2).mono ?_
    rintro e w' ⟨h5, b', cap', h6, h7, h8, h9, h10⟩
    refine ⟨h5, [g, b'], .inr ⟨b', cap', rfl, h9, ?_, h7⟩, h8, fun y hy => ?_⟩
    · rw [setQ_len]
      exact h6
    · rcases (by simpa using hy : y = g ∨ y = b') with rfl | rfl
      · exact .inl (by simp)
      · exact h10
  · refine (set_row g b cap q.length q t a x w h3 h4 h2 rfl hl ha ht ht2).mono ?_
    rintro e w' ⟨h5, b', cap', h6, h7, h8, h9, h10⟩
    refine ⟨h5, [g, b'], .inr ⟨b', cap', rfl, h9, ?_, h7⟩, h8, fun y hy => ?_⟩
    · rw [setQ_len]
      exact h6
    · rcases (by simpa using hy : y = g ∨ y = b') with rfl | rfl
      · exact .inl (by simp)
      · exact h10
theorem set_q_full (F : List Nat) (g : Nat) (q : List Ent) (t a x : Int) (w : World) (h : IsQ w F g q t) (ha : 0 ≤ a) (hl : 50 ≤ q.length) (hl2 : q.length ≤ 1000) :
    Calls Try.prog 14 #[.pointer (some ⟨g, 0, none⟩), .int .i64 a, .int .i64 x] w fun e w' => e = .returned (.iface 39 (.int .i64 6)) ∧ Fr [] w w' := by
  rcases h with ⟨rfl, rfl, h3⟩ | ⟨b, cap, rfl, h2, h3, h4⟩
  · simp at hl
  · exact set_full g b cap q.length q t a x w h3 h4 h2 rfl ha hl hl2
theorem take_q (F : List Nat) (g : Nat) (q : List Ent) (t now : Int) (w : World) (h : IsQ w F g q t) (hl : q.length ≤ 1000) :
    Calls Try.prog 15 #[.pointer (some ⟨g, 0, none⟩), .int .i64 now] w fun e w' => ∃ v, e = .returned v ∧ OwnD w.heap.size w' v ((takeQ now q.length q).1.map due) ∧ IsQ w' F g (takeQ now q.length q).2 t ∧ Fr F w w' := by
  rcases h with ⟨rfl, rfl, h3⟩ | ⟨b, cap, rfl, h2, h3, h4⟩
  · refine (take_nil g t now w h3).mono ?_
    rintro e w' ⟨h5, h6⟩
    exact ⟨_, h5, .inl ⟨rfl, rfl⟩, .inl ⟨rfl, rfl, h3.keep h6 (nin0 _)⟩, h6.only (by simp)⟩
  · refine (take_row g b cap q t now w h3 h4 h2 hl).mono ?_
    rintro e w' ⟨v, h5, h6, h7, h8, h9⟩
    exact ⟨v, h5, h6, .inr ⟨b, cap, rfl, h2, h7, h8⟩, h9⟩
theorem len_q (F : List Nat) (g : Nat) (q : List Ent) (t : Int) (w : World) (h : IsQ w F g q t) :
    Calls Try.prog 16 #[.pointer (some ⟨g, 0, none⟩)] w fun e w' => e = .returned (.int .i64 (q.length : Int)) ∧ Fr [] w w' := by
  rcases h with ⟨rfl, rfl, h3⟩ | ⟨b, cap, rfl, h2, h3, h4⟩
  · exact len_nil g t w h3
  · exact len_row g b cap q.length t w h3
theorem next_q (F : List Nat) (g : Nat) (q : List Ent) (t : Int) (w : World) (h : IsQ w F g q t) :
    Calls Try.prog 18 #[.pointer (some ⟨g, 0, none⟩)] w fun e w' => e = .returned (.tuple #[.agg #[.int .i64 (at0 q 0).a, .int .i64 (at0 q 0).b], .bool (decide (0 < q.length))]) ∧ Fr [] w w' := by
  rcases h with ⟨rfl, rfl, h3⟩ | ⟨b, cap, rfl, h2, h3, h4⟩
  · exact next_nil g t w h3
  · rcases Nat.eq_zero_or_pos q.length with h0 | h0
    · have : q = [] := List.length_eq_zero_iff.1 h0
      subst this
      exact next_none g b cap t w h3
    · rw [decide_eq_true h0]
      exact next_row g b cap q.length q t w h3 h4 h2 rfl h0
end Go.Proofs.Ytjnjkgoofkgiiaa.Timer
