/- Layer 12: the turns as one thing. -/
import Derived.Test.YtjkaldnhfenbhaaDeficitQ
set_option linter.unusedVariables false
set_option linter.unusedSimpArgs false
namespace Go.Proofs.Ytjkaldnhfenbhaa.Deficit
open Go Go.RowKit Go.Proofs.Ytjkaldnhfenbhaa Go.Proofs.Ytjkaldnhfenbhaa.Eng Go.Proofs.YtjkaldnhfenbhaaW.PrintWords
/-- turns at g, its blocks F -/
def IsT (w : World) (F : List Nat) (g : Nat) (qs : List Int) (s : St) : Prop := ∃ bq bc cq cc, F = [g, bq, bc] ∧ g ≠ bq ∧ g ≠ bc ∧ bq ≠ bc ∧ Blk w g #[.slice (some ⟨bq, 0, none⟩) qs.length cq, .slice (some ⟨bc, 0, none⟩) qs.length cc, .int .i64 (s.pos : Int), .bool s.vis] 144 ∧ RowB w bq 3 1 cq (qs.map cI) ∧ RowB w bc 3 1 cc (s.cs.map cI)
theorem IsT.keep {w w1 : World} {F U : List Nat} {g : Nat} {qs : List Int} {s : St} (h : IsT w F g qs s) (k : Fr U w w1) (hn : ∀ y ∈ F, y ∉ U) : IsT w1 F g qs s := by
  obtain ⟨bq, bc, cq, cc, rfl, n1, n2, n3, HB, HQ, HC⟩ := h
  exact ⟨bq, bc, cq, cc, rfl, n1, n2, n3, HB.keep k (hn _ (by simp)), HQ.keep k (hn _ (by simp)), HC.keep k (hn _ (by simp))⟩
theorem IsT.lt {w : World} {F : List Nat} {g : Nat} {qs : List Int} {s : St} (h : IsT w F g qs s) : ∀ y ∈ F, y < w.heap.size := by
  obtain ⟨bq, bc, cq, cc, rfl, n1, n2, n3, HB, HQ, HC⟩ := h
  intro y hy
  simp only [List.mem_cons, List.not_mem_nil, or_false] at hy
  rcases hy with rfl | rfl | rfl
  · exact HB.lt
  · exact HQ.lt
  · exact HC.lt
theorem new_t (ad : Addr) (n cap : Nat) (l : List Int) (w : World) (hn : l.length = n) (hrd : Rd w (some ad) l) (hsrc : Src w (.slice (some ad) n cap) n (l.map cI).flatten 1) (h1 : 1 ≤ n) (h4 : n ≤ 4) (hany : l.any oddQ = false) :
    Calls Try.prog 66 #[.slice (some ad) n cap] w fun e w' => ∃ F g, e = .returned (.tuple #[.pointer (some ⟨g, 0, none⟩), .nilIface]) ∧ IsT w' F g l ⟨List.replicate l.length 0, 0, false⟩ ∧ Fr [] w w' ∧ (∀ y ∈ F, w.heap.size ≤ y) := by
  refine (new_ok ad n cap l w hn hrd hsrc h1 h4 hany).mono fun e w' ⟨g, bq, bc, cq, cc, he, HB, HQ, HC, n1, n2, n3, HA, g1, g2, g3⟩ => ?_
  subst hn
  refine ⟨_, g, he, ⟨bq, bc, cq, cc, rfl, n1, n2, n3, HB, HQ, HC⟩, HA, fun y hy => ?_⟩
  simp only [List.mem_cons, List.not_mem_nil, or_false] at hy
  rcases hy with rfl | rfl | rfl
  · exact g1
  · exact g2
  · exact g3
theorem good0 {qs : List Int} (hq : GoodQ qs) : Good qs ⟨List.replicate qs.length 0, 0, false⟩ := by
  refine ⟨by simp, hq.n1, fun i hi => ?_, fun i hi => .inl ?_⟩ <;> simp [g0, hi]
theorem goodZ {qs : List Int} {s : St} (h : Good qs s) : Good qs ⟨List.replicate qs.length 0, s.pos, s.vis⟩ := by
  refine ⟨by simp, h.pos, fun i hi => ?_, fun i hi => .inl ?_⟩ <;> simp [g0, hi]
theorem any_false {l : List Int} {p : Int → Bool} (h : l.any p = false) (i : Nat) (hi : i < l.length) : p (g0 l i) = false := by
  have := List.any_eq_false.1 h _ (g0_mem l hi)
  simpa using this
theorem goodC_of {qs co : List Int} (hn : co.length = qs.length) (h : co.any oddC = false) : GoodC qs co := ⟨hn, fun i hi => by
  have := any_false h i (by omega)
  unfold oddC at this
  simp at this
  omega⟩
theorem goodQ_of {l : List Int} (h : rightQ l = true) : GoodQ l ∧ l.any oddQ = false := by
  unfold rightQ at h
  simp only [Bool.and_eq_true, Bool.not_eq_true', decide_eq_true_eq] at h
  refine ⟨⟨h.2.1, h.2.2, fun i hi => ?_⟩, h.1⟩
  have := any_false h.1 i hi
  unfold oddQ at this
  simp at this
  omega
theorem some_pos {co : List Int} (h : co.any someC = true) : ∃ p, p < co.length ∧ 0 < g0 co p := by
  obtain ⟨x, hx, hp⟩ := List.any_eq_true.1 h
  obtain ⟨i, hi, rfl⟩ := List.getElem_of_mem hx
  refine ⟨i, hi, ?_⟩
  unfold someC at hp
  simp at hp
  simpa [g0, hi] using hp
/-- a run comes to an end -/
theorem run_of {qs co : List Int} {s : St} (hq : GoodQ qs) (hc : GoodC qs co) (hgd : Good qs s) (h : co.any someC = true) : ∃ f r, run qs co f s = some r ∧ Good qs r.1 ∧ r.2 < qs.length := by
  obtain ⟨p, hp, hpos⟩ := some_pos h
  obtain ⟨f, r, hr⟩ := run_ends hq hc p (by rw [← hc.len]; exact hp) hpos _ s hgd (Nat.le_refl _)
  exact ⟨f, r, hr, run_good hq hc f s r hgd hr⟩
section
variable {w : World} {F : List Nat} {g : Nat} {qs : List Int} {s : St}
theorem pickT_bad (h : IsT w F g qs s) (hgd : Good qs s) (hq : GoodQ qs) (A : Option Addr) (cn ccap : Nat) (co : List Int) (hcn : co.length = cn) (hrd : Rd w A co) (hm : cn ≤ 9223372036854775807) (hbad : cn ≠ qs.length ∨ co.any oddC = true) :
    Calls Try.prog 68 #[.pointer (some ⟨g, 0, none⟩), .slice A cn ccap] w fun e w' => e = .returned (.tuple #[.int .i64 0, .iface 29 (.int .i64 1)]) ∧ Fr [] w w' := by
  obtain ⟨bq, bc, cq, cc, rfl, n1, n2, n3, HB, HQ, HC⟩ := h
  exact pick_bad g bq bc cq cc qs s w HB HQ HC hgd n1 n2 n3 hq A cn ccap co hcn hrd hm hbad
theorem pickT_none (h : IsT w F g qs s) (hgd : Good qs s) (hq : GoodQ qs) (A : Option Addr) (ccap : Nat) (co : List Int) (hcn : co.length = qs.length) (hrd : Rd w A co) (hbad : co.any oddC = false) (hsome : co.any someC = false) :
    Calls Try.prog 68 #[.pointer (some ⟨g, 0, none⟩), .slice A qs.length ccap] w fun e w' => e = .returned (.tuple #[.int .i64 (-1), .nilIface]) ∧ IsT w' F g qs ⟨List.replicate qs.length 0, s.pos, s.vis⟩ ∧ Fr F w w' := by
  obtain ⟨bq, bc, cq, cc, rfl, n1, n2, n3, HB, HQ, HC⟩ := h
  exact (pick_none g bq bc cq cc qs s w HB HQ HC hgd n1 n2 n3 hq A ccap co hcn hrd hbad hsome).mono fun e w' ⟨he, h1, h2, h3, h4⟩ => ⟨he, ⟨bq, bc, cq, cc, rfl, n1, n2, n3, h1, h2, h3⟩, h4.only (fun x hx => .inl (by
    simp only [List.mem_cons, List.not_mem_nil, or_false] at hx ⊢
    exact .inr (.inr hx)))⟩
theorem pickT_run (h : IsT w F g qs s) (hgd : Good qs s) (hq : GoodQ qs) (ad : Addr) (ccap : Nat) (co : List Int) (hc : GoodC qs co) (hrd : Rd w (some ad) co) (had : ad.block ∉ F) (hbad : co.any oddC = false) (hsome : co.any someC = true) (f : Nat) (r : St × Nat) (hrun : run qs co f s = some r) :
    Calls Try.prog 68 #[.pointer (some ⟨g, 0, none⟩), .slice (some ad) qs.length ccap] w fun e w' => e = .returned (.tuple #[.int .i64 (r.2 : Int), .nilIface]) ∧ IsT w' F g qs r.1 ∧ Fr F w w' := by
  obtain ⟨bq, bc, cq, cc, rfl, n1, n2, n3, HB, HQ, HC⟩ := h
  simp only [List.mem_cons, List.not_mem_nil, or_false, not_or] at had
  refine (pick_run g bq bc cq cc qs s w HB HQ HC hgd n1 n2 n3 hq ad ccap co hc (fun k hk => ?_) had.1 had.2.2 hbad hsome f r hrun).mono fun e w' ⟨he, h1, h2, h3, h4⟩ => ⟨he, ⟨bq, bc, cq, cc, rfl, n1, n2, n3, h1, h2, h3⟩, h4.only (fun x hx => .inl (by
    simp only [List.mem_cons, List.not_mem_nil, or_false] at hx ⊢
    rcases hx with h | h
    · exact .inl h
    · exact .inr (.inr h)))⟩
  obtain ⟨a, ha, hc'⟩ := hrd k (by have := hc.len; omega)
  obtain rfl := Option.some.inj ha
  exact hc'
theorem creditsT (h : IsT w F g qs s) (hgd : Good qs s) (hq : GoodQ qs) :
    Calls Try.prog 71 #[.pointer (some ⟨g, 0, none⟩)] w fun e w' => ∃ b cap', e = .returned (.slice (some ⟨b, 0, none⟩) qs.length cap') ∧ RowB w' b 3 1 cap' (s.cs.map cI) ∧ Fr [] w w' ∧ w.heap.size ≤ b := by
  obtain ⟨bq, bc, cq, cc, rfl, n1, n2, n3, HB, HQ, HC⟩ := h
  exact credits_any g bq bc cq cc qs.length s.pos s.vis s.cs w HB HC hgd.len hq.n4
end
/-- the like of it at g, its quanta read at ad_q -/
def IsM (w : World) (F : List Nat) (g : Nat) (ad_q : Addr) (qcap : Nat) (qs : List Int) (s : St) : Prop := ∃ b cb, F = [g, b] ∧ g ≠ b ∧ Blk w g #[.slice (some ad_q) qs.length qcap, .slice (some ⟨b, 0, none⟩) qs.length cb, .int .i64 (s.pos : Int), .bool s.vis] 112 ∧ RowB w b 3 1 cb (s.cs.map cI)
theorem IsM.keep {w w1 : World} {F U : List Nat} {g : Nat} {ad_q : Addr} {qcap : Nat} {qs : List Int} {s : St} (h : IsM w F g ad_q qcap qs s) (k : Fr U w w1) (hn : ∀ y ∈ F, y ∉ U) : IsM w1 F g ad_q qcap qs s := by
  obtain ⟨b, cb, rfl, n1, HB, HC⟩ := h
  exact ⟨b, cb, rfl, n1, HB.keep k (hn _ (by simp)), HC.keep k (hn _ (by simp))⟩
theorem IsM.lt {w : World} {F : List Nat} {g : Nat} {ad_q : Addr} {qcap : Nat} {qs : List Int} {s : St} (h : IsM w F g ad_q qcap qs s) : ∀ y ∈ F, y < w.heap.size := by
  obtain ⟨b, cb, rfl, n1, HB, HC⟩ := h
  intro y hy
  simp only [List.mem_cons, List.not_mem_nil, or_false] at hy
  rcases hy with rfl | rfl
  · exact HB.lt
  · exact HC.lt
theorem refM {w : World} {F : List Nat} {g : Nat} {ad_q ad_co : Addr} {qcap ccap : Nat} {qs co : List Int} {s s' : St} {x : Int} (h : IsM w F g ad_q qcap qs s) (hgd : Good qs s) (hq : GoodQ qs) (hrq : Rd w (some ad_q) qs) (hrd : Rd w (some ad_co) co) (haq : ad_q.block ∉ F) (had : ad_co.block ∉ F) (hlen : co.length = qs.length)
    (hs : (co.any someC = false ∧ x = -1 ∧ s' = ⟨List.replicate qs.length 0, s.pos, s.vis⟩) ∨ (GoodC qs co ∧ co.any someC = true ∧ ∃ f n, run qs co f s = some (s', n) ∧ x = (n : Int))) :
    Calls Try.prog 69 #[.pointer (some ⟨g, 0, none⟩), .slice (some ad_co) qs.length ccap] w fun e w' => ∃ F', e = .returned (.int .i64 x) ∧ IsM w' F' g ad_q qcap qs s' ∧ Fr F w w' ∧ (∀ y ∈ F', y ∈ F ∨ w.heap.size ≤ y) := by
  obtain ⟨b, cb, rfl, n1, HB, HC⟩ := h
  have hb := HB.lt
  simp only [List.mem_cons, List.not_mem_nil, or_false, not_or] at haq had
  have hql : ∀ k, k < qs.length → w.cell? (ad_q.add k) = some (.int .i64 (g0 qs k)) := fun k hk => by
    obtain ⟨a, ha, hc'⟩ := hrq k hk
    obtain rfl := Option.some.inj ha
    exact hc'
  have hcl : ∀ k, k < qs.length → w.cell? (ad_co.add k) = some (.int .i64 (g0 co k)) := fun k hk => by
    obtain ⟨a, ha, hc'⟩ := hrd k (by omega)
    obtain rfl := Option.some.inj ha
    exact hc'
  have fin : ∀ (b' : Nat) (w' : World), w.heap.size ≤ b' → ∀ y ∈ [g, b'], y ∈ [g, b] ∨ w.heap.size ≤ y := by
    intro b' w' hle y hy
    simp only [List.mem_cons, List.not_mem_nil, or_false] at hy ⊢
    rcases hy with rfl | rfl
    · exact .inl (.inl rfl)
    · exact .inr hle
  rcases hs with ⟨h1, rfl, rfl⟩ | ⟨hc, h1, f, n, hr, rfl⟩
  · refine (ref_none g b cb ad_q ad_co qcap ccap qs co s w HB HC hgd hq hql hcl haq.1 had.1 hlen h1).mono fun e w' ⟨b', cb', he, h2, h3, h4, h5⟩ => ?_
    exact ⟨_, he, ⟨b', cb', rfl, by omega, h2, h3⟩, h4.only (fun x hx => .inl (by
      simp only [List.mem_cons, List.not_mem_nil, or_false] at hx ⊢
      exact .inl hx)), fin b' w' h5⟩
  · refine (ref_run g b cb ad_q ad_co qcap ccap qs co s w HB HC hgd hq hql hcl haq.1 had.1 hlen hc h1 f _ hr).mono fun e w' ⟨b', cb', he, h2, h3, h4, h5⟩ => ?_
    exact ⟨_, he, ⟨b', cb', rfl, by omega, h2, h3⟩, h4.only (fun x hx => .inl (by
      simp only [List.mem_cons, List.not_mem_nil, or_false] at hx ⊢
      exact .inl hx)), fin b' w' h5⟩
end Go.Proofs.Ytjkaldnhfenbhaa.Deficit
