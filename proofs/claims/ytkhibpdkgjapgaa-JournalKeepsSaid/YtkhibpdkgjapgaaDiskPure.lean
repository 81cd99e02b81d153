/- Layer 8 in plain Lean: a disk's parts, by rising numbers. No program. -/
set_option linter.unusedVariables false
set_option linter.unusedSimpArgs false
namespace Go.Proofs.Ytkhibpdkgjapgaa.Disk

structure Pt where
  n : Int
  b : List UInt8
  s : Nat
structure Dk where
  room : Int
  l : List Pt
  down : Bool
def usedL (l : List Pt) : Nat := (l.map fun p => p.b.length).sum
def hasL (l : List Pt) (n : Int) : Bool := l.any fun p => decide (p.n = n)
/-- the part of a number, and what is done with it -/
def updL (l : List Pt) (n : Int) (f : Pt → Pt) : List Pt := l.map fun p => if p.n = n then f p else p
def insL (x : Pt) : List Pt → List Pt
  | [] => [x]
  | y :: r => if x.n < y.n then x :: y :: r else y :: insL x r
def addL (l : List Pt) (n : Int) (b : List UInt8) : List Pt := if hasL l n then updL l n (fun p => ⟨p.n, p.b ++ b, p.s⟩) else insL ⟨n, b, 0⟩ l
def append (d : Dk) (n : Int) (b : List UInt8) : Int × Dk :=
  if d.down then (10, d) else if n < 0 then (1, d) else if d.room - usedL d.l < (b.length : Int) then (6, d) else (0, { d with l := addL d.l n b })
def there (d : Dk) (n : Int) : Int := if d.down then 10 else if hasL d.l n then 0 else 4
def getL (l : List Pt) (n : Int) : Pt := (l.find? fun p => decide (p.n = n)).getD ⟨0, [], 0⟩
def sync (d : Dk) (n : Int) : Int × Dk := if there d n = 0 then (0, { d with l := updL d.l n fun p => ⟨p.n, p.b, p.b.length⟩ }) else (there d n, d)
def cut (d : Dk) (n size : Int) : Int × Dk :=
  if there d n = 0 then (if size < 0 ∨ ((getL d.l n).b.length : Int) < size then (1, d) else (0, { d with l := updL d.l n fun p => ⟨p.n, p.b.take size.toNat, size.toNat⟩ })) else (there d n, d)
def remove (d : Dk) (n : Int) : Int × Dk := if there d n = 0 then (0, { d with l := d.l.filter fun p => !decide (p.n = n) }) else (there d n, d)
def read (d : Dk) (n : Int) : List UInt8 × Int := if there d n = 0 then ((getL d.l n).b, 0) else ([], there d n)
def crashL : Nat → List Pt → List Pt
  | _, [] => []
  | keep, p :: r => ⟨p.n, p.b.take (p.s + min keep (p.b.length - p.s)), p.s + min keep (p.b.length - p.s)⟩ :: crashL (keep - min keep (p.b.length - p.s)) r
def crash (d : Dk) (keep : Int) : Dk := if d.down then d else { d with l := crashL keep.toNat d.l, down := true }
def up (d : Dk) : Dk := { d with down := false }
/-- a disk that may be: numbers rise; what is synced is there; the bytes have room -/
def Rise (l : List Pt) : Prop := l.Pairwise fun p q => p.n < q.n
structure Dk.Ok (d : Dk) : Prop where
  rise : Rise d.l
  sync : ∀ p ∈ d.l, p.s ≤ p.b.length
  room : 1 ≤ d.room ∧ d.room ≤ 65536
  fits : (usedL d.l : Int) ≤ d.room
  keys : ∀ p ∈ d.l, -9223372036854775808 ≤ p.n ∧ p.n ≤ 9223372036854775807
theorem hasL_iff {l : List Pt} {n : Int} : hasL l n = true ↔ ∃ p ∈ l, p.n = n := by
  unfold hasL
  rw [List.any_eq_true]
  simp
theorem hasL_no {l : List Pt} {n : Int} : hasL l n = false ↔ ∀ p ∈ l, p.n ≠ n := by
  unfold hasL
  rw [List.any_eq_false]
  simp
theorem usedL_cons (p : Pt) (l : List Pt) : usedL (p :: l) = p.b.length + usedL l := by
  unfold usedL
  simp
theorem usedL_app (l m : List Pt) : usedL (l ++ m) = usedL l + usedL m := by
  unfold usedL
  simp
theorem usedL_mem {p : Pt} : ∀ {l : List Pt}, p ∈ l → p.b.length ≤ usedL l
  | q :: l, h => by
    rw [usedL_cons]
    rcases List.mem_cons.1 h with rfl | h
    · omega
    · have := usedL_mem h
      omega
theorem rise_cons {p : Pt} {l : List Pt} : Rise (p :: l) ↔ (∀ q ∈ l, p.n < q.n) ∧ Rise l := List.pairwise_cons
/-- a list parted at the part of a number -/
theorem part_at {l : List Pt} {n : Int} (hr : Rise l) (h : hasL l n = true) : ∃ x p y, l = x ++ p :: y ∧ p.n = n ∧ hasL x n = false ∧ hasL y n = false := by
  obtain ⟨p, hp, hn⟩ := hasL_iff.1 h
  obtain ⟨x, y, rfl⟩ := List.append_of_mem hp
  refine ⟨x, p, y, rfl, hn, hasL_no.2 fun q hq => ?_, hasL_no.2 fun q hq => ?_⟩
  · have := (List.pairwise_append.1 hr).2.2 q hq p (by simp)
    omega
  · have := (rise_cons.1 (List.pairwise_append.1 hr).2.1).1 q hq
    omega
theorem updL_no {l : List Pt} {n : Int} {f : Pt → Pt} (h : hasL l n = false) : updL l n f = l := by
  unfold updL
  conv => rhs; rw [← List.map_id l]
  apply List.map_congr_left
  intro p hp
  rw [if_neg (hasL_no.1 h p hp)]
  rfl
theorem updL_at {x y : List Pt} {p : Pt} {n : Int} {f : Pt → Pt} (hx : hasL x n = false) (hy : hasL y n = false) (hp : p.n = n) : updL (x ++ p :: y) n f = x ++ f p :: y := by
  unfold updL
  rw [List.map_append, List.map_cons, if_pos hp]
  have h1 := updL_no (f := f) hx
  have h2 := updL_no (f := f) hy
  unfold updL at h1 h2
  rw [h1, h2]
theorem getL_at {x y : List Pt} {p : Pt} {n : Int} (hx : hasL x n = false) (hp : p.n = n) : getL (x ++ p :: y) n = p := by
  unfold getL
  rw [List.find?_append]
  have : x.find? (fun p => decide (p.n = n)) = none := List.find?_eq_none.2 (fun q hq => by simpa using hasL_no.1 hx q hq)
  rw [this]
  simp [hp]
theorem filter_at {x y : List Pt} {p : Pt} {n : Int} (hx : hasL x n = false) (hy : hasL y n = false) (hp : p.n = n) : (x ++ p :: y).filter (fun p => !decide (p.n = n)) = x ++ y := by
  rw [List.filter_append, List.filter_cons, if_neg (by simp [hp]), List.filter_eq_self.2 (fun q hq => by simpa using hasL_no.1 hx q hq), List.filter_eq_self.2 (fun q hq => by simpa using hasL_no.1 hy q hq)]
theorem insL_mem {x p : Pt} : ∀ {l : List Pt}, p ∈ insL x l ↔ p = x ∨ p ∈ l
  | [] => by simp [insL]
  | y :: r => by
    unfold insL
    split
    · simp
    · rw [List.mem_cons, insL_mem (l := r), List.mem_cons]
      constructor
      · rintro (h | h | h)
        · exact .inr (.inl h)
        · exact .inl h
        · exact .inr (.inr h)
      · rintro (h | h | h)
        · exact .inr (.inl h)
        · exact .inl h
        · exact .inr (.inr h)
theorem insL_rise {x : Pt} : ∀ {l : List Pt}, Rise l → hasL l x.n = false → Rise (insL x l)
  | [], _, _ => List.pairwise_singleton _ _
  | y :: r, hr, hn => by
    have h1 := rise_cons.1 hr
    have hny : y.n ≠ x.n := hasL_no.1 hn y (by simp)
    unfold insL
    split
    · rename_i hlt
      refine rise_cons.2 ⟨fun q hq => ?_, hr⟩
      rcases List.mem_cons.1 hq with rfl | hq
      · exact hlt
      · have := h1.1 q hq
        omega
    · rename_i hge
      refine rise_cons.2 ⟨fun q hq => ?_, insL_rise h1.2 (hasL_no.2 fun q hq => hasL_no.1 hn q (List.mem_cons_of_mem _ hq))⟩
      rcases insL_mem.1 hq with rfl | hq
      · omega
      · exact h1.1 q hq
theorem insL_used (x : Pt) : ∀ (l : List Pt), usedL (insL x l) = x.b.length + usedL l
  | [] => by simp [insL, usedL]
  | y :: r => by
    unfold insL
    split
    · rw [usedL_cons]
    · rw [usedL_cons, insL_used x r, usedL_cons]
      omega
/-- where it goes in -/
theorem insL_at {x : Pt} : ∀ {l : List Pt}, Rise l → hasL l x.n = false → ∃ a b, l = a ++ b ∧ insL x l = a ++ x :: b ∧ (∀ p ∈ a, p.n < x.n) ∧ ∀ p ∈ b, x.n < p.n
  | [], _, _ => ⟨[], [], rfl, rfl, by simp, by simp⟩
  | y :: r, hr, hn => by
    have h1 := rise_cons.1 hr
    have hny : y.n ≠ x.n := hasL_no.1 hn y (by simp)
    unfold insL
    split
    · rename_i hlt
      refine ⟨[], y :: r, rfl, rfl, by simp, fun p hp => ?_⟩
      rcases List.mem_cons.1 hp with rfl | hp
      · exact hlt
      · have := h1.1 p hp
        omega
    · rename_i hge
      obtain ⟨a, b, h2, h3, h4, h5⟩ := insL_at h1.2 (hasL_no.2 fun q hq => hasL_no.1 hn q (List.mem_cons_of_mem _ hq))
      refine ⟨y :: a, b, by rw [h2]; rfl, by rw [h3]; rfl, fun p hp => ?_, h5⟩
      rcases List.mem_cons.1 hp with rfl | hp
      · omega
      · exact h4 p hp
theorem rise_map {l : List Pt} {f : Pt → Pt} (h : Rise l) (hf : ∀ p ∈ l, (f p).n = p.n) : Rise (l.map f) := by
  unfold Rise at *
  rw [List.pairwise_map]
  refine List.Pairwise.imp_of_mem (fun {a b} ha hb hab => ?_) h
  rw [hf a ha, hf b hb]
  exact hab
theorem updL_rise {l : List Pt} {n : Int} {f : Pt → Pt} (h : Rise l) (hf : ∀ p, (f p).n = p.n) : Rise (updL l n f) := rise_map h fun p _ => by
  split
  · exact hf p
  · rfl
theorem crashL_used : ∀ (l : List Pt) (k : Nat), (∀ p ∈ l, p.s ≤ p.b.length) → usedL (crashL k l) ≤ usedL l
  | [], _, _ => Nat.le_refl _
  | p :: r, k, h => by
    have h1 := h p (by simp)
    have h2 := crashL_used r (k - min k (p.b.length - p.s)) (fun q hq => h q (List.mem_cons_of_mem _ hq))
    simp only [crashL, usedL_cons, List.length_take]
    omega
theorem crashL_n : ∀ (l : List Pt) (k : Nat), (crashL k l).map (·.n) = l.map (·.n)
  | [], _ => rfl
  | p :: r, k => by
    simp only [crashL, List.map_cons, crashL_n r]
theorem rise_iff (l : List Pt) : Rise l ↔ (l.map (·.n)).Pairwise (· < ·) := by
  unfold Rise
  rw [List.pairwise_map]
theorem crashL_sync : ∀ (l : List Pt) (k : Nat), (∀ p ∈ l, p.s ≤ p.b.length) → ∀ p ∈ crashL k l, p.s = p.b.length
  | [], _, _, p, hp => by simp [crashL] at hp
  | q :: r, k, h, p, hp => by
    simp only [crashL, List.mem_cons] at hp
    rcases hp with rfl | hp
    · have := h q (by simp)
      simp only [List.length_take]
      omega
    · exact crashL_sync r _ (fun q hq => h q (List.mem_cons_of_mem _ hq)) p hp
theorem usedL_upd {x y : List Pt} {p q : Pt} : usedL (x ++ q :: y) + p.b.length = usedL (x ++ p :: y) + q.b.length := by
  simp only [usedL_app, usedL_cons]
  omega
theorem keys_map {K : Int → Prop} {l l' : List Pt} (h : ∀ p ∈ l, K p.n) (hm : ∀ p ∈ l', p.n ∈ l.map (·.n)) : ∀ p ∈ l', K p.n := fun p hp => by
  obtain ⟨q, hq, h1⟩ := List.mem_map.1 (hm p hp)
  rw [← h1]
  exact h q hq
theorem updL_n (l : List Pt) (n : Int) (f : Pt → Pt) (hf : ∀ p, (f p).n = p.n) : ∀ p ∈ updL l n f, p.n ∈ l.map (·.n) := fun p hp => by
  unfold updL at hp
  obtain ⟨q, hq, rfl⟩ := List.mem_map.1 hp
  refine List.mem_map.2 ⟨q, hq, ?_⟩
  split
  · exact (hf q).symm
  · rfl
theorem append_ok {d : Dk} (h : d.Ok) (n : Int) (b : List UInt8) (hj : n ≤ 9223372036854775807) : (append d n b).2.Ok := by
  unfold append
  split
  · exact h
  · split
    · exact h
    · split
      · exact h
      · rename_i hd hn hf
        unfold addL
        cases hh : hasL d.l n with
        | true =>
          obtain ⟨x, p, y, hl, hpn, hx, hy⟩ := part_at h.rise hh
          simp only [if_true]
          refine ⟨updL_rise h.rise fun _ => rfl, fun q hq => ?_, h.room, ?_, keys_map (K := fun n => -9223372036854775808 ≤ n ∧ n ≤ 9223372036854775807) h.keys (updL_n _ _ _ fun _ => rfl)⟩
          · simp only [updL, List.mem_map] at hq
            obtain ⟨q', hq', rfl⟩ := hq
            have := h.sync q' hq'
            split
            · simp only [List.length_append]; omega
            · exact this
          · simp only
            rw [hl, updL_at hx hy hpn]
            have h1 := h.fits
            rw [hl] at h1 hf
            have h2 := usedL_upd (x := x) (y := y) (p := p) (q := ⟨p.n, p.b ++ b, p.s⟩)
            simp only [List.length_append] at h2
            omega
        | false =>
          simp only [Bool.false_eq_true, if_false]
          refine ⟨insL_rise h.rise hh, fun q hq => ?_, h.room, ?_, fun q hq => (insL_mem.1 hq).elim (fun h1 => by rw [h1]; simp only; omega) (h.keys q)⟩
          · rcases insL_mem.1 hq with rfl | hq
            · simp
            · exact h.sync q hq
          · simp only
            rw [insL_used]
            simp only
            omega
theorem there_0 {d : Dk} {n : Int} (h : there d n = 0) : d.down = false ∧ hasL d.l n = true := by
  unfold there at h
  split at h
  · cases h
  · split at h
    · rename_i h1 h2
      exact ⟨by simpa using h1, h2⟩
    · cases h
theorem sync_ok {d : Dk} (h : d.Ok) (n : Int) : (sync d n).2.Ok := by
  unfold sync
  split
  · refine ⟨updL_rise h.rise fun _ => rfl, fun q hq => ?_, h.room, ?_, keys_map (K := fun n => -9223372036854775808 ≤ n ∧ n ≤ 9223372036854775807) h.keys (updL_n _ _ _ fun _ => rfl)⟩
    · simp only [updL, List.mem_map] at hq
      obtain ⟨q', hq', rfl⟩ := hq
      have := h.sync q' hq'
      split
      · exact Nat.le_refl _
      · exact this
    · have : usedL (updL d.l n fun p => ⟨p.n, p.b, p.b.length⟩) = usedL d.l := by
        unfold usedL updL
        rw [List.map_map]
        congr 1
        apply List.map_congr_left
        intro p _
        simp only [Function.comp_def]
        split <;> rfl
      simp only [this]
      exact h.fits
  · exact h
theorem cut_ok {d : Dk} (h : d.Ok) (n size : Int) : (cut d n size).2.Ok := by
  unfold cut
  split
  · rename_i ht
    split
    · exact h
    · rename_i hs
      obtain ⟨x, p, y, hl, hpn, hx, hy⟩ := part_at h.rise (there_0 ht).2
      have hg : getL d.l n = p := by rw [hl]; exact getL_at hx hpn
      rw [hg] at hs
      refine ⟨updL_rise h.rise fun _ => rfl, fun q hq => ?_, h.room, ?_, keys_map (K := fun n => -9223372036854775808 ≤ n ∧ n ≤ 9223372036854775807) h.keys (updL_n _ _ _ fun _ => rfl)⟩
      · simp only at hq
        rw [hl, updL_at hx hy hpn] at hq
        rcases List.mem_append.1 hq with hq | hq
        · exact h.sync q (by rw [hl]; exact List.mem_append_left _ hq)
        · rcases List.mem_cons.1 hq with rfl | hq
          · simp only [List.length_take]; omega
          · exact h.sync q (by rw [hl]; exact List.mem_append_right _ (List.mem_cons_of_mem _ hq))
      · simp only
        rw [hl, updL_at hx hy hpn]
        have h1 := h.fits
        rw [hl] at h1
        have h2 := usedL_upd (x := x) (y := y) (p := p) (q := ⟨p.n, p.b.take size.toNat, size.toNat⟩)
        simp only [List.length_take] at h2
        omega
  · exact h
theorem usedL_filter (l : List Pt) (f : Pt → Bool) : usedL (l.filter f) ≤ usedL l := by
  induction l with
  | nil => exact Nat.le_refl _
  | cons p r ih =>
    rw [List.filter_cons, usedL_cons]
    split
    · rw [usedL_cons]; omega
    · omega
theorem remove_ok {d : Dk} (h : d.Ok) (n : Int) : (remove d n).2.Ok := by
  unfold remove
  split
  · refine ⟨List.Pairwise.filter _ h.rise, fun q hq => h.sync q (List.mem_filter.1 hq).1, h.room, ?_, fun q hq => h.keys q (List.mem_filter.1 hq).1⟩
    have := usedL_filter d.l fun p => !decide (p.n = n)
    have h1 := h.fits
    simp only
    omega
  · exact h
theorem crash_ok {d : Dk} (h : d.Ok) (keep : Int) : (crash d keep).Ok := by
  unfold crash
  split
  · exact h
  · refine ⟨?_, fun p hp => Nat.le_of_eq (crashL_sync d.l _ h.sync p hp), h.room, ?_, keys_map (K := fun n => -9223372036854775808 ≤ n ∧ n ≤ 9223372036854775807) h.keys fun p hp => by rw [← crashL_n d.l keep.toNat]; exact List.mem_map.2 ⟨p, hp, rfl⟩⟩
    · rw [rise_iff, crashL_n, ← rise_iff]
      exact h.rise
    · have := crashL_used d.l keep.toNat h.sync
      have h1 := h.fits
      simp only
      omega
theorem up_ok {d : Dk} (h : d.Ok) : (up d).Ok := ⟨h.rise, h.sync, h.room, h.fits, h.keys⟩
end Go.Proofs.Ytkhibpdkgjapgaa.Disk
