/- Layers 8, 9, 21 in plain Lean: a spill's journal and disk, all synced. -/
import Derived.Test.YtjfgmdkdcnfdoaaGreatDoorFS
section
set_option linter.unusedVariables false
set_option linter.unusedSimpArgs false
namespace Go.Proofs.YtjfgmdkdcnfdoaaGreatDoor.Jrn
open Go.Proofs.YtjfgmdkdcnfdoaaGreatDoor.Disk
open Go.Proofs.YtjfgmdkdcnfdoaaGreatDoor.Wire (enc encT rText)
def ns (segs : List Seg) : List Int := segs.map fun g => g.n
structure SpOk (R : Int) (a : Nat) (segs : List Seg) (d : Dk) : Prop where
 ok : d.Ok
 down : d.down = false
 room : d.room = R
 l : d.l = segs.map Seg.pt
 ch : Chain (a : Int) segs
 ne : ∀ g ∈ segs, g.rs ≠ []
 sy : ∀ g ∈ segs, g.s = (flat g.rs).length
 rc : ∀ r ∈ allR segs, recOk r
 z : segs = [] → a = 0
 bd : a + (allR segs).length ≤ 100000
theorem flat_one (r : List UInt8) : flat [r] = encT r := by simp [flat]
theorem used_flat : ∀ segs : List Seg, usedL (segs.map Seg.pt) = (flat (allR segs)).length
 | [] => rfl
 | g :: r => by
  rw [List.map_cons, usedL_cons, used_flat r, allR_cons, flat_app, List.length_append]
  rfl
theorem ins_end (q : Pt) : ∀ l : List Pt, (∀ p ∈ l, p.n < q.n) → insL q l = l ++ [q]
 | [], _ => rfl
 | y :: r, h => by
  have h1 := h y (by simp)
  have h2 : ¬ q.n < y.n := by omega
  simp [insL, h2, ins_end q r fun p hp => h p (by simp [hp])]
theorem seg_count : ∀ segs : List Seg, (∀ g ∈ segs, g.rs ≠ []) → segs.length ≤ (allR segs).length
 | [], _ => Nat.le_refl _
 | g :: r, h => by
  have h1 := List.length_pos_iff.2 (h g (by simp))
  have h2 := seg_count r fun x hx => h x (by simp [hx])
  rw [allR_cons, List.length_append, List.length_cons]
  omega
theorem append_at {d : Dk} {init : List Seg} {g : Seg} {b : List UInt8} (hl : d.l = (init ++ [g]).map Seg.pt) (hd : d.down = false) (hn : 0 ≤ g.n) (hroom : ¬ d.room - (usedL d.l : Int) < (b.length : Int)) (hno : hasL (init.map Seg.pt) g.n = false) :
  append d g.n b = (0, { d with l := init.map Seg.pt ++ [⟨g.n, flat g.rs ++ b, g.s⟩] }) := by
 unfold append
 rw [if_neg (by rw [hd]; simp), if_neg (by omega), if_neg hroom]
 have hh : hasL d.l g.n = true := hasL_iff.2 ⟨g.pt, by rw [hl]; simp, rfl⟩
 unfold addL
 rw [if_pos hh, hl, List.map_append]
 have := updL_at (x := init.map Seg.pt) (y := []) (p := g.pt) (n := g.n) (f := fun p => ⟨p.n, p.b ++ b, p.s⟩) hno (by rfl) rfl
 simp only [List.map_cons, List.map_nil]
 rw [this]
 rfl
theorem append_new' {d : Dk} {segs : List Seg} {n : Int} {b : List UInt8} (hl : d.l = segs.map Seg.pt) (hd : d.down = false) (hn : 0 ≤ n) (hroom : ¬ d.room - (usedL d.l : Int) < (b.length : Int)) (hlt : ∀ g ∈ segs, g.n < n) :
  append d n b = (0, { d with l := segs.map Seg.pt ++ [⟨n, b, 0⟩] }) := by
 unfold append
 rw [if_neg (by rw [hd]; simp), if_neg (by omega), if_neg hroom]
 have hh : hasL d.l n = false := hasL_no.2 fun q hq => by
  rw [hl] at hq
  obtain ⟨g, hg, rfl⟩ := List.mem_map.1 hq
  have := hlt g hg
  show g.n ≠ n
  omega
 unfold addL
 rw [hh, hl, ins_end]
 ·
  rfl
 ·
  intro p hp
  obtain ⟨g, hg, rfl⟩ := List.mem_map.1 hp
  exact hlt g hg
theorem sync_at {d : Dk} {init : List Seg} {g : Seg} (hl : d.l = (init ++ [g]).map Seg.pt) (hd : d.down = false) (hno : hasL (init.map Seg.pt) g.n = false) :
  sync d g.n = (0, { d with l := (init ++ [(⟨g.n, g.rs, (flat g.rs).length⟩ : Seg)]).map Seg.pt }) := by
 have hh : hasL d.l g.n = true := hasL_iff.2 ⟨g.pt, by rw [hl]; simp, rfl⟩
 unfold sync
 rw [if_pos (by unfold there; rw [hd, hh]; rfl), hl, List.map_append]
 have := updL_at (x := init.map Seg.pt) (y := []) (p := g.pt) (n := g.n) (f := fun p => ⟨p.n, p.b, p.b.length⟩) hno (by rfl) rfl
 simp only [List.map_cons, List.map_nil, List.map_append]
 rw [this]
 rfl
theorem g0_last {init : List Seg} {g : Seg} : g0 (ns (init ++ [g])) ((ns (init ++ [g])).length - 1) = g.n := by
 unfold ns
 rw [List.map_append, List.map_cons, List.map_nil]
 exact g0_at (b := []) (by simp)
theorem crash_synced : ∀ (init : List Seg) (k : Nat) (r : List Pt), (∀ x ∈ init, x.s = (flat x.rs).length) → crashL k (init.map Seg.pt ++ r) = init.map Seg.pt ++ crashL k r
 | [], _, _, _ => rfl
 | x :: init, k, r, h => by
  have h1 : x.pt.s = x.pt.b.length := h x (by simp)
  have e : min k (x.pt.b.length - x.pt.s) = 0 := by omega
  rw [List.map_cons, List.cons_append]
  show (⟨x.pt.n, x.pt.b.take (x.pt.s + min k (x.pt.b.length - x.pt.s)), x.pt.s + min k (x.pt.b.length - x.pt.s)⟩ : Pt) :: crashL (k - min k (x.pt.b.length - x.pt.s)) (init.map Seg.pt ++ r) = _
  rw [e, Nat.sub_zero, crash_synced init k r fun y hy => h y (by simp [hy]), Nat.add_zero, h1, List.take_length]
  congr 1
  show (⟨x.pt.n, x.pt.b, x.pt.b.length⟩ : Pt) = x.pt
  rw [← h1]
section
variable {R : Int} {a : Nat} {segs : List Seg} {d : Dk}
theorem SpOk.first (h : SpOk R a segs d) : firstN (ns segs) = (a : Int) := by
 cases segs with
 | nil => rw [h.z rfl]; rfl
 | cons g r => exact h.ch.1
theorem SpOk.cnt (h : SpOk R a segs d) : (ns segs).length ≤ 100000 := by
 have h1 := seg_count segs h.ne
 have h2 := h.bd
 unfold ns
 rw [List.length_map]
 omega
theorem SpOk.noi {init : List Seg} {g : Seg} (h : SpOk R a (init ++ [g]) d) : hasL (init.map Seg.pt) g.n = false := hasL_no.2 fun q hq => by
 obtain ⟨x, hx, rfl⟩ := List.mem_map.1 hq
 have hc := (chain_app init [g] a).1 h.ch
 have h2 := (chain_lo init a hc.1 x hx).2
 have h3 := hc.2.1
 have h4 := List.length_pos_iff.2 (h.ne x (by simp [hx]))
 show x.n ≠ g.n
 omega
theorem SpOk.last {init : List Seg} {g : Seg} (h : SpOk R a (init ++ [g]) d) : g.n = (a : Int) + (allR init).length := ((chain_app init [g] a).1 h.ch).2.1
theorem SpOk.lastB (h : SpOk R a segs d) (hp : 0 < (ns segs).length) : 0 ≤ g0 (ns segs) ((ns segs).length - 1) ∧ g0 (ns segs) ((ns segs).length - 1) ≤ 1000000 := by
 rcases List.eq_nil_or_concat segs with rfl | ⟨init, g, rfl⟩
 ·
  cases hp
 ·
  rw [List.concat_eq_append] at h ⊢
  have h1 := h.last
  have h2 := h.bd
  rw [allR_app, List.length_append] at h2
  rw [g0_last]
  omega
theorem SpOk.sync (h : SpOk R a segs d) (hp : 0 < (ns segs).length) : sync d (g0 (ns segs) ((ns segs).length - 1)) = (0, d) := by
 rcases List.eq_nil_or_concat segs with rfl | ⟨init, g, rfl⟩
 ·
  cases hp
 ·
  rw [List.concat_eq_append] at h ⊢
  rw [g0_last, sync_at h.l h.down h.noi, ← h.sy g (by simp)]
  have e : (init ++ [({ n := g.n, rs := g.rs, s := g.s } : Seg)]).map Seg.pt = d.l := h.l.symm
  rw [e]
theorem SpOk.lt (h : SpOk R a segs d) : ∀ g ∈ segs, g.n < (a : Int) + (allR segs).length := fun g hg => by
 have h1 := (chain_lo segs a h.ch g hg).2
 have h2 := List.length_pos_iff.2 (h.ne g hg)
 omega
theorem mem_ns {segs : List Seg} {n : Int} : (ns segs).contains n = true ↔ ∃ g ∈ segs, g.n = n := by
 rw [List.contains_iff_mem]
 unfold ns
 rw [List.mem_map]
theorem SpOk.put (h : SpOk R a segs d) (many : Int) (r : List UInt8) (hr : recOk r) (hroom : (usedL d.l : Int) + (encT r).length ≤ R) (hb : a + (allR segs).length < 100000) : ∃ segs2 segs3 d2 d3, jApp many r (ns segs) (allR segs) d = (0, ns segs2, allR segs2, d2) ∧ Disk.sync d2 (g0 (ns segs2) ((ns segs2).length - 1)) = (0, d3) ∧ d2.Ok ∧ ns segs3 = ns segs2 ∧ allR segs3 = allR segs2 ∧ allR segs2 = allR segs ++ [r] ∧ SpOk R a segs3 d3 ∧ segs3 ≠ [] ∧ usedL d3.l = usedL d.l + (encT r).length := by
 have hrm : ¬ d.room - (usedL d.l : Int) < ((encT r).length : Int) := by rw [h.room]; omega
 have key : ∀ (init : List Seg) (g : Seg) (segs2 : List Seg) (d2 : Dk), segs2 = init ++ [g] → d2.Ok → d2.down = false → d2.room = R → d2.l = segs2.map Seg.pt → Chain (a : Int) segs2 → (∀ x ∈ segs2, x.rs ≠ []) → (∀ x ∈ init, x.s = (flat x.rs).length) → allR segs2 = allR segs ++ [r] → ∃ segs3 d3, Disk.sync d2 (g0 (ns segs2) ((ns segs2).length - 1)) = (0, d3) ∧ ns segs3 = ns segs2 ∧ allR segs3 = allR segs2 ∧ SpOk R a segs3 d3 ∧ segs3 ≠ [] ∧ usedL d3.l = usedL d.l + (encT r).length := by
  intro init g segs2 d2 he ho hdn hrR hl hc hne hs hall
  subst he
  have hno : hasL (init.map Seg.pt) g.n = false := hasL_no.2 fun q hq => by
   obtain ⟨x, hx, rfl⟩ := List.mem_map.1 hq
   have hc' := (chain_app init [g] a).1 hc
   have h2 := (chain_lo init a hc'.1 x hx).2
   have h3 := hc'.2.1
   have h4 := List.length_pos_iff.2 (hne x (by simp [hx]))
   show x.n ≠ g.n
   omega
  have hsy := sync_at hl hdn hno
  have ha : allR (init ++ [(⟨g.n, g.rs, (flat g.rs).length⟩ : Seg)]) = allR (init ++ [g]) := by rw [allR_app, allR_app]; rfl
  have hok := sync_ok ho g.n
  rw [hsy] at hok
  refine ⟨init ++ [⟨g.n, g.rs, (flat g.rs).length⟩], { d2 with l := (init ++ [(⟨g.n, g.rs, (flat g.rs).length⟩ : Seg)]).map Seg.pt }, by rw [g0_last]; exact hsy, by unfold ns; simp, ha, ⟨hok, hdn, hrR, rfl, ?_, ?_, ?_, ?_, by simp, ?_⟩, by simp, ?_⟩
  ·
   have hc' := (chain_app init [g] a).1 hc
   exact (chain_app init _ a).2 ⟨hc'.1, hc'.2.1, trivial⟩
  ·
   intro x hx
   rcases List.mem_append.1 hx with hx | hx
   ·
    exact hne x (by simp [hx])
   ·
    rw [List.mem_singleton.1 hx]
    exact hne g (by simp)
  ·
   intro x hx
   rcases List.mem_append.1 hx with hx | hx
   ·
    exact hs x hx
   ·
    rw [List.mem_singleton.1 hx]
  ·
   intro x hx
   rw [ha, hall] at hx
   rcases List.mem_append.1 hx with hx | hx
   ·
    exact h.rc x hx
   ·
    rw [List.mem_singleton.1 hx]; exact hr
  ·
   rw [ha, hall, List.length_append]
   show a + ((allR segs).length + 1) ≤ 100000
   omega
  ·
   show usedL ((init ++ [(⟨g.n, g.rs, (flat g.rs).length⟩ : Seg)]).map Seg.pt) = _
   rw [used_flat, ha, hall, flat_app, flat_one, List.length_append, h.l, used_flat]
 have hf := h.first
 unfold jApp
 rw [hf]
 by_cases hsm : 0 < (ns segs).length ∧ (a : Int) + ((allR segs).length : Int) - g0 (ns segs) ((ns segs).length - 1) < many
 ·
  simp only [if_pos hsm]
  rcases List.eq_nil_or_concat segs with rfl | ⟨init, g, rfl⟩
  ·
   exact absurd hsm.1 (by simp [ns])
  ·
   rw [List.concat_eq_append] at h hb key hf hsm ⊢
   have hgn : 0 ≤ g.n := by rw [h.last]; omega
   rw [g0_last, append_at h.l h.down hgn hrm h.noi]
   have hcon : (ns (init ++ [g])).contains g.n = true := mem_ns.2 ⟨g, by simp, rfl⟩
   simp only [hcon, if_true, Bool.true_eq_false, and_false, if_false]
   have hok := append_ok h.ok g.n (encT r) (by have := h.last; have := h.bd; rw [allR_app, List.length_append] at this; omega)
   rw [append_at h.l h.down hgn hrm h.noi] at hok
   have e1 : ns (init ++ [(⟨g.n, g.rs ++ [r], g.s⟩ : Seg)]) = ns (init ++ [g]) := by unfold ns; simp
   have e2 : allR (init ++ [(⟨g.n, g.rs ++ [r], g.s⟩ : Seg)]) = allR (init ++ [g]) ++ [r] := by rw [allR_app, allR_app, allR_cons, allR_cons, allR_nil]; simp
   have e3 : init.map Seg.pt ++ [(⟨g.n, flat g.rs ++ encT r, g.s⟩ : Pt)] = (init ++ [(⟨g.n, g.rs ++ [r], g.s⟩ : Seg)]).map Seg.pt := by rw [List.map_append]; simp [Seg.pt, flat_app, flat_one]
   obtain ⟨segs3, d3, k1, k2, k3, k4, k5, k6⟩ := key init ⟨g.n, g.rs ++ [r], g.s⟩ _ { d with l := init.map Seg.pt ++ [⟨g.n, flat g.rs ++ encT r, g.s⟩] } rfl hok h.down h.room e3 ((chain_app init _ a).2 ⟨((chain_app init [g] a).1 h.ch).1, h.last, trivial⟩) (by
    intro x hx
    rcases List.mem_append.1 hx with hx | hx
    ·
     exact h.ne x (by simp [hx])
    ·
     rw [List.mem_singleton.1 hx]; simp) (fun x hx => h.sy x (by simp [hx])) e2
   exact ⟨_, segs3, _, d3, by rw [e1, e2], k1, hok, k2, k3, e2, k4, k5, k6⟩
 ·
  have hd1 : (if (ns segs).length = 0 then d else (Disk.sync d (g0 (ns segs) ((ns segs).length - 1))).2) = d := by
   split
   ·
    rfl
   ·
    rw [h.sync (by omega)]
  simp only [if_neg hsm, hd1]
  rw [append_new' h.l h.down (by omega) hrm h.lt]
  have hcon : (ns segs).contains ((a : Int) + ((allR segs).length : Int)) = false := by
   rw [Bool.eq_false_iff]
   intro h2
   obtain ⟨g, hg, h3⟩ := mem_ns.1 h2
   have := h.lt g hg
   omega
  simp only [hcon, and_self, if_true]
  have hok := append_ok h.ok ((a : Int) + ((allR segs).length : Int)) (encT r) (by have := h.bd; omega)
  rw [append_new' h.l h.down (by omega) hrm h.lt] at hok
  have e1 : ns (segs ++ [(⟨(a : Int) + ((allR segs).length : Int), [r], 0⟩ : Seg)]) = ns segs ++ [(a : Int) + ((allR segs).length : Int)] := by unfold ns; simp
  have e2 : allR (segs ++ [(⟨(a : Int) + ((allR segs).length : Int), [r], 0⟩ : Seg)]) = allR segs ++ [r] := by rw [allR_app, allR_cons, allR_nil]; simp
  have e3 : segs.map Seg.pt ++ [(⟨(a : Int) + ((allR segs).length : Int), encT r, 0⟩ : Pt)] = (segs ++ [(⟨(a : Int) + ((allR segs).length : Int), [r], 0⟩ : Seg)]).map Seg.pt := by rw [List.map_append]; simp [Seg.pt, flat_one]
  obtain ⟨segs3, d3, k1, k2, k3, k4, k5, k6⟩ := key segs ⟨(a : Int) + ((allR segs).length : Int), [r], 0⟩ _ { d with l := segs.map Seg.pt ++ [⟨(a : Int) + ((allR segs).length : Int), encT r, 0⟩] } rfl hok h.down h.room e3 ((chain_app segs _ a).2 ⟨h.ch, rfl, trivial⟩) (by
   intro x hx
   rcases List.mem_append.1 hx with hx | hx
   ·
    exact h.ne x hx
   ·
    rw [List.mem_singleton.1 hx]; simp) h.sy e2
  exact ⟨_, segs3, _, d3, by rw [e1, e2], k1, hok, k2, k3, e2, k4, k5, k6⟩
theorem SpOk.rem {g g1 : Seg} {t : List Seg} (h : SpOk R a (g :: g1 :: t) d) : remove d g.n = (0, { d with l := (g1 :: t).map Seg.pt }) ∧ SpOk R (a + g.rs.length) (g1 :: t) { d with l := (g1 :: t).map Seg.pt } := by
 have hr : remove d g.n = (0, { d with l := (g1 :: t).map Seg.pt }) := by
  unfold remove
  have hh : hasL d.l g.n = true := hasL_iff.2 ⟨g.pt, by rw [h.l]; simp, rfl⟩
  rw [if_pos (by unfold there; rw [h.down, hh]; rfl), h.l, List.map_cons, List.filter_cons]
  have h0 : decide (g.pt.n = g.n) = true := decide_eq_true rfl
  rw [h0]
  simp only [Bool.not_true, Bool.false_eq_true, if_false]
  rw [List.filter_eq_self.2]
  intro p hp
  have := (rise_cons.1 (by have := h.ok.rise; rwa [h.l, List.map_cons] at this)).1 p hp
  have e : g.pt.n = g.n := rfl
  have : p.n ≠ g.n := by omega
  simp [this]
 refine ⟨hr, ?_⟩
 have hok := remove_ok h.ok g.n
 rw [hr] at hok
 have hc := h.ch
 have hbd := h.bd
 rw [allR_cons, List.length_append] at hbd
 refine ⟨hok, h.down, h.room, rfl, ?_, fun x hx => h.ne x (List.mem_cons_of_mem _ hx), fun x hx => h.sy x (List.mem_cons_of_mem _ hx), fun x hx => h.rc x (by rw [allR_cons]; exact List.mem_append_right _ hx), (fun h2 => by cases h2), by omega⟩
 rw [show ((a + g.rs.length : Nat) : Int) = (a : Int) + (g.rs.length : Int) by omega]
 exact hc.2
def SpI (R : Int) (ps : List Int) (rs : List (List UInt8)) (d : Dk) : Prop := ∃ a segs, ps = ns segs ∧ rs = allR segs ∧ SpOk R a segs d
theorem SpI.len {R : Int} : ∀ ps rs d, SpI R ps rs d → ps.length ≤ 1000000 ∧ rs.length ≤ 1000000 := by
 rintro ps rs d ⟨a, segs, rfl, rfl, h⟩
 have h1 := h.cnt
 have h2 := h.bd
 omega
theorem SpI.trim (n : Int) : TrimS n (SpI R) := by
 rintro ps rs d ⟨a, segs, rfl, rfl, h⟩ hl hn
 match segs, h with
 | [], _ => simp [ns] at hl
 | [_], _ => simp [ns] at hl
 | g :: g1 :: t, h =>
  obtain ⟨h1, h2⟩ := h.rem
  have e0 : g0 (ns (g :: g1 :: t)) 0 = g.n := rfl
  have e1 : g0 (ns (g :: g1 :: t)) 1 = g1.n := rfl
  have c0 : g.n = (a : Int) := h.ch.1
  have c1 : g1.n = (a : Int) + g.rs.length := h.ch.2.1
  have hb := h.bd
  have hal : allR (g :: g1 :: t) = g.rs ++ allR (g1 :: t) := allR_cons _ _
  rw [hal, List.length_append] at hb
  rw [e0, e1, h1]
  refine ⟨h.ok, rfl, by omega, by omega, by omega, by rw [hal, List.length_append]; omega, a + g.rs.length, g1 :: t, rfl, ?_, h2⟩
  rw [hal, show (g1.n - g.n).toNat = g.rs.length by omega, List.drop_left]
theorem SpOk.jtr (n : Int) : ∀ (k : Nat) (a : Nat) (segs : List Seg) (d : Dk), SpOk R a segs d → ∃ a' segs' d', jTr n k (ns segs, allR segs, d) = (ns segs', allR segs', d') ∧ SpOk R a' segs' d' ∧ allR segs' = (allR segs).drop (a' - a) ∧ a ≤ a' ∧ (a' = a ∨ (a' : Int) ≤ n) ∧ a' + (allR segs').length = a + (allR segs).length ∧ usedL d'.l ≤ usedL d.l ∧ (segs ≠ [] → segs' ≠ [])
 | 0, a, segs, d, h => ⟨a, segs, d, rfl, h, by simp, Nat.le_refl _, .inl rfl, rfl, Nat.le_refl _, id⟩
 | k + 1, a, segs, d, h => by
  by_cases hc : 1 < (ns segs).length ∧ g0 (ns segs) 1 ≤ n
  ·
   match segs, h, hc with
   | [], _, hc => simp [ns] at hc
   | [_], _, hc => simp [ns] at hc
   | g :: g1 :: t, h, hc =>
    obtain ⟨h1, h2⟩ := h.rem
    have e0 : g0 (ns (g :: g1 :: t)) 0 = g.n := rfl
    have e1 : g0 (ns (g :: g1 :: t)) 1 = g1.n := rfl
    have c0 : g.n = (a : Int) := h.ch.1
    have c1 : g1.n = (a : Int) + g.rs.length := h.ch.2.1
    have hal : allR (g :: g1 :: t) = g.rs ++ allR (g1 :: t) := allR_cons _ _
    obtain ⟨a', segs', d', k1, k2, k3, k4, k5, k6, k7, k8⟩ := SpOk.jtr n k _ _ _ h2
    refine ⟨a', segs', d', ?_, k2, ?_, by omega, .inr ?_, ?_, ?_, fun _ => k8 (by simp)⟩
    ·
     show (if 1 < (ns (g :: g1 :: t)).length ∧ g0 (ns (g :: g1 :: t)) 1 ≤ n then _ else _) = _
     rw [if_pos hc, e0, e1, h1, hal, show (g1.n - g.n).toNat = g.rs.length by omega, List.drop_left]
     exact k1
    ·
     rw [k3, hal, show a' - a = g.rs.length + (a' - (a + g.rs.length)) by omega, ← List.drop_drop, List.drop_left]
    ·
     rcases k5 with k5 | k5
     ·
      rw [k5]
      have := hc.2
      rw [e1] at this
      omega
     ·
      exact k5
    ·
     rw [hal, List.length_append]
     omega
    ·
     refine Nat.le_trans k7 ?_
     rw [h.l, List.map_cons (l := g1 :: t), usedL_cons]
     exact Nat.le_add_left _ _
  ·
   refine ⟨a, segs, d, if_neg hc, h, by simp, Nat.le_refl _, .inl rfl, rfl, Nat.le_refl _, id⟩
theorem SpOk.crash (h : SpOk R a segs d) (keep : Int) : (crash d keep) = { d with down := true } := by
 unfold Disk.crash
 have := crash_synced segs keep.toNat [] h.sy
 rw [List.append_nil] at this
 rw [if_neg (by rw [h.down]; simp), h.l, this]
 show ({ d with l := segs.map Seg.pt ++ [], down := true } : Dk) = _
 rw [List.append_nil, ← h.l]
def gsOf (segs : List Seg) : List (Seg × List UInt8) := segs.map fun g => (g, [])
theorem gs_tail (segs : List Seg) : (gsOf segs).map tailP = segs.map Seg.pt := by
 unfold gsOf
 rw [List.map_map]
 exact List.map_congr_left fun g _ => by simp [tailP, Seg.pt]
theorem gs_cut {segs : List Seg} (h : ∀ g ∈ segs, g.s = (flat g.rs).length) : (gsOf segs).map cutP = segs.map Seg.pt := by
 unfold gsOf
 rw [List.map_map]
 exact List.map_congr_left fun g hg => by simp [cutP, Seg.pt, h g hg]
theorem gs_fst (segs : List Seg) : (gsOf segs).map Prod.fst = segs := by
 unfold gsOf
 rw [List.map_map]
 exact List.map_id _
theorem gs_ns (segs : List Seg) : ((gsOf segs).map fun x => x.1.n) = ns segs := by
 unfold gsOf ns
 rw [List.map_map]
 rfl
theorem SpOk.reopen (h : SpOk R a segs d) (b : Bool) : ({ up { d with down := b } with l := (gsOf segs).map cutP } : Dk) = d := by
 rw [gs_cut h.sy, ← h.l]
 unfold up
 show ({ d with down := false } : Dk) = d
 rw [← h.down]
theorem SpOk.new (r : Int) (h : 1 ≤ r ∧ r ≤ 65536) : SpOk r 0 [] ⟨r, [], false⟩ := ⟨⟨.nil, by simp, h, by simp [usedL]; omega, by simp⟩, rfl, rfl, rfl, trivial, by simp, by simp, by simp [allR], fun _ => rfl, by simp [allR]⟩
end
end Go.Proofs.YtjfgmdkdcnfdoaaGreatDoor.Jrn
end
section
set_option linter.unusedVariables false
set_option linter.unusedSimpArgs false
namespace Go.Proofs.YtjfgmdkdcnfdoaaGreatDoor.Jrn
open Go Go.RowKit Go.Proofs.YtjfgmdkdcnfdoaaGreatDoor Go.Proofs.YtjfgmdkdcnfdoaaGreatDoor.Eng Go.Proofs.YtjfgmdkdcnfdoaaGreatDoor.Eng.Sep Go.Proofs.YtjfgmdkdcnfdoaaGreatDoor.Disk Go.Proofs.YtjfgmdkdcnfdoaaGreatDoorW.PrintWords
open Go.Proofs.YtjfgmdkdcnfdoaaGreatDoor.Wire (enc encT rText)
def rows (f : Nat → Nat) (a nx : Nat) : List (List UInt8) := (List.range' a (nx - a)).map fun i => encB i (f i)
theorem rows_len (f : Nat → Nat) (a nx : Nat) : (rows f a nx).length = nx - a := by simp [rows]
theorem rows_at (f : Nat → Nat) {a nx k : Nat} (h : k < nx - a) : (rows f a nx)[k]? = some (encB (a + k) (f (a + k))) := by
 unfold rows
 rw [List.getElem?_map, List.getElem?_range' h]
 simp
theorem rows_snoc (f : Nat → Nat) {a nx : Nat} (h : a ≤ nx) : rows f a (nx + 1) = rows f a nx ++ [encB nx (f nx)] := by
 unfold rows
 rw [show nx + 1 - a = nx - a + 1 by omega, List.range'_concat, List.map_append]
 simp [show a + (nx - a) = nx by omega]
theorem rows_drop (f : Nat → Nat) (a nx j : Nat) : (rows f a nx).drop j = rows f (a + j) nx := by
 refine List.ext_getElem? fun k => ?_
 rw [List.getElem?_drop]
 by_cases h : k < nx - (a + j)
 ·
  rw [rows_at f h, rows_at f (by omega), Nat.add_assoc]
 ·
  rw [List.getElem?_eq_none (by rw [rows_len]; omega), List.getElem?_eq_none (by rw [rows_len]; omega)]
theorem encB_rec {s t : Nat} (hs : s ≤ 2147483647) (ht : t ≤ 1099511627776) : recOk (encB s t) ∧ (encT (encB s t)).length ≤ 40 := by
 have h := encB_len hs ht
 have h1 : recOk (encB s t) := ⟨by omega, by omega⟩
 exact ⟨h1, by have := encT_len _ h1; omega⟩
def sdP (R : Int) (head nx : Nat) (f : Nat → Nat) (b : Nat × Nat × List Seg × Dk) : Prop := SpOk R b.2.1 b.2.2.1 b.2.2.2 ∧ b.2.1 ≤ head ∧ head ≤ nx ∧ b.2.1 + (allR b.2.2.1).length = nx ∧ allR b.2.2.1 = rows f b.2.1 nx ∧ usedL b.2.2.2.l ≤ 40 * nx ∧ (b.2.2.1 = [] → nx = 0)
def sdQ (g gd : Nat) (many room : Int) (head : Nat) (b : Nat × Nat × List Seg × Dk) : List Res := [rB g #[.pointer (some ⟨b.1, 0, none⟩), .int .i64 room, .int .i64 (head : Int)] 200, rJ b.1 gd many (ns b.2.2.1) (allR b.2.2.1), rDk gd b.2.2.2]
def rSD (g gd : Nat) (many room R : Int) (head nx : Nat) (f : Nat → Nat) : Res := rAll (sdP R head nx f) (sdQ g gd many room head)
def rDD (gd : Nat) (R : Int) (head nx : Nat) (f : Nat → Nat) (dn : Bool) : Res := rAll (sdP R head nx f) fun b => [rDk gd { b.2.2.2 with down := dn }]
section
variable (g gd : Nat) (many room R : Int) (head nx : Nat) (f : Nat → Nat)
theorem sdnext_ct (hx : nx ≤ 100000) : Ct Tryz.prog 49 #[.pointer (some ⟨g, 0, none⟩)] [rSD g gd many room R head nx f] [] (fun (_ : Unit) => True) (fun _ => (.int .i64 (nx : Int), [])) :=
 Ct.lift (rd := []) fun ⟨gj, a, segs, d⟩ ⟨h, h1, h2, h3, h4, h5, h6⟩ => by
  replace h : SpOk R a segs d := h
  have hc := h.cnt
  have hb := h.bd
  have hf := h.first
  simp only at h1 h2 h3 hc hb hf
  have := (snext_o g gj gd many room head (ns segs) (allR segs) (by omega) (by omega) (by omega)).more [rDk gd d]
  rwa [hf, show (a : Int) + ((allR segs).length : Int) = (nx : Int) by omega] at this
theorem sdlen_ct (hx : nx ≤ 100000) : Ct Tryz.prog 47 #[.pointer (some ⟨g, 0, none⟩)] [rSD g gd many room R head nx f] [] (fun (_ : Unit) => True) (fun _ => (.int .i64 ((nx : Int) - (head : Int)), [])) :=
 Ct.lift (rd := []) fun ⟨gj, a, segs, d⟩ ⟨h, h1, h2, h3, h4, h5, h6⟩ => by
  replace h : SpOk R a segs d := h
  have hc := h.cnt
  have hb := h.bd
  have hf := h.first
  simp only at h1 h2 h3 hc hb hf
  have := (slen_o g gj gd many room head (ns segs) (allR segs) (by omega) (by omega) (by omega) (by omega)).more [rDk gd d]
  rwa [hf, show (a : Int) + ((allR segs).length : Int) = (nx : Int) by omega] at this
theorem sdhead_ct (hx : nx ≤ 100000) (hh : head < nx) (ht : f head ≤ 1099511627776) : Ct Tryz.prog 45 #[.pointer (some ⟨g, 0, none⟩)] [rSD g gd many room R head nx f] [] (fun (a : Option Addr × Nat) => (encB head (f head)).length ≤ a.2) (fun a => (.tuple #[.agg #[.int .i64 (head : Int), .int .i64 (f head : Int), .slice none 0 0], .slice a.1 (encB head (f head)).length a.2, .bool true], [rV cB 1 a.1 (encB head (f head))])) :=
 Ct.lift (rd := []) fun ⟨gj, a, segs, d⟩ ⟨h, h1, h2, h3, h4, h5, h6⟩ => by
  replace h : SpOk R a segs d := h
  have hc := h.cnt
  have hb := h.bd
  have hf := h.first
  simp only at h1 h2 h3 h4 hc hb hf
  exact (shead_o g gj gd many room (ns segs) (allR segs) (by omega) (by omega) (by omega) head (f head) (head - a) (by omega) ht (by omega) (by rw [h4, rows_at f (by omega), show a + (head - a) = head by omega]) (by rw [hf]; omega)).more [rDk gd d]
theorem sdheadno_ct (hx : nx ≤ 100000) (hh : head = nx) : Ct Tryz.prog 45 #[.pointer (some ⟨g, 0, none⟩)] [rSD g gd many room R head nx f] [] (fun (_ : Unit) => True) (fun _ => (.tuple #[.agg #[.int .i64 0, .int .i64 0, .slice none 0 0], .slice none 0 0, .bool false], [])) :=
 Ct.lift (rd := []) fun ⟨gj, a, segs, d⟩ ⟨h, h1, h2, h3, h4, h5, h6⟩ => by
  replace h : SpOk R a segs d := h
  have hc := h.cnt
  have hb := h.bd
  have hf := h.first
  simp only at h1 h2 h3 h4 hc hb hf
  exact (sheadno_o g gj gd many room head (ns segs) (allR segs) (by omega) (by omega) (by omega) (by rw [hf]; omega)).more [rDk gd d]
theorem sdput_ct (t : Nat) (hx : nx < 50000) (hft : f nx = t) (ht : t ≤ 1099511627776) (hroom : (nx : Int) - head < room) (hR : 40 * ((nx : Int) + 1) ≤ R) : Ct Tryz.prog 39 #[.pointer (some ⟨g, 0, none⟩), .agg #[.int .i64 (nx : Int), .int .i64 (t : Int), .slice none 0 0]] [] [rSD g gd many room R head nx f] (fun (_ : Unit) => True) (fun _ => (.nilIface, [rSD g gd many room R head (nx + 1) f])) :=
 Ct.liftU (us := []) fun ⟨gj, a, segs, d⟩ ⟨h, h1, h2, h3, h4, h5, h6⟩ => by
  replace h : SpOk R a segs d := h
  have hc := h.cnt
  have hb := h.bd
  have hf := h.first
  simp only at h1 h2 h3 h4 h5 h6 hc hb hf
  obtain ⟨hr1, hr2⟩ := encB_rec (s := nx) (t := t) (by omega) ht
  obtain ⟨segs2, segs3, d2, d3, k1, k2, k3, k4, k5, k6, k7, k8, k9⟩ := h.put many (encB nx t) hr1 (by omega) (by omega)
  have hel : d.l.length ≤ 1000000 := by
   have := congrArg List.length h.l
   have h7 := congrArg List.length (rfl : ns segs = ns segs)
   unfold ns at hc
   rw [List.length_map] at this hc
   omega
  have hp3 : 0 < (ns segs3).length := by
   unfold ns
   rw [List.length_map]
   exact List.length_pos_iff.2 k8
  have hc3 := k7.cnt
  have hb3 := k7.bd
  have hl3 := k7.lastB hp3
  rw [k4] at hp3 hc3 hl3
  rw [k5] at hb3
  have C := sput_o g gj gd many room head (ns segs) (allR segs) (by omega) (by omega) (by omega) (by omega) d d2 d3 nx t (by omega) ht (by rw [hf]; omega) (by rw [hf]; omega) h.lastB h.ok hel (fun hp => by rw [h.sync hp]) (ns segs2) (allR segs2) k1 (by omega) (by omega) hp3 k3 hl3 k2
  refine Ct.entO C fun _ _ => ⟨(), trivial, rfl, ?_⟩
  have e := Ent.close (sdP R head (nx + 1) f) (sdQ g gd many room head) (gj, a, segs3, d3) ⟨k7, h1, by omega, ?_, ?_, ?_, fun h => absurd h k8⟩
  ·
   unfold sdQ at e
   simp only [k4, k5] at e
   exact e
  ·
   show a + (allR segs3).length = nx + 1
   rw [k5, k6, List.length_append]
   show a + ((allR segs).length + 1) = nx + 1
   omega
  ·
   show allR segs3 = rows f a (nx + 1)
   rw [k5, k6, h4, rows_snoc f (by omega), hft]
  ·
   show usedL d3.l ≤ 40 * (nx + 1)
   omega
theorem sdack_ct (hx : nx ≤ 50000) (hh : head < nx) : Ct Tryz.prog 41 #[.pointer (some ⟨g, 0, none⟩), .int .i64 (head : Int)] [] [rSD g gd many room R head nx f] (fun (_ : Unit) => True) (fun _ => (.nilIface, [rSD g gd many room R (head + 1) nx f])) :=
 Ct.liftU (us := []) fun ⟨gj, a, segs, d⟩ ⟨h, h1, h2, h3, h4, h5, h6⟩ => by
  replace h : SpOk R a segs d := h
  have hc := h.cnt
  have hb := h.bd
  have hf := h.first
  simp only at h1 h2 h3 h4 h5 h6 hc hb hf
  obtain ⟨a', segs', d', k1, k2, k3, k4, k5, k6, k7, k8⟩ := SpOk.jtr ((head : Int) + 1) (ns segs).length a segs d h
  have C := sack_o g gj gd many room head (ns segs) (allR segs) (by omega) (by omega) (by omega) (by omega) d _ k1 (SpI R) SpI.len (SpI.trim _) ⟨a, segs, rfl, rfl, h⟩ (by rw [hf]; omega)
  refine Ct.entO C fun _ _ => ⟨(), trivial, rfl, ?_⟩
  exact Ent.close (sdP R (head + 1) nx f) (sdQ g gd many room (head + 1)) (gj, a', segs', d') ⟨k2, by show a' ≤ head + 1; omega, hh, by show a' + (allR segs').length = nx; omega, by show allR segs' = _; rw [k3, h4, rows_drop, show a + (a' - a) = a' by omega], Nat.le_trans k7 h5, fun h7 => by
   by_cases h8 : segs = []
   ·
    exact h6 h8
   ·
    exact absurd h7 (k8 h8)⟩
theorem sdcrash_ct (keep : Int) (hx : nx ≤ 50000) (hk : -9223372036854775808 ≤ keep ∧ keep ≤ 9223372036854775807) : Ct Tryz.prog 43 #[.pointer (some ⟨gd, 0, none⟩), .int .i64 keep] [] [rSD g gd many room R head nx f] (fun (_ : Unit) => True) (fun _ => (.tuple #[], [rDD gd R head nx f true])) :=
 Ct.liftU (us := []) fun ⟨gj, a, segs, d⟩ hP => by
  obtain ⟨h, h1, h2, h3, h4, h5, h6⟩ := hP
  replace h : SpOk R a segs d := h
  have hc := h.cnt
  have hel : d.l.length ≤ 1000000 := by
   have := congrArg List.length h.l
   unfold ns at hc
   rw [List.length_map] at this hc
   omega
  have C := dcrash_ct gd d keep h.ok hel hk
  rw [h.crash] at C
  intro w xu xr hu hr hU
  have hu' : xu.map (·.1) = [rB g #[.pointer (some ⟨gj, 0, none⟩), .int .i64 room, .int .i64 (head : Int)] 200, rJ gj gd many (ns segs) (allR segs)] ++ [rDk gd d] := hu
  obtain ⟨x1, x2, rfl, hx1, hx2⟩ := List.map_eq_append_iff.1 hu'
  obtain rfl := List.map_eq_nil_iff.1 hr
  have hU2 : Up w (x2 ++ []) := by
   rw [List.append_nil] at hU ⊢
   exact hU.right
  refine (C w x2 [] hx2 rfl hU2).mono fun e w' ⟨_, xo, _, he, ho, hUo, hF, hn⟩ => ?_
  obtain ⟨xz, z1, z2, z3⟩ := Ent.close (sdP R head nx f) (fun b => [rDk gd { b.2.2.2 with down := true }]) (gj, a, segs, d) ⟨h, h1, h2, h3, h4, h5, h6⟩ w' xo ho hUo
  exact ⟨(), xz, trivial, he, z1, z2, hF.only fun y hy => .inl (foot_app.2 (.inr hy)), fun y hy => (hn y (z3 y hy)).imp (fun h => foot_app.2 (.inr h)) id⟩
theorem sdopen_ct (dn : Bool) (hm : ¬ (many < 1 ∨ 100 < many)) (hb : ¬ (room < 1 ∨ 1000 < room)) (hx : nx ≤ 50000) (ht : ∀ i, i < nx → f i ≤ 1099511627776) : Ct Tryz.prog 34 #[.pointer (some ⟨gd, 0, none⟩), .int .i64 many, .int .i64 room] [] [rDD gd R head nx f dn] (fun (z : Nat × Nat) => z.2 ≤ head ∧ z.2 ≤ nx ∧ (0 < nx → z.2 < nx)) (fun z => (.tuple #[.pointer (some ⟨z.1, 0, none⟩), .nilIface], [rSD z.1 gd many room R z.2 nx f])) :=
 Ct.liftU (us := []) fun ⟨gj, a, segs, d⟩ ⟨h, h1, h2, h3, h4, h5, h6⟩ => by
  replace h : SpOk R a segs d := h
  have hc := h.cnt
  have hb' := h.bd
  have hf := h.first
  simp only at h1 h2 h3 h4 h5 h6 hc hb' hf h
  have hcs : segs.length ≤ 100000 := by unfold ns at hc; rwa [List.length_map] at hc
  have C := sopen_o gd many room a { d with down := dn } (gsOf segs) (ns segs) (allR segs) hb ⟨h.ok.rise, h.ok.sync, h.ok.room, h.ok.fits, h.ok.keys⟩ hm (by rw [gs_tail]; exact h.l) (by omega) (by rw [gs_fst]; exact h.ch)
   (fun x hx => by
    obtain ⟨y, hy, rfl⟩ := List.mem_map.1 hx
    exact ⟨fun r hr => h.rc r (by unfold allR; exact List.mem_flatten.2 ⟨y.rs, List.mem_map.2 ⟨y, hy, rfl⟩, hr⟩), stops_nil⟩)
   (fun x hx => by
    obtain ⟨y, hy, rfl⟩ := List.mem_map.1 hx
    exact h.ne y hy)
   (by rw [gs_fst]; unfold gsOf; rw [List.length_map]; omega) (gs_ns segs) (by rw [gs_fst]) (by omega) (by omega) (by omega)
   (fun k hk => by
    rw [hf]
    refine ⟨f (a + k), ht _ (by omega), ?_⟩
    rw [show ((a : Int) + (k : Int)).toNat = a + k by omega, h4]
    exact rows_at f (by omega))
  rw [h.reopen, hf] at C
  refine Ct.entO C fun z _ => ⟨(z.1, a), ⟨h1, by show a ≤ nx; omega, fun hn => ?_⟩, rfl, ?_⟩
  ·
   have h7 : segs ≠ [] := fun h8 => by have := h6 h8; omega
   obtain ⟨y, t, rfl⟩ := List.exists_cons_of_ne_nil h7
   have := List.length_pos_iff.2 (h.ne y (by simp))
   rw [allR_cons, List.length_append] at h3
   show a < nx
   omega
  ·
   exact Ent.close (sdP R a nx f) (sdQ z.1 gd many room a) (z.2, a, segs, d) ⟨h, Nat.le_refl _, by show a ≤ nx; omega, h3, h4, h5, h6⟩
theorem Ent.newD (r : Int) (h : 1 ≤ r ∧ r ≤ 65536) : Sep.Ent [rDk gd ⟨r, [], false⟩] [rDD gd r 0 0 f false] := Ent.close (sdP r 0 0 f) (fun b => [rDk gd { b.2.2.2 with down := false }]) (0, 0, [], ⟨r, [], false⟩) ⟨SpOk.new r h, Nat.le_refl _, Nat.le_refl _, rfl, rfl, Nat.le_refl _, fun _ => rfl⟩
end
end Go.Proofs.YtjfgmdkdcnfdoaaGreatDoor.Jrn
end
