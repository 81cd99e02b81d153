/- Layer 9: a journal and its disk together: what Append, Sync, and a crash come to. -/
import Derived.Test.YtkhibpdkgjapgaaJrnB
set_option linter.unusedVariables false
set_option linter.unusedSimpArgs false
namespace Go.Proofs.Ytkhibpdkgjapgaa.Jrn
open Go Go.RowKit Go.Proofs.Ytkhibpdkgjapgaa Go.Proofs.Ytkhibpdkgjapgaa.Eng Go.Proofs.Ytkhibpdkgjapgaa.Disk Go.Proofs.YtkhibpdkgjapgaaW.PrintWords
open Go.Proofs.Ytkhibpdkgjapgaa.Wire (encT rText enc_len64 enc_pos)
theorem Jn.keep {w w1 : World} {S : List Nat} {gj : Nat} {J : List Nat} {gd : Nat} {many : Int} {ps : List Int} {rs : List (List UInt8)} (h : Jn w gj J gd many ps rs) (k : Fr S w w1) (hn : ∀ y ∈ J, y ∉ S) : Jn w1 gj J gd many ps rs := by
  obtain ⟨vP, vL, FP, FL, FE, xs, rfl, h1, h2, h3, h4, h5, h6, h7, h8, h9, h10⟩ := h
  exact ⟨vP, vL, FP, FL, FE, xs, rfl, h1, h2, h3, h4, h5, h6, h7.keep k (hn gj (by simp)), h8.keep k fun y hy => hn y (by simp [hy]), h9.keep k fun y hy => hn y (by simp [hy]), h10.keep k fun y hy => hn y (by simp [hy])⟩
theorem Jn.lt {w : World} {gj : Nat} {J : List Nat} {gd : Nat} {many : Int} {ps : List Int} {rs : List (List UInt8)} (h : Jn w gj J gd many ps rs) : ∀ y ∈ J, y < w.heap.size := by
  obtain ⟨vP, vL, FP, FL, FE, xs, rfl, h1, h2, h3, h4, h5, h6, h7, h8, h9, h10⟩ := h
  intro y hy
  simp only [List.mem_cons, List.mem_append] at hy
  rcases hy with rfl | hy | hy | hy
  · exact h7.lt
  · exact h8.lt y hy
  · exact h9.lt y hy
  · exact h10.lt y hy
theorem flat_one (r : List UInt8) : flat [r] = encT r := by simp [flat]
theorem used_flat : ∀ segs : List Seg, usedL (segs.map Seg.pt) = (flat (allR segs)).length
  | [] => rfl
  | g :: r => by
    rw [List.map_cons, usedL_cons, used_flat r, allR_cons, flat_app, List.length_append]
    rfl
theorem flat_le : ∀ (rs : List (List UInt8)), (∀ r ∈ rs, recOk r ∧ r.length ≤ 1000) → (flat rs).length ≤ rs.length * 1010
  | [], _ => by simp [flat]
  | r :: rs, h => by
    have h1 := h r (by simp)
    have h2 := encT_len r h1.1
    have h3 := flat_le rs fun x hx => h x (by simp [hx])
    rw [flat_cons, List.length_append, List.length_cons]
    omega
theorem ins_end (q : Pt) : ∀ l : List Pt, (∀ p ∈ l, p.n < q.n) → insL q l = l ++ [q]
  | [], _ => rfl
  | y :: r, h => by
    have h1 := h y (by simp)
    have h2 : ¬ q.n < y.n := by omega
    simp [insL, h2, ins_end q r fun p hp => h p (by simp [hp])]
/-- where a journal and its disk stand: k records are synced -/
structure JOk (R : Int) (d : Dk) (segs : List Seg) (k : Nat) : Prop where
  l : d.l = segs.map Seg.pt
  down : d.down = false
  room : d.room = R
  ok : d.Ok
  chain : Chain 0 segs
  full : ∀ g ∈ segs, g.rs ≠ []
  recs : ∀ r ∈ allR segs, recOk r ∧ r.length ≤ 1000
  kle : k ≤ (allR segs).length
  sync : segs = [] ∨ ∃ init g, segs = init ++ [g] ∧ (∀ x ∈ init, x.s = (flat x.rs).length) ∧ g.s ≤ (flat g.rs).length ∧ (flat (g.rs.take ((k : Int) - g.n).toNat)).length ≤ g.s
theorem seg_count : ∀ segs : List Seg, (∀ g ∈ segs, g.rs ≠ []) → segs.length ≤ (allR segs).length
  | [], _ => Nat.le_refl _
  | g :: r, h => by
    have h1 := List.length_pos_iff.2 (h g (by simp))
    have h2 := seg_count r fun x hx => h x (by simp [hx])
    rw [allR_cons, List.length_append, List.length_cons]
    omega
theorem chain_first {segs : List Seg} (h : Chain 0 segs) : firstN (segs.map fun g => g.n) = 0 := by
  cases segs with
  | nil => rfl
  | cons g r => exact h.1
theorem mem_recs {segs : List Seg} {g : Seg} (hg : g ∈ segs) {r : List UInt8} (hr : r ∈ g.rs) : r ∈ allR segs := by
  unfold allR
  exact List.mem_flatten.2 ⟨g.rs, List.mem_map.2 ⟨g, hg, rfl⟩, hr⟩
theorem last_of {init : List Seg} {g : Seg} (h : Chain 0 (init ++ [g])) : g.n = ((allR init).length : Int) := by
  have := ((chain_app init [g] 0).1 h).2.1
  omega
theorem no_init {init : List Seg} {g : Seg} (h : Chain 0 (init ++ [g])) (hf : ∀ x ∈ init ++ [g], x.rs ≠ []) : hasL (init.map Seg.pt) g.n = false := hasL_no.2 fun q hq => by
  obtain ⟨x, hx, rfl⟩ := List.mem_map.1 hq
  have h1 := ((chain_app init [g] 0).1 h).1
  have h2 := (chain_lo init 0 h1 x hx).2
  have h3 := last_of h
  have h4 := List.length_pos_iff.2 (hf x (by simp [hx]))
  show x.n ≠ g.n
  omega
theorem append_at {d : Dk} {init : List Seg} {g : Seg} {b : List UInt8} (hl : d.l = (init ++ [g]).map Seg.pt) (hd : d.down = false) (hn : 0 ≤ g.n) (hroom : ¬ d.room - (usedL d.l : Int) < (b.length : Int)) (hno : hasL (init.map Seg.pt) g.n = false) :
    append d g.n b = (0, { d with l := init.map Seg.pt ++ [⟨g.n, flat g.rs ++ b, g.s⟩] }) := by
  unfold append
  rw [if_neg (by rw [hd]; simp), if_neg (by omega), if_neg hroom]
  have hh : hasL d.l g.n = true := hasL_iff.2 ⟨g.pt, by rw [hl]; simp, rfl⟩
  unfold addL
  rw [if_pos hh, hl, List.map_append]
  have := updL_at (x := init.map Seg.pt) (y := []) (p := g.pt) (n := g.n) (f := fun p => ⟨p.n, p.b ++ b, p.s⟩) hno (by rfl) rfl
  simp only [List.map_cons, List.map_nil]
  rw [this]
  rfl
theorem append_new' {d : Dk} {segs : List Seg} {n : Int} {b : List UInt8} (hl : d.l = segs.map Seg.pt) (hd : d.down = false) (hn : 0 ≤ n) (hroom : ¬ d.room - (usedL d.l : Int) < (b.length : Int)) (hlt : ∀ g ∈ segs, g.n < n) :
    append d n b = (0, { d with l := segs.map Seg.pt ++ [⟨n, b, 0⟩] }) := by
  unfold append
  rw [if_neg (by rw [hd]; simp), if_neg (by omega), if_neg hroom]
  have hh : hasL d.l n = false := hasL_no.2 fun q hq => by
    rw [hl] at hq
    obtain ⟨g, hg, rfl⟩ := List.mem_map.1 hq
    have := hlt g hg
    show g.n ≠ n
    omega
  unfold addL
  rw [hh, hl, ins_end]
  · rfl
  · intro p hp
    obtain ⟨g, hg, rfl⟩ := List.mem_map.1 hp
    exact hlt g hg
theorem sync_at {d : Dk} {init : List Seg} {g : Seg} (hl : d.l = (init ++ [g]).map Seg.pt) (hd : d.down = false) (hno : hasL (init.map Seg.pt) g.n = false) :
    sync d g.n = (0, { d with l := (init ++ [(⟨g.n, g.rs, (flat g.rs).length⟩ : Seg)]).map Seg.pt }) := by
  have hh : hasL d.l g.n = true := hasL_iff.2 ⟨g.pt, by rw [hl]; simp, rfl⟩
  unfold sync
  rw [if_pos (by unfold there; rw [hd, hh]; rfl), hl, List.map_append]
  have := updL_at (x := init.map Seg.pt) (y := []) (p := g.pt) (n := g.n) (f := fun p => ⟨p.n, p.b, p.b.length⟩) hno (by rfl) rfl
  simp only [List.map_cons, List.map_nil, List.map_append]
  rw [this]
  rfl
theorem g0_last {init : List Seg} {g : Seg} : g0 ((init ++ [g]).map fun x => x.n) (((init ++ [g]).map fun x => x.n).length - 1) = g.n := by
  rw [List.map_append, List.map_cons, List.map_nil]
  exact g0_at (b := []) (by simp)
def JPost (R : Int) (gd gj : Nat) (many : Int) (F J : List Nat) (w : World) (rs : List (List UInt8)) (k : Nat) (e : Ending) (w' : World) : Prop :=
  e = .returned .nilIface ∧ ∃ F' J' d' segs', GDisk w' gd F' d' ∧ Jn w' gj J' gd many (segs'.map fun g => g.n) (allR segs') ∧ allR segs' = rs ∧ JOk R d' segs' k ∧ Fr (F ++ J) w w' ∧ (∀ y ∈ F', y ∈ F ++ J ∨ w.heap.size ≤ y) ∧ (∀ y ∈ J', y ∈ F ++ J ∨ w.heap.size ≤ y) ∧ (∀ y ∈ F', y ∉ J')
theorem mono_T {gj B : Nat} {F FP FL FE J F' : List Nat} (hJ : J = gj :: (FP ++ (FL ++ FE))) (h : ∀ y ∈ F', y ∈ gj :: (F ++ (FP ++ FL)) ∨ B ≤ y) : ∀ y ∈ F', y ∈ F ++ J ∨ B ≤ y := fun y hy => (h y hy).imp (fun k => by
  rw [hJ]
  simp only [List.mem_cons, List.mem_append] at k ⊢
  rcases k with k | k | k | k
  · exact .inr (.inl k)
  · exact .inl k
  · exact .inr (.inr (.inl k))
  · exact .inr (.inr (.inr (.inl k)))) id
set_option maxHeartbeats 800000 in
theorem jstep (R : Int) (gj gd : Nat) (many : Int) (d : Dk) (segs : List Seg) (k : Nat) (F J FB : List Nat) (adb : Addr) (nb cb : Nat) (r : List UInt8) (w : World) (HG : GDisk w gd F d) (HJ : Jn w gj J gd many (segs.map fun g => g.n) (allR segs)) (ho : JOk R d segs k) (hdj : ∀ y ∈ F, y ∉ J) (HV : VX cB 1 w FB (some adb) r) (hnb : r.length = nb) (hFB : ∀ y ∈ F ++ J, y ∉ FB) (hr : recOk r ∧ r.length ≤ 1000) (hcnt : (allR segs).length < 50) (hfit : ((flat (allR segs)).length : Int) + ((encT r).length : Int) ≤ R) (hmany : 1 ≤ many ∧ many ≤ 100) :
    Calls Try.prog 28 #[.pointer (some ⟨gj, 0, none⟩), .slice (some adb) nb cb] w (JPost R gd gj many F J w (allR segs ++ [r]) k) := by
  obtain ⟨vP, vL, FP, FL, FE, xs, hJe, nP, nL, nE, dPL, dPE, dLE, HB, HP, HL, HE⟩ := HJ
  obtain ⟨Ap, cp, rfl⟩ := HP.sliceN (n := (segs.map fun g => g.n).length) (by simp)
  obtain ⟨Al, cl, rfl⟩ := HL.sliceN (n := xs.length) (by simp)
  have hxl := HE.len
  have hsc := seg_count segs ho.full
  have hin : ∀ y, y ∈ gj :: (FP ++ (FL ++ FE)) → y ∉ F := fun y hy h => hdj y h (by rw [hJe]; exact hy)
  have nF : gj ∉ F := hin gj (by simp)
  have dFP : ∀ y ∈ F, y ∉ FP := fun y hy h => hin y (by simp [h]) hy
  have dFL : ∀ y ∈ F, y ∉ FL := fun y hy h => hin y (by simp [h]) hy
  have dFE : ∀ y ∈ F, y ∉ FE := fun y hy h => hin y (by simp [h]) hy
  have hB : ∀ y, y ∈ gj :: (FP ++ (FL ++ FE)) → y ∉ FB := fun y hy => hFB y (by rw [hJe]; simp only [List.mem_append]; exact .inr hy)
  have nB : gj ∉ FB := hB gj (by simp)
  have dFB : ∀ y ∈ F, y ∉ FB := fun y hy => hFB y (by simp [hy])
  have dPB : ∀ y ∈ FP, y ∉ FB := fun y hy => hB y (by simp [hy])
  have dLB : ∀ y ∈ FL, y ∉ FB := fun y hy => hB y (by simp [hy])
  have dEB : ∀ y ∈ FE, y ∉ FB := fun y hy => hB y (by simp [hy])
  have hf0 := chain_first ho.chain
  have hlen : (segs.map fun g => g.n).length = segs.length := List.length_map _
  have hfl := flat_le _ ho.recs
  have huse := used_flat segs
  have hel := encT_len r hr.1
  have hr1 := hr.2
  have hroom := ho.room
  have hul : usedL d.l = (flat (allR segs)).length := by rw [ho.l]; exact huse
  have hdlen : d.l.length = segs.length := by rw [ho.l]; simp
  have hT : ∀ z ∈ gj :: (F ++ (FP ++ FL)), z ∈ F ++ J := fun z hz => by
    rw [hJe]
    simp only [List.mem_cons, List.mem_append] at hz ⊢
    rcases hz with h | h | h | h
    · exact .inr (.inl h)
    · exact .inl h
    · exact .inr (.inr (.inl h))
    · exact .inr (.inr (.inr (.inl h)))
  have hJ2 : ∀ {J' : List Nat}, (∀ y ∈ J', y ∈ gj :: (FP ++ (FL ++ FE)) ∨ w.heap.size ≤ y) → ∀ y ∈ J', y ∈ F ++ J ∨ w.heap.size ≤ y := fun h y hy => (h y hy).imp (fun k => by rw [hJe]; simp only [List.mem_append]; exact .inr k) id
  have hrecs : ∀ x ∈ allR segs ++ [r], recOk x ∧ x.length ≤ 1000 := fun x hx => (List.mem_append.1 hx).elim (ho.recs x) fun h => by rw [List.mem_singleton.1 h]; exact hr
  rcases ho.sync with hnil | ⟨init, g, hsg, hini, hgs, hgk⟩
  · subst hnil
    have hA1 : append d 0 (encT r) = (0, { d with l := [⟨0, encT r, 0⟩] }) := append_new' ho.l ho.down (Int.le_refl 0) (by rw [hul]; omega) (by simp)
    refine (japp_0 gj gd many Ap Al cp cl _ xs _ F FP FL FE FB d d 0 adb nb cb r w HB HG HP HL HE HV hnb hr.1 nF nP nL nE nB dFP dFL dFE dPL dPE dLE dFB dPB dLB dEB ho.ok hf0 (by simp) (by rw [hxl]; omega) (by omega) (by rw [hdlen]; simp) hmany { d with l := [⟨0, encT r, 0⟩] } rfl rfl (by rw [hxl]; rfl) rfl ho.ok hA1 trivial).mono fun e w' hh => ?_
    obtain ⟨rfl, F', J', h1, h2, h3, h4, h5, h6⟩ := hh
    have hok2 := append_ok ho.ok 0 (encT r) (by omega)
    rw [hA1] at hok2
    refine ⟨rfl, F', J', _, [⟨0, [r], 0⟩], h1, h2, rfl, ⟨by simp [Seg.pt, flat], ho.down, ho.room, hok2, ⟨rfl, trivial⟩, by simp, by simpa [allR] using hr, Nat.le_trans ho.kle (by simp [allR]), .inr ⟨[], _, rfl, by simp, Nat.zero_le _, ?_⟩⟩, h3.only (fun z hz => .inl (hT z hz)), mono_T hJe h4, hJ2 h5, h6⟩
    have := ho.kle
    simp only [allR, List.map_nil, List.flatten_nil, List.length_nil, Nat.le_zero] at this
    subst this
    simp [flat]
  · have hno : hasL (init.map Seg.pt) g.n = false := no_init (by rw [← hsg]; exact ho.chain) (by rw [← hsg]; exact ho.full)
    have hgn : g.n = ((allR init).length : Int) := last_of (by rw [← hsg]; exact ho.chain)
    have htot : (allR segs).length = (allR init).length + g.rs.length := by rw [hsg, allR_app, List.length_append]; simp [allR]
    have hlast : g0 (segs.map fun x => x.n) ((segs.map fun x => x.n).length - 1) = g.n := by rw [hsg]; exact g0_last
    have hpos : 0 < (segs.map fun x => x.n).length := by rw [hlen, hsg]; simp
    have hgm : g ∈ segs := by rw [hsg]; simp
    have hcl := (chain_app init [g] 0).1 (by rw [← hsg]; exact ho.chain)
    by_cases hlt : (xs.length : Int) - g.n < many
    · have hA1 := append_at (d := d) (init := init) (g := g) (b := encT r) (by rw [← hsg]; exact ho.l) ho.down (by omega) (by rw [hul]; omega) hno
      have hcon : (segs.map fun x => x.n).contains g.n = true := by rw [List.contains_iff_mem]; exact List.mem_map.2 ⟨g, hgm, rfl⟩
      refine (japp_same gj gd many Ap Al cp cl _ xs _ F FP FL FE FB d d g.n adb nb cb r w HB HG HP HL HE HV hnb hr.1 nF nP nL nE nB dFP dFL dFE dPL dPE dLE dFB dPB dLB dEB ho.ok hf0 (by omega) (by omega) (by omega) (by rw [hdlen]; omega) hmany _ hpos rfl hlast hlt hcon ho.ok hA1 trivial).mono fun e w' hh => ?_
      obtain ⟨rfl, F', J', h1, h2, h3, h4, h5, h6⟩ := hh
      have hok2 := append_ok ho.ok g.n (encT r) (by omega)
      rw [hA1] at hok2
      have hps : (segs.map fun x => x.n) = (init ++ [(⟨g.n, g.rs ++ [r], g.s⟩ : Seg)]).map fun x : Seg => x.n := by rw [hsg]; simp
      have hrs : allR segs ++ [r] = allR (init ++ [(⟨g.n, g.rs ++ [r], g.s⟩ : Seg)]) := by rw [hsg, allR_app, allR_app]; simp [allR]
      rw [hps, hrs] at h2
      have hfa : flat (g.rs ++ [r]) = flat g.rs ++ encT r := by rw [flat_app, flat_one]
      refine ⟨rfl, F', J', _, _, h1, h2, hrs.symm, ⟨by simp [Seg.pt, hfa], ho.down, ho.room, hok2, (chain_app _ _ 0).2 ⟨hcl.1, hcl.2.1, trivial⟩, fun x hx => ?_, by rw [← hrs]; exact hrecs, by rw [← hrs, List.length_append]; have := ho.kle; omega, .inr ⟨init, _, rfl, hini, by simp only [hfa, List.length_append]; omega, ?_⟩⟩, h3.only (fun z hz => .inl (hT z hz)), mono_T hJe h4, hJ2 h5, h6⟩
      · rcases List.mem_append.1 hx with h | h
        · exact ho.full x (by rw [hsg]; simp [h])
        · rw [List.mem_singleton.1 h]; simp
      · have hk := ho.kle
        simp only
        rw [List.take_append_of_le_length (by omega)]
        exact hgk
    · have hS := sync_at (d := d) (init := init) (g := g) (by rw [← hsg]; exact ho.l) ho.down hno
      have hokA := sync_ok ho.ok g.n
      rw [hS] at hokA
      have hlA : ∀ x ∈ init ++ [(⟨g.n, g.rs, (flat g.rs).length⟩ : Seg)], x.n < (xs.length : Int) := fun x hx => by
        rcases List.mem_append.1 hx with h | h
        · have h1 := (chain_lo init 0 hcl.1 x h).2
          have h2 := List.length_pos_iff.2 (ho.full x (by rw [hsg]; simp [h]))
          omega
        · rw [List.mem_singleton.1 h]
          have h2 := List.length_pos_iff.2 (ho.full g hgm)
          simp only
          omega
      have huA : usedL ((init ++ [(⟨g.n, g.rs, (flat g.rs).length⟩ : Seg)]).map Seg.pt) = (flat (allR segs)).length := by
        rw [used_flat, hsg, allR_app, allR_app]
        simp [allR]
      have hA1 := append_new' (d := { d with l := (init ++ [(⟨g.n, g.rs, (flat g.rs).length⟩ : Seg)]).map Seg.pt }) (n := (xs.length : Int)) (b := encT r) rfl ho.down (by omega) (by simp only; rw [huA]; omega) hlA
      have hcon : (segs.map fun x => x.n).contains (xs.length : Int) = false := by
        rw [Bool.eq_false_iff]
        intro h
        obtain ⟨x, hx, hxn⟩ := List.mem_map.1 (List.contains_iff_mem.1 h)
        rw [hsg] at hx
        rcases List.mem_append.1 hx with h | h
        · have := hlA x (by simp [h])
          omega
        · have := hlA (⟨g.n, g.rs, (flat g.rs).length⟩ : Seg) (by simp)
          rw [List.mem_singleton.1 h] at hxn
          simp only at this
          omega
      refine (japp_new gj gd many Ap Al cp cl _ xs _ F FP FL FE FB d _ (xs.length : Int) adb nb cb r w HB HG HP HL HE HV hnb hr.1 nF nP nL nE nB dFP dFL dFE dPL dPE dLE dFB dPB dLB dEB ho.ok hf0 (by omega) (by omega) (by omega) (by have h_ := congrArg List.length hsg; simp at h_ ⊢; omega) hmany _ g.n hpos hlast (by omega) hlt (by omega) hS rfl hcon hokA hA1 trivial).mono fun e w' hh => ?_
      obtain ⟨rfl, F', J', h1, h2, h3, h4, h5, h6⟩ := hh
      have hok2 := append_ok hokA (xs.length : Int) (encT r) (by omega)
      rw [hA1] at hok2
      have hps : (segs.map fun x => x.n) ++ [(xs.length : Int)] = (init ++ [(⟨g.n, g.rs, (flat g.rs).length⟩ : Seg)] ++ [(⟨(xs.length : Int), [r], 0⟩ : Seg)]).map fun x : Seg => x.n := by rw [hsg]; simp
      have hrs : allR segs ++ [r] = allR (init ++ [(⟨g.n, g.rs, (flat g.rs).length⟩ : Seg)] ++ [(⟨(xs.length : Int), [r], 0⟩ : Seg)]) := by rw [hsg, allR_app, allR_app, allR_app]; simp [allR]
      rw [hps, hrs] at h2
      refine ⟨rfl, F', J', _, _, h1, h2, hrs.symm, ⟨by simp [Seg.pt, flat_one], ho.down, ho.room, hok2, ?_, fun x hx => ?_, by rw [← hrs]; exact hrecs, by rw [← hrs, List.length_append]; have := ho.kle; omega, .inr ⟨_, _, rfl, fun x hx => ?_, Nat.zero_le _, ?_⟩⟩, h3.only (fun z hz => .inl (hT z hz)), mono_T hJe h4, hJ2 h5, h6⟩
      · refine (chain_app _ _ 0).2 ⟨(chain_app _ _ 0).2 ⟨hcl.1, hcl.2.1, trivial⟩, ?_, trivial⟩
        rw [allR_app, List.length_append]
        simp only [allR, List.map_cons, List.map_nil, List.flatten_cons, List.flatten_nil, List.append_nil]
        have : (allR init).length = (List.map (·.rs) init).flatten.length := rfl
        omega
      · rcases List.mem_append.1 hx with h | h
        · rcases List.mem_append.1 h with h | h
          · exact ho.full x (by rw [hsg]; simp [h])
          · rw [List.mem_singleton.1 h]; exact ho.full g hgm
        · rw [List.mem_singleton.1 h]; simp
      · rcases List.mem_append.1 hx with h | h
        · exact hini x h
        · rw [List.mem_singleton.1 h]
      · have hk := ho.kle
        simp only
        rw [show ((k : Int) - (xs.length : Int)).toNat = 0 by omega]
        simp [flat]
end Go.Proofs.Ytkhibpdkgjapgaa.Jrn
