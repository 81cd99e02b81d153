/- Layer 9 over resources: words. -/
import Derived.Test.YtjfgmdkdcnfdoaaGreatDoorDiskRep
import Derived.Test.YtjfgmdkdcnfdoaaGreatDoorWireW
import Derived.Test.YtjfgmdkdcnfdoaaGreatDoorWireT
section
set_option linter.unusedVariables false
set_option linter.unusedSimpArgs false
namespace Go.Proofs.YtjfgmdkdcnfdoaaGreatDoor.Jrn
open Go Go.RowKit Go.Proofs.YtjfgmdkdcnfdoaaGreatDoor Go.Proofs.YtjfgmdkdcnfdoaaGreatDoor.Eng Go.Proofs.YtjfgmdkdcnfdoaaGreatDoor.Eng.Sep Go.Proofs.YtjfgmdkdcnfdoaaGreatDoor.Disk Go.Proofs.YtjfgmdkdcnfdoaaGreatDoorW.PrintWords
open Go.Proofs.YtjfgmdkdcnfdoaaGreatDoor.Wire (encT rText)
abbrev RX := Option Addr × Nat × Nat
def cR (x : RX) : List Value := [.slice x.1 x.2.1 x.2.2]
def gR (q : List RX) (i : Nat) : RX := q.getD i (none, 0, 0)
theorem gR_some (q : List RX) (i : Nat) (h : i < q.length) : q[i]? = some (gR q i) := by
 unfold gR
 rw [List.getD_eq_getElem?_getD, List.getElem?_eq_getElem h]
 rfl
theorem cR_len (l : List RX) : ∀ x ∈ l.map cR, x.length = 1 := by
 intro x hx
 obtain ⟨b, _, rfl⟩ := List.mem_map.1 hx
 rfl
theorem cR_one (l : List RX) : ∀ x ∈ l.map cR, x.all oneB = true := by
 intro x hx
 obtain ⟨b, _, rfl⟩ := List.mem_map.1 hx
 rfl
theorem et_r : ET Tryz.prog 300 69 1 24 := by
 obtain ⟨i, h1, h2, h3, h4⟩ := info_parts (P := Tryz.prog) (e := 69) (z := .slice none 0 0) (size := 1) (bytes := 24) (by kernel_rfl)
 exact ⟨by kernel_rfl, ⟨i, _, h1, h2, h3, h4, rfl⟩, by decide⟩
theorem et_i : ET Tryz.prog 24 3 1 8 := by
 obtain ⟨i, h1, h2, h3, h4⟩ := info_parts (P := Tryz.prog) (e := 3) (z := .int .i64 0) (size := 1) (bytes := 8) (by kernel_rfl)
 exact ⟨by kernel_rfl, ⟨i, _, h1, h2, h3, h4, rfl⟩, by decide⟩
inductive F2 {α β : Type} (P : α → β → Prop) : List α → List β → Prop
 | nil : F2 P [] []
 | cons {a : α} {b : β} {xs : List α} {ys : List β} : P a b → F2 P xs ys → F2 P (a :: xs) (b :: ys)
def EV (w : World) (FE : List Nat) (xs : List RX) (rs : List (List UInt8)) : Prop := (∀ y ∈ FE, y < w.heap.size) ∧ F2 (fun x r => x.2.1 = r.length ∧ r.length ≤ x.2.2 ∧ ∃ F, (∀ y ∈ F, y ∈ FE) ∧ VX cB 1 w F x.1 r) xs rs
theorem forall2_imp {α β : Type} {P Q : α → β → Prop} (h : ∀ a b, P a b → Q a b) : ∀ {xs : List α} {ys : List β}, F2 P xs ys → F2 Q xs ys
 | _, _, .nil => .nil
 | _, _, .cons h1 h2 => .cons (h _ _ h1) (forall2_imp h h2)
theorem forall2_app {α β : Type} {P : α → β → Prop} : ∀ {xs xs2 : List α} {ys ys2 : List β}, F2 P xs ys → F2 P xs2 ys2 → F2 P (xs ++ xs2) (ys ++ ys2)
 | _, _, _, _, .nil, h => h
 | _, _, _, _, .cons h1 h2, h => .cons h1 (forall2_app h2 h)
theorem forall2_len {α β : Type} {P : α → β → Prop} : ∀ {xs : List α} {ys : List β}, F2 P xs ys → xs.length = ys.length
 | _, _, .nil => rfl
 | _, _, .cons _ h2 => by simp [forall2_len h2]
theorem forall2_at {α β : Type} {P : α → β → Prop} : ∀ {xs : List α} {ys : List β} {i : Nat} {a : α} {b : β}, F2 P xs ys → xs[i]? = some a → ys[i]? = some b → P a b
 | _, _, 0, _, _, .cons h1 _, h2, h3 => by simp at h2 h3; subst h2 h3; exact h1
 | _, _, i + 1, _, _, .cons _ h, h2, h3 => by simp at h2 h3; exact forall2_at h h2 h3
theorem EV.nil (w : World) : EV w [] [] [] := ⟨by simp, .nil⟩
theorem EV.lt {w : World} {FE : List Nat} {xs : List RX} {rs : List (List UInt8)} (h : EV w FE xs rs) : ∀ y ∈ FE, y < w.heap.size := h.1
theorem EV.len {w : World} {FE : List Nat} {xs : List RX} {rs : List (List UInt8)} (h : EV w FE xs rs) : xs.length = rs.length := forall2_len h.2
theorem EV.keep {w w1 : World} {S FE : List Nat} {xs : List RX} {rs : List (List UInt8)} (h : EV w FE xs rs) (k : Fr S w w1) (hn : ∀ y ∈ FE, y ∉ S) : EV w1 FE xs rs :=
 ⟨fun y hy => Nat.lt_of_lt_of_le (h.1 y hy) k.size, forall2_imp (fun x r hh => by
  obtain ⟨h1, h2, F, h3, h4⟩ := hh
  exact ⟨h1, h2, F, h3, h4.keep k fun y hy => hn y (h3 y hy)⟩) h.2⟩
theorem EV.mono {w : World} {FE FE2 : List Nat} {xs : List RX} {rs : List (List UInt8)} (h : EV w FE xs rs) (hs : ∀ y ∈ FE, y ∈ FE2) (hl : ∀ y ∈ FE2, y < w.heap.size) : EV w FE2 xs rs :=
 ⟨hl, forall2_imp (fun x r hh => by
  obtain ⟨h1, h2, F, h3, h4⟩ := hh
  exact ⟨h1, h2, F, fun y hy => hs y (h3 y hy), h4⟩) h.2⟩
theorem EV.app {w : World} {FE FE2 : List Nat} {xs xs2 : List RX} {rs rs2 : List (List UInt8)} (h : EV w FE xs rs) (h2 : EV w FE2 xs2 rs2) : EV w (FE ++ FE2) (xs ++ xs2) (rs ++ rs2) := by
 have hl : ∀ y ∈ FE ++ FE2, y < w.heap.size := fun y hy => (List.mem_append.1 hy).elim (h.1 y) (h2.1 y)
 exact ⟨hl, forall2_app (h.mono (fun y hy => List.mem_append_left _ hy) hl).2 (h2.mono (fun y hy => List.mem_append_right _ hy) hl).2⟩
theorem EV.push {w : World} {FE F : List Nat} {xs : List RX} {rs : List (List UInt8)} {A : Option Addr} {r : List UInt8} {n c : Nat} (h : EV w FE xs rs) (hv : VX cB 1 w F A r) (hn : n = r.length) (hc : r.length ≤ c) : EV w (FE ++ F) (xs ++ [(A, n, c)]) (rs ++ [r]) :=
 h.app ⟨hv.lt, .cons ⟨hn, hc, F, fun y hy => hy, hv⟩ .nil⟩
def firstN (ps : List Int) : Int := ps.headD 0
theorem first_0 {ps : List Int} (h : ps.length = 0) : firstN ps = 0 := by
 obtain rfl := List.length_eq_zero_iff.1 h
 rfl
theorem first_g {ps : List Int} (h : 0 < ps.length) : firstN ps = g0 ps 0 := by
 cases ps with
 | nil => simp at h
 | cons a r => rfl
theorem ix_yes {ps : List Int} {n : Int} {i : Nat} (h : n = g0 ps i) (hi : i < ps.length) : decide ((i : Int) ≥ 0) = ps.contains n := by
 have h1 : ps.contains n = true := by
  rw [List.contains_iff_mem, h]
  unfold g0
  rw [List.getD_eq_getElem?_getD, List.getElem?_eq_getElem hi]
  exact List.getElem_mem hi
 rw [h1]
 simp
theorem ix_no {ps : List Int} {n : Int} {m : Nat} (hm : ps.length = m) (h : ∀ j, j < m → g0 ps j ≠ n) : decide ((-1 : Int) ≥ 0) = ps.contains n := by
 have h1 : ps.contains n = false := by
  rw [Bool.eq_false_iff]
  intro h2
  obtain ⟨j, hj, h3⟩ := List.getElem_of_mem (List.contains_iff_mem.1 h2)
  refine h j (by omega) ?_
  unfold g0
  rw [List.getD_eq_getElem?_getD, List.getElem?_eq_getElem hj]
  exact h3
 rw [h1]
 rfl
theorem rest_eq {l d r : List UInt8} {n : Nat} (h : l = d ++ r) (hn : l.length = n) : (l.drop d.length).take (n - d.length) = r := by
 subst h
 rw [List.length_append] at hn
 rw [List.drop_left]
 exact List.take_of_length_le (by omega)
def rE (xs : List RX) (rs : List (List UInt8)) : Res where
 P F w := EV w F xs rs
 lt h := h.lt
 keep h k hn := h.keep k hn
 b := none
 hb e := by cases e
def rDk (g : Nat) (d : Dk) : Res where
 P F w := GDisk w g F d
 lt h := h.lt
 keep h k hn := h.keep k hn
 b := none
 hb e := by cases e
abbrev JG := Option Addr × Nat × Option Addr × Nat × List RX
def jp (ps : List Int) (rs : List (List UInt8)) (b : JG) : Prop := ps.length ≤ b.2.1 ∧ b.2.2.2.2.length ≤ b.2.2.2.1 ∧ b.2.2.2.2.length = rs.length
def jq (gj gd : Nat) (many : Int) (ps : List Int) (rs : List (List UInt8)) (b : JG) : List Res :=
 [rB gj #[.pointer (some ⟨gd, 0, none⟩), .int .i64 many, .slice b.1 ps.length b.2.1, .slice b.2.2.1 b.2.2.2.2.length b.2.2.2.1] 302, rY 3 1 (.slice b.1 ps.length b.2.1) (List.map cI ps), rY 69 1 (.slice b.2.2.1 b.2.2.2.2.length b.2.2.2.1) (List.map cR b.2.2.2.2), rE b.2.2.2.2 rs]
def rJ (gj gd : Nat) (many : Int) (ps : List Int) (rs : List (List UInt8)) : Res := rAll (jp ps rs) (jq gj gd many ps rs)
theorem Ct.ofG {f : FuncId} {args : Array Value} {g : Nat} {d d' : Dk} {v : Value} (h : ∀ w F, GDisk w g F d → Calls Tryz.prog f args w (GPost g F w v d')) : Ct Tryz.prog f args [] [rDk g d] (fun (_ : Unit) => True) (fun _ => (v, [rDk g d'])) := fun w xu xr hu hr hU => by
 obtain ⟨F, rfl⟩ := one_of hu
 obtain rfl := List.map_eq_nil_iff.1 hr
 refine (h w F hU.left.one).mono fun e w' ⟨he, F', hG, hF, hn⟩ => ⟨(), [(rDk g d', F')], trivial, he, rfl, Up.of (r := rDk g d') hG, hF.only fun y hy => .inl (foot_one.2 hy), fun y hy => (hn y (foot_one.1 hy)).imp foot_one.2 id⟩
theorem dsync_ct (g : Nat) (d : Dk) (n : Int) (ho : d.Ok) (hj : -9223372036854775808 ≤ n ∧ n ≤ 9223372036854775807) : Ct Tryz.prog 192 #[.pointer (some ⟨g, 0, none⟩), .int .i64 n] [] [rDk g d] (fun (_ : Unit) => True) (fun _ => (codeV (sync d n).1, [rDk g (sync d n).2])) := Ct.ofG fun w F h => gsync g F d n w h ho hj
theorem dcut_ct (g : Nat) (d : Dk) (n z : Int) (ho : d.Ok) (hj : -9223372036854775808 ≤ n ∧ n ≤ 9223372036854775807) : Ct Tryz.prog 236 #[.pointer (some ⟨g, 0, none⟩), .int .i64 n, .int .i64 z] [] [rDk g d] (fun (_ : Unit) => True) (fun _ => (codeV (cut d n z).1, [rDk g (cut d n z).2])) := Ct.ofG fun w F h => gcut g F d n z w h ho hj
theorem drem_ct (g : Nat) (d : Dk) (n : Int) (ho : d.Ok) (hj : -9223372036854775808 ≤ n ∧ n ≤ 9223372036854775807) : Ct Tryz.prog 197 #[.pointer (some ⟨g, 0, none⟩), .int .i64 n] [] [rDk g d] (fun (_ : Unit) => True) (fun _ => (codeV (remove d n).1, [rDk g (remove d n).2])) := Ct.ofG fun w F h => gremove g F d n w h ho hj
theorem dup_ct (g : Nat) (d : Dk) : Ct Tryz.prog 177 #[.pointer (some ⟨g, 0, none⟩)] [] [rDk g d] (fun (_ : Unit) => True) (fun _ => (.tuple #[], [rDk g (up d)])) := Ct.ofG fun w F h => (gup g F d w h).mono fun e w' ⟨h1, h2, h3⟩ => ⟨h1, F, h2, h3, fun y hy => .inl hy⟩
theorem dcrash_ct (g : Nat) (d : Dk) (k : Int) (ho : d.Ok) (hl : d.l.length ≤ 1000000) (hk : -9223372036854775808 ≤ k ∧ k ≤ 9223372036854775807) : Ct Tryz.prog 43 #[.pointer (some ⟨g, 0, none⟩), .int .i64 k] [] [rDk g d] (fun (_ : Unit) => True) (fun _ => (.tuple #[], [rDk g (crash d k)])) := Ct.ofG fun w F h => (gcrash g F d k w h ho hl hk).mono fun e w' ⟨h1, h2, h3⟩ => ⟨h1, F, h2, h3, fun y hy => .inl hy⟩
theorem dapp_ct (g : Nat) (d : Dk) (n : Int) (Ab : Option Addr) (nb cb : Nat) (l : List UInt8) (ho : d.Ok) (hj : -9223372036854775808 ≤ n ∧ n ≤ 9223372036854775807) (hn : l.length = nb) (hlb : l.length ≤ 1000000000) (hel : d.l.length ≤ 1000000) :
  Ct Tryz.prog 32 #[.pointer (some ⟨g, 0, none⟩), .int .i64 n, .slice Ab nb cb] [rV cB 1 Ab l] [rDk g d] (fun (_ : Unit) => True) (fun _ => (codeV (append d n l).1, [rDk g (append d n l).2])) := fun w xu xr hu hr hU => by
 obtain ⟨F, rfl⟩ := one_of hu
 obtain ⟨G, rfl⟩ := one_of hr
 refine (gappend g F d n Ab nb cb l G w hU.left.one ho hj hU.right.one hn hlb (hU.cross _ (List.mem_singleton.2 rfl) _ (List.mem_singleton.2 rfl)) hel).mono fun e w' ⟨he, F', hG, hF, hn⟩ => ⟨(), [(rDk g _, F')], trivial, he, rfl, Up.of (r := rDk g _) hG, hF.only fun y hy => .inl (foot_one.2 hy), fun y hy => (hn y (foot_one.1 hy)).imp foot_one.2 id⟩
theorem dnew_ct (r : Int) (h : ¬ (r < 1 ∨ 65536 < r)) : Ct Tryz.prog 18 #[.int .i64 r] [] [] (fun (_ : Nat) => True) (fun g => (.tuple #[.pointer (some ⟨g, 0, none⟩), .nilIface], [rDk g ⟨r, [], false⟩])) := fun w xu xr hu hr hU => by
 obtain rfl := List.map_eq_nil_iff.1 hu
 obtain rfl := List.map_eq_nil_iff.1 hr
 refine (new_ok r w h).mono fun e w' ⟨g, m, he, h1, h2, h3, h4, h5, h6⟩ => ?_
 have hG : GDisk w' g [g, m] ⟨r, [], false⟩ := ⟨m, [], rfl, rfl, ⟨h1, h2, by simp, by simpa [Disk.foot] using h6⟩⟩
 refine ⟨g, [(rDk g ⟨r, [], false⟩, [g, m])], trivial, he, rfl, Up.of (r := rDk g _) hG, h3, fun y hy => .inr ?_⟩
 have := foot_one.1 hy
 simp only [List.mem_cons, List.not_mem_nil, or_false] at this
 rcases this with rfl | rfl
 ·
  exact h4
 ·
  exact h5
theorem dread_ct (g : Nat) (d : Dk) (n : Int) (ho : d.Ok) (hj : -9223372036854775808 ≤ n ∧ n ≤ 9223372036854775807) : Ct Tryz.prog 234 #[.pointer (some ⟨g, 0, none⟩), .int .i64 n] [rDk g d] [] (fun (a : Option Addr × Nat) => (Disk.read d n).1.length ≤ a.2) (fun a => (.tuple #[.slice a.1 (Disk.read d n).1.length a.2, codeV (Disk.read d n).2], [rY 5 1 (.slice a.1 (Disk.read d n).1.length a.2) (List.map cB (Disk.read d n).1)])) := fun w xu xr hu hr hU => by
 obtain rfl := List.map_eq_nil_iff.1 hu
 obtain ⟨F, rfl⟩ := one_of hr
 refine (gread g F d n w (Up.one hU) ho hj).mono fun e w' ⟨v, G, he, hO, hF, hn⟩ => ?_
 have hY := OwnY.of hO
 obtain ⟨A, c, rfl, hc⟩ := hY.sliceN (List.length_map _)
 exact ⟨(A, c), [(rY _ _ _ _, G)], hc, he, rfl, Up.of (r := rY _ _ _ _) hY, hF, fun y hy => .inr (hn y (foot_one.1 hy))⟩
theorem dparts_ct (g : Nat) (d : Dk) (ho : d.Ok) (hel : d.l.length ≤ 1000000) : Ct Tryz.prog 116 #[.pointer (some ⟨g, 0, none⟩)] [rDk g d] [] (fun (a : Option Addr × Nat) => d.l.length ≤ a.2) (fun a => (.slice a.1 d.l.length a.2, [rY 3 1 (.slice a.1 d.l.length a.2) (List.map cI (d.l.map fun p => p.n))])) := fun w xu xr hu hr hU => by
 obtain rfl := List.map_eq_nil_iff.1 hu
 obtain ⟨F, rfl⟩ := one_of hr
 refine (gparts g F d w (Up.one hU) ho hel).mono fun e w' ⟨v, G, he, hO, hF, hn⟩ => ?_
 have hY := OwnY.of hO
 obtain ⟨A, c, rfl, hc⟩ := hY.sliceN (n := d.l.length) (by simp)
 exact ⟨(A, c), [(rY _ _ _ _, G)], hc, he, rfl, Up.of (r := rY _ _ _ _) hY, hF, fun y hy => .inr (hn y (foot_one.1 hy))⟩
end Go.Proofs.YtjfgmdkdcnfdoaaGreatDoor.Jrn
end
section
set_option linter.unusedVariables false
namespace Go.Proofs.YtjfgmdkdcnfdoaaGreatDoor.Eng.Sep
open Go Go.Proofs.YtjfgmdkdcnfdoaaGreatDoor Go.Proofs.YtjfgmdkdcnfdoaaGreatDoor.Eng
section
variable {P : Program} {f : FuncId} {args : Array Value} {rd us : List Res} {α β : Type} {q : α → Prop} {post : α → Value × List Res}
theorem Ct.lift {p : β → Prop} {Q : β → List Res} (h : ∀ b, p b → Ct P f args (Q b ++ rd) us q post) : Ct P f args (rAll p Q :: rd) us q post := fun w xu xr hu hr hU => by
 obtain ⟨⟨r, F⟩, xr, rfl, hx, hrd⟩ := List.map_eq_cons_iff.1 hr
 simp only at hx
 subst hx
 have hU' : Up w ([(rAll p Q, F)] ++ (xu ++ xr)) := hU.perm (by
  rw [← List.append_assoc, List.singleton_append, List.cons_append]
  exact List.perm_middle.symm)
 obtain ⟨b, hb, xo, ho, hUo, hs⟩ := Ent.open_ w [(rAll p Q, F)] rfl hU'.left
 have hW := hU'.frame hUo (Fr.refl _ _) fun y hy => .inl ((hs y).1 hy)
 have hV : Up w (xu ++ (xo ++ xr)) := hW.perm (by
  rw [← List.append_assoc, ← List.append_assoc]
  exact List.perm_append_comm.append_right _)
 exact h b hb w xu (xo ++ xr) hu (by rw [List.map_append, ho, hrd]) hV
theorem Ct.liftU {p : β → Prop} {Q : β → List Res} (h : ∀ b, p b → Ct P f args rd (Q b ++ us) q post) : Ct P f args rd (rAll p Q :: us) q post := fun w xu xr hu hr hU => by
 obtain ⟨⟨r, F⟩, xu, rfl, hx, hus⟩ := List.map_eq_cons_iff.1 hu
 simp only at hx
 subst hx
 have hU' : Up w ([(rAll p Q, F)] ++ (xu ++ xr)) := by simpa using hU
 obtain ⟨b, hb, xo, ho, hUo, hs⟩ := Ent.open_ w [(rAll p Q, F)] rfl hU'.left
 have hW := hU'.frame hUo (Fr.refl _ _) fun y hy => .inl ((hs y).1 hy)
 have hf : ∀ y, y ∈ foot (xo ++ xu) ↔ y ∈ foot ((rAll p Q, F) :: xu) := fun y => by
  rw [show (rAll p Q, F) :: xu = [(rAll p Q, F)] ++ xu from rfl, foot_app, foot_app, hs]
 refine (h b hb w (xo ++ xu) xr (by rw [List.map_append, ho, hus]) hr (by rw [List.append_assoc]; exact hW)).mono fun e w' ⟨a, xz, h1, h2, h3, h4, h5, h6⟩ => ⟨a, xz, h1, h2, h3, h4, h5.only fun y hy => .inl ((hf y).1 hy), fun y hy => (h6 y hy).imp (hf y).1 id⟩
theorem Ct.conv {α2 : Type} {q2 : α2 → Prop} {post2 : α2 → Value × List Res} (C : Ct P f args rd us q post) (g : α → α2) (hq : ∀ a, q a → q2 (g a)) (hp : ∀ a, q a → post2 (g a) = post a) : Ct P f args rd us q2 post2 := fun w xu xr hu hr hU =>
 (C w xu xr hu hr hU).mono fun e w' ⟨a, xo, h1, h2, h3, h4⟩ => ⟨g a, xo, hq a h1, by rw [hp a h1]; exact h2, by rw [hp a h1]; exact h3, h4⟩
theorem Ct.entO {α2 : Type} {q2 : α2 → Prop} {post2 : α2 → Value × List Res} (C : Ct P f args rd us q post) (h : ∀ a, q a → ∃ a2, q2 a2 ∧ (post2 a2).1 = (post a).1 ∧ Ent (post a).2 (post2 a2).2) : Ct P f args rd us q2 post2 := fun w xu xr hu hr hU =>
 (C w xu xr hu hr hU).mono fun e w' ⟨a, xo, h1, h2, h3, h4, h5, h6⟩ => by
  obtain ⟨a2, k1, k2, k3⟩ := h a h1
  obtain ⟨xz, z1, z2, z3⟩ := k3 w' xo h3 h4
  exact ⟨a2, xz, k1, by rw [k2]; exact h2, z1, z2, h5, fun y hy => h6 y (z3 y hy)⟩
end
section
variable {T : List Nat} {w0 w : World} {ms fs : List Res}
theorem St.kpF (H : St T w0 ms fs w) {gl : List Nat} (bs : List Nat) (hg : gl = gsAt (ms ++ fs) bs := by kernel_rfl) (hb : (bs.all fun i => (((ms ++ fs)[i]?).bind (·.b)).isSome) = true := by kernel_rfl) : ∀ w', Fr [] w w' → Kp gl w w' := fun w' k => by
 rw [hg]
 intro b hbm
 obtain ⟨i, hi, rfl⟩ := List.mem_map.1 hbm
 have hs := List.all_eq_true.1 hb i hi
 exact ((H.step0 k).blk i hs).trans (H.blk i hs).symm
theorem Ent.by (T : TypeId) (size g n : Nat) (cs : Array Value) (xs : List (List Value)) (hx : cs.toList = xs.flatten) (hn : xs.length = n) (hl : ∀ x ∈ xs, x.length = size) (h1 : ∀ x ∈ xs, x.all oneB = true) (hb : n ≤ 9223372036854775807) : Ent [rB g cs T] [rY T size (.slice (some ⟨g, 0, none⟩) n n) xs] := fun w xu h hU => by
 obtain ⟨F, rfl⟩ := one_of h
 obtain ⟨hB, rfl⟩ := hU.one
 exact ⟨[(_, [g])], rfl, Up.of (r := rY ..) (OwnY.of (.inr ⟨g, n, rfl, by rw [hn], RowB.of_blk hB xs hx hn hl h1 hb⟩)), fun y hy => foot_one.2 (foot_one.1 hy)⟩
end
section
variable {P : Program} {ops : Array Oper} {N : Nat} {e : Env} {w w0 : World} {T : List Nat} {ms fs : List Res} {ι : Type} {S : ι → Act → World → Prop} {R : World → World → Prop} {x y : ι} {o : Oper}
theorem WO.ldE (hT : TkE P ops R S x o y) (d : Nat) (v : Value) {ad : Addr} (hR : ∀ w', Fr [] w w' → R w w') (h : ldAt P ops N e o = some (some false, ad, 1, some d)) (hc : w.cell? ad = some v) (k : WO S N y ((d, v) :: e) w) : WO S N x e w := by
 obtain ⟨t, z, ho, hop, hx, hb, hn, hd⟩ := ldAt_spec h
 refine WO.on hT ho fun a ha h3 h4 _ Q => ?_
 have hrun : (execOp (ev e) o).run P w = .ok (.value v) w := by
  unfold execOp
  simp only [hop, hx, Sem.run_bind, run_ld hb hc, Result.andThen_ok, Sem.run_pure]
 simp only [Oper.wp, h3, hrun, Oper.upon]
 have hp := ha.put o.dst v h4
 rw [hd] at hp ⊢
 exact ⟨hR _ (Fr.refl [] w), k _ hp⟩
theorem St.kpU (H : St T w0 ms fs w) (i : Nat) (r : Res) {rest : List Res} (hp : Sep.pick ms [i] = some ([r], rest)) : ∃ F, r.P F w ∧ (∀ (w' : World) (F' : List Nat) (r' : Res), r'.P F' w' → Fr F w w' → (∀ y ∈ F', y ∈ F ∨ w.heap.size ≤ y) → St T w0 (r' :: rest) fs w') ∧ ∀ bs : List Nat, (bs.all fun i => (((rest ++ fs)[i]?).bind (·.b)).isSome) = true → ∀ w', Fr F w w' → Kp (gsAt (rest ++ fs) bs) w w' := by
 obtain ⟨F, hP, hu⟩ := H.upd i r hp
 refine ⟨F, hP, hu, fun bs hb w' k => ?_⟩
 let r0 : Res := ⟨fun F w => ∀ y ∈ F, y < w.heap.size, fun h => h, fun h k _ y hy => Nat.lt_of_lt_of_le (h y hy) k.size, none, fun e => by cases e⟩
 have H2 := hu w' F r0 (fun y hy => Nat.lt_of_lt_of_le (r.lt hP y hy) k.size) k fun y hy => .inl hy
 have H1 := hu w F r0 (r.lt hP) (Fr.refl _ _) fun y hy => .inl hy
 intro b hbm
 obtain ⟨j, hj, rfl⟩ := List.mem_map.1 hbm
 have hs := List.all_eq_true.1 hb j hj
 have h1 : ∀ (ws : World), St T w0 (r0 :: rest) fs ws → Blk ws (bAt (rest ++ fs) j).1 (bAt (rest ++ fs) j).2.1 (bAt (rest ++ fs) j).2.2 := fun ws h => by
  have e1 : (r0 :: rest ++ fs)[j + 1]? = (rest ++ fs)[j]? := by simp
  have e2 : bAt (r0 :: rest ++ fs) (j + 1) = bAt (rest ++ fs) j := by unfold bAt; rw [e1]
  have h2 := h.blk (j + 1) (by rw [e1]; exact hs)
  rwa [e2] at h2
 exact (h1 _ H2).trans (h1 _ H1).symm
theorem GayK {gl : List Nat} (hT : TkE P ops (Kp gl) S x o y) (H : St T w0 ms fs w) (i d : Nat) {t : TypeId} {el : TypeId} {size bytes n m c : Nat} {A : Option Addr} {xv : Value} (E : ET P t el size bytes) (xs ys : List (List Value)) (bs : List Nat) (hn : xs.length = n) (hm : ys.length = m) (hp0 : 0 < m) (hsrc : Go.Proofs.YtjfgmdkdcnfdoaaGreatDoor.Src w xv m ys.flatten size) (hl : ∀ x ∈ ys, x.length = size) (h1 : ∀ x ∈ ys, x.all oneB = true) (hbytes : (n + m) * bytes ≤ 140737488355328) (hnm : n + m ≤ 140737488355328)
  (kk : ∀ A' c' w', n + m ≤ c' → St T w0 (rY el size (.slice A' (n + m) c') (xs ++ ys) :: restD ms [i]) fs w' → WO S N y ((d, .slice A' (n + m) c') :: e) w') (h : appAt ops N e o = some (t, .slice A n c, xv, some d) := by kernel_rfl) (hp : pick ms [i] = some ([rY el size (.slice A n c) xs], restD ms [i]) := by kernel_rfl) (hg : gl = gsAt (restD ms [i] ++ fs) bs := by kernel_rfl) (hb : (bs.all fun j => (((restD ms [i] ++ fs)[j]?).bind (·.b)).isSome) = true := by kernel_rfl) : WO S N x e w := by
 subst hn hm
 obtain ⟨F, hP, hu, hk⟩ := H.kpU i _ hp
 refine WO.appY hT d E hP rfl hp0 hsrc hl h1 h hbytes hnm (fun w' k => by rw [hg]; exact hk bs hb w' k) fun v' w' F' hO hF hn => ?_
 obtain ⟨A', c', rfl, hc⟩ := hO.sliceN List.length_append
 exact kk A' c' w' hc (hu w' F' (rY ..) hO hF hn)
theorem Gs2b (hT : TkE P ops R S x o y) (H : St T w0 ms fs w) (d : Nat) {tb te ts : TypeId} (B : BT P tb te ts) {s : ByteArray} (l : List UInt8) (n : Nat) (hl : bs s = l) (hn : s.size = n) (hR : ∀ w', Fr [] w w' → R w w')
  (kk : ∀ A cap w', n ≤ cap → St T w0 (rV cB 1 A l :: ms) fs w' → WO S N y ((d, .slice A n cap) :: e) w') (h : cvAt ops N e o = some (ts, tb, .string s, some d) := by kernel_rfl) : WO S N x e w := by
 subst hl hn
 exact WO.s2b hT d B h hR fun g cap w' hV hc hF hg _ => kk _ cap w' hc (H.new (rV cB 1 _ _) hV hF fun y hy => by rw [List.mem_singleton.1 hy]; exact hg)
end
end Go.Proofs.YtjfgmdkdcnfdoaaGreatDoor.Eng.Sep
end
section
set_option linter.unusedVariables false
set_option linter.unusedSimpArgs false
namespace Go.Proofs.YtjfgmdkdcnfdoaaGreatDoor.Jrn
open Go Go.RowKit Go.Proofs.YtjfgmdkdcnfdoaaGreatDoor Go.Proofs.YtjfgmdkdcnfdoaaGreatDoor.Eng Go.Proofs.YtjfgmdkdcnfdoaaGreatDoor.Eng.Sep Go.Proofs.YtjfgmdkdcnfdoaaGreatDoorW.PrintWords
open Go.Proofs.YtjfgmdkdcnfdoaaGreatDoor.Disk
open Go.Proofs.YtjfgmdkdcnfdoaaGreatDoor.Wire (encT rText)
theorem EV.at {w : World} {FE : List Nat} {xs : List RX} {rs : List (List UInt8)} {k : Nat} {x : RX} {r : List UInt8} (h : EV w FE xs rs) (hx : xs[k]? = some x) (hr : rs[k]? = some r) : x.2.1 = r.length ∧ r.length ≤ x.2.2 ∧ ∃ F, (∀ y ∈ F, y ∈ FE) ∧ VX cB 1 w F x.1 r :=
 forall2_at (P := fun (x : RX) r => x.2.1 = r.length ∧ r.length ≤ x.2.2 ∧ ∃ F, (∀ y ∈ F, y ∈ FE) ∧ VX cB 1 w F x.1 r) h.2 hx hr
theorem _root_.Go.Proofs.YtjfgmdkdcnfdoaaGreatDoor.Eng.Sep.Ct.eat {P : Program} {f : FuncId} {args : Array Value} {α : Type} {q : α → Prop} {post : α → Value × List Res} {xs : List RX} {rs : List (List UInt8)} {k : Nat} {x : RX} {r : List UInt8} (C : Ct P f args [rV cB 1 x.1 r] [] q post) (hx : xs[k]? = some x) (hr : rs[k]? = some r) : Ct P f args [rE xs rs] [] q post := fun w xu xr hu hrr hU => by
 obtain ⟨F, rfl⟩ := one_of hrr
 obtain rfl := List.map_eq_nil_iff.1 hu
 obtain ⟨_, _, G, hG, hV⟩ := EV.at (show EV w F xs rs from hU.right.one) hx hr
 exact C w [] [(rV cB 1 x.1 r, G)] rfl rfl (Up.of (r := rV cB 1 x.1 r) hV)
theorem Ent.epush (xs : List RX) (rs : List (List UInt8)) (A : Option Addr) (r : List UInt8) (n c : Nat) (hn : n = r.length) (hc : r.length ≤ c) : Ent [rE xs rs, rV cB 1 A r] [rE (xs ++ [(A, n, c)]) (rs ++ [r])] := fun w xu h hU => by
 obtain ⟨F, G, rfl⟩ := two_of h
 have h1 : EV w F xs rs := hU.p (rE xs rs, F) (by simp)
 have h2 : VX cB 1 w G A r := hU.p (rV cB 1 A r, G) (by simp)
 exact ⟨[(_, F ++ G)], rfl, Up.of (r := rE ..) (h1.push h2 hn hc), fun y hy => by
  rw [foot_one] at hy
  rw [Sep.mem_foot]
  simpa using hy⟩
theorem Ent.eapp (xs xs2 : List RX) (rs rs2 : List (List UInt8)) : Ent [rE xs rs, rE xs2 rs2] [rE (xs ++ xs2) (rs ++ rs2)] := fun w xu h hU => by
 obtain ⟨F, G, rfl⟩ := two_of h
 have h1 : EV w F xs rs := hU.p (rE xs rs, F) (by simp)
 have h2 : EV w G xs2 rs2 := hU.p (rE xs2 rs2, G) (by simp)
 exact ⟨[(_, F ++ G)], rfl, Up.of (r := rE ..) (h1.app h2), fun y hy => by
  rw [foot_one] at hy
  rw [Sep.mem_foot]
  simpa using hy⟩
theorem forall2_drop {α β : Type} {P : α → β → Prop} : ∀ {xs : List α} {ys : List β}, F2 P xs ys → ∀ k, F2 P (xs.drop k) (ys.drop k)
 | _, _, .nil, k => by simp only [List.drop_nil]; exact .nil
 | _, _, .cons h1 h2, 0 => .cons h1 h2
 | _, _, .cons h1 h2, k + 1 => forall2_drop h2 k
theorem Ent.edrop (xs : List RX) (rs : List (List UInt8)) (k : Nat) : Ent [rE xs rs] [rE (xs.drop k) (rs.drop k)] := fun w xu h hU => by
 obtain ⟨F, rfl⟩ := one_of h
 have h1 : EV w F xs rs := hU.one
 exact ⟨[(_, F)], rfl, Up.of (r := rE ..) ⟨h1.1, forall2_drop h1.2 k⟩, fun y hy => foot_one.2 (foot_one.1 hy)⟩
theorem Ent.enil : Ent [] [rE [] []] := fun w xu h hU => by
 obtain rfl := List.map_eq_nil_iff.1 h
 exact ⟨[(rE [] [], [])], rfl, Up.of (r := rE [] []) (EV.nil w), fun y hy => by simp [Sep.mem_foot] at hy⟩
set_option maxRecDepth 100000 in
set_option maxHeartbeats 400000 in
theorem first_c (gj gd : Nat) (many : Int) (Ap Al : Option Addr) (cp cl : Nat) (ps : List Int) (xs : List RX) (hlp : ps.length ≤ 1000000) (hll : xs.length ≤ 1000000) :
  Ct Tryz.prog 101 #[.pointer (some ⟨gj, 0, none⟩)] [rB gj #[.pointer (some ⟨gd, 0, none⟩), .int .i64 many, .slice Ap ps.length cp, .slice Al xs.length cl] 302, rY 3 1 (.slice Ap ps.length cp) (List.map cI ps)] [] (fun (_ : Unit) => True) (fun _ => (.int .i64 (firstN ps), [])) := by
 refine Ct.mk fun w T_ H => ?_
 refine enter (N := 15) Tryz.func101 (c := _) rfl (by kernel_rfl) (by kernel_rfl) (e := [(0, .pointer (some ⟨gj, 0, none⟩))]) (by kernel_rfl) ?_
 refine WE.seq ?_
 refine WE.region ?_
 refine WO.run 1 0 [(2, .int .i64 0)] (by kernel_rfl) (by kernel_rfl) ?_
 refine WO.done (by kernel_rfl) ?_
 refine WQ.keep [0, 2] (e' := [(0, .pointer (some ⟨gj, 0, none⟩)), (2, .int .i64 0)]) (by kernel_rfl) ?_
 refine WQ.thenN ?_
 refine WE.seq ?_
 refine WE.seq ?_
 refine WE.region ?_
 refine WO.run 3 0 [(5, .pointer (some ⟨gj, 2, none⟩)), (4, .pointer (some ⟨gj, 0, none⟩)), (3, .pointer (some ⟨gj, 0, none⟩))] (by kernel_rfl) (by kernel_rfl) ?_
 refine WO.ld (SQ.S 3 (by kernel_rfl)) 6 (.slice Ap ps.length cp) (by kernel_rfl) (H.cell 0 2) ?_
 refine WO.run 1 4 [(7, .int .i64 (ps.length : Int))] (by kernel_rfl) (by kernel_rfl) ?_
 refine WO.one (SQ.F 5 (by kernel_rfl)) 8 (.bool (decide (((ps.length : Int) : Int) = (0 : Int)))) (by kernel_rfl) ?_
 refine WO.topP (((ps.length : Int) : Int) = (0 : Int)) ?_ ?_
 ·
  intro h1
  refine WO.done (by kernel_rfl) ?_
  refine WQ.keep [0, 2, 8] (e' := [(0, .pointer (some ⟨gj, 0, none⟩)), (2, .int .i64 0), (8, .bool true)]) (by kernel_rfl) ?_
  refine WQ.thenN ?_
  refine WE.condT (by kernel_rfl) ?_
  refine WE.seq ?_
  refine WE.region ?_
  refine WO.run 1 0 [(2, .int .i64 0)] (by kernel_rfl) (by kernel_rfl) ?_
  refine WO.done (by kernel_rfl) ?_
  refine WQ.keep [0, 2] (e' := [(0, .pointer (some ⟨gj, 0, none⟩)), (2, .int .i64 0)]) (by kernel_rfl) ?_
  refine WQ.thenN ?_
  refine WE.ret ?_
  refine WQ.thenR ?_
  refine WQ.ret (v := .int .i64 0) (by kernel_rfl) ?_
  exact H.leaf () [] trivial (he := by rw [first_0 (by omega)])
 intro h1
 refine WO.done (by kernel_rfl) ?_
 refine WQ.keep [0, 2, 8] (e' := [(0, .pointer (some ⟨gj, 0, none⟩)), (2, .int .i64 0), (8, .bool false)]) (by kernel_rfl) ?_
 refine WQ.thenN ?_
 refine WE.condF (by kernel_rfl) ?_
 refine WE.skip ?_
 refine WQ.thenN ?_
 refine WE.seq ?_
 refine WE.region ?_
 refine WO.run 3 0 [(11, .pointer (some ⟨gj, 2, none⟩)), (10, .pointer (some ⟨gj, 0, none⟩)), (9, .pointer (some ⟨gj, 0, none⟩))] (by kernel_rfl) (by kernel_rfl) ?_
 refine WO.ld (SQ.S 3 (by kernel_rfl)) 12 (.slice Ap ps.length cp) (by kernel_rfl) (H.cell 0 2) ?_
 obtain ⟨ad2, hA3⟩ := H.yaddr 1 cI 3 1 Ap ps.length cp ps (k := 0) (by have := (rfl : ps.length = _); omega)
 refine WO.ixo (SQ.F 4 (by kernel_rfl)) 13 ps.length 1 0 0 hA3 (by kernel_rfl) rfl (by omega) ?_
 refine WO.ld (SQ.S 5 (by kernel_rfl)) 14 (.int .i64 (g0 ps 0)) (by kernel_rfl) (H.ycell0 1 cI 3 1 Ap ps.length cp ps hA3 (g0_some ps 0 (by have := (rfl : ps.length = _); omega))) ?_
 refine WO.run 1 6 [(2, .int .i64 (g0 ps 0))] (by kernel_rfl) (by kernel_rfl) ?_
 refine WO.done (by kernel_rfl) ?_
 refine WQ.keep [2] (e' := [(2, .int .i64 (g0 ps 0))]) (by kernel_rfl) ?_
 refine WQ.thenN ?_
 refine WE.ret ?_
 refine WQ.ret (v := .int .i64 (g0 ps 0)) (by kernel_rfl) ?_
 exact H.leaf () [] trivial (he := by rw [first_g (by omega)])
set_option maxRecDepth 100000 in
set_option maxHeartbeats 400000 in
theorem next_c (gj gd : Nat) (many : Int) (Ap Al : Option Addr) (cp cl : Nat) (ps : List Int) (xs : List RX) (hlp : ps.length ≤ 1000000) (hll : xs.length ≤ 1000000) (hf : 0 ≤ firstN ps ∧ firstN ps ≤ 1000000) :
  Ct Tryz.prog 102 #[.pointer (some ⟨gj, 0, none⟩)] [rB gj #[.pointer (some ⟨gd, 0, none⟩), .int .i64 many, .slice Ap ps.length cp, .slice Al xs.length cl] 302, rY 3 1 (.slice Ap ps.length cp) (List.map cI ps)] [] (fun (_ : Unit) => True) (fun _ => (.int .i64 (firstN ps + (xs.length : Int)), [])) := by
 refine Ct.mk fun w T_ H => ?_
 refine enter (N := 11) Tryz.func102 (c := _) rfl (by kernel_rfl) (by kernel_rfl) (e := [(0, .pointer (some ⟨gj, 0, none⟩))]) (by kernel_rfl) ?_
 refine WE.seq ?_
 refine WE.region ?_
 refine WO.run 1 0 [(2, .int .i64 0)] (by kernel_rfl) (by kernel_rfl) ?_
 refine WO.done (by kernel_rfl) ?_
 refine WQ.keep [0, 2] (e' := [(0, .pointer (some ⟨gj, 0, none⟩)), (2, .int .i64 0)]) (by kernel_rfl) ?_
 refine WQ.thenN ?_
 refine WE.seq ?_
 refine WE.draw [.free, .effR, .free, .free, .free, .still, .free, .free, .free] (Kp [gj]) (kpR _) (by kernel_rfl) 9 (Array.replicate 9 false) (by kernel_rfl) rfl ?_
 intro w F_ _
 replace H := H.step0 F_
 refine WO.one (SA.F (kpR _) (kpT _) _ 0 _ (by kernel_rfl)) 3 (.pointer (some ⟨gj, 0, none⟩)) (by kernel_rfl) ?_
 refine WO.one (SA.F (kpR _) (kpT _) _ 2 _ (by kernel_rfl)) 5 (.pointer (some ⟨gj, 0, none⟩)) (by kernel_rfl) ?_
 refine WO.one (SA.F (kpR _) (kpT _) _ 3 _ (by kernel_rfl)) 6 (.pointer (some ⟨gj, 0, none⟩)) (by kernel_rfl) ?_
 refine WO.one (SA.F (kpR _) (kpT _) _ 4 _ (by kernel_rfl)) 7 (.pointer (some ⟨gj, 3, none⟩)) (by kernel_rfl) ?_
 refine WO.ld (SA.S (kpR _) (kpT _) _ 5 _ (by kernel_rfl)) 8 (.slice Al xs.length cl) (by kernel_rfl) (fun _ k_ => ((H.blk 0).kp k_ (by show gj ∈ ([gj] : List Nat); simp)).at 3 (by kernel_rfl)) ?_
 refine WO.one (SA.F (kpR _) (kpT _) _ 6 _ (by kernel_rfl)) 9 (.int .i64 (xs.length : Int)) (by kernel_rfl) ?_
 refine GcK (SA.ER _ 1 _ (by kernel_rfl) rfl) H 4 (first_c gj gd many Ap Al cp cl ps xs hlp hll) [] [0, 0] [0] ?_
 rintro ⟨⟩ w _ H
 refine WO.one (SA.F (kpR _) (kpT _) _ 7 _ (by kernel_rfl)) 10 (.int .i64 (IntKind.i64.wrap ((firstN ps) + (xs.length : Int)))) (by kernel_rfl) ?_
 refine WO.top (v' := .int .i64 ((firstN ps) + (xs.length : Int))) (wrap_i64 (by omega) (by omega)) ?_
 refine WO.one (SA.F (kpR _) (kpT _) _ 8 _ (by kernel_rfl)) 2 (.int .i64 ((firstN ps) + (xs.length : Int))) (by kernel_rfl) ?_
 refine WO.doneA (by kernel_rfl) ?_
 refine WQ.keep [2] (e' := [(2, .int .i64 ((firstN ps) + (xs.length : Int)))]) (by kernel_rfl) ?_
 refine WQ.thenN ?_
 refine WE.ret ?_
 refine WQ.ret (v := .int .i64 ((firstN ps) + (xs.length : Int))) (by kernel_rfl) ?_
 exact H.leaf () [] trivial
set_option maxRecDepth 100000 in
set_option maxHeartbeats 400000 in
theorem index_c (Ap : Option Addr) (cp : Nat) (ps : List Int) (n : Int) (hlp : ps.length ≤ 1000000) :
  Ct Tryz.prog 242 #[.slice Ap ps.length cp, .int .i64 n] [rY 3 1 (.slice Ap ps.length cp) (List.map cI ps)] [] (fun (z : Int) => decide (z ≥ 0) = ps.contains n) (fun z => (.int .i64 z, [])) := by
 refine Ct.mk fun w T_ H => ?_
 refine enter (N := 19) Tryz.func242 (c := _) rfl (by kernel_rfl) (by kernel_rfl) (e := [(0, .slice Ap ps.length cp), (1, .int .i64 n)]) (by kernel_rfl) ?_
 refine WE.seq ?_
 refine WE.region ?_
 refine WO.run 1 0 [(4, .int .i64 0)] (by kernel_rfl) (by kernel_rfl) ?_
 refine WO.done (by kernel_rfl) ?_
 refine WQ.keep [0, 1, 4] (e' := [(0, .slice Ap ps.length cp), (1, .int .i64 n), (4, .int .i64 0)]) (by kernel_rfl) ?_
 refine WQ.thenN ?_
 refine WE.seq ?_
 refine WE.seq ?_
 refine WE.region ?_
 refine WO.run 3 0 [(8, .int .i64 0), (7, .int .i64 (ps.length : Int)), (6, .slice Ap ps.length cp)] (by kernel_rfl) (by kernel_rfl) ?_
 refine WO.done (by kernel_rfl) ?_
 refine WQ.keep [0, 1, 4, 7, 8] (e' := [(0, .slice Ap ps.length cp), (1, .int .i64 n), (4, .int .i64 0), (7, .int .i64 (ps.length : Int)), (8, .int .i64 0)]) (by kernel_rfl) ?_
 refine WQ.thenN ?_
 refine WE.block ?_
 refine Sloop (α := Nat) (fun i => [(0, .slice Ap ps.length cp), (1, .int .i64 n), (4, .int .i64 0), (7, .int .i64 (ps.length : Int)), (8, .int .i64 (i : Int))]) (fun i => []) (fun i => i ≤ ps.length ∧ ∀ j, j < i → g0 ps j ≠ n) (fun i => ps.length - i) 0 [0, 1, 4, 7, 8] [] H (⟨Nat.zero_le _, fun j hj => absurd hj (Nat.not_lt_zero j)⟩) ?_
 rintro i w ⟨hi, hbe⟩ H
 refine WE.seq ?_
 refine WE.region ?_
 refine WO.one (SQ.F 0 (by kernel_rfl)) 9 (.bool (decide (((i : Int) : Int) < (ps.length : Int)))) (by kernel_rfl) ?_
 refine WO.topP (((i : Int) : Int) < (ps.length : Int)) ?_ ?_
 ·
  intro h1
  refine WO.done (by kernel_rfl) ?_
  refine WQ.keep [0, 1, 4, 7, 8, 9] (e' := [(0, .slice Ap ps.length cp), (1, .int .i64 n), (4, .int .i64 0), (7, .int .i64 (ps.length : Int)), (8, .int .i64 (i : Int)), (9, .bool true)]) (by kernel_rfl) ?_
  refine WQ.thenN ?_
  refine WE.seq ?_
  refine WE.condT (by kernel_rfl) ?_
  refine WE.skip ?_
  refine WQ.thenN ?_
  refine WE.seq ?_
  refine WE.block ?_
  refine WE.seq ?_
  refine WE.region ?_
  refine WO.run 2 0 [(5, .int .i64 (i : Int)), (10, .int .i64 (i : Int))] (by kernel_rfl) (by kernel_rfl) ?_
  refine WO.done (by kernel_rfl) ?_
  refine WQ.keep [0, 1, 4, 5, 7, 8] (e' := [(0, .slice Ap ps.length cp), (1, .int .i64 n), (4, .int .i64 0), (5, .int .i64 (i : Int)), (7, .int .i64 (ps.length : Int)), (8, .int .i64 (i : Int))]) (by kernel_rfl) ?_
  refine WQ.thenN ?_
  refine WE.seq ?_
  refine WE.region ?_
  refine WO.run 3 0 [(13, .int .i64 (i : Int)), (12, .slice Ap ps.length cp), (11, .int .i64 n)] (by kernel_rfl) (by kernel_rfl) ?_
  obtain ⟨ad2, hA3⟩ := H.yaddr 0 cI 3 1 Ap ps.length cp ps (k := i) (by have := (rfl : ps.length = _); omega)
  refine WO.ixo (SQ.F 3 (by kernel_rfl)) 14 ps.length 1 i (i : Int) hA3 (by kernel_rfl) rfl (by omega) ?_
  refine WO.ld (SQ.S 4 (by kernel_rfl)) 15 (.int .i64 (g0 ps i)) (by kernel_rfl) (H.ycell0 0 cI 3 1 Ap ps.length cp ps hA3 (g0_some ps i (by have := (rfl : ps.length = _); omega))) ?_
  refine WO.one (SQ.F 5 (by kernel_rfl)) 16 (.bool (decide ((n : Int) = (g0 ps i)))) (by kernel_rfl) ?_
  refine WO.topP ((n : Int) = (g0 ps i)) ?_ ?_
  ·
   intro h4
   refine WO.done (by kernel_rfl) ?_
   refine WQ.keep [0, 1, 4, 5, 7, 8, 16] (e' := [(0, .slice Ap ps.length cp), (1, .int .i64 n), (4, .int .i64 0), (5, .int .i64 (i : Int)), (7, .int .i64 (ps.length : Int)), (8, .int .i64 (i : Int)), (16, .bool true)]) (by kernel_rfl) ?_
   refine WQ.thenN ?_
   refine WE.condT (by kernel_rfl) ?_
   refine WE.seq ?_
   refine WE.region ?_
   refine WO.run 2 0 [(4, .int .i64 (i : Int)), (17, .int .i64 (i : Int))] (by kernel_rfl) (by kernel_rfl) ?_
   refine WO.done (by kernel_rfl) ?_
   refine WQ.keep [0, 1, 4, 7, 8] (e' := [(0, .slice Ap ps.length cp), (1, .int .i64 n), (4, .int .i64 (i : Int)), (7, .int .i64 (ps.length : Int)), (8, .int .i64 (i : Int))]) (by kernel_rfl) ?_
   refine WQ.thenN ?_
   refine WE.ret ?_
   refine WQ.blkR ?_
   refine WQ.thenR ?_
   refine WQ.thenR ?_
   refine WQ.blkR ?_
   refine WQ.thenR ?_
   refine WQ.ret (v := .int .i64 (i : Int)) (by kernel_rfl) ?_
   exact H.leaf (i : Int) [] (ix_yes (by assumption) (by omega))
  intro h4
  refine WO.done (by kernel_rfl) ?_
  refine WQ.keep [0, 1, 4, 5, 7, 8, 16] (e' := [(0, .slice Ap ps.length cp), (1, .int .i64 n), (4, .int .i64 0), (5, .int .i64 (i : Int)), (7, .int .i64 (ps.length : Int)), (8, .int .i64 (i : Int)), (16, .bool false)]) (by kernel_rfl) ?_
  refine WQ.thenN ?_
  refine WE.condF (by kernel_rfl) ?_
  refine WE.skip ?_
  refine WQ.blkN ?_
  refine WQ.thenN ?_
  refine WE.region ?_
  refine WO.one (SQ.F 0 (by kernel_rfl)) 18 (.int .i64 (IntKind.i64.wrap ((i : Int) + 1))) (by kernel_rfl) ?_
  refine WO.top (v' := .int .i64 ((i + 1 : Nat) : Int)) (wrap_i64 (by omega) (by omega)) ?_
  refine WO.run 1 1 [(8, .int .i64 ((i + 1 : Nat) : Int))] (by kernel_rfl) (by kernel_rfl) ?_
  refine WO.done (by kernel_rfl) ?_
  refine WQ.keep [0, 1, 4, 7, 8] (e' := [(0, .slice Ap ps.length cp), (1, .int .i64 n), (4, .int .i64 0), (7, .int .i64 (ps.length : Int)), (8, .int .i64 ((i + 1 : Nat) : Int))]) (by kernel_rfl) ?_
  refine WQ.round fun a_ ha_ => ⟨i + 1, ?_, ha_.keep [0, 1, 4, 7, 8] (by kernel_rfl), ?_, H.sub []⟩
  ·
   show ps.length - (i + 1) < ps.length - i; omega
  exact ⟨by omega, fun j hj => (Nat.lt_succ_iff_lt_or_eq.1 hj).elim (hbe j) (fun h_ => by rw [h_]; exact fun h2_ => absurd h2_.symm (by assumption))⟩
 intro h1
 refine WO.done (by kernel_rfl) ?_
 refine WQ.keep [0, 1, 4, 7, 8, 9] (e' := [(0, .slice Ap ps.length cp), (1, .int .i64 n), (4, .int .i64 0), (7, .int .i64 (ps.length : Int)), (8, .int .i64 (i : Int)), (9, .bool false)]) (by kernel_rfl) ?_
 refine WQ.thenN ?_
 refine WE.seq ?_
 refine WE.condF (by kernel_rfl) ?_
 refine WE.exit ?_
 refine WQ.thenE ?_
 refine WQ.thenE ?_
 refine WQ.blkE ?_
 refine WQ.thenN ?_
 refine WE.seq ?_
 refine WE.region ?_
 refine WO.run 1 0 [(4, .int .i64 (-1))] (by kernel_rfl) (by kernel_rfl) ?_
 refine WO.done (by kernel_rfl) ?_
 refine WQ.keep [4] (e' := [(4, .int .i64 (-1))]) (by kernel_rfl) ?_
 refine WQ.thenN ?_
 refine WE.ret ?_
 refine WQ.ret (v := .int .i64 (-1)) (by kernel_rfl) ?_
 exact H.leaf (-1 : Int) [] (ix_no rfl (fun j hj => hbe j (by omega)))
set_option maxRecDepth 100000 in
set_option maxHeartbeats 400000 in
theorem contains_c (Ap : Option Addr) (cp : Nat) (ps : List Int) (n : Int) (hlp : ps.length ≤ 1000000) :
  Ct Tryz.prog 190 #[.slice Ap ps.length cp, .int .i64 n] [rY 3 1 (.slice Ap ps.length cp) (List.map cI ps)] [] (fun (_ : Unit) => True) (fun _ => (.bool (ps.contains n), [])) := by
 refine Ct.mk fun w T_ H => ?_
 refine enter (N := 9) Tryz.func190 (c := _) rfl (by kernel_rfl) (by kernel_rfl) (e := [(0, .slice Ap ps.length cp), (1, .int .i64 n)]) (by kernel_rfl) ?_
 refine WE.seq ?_
 refine WE.region ?_
 refine WO.run 1 0 [(4, .bool false)] (by kernel_rfl) (by kernel_rfl) ?_
 refine WO.done (by kernel_rfl) ?_
 refine WQ.keep [0, 1, 4] (e' := [(0, .slice Ap ps.length cp), (1, .int .i64 n), (4, .bool false)]) (by kernel_rfl) ?_
 refine WQ.thenN ?_
 refine WE.seq ?_
 refine WE.region ?_
 refine WO.run 2 0 [(6, .int .i64 n), (5, .slice Ap ps.length cp)] (by kernel_rfl) (by kernel_rfl) ?_
 refine Sc H 7 (index_c Ap cp ps n hlp) [] [0] ?_
 rintro z w hz H
 refine WO.run 2 3 [(4, .bool (decide ((z : Int) ≥ 0))), (8, .bool (decide ((z : Int) ≥ 0)))] (by kernel_rfl) (by kernel_rfl) ?_
 refine WO.done (by kernel_rfl) ?_
 refine WQ.keep [4] (e' := [(4, .bool (decide ((z : Int) ≥ 0)))]) (by kernel_rfl) ?_
 refine WQ.thenN ?_
 refine WE.ret ?_
 refine WQ.ret (v := .bool (decide ((z : Int) ≥ 0))) (by kernel_rfl) ?_
 exact H.leaf () [] trivial (he := by rw [← hz])
set_option maxRecDepth 100000 in
set_option maxHeartbeats 400000 in
theorem clone_some (ad : Addr) (n c : Nat) (r : List UInt8) (hn : r.length = n) (hp : 0 < n) (hl : n ≤ 1000000) :
  Ct Tryz.prog 191 #[.slice (some ad) n c] [rV cB 1 (some ad) r] [] (fun (a : Option Addr × Nat) => n ≤ a.2) (fun a => (.slice a.1 n a.2, [rY 5 1 (.slice a.1 n a.2) (List.map cB r)])) := by
 refine Ct.mk fun w T_ H => ?_
 refine enter (N := 8) Tryz.func191 (c := _) rfl (by kernel_rfl) (by kernel_rfl) (e := [(0, .slice (some ad) n c)]) (by kernel_rfl) ?_
 refine WE.seq ?_
 refine WE.region ?_
 refine WO.run 1 0 [(2, .slice none 0 0)] (by kernel_rfl) (by kernel_rfl) ?_
 refine WO.done (by kernel_rfl) ?_
 refine WQ.keep [0, 2] (e' := [(0, .slice (some ad) n c), (2, .slice none 0 0)]) (by kernel_rfl) ?_
 refine WQ.thenN ?_
 refine WE.seq ?_
 refine WE.seq ?_
 refine WE.region ?_
 refine WO.run 2 0 [(4, .bool false), (3, .slice (some ad) n c)] (by kernel_rfl) (by kernel_rfl) ?_
 refine WO.done (by kernel_rfl) ?_
 refine WQ.keep [0, 2, 4] (e' := [(0, .slice (some ad) n c), (2, .slice none 0 0), (4, .bool false)]) (by kernel_rfl) ?_
 refine WQ.thenN ?_
 refine WE.condF (by kernel_rfl) ?_
 refine WE.skip ?_
 refine WQ.thenN ?_
 refine WE.seq ?_
 refine WE.region ?_
 refine Sb H 5 #[] 5 (fun g => .slice (some ⟨g, 0, none⟩) 0 0) ?_
 intro g1 w H
 refine WO.run 1 1 [(6, .slice (some ad) n c)] (by kernel_rfl) (by kernel_rfl) ?_
 replace H := H.conv [0] (Ent.by 5 1 g1 0 #[] (List.map cB ([] : List UInt8)) rfl rfl (cB_len _) (cB_one _) (by decide))
 obtain ⟨F2, HV3⟩ := H.at 1 (rV cB 1 (some ad) r)
 refine Gay (SQ.E 2 (by kernel_rfl)) H 0 7 (A := (some ⟨g1, 0, none⟩)) (c := 0) (xv := .slice (some ad) n c) (n := 0) (m := n) Wire.et_b (List.map cB ([] : List UInt8)) (List.map cB r) ((List.length_map _).trans ((rfl : List.length ([] : List UInt8) = _))) (by rw [List.length_map] <;> first | rfl | omega | (simp <;> omega)) (by omega) (VX.srcN HV3 hn (cB_len _) (cB_one _) c) (cB_len _) (cB_one _) (by omega) (by omega) (fun _ => trivial) ?_
 intro A4 cap5 w hccap5 H
 rw [← List.map_append] at H
 refine WO.run 1 3 [(2, .slice A4 (0 + n) cap5)] (by kernel_rfl) (by kernel_rfl) ?_
 refine WO.done (by kernel_rfl) ?_
 refine WQ.keep [2] (e' := [(2, .slice A4 (0 + n) cap5)]) (by kernel_rfl) ?_
 refine WQ.thenN ?_
 refine WE.ret ?_
 refine WQ.ret (v := .slice A4 (0 + n) cap5) (by kernel_rfl) ?_
 simp only [List.nil_append, Nat.zero_add] at H hccap5 ⊢
 exact H.leaf (A4, cap5) [0] hccap5
theorem clone_c (A : Option Addr) (n c : Nat) (r : List UInt8) (hn : r.length = n) (hp : 0 < n) (hl : n ≤ 1000000) : Ct Tryz.prog 191 #[.slice A n c] [rV cB 1 A r] [] (fun (a : Option Addr × Nat) => n ≤ a.2) (fun a => (.slice a.1 n a.2, [rY 5 1 (.slice a.1 n a.2) (List.map cB r)])) := fun w xu xr hu hr hU => by
 obtain ⟨F, rfl⟩ := one_of hr
 obtain ⟨ad, rfl⟩ := (show VX cB 1 w F A r from hU.right.one).addr (i := 0) (by omega)
 exact clone_some ad n c r hn hp hl w xu _ hu hr hU
set_option maxRecDepth 100000 in
set_option maxHeartbeats 400000 in
theorem jsync_0 (gj gd : Nat) (many : Int) (Ap Al : Option Addr) (cp cl : Nat) (ps : List Int) (xs : List RX) (h0 : ps.length = 0) :
  Ct Tryz.prog 110 #[.pointer (some ⟨gj, 0, none⟩)] [rB gj #[.pointer (some ⟨gd, 0, none⟩), .int .i64 many, .slice Ap ps.length cp, .slice Al xs.length cl] 302, rY 3 1 (.slice Ap ps.length cp) (List.map cI ps)] [] (fun (_ : Unit) => True) (fun _ => (.nilIface, [])) := by
 refine Ct.mk fun w T_ H => ?_
 refine enter (N := 26) Tryz.func110 (c := _) rfl (by kernel_rfl) (by kernel_rfl) (e := [(0, .pointer (some ⟨gj, 0, none⟩))]) (by kernel_rfl) ?_
 refine WE.seq ?_
 refine WE.region ?_
 refine WO.run 1 0 [(2, .nilIface)] (by kernel_rfl) (by kernel_rfl) ?_
 refine WO.done (by kernel_rfl) ?_
 refine WQ.keep [0, 2] (e' := [(0, .pointer (some ⟨gj, 0, none⟩)), (2, .nilIface)]) (by kernel_rfl) ?_
 refine WQ.thenN ?_
 refine WE.seq ?_
 refine WE.seq ?_
 refine WE.region ?_
 refine WO.run 3 0 [(5, .pointer (some ⟨gj, 2, none⟩)), (4, .pointer (some ⟨gj, 0, none⟩)), (3, .pointer (some ⟨gj, 0, none⟩))] (by kernel_rfl) (by kernel_rfl) ?_
 refine WO.ld (SQ.S 3 (by kernel_rfl)) 6 (.slice Ap ps.length cp) (by kernel_rfl) (H.cell 0 2) ?_
 refine WO.run 1 4 [(7, .int .i64 (ps.length : Int))] (by kernel_rfl) (by kernel_rfl) ?_
 refine WO.one (SQ.F 5 (by kernel_rfl)) 8 (.bool (decide (((ps.length : Int) : Int) = (0 : Int)))) (by kernel_rfl) ?_
 refine WO.topPT (((ps.length : Int) : Int) = (0 : Int)) (by omega) ?_
 refine WO.done (by kernel_rfl) ?_
 refine WQ.keep [0, 2, 8] (e' := [(0, .pointer (some ⟨gj, 0, none⟩)), (2, .nilIface), (8, .bool true)]) (by kernel_rfl) ?_
 refine WQ.thenN ?_
 refine WE.condT (by kernel_rfl) ?_
 refine WE.seq ?_
 refine WE.region ?_
 refine WO.run 1 0 [(2, .nilIface)] (by kernel_rfl) (by kernel_rfl) ?_
 refine WO.done (by kernel_rfl) ?_
 refine WQ.keep [0, 2] (e' := [(0, .pointer (some ⟨gj, 0, none⟩)), (2, .nilIface)]) (by kernel_rfl) ?_
 refine WQ.thenN ?_
 refine WE.ret ?_
 refine WQ.thenR ?_
 refine WQ.ret (v := .nilIface) (by kernel_rfl) ?_
 exact H.leaf () [] trivial
set_option maxRecDepth 100000 in
set_option maxHeartbeats 400000 in
theorem jsync_n (gj gd : Nat) (many : Int) (Ap Al : Option Addr) (cp cl : Nat) (ps : List Int) (xs : List RX) (hlp : ps.length ≤ 1000000) (hll : xs.length ≤ 1000000) (d : Dk) (hp : 0 < ps.length) (ho : d.Ok) (hj : -9223372036854775808 ≤ g0 ps (ps.length - 1) ∧ g0 ps (ps.length - 1) ≤ 9223372036854775807) :
  Ct Tryz.prog 110 #[.pointer (some ⟨gj, 0, none⟩)] [rB gj #[.pointer (some ⟨gd, 0, none⟩), .int .i64 many, .slice Ap ps.length cp, .slice Al xs.length cl] 302, rY 3 1 (.slice Ap ps.length cp) (List.map cI ps)] [rDk gd d] (fun (_ : Unit) => True) (fun _ => (codeV (sync d (g0 ps (ps.length - 1))).1, [rDk gd (sync d (g0 ps (ps.length - 1))).2])) := by
 refine Ct.mk fun w T_ H => ?_
 refine enter (N := 26) Tryz.func110 (c := _) rfl (by kernel_rfl) (by kernel_rfl) (e := [(0, .pointer (some ⟨gj, 0, none⟩))]) (by kernel_rfl) ?_
 refine WE.seq ?_
 refine WE.region ?_
 refine WO.run 1 0 [(2, .nilIface)] (by kernel_rfl) (by kernel_rfl) ?_
 refine WO.done (by kernel_rfl) ?_
 refine WQ.keep [0, 2] (e' := [(0, .pointer (some ⟨gj, 0, none⟩)), (2, .nilIface)]) (by kernel_rfl) ?_
 refine WQ.thenN ?_
 refine WE.seq ?_
 refine WE.seq ?_
 refine WE.region ?_
 refine WO.run 3 0 [(5, .pointer (some ⟨gj, 2, none⟩)), (4, .pointer (some ⟨gj, 0, none⟩)), (3, .pointer (some ⟨gj, 0, none⟩))] (by kernel_rfl) (by kernel_rfl) ?_
 refine WO.ld (SQ.S 3 (by kernel_rfl)) 6 (.slice Ap ps.length cp) (by kernel_rfl) (H.cell 1 2) ?_
 refine WO.run 1 4 [(7, .int .i64 (ps.length : Int))] (by kernel_rfl) (by kernel_rfl) ?_
 refine WO.one (SQ.F 5 (by kernel_rfl)) 8 (.bool (decide (((ps.length : Int) : Int) = (0 : Int)))) (by kernel_rfl) ?_
 refine WO.topPF (((ps.length : Int) : Int) = (0 : Int)) (by omega) ?_
 refine WO.done (by kernel_rfl) ?_
 refine WQ.keep [0, 2, 8] (e' := [(0, .pointer (some ⟨gj, 0, none⟩)), (2, .nilIface), (8, .bool false)]) (by kernel_rfl) ?_
 refine WQ.thenN ?_
 refine WE.condF (by kernel_rfl) ?_
 refine WE.skip ?_
 refine WQ.thenN ?_
 refine WE.seq ?_
 refine WE.draw [.free, .free, .free, .still, .free, .free, .free, .still, .free, .free, .free, .still, .free, .free, .free, .still, .eff, .free] Same sameR (by kernel_rfl) 18 (Array.replicate 18 false) (by kernel_rfl) rfl ?_
 intro w F_ _
 replace H := H.step0 F_
 refine WO.one (SA.F sameR sameT _ 0 _ (by kernel_rfl)) 9 (.pointer (some ⟨gj, 0, none⟩)) (by kernel_rfl) ?_
 refine WO.one (SA.F sameR sameT _ 1 _ (by kernel_rfl)) 10 (.pointer (some ⟨gj, 0, none⟩)) (by kernel_rfl) ?_
 refine WO.one (SA.F sameR sameT _ 2 _ (by kernel_rfl)) 11 (.pointer (some ⟨gj, 0, none⟩)) (by kernel_rfl) ?_
 refine WO.ld (SA.S sameR sameT _ 3 _ (by kernel_rfl)) 12 (.pointer (some ⟨gd, 0, none⟩)) (by kernel_rfl) (H.cell 1 0) ?_
 refine WO.one (SA.F sameR sameT _ 4 _ (by kernel_rfl)) 13 (.pointer (some ⟨gj, 0, none⟩)) (by kernel_rfl) ?_
 refine WO.one (SA.F sameR sameT _ 5 _ (by kernel_rfl)) 14 (.pointer (some ⟨gj, 0, none⟩)) (by kernel_rfl) ?_
 refine WO.one (SA.F sameR sameT _ 6 _ (by kernel_rfl)) 15 (.pointer (some ⟨gj, 2, none⟩)) (by kernel_rfl) ?_
 refine WO.ld (SA.S sameR sameT _ 7 _ (by kernel_rfl)) 16 (.slice Ap ps.length cp) (by kernel_rfl) (H.cell 1 2) ?_
 refine WO.one (SA.F sameR sameT _ 8 _ (by kernel_rfl)) 17 (.pointer (some ⟨gj, 0, none⟩)) (by kernel_rfl) ?_
 refine WO.one (SA.F sameR sameT _ 9 _ (by kernel_rfl)) 18 (.pointer (some ⟨gj, 0, none⟩)) (by kernel_rfl) ?_
 refine WO.one (SA.F sameR sameT _ 10 _ (by kernel_rfl)) 19 (.pointer (some ⟨gj, 2, none⟩)) (by kernel_rfl) ?_
 refine WO.ld (SA.S sameR sameT _ 11 _ (by kernel_rfl)) 20 (.slice Ap ps.length cp) (by kernel_rfl) (H.cell 1 2) ?_
 refine WO.one (SA.F sameR sameT _ 12 _ (by kernel_rfl)) 21 (.int .i64 (ps.length : Int)) (by kernel_rfl) ?_
 refine WO.one (SA.F sameR sameT _ 13 _ (by kernel_rfl)) 22 (.int .i64 (IntKind.i64.wrap ((ps.length : Int) - 1))) (by kernel_rfl) ?_
 refine WO.top (v' := .int .i64 ((ps.length - 1 : Nat) : Int)) (wrap_i64 (by omega) (by omega)) ?_
 obtain ⟨ad1, hA2⟩ := H.yaddr 2 cI 3 1 Ap ps.length cp ps (k := ps.length - 1) (by have := (rfl : ps.length = _); omega)
 refine WO.ixo (SA.F sameR sameT _ 14 _ (by kernel_rfl)) 23 ps.length 1 (ps.length - 1) ((ps.length - 1 : Nat) : Int) hA2 (by kernel_rfl) rfl (by omega) ?_
 refine WO.ld (SA.S sameR sameT _ 15 _ (by kernel_rfl)) 24 (.int .i64 (g0 ps (ps.length - 1))) (by kernel_rfl) (H.ycell0 2 cI 3 1 Ap ps.length cp ps hA2 (g0_some ps (ps.length - 1) (by have := (rfl : ps.length = _); omega))) ?_
 refine Gc (SA.E _ 16 _ (by kernel_rfl) rfl) H 25 (dsync_ct gd d (g0 ps (ps.length - 1)) ho hj) [0] [] (fun _ => trivial) ?_
 rintro ⟨⟩ w _ H
 refine WO.one (SA.F sameR sameT _ 17 _ (by kernel_rfl)) 2 (codeV (sync d (g0 ps (ps.length - 1))).1) (by kernel_rfl) ?_
 refine WO.doneA (by kernel_rfl) ?_
 refine WQ.keep [2] (e' := [(2, codeV (sync d (g0 ps (ps.length - 1))).1)]) (by kernel_rfl) ?_
 refine WQ.thenN ?_
 refine WE.ret ?_
 refine WQ.ret (v := codeV (sync d (g0 ps (ps.length - 1))).1) (by kernel_rfl) ?_
 exact H.leaf () [0] trivial
set_option maxRecDepth 100000 in
set_option maxHeartbeats 400000 in
theorem jrec_no (gj gd : Nat) (many : Int) (Ap Al : Option Addr) (cp cl : Nat) (ps : List Int) (xs : List RX) (hlp : ps.length ≤ 1000000) (hll : xs.length ≤ 1000000) (hf : 0 ≤ firstN ps ∧ firstN ps ≤ 1000000) (n : Int) (hn : n < firstN ps ∨ firstN ps + (xs.length : Int) ≤ n) :
  Ct Tryz.prog 179 #[.pointer (some ⟨gj, 0, none⟩), .int .i64 n] [rB gj #[.pointer (some ⟨gd, 0, none⟩), .int .i64 many, .slice Ap ps.length cp, .slice Al xs.length cl] 302, rY 3 1 (.slice Ap ps.length cp) (List.map cI ps)] [] (fun (_ : Unit) => True) (fun _ => (.tuple #[.slice none 0 0, .iface 88 (.int .i64 4)], [])) := by
 refine Ct.mk fun w T_ H => ?_
 refine enter (N := 28) Tryz.func179 (c := _) rfl (by kernel_rfl) (by kernel_rfl) (e := [(0, .pointer (some ⟨gj, 0, none⟩)), (1, .int .i64 n)]) (by kernel_rfl) ?_
 refine WE.seq ?_
 refine WE.region ?_
 refine WO.run 2 0 [(5, .nilIface), (4, .slice none 0 0)] (by kernel_rfl) (by kernel_rfl) ?_
 refine WO.done (by kernel_rfl) ?_
 refine WQ.keep [0, 1, 4, 5] (e' := [(0, .pointer (some ⟨gj, 0, none⟩)), (1, .int .i64 n), (4, .slice none 0 0), (5, .nilIface)]) (by kernel_rfl) ?_
 refine WQ.thenN ?_
 refine WE.seq ?_
 refine WE.seq ?_
 refine WE.region ?_
 refine WO.run 2 0 [(7, .pointer (some ⟨gj, 0, none⟩)), (6, .int .i64 n)] (by kernel_rfl) (by kernel_rfl) ?_
 refine Sc H 8 (first_c gj gd many Ap Al cp cl ps xs hlp hll) [] [0, 0] ?_
 rintro ⟨⟩ w _ H
 refine WO.one (SQ.F 3 (by kernel_rfl)) 9 (.bool (decide ((n : Int) < (firstN ps)))) (by kernel_rfl) ?_
 refine WO.topP ((n : Int) < (firstN ps)) ?_ ?_
 ·
  intro h1
  refine WO.run 6 4 [(15, .bool true), (14, undef), (13, undef), (12, undef), (11, undef), (10, .bool true)] (by kernel_rfl) (by kernel_rfl) ?_
  refine WO.done (by kernel_rfl) ?_
  refine WQ.keep [0, 1, 4, 5, 15] (e' := [(0, .pointer (some ⟨gj, 0, none⟩)), (1, .int .i64 n), (4, .slice none 0 0), (5, .nilIface), (15, .bool true)]) (by kernel_rfl) ?_
  refine WQ.thenN ?_
  refine WE.condT (by kernel_rfl) ?_
  refine WE.seq ?_
  refine WE.region ?_
  refine WO.run 3 0 [(5, .iface 88 (.int .i64 4)), (4, .slice none 0 0), (16, .iface 88 (.int .i64 4))] (by kernel_rfl) (by kernel_rfl) ?_
  refine WO.done (by kernel_rfl) ?_
  refine WQ.keep [0, 1, 4, 5] (e' := [(0, .pointer (some ⟨gj, 0, none⟩)), (1, .int .i64 n), (4, .slice none 0 0), (5, .iface 88 (.int .i64 4))]) (by kernel_rfl) ?_
  refine WQ.thenN ?_
  refine WE.ret ?_
  refine WQ.thenR ?_
  refine WQ.ret (v := .tuple #[.slice none 0 0, .iface 88 (.int .i64 4)]) (by kernel_rfl) ?_
  exact H.leaf () [] trivial
 intro h1
 refine WO.run 3 4 [(12, .pointer (some ⟨gj, 0, none⟩)), (11, .int .i64 n), (10, .bool false)] (by kernel_rfl) (by kernel_rfl) ?_
 refine Sc H 13 (next_c gj gd many Ap Al cp cl ps xs hlp hll hf) [] [0, 0] ?_
 rintro ⟨⟩ w _ H
 refine WO.one (SQ.F 8 (by kernel_rfl)) 14 (.bool (decide ((n : Int) ≥ (firstN ps + (xs.length : Int))))) (by kernel_rfl) ?_
 refine WO.topPT ((n : Int) ≥ (firstN ps + (xs.length : Int))) (by omega) ?_
 refine WO.run 1 9 [(15, .bool true)] (by kernel_rfl) (by kernel_rfl) ?_
 refine WO.done (by kernel_rfl) ?_
 refine WQ.keep [0, 1, 4, 5, 15] (e' := [(0, .pointer (some ⟨gj, 0, none⟩)), (1, .int .i64 n), (4, .slice none 0 0), (5, .nilIface), (15, .bool true)]) (by kernel_rfl) ?_
 refine WQ.thenN ?_
 refine WE.condT (by kernel_rfl) ?_
 refine WE.seq ?_
 refine WE.region ?_
 refine WO.run 3 0 [(5, .iface 88 (.int .i64 4)), (4, .slice none 0 0), (16, .iface 88 (.int .i64 4))] (by kernel_rfl) (by kernel_rfl) ?_
 refine WO.done (by kernel_rfl) ?_
 refine WQ.keep [0, 1, 4, 5] (e' := [(0, .pointer (some ⟨gj, 0, none⟩)), (1, .int .i64 n), (4, .slice none 0 0), (5, .iface 88 (.int .i64 4))]) (by kernel_rfl) ?_
 refine WQ.thenN ?_
 refine WE.ret ?_
 refine WQ.thenR ?_
 refine WQ.ret (v := .tuple #[.slice none 0 0, .iface 88 (.int .i64 4)]) (by kernel_rfl) ?_
 exact H.leaf () [] trivial
set_option maxRecDepth 100000 in
set_option maxHeartbeats 400000 in
theorem jrec_at (gj gd : Nat) (many : Int) (Ap Al : Option Addr) (cp cl : Nat) (ps : List Int) (xs : List RX) (rs : List (List UInt8)) (hlp : ps.length ≤ 1000000) (hll : xs.length ≤ 1000000) (hf : 0 ≤ firstN ps ∧ firstN ps ≤ 1000000) (n : Int) (k : Nat) (r : List UInt8) (hn : n = firstN ps + (k : Int)) (hk : k < xs.length) (hxk : xs[k]? = some (gR xs k)) (hxn : (gR xs k).2.1 = r.length) (hrk : rs[k]? = some r) (hpos : 0 < r.length) (hrl : r.length ≤ 1000000) :
  Ct Tryz.prog 179 #[.pointer (some ⟨gj, 0, none⟩), .int .i64 n] [rB gj #[.pointer (some ⟨gd, 0, none⟩), .int .i64 many, .slice Ap ps.length cp, .slice Al xs.length cl] 302, rY 3 1 (.slice Ap ps.length cp) (List.map cI ps), rY 69 1 (.slice Al xs.length cl) (List.map cR xs), rE xs rs] [] (fun (a : Option Addr × Nat) => r.length ≤ a.2) (fun a => (.tuple #[.slice a.1 r.length a.2, .nilIface], [rY 5 1 (.slice a.1 r.length a.2) (List.map cB r)])) := by
 refine Ct.mk fun w T_ H => ?_
 refine enter (N := 28) Tryz.func179 (c := _) rfl (by kernel_rfl) (by kernel_rfl) (e := [(0, .pointer (some ⟨gj, 0, none⟩)), (1, .int .i64 n)]) (by kernel_rfl) ?_
 refine WE.seq ?_
 refine WE.region ?_
 refine WO.run 2 0 [(5, .nilIface), (4, .slice none 0 0)] (by kernel_rfl) (by kernel_rfl) ?_
 refine WO.done (by kernel_rfl) ?_
 refine WQ.keep [0, 1, 4, 5] (e' := [(0, .pointer (some ⟨gj, 0, none⟩)), (1, .int .i64 n), (4, .slice none 0 0), (5, .nilIface)]) (by kernel_rfl) ?_
 refine WQ.thenN ?_
 refine WE.seq ?_
 refine WE.seq ?_
 refine WE.region ?_
 refine WO.run 2 0 [(7, .pointer (some ⟨gj, 0, none⟩)), (6, .int .i64 n)] (by kernel_rfl) (by kernel_rfl) ?_
 refine Sc H 8 (first_c gj gd many Ap Al cp cl ps xs hlp hll) [] [0, 0] ?_
 rintro ⟨⟩ w _ H
 refine WO.one (SQ.F 3 (by kernel_rfl)) 9 (.bool (decide ((n : Int) < (firstN ps)))) (by kernel_rfl) ?_
 refine WO.topPF ((n : Int) < (firstN ps)) (by omega) ?_
 refine WO.run 3 4 [(12, .pointer (some ⟨gj, 0, none⟩)), (11, .int .i64 n), (10, .bool false)] (by kernel_rfl) (by kernel_rfl) ?_
 refine Sc H 13 (next_c gj gd many Ap Al cp cl ps xs hlp hll hf) [] [0, 0] ?_
 rintro ⟨⟩ w _ H
 refine WO.one (SQ.F 8 (by kernel_rfl)) 14 (.bool (decide ((n : Int) ≥ (firstN ps + (xs.length : Int))))) (by kernel_rfl) ?_
 refine WO.topPF ((n : Int) ≥ (firstN ps + (xs.length : Int))) (by omega) ?_
 refine WO.run 1 9 [(15, .bool false)] (by kernel_rfl) (by kernel_rfl) ?_
 refine WO.done (by kernel_rfl) ?_
 refine WQ.keep [0, 1, 4, 5, 15] (e' := [(0, .pointer (some ⟨gj, 0, none⟩)), (1, .int .i64 n), (4, .slice none 0 0), (5, .nilIface), (15, .bool false)]) (by kernel_rfl) ?_
 refine WQ.thenN ?_
 refine WE.condF (by kernel_rfl) ?_
 refine WE.skip ?_
 refine WQ.thenN ?_
 refine WE.seq ?_
 refine WE.draw [.free, .free, .free, .still, .free, .free, .effR, .free, .free, .eff, .eff, .free, .free] (Kp [gj]) (kpR _) (by kernel_rfl) 13 (Array.replicate 13 false) (by kernel_rfl) rfl ?_
 intro w F_ _
 replace H := H.step0 F_
 refine WO.one (SA.F (kpR _) (kpT _) _ 0 _ (by kernel_rfl)) 17 (.pointer (some ⟨gj, 0, none⟩)) (by kernel_rfl) ?_
 refine WO.one (SA.F (kpR _) (kpT _) _ 1 _ (by kernel_rfl)) 18 (.pointer (some ⟨gj, 0, none⟩)) (by kernel_rfl) ?_
 refine WO.one (SA.F (kpR _) (kpT _) _ 2 _ (by kernel_rfl)) 19 (.pointer (some ⟨gj, 3, none⟩)) (by kernel_rfl) ?_
 refine WO.ld (SA.S (kpR _) (kpT _) _ 3 _ (by kernel_rfl)) 20 (.slice Al xs.length cl) (by kernel_rfl) (fun _ k_ => ((H.blk 0).kp k_ (by show gj ∈ ([gj] : List Nat); simp)).at 3 (by kernel_rfl)) ?_
 refine WO.one (SA.F (kpR _) (kpT _) _ 4 _ (by kernel_rfl)) 21 (.int .i64 n) (by kernel_rfl) ?_
 refine WO.one (SA.F (kpR _) (kpT _) _ 5 _ (by kernel_rfl)) 22 (.pointer (some ⟨gj, 0, none⟩)) (by kernel_rfl) ?_
 refine GcK (SA.ER _ 6 _ (by kernel_rfl) rfl) H 23 (first_c gj gd many Ap Al cp cl ps xs hlp hll) [] [0, 0] [0] ?_
 rintro ⟨⟩ w _ H
 refine WO.one (SA.F (kpR _) (kpT _) _ 7 _ (by kernel_rfl)) 24 (.int .i64 (IntKind.i64.wrap (n - (firstN ps)))) (by kernel_rfl) ?_
 refine WO.top (v' := .int .i64 (k : Int)) (wrap_i64 (by omega) (by omega)) ?_
 obtain ⟨ad1, hA2⟩ := H.yaddr 2 cR 69 1 Al xs.length cl xs (k := k) (by have := (rfl : xs.length = _); omega)
 refine WO.ixo (SA.F (kpR _) (kpT _) _ 8 _ (by kernel_rfl)) 25 xs.length 1 k (k : Int) hA2 (by kernel_rfl) rfl (by omega) ?_
 refine WO.ldE (SA.E _ 9 _ (by kernel_rfl) rfl) 26 (.slice ((gR xs k).1) ((gR xs k).2.1) ((gR xs k).2.2)) (fun _ _ => trivial) (by kernel_rfl) ((H.ycell0 2 cR 69 1 Al xs.length cl xs hA2 (gR_some xs k (by have := (rfl : xs.length = _); omega))) _ (sameR _)) ?_
 rw [hxn]
 refine Gc (SA.E _ 10 _ (by kernel_rfl) rfl) H 27 (clone_c (gR xs k).1 r.length (gR xs k).2.2 r rfl hpos hrl |>.eat hxk hrk) [] [3] (fun _ => trivial) ?_
 rintro ⟨A2, c2⟩ w hc2 H
 refine WO.one (SA.F (kpR _) (kpT _) _ 11 _ (by kernel_rfl)) 4 (.slice A2 r.length c2) (by kernel_rfl) ?_
 refine WO.one (SA.F (kpR _) (kpT _) _ 12 _ (by kernel_rfl)) 5 (.nilIface) (by kernel_rfl) ?_
 refine WO.doneA (by kernel_rfl) ?_
 refine WQ.keep [4, 5] (e' := [(4, .slice A2 r.length c2), (5, .nilIface)]) (by kernel_rfl) ?_
 refine WQ.thenN ?_
 refine WE.ret ?_
 refine WQ.ret (v := .tuple #[.slice A2 r.length c2, .nilIface]) (by kernel_rfl) ?_
 exact H.leaf (A2, c2) [0] hc2
end Go.Proofs.YtjfgmdkdcnfdoaaGreatDoor.Jrn
end
