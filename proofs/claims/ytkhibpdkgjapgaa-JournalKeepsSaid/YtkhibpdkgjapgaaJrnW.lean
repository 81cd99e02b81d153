/- Layer 9's walks: First, Next, records, and what is kept of records. -/
import Derived.Test.YtkhibpdkgjapgaaDiskL
import Derived.Test.YtkhibpdkgjapgaaJrnPure
import Derived.Test.YtkhibpdkgjapgaaWireT
set_option linter.unusedVariables false
set_option linter.unusedSimpArgs false
namespace Go.Proofs.Ytkhibpdkgjapgaa.Jrn
open Go Go.RowKit Go.Proofs.Ytkhibpdkgjapgaa Go.Proofs.Ytkhibpdkgjapgaa.Eng Go.Proofs.Ytkhibpdkgjapgaa.Disk Go.Proofs.YtkhibpdkgjapgaaW.PrintWords
open Go.Proofs.Ytkhibpdkgjapgaa.Wire (encT rText)
/-- a slice of bytes among others: its address, its length, its capacity -/
abbrev RX := Option Addr × Nat × Nat
def cR (x : RX) : List Value := [.slice x.1 x.2.1 x.2.2]
def gR (q : List RX) (i : Nat) : RX := q.getD i (none, 0, 0)
theorem gR_some (q : List RX) (i : Nat) (h : i < q.length) : q[i]? = some (gR q i) := by
  unfold gR
  rw [List.getD_eq_getElem?_getD, List.getElem?_eq_getElem h]
  rfl
theorem map_gR (q : List RX) (k : Nat) (h : k < q.length) : (q.map cR).getD k [] = cR (gR q k) := by
  rw [List.getD_eq_getElem?_getD, List.getElem?_map, gR_some q k h]
  rfl
theorem cR_len (l : List RX) : ∀ x ∈ l.map cR, x.length = 1 := by
  intro x hx
  obtain ⟨b, _, rfl⟩ := List.mem_map.1 hx
  rfl
theorem cR_one (l : List RX) : ∀ x ∈ l.map cR, x.all oneB = true := by
  intro x hx
  obtain ⟨b, _, rfl⟩ := List.mem_map.1 hx
  rfl
theorem et_r : ET Try.prog 56 22 1 24 := by
  obtain ⟨i, h1, h2, h3, h4⟩ := info_parts (P := Try.prog) (e := 22) (z := .slice none 0 0) (size := 1) (bytes := 24) (by kernel_rfl)
  exact ⟨by kernel_rfl, ⟨i, _, h1, h2, h3, h4, rfl⟩, by decide⟩
inductive F2 {α β : Type} (P : α → β → Prop) : List α → List β → Prop
  | nil : F2 P [] []
  | cons {a : α} {b : β} {xs : List α} {ys : List β} : P a b → F2 P xs ys → F2 P (a :: xs) (b :: ys)
/-- the records' bytes, each in memory of its own -/
def EV (w : World) (FE : List Nat) (xs : List RX) (rs : List (List UInt8)) : Prop := (∀ y ∈ FE, y < w.heap.size) ∧ F2 (fun x r => x.2.1 = r.length ∧ r.length ≤ x.2.2 ∧ ∃ F, (∀ y ∈ F, y ∈ FE) ∧ VX cB 1 w F x.1 r) xs rs
theorem forall2_imp {α β : Type} {P Q : α → β → Prop} (h : ∀ a b, P a b → Q a b) : ∀ {xs : List α} {ys : List β}, F2 P xs ys → F2 Q xs ys
  | _, _, .nil => .nil
  | _, _, .cons h1 h2 => .cons (h _ _ h1) (forall2_imp h h2)
theorem forall2_app {α β : Type} {P : α → β → Prop} : ∀ {xs xs2 : List α} {ys ys2 : List β}, F2 P xs ys → F2 P xs2 ys2 → F2 P (xs ++ xs2) (ys ++ ys2)
  | _, _, _, _, .nil, h => h
  | _, _, _, _, .cons h1 h2, h => .cons h1 (forall2_app h2 h)
theorem forall2_len {α β : Type} {P : α → β → Prop} : ∀ {xs : List α} {ys : List β}, F2 P xs ys → xs.length = ys.length
  | _, _, .nil => rfl
  | _, _, .cons _ h2 => by simp [forall2_len h2]
theorem forall2_at {α β : Type} {P : α → β → Prop} : ∀ {xs : List α} {ys : List β} {i : Nat} {a : α} {b : β}, F2 P xs ys → xs[i]? = some a → ys[i]? = some b → P a b
  | _, _, 0, _, _, .cons h1 _, h2, h3 => by simp at h2 h3; subst h2 h3; exact h1
  | _, _, i + 1, _, _, .cons _ h, h2, h3 => by simp at h2 h3; exact forall2_at h h2 h3
theorem EV.nil (w : World) : EV w [] [] [] := ⟨by simp, .nil⟩
theorem EV.lt {w : World} {FE : List Nat} {xs : List RX} {rs : List (List UInt8)} (h : EV w FE xs rs) : ∀ y ∈ FE, y < w.heap.size := h.1
theorem EV.len {w : World} {FE : List Nat} {xs : List RX} {rs : List (List UInt8)} (h : EV w FE xs rs) : xs.length = rs.length := forall2_len h.2
theorem EV.keep {w w1 : World} {S FE : List Nat} {xs : List RX} {rs : List (List UInt8)} (h : EV w FE xs rs) (k : Fr S w w1) (hn : ∀ y ∈ FE, y ∉ S) : EV w1 FE xs rs :=
  ⟨fun y hy => Nat.lt_of_lt_of_le (h.1 y hy) k.size, forall2_imp (fun x r hh => by
    obtain ⟨h1, h2, F, h3, h4⟩ := hh
    exact ⟨h1, h2, F, h3, h4.keep k fun y hy => hn y (h3 y hy)⟩) h.2⟩
theorem EV.mono {w : World} {FE FE2 : List Nat} {xs : List RX} {rs : List (List UInt8)} (h : EV w FE xs rs) (hs : ∀ y ∈ FE, y ∈ FE2) (hl : ∀ y ∈ FE2, y < w.heap.size) : EV w FE2 xs rs :=
  ⟨hl, forall2_imp (fun x r hh => by
    obtain ⟨h1, h2, F, h3, h4⟩ := hh
    exact ⟨h1, h2, F, fun y hy => hs y (h3 y hy), h4⟩) h.2⟩
theorem EV.app {w : World} {FE FE2 : List Nat} {xs xs2 : List RX} {rs rs2 : List (List UInt8)} (h : EV w FE xs rs) (h2 : EV w FE2 xs2 rs2) : EV w (FE ++ FE2) (xs ++ xs2) (rs ++ rs2) := by
  have hl : ∀ y ∈ FE ++ FE2, y < w.heap.size := fun y hy => (List.mem_append.1 hy).elim (h.1 y) (h2.1 y)
  exact ⟨hl, forall2_app (h.mono (fun y hy => List.mem_append_left _ hy) hl).2 (h2.mono (fun y hy => List.mem_append_right _ hy) hl).2⟩
theorem EV.push {w : World} {FE F : List Nat} {xs : List RX} {rs : List (List UInt8)} {A : Option Addr} {r : List UInt8} {n c : Nat} (h : EV w FE xs rs) (hv : VX cB 1 w F A r) (hn : n = r.length) (hc : r.length ≤ c) : EV w (FE ++ F) (xs ++ [(A, n, c)]) (rs ++ [r]) :=
  h.app ⟨hv.lt, .cons ⟨hn, hc, F, fun y hy => hy, hv⟩ .nil⟩
def firstN (ps : List Int) : Int := ps.headD 0
theorem first_0 {ps : List Int} (h : ps.length = 0) : firstN ps = 0 := by
  obtain rfl := List.length_eq_zero_iff.1 h
  rfl
theorem first_g {ps : List Int} (h : 0 < ps.length) : firstN ps = g0 ps 0 := by
  cases ps with
  | nil => simp at h
  | cons a r => rfl
theorem ix_yes {ps : List Int} {n : Int} {i : Nat} (h : n = g0 ps i) (hi : i < ps.length) : decide ((i : Int) ≥ 0) = ps.contains n := by
  have h1 : ps.contains n = true := by
    rw [List.contains_iff_mem, h]
    unfold g0
    rw [List.getD_eq_getElem?_getD, List.getElem?_eq_getElem hi]
    exact List.getElem_mem hi
  rw [h1]
  simp
theorem ix_no {ps : List Int} {n : Int} {m : Nat} (hm : ps.length = m) (h : ∀ j, j < m → g0 ps j ≠ n) : decide ((-1 : Int) ≥ 0) = ps.contains n := by
  have h1 : ps.contains n = false := by
    rw [Bool.eq_false_iff]
    intro h2
    obtain ⟨j, hj, h3⟩ := List.getElem_of_mem (List.contains_iff_mem.1 h2)
    refine h j (by omega) ?_
    unfold g0
    rw [List.getD_eq_getElem?_getD, List.getElem?_eq_getElem hj]
    exact h3
  rw [h1]
  rfl
theorem rest_eq {l d r : List UInt8} {n : Nat} (h : l = d ++ r) (hn : l.length = n) : (l.drop d.length).take (n - d.length) = r := by
  subst h
  rw [List.length_append] at hn
  rw [List.drop_left]
  exact List.take_of_length_le (by omega)
set_option maxRecDepth 100000 in
set_option maxHeartbeats 400000 in
theorem first_j (gj gd : Nat) (many : Int) (Ap Al : Option Addr) (np cp nl cl : Nat) (ps : List Int) (FP : List Nat) (w : World) (HJ : Blk w gj #[.pointer (some ⟨gd, 0, none⟩), .int .i64 many, .slice Ap np cp, .slice Al nl cl] 80) (HP : VX cI 1 w FP Ap ps) (hnp : ps.length = np) (hgP : gj ∉ FP) (hlp : np ≤ 1000000) (hll : nl ≤ 1000000) :
    Calls Try.prog 30 #[.pointer (some ⟨gj, 0, none⟩)] w fun e w' => e = .returned (.int .i64 (firstN ps)) ∧ Fr [] w w' := by
  have HA := Fr.refl [] w
  refine enter (N := 15) Try.func30 (c := _) rfl (by kernel_rfl) (by kernel_rfl) (e := [(0, .pointer (some ⟨gj, 0, none⟩))]) (by kernel_rfl) ?_
  refine WE.seq ?_
  refine WE.region ?_
  refine WO.run 1 0 [(2, .int .i64 0)] (by kernel_rfl) (by kernel_rfl) ?_
  refine WO.done (by kernel_rfl) ?_
  refine WQ.keep [0, 2] (e' := [(0, .pointer (some ⟨gj, 0, none⟩)), (2, .int .i64 0)]) (by kernel_rfl) ?_
  refine WQ.thenN ?_
  refine WE.seq ?_
  refine WE.seq ?_
  refine WE.region ?_
  refine WO.run 3 0 [(5, .pointer (some ⟨gj, 2, none⟩)), (4, .pointer (some ⟨gj, 0, none⟩)), (3, .pointer (some ⟨gj, 0, none⟩))] (by kernel_rfl) (by kernel_rfl) ?_
  refine WO.ld (SQ.S 3 (by kernel_rfl)) 6 (.slice Ap np cp) (by kernel_rfl) (same (HJ.at 2 (by kernel_rfl))) ?_
  refine WO.run 1 4 [(7, .int .i64 (np : Int))] (by kernel_rfl) (by kernel_rfl) ?_
  refine WO.one (SQ.F 5 (by kernel_rfl)) 8 (.bool (decide (((np : Int) : Int) = (0 : Int)))) (by kernel_rfl) ?_
  refine WO.topP (((np : Int) : Int) = (0 : Int)) ?_ ?_
  · intro h1
    refine WO.done (by kernel_rfl) ?_
    refine WQ.keep [0, 2, 8] (e' := [(0, .pointer (some ⟨gj, 0, none⟩)), (2, .int .i64 0), (8, .bool true)]) (by kernel_rfl) ?_
    refine WQ.thenN ?_
    refine WE.condT (by kernel_rfl) ?_
    refine WE.seq ?_
    refine WE.region ?_
    refine WO.run 1 0 [(2, .int .i64 0)] (by kernel_rfl) (by kernel_rfl) ?_
    refine WO.done (by kernel_rfl) ?_
    refine WQ.keep [0, 2, 8] (e' := [(0, .pointer (some ⟨gj, 0, none⟩)), (2, .int .i64 0), (8, .bool true)]) (by kernel_rfl) ?_
    refine WQ.thenN ?_
    refine WE.ret ?_
    refine WQ.thenR ?_
    refine WQ.ret (v := .int .i64 0) (by kernel_rfl) ?_
    exact ⟨by rw [first_0 (by omega)], HA⟩
  intro h1
  refine WO.done (by kernel_rfl) ?_
  refine WQ.keep [0, 2, 8] (e' := [(0, .pointer (some ⟨gj, 0, none⟩)), (2, .int .i64 0), (8, .bool false)]) (by kernel_rfl) ?_
  refine WQ.thenN ?_
  refine WE.condF (by kernel_rfl) ?_
  refine WE.skip ?_
  refine WQ.thenN ?_
  refine WE.seq ?_
  refine WE.region ?_
  refine WO.run 3 0 [(11, .pointer (some ⟨gj, 2, none⟩)), (10, .pointer (some ⟨gj, 0, none⟩)), (9, .pointer (some ⟨gj, 0, none⟩))] (by kernel_rfl) (by kernel_rfl) ?_
  refine WO.ld (SQ.S 3 (by kernel_rfl)) 12 (.slice Ap np cp) (by kernel_rfl) (same (HJ.at 2 (by kernel_rfl))) ?_
  obtain ⟨ad2, hA3⟩ := HP.addr (i := 0) (by have := hnp; omega)
  refine WO.ixo (SQ.F 4 (by kernel_rfl)) 13 np 1 0 0 hA3 (by kernel_rfl) rfl (by omega) ?_
  refine WO.ld (SQ.S 5 (by kernel_rfl)) 14 (.int .i64 (g0 ps 0)) (by kernel_rfl) (same (HP.at0 hA3 (g0_some ps 0 (by have := hnp; omega)) (by kernel_rfl))) ?_
  refine WO.run 1 6 [(2, .int .i64 (g0 ps 0))] (by kernel_rfl) (by kernel_rfl) ?_
  refine WO.done (by kernel_rfl) ?_
  refine WQ.keep [0, 2, 8] (e' := [(0, .pointer (some ⟨gj, 0, none⟩)), (2, .int .i64 (g0 ps 0)), (8, .bool false)]) (by kernel_rfl) ?_
  refine WQ.thenN ?_
  refine WE.ret ?_
  refine WQ.ret (v := .int .i64 (g0 ps 0)) (by kernel_rfl) ?_
  exact ⟨by rw [first_g (by omega)], HA⟩

set_option maxRecDepth 100000 in
set_option maxHeartbeats 400000 in
theorem next_j (gj gd : Nat) (many : Int) (Ap Al : Option Addr) (np cp nl cl : Nat) (ps : List Int) (FP : List Nat) (w : World) (HJ : Blk w gj #[.pointer (some ⟨gd, 0, none⟩), .int .i64 many, .slice Ap np cp, .slice Al nl cl] 80) (HP : VX cI 1 w FP Ap ps) (hnp : ps.length = np) (hgP : gj ∉ FP) (hlp : np ≤ 1000000) (hll : nl ≤ 1000000) (hf : 0 ≤ firstN ps ∧ firstN ps ≤ 1000000) :
    Calls Try.prog 31 #[.pointer (some ⟨gj, 0, none⟩)] w fun e w' => e = .returned (.int .i64 (firstN ps + (nl : Int))) ∧ Fr [] w w' := by
  have HA := Fr.refl [] w
  refine enter (N := 11) Try.func31 (c := _) rfl (by kernel_rfl) (by kernel_rfl) (e := [(0, .pointer (some ⟨gj, 0, none⟩))]) (by kernel_rfl) ?_
  refine WE.seq ?_
  refine WE.region ?_
  refine WO.run 1 0 [(2, .int .i64 0)] (by kernel_rfl) (by kernel_rfl) ?_
  refine WO.done (by kernel_rfl) ?_
  refine WQ.keep [0, 2] (e' := [(0, .pointer (some ⟨gj, 0, none⟩)), (2, .int .i64 0)]) (by kernel_rfl) ?_
  refine WQ.thenN ?_
  refine WE.seq ?_
  have hz1 : (World.heap w).size ≤ (World.heap w).size := Nat.le_refl _
  have ltz_gj := HJ.lt
  have ltz_FP := HP.lt
  refine WE.draw [.free, .effR, .free, .free, .free, .still, .free, .free, .free] (FrB (World.heap w).size) (frBR _) (by kernel_rfl) 9 (Array.replicate 9 false) (by kernel_rfl) rfl ?_
  intro w2 F3 _
  have HJ := Blk.keep HJ F3 (nin0 _)
  have HP := HP.keep F3 (fun _ _ => nin0 _)
  have hz1 := Nat.le_trans hz1 F3.size
  have HA := Fr.step0 HA F3
  refine WO.one (SA.F (frBR _) (frBT _) _ 0 _ (by kernel_rfl)) 3 (.pointer (some ⟨gj, 0, none⟩)) (by kernel_rfl) ?_
  refine WO.one (SA.F (frBR _) (frBT _) _ 2 _ (by kernel_rfl)) 5 (.pointer (some ⟨gj, 0, none⟩)) (by kernel_rfl) ?_
  refine WO.one (SA.F (frBR _) (frBT _) _ 3 _ (by kernel_rfl)) 6 (.pointer (some ⟨gj, 0, none⟩)) (by kernel_rfl) ?_
  refine WO.one (SA.F (frBR _) (frBT _) _ 4 _ (by kernel_rfl)) 7 (.pointer (some ⟨gj, 3, none⟩)) (by kernel_rfl) ?_
  refine WO.ld (SA.S (frBR _) (frBT _) _ 5 _ (by kernel_rfl)) 8 (.slice Al nl cl) (by kernel_rfl) (fun _ k => (HJ.keepB k ltz_gj).at 3 (by kernel_rfl)) ?_
  refine WO.one (SA.F (frBR _) (frBT _) _ 6 _ (by kernel_rfl)) 9 (.int .i64 (nl : Int)) (by kernel_rfl) ?_
  refine WO.call (SA.ER _ 1 _ (by kernel_rfl) rfl) 4 (by kernel_rfl) (first_j gj gd many Ap Al np cp nl cl ps FP _ HJ HP hnp hgP hlp hll) ?_
  rintro _ w4 ⟨rfl, F5⟩
  refine ⟨_, rfl, (frB_of hz1 (by simp)) _ F5, ?_⟩
  have HJ := Blk.keep HJ F5 (nin0 _)
  have HP := HP.keep F5 (fun _ _ => nin0 _)
  have hz1 := Nat.le_trans hz1 F5.size
  have HA := Fr.step0 HA F5
  refine WO.one (SA.F (frBR _) (frBT _) _ 7 _ (by kernel_rfl)) 10 (.int .i64 (IntKind.i64.wrap ((firstN ps) + (nl : Int)))) (by kernel_rfl) ?_
  refine WO.top (v' := .int .i64 ((firstN ps) + (nl : Int))) (wrap_i64 (by omega) (by omega)) ?_
  refine WO.one (SA.F (frBR _) (frBT _) _ 8 _ (by kernel_rfl)) 2 (.int .i64 ((firstN ps) + (nl : Int))) (by kernel_rfl) ?_
  refine WO.doneA (by kernel_rfl) ?_
  refine WQ.keep [0, 2] (e' := [(0, .pointer (some ⟨gj, 0, none⟩)), (2, .int .i64 ((firstN ps) + (nl : Int)))]) (by kernel_rfl) ?_
  refine WQ.thenN ?_
  refine WE.ret ?_
  refine WQ.ret (v := .int .i64 ((firstN ps) + (nl : Int))) (by kernel_rfl) ?_
  exact ⟨rfl, HA⟩

set_option maxRecDepth 100000 in
set_option maxHeartbeats 400000 in
theorem index_j (Ap : Option Addr) (np cp : Nat) (ps : List Int) (FP : List Nat) (n : Int) (w : World) (HP : VX cI 1 w FP Ap ps) (hnp : ps.length = np) (hlp : np ≤ 1000000) :
    Calls Try.prog 47 #[.slice Ap np cp, .int .i64 n] w fun e w' => ∃ z : Int, e = .returned (.int .i64 z) ∧ (decide (z ≥ 0) = ps.contains n) ∧ Fr [] w w' := by
  have HA := Fr.refl [] w
  refine enter (N := 19) Try.func47 (c := _) rfl (by kernel_rfl) (by kernel_rfl) (e := [(0, .slice Ap np cp), (1, .int .i64 n)]) (by kernel_rfl) ?_
  refine WE.seq ?_
  refine WE.region ?_
  refine WO.run 1 0 [(4, .int .i64 0)] (by kernel_rfl) (by kernel_rfl) ?_
  refine WO.done (by kernel_rfl) ?_
  refine WQ.keep [0, 1, 4] (e' := [(0, .slice Ap np cp), (1, .int .i64 n), (4, .int .i64 0)]) (by kernel_rfl) ?_
  refine WQ.thenN ?_
  refine WE.seq ?_
  refine WE.seq ?_
  refine WE.region ?_
  refine WO.run 3 0 [(8, .int .i64 0), (7, .int .i64 (np : Int)), (6, .slice Ap np cp)] (by kernel_rfl) (by kernel_rfl) ?_
  refine WO.done (by kernel_rfl) ?_
  refine WQ.keep [0, 1, 4, 7, 8] (e' := [(0, .slice Ap np cp), (1, .int .i64 n), (4, .int .i64 0), (7, .int .i64 (np : Int)), (8, .int .i64 0)]) (by kernel_rfl) ?_
  refine WQ.thenN ?_
  refine WE.block ?_
  refine WE.loop (α := Nat) (E := fun i => [(0, .slice Ap np cp), (1, .int .i64 n), (4, .int .i64 0), (7, .int .i64 (np : Int)), (8, .int .i64 (i : Int))]) (I := fun i wr => i ≤ np ∧ (∀ j, j < i → g0 ps j ≠ n) ∧ w = wr) (m := fun i => np - i) 0 [0, 1, 4, 7, 8] (by kernel_rfl) ?_ ?_
  · exact ⟨Nat.zero_le _, fun j hj => absurd hj (Nat.not_lt_zero j), rfl⟩
  rintro i wr ⟨hi, hbe, hw⟩
  subst hw
  refine WE.seq ?_
  refine WE.region ?_
  refine WO.one (SQ.F 0 (by kernel_rfl)) 9 (.bool (decide (((i : Int) : Int) < (np : Int)))) (by kernel_rfl) ?_
  refine WO.topP (((i : Int) : Int) < (np : Int)) ?_ ?_
  · intro h1
    refine WO.done (by kernel_rfl) ?_
    refine WQ.keep [0, 1, 4, 7, 8, 9] (e' := [(0, .slice Ap np cp), (1, .int .i64 n), (4, .int .i64 0), (7, .int .i64 (np : Int)), (8, .int .i64 (i : Int)), (9, .bool true)]) (by kernel_rfl) ?_
    refine WQ.thenN ?_
    refine WE.seq ?_
    refine WE.condT (by kernel_rfl) ?_
    refine WE.skip ?_
    refine WQ.thenN ?_
    refine WE.seq ?_
    refine WE.block ?_
    refine WE.seq ?_
    refine WE.region ?_
    refine WO.run 2 0 [(5, .int .i64 (i : Int)), (10, .int .i64 (i : Int))] (by kernel_rfl) (by kernel_rfl) ?_
    refine WO.done (by kernel_rfl) ?_
    refine WQ.keep [0, 1, 4, 5, 7, 8, 9] (e' := [(0, .slice Ap np cp), (1, .int .i64 n), (4, .int .i64 0), (5, .int .i64 (i : Int)), (7, .int .i64 (np : Int)), (8, .int .i64 (i : Int)), (9, .bool true)]) (by kernel_rfl) ?_
    refine WQ.thenN ?_
    refine WE.seq ?_
    refine WE.region ?_
    refine WO.run 3 0 [(13, .int .i64 (i : Int)), (12, .slice Ap np cp), (11, .int .i64 n)] (by kernel_rfl) (by kernel_rfl) ?_
    obtain ⟨ad2, hA3⟩ := HP.addr (i := i) (by have := hnp; omega)
    refine WO.ixo (SQ.F 3 (by kernel_rfl)) 14 np 1 i (i : Int) hA3 (by kernel_rfl) rfl (by omega) ?_
    refine WO.ld (SQ.S 4 (by kernel_rfl)) 15 (.int .i64 (g0 ps i)) (by kernel_rfl) (same (HP.at0 hA3 (g0_some ps i (by have := hnp; omega)) (by kernel_rfl))) ?_
    refine WO.one (SQ.F 5 (by kernel_rfl)) 16 (.bool (decide ((n : Int) = (g0 ps i)))) (by kernel_rfl) ?_
    refine WO.topP ((n : Int) = (g0 ps i)) ?_ ?_
    · intro h4
      refine WO.done (by kernel_rfl) ?_
      refine WQ.keep [0, 1, 4, 5, 7, 8, 9, 16] (e' := [(0, .slice Ap np cp), (1, .int .i64 n), (4, .int .i64 0), (5, .int .i64 (i : Int)), (7, .int .i64 (np : Int)), (8, .int .i64 (i : Int)), (9, .bool true), (16, .bool true)]) (by kernel_rfl) ?_
      refine WQ.thenN ?_
      refine WE.condT (by kernel_rfl) ?_
      refine WE.seq ?_
      refine WE.region ?_
      refine WO.run 2 0 [(4, .int .i64 (i : Int)), (17, .int .i64 (i : Int))] (by kernel_rfl) (by kernel_rfl) ?_
      refine WO.done (by kernel_rfl) ?_
      refine WQ.keep [0, 1, 4, 5, 7, 8, 9, 16] (e' := [(0, .slice Ap np cp), (1, .int .i64 n), (4, .int .i64 (i : Int)), (5, .int .i64 (i : Int)), (7, .int .i64 (np : Int)), (8, .int .i64 (i : Int)), (9, .bool true), (16, .bool true)]) (by kernel_rfl) ?_
      refine WQ.thenN ?_
      refine WE.ret ?_
      refine WQ.blkR ?_
      refine WQ.thenR ?_
      refine WQ.thenR ?_
      refine WQ.blkR ?_
      refine WQ.thenR ?_
      refine WQ.ret (v := .int .i64 (i : Int)) (by kernel_rfl) ?_
      exact ⟨_, rfl, ix_yes (by assumption) (by omega), HA⟩
    intro h4
    refine WO.done (by kernel_rfl) ?_
    refine WQ.keep [0, 1, 4, 5, 7, 8, 9, 16] (e' := [(0, .slice Ap np cp), (1, .int .i64 n), (4, .int .i64 0), (5, .int .i64 (i : Int)), (7, .int .i64 (np : Int)), (8, .int .i64 (i : Int)), (9, .bool true), (16, .bool false)]) (by kernel_rfl) ?_
    refine WQ.thenN ?_
    refine WE.condF (by kernel_rfl) ?_
    refine WE.skip ?_
    refine WQ.blkN ?_
    refine WQ.thenN ?_
    refine WE.region ?_
    refine WO.one (SQ.F 0 (by kernel_rfl)) 18 (.int .i64 (IntKind.i64.wrap ((i : Int) + 1))) (by kernel_rfl) ?_
    refine WO.top (v' := .int .i64 ((i + 1 : Nat) : Int)) (wrap_i64 (by omega) (by omega)) ?_
    refine WO.run 1 1 [(8, .int .i64 ((i + 1 : Nat) : Int))] (by kernel_rfl) (by kernel_rfl) ?_
    refine WO.done (by kernel_rfl) ?_
    refine WQ.keep [0, 1, 4, 5, 7, 8, 9, 16] (e' := [(0, .slice Ap np cp), (1, .int .i64 n), (4, .int .i64 0), (5, .int .i64 (i : Int)), (7, .int .i64 (np : Int)), (8, .int .i64 ((i + 1 : Nat) : Int)), (9, .bool true), (16, .bool false)]) (by kernel_rfl) ?_
    refine WQ.round ?_
    intro a_ ha_
    refine ⟨i + 1, ?_, ha_.keep [0, 1, 4, 7, 8] (by kernel_rfl), ?_⟩
    · omega
    · exact ⟨by omega, fun j hj => (Nat.lt_succ_iff_lt_or_eq.1 hj).elim (hbe j) (fun h_ => by rw [h_]; exact fun h2_ => absurd h2_.symm (by assumption)), rfl⟩
  intro h1
  refine WO.done (by kernel_rfl) ?_
  refine WQ.keep [0, 1, 4, 7, 8, 9] (e' := [(0, .slice Ap np cp), (1, .int .i64 n), (4, .int .i64 0), (7, .int .i64 (np : Int)), (8, .int .i64 (i : Int)), (9, .bool false)]) (by kernel_rfl) ?_
  refine WQ.thenN ?_
  refine WE.seq ?_
  refine WE.condF (by kernel_rfl) ?_
  refine WE.exit ?_
  refine WQ.thenE ?_
  refine WQ.thenE ?_
  refine WQ.blkE ?_
  refine WQ.thenN ?_
  refine WE.seq ?_
  refine WE.region ?_
  refine WO.run 1 0 [(4, .int .i64 (-1))] (by kernel_rfl) (by kernel_rfl) ?_
  refine WO.done (by kernel_rfl) ?_
  refine WQ.keep [0, 1, 4, 7, 8, 9] (e' := [(0, .slice Ap np cp), (1, .int .i64 n), (4, .int .i64 (-1)), (7, .int .i64 (np : Int)), (8, .int .i64 (i : Int)), (9, .bool false)]) (by kernel_rfl) ?_
  refine WQ.thenN ?_
  refine WE.ret ?_
  refine WQ.ret (v := .int .i64 (-1)) (by kernel_rfl) ?_
  exact ⟨_, rfl, ix_no hnp (fun j hj => hbe j (by omega)), HA⟩

set_option maxRecDepth 100000 in
set_option maxHeartbeats 400000 in
theorem contains_j (Ap : Option Addr) (np cp : Nat) (ps : List Int) (FP : List Nat) (n : Int) (w : World) (HP : VX cI 1 w FP Ap ps) (hnp : ps.length = np) (hlp : np ≤ 1000000) :
    Calls Try.prog 41 #[.slice Ap np cp, .int .i64 n] w fun e w' => e = .returned (.bool (ps.contains n)) ∧ Fr [] w w' := by
  have HA := Fr.refl [] w
  refine enter (N := 9) Try.func41 (c := _) rfl (by kernel_rfl) (by kernel_rfl) (e := [(0, .slice Ap np cp), (1, .int .i64 n)]) (by kernel_rfl) ?_
  refine WE.seq ?_
  refine WE.region ?_
  refine WO.run 1 0 [(4, .bool false)] (by kernel_rfl) (by kernel_rfl) ?_
  refine WO.done (by kernel_rfl) ?_
  refine WQ.keep [0, 1, 4] (e' := [(0, .slice Ap np cp), (1, .int .i64 n), (4, .bool false)]) (by kernel_rfl) ?_
  refine WQ.thenN ?_
  refine WE.seq ?_
  refine WE.region ?_
  refine WO.run 2 0 [(6, .int .i64 n), (5, .slice Ap np cp)] (by kernel_rfl) (by kernel_rfl) ?_
  refine WO.call (SQ.E 2 (by kernel_rfl)) 7 (by kernel_rfl) (index_j Ap np cp ps FP n _ HP hnp hlp) ?_
  rintro _ w1 ⟨z, rfl, hz, F2⟩
  refine ⟨_, rfl, trivial, ?_⟩
  have HP := HP.keep F2 (fun _ _ => nin0 _)
  have HA := Fr.step0 HA F2
  refine WO.run 2 3 [(4, .bool (decide ((z : Int) ≥ 0))), (8, .bool (decide ((z : Int) ≥ 0)))] (by kernel_rfl) (by kernel_rfl) ?_
  refine WO.done (by kernel_rfl) ?_
  refine WQ.keep [0, 1, 4] (e' := [(0, .slice Ap np cp), (1, .int .i64 n), (4, .bool (decide ((z : Int) ≥ 0)))]) (by kernel_rfl) ?_
  refine WQ.thenN ?_
  refine WE.ret ?_
  refine WQ.ret (v := .bool (decide ((z : Int) ≥ 0))) (by kernel_rfl) ?_
  exact ⟨by rw [← hz], HA⟩

set_option maxRecDepth 100000 in
set_option maxHeartbeats 400000 in
theorem records_f (A : Option Addr) (n c : Nat) (l : List UInt8) (rs : List (List UInt8)) (tl : List UInt8) (FB : List Nat) (w : World) (HV : VX cB 1 w FB A l) (hn : l.length = n) (hnc : n ≤ c) (hlen : n ≤ 1000000) (hl : l = flat rs ++ tl) (hrs : ∀ r ∈ rs, recOk r) (htl : Stops tl) (hrl : rs.length ≤ 100000) :
    Calls Try.prog 45 #[.slice A n c] w fun e w' => ∃ Ao co xs FO FE, e = .returned (.tuple #[.slice Ao xs.length co, .int .i64 ((flat rs).length : Int)]) ∧ OwnX 22 1 w' FO (.slice Ao xs.length co) (xs.map cR) ∧ EV w' FE xs rs ∧ (∀ y ∈ FO, w.heap.size ≤ y) ∧ (∀ y ∈ FE, w.heap.size ≤ y) ∧ (∀ y ∈ FO, y ∉ FE) ∧ Fr [] w w' := by
  have HV0 := HV.lt
  have HA := Fr.refl [] w
  refine enter (N := 34) Try.func45 (c := _) rfl (by kernel_rfl) (by kernel_rfl) (e := [(0, .slice A n c)]) (by kernel_rfl) ?_
  refine WE.seq ?_
  refine WE.region ?_
  refine WO.run 2 0 [(3, .int .i64 0), (2, .slice none 0 0)] (by kernel_rfl) (by kernel_rfl) ?_
  refine WO.done (by kernel_rfl) ?_
  refine WQ.keep [0, 2, 3] (e' := [(0, .slice A n c), (2, .slice none 0 0), (3, .int .i64 0)]) (by kernel_rfl) ?_
  refine WQ.thenN ?_
  refine WE.seq ?_
  refine WE.region ?_
  refine WO.run 1 0 [(4, .slice none 0 0)] (by kernel_rfl) (by kernel_rfl) ?_
  refine WO.done (by kernel_rfl) ?_
  refine WQ.keep [0, 2, 3, 4] (e' := [(0, .slice A n c), (2, .slice none 0 0), (3, .int .i64 0), (4, .slice none 0 0)]) (by kernel_rfl) ?_
  refine WQ.thenN ?_
  refine WE.seq ?_
  refine WE.region ?_
  refine WO.run 1 0 [(5, .int .i64 0)] (by kernel_rfl) (by kernel_rfl) ?_
  refine WO.done (by kernel_rfl) ?_
  refine WQ.keep [0, 2, 3, 4, 5] (e' := [(0, .slice A n c), (2, .slice none 0 0), (3, .int .i64 0), (4, .slice none 0 0), (5, .int .i64 0)]) (by kernel_rfl) ?_
  refine WQ.thenN ?_
  refine WE.seq ?_
  refine WE.block ?_
  refine WE.loop (α := List (List UInt8) × List (List UInt8) × Option Addr × Nat × List RX × List Nat × List Nat) (E := fun ⟨done, left, Ao, co, xs, FO, FE⟩ => [(0, .slice A n c), (4, .slice Ao xs.length co), (5, .int .i64 (((flat done).length : Nat) : Int))]) (I := fun ⟨done, left, Ao, co, xs, FO, FE⟩ wr => done ++ left = rs ∧ OwnX 22 1 wr FO (.slice Ao xs.length co) (xs.map cR) ∧ EV wr FE xs done ∧ VX cB 1 wr FB A l ∧ (∀ y ∈ FO, w.heap.size ≤ y) ∧ (∀ y ∈ FE, w.heap.size ≤ y) ∧ (∀ y ∈ FO, y ∉ FE) ∧ Fr [] w wr) (m := fun ⟨done, left, Ao, co, xs, FO, FE⟩ => left.length) ([], rs, none, 0, [], [], []) [0, 4, 5] (by kernel_rfl) ?_ ?_
  · exact ⟨rfl, OwnX.nil _ _ _, EV.nil _, HV, by simp, by simp, by simp, HA⟩
  rintro ⟨done, left, Ao, co, xs, FO, FE⟩ wr ⟨hdl, HO, HE, HV, hgO, hgE, hdj, HA⟩
  dsimp only at hdl HO HE hgO hgE hdj ⊢
  have hfl : l = flat done ++ (flat left ++ tl) := by rw [hl, ← hdl, flat_app, List.append_assoc]
  have hll := congrArg List.length hfl
  rw [List.length_append] at hll
  have hdn : done.length ≤ 100000 := by have := congrArg List.length hdl; rw [List.length_append] at this; omega
  have hxl := HE.len
  have hdB : ∀ y ∈ FO, y ∉ FB := fun y hy h_ => absurd (HV0 y h_) (Nat.not_lt.2 (hgO y hy))
  have hdB2 : ∀ y ∈ FE, y ∉ FB := fun y hy h_ => absurd (HV0 y h_) (Nat.not_lt.2 (hgE y hy))
  refine WE.seq ?_
  refine WE.seq ?_
  refine WE.region ?_
  refine WO.run 3 0 [(10, .int .i64 (n : Int)), (9, .slice A n c), (8, .int .i64 (((flat done).length : Nat) : Int))] (by kernel_rfl) (by kernel_rfl) ?_
  refine WO.one (SQ.F 3 (by kernel_rfl)) 11 (.bool (decide ((((flat done).length : Int) : Int) < (n : Int)))) (by kernel_rfl) ?_
  refine WO.topP ((((flat done).length : Int) : Int) < (n : Int)) ?_ ?_
  · intro h1
    refine WO.done (by kernel_rfl) ?_
    refine WQ.keep [0, 4, 5, 11] (e' := [(0, .slice A n c), (4, .slice Ao xs.length co), (5, .int .i64 (((flat done).length : Nat) : Int)), (11, .bool true)]) (by kernel_rfl) ?_
    refine WQ.thenN ?_
    refine WE.condT (by kernel_rfl) ?_
    refine WE.skip ?_
    refine WQ.thenN ?_
    refine WE.block ?_
    refine WE.seq ?_
    rcases left with _ | ⟨r, left'⟩
    · skip
      refine WE.region ?_
      refine WO.run 2 0 [(13, .int .i64 (((flat done).length : Nat) : Int)), (12, .slice A n c)] (by kernel_rfl) (by kernel_rfl) ?_
      refine WO.sl (SQ.F 2 (by kernel_rfl)) 14 ((flat done).length) n A n c 1 (some (((flat done).length : Nat) : Int)) none (by kernel_rfl) (by simp only [Option.getD_some] <;> omega) (by rfl) (by omega) (by omega) ?_
      have HVs := (HV.drop (flat done).length c (by omega) (by omega)).take (n - (flat done).length)
      rw [rest_eq hfl hn] at HVs
      refine WO.call (SQ.E 3 (by kernel_rfl)) 15 (by kernel_rfl) (Wire.read_any (if c = (flat done).length then A else (A : Option Addr).map (·.add (((flat done).length) * 1))) (n - ((flat done).length)) (c - ((flat done).length)) _) ?_
      rintro _ w2 ⟨g4, rfl, HB5, F3, le6⟩
      refine ⟨_, rfl, trivial, ?_⟩
      have nin_g4_FB : g4 ∉ FB := new_nin HV.lt le6
      have nin_g4_FO : g4 ∉ FO := new_nin HO.lt le6
      have nin_g4_FE : g4 ∉ FE := new_nin (EV.lt HE) le6
      have ge_HA_g4 := Nat.le_trans HA.size le6
      have HV := HV.keep F3 (fun _ _ => nin0 _)
      have HO := HO.keep F3 (fun _ _ => nin0 _)
      have HE := EV.keep HE F3 (fun _ _ => nin0 _)
      have HA := Fr.step0 HA F3
      have HVs := HVs.keep F3 (fun _ _ => nin0 _)
      refine WO.run 1 4 [(6, .pointer (some ⟨g4, 0, none⟩))] (by kernel_rfl) (by kernel_rfl) ?_
      refine WO.done (by kernel_rfl) ?_
      refine WQ.keep [0, 4, 5, 6, 11] (e' := [(0, .slice A n c), (4, .slice Ao xs.length co), (5, .int .i64 (((flat done).length : Nat) : Int)), (6, .pointer (some ⟨g4, 0, none⟩)), (11, .bool true)]) (by kernel_rfl) ?_
      refine WQ.thenN ?_
      refine WE.seq ?_
      refine WE.region ?_
      refine WO.run 1 0 [(16, .pointer (some ⟨g4, 0, none⟩))] (by kernel_rfl) (by kernel_rfl) ?_
      refine WO.call (SQ.E 1 (by kernel_rfl)) 17 (by kernel_rfl) (Wire.rtext_any g4 ⟨0, false⟩ 4096 (if c = (flat done).length then A else (A : Option Addr).map (·.add (((flat done).length) * 1))) (n - ((flat done).length)) (c - ((flat done).length)) (flat [] ++ tl) FB _ HVs (by rw [← rest_eq hfl hn, List.length_take, List.length_drop]; omega) (by omega) (by rw [← rest_eq hfl hn, List.length_take]; omega) nin_g4_FB (Wire.Rd.ok (p := 0) HB5) (Nat.zero_le _) (by omega)) ?_
      rintro _ w7 ⟨rfl, _, F8⟩
      refine ⟨_, rfl, trivial, ?_⟩
      have HV := HV.keep F8 (djB nin_g4_FB)
      have HO := HO.keep F8 (djB nin_g4_FO)
      have HE := EV.keep HE F8 (djB nin_g4_FE)
      have HA := Fr.step HA F8 (inSR ge_HA_g4 inS0)
      rw [show (rText (flat [] ++ tl) 4096 ⟨0, false⟩).1 = [] from htl]
      refine WO.run 1 2 [(7, .string (str []))] (by kernel_rfl) (by kernel_rfl) ?_
      refine WO.done (by kernel_rfl) ?_
      refine WQ.keep [0, 4, 5, 6, 7, 11] (e' := [(0, .slice A n c), (4, .slice Ao xs.length co), (5, .int .i64 (((flat done).length : Nat) : Int)), (6, .pointer (some ⟨g4, 0, none⟩)), (7, .string (str [])), (11, .bool true)]) (by kernel_rfl) ?_
      refine WQ.thenN ?_
      refine WE.seq ?_
      refine WE.seq ?_
      refine WE.region ?_
      refine WO.run 1 0 [(18, .string (str []))] (by kernel_rfl) (by kernel_rfl) ?_
      refine WO.one (SQ.F 1 (by kernel_rfl)) 19 (.bool ((str []).toList == (⟨#[]⟩ : ByteArray).toList)) (by kernel_rfl) ?_
      refine WO.top (v' := .bool (decide ((str []) = (⟨#[]⟩ : ByteArray)))) (congrArg Value.bool (streq (str []) (⟨#[]⟩ : ByteArray))) ?_
      refine WO.topPT ((str []) = (⟨#[]⟩ : ByteArray)) (by rfl) ?_
      refine WO.done (by kernel_rfl) ?_
      refine WQ.keep [0, 4, 5, 6, 7, 11, 19] (e' := [(0, .slice A n c), (4, .slice Ao xs.length co), (5, .int .i64 (((flat done).length : Nat) : Int)), (6, .pointer (some ⟨g4, 0, none⟩)), (7, .string (str [])), (11, .bool true), (19, .bool true)]) (by kernel_rfl) ?_
      refine WQ.thenN ?_
      refine WE.condT (by kernel_rfl) ?_
      refine WE.seq ?_
      refine WE.region ?_
      refine WO.run 4 0 [(3, .int .i64 (((flat done).length : Nat) : Int)), (2, .slice Ao xs.length co), (21, .int .i64 (((flat done).length : Nat) : Int)), (20, .slice Ao xs.length co)] (by kernel_rfl) (by kernel_rfl) ?_
      refine WO.done (by kernel_rfl) ?_
      refine WQ.keep [0, 2, 3, 4, 5, 6, 7, 11, 19] (e' := [(0, .slice A n c), (2, .slice Ao xs.length co), (3, .int .i64 (((flat done).length : Nat) : Int)), (4, .slice Ao xs.length co), (5, .int .i64 (((flat done).length : Nat) : Int)), (6, .pointer (some ⟨g4, 0, none⟩)), (7, .string (str [])), (11, .bool true), (19, .bool true)]) (by kernel_rfl) ?_
      refine WQ.thenN ?_
      refine WE.ret ?_
      refine WQ.thenR ?_
      refine WQ.blkR ?_
      refine WQ.thenR ?_
      refine WQ.blkR ?_
      refine WQ.thenR ?_
      refine WQ.ret (v := .tuple #[.slice Ao xs.length co, .int .i64 (((flat done).length : Nat) : Int)]) (by kernel_rfl) ?_
      rw [List.append_nil] at hdl
      rw [hdl] at HE ⊢
      exact ⟨Ao, co, xs, FO, FE, rfl, HO, HE, hgO, hgE, hdj, HA⟩
    have hro : recOk r := hrs r (by rw [← hdl]; simp)
    have hrl := encT_len r hro
    have hro2 := hro.2
    rw [flat_cons] at hll
    simp only [List.length_append] at hll
    refine WE.region ?_
    refine WO.run 2 0 [(13, .int .i64 (((flat done).length : Nat) : Int)), (12, .slice A n c)] (by kernel_rfl) (by kernel_rfl) ?_
    refine WO.sl (SQ.F 2 (by kernel_rfl)) 14 ((flat done).length) n A n c 1 (some (((flat done).length : Nat) : Int)) none (by kernel_rfl) (by simp only [Option.getD_some] <;> omega) (by rfl) (by omega) (by omega) ?_
    have HVs := (HV.drop (flat done).length c (by omega) (by omega)).take (n - (flat done).length)
    rw [rest_eq hfl hn] at HVs
    refine WO.call (SQ.E 3 (by kernel_rfl)) 15 (by kernel_rfl) (Wire.read_any (if c = (flat done).length then A else (A : Option Addr).map (·.add (((flat done).length) * 1))) (n - ((flat done).length)) (c - ((flat done).length)) _) ?_
    rintro _ w9 ⟨g11, rfl, HB12, F10, le13⟩
    refine ⟨_, rfl, trivial, ?_⟩
    have nin_g11_FB : g11 ∉ FB := new_nin HV.lt le13
    have nin_g11_FO : g11 ∉ FO := new_nin HO.lt le13
    have nin_g11_FE : g11 ∉ FE := new_nin (EV.lt HE) le13
    have ge_HA_g11 := Nat.le_trans HA.size le13
    have HV := HV.keep F10 (fun _ _ => nin0 _)
    have HO := HO.keep F10 (fun _ _ => nin0 _)
    have HE := EV.keep HE F10 (fun _ _ => nin0 _)
    have HA := Fr.step0 HA F10
    have HVs := HVs.keep F10 (fun _ _ => nin0 _)
    refine WO.run 1 4 [(6, .pointer (some ⟨g11, 0, none⟩))] (by kernel_rfl) (by kernel_rfl) ?_
    refine WO.done (by kernel_rfl) ?_
    refine WQ.keep [0, 4, 5, 6, 11] (e' := [(0, .slice A n c), (4, .slice Ao xs.length co), (5, .int .i64 (((flat done).length : Nat) : Int)), (6, .pointer (some ⟨g11, 0, none⟩)), (11, .bool true)]) (by kernel_rfl) ?_
    refine WQ.thenN ?_
    refine WE.seq ?_
    refine WE.region ?_
    refine WO.run 1 0 [(16, .pointer (some ⟨g11, 0, none⟩))] (by kernel_rfl) (by kernel_rfl) ?_
    refine WO.call (SQ.E 1 (by kernel_rfl)) 17 (by kernel_rfl) (Wire.rtext_any g11 ⟨0, false⟩ 4096 (if c = (flat done).length then A else (A : Option Addr).map (·.add (((flat done).length) * 1))) (n - ((flat done).length)) (c - ((flat done).length)) (flat (r :: left') ++ tl) FB _ HVs (by rw [← rest_eq hfl hn, List.length_take, List.length_drop]; omega) (by omega) (by rw [← rest_eq hfl hn, List.length_take]; omega) nin_g11_FB (Wire.Rd.ok (p := 0) HB12) (Nat.zero_le _) (by omega)) ?_
    rintro _ w14 ⟨rfl, _, F15⟩
    refine ⟨_, rfl, trivial, ?_⟩
    have HV := HV.keep F15 (djB nin_g11_FB)
    have HO := HO.keep F15 (djB nin_g11_FO)
    have HE := EV.keep HE F15 (djB nin_g11_FE)
    have HA := Fr.step HA F15 (inSR ge_HA_g11 inS0)
    rw [show flat (r :: left') ++ tl = encT r ++ (flat left' ++ tl) by rw [flat_cons, List.append_assoc], rText_first hro]
    refine WO.run 1 2 [(7, .string (str r))] (by kernel_rfl) (by kernel_rfl) ?_
    refine WO.done (by kernel_rfl) ?_
    refine WQ.keep [0, 4, 5, 6, 7, 11] (e' := [(0, .slice A n c), (4, .slice Ao xs.length co), (5, .int .i64 (((flat done).length : Nat) : Int)), (6, .pointer (some ⟨g11, 0, none⟩)), (7, .string (str r)), (11, .bool true)]) (by kernel_rfl) ?_
    refine WQ.thenN ?_
    refine WE.seq ?_
    refine WE.seq ?_
    refine WE.region ?_
    refine WO.run 1 0 [(18, .string (str r))] (by kernel_rfl) (by kernel_rfl) ?_
    refine WO.one (SQ.F 1 (by kernel_rfl)) 19 (.bool ((str r).toList == (⟨#[]⟩ : ByteArray).toList)) (by kernel_rfl) ?_
    refine WO.top (v' := .bool (decide ((str r) = (⟨#[]⟩ : ByteArray)))) (congrArg Value.bool (streq (str r) (⟨#[]⟩ : ByteArray))) ?_
    refine WO.topPF ((str r) = (⟨#[]⟩ : ByteArray)) (by intro h_; have := str_inj.1 h_; rw [this] at hro; exact absurd hro.1 (by decide)) ?_
    refine WO.done (by kernel_rfl) ?_
    refine WQ.keep [0, 4, 5, 6, 7, 11, 19] (e' := [(0, .slice A n c), (4, .slice Ao xs.length co), (5, .int .i64 (((flat done).length : Nat) : Int)), (6, .pointer (some ⟨g11, 0, none⟩)), (7, .string (str r)), (11, .bool true), (19, .bool false)]) (by kernel_rfl) ?_
    refine WQ.thenN ?_
    refine WE.condF (by kernel_rfl) ?_
    refine WE.skip ?_
    refine WQ.thenN ?_
    refine WE.seq ?_
    refine WE.region ?_
    refine WO.run 2 0 [(23, .string (str r)), (22, .slice Ao xs.length co)] (by kernel_rfl) (by kernel_rfl) ?_
    refine WO.s2b (SQ.E 2 (by kernel_rfl)) 24 byt (s := (str r)) (by kernel_rfl) (fun _ _ => trivial) ?_
    intro g16 cap17 w18 HV19 hc20 F21 le22 _
    have nin_g16_FB : g16 ∉ FB := new_nin HV.lt le22
    have nin_g16_FO : g16 ∉ FO := new_nin HO.lt le22
    have nin_g16_FE : g16 ∉ FE := new_nin (EV.lt HE) le22
    have ge_HA_g16 := Nat.le_trans HA.size le22
    obtain ⟨F23, hF23⟩ : ∃ F_, F_ = [g16] := ⟨_, rfl⟩
    rw [← hF23] at HV19
    have dj_F23_FB : ∀ y ∈ F23, y ∉ FB := by rw [hF23]; intro y hy; rw [List.mem_singleton.1 hy]; exact nin_g16_FB
    have dj_F23_FO : ∀ y ∈ F23, y ∉ FO := by rw [hF23]; intro y hy; rw [List.mem_singleton.1 hy]; exact nin_g16_FO
    have dj_F23_FE : ∀ y ∈ F23, y ∉ FE := by rw [hF23]; intro y hy; rw [List.mem_singleton.1 hy]; exact nin_g16_FE
    have ge_HA_F23 : ∀ y ∈ F23, (World.heap w).size ≤ y := by rw [hF23]; intro y hy; rw [List.mem_singleton.1 hy]; exact ge_HA_g16
    have HV := HV.keep F21 (fun _ _ => nin0 _)
    have HO := HO.keep F21 (fun _ _ => nin0 _)
    have HE := EV.keep HE F21 (fun _ _ => nin0 _)
    have HA := Fr.step0 HA F21
    refine WO.bx (SQ.E 3 (by kernel_rfl)) 25 #[.slice (some ⟨g16, 0, none⟩) r.length cap17] 22 (fun g => .slice (some ⟨g, 0, none⟩) 1 1) (by kernel_rfl) (fun _ _ => trivial) ?_
    intro g24 w25 HB27 F26 le28 _
    have nin_g24_FB : g24 ∉ FB := new_nin HV.lt le28
    have nin_g24_FO : g24 ∉ FO := new_nin HO.lt le28
    have nin_g24_FE : g24 ∉ FE := new_nin (EV.lt HE) le28
    have nin_g24_F23 : g24 ∉ F23 := new_nin HV19.lt le28
    have ge_HA_g24 := Nat.le_trans HA.size le28
    have HV := HV.keep F26 (fun _ _ => nin0 _)
    have HO := HO.keep F26 (fun _ _ => nin0 _)
    have HE := EV.keep HE F26 (fun _ _ => nin0 _)
    have HV19 := HV19.keep F26 (fun _ _ => nin0 _)
    have HA := Fr.step0 HA F26
    refine WO.appX (SQ.E 4 (by kernel_rfl)) 26 (m := 1) (ys := List.map cR ([(((some ⟨g16, 0, none⟩), r.length, cap17) : RX)])) et_r HO (by rw [List.length_map] <;> first | rfl | omega | (simp <;> omega)) (RowB.src (RowB.of_blk (n := 1) HB27 (List.map cR [(((some ⟨g16, 0, none⟩), r.length, cap17) : RX)]) rfl rfl (cR_len _) (cR_one _) (by omega))) (cR_len _) (cR_one _) (by kernel_rfl) (by rw [List.length_map]; first | omega | (simp only [List.length_nil]; omega)) (by rw [List.length_map]; first | omega | (simp only [List.length_nil]; omega)) (fun _ _ => trivial) ?_
    intro v34 w35 G36 HO37 F38 hg39
    rw [← List.map_append] at HO37
    have nin_g24_G36 : g24 ∉ G36 := grow_nin hg39 nin_g24_FO HB27.lt
    have dj_G36_FB : ∀ y ∈ G36, y ∉ FB := grow_dj hg39 hdB HV.lt
    have dj_G36_FE : ∀ y ∈ G36, y ∉ FE := grow_dj hg39 hdj (EV.lt HE)
    have dj_G36_F23 : ∀ y ∈ G36, y ∉ F23 := grow_dj hg39 (dj_symm dj_F23_FO) HV19.lt
    have ge_HA_G36 : ∀ y ∈ G36, (World.heap w).size ≤ y := grow_ge hg39 hgO HA.size
    have HB27 := Blk.keep HB27 F38 nin_g24_FO
    have HV := HV.keep F38 (dj_symm hdB)
    have HE := EV.keep HE F38 (dj_symm hdj)
    have HV19 := HV19.keep F38 dj_F23_FO
    have HA := Fr.step HA F38 (inF hgO)
    obtain ⟨A40, cap41, rfl⟩ := HO37.sliceN (List.length_map _)
    have := @List.length_append _ xs ([(((some ⟨g16, 0, none⟩), r.length, cap17) : RX)])
    refine WO.run 1 5 [(4, .slice A40 ((xs ++ [(((some ⟨g16, 0, none⟩), r.length, cap17) : RX)]).length) cap41)] (by kernel_rfl) (by kernel_rfl) ?_
    refine WO.done (by kernel_rfl) ?_
    refine WQ.keep [0, 4, 5, 6, 7, 11, 19] (e' := [(0, .slice A n c), (4, .slice A40 ((xs ++ [(((some ⟨g16, 0, none⟩), r.length, cap17) : RX)]).length) cap41), (5, .int .i64 (((flat done).length : Nat) : Int)), (6, .pointer (some ⟨g11, 0, none⟩)), (7, .string (str r)), (11, .bool true), (19, .bool false)]) (by kernel_rfl) ?_
    refine WQ.thenN ?_
    refine WE.region ?_
    refine WO.run 2 0 [(28, .string (str r)), (27, .int .i64 (((flat done).length : Nat) : Int))] (by kernel_rfl) (by kernel_rfl) ?_
    refine WO.call (SQ.E 2 (by kernel_rfl)) 29 (by kernel_rfl) (Wire.text_w (str r) none 0 0 [] [] _ (VX.nil _ _) rfl (by simp) (by rw [str_size]; omega)) ?_
    rintro _ w42 ⟨b44, cap45, rfl, HR46, F43, le47⟩
    rw [List.nil_append, bs_str] at HR46 ⊢
    refine ⟨_, rfl, trivial, ?_⟩
    have ne_g24_b44 : g24 ≠ b44 := Nat.ne_of_lt (Nat.lt_of_lt_of_le HB27.lt le47)
    have nin_b44_FB : b44 ∉ FB := new_nin HV.lt le47
    have nin_b44_FE : b44 ∉ FE := new_nin (EV.lt HE) le47
    have nin_b44_F23 : b44 ∉ F23 := new_nin HV19.lt le47
    have nin_b44_G36 : b44 ∉ G36 := new_nin HO37.lt le47
    have ge_HA_b44 := Nat.le_trans HA.size le47
    have HB27 := Blk.keep HB27 F43 (nin0 _)
    have HV := HV.keep F43 (fun _ _ => nin0 _)
    have HE := EV.keep HE F43 (fun _ _ => nin0 _)
    have HV19 := HV19.keep F43 (fun _ _ => nin0 _)
    have HO37 := HO37.keep F43 (fun _ _ => nin0 _)
    have HA := Fr.step0 HA F43
    refine WO.run 1 3 [(30, .int .i64 ((encT r).length : Int))] (by kernel_rfl) (by kernel_rfl) ?_
    refine WO.one (SQ.F 4 (by kernel_rfl)) 31 (.int .i64 (IntKind.i64.wrap ((((flat done).length : Nat) : Int) + ((encT r).length : Int)))) (by kernel_rfl) ?_
    refine WO.top (v' := .int .i64 (((flat (done ++ [r])).length : Nat) : Int)) (wrap_i64 (by rw [flat_app, flat_cons, flat_nil, List.append_nil, List.length_append]; omega) (by rw [flat_app, flat_cons, flat_nil, List.append_nil, List.length_append]; omega)) ?_
    refine WO.run 1 5 [(5, .int .i64 (((flat (done ++ [r])).length : Nat) : Int))] (by kernel_rfl) (by kernel_rfl) ?_
    refine WO.done (by kernel_rfl) ?_
    refine WQ.keep [0, 4, 5, 6, 7, 11, 19] (e' := [(0, .slice A n c), (4, .slice A40 ((xs ++ [(((some ⟨g16, 0, none⟩), r.length, cap17) : RX)]).length) cap41), (5, .int .i64 (((flat (done ++ [r])).length : Nat) : Int)), (6, .pointer (some ⟨g11, 0, none⟩)), (7, .string (str r)), (11, .bool true), (19, .bool false)]) (by kernel_rfl) ?_
    refine WQ.blkN ?_
    have HE2 := HE.push HV19 (c := cap17) (rfl : _ = r.length) hc20
    have hgE2 : ∀ y ∈ FE ++ F23, w.heap.size ≤ y := fun y hy => (List.mem_append.1 hy).elim (hgE y) (ge_HA_F23 y)
    have hdj2 : ∀ y ∈ G36, y ∉ FE ++ F23 := fun y hy h_ => (List.mem_append.1 h_).elim (dj_G36_FE y hy) (dj_G36_F23 y hy)
    refine WQ.round ?_
    intro a_ ha_
    refine ⟨(done ++ [r], left', A40, cap41, (xs ++ [(((some ⟨g16, 0, none⟩), r.length, cap17) : RX)]), G36, FE ++ F23), ?_, ha_.keep [0, 4, 5] (by kernel_rfl), ?_⟩
    · exact Nat.lt_succ_self _
    · exact ⟨by rw [← hdl]; simp, HO37, HE2, HV, ge_HA_G36, hgE2, hdj2, HA⟩
  intro h1
  refine WO.done (by kernel_rfl) ?_
  refine WQ.keep [0, 4, 5, 11] (e' := [(0, .slice A n c), (4, .slice Ao xs.length co), (5, .int .i64 (((flat done).length : Nat) : Int)), (11, .bool false)]) (by kernel_rfl) ?_
  refine WQ.thenN ?_
  refine WE.condF (by kernel_rfl) ?_
  refine WE.exit ?_
  refine WQ.thenE ?_
  refine WQ.thenE ?_
  refine WQ.blkE ?_
  refine WQ.thenN ?_
  refine WE.seq ?_
  refine WE.region ?_
  refine WO.run 4 0 [(3, .int .i64 (((flat done).length : Nat) : Int)), (2, .slice Ao xs.length co), (33, .int .i64 (((flat done).length : Nat) : Int)), (32, .slice Ao xs.length co)] (by kernel_rfl) (by kernel_rfl) ?_
  refine WO.done (by kernel_rfl) ?_
  refine WQ.keep [0, 2, 3, 4, 5, 11] (e' := [(0, .slice A n c), (2, .slice Ao xs.length co), (3, .int .i64 (((flat done).length : Nat) : Int)), (4, .slice Ao xs.length co), (5, .int .i64 (((flat done).length : Nat) : Int)), (11, .bool false)]) (by kernel_rfl) ?_
  refine WQ.thenN ?_
  refine WE.ret ?_
  refine WQ.ret (v := .tuple #[.slice Ao xs.length co, .int .i64 (((flat done).length : Nat) : Int)]) (by kernel_rfl) ?_
  have hle0 : left = [] := by rcases left with _ | ⟨r, l2⟩ <;> first | rfl | (exfalso; have h_ := encT_len r (hrs r (by rw [← hdl]; simp)); simp only [flat_cons, List.length_append] at hll; omega)
  subst hle0
  rw [List.append_nil] at hdl
  rw [hdl] at HE ⊢
  exact ⟨Ao, co, xs, FO, FE, rfl, HO, HE, hgO, hgE, hdj, HA⟩
end Go.Proofs.Ytkhibpdkgjapgaa.Jrn
