/- Layer 14 in full: the class of any key, and of any event. -/
import Derived.Test.YtdhonbahpcmmnaaDoorSerL
set_option linter.unusedVariables false
set_option linter.unusedSimpArgs false
namespace Go.Proofs.YtdhonbahpcmmnaaDoor.Line
open Go Go.RowKit Go.Proofs.YtdhonbahpcmmnaaDoor Go.Proofs.YtdhonbahpcmmnaaDoor.Eng Go.Proofs.YtdhonbahpcmmnaaDoorW.PrintWords
open Go.Proofs
def cRu (r : L × Int) : List Value := [.string (str r.1), .int .i64 r.2]
def gRu (q : List (L × Int)) (i : Nat) : L × Int := q.getD i ([], 0)
theorem gRu_some (q : List (L × Int)) (i : Nat) (h : i < q.length) : q[i]? = some (gRu q i) := by
 unfold gRu
 rw [List.getD_eq_getElem?_getD, List.getElem?_eq_getElem h]
 rfl
theorem gRu_mem {q : List (L × Int)} {i : Nat} (h : i < q.length) : gRu q i ∈ q := List.mem_of_getElem? (gRu_some q i h)
theorem cRu_len (l : List (L × Int)) : ∀ x ∈ l.map cRu, x.length = 2 := by
 intro x hx
 obtain ⟨b, _, rfl⟩ := List.mem_map.1 hx
 rfl
theorem cRu_one (l : List (L × Int)) : ∀ x ∈ l.map cRu, x.all oneB = true := by
 intro x hx
 obtain ⟨b, _, rfl⟩ := List.mem_map.1 hx
 rfl
theorem all_gRu {q : List (L × Int)} {p : L × Int → Bool} : q.all p = true ↔ ∀ j, j < q.length → p (gRu q j) = true := by
 rw [List.all_eq_true]
 refine ⟨fun h j hj => h _ (gRu_mem hj), fun h x hx => ?_⟩
 obtain ⟨j, hj, rfl⟩ := List.getElem_of_mem hx
 have h1 := h j hj
 have h2 := gRu_some q j hj
 rw [List.getElem?_eq_getElem hj] at h2
 simp only [Option.some.injEq] at h2
 rw [h2]
 exact h1
theorem noall_gRu {q : List (L × Int)} {p : L × Int → Bool} {i : Nat} (h : i < q.length) (hp : p (gRu q i) = false) : q.all p = false := by
 rw [Bool.eq_false_iff]
 intro h2
 rw [all_gRu.1 h2 i h] at hp
 cases hp
def fewR (l : List (L × Int)) : Bool := l.all (fun r => decide (r.1.length ≤ 1000)) && decide (l.length ≤ 40)
theorem fewR_no {l : List (L × Int)} {i : Nat} (h : i < l.length) (hb : 1000 < (gRu l i).1.length) : fewR l = false := by
 unfold fewR
 rw [noall_gRu h (decide_eq_false (by omega))]
 rfl
theorem fewR_all {l : List (L × Int)} (h : ∀ j, j < l.length → (gRu l j).1.length ≤ 1000) : fewR l = decide (l.length ≤ 40) := by
 unfold fewR
 rw [all_gRu.2 (fun j hj => decide_eq_true (h j hj)), Bool.true_and]
def okR (cl : Int) (r : L × Int) : Bool := decide (r.1.length ≤ 300 ∧ 0 ≤ r.2 ∧ r.2 < cl)
theorem okR_t {cl : Int} {r : L × Int} (h : r.1.length ≤ 300 ∧ 0 ≤ r.2 ∧ r.2 < cl) : okR cl r = true := decide_eq_true h
theorem okR_f {cl : Int} {r : L × Int} (h : ¬ (r.1.length ≤ 300 ∧ 0 ≤ r.2 ∧ r.2 < cl)) : okR cl r = false := decide_eq_false h
def mayR (cl : Int) (l : List (L × Int)) : Bool := l.all (okR cl) && (decide (l.length ≤ 10) && (decide (1 ≤ cl) && decide (cl ≤ 4)))
theorem mayR_no {cl : Int} {l : List (L × Int)} {i : Nat} (h : i < l.length) (hb : okR cl (gRu l i) = false) : mayR cl l = false := by
 unfold mayR
 rw [noall_gRu h hb]
 rfl
theorem mayR_all {cl : Int} {l : List (L × Int)} (h : ∀ j, j < l.length → okR cl (gRu l j) = true) : mayR cl l = (decide (l.length ≤ 10) && (decide (1 ≤ cl) && decide (cl ≤ 4))) := by
 unfold mayR
 rw [all_gRu.2 h, Bool.true_and]
theorem mayR_cl {cl : Int} {l : List (L × Int)} (h : mayR cl l = true) : 1 ≤ cl ∧ cl ≤ 4 := by
 unfold mayR at h
 simp only [Bool.and_eq_true, decide_eq_true_eq] at h
 exact h.2.2
def classR (cl : Int) (k : L) : List (L × Int) → Int
 | [] => cl - 1
 | r :: l => if Lib.hasPrefix k r.1 = true then r.2 else classR cl k l
theorem class_step {cl : Int} {k : L} {l : List (L × Int)} {i : Nat} (h : i < l.length) : classR cl k (l.drop i) = if Lib.hasPrefix k (gRu l i).1 = true then (gRu l i).2 else classR cl k (l.drop (i + 1)) := by
 have e : l[i] = gRu l i := by
  have := gRu_some l i h
  rw [List.getElem?_eq_getElem h] at this
  exact Option.some.inj this
 rw [List.drop_eq_getElem_cons h, e]
 rfl
theorem pre_yes {k p : L} (h : k.take p.length = p) : Lib.hasPrefix k p = true := List.isPrefixOf_iff_prefix.2 (List.prefix_iff_eq_take.2 h.symm)
theorem pre_no1 {k p : L} (h : k.length < p.length) : ¬ Lib.hasPrefix k p = true := fun h2 => by
 have := (List.isPrefixOf_iff_prefix.1 h2).length_le
 omega
theorem pre_no2 {k p : L} (h : k.take p.length ≠ p) : ¬ Lib.hasPrefix k p = true := fun h2 => h (List.prefix_iff_eq_take.1 (List.isPrefixOf_iff_prefix.1 h2)).symm
theorem canon_code {e : Ev} {c : Int} (h : canonE e = .inr c) : c = 1 ∨ c = 5 := by
 unfold canonE at h
 split at h
 ·
  injection h with h; exact .inl h.symm
 ·
  split at h
  ·
   injection h with h; exact .inr h.symm
  ·
   cases h
theorem key_cases (e : Ev) : (∃ k, keyE e = .inl k) ∨ keyE e = .inr 1 ∨ keyE e = .inr 5 := by
 unfold keyE
 cases h : canonE e with
 | inl c => exact .inl ⟨_, rfl⟩
 | inr c => rcases canon_code h with rfl | rfl <;> simp
def ResF (w w' : World) (cl : Int) (l : List (L × Int)) (e : Ending) : Sum L Int → Prop
 | .inr c => e = .returned (.tuple #[.int .i64 0, .iface 35 (.int .i64 c)]) ∧ Fr [] w w'
 | .inl k => e = .returned (.tuple #[.int .i64 (classR cl k l), .nilIface]) ∧ Fr [] w w'
def ResD (w w' : World) (e : Ending) : Sum Ev Int → Prop
 | .inr c => e = .returned (.tuple #[.agg #[.string (⟨#[]⟩), .slice none 0 0, .int .i64 0, .int .i64 0, .int .i64 0], .int .i64 c]) ∧ Fr [] w w'
 | .inl ev => ∃ A n cp F, e = .returned (.tuple #[.agg #[.string (str ev.name), .slice A n cp, .int .i64 ev.kind, .int .i64 ev.value, .int .i64 ev.time], .int .i64 0]) ∧ VX cT 2 w' F A ev.tags ∧ ev.tags.length = n ∧ n ≤ cp ∧ (∀ y ∈ F, w.heap.size ≤ y) ∧ Fr [] w w'
def ResKR (w w' : World) (e : Ending) : Sum L Int → Prop
 | .inr c => e = .returned (.tuple #[.string ⟨#[]⟩, .int .i64 c]) ∧ Fr [] w w'
 | .inl k => e = .returned (.tuple #[.string (str k), .int .i64 0]) ∧ Fr [] w w'
theorem ins_at_k {x : L × L} : ∀ {s : Tgs} {j : Nat}, j ≤ s.length → (∀ m, m < j → ltS (gT s m).1 x.1 = true) → (s.length ≤ j ∨ (j < s.length ∧ ltS (gT s j).1 x.1 = false)) → s.take j ++ x :: s.drop j = insK x s
 | [], j, _, _, _ => by simp [insK]
 | y :: s, 0, _, _, h => by
  have hy : ltS y.1 x.1 = false := by
   rcases h with h | h
   ·
    simp at h
   ·
    exact h.2
  unfold insK
  rw [if_neg (by rw [hy]; simp)]
  rfl
 | y :: s, j + 1, hj, hl, h => by
  have hy : ltS y.1 x.1 = true := hl 0 (by omega)
  unfold insK
  rw [if_pos hy]
  have := ins_at_k (x := x) (s := s) (j := j) (by simp at hj; omega) (fun m hm => hl (m + 1) (by omega)) (h.imp (fun h => by simp at h; omega) (fun h => ⟨by have := h.1; simp at this; omega, h.2⟩))
  simp only [List.take_succ_cons, List.drop_succ_cons, List.cons_append, this]
theorem sort_next {q : Tgs} {i : Nat} (h : i < q.length) : sortK (q.take (i + 1)) = insK (gT q i) (sortK (q.take i)) := by
 unfold sortK
 rw [List.take_add_one, gT_some q i h, List.foldl_append]
 rfl
theorem ins_strA {x : L × L} {s : Tgs} {j : Nat} (hs : StrA s) (hj : j ≤ s.length) (hl : ∀ m, m < j → ltS (gT s m).1 x.1 = true) (hg : s.length ≤ j ∨ (j < s.length ∧ ltS (gT s j).1 x.1 = false ∧ (gT s j).1 ≠ x.1)) : StrA (insK x s) := by
 rw [← ins_at_k hj hl (hg.imp id fun h => ⟨h.1, h.2.1⟩)]
 have hs2 : StrA (s.take j ++ s.drop j) := by rw [List.take_append_drop]; exact hs
 obtain ⟨a1, a2, a3⟩ := List.pairwise_append.1 hs2
 have hx : ∀ z ∈ s.drop j, ltS x.1 z.1 = true := by
  rcases hg with hg | ⟨hlt, hg1, hg2⟩
  ·
   intro z hz
   rw [List.drop_of_length_le hg] at hz
   cases hz
  ·
   have hd : s.drop j = gT s j :: s.drop (j + 1) := by
    have e : s[j] = gT s j := by
     have := gT_some s j hlt
     rw [List.getElem?_eq_getElem hlt] at this
     exact Option.some.inj this
    rw [List.drop_eq_getElem_cons hlt, e]
   have hxj : ltS x.1 (gT s j).1 = true := by
    cases h : ltS x.1 (gT s j).1 with
    | true => rfl
    | false => exact absurd (ltS_tri _ _ hg1 h) hg2
   rw [hd] at a2 ⊢
   intro z hz
   rcases List.mem_cons.1 hz with rfl | hz
   ·
    exact hxj
   ·
    exact ltS_trans _ _ _ hxj ((List.pairwise_cons.1 a2).1 z hz)
 refine List.pairwise_append.2 ⟨a1, List.pairwise_cons.2 ⟨hx, a2⟩, fun z hz u hu => ?_⟩
 rcases List.mem_cons.1 hu with rfl | hu
 ·
  obtain ⟨m, hm, rfl⟩ := List.getElem_of_mem hz
  rw [List.length_take] at hm
  have := hl m (by omega)
  have e : (s.take j)[m] = gT s m := by
   have h1 := gT_some s m (by omega)
   rw [List.getElem_take]
   rw [List.getElem?_eq_getElem (by omega)] at h1
   exact Option.some.inj h1
  rw [e]
  exact this
 ·
  exact a3 z hz u hu
theorem canon_dup {ev : Ev} {acc : Tgs} {i j : Nat} (hm : mayE ev = true) (ha : acc = sortK (ev.tags.take i)) (hi : i < ev.tags.length) (hj : j < acc.length) (he : (gT acc j).1 = (gT ev.tags i).1) : canonE ev = .inr 5 := by
 rw [canon_of (sortK_perm _) (sortK_asc _) hm]
 cases hd : dupA (sortK ev.tags) with
 | true => rfl
 | false =>
  exfalso
  have hn := (asc_nodup (sortK_asc ev.tags)).1 hd
  rw [((sortK_perm ev.tags).map Prod.fst).nodup_iff] at hn
  have hp : ev.tags.Perm (acc ++ ev.tags.drop i) := by
   have h1 := (sortK_perm (ev.tags.take i)).append_right (ev.tags.drop i)
   rw [List.take_append_drop, ← ha] at h1
   exact h1.symm
  rw [(hp.map Prod.fst).nodup_iff, List.map_append, List.nodup_append] at hn
  refine hn.2.2 (gT acc j).1 (List.mem_map.2 ⟨_, gT_mem hj, rfl⟩) (gT ev.tags i).1 ?_ he
  refine List.mem_map.2 ⟨gT ev.tags i, ?_, rfl⟩
  have e : ev.tags[i] = gT ev.tags i := by
   have := gT_some ev.tags i hi
   rw [List.getElem?_eq_getElem hi] at this
   exact Option.some.inj this
  rw [List.drop_eq_getElem_cons hi, e]
  simp
set_option maxRecDepth 100000 in
set_option maxHeartbeats 400000 in
theorem fewr_f (l : List (L × Int)) (AR : Option Addr) (nr cr : Nat) (FR : List Nat) (w : World) (HL : VX cRu 2 w FR AR l) (hnr : l.length = nr) (hnrr : nr ≤ 9223372036854775807) (hrl : ∀ r ∈ l, r.1.length ≤ 9223372036854775807) :
  Calls Tryd.prog 10 #[.slice AR nr cr] w fun e w' => e = .returned (.bool (fewR l)) ∧ Fr [] w w' := by
 have HA := Fr.refl [] w
 refine enter (N := 20) Tryd.func10 (c := _) rfl (by kernel_rfl) (by kernel_rfl) (e := [(0, .slice AR nr cr)]) (by kernel_rfl) ?_
 refine WE.seq ?_
 refine WE.region ?_
 refine WO.run 1 0 [(2, .bool false)] (by kernel_rfl) (by kernel_rfl) ?_
 refine WO.done (by kernel_rfl) ?_
 refine WQ.keep [0, 2] (e' := [(0, .slice AR nr cr), (2, .bool false)]) (by kernel_rfl) ?_
 refine WQ.thenN ?_
 refine WE.seq ?_
 refine WE.seq ?_
 refine WE.region ?_
 refine WO.run 1 0 [(3, .int .i64 0)] (by kernel_rfl) (by kernel_rfl) ?_
 refine WO.done (by kernel_rfl) ?_
 refine WQ.keep [0, 2, 3] (e' := [(0, .slice AR nr cr), (2, .bool false), (3, .int .i64 0)]) (by kernel_rfl) ?_
 refine WQ.thenN ?_
 refine WE.block ?_
 refine WE.loop (α := Nat) (E := fun i => [(0, .slice AR nr cr), (2, .bool false), (3, .int .i64 (i : Int))]) (I := fun i wr => i ≤ nr ∧ (∀ j, j < i → (gRu l j).1.length ≤ 1000) ∧ VX cRu 2 wr FR AR l ∧ Fr [] w wr) (m := fun i => nr - i) 0 [0, 2, 3] (by kernel_rfl) ?_ ?_
 ·
  exact ⟨by omega, by first | (intro j h_; omega) | (rw [List.drop_zero]), HL, HA⟩
 rintro i wr ⟨hi, hbe, HL, HA⟩
 refine WE.seq ?_
 refine WE.seq ?_
 refine WE.region ?_
 refine WO.run 3 0 [(6, .int .i64 (nr : Int)), (5, .slice AR nr cr), (4, .int .i64 (i : Int))] (by kernel_rfl) (by kernel_rfl) ?_
 refine WO.one (SQ.F 3 (by kernel_rfl)) 7 (.bool (decide (((i : Int) : Int) < (nr : Int)))) (by kernel_rfl) ?_
 refine WO.topP (((i : Int) : Int) < (nr : Int)) ?_ ?_
 ·
  intro h1
  refine WO.done (by kernel_rfl) ?_
  refine WQ.keep [0, 2, 3, 7] (e' := [(0, .slice AR nr cr), (2, .bool false), (3, .int .i64 (i : Int)), (7, .bool true)]) (by kernel_rfl) ?_
  refine WQ.thenN ?_
  refine WE.condT (by kernel_rfl) ?_
  refine WE.skip ?_
  refine WQ.thenN ?_
  refine WE.seq ?_
  refine WE.block ?_
  refine WE.seq ?_
  have hrl_ := hrl _ (gRu_mem (i := i) (by omega))
  refine WE.region ?_
  refine WO.run 2 0 [(11, .int .i64 (i : Int)), (10, .slice AR nr cr)] (by kernel_rfl) (by kernel_rfl) ?_
  obtain ⟨ad2, hA3⟩ := HL.addr (i := i) (by have := hnr; omega)
  refine WO.ixo (SQ.F 2 (by kernel_rfl)) 12 nr 2 i (i : Int) hA3 (by kernel_rfl) rfl (by omega) ?_
  refine WO.run 1 3 [(13, .pointer (some (ad2.add (i * 2))))] (by kernel_rfl) (by kernel_rfl) ?_
  refine WO.ld (SQ.S 4 (by kernel_rfl)) 14 (.string (str (gRu l i).1)) (by kernel_rfl) (same (HL.at0 hA3 (gRu_some l i (by have := hnr; omega)) (by kernel_rfl))) ?_
  refine WO.run 1 5 [(15, .int .i64 (((gRu l i).1).length : Int))] (by kernel_rfl) (by kernel_rfl) ?_
  refine WO.one (SQ.F 6 (by kernel_rfl)) 16 (.bool (decide (((((gRu l i).1).length : Int) : Int) > (1000 : Int)))) (by kernel_rfl) ?_
  refine WO.topP (((((gRu l i).1).length : Int) : Int) > (1000 : Int)) ?_ ?_
  ·
   intro h4
   refine WO.done (by kernel_rfl) ?_
   refine WQ.keep [0, 2, 3, 16] (e' := [(0, .slice AR nr cr), (2, .bool false), (3, .int .i64 (i : Int)), (16, .bool true)]) (by kernel_rfl) ?_
   refine WQ.thenN ?_
   refine WE.condT (by kernel_rfl) ?_
   refine WE.seq ?_
   refine WE.region ?_
   refine WO.run 1 0 [(2, .bool false)] (by kernel_rfl) (by kernel_rfl) ?_
   refine WO.done (by kernel_rfl) ?_
   refine WQ.keep [0, 2, 3] (e' := [(0, .slice AR nr cr), (2, .bool false), (3, .int .i64 (i : Int))]) (by kernel_rfl) ?_
   refine WQ.thenN ?_
   refine WE.ret ?_
   refine WQ.blkR ?_
   refine WQ.thenR ?_
   refine WQ.thenR ?_
   refine WQ.blkR ?_
   refine WQ.thenR ?_
   refine WQ.ret (v := .bool false) (by kernel_rfl) ?_
   exact ⟨congrArg (fun b => Ending.returned (Value.bool b)) (by rw [fewR_no (i := i) (by omega) (by omega)]), HA⟩
  intro h4
  refine WO.done (by kernel_rfl) ?_
  refine WQ.keep [0, 2, 3, 16] (e' := [(0, .slice AR nr cr), (2, .bool false), (3, .int .i64 (i : Int)), (16, .bool false)]) (by kernel_rfl) ?_
  refine WQ.thenN ?_
  refine WE.condF (by kernel_rfl) ?_
  refine WE.skip ?_
  refine WQ.blkN ?_
  refine WQ.thenN ?_
  have hst_ : ∀ j, j < i + 1 → (gRu l j).1.length ≤ 1000 := fun j h_ => (Nat.lt_succ_iff_lt_or_eq.1 h_).elim (hbe j) (fun e_ => by rw [e_]; omega)
  refine WE.region ?_
  refine WO.run 1 0 [(8, .int .i64 (i : Int))] (by kernel_rfl) (by kernel_rfl) ?_
  refine WO.one (SQ.F 1 (by kernel_rfl)) 9 (.int .i64 (IntKind.i64.wrap ((i : Int) + 1))) (by kernel_rfl) ?_
  refine WO.top (v' := .int .i64 ((i + 1 : Nat) : Int)) (wrap_i64 (by omega) (by omega)) ?_
  refine WO.run 1 2 [(3, .int .i64 ((i + 1 : Nat) : Int))] (by kernel_rfl) (by kernel_rfl) ?_
  refine WO.done (by kernel_rfl) ?_
  refine WQ.keep [0, 2, 3] (e' := [(0, .slice AR nr cr), (2, .bool false), (3, .int .i64 ((i + 1 : Nat) : Int))]) (by kernel_rfl) ?_
  refine WQ.round ?_
  intro a_ ha_
  refine ⟨i + 1, ?_, ha_.keep [0, 2, 3] (by kernel_rfl), ?_⟩
  ·
   show nr - (i + 1) < nr - i; omega
  ·
   exact ⟨by omega, hst_, HL, HA⟩
 intro h1
 refine WO.done (by kernel_rfl) ?_
 refine WQ.keep [0, 2, 3, 7] (e' := [(0, .slice AR nr cr), (2, .bool false), (3, .int .i64 (i : Int)), (7, .bool false)]) (by kernel_rfl) ?_
 refine WQ.thenN ?_
 refine WE.condF (by kernel_rfl) ?_
 refine WE.exit ?_
 refine WQ.thenE ?_
 refine WQ.thenE ?_
 refine WQ.blkE ?_
 refine WQ.thenN ?_
 refine WE.seq ?_
 refine WE.region ?_
 refine WO.run 4 0 [(2, .bool (decide (((nr : Int) : Int) ≤ (40 : Int)))), (19, .bool (decide (((nr : Int) : Int) ≤ (40 : Int)))), (18, .int .i64 (nr : Int)), (17, .slice AR nr cr)] (by kernel_rfl) (by kernel_rfl) ?_
 refine WO.done (by kernel_rfl) ?_
 refine WQ.keep [2] (e' := [(2, .bool (decide (((nr : Int) : Int) ≤ (40 : Int))))]) (by kernel_rfl) ?_
 refine WQ.thenN ?_
 refine WE.ret ?_
 refine WQ.ret (v := .bool (decide (((nr : Int) : Int) ≤ (40 : Int)))) (by kernel_rfl) ?_
 exact ⟨congrArg (fun b => Ending.returned (Value.bool b)) (by rw [fewR_all (fun j h_ => hbe j (by omega)), hnr]; rw [Bool.eq_iff_iff]; simp only [decide_eq_true_eq, Bool.false_eq_true, true_iff, false_iff]; omega), HA⟩
set_option maxRecDepth 100000 in
set_option maxHeartbeats 400000 in
theorem rules_f (l : List (L × Int)) (AR : Option Addr) (nr cr : Nat) (FR : List Nat) (cl : Int) (w : World) (HL : VX cRu 2 w FR AR l) (hnr : l.length = nr) (hnrr : nr ≤ 9223372036854775807) (hrl : ∀ r ∈ l, r.1.length ≤ 9223372036854775807) :
  Calls Tryd.prog 13 #[.slice AR nr cr, .int .i64 cl] w fun e w' => e = .returned (.bool (mayR cl l)) ∧ Fr [] w w' := by
 have HA := Fr.refl [] w
 refine enter (N := 47) Tryd.func13 (c := _) rfl (by kernel_rfl) (by kernel_rfl) (e := [(0, .slice AR nr cr), (1, .int .i64 cl)]) (by kernel_rfl) ?_
 refine WE.seq ?_
 refine WE.region ?_
 refine WO.run 1 0 [(4, .bool false)] (by kernel_rfl) (by kernel_rfl) ?_
 refine WO.done (by kernel_rfl) ?_
 refine WQ.keep [0, 1, 4] (e' := [(0, .slice AR nr cr), (1, .int .i64 cl), (4, .bool false)]) (by kernel_rfl) ?_
 refine WQ.thenN ?_
 refine WE.seq ?_
 refine WE.seq ?_
 refine WE.region ?_
 refine WO.run 1 0 [(5, .int .i64 0)] (by kernel_rfl) (by kernel_rfl) ?_
 refine WO.done (by kernel_rfl) ?_
 refine WQ.keep [0, 1, 4, 5] (e' := [(0, .slice AR nr cr), (1, .int .i64 cl), (4, .bool false), (5, .int .i64 0)]) (by kernel_rfl) ?_
 refine WQ.thenN ?_
 refine WE.block ?_
 refine WE.loop (α := Nat) (E := fun i => [(0, .slice AR nr cr), (1, .int .i64 cl), (4, .bool false), (5, .int .i64 (i : Int))]) (I := fun i wr => i ≤ nr ∧ (∀ j, j < i → okR cl (gRu l j) = true) ∧ VX cRu 2 wr FR AR l ∧ Fr [] w wr) (m := fun i => nr - i) 0 [0, 1, 4, 5] (by kernel_rfl) ?_ ?_
 ·
  exact ⟨by omega, by first | (intro j h_; omega) | (rw [List.drop_zero]), HL, HA⟩
 rintro i wr ⟨hi, hbe, HL, HA⟩
 refine WE.seq ?_
 refine WE.seq ?_
 refine WE.region ?_
 refine WO.run 3 0 [(8, .int .i64 (nr : Int)), (7, .slice AR nr cr), (6, .int .i64 (i : Int))] (by kernel_rfl) (by kernel_rfl) ?_
 refine WO.one (SQ.F 3 (by kernel_rfl)) 9 (.bool (decide (((i : Int) : Int) < (nr : Int)))) (by kernel_rfl) ?_
 refine WO.topP (((i : Int) : Int) < (nr : Int)) ?_ ?_
 ·
  intro h1
  refine WO.done (by kernel_rfl) ?_
  refine WQ.keep [0, 1, 4, 5, 9] (e' := [(0, .slice AR nr cr), (1, .int .i64 cl), (4, .bool false), (5, .int .i64 (i : Int)), (9, .bool true)]) (by kernel_rfl) ?_
  refine WQ.thenN ?_
  refine WE.condT (by kernel_rfl) ?_
  refine WE.skip ?_
  refine WQ.thenN ?_
  refine WE.seq ?_
  refine WE.block ?_
  refine WE.seq ?_
  have hrl_ := hrl _ (gRu_mem (i := i) (by omega))
  refine WE.region ?_
  refine WO.run 2 0 [(13, .int .i64 (i : Int)), (12, .slice AR nr cr)] (by kernel_rfl) (by kernel_rfl) ?_
  obtain ⟨ad2, hA3⟩ := HL.addr (i := i) (by have := hnr; omega)
  refine WO.ixo (SQ.F 2 (by kernel_rfl)) 14 nr 2 i (i : Int) hA3 (by kernel_rfl) rfl (by omega) ?_
  refine WO.run 1 3 [(15, .pointer (some (ad2.add (i * 2))))] (by kernel_rfl) (by kernel_rfl) ?_
  refine WO.ld (SQ.S 4 (by kernel_rfl)) 16 (.string (str (gRu l i).1)) (by kernel_rfl) (same (HL.at0 hA3 (gRu_some l i (by have := hnr; omega)) (by kernel_rfl))) ?_
  refine WO.run 1 5 [(17, .int .i64 (((gRu l i).1).length : Int))] (by kernel_rfl) (by kernel_rfl) ?_
  refine WO.one (SQ.F 6 (by kernel_rfl)) 18 (.bool (decide (((((gRu l i).1).length : Int) : Int) > (300 : Int)))) (by kernel_rfl) ?_
  refine WO.topP (((((gRu l i).1).length : Int) : Int) > (300 : Int)) ?_ ?_
  ·
   intro h4
   refine WO.run 17 7 [(35, .bool true), (34, undef), (33, undef), (32, undef), (31, undef), (30, undef), (29, undef), (28, undef), (27, .bool true), (26, .bool true), (25, undef), (24, undef), (23, undef), (22, undef), (21, undef), (20, undef), (19, .bool true)] (by kernel_rfl) (by kernel_rfl) ?_
   refine WO.done (by kernel_rfl) ?_
   refine WQ.keep [0, 1, 4, 5, 35] (e' := [(0, .slice AR nr cr), (1, .int .i64 cl), (4, .bool false), (5, .int .i64 (i : Int)), (35, .bool true)]) (by kernel_rfl) ?_
   refine WQ.thenN ?_
   refine WE.condT (by kernel_rfl) ?_
   refine WE.seq ?_
   refine WE.region ?_
   refine WO.run 1 0 [(4, .bool false)] (by kernel_rfl) (by kernel_rfl) ?_
   refine WO.done (by kernel_rfl) ?_
   refine WQ.keep [0, 1, 4, 5] (e' := [(0, .slice AR nr cr), (1, .int .i64 cl), (4, .bool false), (5, .int .i64 (i : Int))]) (by kernel_rfl) ?_
   refine WQ.thenN ?_
   refine WE.ret ?_
   refine WQ.blkR ?_
   refine WQ.thenR ?_
   refine WQ.thenR ?_
   refine WQ.blkR ?_
   refine WQ.thenR ?_
   refine WQ.ret (v := .bool false) (by kernel_rfl) ?_
   exact ⟨congrArg (fun b => Ending.returned (Value.bool b)) (by rw [mayR_no (i := i) (by omega) (okR_f (by omega))]), HA⟩
  intro h4
  refine WO.run 3 7 [(21, .int .i64 (i : Int)), (20, .slice AR nr cr), (19, .bool false)] (by kernel_rfl) (by kernel_rfl) ?_
  obtain ⟨ad5, hA6⟩ := HL.addr (i := i) (by have := hnr; omega)
  refine WO.ixo (SQ.F 10 (by kernel_rfl)) 22 nr 2 i (i : Int) hA6 (by kernel_rfl) rfl (by omega) ?_
  refine WO.run 1 11 [(23, .pointer (some ((ad5.add (i * 2)).add 1)))] (by kernel_rfl) (by kernel_rfl) ?_
  refine WO.ld (SQ.S 12 (by kernel_rfl)) 24 (.int .i64 ((gRu l i).2)) (by kernel_rfl) (same (HL.at hA6 (gRu_some l i (by have := hnr; omega)) 1 (by kernel_rfl))) ?_
  refine WO.one (SQ.F 13 (by kernel_rfl)) 25 (.bool (decide (((gRu l i).2 : Int) < 0))) (by kernel_rfl) ?_
  refine WO.topP (((gRu l i).2 : Int) < 0) ?_ ?_
  ·
   intro h7
   refine WO.run 10 14 [(35, .bool true), (34, undef), (33, undef), (32, undef), (31, undef), (30, undef), (29, undef), (28, undef), (27, .bool true), (26, .bool true)] (by kernel_rfl) (by kernel_rfl) ?_
   refine WO.done (by kernel_rfl) ?_
   refine WQ.keep [0, 1, 4, 5, 35] (e' := [(0, .slice AR nr cr), (1, .int .i64 cl), (4, .bool false), (5, .int .i64 (i : Int)), (35, .bool true)]) (by kernel_rfl) ?_
   refine WQ.thenN ?_
   refine WE.condT (by kernel_rfl) ?_
   refine WE.seq ?_
   refine WE.region ?_
   refine WO.run 1 0 [(4, .bool false)] (by kernel_rfl) (by kernel_rfl) ?_
   refine WO.done (by kernel_rfl) ?_
   refine WQ.keep [0, 1, 4, 5] (e' := [(0, .slice AR nr cr), (1, .int .i64 cl), (4, .bool false), (5, .int .i64 (i : Int))]) (by kernel_rfl) ?_
   refine WQ.thenN ?_
   refine WE.ret ?_
   refine WQ.blkR ?_
   refine WQ.thenR ?_
   refine WQ.thenR ?_
   refine WQ.blkR ?_
   refine WQ.thenR ?_
   refine WQ.ret (v := .bool false) (by kernel_rfl) ?_
   exact ⟨congrArg (fun b => Ending.returned (Value.bool b)) (by rw [mayR_no (i := i) (by omega) (okR_f (by omega))]), HA⟩
  intro h7
  refine WO.run 4 14 [(29, .int .i64 (i : Int)), (28, .slice AR nr cr), (27, .bool false), (26, .bool false)] (by kernel_rfl) (by kernel_rfl) ?_
  obtain ⟨ad8, hA9⟩ := HL.addr (i := i) (by have := hnr; omega)
  refine WO.ixo (SQ.F 18 (by kernel_rfl)) 30 nr 2 i (i : Int) hA9 (by kernel_rfl) rfl (by omega) ?_
  refine WO.run 1 19 [(31, .pointer (some ((ad8.add (i * 2)).add 1)))] (by kernel_rfl) (by kernel_rfl) ?_
  refine WO.ld (SQ.S 20 (by kernel_rfl)) 32 (.int .i64 ((gRu l i).2)) (by kernel_rfl) (same (HL.at hA9 (gRu_some l i (by have := hnr; omega)) 1 (by kernel_rfl))) ?_
  refine WO.run 1 21 [(33, .int .i64 cl)] (by kernel_rfl) (by kernel_rfl) ?_
  refine WO.one (SQ.F 22 (by kernel_rfl)) 34 (.bool (decide (((gRu l i).2 : Int) ≥ cl))) (by kernel_rfl) ?_
  refine WO.topP (((gRu l i).2 : Int) ≥ cl) ?_ ?_
  ·
   intro h10
   refine WO.run 1 23 [(35, .bool true)] (by kernel_rfl) (by kernel_rfl) ?_
   refine WO.done (by kernel_rfl) ?_
   refine WQ.keep [0, 1, 4, 5, 35] (e' := [(0, .slice AR nr cr), (1, .int .i64 cl), (4, .bool false), (5, .int .i64 (i : Int)), (35, .bool true)]) (by kernel_rfl) ?_
   refine WQ.thenN ?_
   refine WE.condT (by kernel_rfl) ?_
   refine WE.seq ?_
   refine WE.region ?_
   refine WO.run 1 0 [(4, .bool false)] (by kernel_rfl) (by kernel_rfl) ?_
   refine WO.done (by kernel_rfl) ?_
   refine WQ.keep [0, 1, 4, 5] (e' := [(0, .slice AR nr cr), (1, .int .i64 cl), (4, .bool false), (5, .int .i64 (i : Int))]) (by kernel_rfl) ?_
   refine WQ.thenN ?_
   refine WE.ret ?_
   refine WQ.blkR ?_
   refine WQ.thenR ?_
   refine WQ.thenR ?_
   refine WQ.blkR ?_
   refine WQ.thenR ?_
   refine WQ.ret (v := .bool false) (by kernel_rfl) ?_
   exact ⟨congrArg (fun b => Ending.returned (Value.bool b)) (by rw [mayR_no (i := i) (by omega) (okR_f (by omega))]), HA⟩
  intro h10
  refine WO.run 1 23 [(35, .bool false)] (by kernel_rfl) (by kernel_rfl) ?_
  refine WO.done (by kernel_rfl) ?_
  refine WQ.keep [0, 1, 4, 5, 35] (e' := [(0, .slice AR nr cr), (1, .int .i64 cl), (4, .bool false), (5, .int .i64 (i : Int)), (35, .bool false)]) (by kernel_rfl) ?_
  refine WQ.thenN ?_
  refine WE.condF (by kernel_rfl) ?_
  refine WE.skip ?_
  refine WQ.blkN ?_
  refine WQ.thenN ?_
  have hst_ : ∀ j, j < i + 1 → okR cl (gRu l j) = true := fun j h_ => (Nat.lt_succ_iff_lt_or_eq.1 h_).elim (hbe j) (fun e_ => by rw [e_]; exact okR_t (by omega))
  refine WE.region ?_
  refine WO.run 1 0 [(10, .int .i64 (i : Int))] (by kernel_rfl) (by kernel_rfl) ?_
  refine WO.one (SQ.F 1 (by kernel_rfl)) 11 (.int .i64 (IntKind.i64.wrap ((i : Int) + 1))) (by kernel_rfl) ?_
  refine WO.top (v' := .int .i64 ((i + 1 : Nat) : Int)) (wrap_i64 (by omega) (by omega)) ?_
  refine WO.run 1 2 [(5, .int .i64 ((i + 1 : Nat) : Int))] (by kernel_rfl) (by kernel_rfl) ?_
  refine WO.done (by kernel_rfl) ?_
  refine WQ.keep [0, 1, 4, 5] (e' := [(0, .slice AR nr cr), (1, .int .i64 cl), (4, .bool false), (5, .int .i64 ((i + 1 : Nat) : Int))]) (by kernel_rfl) ?_
  refine WQ.round ?_
  intro a_ ha_
  refine ⟨i + 1, ?_, ha_.keep [0, 1, 4, 5] (by kernel_rfl), ?_⟩
  ·
   show nr - (i + 1) < nr - i; omega
  ·
   exact ⟨by omega, hst_, HL, HA⟩
 intro h1
 refine WO.done (by kernel_rfl) ?_
 refine WQ.keep [0, 1, 4, 5, 9] (e' := [(0, .slice AR nr cr), (1, .int .i64 cl), (4, .bool false), (5, .int .i64 (i : Int)), (9, .bool false)]) (by kernel_rfl) ?_
 refine WQ.thenN ?_
 refine WE.condF (by kernel_rfl) ?_
 refine WE.exit ?_
 refine WQ.thenE ?_
 refine WQ.thenE ?_
 refine WQ.blkE ?_
 refine WQ.thenN ?_
 refine WE.seq ?_
 refine WE.region ?_
 refine WO.run 2 0 [(37, .int .i64 (nr : Int)), (36, .slice AR nr cr)] (by kernel_rfl) (by kernel_rfl) ?_
 refine WO.one (SQ.F 2 (by kernel_rfl)) 38 (.bool (decide (((nr : Int) : Int) ≤ (10 : Int)))) (by kernel_rfl) ?_
 refine WO.topP (((nr : Int) : Int) ≤ (10 : Int)) ?_ ?_
 ·
  intro h11
  refine WO.run 2 3 [(40, .int .i64 cl), (39, .bool true)] (by kernel_rfl) (by kernel_rfl) ?_
  refine WO.one (SQ.F 5 (by kernel_rfl)) 41 (.bool (decide ((cl : Int) ≥ 1))) (by kernel_rfl) ?_
  refine WO.topP ((cl : Int) ≥ 1) ?_ ?_
  ·
   intro h12
   refine WO.run 6 6 [(4, .bool (decide ((cl : Int) ≤ 4))), (46, .bool (decide ((cl : Int) ≤ 4))), (45, .bool (decide ((cl : Int) ≤ 4))), (44, .int .i64 cl), (43, .bool true), (42, .bool true)] (by kernel_rfl) (by kernel_rfl) ?_
   refine WO.done (by kernel_rfl) ?_
   refine WQ.keep [4] (e' := [(4, .bool (decide ((cl : Int) ≤ 4)))]) (by kernel_rfl) ?_
   refine WQ.thenN ?_
   refine WE.ret ?_
   refine WQ.ret (v := .bool (decide ((cl : Int) ≤ 4))) (by kernel_rfl) ?_
   exact ⟨congrArg (fun b => Ending.returned (Value.bool b)) (by rw [mayR_all (fun j h_ => hbe j (by omega)), hnr]; rw [Bool.eq_iff_iff]; simp only [Bool.and_eq_true, decide_eq_true_eq, Bool.false_eq_true, true_iff, false_iff, true_and, and_true]; omega), HA⟩
  intro h12
  refine WO.run 6 6 [(4, .bool false), (46, .bool false), (45, undef), (44, undef), (43, .bool false), (42, .bool false)] (by kernel_rfl) (by kernel_rfl) ?_
  refine WO.done (by kernel_rfl) ?_
  refine WQ.keep [4] (e' := [(4, .bool false)]) (by kernel_rfl) ?_
  refine WQ.thenN ?_
  refine WE.ret ?_
  refine WQ.ret (v := .bool false) (by kernel_rfl) ?_
  exact ⟨congrArg (fun b => Ending.returned (Value.bool b)) (by rw [mayR_all (fun j h_ => hbe j (by omega)), hnr]; rw [Bool.eq_iff_iff]; simp only [Bool.and_eq_true, decide_eq_true_eq, Bool.false_eq_true, true_iff, false_iff, true_and, and_true]; omega), HA⟩
 intro h11
 refine WO.run 9 3 [(4, .bool false), (46, .bool false), (45, undef), (44, undef), (43, .bool false), (42, .bool false), (41, undef), (40, undef), (39, .bool false)] (by kernel_rfl) (by kernel_rfl) ?_
 refine WO.done (by kernel_rfl) ?_
 refine WQ.keep [4] (e' := [(4, .bool false)]) (by kernel_rfl) ?_
 refine WQ.thenN ?_
 refine WE.ret ?_
 refine WQ.ret (v := .bool false) (by kernel_rfl) ?_
 exact ⟨congrArg (fun b => Ending.returned (Value.bool b)) (by rw [mayR_all (fun j h_ => hbe j (by omega)), hnr]; rw [Bool.eq_iff_iff]; simp only [Bool.and_eq_true, decide_eq_true_eq, Bool.false_eq_true, true_iff, false_iff, true_and, and_true]; omega), HA⟩
set_option maxRecDepth 100000 in
set_option maxHeartbeats 400000 in
theorem rmay_f (l : List (L × Int)) (AR : Option Addr) (nr cr : Nat) (FR : List Nat) (cl : Int) (w : World) (HL : VX cRu 2 w FR AR l) (hnr : l.length = nr) (hnrr : nr ≤ 9223372036854775807) (hrl : ∀ r ∈ l, r.1.length ≤ 9223372036854775807) :
  Calls Tryd.prog 14 #[.slice AR nr cr, .int .i64 cl] w fun e w' => e = .returned (.bool (mayR cl l)) ∧ Fr [] w w' := by
 have HA := Fr.refl [] w
 refine enter (N := 40) Tryd.func14 (c := _) rfl (by kernel_rfl) (by kernel_rfl) (e := [(0, .slice AR nr cr), (1, .int .i64 cl)]) (by kernel_rfl) ?_
 refine WE.seq ?_
 refine WE.region ?_
 refine WO.run 1 0 [(4, .bool false)] (by kernel_rfl) (by kernel_rfl) ?_
 refine WO.done (by kernel_rfl) ?_
 refine WQ.keep [0, 1, 4] (e' := [(0, .slice AR nr cr), (1, .int .i64 cl), (4, .bool false)]) (by kernel_rfl) ?_
 refine WQ.thenN ?_
 refine WE.seq ?_
 refine WE.seq ?_
 refine WE.region ?_
 refine WO.run 3 0 [(9, .int .i64 0), (8, .int .i64 (nr : Int)), (7, .slice AR nr cr)] (by kernel_rfl) (by kernel_rfl) ?_
 refine WO.done (by kernel_rfl) ?_
 refine WQ.keep [0, 1, 4, 7, 8, 9] (e' := [(0, .slice AR nr cr), (1, .int .i64 cl), (4, .bool false), (7, .slice AR nr cr), (8, .int .i64 (nr : Int)), (9, .int .i64 0)]) (by kernel_rfl) ?_
 refine WQ.thenN ?_
 refine WE.block ?_
 refine WE.loop (α := Nat) (E := fun i => [(0, .slice AR nr cr), (1, .int .i64 cl), (4, .bool false), (7, .slice AR nr cr), (8, .int .i64 (nr : Int)), (9, .int .i64 (i : Int))]) (I := fun i wr => i ≤ nr ∧ (∀ j, j < i → okR cl (gRu l j) = true) ∧ VX cRu 2 wr FR AR l ∧ Fr [] w wr) (m := fun i => nr - i) 0 [0, 1, 4, 7, 8, 9] (by kernel_rfl) ?_ ?_
 ·
  exact ⟨by omega, by first | (intro j h_; omega) | (rw [List.drop_zero]), HL, HA⟩
 rintro i wr ⟨hi, hbe, HL, HA⟩
 refine WE.seq ?_
 refine WE.region ?_
 refine WO.one (SQ.F 0 (by kernel_rfl)) 10 (.bool (decide (((i : Int) : Int) < (nr : Int)))) (by kernel_rfl) ?_
 refine WO.topP (((i : Int) : Int) < (nr : Int)) ?_ ?_
 ·
  intro h1
  refine WO.done (by kernel_rfl) ?_
  refine WQ.keep [0, 1, 4, 7, 8, 9, 10] (e' := [(0, .slice AR nr cr), (1, .int .i64 cl), (4, .bool false), (7, .slice AR nr cr), (8, .int .i64 (nr : Int)), (9, .int .i64 (i : Int)), (10, .bool true)]) (by kernel_rfl) ?_
  refine WQ.thenN ?_
  refine WE.seq ?_
  refine WE.condT (by kernel_rfl) ?_
  refine WE.skip ?_
  refine WQ.thenN ?_
  refine WE.seq ?_
  refine WE.block ?_
  refine WE.seq ?_
  have hrl_ := hrl _ (gRu_mem (i := i) (by omega))
  refine WE.region ?_
  obtain ⟨ad2, hA3⟩ := HL.addr (i := i) (by have := hnr; omega)
  refine WO.ixo (SQ.F 0 (by kernel_rfl)) 11 nr 2 i (i : Int) hA3 (by kernel_rfl) rfl (by omega) ?_
  refine WO.ldA (ad := (ad2.add (i * 2))) (SQ.S 1 (by kernel_rfl)) 12 [.string (str (gRu l i).1), .int .i64 ((gRu l i).2)] (by kernel_rfl) (by kernel_rfl) (fun _ hw_ _ hj_ => by subst hw_; exact HL.part0 hA3 (gRu_some l i (by have := hnr; omega)) [.string (str (gRu l i).1), .int .i64 ((gRu l i).2)] (by kernel_rfl) _ hj_) ?_
  refine WO.bx (SQ.E 2 (by kernel_rfl)) 6 #[.string (⟨#[]⟩), .int .i64 0] 55 (fun g => .pointer (some ⟨g, 0, none⟩)) (by kernel_rfl) (fun _ _ => trivial) ?_
  intro g4 w5 HB7 F6 le8 _
  have nin_g4_FR : g4 ∉ FR := new_nin HL.lt le8
  have ge_HA_g4 := Nat.le_trans HA.size le8
  have HL := HL.keep F6 (fun _ _ => nin0 _)
  have HA := Fr.step0 HA F6
  refine WO.st (SQ.E 3 (by kernel_rfl)) g4 0 [.string (str (gRu l i).1), .int .i64 ((gRu l i).2)] #[.string (str (gRu l i).1), .int .i64 ((gRu l i).2)] (by kernel_rfl) HB7 (by kernel_rfl) (by kernel_rfl) (fun _ _ => trivial) ?_
  intro w9 HB11 F10 _
  have HL := HL.keep F10 (djB nin_g4_FR)
  have HA := Fr.step HA F10 (inSR ge_HA_g4 inS0)
  refine WO.done (by kernel_rfl) ?_
  refine WQ.keep [0, 1, 4, 6, 7, 8, 9] (e' := [(0, .slice AR nr cr), (1, .int .i64 cl), (4, .bool false), (6, .pointer (some ⟨g4, 0, none⟩)), (7, .slice AR nr cr), (8, .int .i64 (nr : Int)), (9, .int .i64 (i : Int))]) (by kernel_rfl) ?_
  refine WQ.thenN ?_
  refine WE.seq ?_
  refine WE.region ?_
  refine WO.run 1 0 [(13, .pointer (some ⟨g4, 0, none⟩))] (by kernel_rfl) (by kernel_rfl) ?_
  refine WO.ld (SQ.S 1 (by kernel_rfl)) 14 (.string (str (gRu l i).1)) (by kernel_rfl) (same (HB11.at 0 (by kernel_rfl))) ?_
  refine WO.run 1 2 [(15, .int .i64 (((gRu l i).1).length : Int))] (by kernel_rfl) (by kernel_rfl) ?_
  refine WO.one (SQ.F 3 (by kernel_rfl)) 16 (.bool (decide (((((gRu l i).1).length : Int) : Int) > (300 : Int)))) (by kernel_rfl) ?_
  refine WO.topP (((((gRu l i).1).length : Int) : Int) > (300 : Int)) ?_ ?_
  ·
   intro h12
   refine WO.run 11 4 [(27, .bool true), (26, undef), (25, undef), (24, undef), (23, undef), (22, .bool true), (21, .bool true), (20, undef), (19, undef), (18, undef), (17, .bool true)] (by kernel_rfl) (by kernel_rfl) ?_
   refine WO.done (by kernel_rfl) ?_
   refine WQ.keep [0, 1, 4, 7, 8, 9, 27] (e' := [(0, .slice AR nr cr), (1, .int .i64 cl), (4, .bool false), (7, .slice AR nr cr), (8, .int .i64 (nr : Int)), (9, .int .i64 (i : Int)), (27, .bool true)]) (by kernel_rfl) ?_
   refine WQ.thenN ?_
   refine WE.condT (by kernel_rfl) ?_
   refine WE.seq ?_
   refine WE.region ?_
   refine WO.run 1 0 [(4, .bool false)] (by kernel_rfl) (by kernel_rfl) ?_
   refine WO.done (by kernel_rfl) ?_
   refine WQ.keep [0, 1, 4, 7, 8, 9] (e' := [(0, .slice AR nr cr), (1, .int .i64 cl), (4, .bool false), (7, .slice AR nr cr), (8, .int .i64 (nr : Int)), (9, .int .i64 (i : Int))]) (by kernel_rfl) ?_
   refine WQ.thenN ?_
   refine WE.ret ?_
   refine WQ.blkR ?_
   refine WQ.thenR ?_
   refine WQ.thenR ?_
   refine WQ.blkR ?_
   refine WQ.thenR ?_
   refine WQ.ret (v := .bool false) (by kernel_rfl) ?_
   exact ⟨congrArg (fun b => Ending.returned (Value.bool b)) (by rw [mayR_no (i := i) (by omega) (okR_f (by omega))]), HA⟩
  intro h12
  refine WO.run 2 4 [(18, .pointer (some ⟨g4, 1, none⟩)), (17, .bool false)] (by kernel_rfl) (by kernel_rfl) ?_
  refine WO.ld (SQ.S 6 (by kernel_rfl)) 19 (.int .i64 ((gRu l i).2)) (by kernel_rfl) (same (HB11.at 1 (by kernel_rfl))) ?_
  refine WO.one (SQ.F 7 (by kernel_rfl)) 20 (.bool (decide (((gRu l i).2 : Int) < 0))) (by kernel_rfl) ?_
  refine WO.topP (((gRu l i).2 : Int) < 0) ?_ ?_
  ·
   intro h13
   refine WO.run 7 8 [(27, .bool true), (26, undef), (25, undef), (24, undef), (23, undef), (22, .bool true), (21, .bool true)] (by kernel_rfl) (by kernel_rfl) ?_
   refine WO.done (by kernel_rfl) ?_
   refine WQ.keep [0, 1, 4, 7, 8, 9, 27] (e' := [(0, .slice AR nr cr), (1, .int .i64 cl), (4, .bool false), (7, .slice AR nr cr), (8, .int .i64 (nr : Int)), (9, .int .i64 (i : Int)), (27, .bool true)]) (by kernel_rfl) ?_
   refine WQ.thenN ?_
   refine WE.condT (by kernel_rfl) ?_
   refine WE.seq ?_
   refine WE.region ?_
   refine WO.run 1 0 [(4, .bool false)] (by kernel_rfl) (by kernel_rfl) ?_
   refine WO.done (by kernel_rfl) ?_
   refine WQ.keep [0, 1, 4, 7, 8, 9] (e' := [(0, .slice AR nr cr), (1, .int .i64 cl), (4, .bool false), (7, .slice AR nr cr), (8, .int .i64 (nr : Int)), (9, .int .i64 (i : Int))]) (by kernel_rfl) ?_
   refine WQ.thenN ?_
   refine WE.ret ?_
   refine WQ.blkR ?_
   refine WQ.thenR ?_
   refine WQ.thenR ?_
   refine WQ.blkR ?_
   refine WQ.thenR ?_
   refine WQ.ret (v := .bool false) (by kernel_rfl) ?_
   exact ⟨congrArg (fun b => Ending.returned (Value.bool b)) (by rw [mayR_no (i := i) (by omega) (okR_f (by omega))]), HA⟩
  intro h13
  refine WO.run 3 8 [(23, .pointer (some ⟨g4, 1, none⟩)), (22, .bool false), (21, .bool false)] (by kernel_rfl) (by kernel_rfl) ?_
  refine WO.ld (SQ.S 11 (by kernel_rfl)) 24 (.int .i64 ((gRu l i).2)) (by kernel_rfl) (same (HB11.at 1 (by kernel_rfl))) ?_
  refine WO.run 1 12 [(25, .int .i64 cl)] (by kernel_rfl) (by kernel_rfl) ?_
  refine WO.one (SQ.F 13 (by kernel_rfl)) 26 (.bool (decide (((gRu l i).2 : Int) ≥ cl))) (by kernel_rfl) ?_
  refine WO.topP (((gRu l i).2 : Int) ≥ cl) ?_ ?_
  ·
   intro h14
   refine WO.run 1 14 [(27, .bool true)] (by kernel_rfl) (by kernel_rfl) ?_
   refine WO.done (by kernel_rfl) ?_
   refine WQ.keep [0, 1, 4, 7, 8, 9, 27] (e' := [(0, .slice AR nr cr), (1, .int .i64 cl), (4, .bool false), (7, .slice AR nr cr), (8, .int .i64 (nr : Int)), (9, .int .i64 (i : Int)), (27, .bool true)]) (by kernel_rfl) ?_
   refine WQ.thenN ?_
   refine WE.condT (by kernel_rfl) ?_
   refine WE.seq ?_
   refine WE.region ?_
   refine WO.run 1 0 [(4, .bool false)] (by kernel_rfl) (by kernel_rfl) ?_
   refine WO.done (by kernel_rfl) ?_
   refine WQ.keep [0, 1, 4, 7, 8, 9] (e' := [(0, .slice AR nr cr), (1, .int .i64 cl), (4, .bool false), (7, .slice AR nr cr), (8, .int .i64 (nr : Int)), (9, .int .i64 (i : Int))]) (by kernel_rfl) ?_
   refine WQ.thenN ?_
   refine WE.ret ?_
   refine WQ.blkR ?_
   refine WQ.thenR ?_
   refine WQ.thenR ?_
   refine WQ.blkR ?_
   refine WQ.thenR ?_
   refine WQ.ret (v := .bool false) (by kernel_rfl) ?_
   exact ⟨congrArg (fun b => Ending.returned (Value.bool b)) (by rw [mayR_no (i := i) (by omega) (okR_f (by omega))]), HA⟩
  intro h14
  refine WO.run 1 14 [(27, .bool false)] (by kernel_rfl) (by kernel_rfl) ?_
  refine WO.done (by kernel_rfl) ?_
  refine WQ.keep [0, 1, 4, 7, 8, 9, 27] (e' := [(0, .slice AR nr cr), (1, .int .i64 cl), (4, .bool false), (7, .slice AR nr cr), (8, .int .i64 (nr : Int)), (9, .int .i64 (i : Int)), (27, .bool false)]) (by kernel_rfl) ?_
  refine WQ.thenN ?_
  refine WE.condF (by kernel_rfl) ?_
  refine WE.skip ?_
  refine WQ.blkN ?_
  refine WQ.thenN ?_
  have hst_ : ∀ j, j < i + 1 → okR cl (gRu l j) = true := fun j h_ => (Nat.lt_succ_iff_lt_or_eq.1 h_).elim (hbe j) (fun e_ => by rw [e_]; exact okR_t (by omega))
  refine WE.region ?_
  refine WO.one (SQ.F 0 (by kernel_rfl)) 28 (.int .i64 (IntKind.i64.wrap ((i : Int) + 1))) (by kernel_rfl) ?_
  refine WO.top (v' := .int .i64 ((i + 1 : Nat) : Int)) (wrap_i64 (by omega) (by omega)) ?_
  refine WO.run 1 1 [(9, .int .i64 ((i + 1 : Nat) : Int))] (by kernel_rfl) (by kernel_rfl) ?_
  refine WO.done (by kernel_rfl) ?_
  refine WQ.keep [0, 1, 4, 7, 8, 9] (e' := [(0, .slice AR nr cr), (1, .int .i64 cl), (4, .bool false), (7, .slice AR nr cr), (8, .int .i64 (nr : Int)), (9, .int .i64 ((i + 1 : Nat) : Int))]) (by kernel_rfl) ?_
  refine WQ.round ?_
  intro a_ ha_
  refine ⟨i + 1, ?_, ha_.keep [0, 1, 4, 7, 8, 9] (by kernel_rfl), ?_⟩
  ·
   show nr - (i + 1) < nr - i; omega
  ·
   exact ⟨by omega, hst_, HL, HA⟩
 intro h1
 refine WO.done (by kernel_rfl) ?_
 refine WQ.keep [0, 1, 4, 7, 8, 9, 10] (e' := [(0, .slice AR nr cr), (1, .int .i64 cl), (4, .bool false), (7, .slice AR nr cr), (8, .int .i64 (nr : Int)), (9, .int .i64 (i : Int)), (10, .bool false)]) (by kernel_rfl) ?_
 refine WQ.thenN ?_
 refine WE.seq ?_
 refine WE.condF (by kernel_rfl) ?_
 refine WE.exit ?_
 refine WQ.thenE ?_
 refine WQ.thenE ?_
 refine WQ.blkE ?_
 refine WQ.thenN ?_
 refine WE.seq ?_
 refine WE.region ?_
 refine WO.run 2 0 [(30, .int .i64 (nr : Int)), (29, .slice AR nr cr)] (by kernel_rfl) (by kernel_rfl) ?_
 refine WO.one (SQ.F 2 (by kernel_rfl)) 31 (.bool (decide (((nr : Int) : Int) ≤ (10 : Int)))) (by kernel_rfl) ?_
 refine WO.topP (((nr : Int) : Int) ≤ (10 : Int)) ?_ ?_
 ·
  intro h15
  refine WO.run 2 3 [(33, .int .i64 cl), (32, .bool true)] (by kernel_rfl) (by kernel_rfl) ?_
  refine WO.one (SQ.F 5 (by kernel_rfl)) 34 (.bool (decide ((cl : Int) ≥ 1))) (by kernel_rfl) ?_
  refine WO.topP ((cl : Int) ≥ 1) ?_ ?_
  ·
   intro h16
   refine WO.run 6 6 [(4, .bool (decide ((cl : Int) ≤ 4))), (39, .bool (decide ((cl : Int) ≤ 4))), (38, .bool (decide ((cl : Int) ≤ 4))), (37, .int .i64 cl), (36, .bool true), (35, .bool true)] (by kernel_rfl) (by kernel_rfl) ?_
   refine WO.done (by kernel_rfl) ?_
   refine WQ.keep [4] (e' := [(4, .bool (decide ((cl : Int) ≤ 4)))]) (by kernel_rfl) ?_
   refine WQ.thenN ?_
   refine WE.ret ?_
   refine WQ.ret (v := .bool (decide ((cl : Int) ≤ 4))) (by kernel_rfl) ?_
   exact ⟨congrArg (fun b => Ending.returned (Value.bool b)) (by rw [mayR_all (fun j h_ => hbe j (by omega)), hnr]; rw [Bool.eq_iff_iff]; simp only [Bool.and_eq_true, decide_eq_true_eq, Bool.false_eq_true, true_iff, false_iff, true_and, and_true]; omega), HA⟩
  intro h16
  refine WO.run 6 6 [(4, .bool false), (39, .bool false), (38, undef), (37, undef), (36, .bool false), (35, .bool false)] (by kernel_rfl) (by kernel_rfl) ?_
  refine WO.done (by kernel_rfl) ?_
  refine WQ.keep [4] (e' := [(4, .bool false)]) (by kernel_rfl) ?_
  refine WQ.thenN ?_
  refine WE.ret ?_
  refine WQ.ret (v := .bool false) (by kernel_rfl) ?_
  exact ⟨congrArg (fun b => Ending.returned (Value.bool b)) (by rw [mayR_all (fun j h_ => hbe j (by omega)), hnr]; rw [Bool.eq_iff_iff]; simp only [Bool.and_eq_true, decide_eq_true_eq, Bool.false_eq_true, true_iff, false_iff, true_and, and_true]; omega), HA⟩
 intro h15
 refine WO.run 9 3 [(4, .bool false), (39, .bool false), (38, undef), (37, undef), (36, .bool false), (35, .bool false), (34, undef), (33, undef), (32, .bool false)] (by kernel_rfl) (by kernel_rfl) ?_
 refine WO.done (by kernel_rfl) ?_
 refine WQ.keep [4] (e' := [(4, .bool false)]) (by kernel_rfl) ?_
 refine WQ.thenN ?_
 refine WE.ret ?_
 refine WQ.ret (v := .bool false) (by kernel_rfl) ?_
 exact ⟨congrArg (fun b => Ending.returned (Value.bool b)) (by rw [mayR_all (fun j h_ => hbe j (by omega)), hnr]; rw [Bool.eq_iff_iff]; simp only [Bool.and_eq_true, decide_eq_true_eq, Bool.false_eq_true, true_iff, false_iff, true_and, and_true]; omega), HA⟩
set_option maxRecDepth 100000 in
set_option maxHeartbeats 400000 in
theorem class_no (l : List (L × Int)) (AR : Option Addr) (nr cr : Nat) (FR : List Nat) (cl : Int) (k : L) (w : World) (HL : VX cRu 2 w FR AR l) (hnr : l.length = nr) (hnrr : nr ≤ 9223372036854775807) (hrl : ∀ r ∈ l, r.1.length ≤ 9223372036854775807) (hmr : mayR cl l = false) :
  Calls Tryd.prog 11 #[.slice AR nr cr, .int .i64 cl, .string (str k)] w fun e w' => e = .returned (.tuple #[.int .i64 0, .iface 35 (.int .i64 1)]) ∧ Fr [] w w' := by
 have HA := Fr.refl [] w
 refine enter (N := 30) Tryd.func11 (c := _) rfl (by kernel_rfl) (by kernel_rfl) (e := [(0, .slice AR nr cr), (1, .int .i64 cl), (2, .string (str k))]) (by kernel_rfl) ?_
 refine WE.seq ?_
 refine WE.region ?_
 refine WO.run 2 0 [(7, .nilIface), (6, .int .i64 0)] (by kernel_rfl) (by kernel_rfl) ?_
 refine WO.done (by kernel_rfl) ?_
 refine WQ.keep [0, 1, 2, 6, 7] (e' := [(0, .slice AR nr cr), (1, .int .i64 cl), (2, .string (str k)), (6, .int .i64 0), (7, .nilIface)]) (by kernel_rfl) ?_
 refine WQ.thenN ?_
 refine WE.seq ?_
 refine WE.seq ?_
 refine WE.region ?_
 refine WO.run 2 0 [(11, .int .i64 cl), (10, .slice AR nr cr)] (by kernel_rfl) (by kernel_rfl) ?_
 refine WO.call (SQ.E 2 (by kernel_rfl)) 12 (by kernel_rfl) (rmay_f l AR nr cr FR cl _ HL hnr hnrr hrl) ?_
 rintro _ w1 ⟨rfl, F2⟩
 rw [hmr]
 refine ⟨_, rfl, trivial, ?_⟩
 have HL := HL.keep F2 (fun _ _ => nin0 _)
 have HA := Fr.step0 HA F2
 refine WO.run 1 3 [(13, .bool true)] (by kernel_rfl) (by kernel_rfl) ?_
 refine WO.done (by kernel_rfl) ?_
 refine WQ.keep [0, 1, 2, 6, 7, 13] (e' := [(0, .slice AR nr cr), (1, .int .i64 cl), (2, .string (str k)), (6, .int .i64 0), (7, .nilIface), (13, .bool true)]) (by kernel_rfl) ?_
 refine WQ.thenN ?_
 refine WE.condT (by kernel_rfl) ?_
 refine WE.seq ?_
 refine WE.region ?_
 refine WO.run 3 0 [(7, .iface 35 (.int .i64 1)), (6, .int .i64 0), (14, .iface 35 (.int .i64 1))] (by kernel_rfl) (by kernel_rfl) ?_
 refine WO.done (by kernel_rfl) ?_
 refine WQ.keep [0, 1, 2, 6, 7] (e' := [(0, .slice AR nr cr), (1, .int .i64 cl), (2, .string (str k)), (6, .int .i64 0), (7, .iface 35 (.int .i64 1))]) (by kernel_rfl) ?_
 refine WQ.thenN ?_
 refine WE.ret ?_
 refine WQ.thenR ?_
 refine WQ.ret (v := .tuple #[.int .i64 0, .iface 35 (.int .i64 1)]) (by kernel_rfl) ?_
 exact ⟨rfl, HA⟩
set_option maxRecDepth 100000 in
set_option maxHeartbeats 400000 in
theorem class_ok (l : List (L × Int)) (AR : Option Addr) (nr cr : Nat) (FR : List Nat) (cl : Int) (k : L) (w : World) (HL : VX cRu 2 w FR AR l) (hnr : l.length = nr) (hnrr : nr ≤ 9223372036854775807) (hrl : ∀ r ∈ l, r.1.length ≤ 9223372036854775807) (hmr : mayR cl l = true) :
  Calls Tryd.prog 11 #[.slice AR nr cr, .int .i64 cl, .string (str k)] w fun e w' => e = .returned (.tuple #[.int .i64 (classR cl k l), .nilIface]) ∧ Fr [] w w' := by
 have hcl_ := mayR_cl hmr
 have HA := Fr.refl [] w
 refine enter (N := 30) Tryd.func11 (c := _) rfl (by kernel_rfl) (by kernel_rfl) (e := [(0, .slice AR nr cr), (1, .int .i64 cl), (2, .string (str k))]) (by kernel_rfl) ?_
 refine WE.seq ?_
 refine WE.region ?_
 refine WO.run 2 0 [(7, .nilIface), (6, .int .i64 0)] (by kernel_rfl) (by kernel_rfl) ?_
 refine WO.done (by kernel_rfl) ?_
 refine WQ.keep [0, 1, 2, 6, 7] (e' := [(0, .slice AR nr cr), (1, .int .i64 cl), (2, .string (str k)), (6, .int .i64 0), (7, .nilIface)]) (by kernel_rfl) ?_
 refine WQ.thenN ?_
 refine WE.seq ?_
 refine WE.seq ?_
 refine WE.region ?_
 refine WO.run 2 0 [(11, .int .i64 cl), (10, .slice AR nr cr)] (by kernel_rfl) (by kernel_rfl) ?_
 refine WO.call (SQ.E 2 (by kernel_rfl)) 12 (by kernel_rfl) (rmay_f l AR nr cr FR cl _ HL hnr hnrr hrl) ?_
 rintro _ w1 ⟨rfl, F2⟩
 rw [hmr]
 refine ⟨_, rfl, trivial, ?_⟩
 have HL := HL.keep F2 (fun _ _ => nin0 _)
 have HA := Fr.step0 HA F2
 refine WO.run 1 3 [(13, .bool false)] (by kernel_rfl) (by kernel_rfl) ?_
 refine WO.done (by kernel_rfl) ?_
 refine WQ.keep [0, 1, 2, 6, 7, 13] (e' := [(0, .slice AR nr cr), (1, .int .i64 cl), (2, .string (str k)), (6, .int .i64 0), (7, .nilIface), (13, .bool false)]) (by kernel_rfl) ?_
 refine WQ.thenN ?_
 refine WE.condF (by kernel_rfl) ?_
 refine WE.skip ?_
 refine WQ.thenN ?_
 refine WE.seq ?_
 refine WE.seq ?_
 refine WE.region ?_
 refine WO.run 3 0 [(17, .int .i64 0), (16, .int .i64 (nr : Int)), (15, .slice AR nr cr)] (by kernel_rfl) (by kernel_rfl) ?_
 refine WO.done (by kernel_rfl) ?_
 refine WQ.keep [1, 2, 6, 7, 15, 16, 17] (e' := [(1, .int .i64 cl), (2, .string (str k)), (6, .int .i64 0), (7, .nilIface), (15, .slice AR nr cr), (16, .int .i64 (nr : Int)), (17, .int .i64 0)]) (by kernel_rfl) ?_
 refine WQ.thenN ?_
 refine WE.block ?_
 refine WE.loop (α := Nat) (E := fun i => [(1, .int .i64 cl), (2, .string (str k)), (6, .int .i64 0), (7, .nilIface), (15, .slice AR nr cr), (16, .int .i64 (nr : Int)), (17, .int .i64 (i : Int))]) (I := fun i wr => i ≤ nr ∧ classR cl k l = classR cl k (l.drop i) ∧ VX cRu 2 wr FR AR l ∧ Fr [] w wr) (m := fun i => nr - i) 0 [1, 2, 6, 7, 15, 16, 17] (by kernel_rfl) ?_ ?_
 ·
  exact ⟨by omega, by first | (intro j h_; omega) | (rw [List.drop_zero]), HL, HA⟩
 rintro i wr ⟨hi, hbe, HL, HA⟩
 refine WE.seq ?_
 refine WE.region ?_
 refine WO.one (SQ.F 0 (by kernel_rfl)) 18 (.bool (decide (((i : Int) : Int) < (nr : Int)))) (by kernel_rfl) ?_
 refine WO.topP (((i : Int) : Int) < (nr : Int)) ?_ ?_
 ·
  intro h3
  refine WO.done (by kernel_rfl) ?_
  refine WQ.keep [1, 2, 6, 7, 15, 16, 17, 18] (e' := [(1, .int .i64 cl), (2, .string (str k)), (6, .int .i64 0), (7, .nilIface), (15, .slice AR nr cr), (16, .int .i64 (nr : Int)), (17, .int .i64 (i : Int)), (18, .bool true)]) (by kernel_rfl) ?_
  refine WQ.thenN ?_
  refine WE.seq ?_
  refine WE.condT (by kernel_rfl) ?_
  refine WE.skip ?_
  refine WQ.thenN ?_
  refine WE.seq ?_
  refine WE.block ?_
  refine WE.seq ?_
  refine WE.region ?_
  obtain ⟨ad4, hA5⟩ := HL.addr (i := i) (by have := hnr; omega)
  refine WO.ixo (SQ.F 0 (by kernel_rfl)) 19 nr 2 i (i : Int) hA5 (by kernel_rfl) rfl (by omega) ?_
  refine WO.ldA (ad := (ad4.add (i * 2))) (SQ.S 1 (by kernel_rfl)) 20 [.string (str (gRu l i).1), .int .i64 ((gRu l i).2)] (by kernel_rfl) (by kernel_rfl) (fun _ hw_ _ hj_ => by subst hw_; exact HL.part0 hA5 (gRu_some l i (by have := hnr; omega)) [.string (str (gRu l i).1), .int .i64 ((gRu l i).2)] (by kernel_rfl) _ hj_) ?_
  refine WO.bx (SQ.E 2 (by kernel_rfl)) 9 #[.string (⟨#[]⟩), .int .i64 0] 55 (fun g => .pointer (some ⟨g, 0, none⟩)) (by kernel_rfl) (fun _ _ => trivial) ?_
  intro g6 w7 HB9 F8 le10 _
  have nin_g6_FR : g6 ∉ FR := new_nin HL.lt le10
  have ge_HA_g6 := Nat.le_trans HA.size le10
  have HL := HL.keep F8 (fun _ _ => nin0 _)
  have HA := Fr.step0 HA F8
  refine WO.st (SQ.E 3 (by kernel_rfl)) g6 0 [.string (str (gRu l i).1), .int .i64 ((gRu l i).2)] #[.string (str (gRu l i).1), .int .i64 ((gRu l i).2)] (by kernel_rfl) HB9 (by kernel_rfl) (by kernel_rfl) (fun _ _ => trivial) ?_
  intro w11 HB13 F12 _
  have HL := HL.keep F12 (djB nin_g6_FR)
  have HA := Fr.step HA F12 (inSR ge_HA_g6 inS0)
  refine WO.done (by kernel_rfl) ?_
  refine WQ.keep [1, 2, 6, 7, 9, 15, 16, 17] (e' := [(1, .int .i64 cl), (2, .string (str k)), (6, .int .i64 0), (7, .nilIface), (9, .pointer (some ⟨g6, 0, none⟩)), (15, .slice AR nr cr), (16, .int .i64 (nr : Int)), (17, .int .i64 (i : Int))]) (by kernel_rfl) ?_
  refine WQ.thenN ?_
  refine WE.seq ?_
  refine WE.region ?_
  refine WO.run 2 0 [(22, .pointer (some ⟨g6, 0, none⟩)), (21, .string (str k))] (by kernel_rfl) (by kernel_rfl) ?_
  refine WO.ld (SQ.S 2 (by kernel_rfl)) 23 (.string (str (gRu l i).1)) (by kernel_rfl) (same (HB13.at 0 (by kernel_rfl))) ?_
  refine WO.call (SQ.E 3 (by kernel_rfl)) 24 (by kernel_rfl) (Tryd.strings_HasPrefix (str k) (str (gRu l i).1) _) ?_
  rintro _ w14 ⟨rfl, hw_⟩
  have F15 : Fr [] w11 w14 := by rw [hw_]; exact Fr.refl [] _
  refine ⟨_, rfl, trivial, ?_⟩
  have HB13 := Blk.keep HB13 F15 (nin0 _)
  have HL := HL.keep F15 (fun _ _ => nin0 _)
  have HA := Fr.step0 HA F15
  rcases Bool.eq_false_or_eq_true (Lib.hasPrefix k (gRu l i).1) with hP | hP
  ·
   rw [show Lib.hasPrefix (str k).data.toList (str (gRu l i).1).data.toList = true from hP]
   refine WO.done (by kernel_rfl) ?_
   refine WQ.keep [1, 2, 6, 7, 9, 15, 16, 17, 24] (e' := [(1, .int .i64 cl), (2, .string (str k)), (6, .int .i64 0), (7, .nilIface), (9, .pointer (some ⟨g6, 0, none⟩)), (15, .slice AR nr cr), (16, .int .i64 (nr : Int)), (17, .int .i64 (i : Int)), (24, .bool true)]) (by kernel_rfl) ?_
   refine WQ.thenN ?_
   refine WE.condT (by kernel_rfl) ?_
   refine WE.seq ?_
   refine WE.region ?_
   refine WO.run 1 0 [(25, .pointer (some ⟨g6, 1, none⟩))] (by kernel_rfl) (by kernel_rfl) ?_
   refine WO.ld (SQ.S 1 (by kernel_rfl)) 26 (.int .i64 ((gRu l i).2)) (by kernel_rfl) (same (HB13.at 1 (by kernel_rfl))) ?_
   refine WO.run 2 2 [(7, .nilIface), (6, .int .i64 ((gRu l i).2))] (by kernel_rfl) (by kernel_rfl) ?_
   refine WO.done (by kernel_rfl) ?_
   refine WQ.keep [1, 2, 6, 7, 15, 16, 17] (e' := [(1, .int .i64 cl), (2, .string (str k)), (6, .int .i64 ((gRu l i).2)), (7, .nilIface), (15, .slice AR nr cr), (16, .int .i64 (nr : Int)), (17, .int .i64 (i : Int))]) (by kernel_rfl) ?_
   refine WQ.thenN ?_
   refine WE.ret ?_
   refine WQ.blkR ?_
   refine WQ.thenR ?_
   refine WQ.thenR ?_
   refine WQ.blkR ?_
   refine WQ.thenR ?_
   refine WQ.ret (v := .tuple #[.int .i64 ((gRu l i).2), .nilIface]) (by kernel_rfl) ?_
   exact ⟨by rw [hbe, class_step (by omega), if_pos hP], HA⟩
  ·
   rw [show Lib.hasPrefix (str k).data.toList (str (gRu l i).1).data.toList = false from hP]
   refine WO.done (by kernel_rfl) ?_
   refine WQ.keep [1, 2, 6, 7, 9, 15, 16, 17, 24] (e' := [(1, .int .i64 cl), (2, .string (str k)), (6, .int .i64 0), (7, .nilIface), (9, .pointer (some ⟨g6, 0, none⟩)), (15, .slice AR nr cr), (16, .int .i64 (nr : Int)), (17, .int .i64 (i : Int)), (24, .bool false)]) (by kernel_rfl) ?_
   refine WQ.thenN ?_
   refine WE.condF (by kernel_rfl) ?_
   refine WE.skip ?_
   refine WQ.blkN ?_
   refine WQ.thenN ?_
   have hst_ : classR cl k l = classR cl k (l.drop (i + 1)) := by rw [hbe, class_step (by omega), if_neg (by rw [hP]; simp)]
   refine WE.region ?_
   refine WO.one (SQ.F 0 (by kernel_rfl)) 27 (.int .i64 (IntKind.i64.wrap ((i : Int) + 1))) (by kernel_rfl) ?_
   refine WO.top (v' := .int .i64 ((i + 1 : Nat) : Int)) (wrap_i64 (by omega) (by omega)) ?_
   refine WO.run 1 1 [(17, .int .i64 ((i + 1 : Nat) : Int))] (by kernel_rfl) (by kernel_rfl) ?_
   refine WO.done (by kernel_rfl) ?_
   refine WQ.keep [1, 2, 6, 7, 15, 16, 17] (e' := [(1, .int .i64 cl), (2, .string (str k)), (6, .int .i64 0), (7, .nilIface), (15, .slice AR nr cr), (16, .int .i64 (nr : Int)), (17, .int .i64 ((i + 1 : Nat) : Int))]) (by kernel_rfl) ?_
   refine WQ.round ?_
   intro a_ ha_
   refine ⟨i + 1, ?_, ha_.keep [1, 2, 6, 7, 15, 16, 17] (by kernel_rfl), ?_⟩
   ·
    show nr - (i + 1) < nr - i; omega
   ·
    exact ⟨by omega, hst_, HL, HA⟩
 intro h3
 refine WO.done (by kernel_rfl) ?_
 refine WQ.keep [1, 2, 6, 7, 15, 16, 17, 18] (e' := [(1, .int .i64 cl), (2, .string (str k)), (6, .int .i64 0), (7, .nilIface), (15, .slice AR nr cr), (16, .int .i64 (nr : Int)), (17, .int .i64 (i : Int)), (18, .bool false)]) (by kernel_rfl) ?_
 refine WQ.thenN ?_
 refine WE.seq ?_
 refine WE.condF (by kernel_rfl) ?_
 refine WE.exit ?_
 refine WQ.thenE ?_
 refine WQ.thenE ?_
 refine WQ.blkE ?_
 refine WQ.thenN ?_
 refine WE.seq ?_
 refine WE.region ?_
 refine WO.run 1 0 [(28, .int .i64 cl)] (by kernel_rfl) (by kernel_rfl) ?_
 refine WO.one (SQ.F 1 (by kernel_rfl)) 29 (.int .i64 (IntKind.i64.wrap (cl - 1))) (by kernel_rfl) ?_
 refine WO.top (v' := .int .i64 (cl - 1)) (wrap_i64 rfl (by omega)) ?_
 refine WO.run 2 2 [(7, .nilIface), (6, .int .i64 (cl - 1))] (by kernel_rfl) (by kernel_rfl) ?_
 refine WO.done (by kernel_rfl) ?_
 refine WQ.keep [6, 7] (e' := [(6, .int .i64 (cl - 1)), (7, .nilIface)]) (by kernel_rfl) ?_
 refine WQ.thenN ?_
 refine WE.ret ?_
 refine WQ.ret (v := .tuple #[.int .i64 (cl - 1), .nilIface]) (by kernel_rfl) ?_
 exact ⟨by rw [hbe, List.drop_of_length_le (by omega)]; rfl, HA⟩
set_option maxRecDepth 100000 in
set_option maxHeartbeats 400000 in
theorem rclass_f (l : List (L × Int)) (AR : Option Addr) (nr cr : Nat) (FR : List Nat) (cl : Int) (k : L) (w : World) (HL : VX cRu 2 w FR AR l) (hnr : l.length = nr) (hnrr : nr ≤ 9223372036854775807) (hrl : ∀ r ∈ l, r.1.length ≤ 9223372036854775807) (hcl_ : 1 ≤ cl ∧ cl ≤ 4) :
  Calls Tryd.prog 16 #[.slice AR nr cr, .int .i64 cl, .string (str k)] w fun e w' => e = .returned (.int .i64 (classR cl k l)) ∧ Fr [] w w' := by
 have HA := Fr.refl [] w
 refine enter (N := 43) Tryd.func16 (c := _) rfl (by kernel_rfl) (by kernel_rfl) (e := [(0, .slice AR nr cr), (1, .int .i64 cl), (2, .string (str k))]) (by kernel_rfl) ?_
 refine WE.seq ?_
 refine WE.region ?_
 refine WO.run 1 0 [(6, .int .i64 0)] (by kernel_rfl) (by kernel_rfl) ?_
 refine WO.done (by kernel_rfl) ?_
 refine WQ.keep [0, 1, 2, 6] (e' := [(0, .slice AR nr cr), (1, .int .i64 cl), (2, .string (str k)), (6, .int .i64 0)]) (by kernel_rfl) ?_
 refine WQ.thenN ?_
 refine WE.seq ?_
 refine WE.seq ?_
 refine WE.region ?_
 refine WO.run 1 0 [(7, .int .i64 0)] (by kernel_rfl) (by kernel_rfl) ?_
 refine WO.done (by kernel_rfl) ?_
 refine WQ.keep [0, 1, 2, 6, 7] (e' := [(0, .slice AR nr cr), (1, .int .i64 cl), (2, .string (str k)), (6, .int .i64 0), (7, .int .i64 0)]) (by kernel_rfl) ?_
 refine WQ.thenN ?_
 refine WE.block ?_
 refine WE.loop (α := Nat) (E := fun i => [(0, .slice AR nr cr), (1, .int .i64 cl), (2, .string (str k)), (6, .int .i64 0), (7, .int .i64 (i : Int))]) (I := fun i wr => i ≤ nr ∧ classR cl k l = classR cl k (l.drop i) ∧ VX cRu 2 wr FR AR l ∧ Fr [] w wr) (m := fun i => nr - i) 0 [0, 1, 2, 6, 7] (by kernel_rfl) ?_ ?_
 ·
  exact ⟨by omega, by first | (intro j h_; omega) | (rw [List.drop_zero]), HL, HA⟩
 rintro i wr ⟨hi, hbe, HL, HA⟩
 refine WE.seq ?_
 refine WE.seq ?_
 refine WE.region ?_
 refine WO.run 3 0 [(11, .int .i64 (nr : Int)), (10, .slice AR nr cr), (9, .int .i64 (i : Int))] (by kernel_rfl) (by kernel_rfl) ?_
 refine WO.one (SQ.F 3 (by kernel_rfl)) 12 (.bool (decide (((i : Int) : Int) < (nr : Int)))) (by kernel_rfl) ?_
 refine WO.topP (((i : Int) : Int) < (nr : Int)) ?_ ?_
 ·
  intro h1
  refine WO.done (by kernel_rfl) ?_
  refine WQ.keep [0, 1, 2, 6, 7, 12] (e' := [(0, .slice AR nr cr), (1, .int .i64 cl), (2, .string (str k)), (6, .int .i64 0), (7, .int .i64 (i : Int)), (12, .bool true)]) (by kernel_rfl) ?_
  refine WQ.thenN ?_
  refine WE.condT (by kernel_rfl) ?_
  refine WE.skip ?_
  refine WQ.thenN ?_
  refine WE.seq ?_
  refine WE.block ?_
  refine WE.seq ?_
  have hrl_ := hrl _ (gRu_mem (i := i) (by omega))
  refine WE.region ?_
  refine WO.run 2 0 [(16, .int .i64 (i : Int)), (15, .slice AR nr cr)] (by kernel_rfl) (by kernel_rfl) ?_
  obtain ⟨ad2, hA3⟩ := HL.addr (i := i) (by have := hnr; omega)
  refine WO.ixo (SQ.F 2 (by kernel_rfl)) 17 nr 2 i (i : Int) hA3 (by kernel_rfl) rfl (by omega) ?_
  refine WO.run 1 3 [(18, .pointer (some (ad2.add (i * 2))))] (by kernel_rfl) (by kernel_rfl) ?_
  refine WO.ld (SQ.S 4 (by kernel_rfl)) 19 (.string (str (gRu l i).1)) (by kernel_rfl) (same (HL.at0 hA3 (gRu_some l i (by have := hnr; omega)) (by kernel_rfl))) ?_
  refine WO.run 2 5 [(8, .int .i64 (((gRu l i).1).length : Int)), (20, .int .i64 (((gRu l i).1).length : Int))] (by kernel_rfl) (by kernel_rfl) ?_
  refine WO.done (by kernel_rfl) ?_
  refine WQ.keep [0, 1, 2, 6, 7, 8] (e' := [(0, .slice AR nr cr), (1, .int .i64 cl), (2, .string (str k)), (6, .int .i64 0), (7, .int .i64 (i : Int)), (8, .int .i64 (((gRu l i).1).length : Int))]) (by kernel_rfl) ?_
  refine WQ.thenN ?_
  refine WE.seq ?_
  refine WE.draw [.free, .free, .free, .free, .free, .free, .free, .free, .free, .free, .free, .free, .still, .free, .free] Same sameR (by kernel_rfl) 15 (Array.replicate 15 false) (by kernel_rfl) rfl ?_
  intro w4 F5 _
  have HL := HL.keep F5 (fun _ _ => nin0 _)
  have HA := Fr.step0 HA F5
  refine WO.one (SA.F sameR sameT _ 0 _ (by kernel_rfl)) 21 (.int .i64 (((gRu l i).1).length : Int)) (by kernel_rfl) ?_
  refine WO.one (SA.F sameR sameT _ 1 _ (by kernel_rfl)) 22 (.string (str k)) (by kernel_rfl) ?_
  refine WO.one (SA.F sameR sameT _ 2 _ (by kernel_rfl)) 23 (.int .i64 (k.length : Int)) (by kernel_rfl) ?_
  refine WO.one (SA.F sameR sameT _ 3 _ (by kernel_rfl)) 24 (.bool (decide (((((gRu l i).1).length : Int) : Int) ≤ (k.length : Int)))) (by kernel_rfl) ?_
  refine WO.topP (((((gRu l i).1).length : Int) : Int) ≤ (k.length : Int)) ?_ ?_
  ·
   intro h6
   refine WO.one (SA.F sameR sameT _ 4 _ (by kernel_rfl)) 25 (.bool true) (by kernel_rfl) ?_
   refine WO.one (SA.F sameR sameT _ 5 _ (by kernel_rfl)) 26 (.string (str k)) (by kernel_rfl) ?_
   refine WO.one (SA.F sameR sameT _ 6 _ (by kernel_rfl)) 27 (.int .i64 (((gRu l i).1).length : Int)) (by kernel_rfl) ?_
   refine WO.slS (hi := (((gRu l i).1).length : Int)) (SA.F sameR sameT _ 7 _ (by kernel_rfl)) 28 (((gRu l i).1).length) k (by kernel_rfl) (by rfl) (by omega) ?_
   refine WO.one (SA.F sameR sameT _ 8 _ (by kernel_rfl)) 29 (.slice AR nr cr) (by kernel_rfl) ?_
   refine WO.one (SA.F sameR sameT _ 9 _ (by kernel_rfl)) 30 (.int .i64 (i : Int)) (by kernel_rfl) ?_
   obtain ⟨ad7, hA8⟩ := HL.addr (i := i) (by have := hnr; omega)
   refine WO.ixo (SA.F sameR sameT _ 10 _ (by kernel_rfl)) 31 nr 2 i (i : Int) hA8 (by kernel_rfl) rfl (by omega) ?_
   refine WO.one (SA.F sameR sameT _ 11 _ (by kernel_rfl)) 32 (.pointer (some (ad7.add (i * 2)))) (by kernel_rfl) ?_
   refine WO.ld (SA.S sameR sameT _ 12 _ (by kernel_rfl)) 33 (.string (str (gRu l i).1)) (by kernel_rfl) (same (HL.at0 hA8 (gRu_some l i (by have := hnr; omega)) (by kernel_rfl))) ?_
   refine WO.one (SA.F sameR sameT _ 13 _ (by kernel_rfl)) 34 (.bool ((str (k.take (((gRu l i).1).length))).toList == (str (gRu l i).1).toList)) (by kernel_rfl) ?_
   refine WO.top (v' := .bool (decide ((str (k.take (((gRu l i).1).length))) = (str (gRu l i).1)))) (congrArg Value.bool (streq (str (k.take (((gRu l i).1).length))) (str (gRu l i).1))) ?_
   refine WO.topP ((str (k.take (((gRu l i).1).length))) = (str (gRu l i).1)) ?_ ?_
   ·
    intro h9
    refine WO.one (SA.F sameR sameT _ 14 _ (by kernel_rfl)) 35 (.bool true) (by kernel_rfl) ?_
    refine WO.doneA (by kernel_rfl) ?_
    refine WQ.keep [0, 1, 2, 6, 7, 35] (e' := [(0, .slice AR nr cr), (1, .int .i64 cl), (2, .string (str k)), (6, .int .i64 0), (7, .int .i64 (i : Int)), (35, .bool true)]) (by kernel_rfl) ?_
    refine WQ.thenN ?_
    refine WE.condT (by kernel_rfl) ?_
    refine WE.seq ?_
    refine WE.region ?_
    refine WO.run 2 0 [(37, .int .i64 (i : Int)), (36, .slice AR nr cr)] (by kernel_rfl) (by kernel_rfl) ?_
    obtain ⟨ad10, hA11⟩ := HL.addr (i := i) (by have := hnr; omega)
    refine WO.ixo (SQ.F 2 (by kernel_rfl)) 38 nr 2 i (i : Int) hA11 (by kernel_rfl) rfl (by omega) ?_
    refine WO.run 1 3 [(39, .pointer (some ((ad10.add (i * 2)).add 1)))] (by kernel_rfl) (by kernel_rfl) ?_
    refine WO.ld (SQ.S 4 (by kernel_rfl)) 40 (.int .i64 ((gRu l i).2)) (by kernel_rfl) (same (HL.at hA11 (gRu_some l i (by have := hnr; omega)) 1 (by kernel_rfl))) ?_
    refine WO.run 1 5 [(6, .int .i64 ((gRu l i).2))] (by kernel_rfl) (by kernel_rfl) ?_
    refine WO.done (by kernel_rfl) ?_
    refine WQ.keep [0, 1, 2, 6, 7] (e' := [(0, .slice AR nr cr), (1, .int .i64 cl), (2, .string (str k)), (6, .int .i64 ((gRu l i).2)), (7, .int .i64 (i : Int))]) (by kernel_rfl) ?_
    refine WQ.thenN ?_
    refine WE.ret ?_
    refine WQ.blkR ?_
    refine WQ.thenR ?_
    refine WQ.thenR ?_
    refine WQ.blkR ?_
    refine WQ.thenR ?_
    refine WQ.ret (v := .int .i64 ((gRu l i).2)) (by kernel_rfl) ?_
    exact ⟨by rw [hbe, class_step (by omega), if_pos (pre_yes (str_inj.1 (by assumption)))], HA⟩
   intro h9
   refine WO.one (SA.F sameR sameT _ 14 _ (by kernel_rfl)) 35 (.bool false) (by kernel_rfl) ?_
   refine WO.doneA (by kernel_rfl) ?_
   refine WQ.keep [0, 1, 2, 6, 7, 35] (e' := [(0, .slice AR nr cr), (1, .int .i64 cl), (2, .string (str k)), (6, .int .i64 0), (7, .int .i64 (i : Int)), (35, .bool false)]) (by kernel_rfl) ?_
   refine WQ.thenN ?_
   refine WE.condF (by kernel_rfl) ?_
   refine WE.skip ?_
   refine WQ.blkN ?_
   refine WQ.thenN ?_
   have hst_ : classR cl k l = classR cl k (l.drop (i + 1)) := by rw [hbe, class_step (by omega), if_neg (by first | exact pre_no1 (by omega) | exact pre_no2 (fun h_ => absurd (congrArg str h_) (by assumption)))]
   refine WE.region ?_
   refine WO.run 1 0 [(13, .int .i64 (i : Int))] (by kernel_rfl) (by kernel_rfl) ?_
   refine WO.one (SQ.F 1 (by kernel_rfl)) 14 (.int .i64 (IntKind.i64.wrap ((i : Int) + 1))) (by kernel_rfl) ?_
   refine WO.top (v' := .int .i64 ((i + 1 : Nat) : Int)) (wrap_i64 (by omega) (by omega)) ?_
   refine WO.run 1 2 [(7, .int .i64 ((i + 1 : Nat) : Int))] (by kernel_rfl) (by kernel_rfl) ?_
   refine WO.done (by kernel_rfl) ?_
   refine WQ.keep [0, 1, 2, 6, 7] (e' := [(0, .slice AR nr cr), (1, .int .i64 cl), (2, .string (str k)), (6, .int .i64 0), (7, .int .i64 ((i + 1 : Nat) : Int))]) (by kernel_rfl) ?_
   refine WQ.round ?_
   intro a_ ha_
   refine ⟨i + 1, ?_, ha_.keep [0, 1, 2, 6, 7] (by kernel_rfl), ?_⟩
   ·
    show nr - (i + 1) < nr - i; omega
   ·
    exact ⟨by omega, hst_, HL, HA⟩
  intro h6
  refine WO.one (SA.F sameR sameT _ 4 _ (by kernel_rfl)) 25 (.bool false) (by kernel_rfl) ?_
  refine WO.off (SA.O sameR sameT _ 5 _ (by kernel_rfl)) 26 (by kernel_rfl) ?_
  refine WO.off (SA.O sameR sameT _ 6 _ (by kernel_rfl)) 27 (by kernel_rfl) ?_
  refine WO.off (SA.O sameR sameT _ 7 _ (by kernel_rfl)) 28 (by kernel_rfl) ?_
  refine WO.off (SA.O sameR sameT _ 8 _ (by kernel_rfl)) 29 (by kernel_rfl) ?_
  refine WO.off (SA.O sameR sameT _ 9 _ (by kernel_rfl)) 30 (by kernel_rfl) ?_
  refine WO.off (SA.O sameR sameT _ 10 _ (by kernel_rfl)) 31 (by kernel_rfl) ?_
  refine WO.off (SA.O sameR sameT _ 11 _ (by kernel_rfl)) 32 (by kernel_rfl) ?_
  refine WO.off (SA.O sameR sameT _ 12 _ (by kernel_rfl)) 33 (by kernel_rfl) ?_
  refine WO.off (SA.O sameR sameT _ 13 _ (by kernel_rfl)) 34 (by kernel_rfl) ?_
  refine WO.one (SA.F sameR sameT _ 14 _ (by kernel_rfl)) 35 (.bool false) (by kernel_rfl) ?_
  refine WO.doneA (by kernel_rfl) ?_
  refine WQ.keep [0, 1, 2, 6, 7, 35] (e' := [(0, .slice AR nr cr), (1, .int .i64 cl), (2, .string (str k)), (6, .int .i64 0), (7, .int .i64 (i : Int)), (35, .bool false)]) (by kernel_rfl) ?_
  refine WQ.thenN ?_
  refine WE.condF (by kernel_rfl) ?_
  refine WE.skip ?_
  refine WQ.blkN ?_
  refine WQ.thenN ?_
  have hst_ : classR cl k l = classR cl k (l.drop (i + 1)) := by rw [hbe, class_step (by omega), if_neg (by first | exact pre_no1 (by omega) | exact pre_no2 (fun h_ => absurd (congrArg str h_) (by assumption)))]
  refine WE.region ?_
  refine WO.run 1 0 [(13, .int .i64 (i : Int))] (by kernel_rfl) (by kernel_rfl) ?_
  refine WO.one (SQ.F 1 (by kernel_rfl)) 14 (.int .i64 (IntKind.i64.wrap ((i : Int) + 1))) (by kernel_rfl) ?_
  refine WO.top (v' := .int .i64 ((i + 1 : Nat) : Int)) (wrap_i64 (by omega) (by omega)) ?_
  refine WO.run 1 2 [(7, .int .i64 ((i + 1 : Nat) : Int))] (by kernel_rfl) (by kernel_rfl) ?_
  refine WO.done (by kernel_rfl) ?_
  refine WQ.keep [0, 1, 2, 6, 7] (e' := [(0, .slice AR nr cr), (1, .int .i64 cl), (2, .string (str k)), (6, .int .i64 0), (7, .int .i64 ((i + 1 : Nat) : Int))]) (by kernel_rfl) ?_
  refine WQ.round ?_
  intro a_ ha_
  refine ⟨i + 1, ?_, ha_.keep [0, 1, 2, 6, 7] (by kernel_rfl), ?_⟩
  ·
   show nr - (i + 1) < nr - i; omega
  ·
   exact ⟨by omega, hst_, HL, HA⟩
 intro h1
 refine WO.done (by kernel_rfl) ?_
 refine WQ.keep [0, 1, 2, 6, 7, 12] (e' := [(0, .slice AR nr cr), (1, .int .i64 cl), (2, .string (str k)), (6, .int .i64 0), (7, .int .i64 (i : Int)), (12, .bool false)]) (by kernel_rfl) ?_
 refine WQ.thenN ?_
 refine WE.condF (by kernel_rfl) ?_
 refine WE.exit ?_
 refine WQ.thenE ?_
 refine WQ.thenE ?_
 refine WQ.blkE ?_
 refine WQ.thenN ?_
 refine WE.seq ?_
 refine WE.region ?_
 refine WO.run 1 0 [(41, .int .i64 cl)] (by kernel_rfl) (by kernel_rfl) ?_
 refine WO.one (SQ.F 1 (by kernel_rfl)) 42 (.int .i64 (IntKind.i64.wrap (cl - 1))) (by kernel_rfl) ?_
 refine WO.top (v' := .int .i64 (cl - 1)) (wrap_i64 rfl (by omega)) ?_
 refine WO.run 1 2 [(6, .int .i64 (cl - 1))] (by kernel_rfl) (by kernel_rfl) ?_
 refine WO.done (by kernel_rfl) ?_
 refine WQ.keep [6] (e' := [(6, .int .i64 (cl - 1))]) (by kernel_rfl) ?_
 refine WQ.thenN ?_
 refine WE.ret ?_
 refine WQ.ret (v := .int .i64 (cl - 1)) (by kernel_rfl) ?_
 exact ⟨by rw [hbe, List.drop_of_length_le (by omega)]; rfl, HA⟩
set_option maxRecDepth 100000 in
set_option maxHeartbeats 400000 in
theorem rof_no (l : List (L × Int)) (AR : Option Addr) (nr cr : Nat) (FR : List Nat) (cl : Int) (ev : Ev) (A : Option Addr) (n cp : Nat) (F : List Nat) (w : World) (HL : VX cRu 2 w FR AR l) (hnr : l.length = nr) (hnrr : nr ≤ 9223372036854775807) (hrl : ∀ r ∈ l, r.1.length ≤ 9223372036854775807) (hmr : mayR cl l = false) :
  Calls Tryd.prog 12 #[.slice AR nr cr, .int .i64 cl, .agg #[.string (str ev.name), .slice A n cp, .int .i64 ev.kind, .int .i64 ev.value, .int .i64 ev.time]] w fun e w' => e = .returned (.tuple #[.int .i64 0, .iface 35 (.int .i64 1)]) ∧ Fr [] w w' := by
 have HA := Fr.refl [] w
 refine enter (N := 29) Tryd.func12 (c := _) rfl (by kernel_rfl) (by kernel_rfl) (e := [(0, .slice AR nr cr), (1, .int .i64 cl), (2, .agg #[.string (str ev.name), .slice A n cp, .int .i64 ev.kind, .int .i64 ev.value, .int .i64 ev.time])]) (by kernel_rfl) ?_
 refine WE.seq ?_
 refine WE.region ?_
 refine WO.bx (SQ.E 0 (by kernel_rfl)) 5 #[.string (str ev.name), .slice A n cp, .int .i64 ev.kind, .int .i64 ev.value, .int .i64 ev.time] 25 (fun g => .pointer (some ⟨g, 0, none⟩)) (by kernel_rfl) (fun _ _ => trivial) ?_
 intro g1 w2 HB4 F3 le5 _
 have nin_g1_FR : g1 ∉ FR := new_nin HL.lt le5
 have ge_HA_g1 := Nat.le_trans HA.size le5
 have HL := HL.keep F3 (fun _ _ => nin0 _)
 have HA := Fr.step0 HA F3
 refine WO.run 2 1 [(7, .nilIface), (6, .int .i64 0)] (by kernel_rfl) (by kernel_rfl) ?_
 refine WO.done (by kernel_rfl) ?_
 refine WQ.keep [0, 1, 5, 6, 7] (e' := [(0, .slice AR nr cr), (1, .int .i64 cl), (5, .pointer (some ⟨g1, 0, none⟩)), (6, .int .i64 0), (7, .nilIface)]) (by kernel_rfl) ?_
 refine WQ.thenN ?_
 refine WE.seq ?_
 refine WE.seq ?_
 refine WE.region ?_
 refine WO.run 2 0 [(11, .int .i64 cl), (10, .slice AR nr cr)] (by kernel_rfl) (by kernel_rfl) ?_
 refine WO.call (SQ.E 2 (by kernel_rfl)) 12 (by kernel_rfl) (rmay_f l AR nr cr FR cl _ HL hnr hnrr hrl) ?_
 rintro _ w6 ⟨rfl, F7⟩
 rw [hmr]
 refine ⟨_, rfl, trivial, ?_⟩
 have HB4 := Blk.keep HB4 F7 (nin0 _)
 have HL := HL.keep F7 (fun _ _ => nin0 _)
 have HA := Fr.step0 HA F7
 refine WO.run 1 3 [(13, .bool true)] (by kernel_rfl) (by kernel_rfl) ?_
 refine WO.done (by kernel_rfl) ?_
 refine WQ.keep [0, 1, 5, 6, 7, 13] (e' := [(0, .slice AR nr cr), (1, .int .i64 cl), (5, .pointer (some ⟨g1, 0, none⟩)), (6, .int .i64 0), (7, .nilIface), (13, .bool true)]) (by kernel_rfl) ?_
 refine WQ.thenN ?_
 refine WE.condT (by kernel_rfl) ?_
 refine WE.seq ?_
 refine WE.region ?_
 refine WO.run 3 0 [(7, .iface 35 (.int .i64 1)), (6, .int .i64 0), (14, .iface 35 (.int .i64 1))] (by kernel_rfl) (by kernel_rfl) ?_
 refine WO.done (by kernel_rfl) ?_
 refine WQ.keep [0, 1, 5, 6, 7] (e' := [(0, .slice AR nr cr), (1, .int .i64 cl), (5, .pointer (some ⟨g1, 0, none⟩)), (6, .int .i64 0), (7, .iface 35 (.int .i64 1))]) (by kernel_rfl) ?_
 refine WQ.thenN ?_
 refine WE.ret ?_
 refine WQ.thenR ?_
 refine WQ.ret (v := .tuple #[.int .i64 0, .iface 35 (.int .i64 1)]) (by kernel_rfl) ?_
 exact ⟨rfl, HA⟩
set_option maxRecDepth 100000 in
set_option maxHeartbeats 400000 in
theorem rof_ok (l : List (L × Int)) (AR : Option Addr) (nr cr : Nat) (FR : List Nat) (cl : Int) (ev : Ev) (A : Option Addr) (n cp : Nat) (F : List Nat) (w : World) (HL : VX cRu 2 w FR AR l) (hnr : l.length = nr) (hnrr : nr ≤ 9223372036854775807) (hrl : ∀ r ∈ l, r.1.length ≤ 9223372036854775807) (hmr : mayR cl l = true) (HT : VX cT 2 w F A ev.tags) (hn : ev.tags.length = n) (hnn : n ≤ 9223372036854775807) (hln : ev.name.length ≤ 9223372036854775807) (hlt : ∀ t ∈ ev.tags, t.1.length ≤ 9223372036854775807 ∧ t.2.length ≤ 9223372036854775807) (hv : -9223372036854775808 ≤ ev.value ∧ ev.value ≤ 9223372036854775807) (hF2 : 2 ∉ F) (HTab : Lib.TabIs Tryd.prog w "internal/strconv.uint64pow10" .u64 Lib.pow10Tab) (HM : MaxI w) :
  Calls Tryd.prog 12 #[.slice AR nr cr, .int .i64 cl, .agg #[.string (str ev.name), .slice A n cp, .int .i64 ev.kind, .int .i64 ev.value, .int .i64 ev.time]] w fun e w' => ResF w w' cl l e (keyE ev) := by
 have HA := Fr.refl [] w
 refine enter (N := 29) Tryd.func12 (c := _) rfl (by kernel_rfl) (by kernel_rfl) (e := [(0, .slice AR nr cr), (1, .int .i64 cl), (2, .agg #[.string (str ev.name), .slice A n cp, .int .i64 ev.kind, .int .i64 ev.value, .int .i64 ev.time])]) (by kernel_rfl) ?_
 refine WE.seq ?_
 refine WE.region ?_
 refine WO.bx (SQ.E 0 (by kernel_rfl)) 5 #[.string (str ev.name), .slice A n cp, .int .i64 ev.kind, .int .i64 ev.value, .int .i64 ev.time] 25 (fun g => .pointer (some ⟨g, 0, none⟩)) (by kernel_rfl) (fun _ _ => trivial) ?_
 intro g1 w2 HB4 F3 le5 _
 have nin_g1_FR : g1 ∉ FR := new_nin HL.lt le5
 have nin_g1_F : g1 ∉ F := new_nin HT.lt le5
 have ne_2_g1 : 2 ≠ g1 := Nat.ne_of_lt (Nat.lt_of_lt_of_le (tab_lt HTab) le5)
 have ne_1_g1 : 1 ≠ g1 := Nat.ne_of_lt (Nat.lt_of_lt_of_le (max_lt HM) le5)
 have ge_HA_g1 := Nat.le_trans HA.size le5
 have HL := HL.keep F3 (fun _ _ => nin0 _)
 have HT := HT.keep F3 (fun _ _ => nin0 _)
 have HTab := tab_keep HTab F3 (nin0 _)
 have HM := max_keep HM F3 (nin0 _)
 have HA := Fr.step0 HA F3
 refine WO.run 2 1 [(7, .nilIface), (6, .int .i64 0)] (by kernel_rfl) (by kernel_rfl) ?_
 refine WO.done (by kernel_rfl) ?_
 refine WQ.keep [0, 1, 5, 6, 7] (e' := [(0, .slice AR nr cr), (1, .int .i64 cl), (5, .pointer (some ⟨g1, 0, none⟩)), (6, .int .i64 0), (7, .nilIface)]) (by kernel_rfl) ?_
 refine WQ.thenN ?_
 refine WE.seq ?_
 refine WE.seq ?_
 refine WE.region ?_
 refine WO.run 2 0 [(11, .int .i64 cl), (10, .slice AR nr cr)] (by kernel_rfl) (by kernel_rfl) ?_
 refine WO.call (SQ.E 2 (by kernel_rfl)) 12 (by kernel_rfl) (rmay_f l AR nr cr FR cl _ HL hnr hnrr hrl) ?_
 rintro _ w6 ⟨rfl, F7⟩
 rw [hmr]
 refine ⟨_, rfl, trivial, ?_⟩
 have HB4 := Blk.keep HB4 F7 (nin0 _)
 have HL := HL.keep F7 (fun _ _ => nin0 _)
 have HT := HT.keep F7 (fun _ _ => nin0 _)
 have HTab := tab_keep HTab F7 (nin0 _)
 have HM := max_keep HM F7 (nin0 _)
 have HA := Fr.step0 HA F7
 refine WO.run 1 3 [(13, .bool false)] (by kernel_rfl) (by kernel_rfl) ?_
 refine WO.done (by kernel_rfl) ?_
 refine WQ.keep [0, 1, 5, 6, 7, 13] (e' := [(0, .slice AR nr cr), (1, .int .i64 cl), (5, .pointer (some ⟨g1, 0, none⟩)), (6, .int .i64 0), (7, .nilIface), (13, .bool false)]) (by kernel_rfl) ?_
 refine WQ.thenN ?_
 refine WE.condF (by kernel_rfl) ?_
 refine WE.skip ?_
 refine WQ.thenN ?_
 refine WE.seq ?_
 refine WE.region ?_
 refine WO.ldB (SQ.S 0 (by kernel_rfl)) 16 [.string (str ev.name), .slice A n cp, .int .i64 ev.kind, .int .i64 ev.value, .int .i64 ev.time] g1 0 (by kernel_rfl) (by kernel_rfl) (same HB4) (by kernel_rfl) ?_
 cases hk_ : keyE ev
 rotate_left
 ·
  rename_i co
  refine WO.call (SQ.E 1 (by kernel_rfl)) 17 (by kernel_rfl) (key_g ev A n cp F _ HT hn hnn hln hlt hv hF2 HTab HM) ?_
  intro e_ w8 hr_
  rw [hk_] at hr_
  obtain ⟨rfl, F9⟩ := hr_
  refine ⟨_, rfl, trivial, ?_⟩
  have HB4 := Blk.keep HB4 F9 (nin0 _)
  have HL := HL.keep F9 (fun _ _ => nin0 _)
  have HT := HT.keep F9 (fun _ _ => nin0 _)
  have HTab := tab_keep HTab F9 (nin0 _)
  have HM := max_keep HM F9 (nin0 _)
  have HA := Fr.step0 HA F9
  refine WO.run 5 2 [(9, .iface 35 (.int .i64 co)), (8, .string (⟨#[]⟩)), (19, .iface 35 (.int .i64 co)), (18, .string (⟨#[]⟩)), (15, .tuple #[.string (⟨#[]⟩), .iface 35 (.int .i64 co)])] (by kernel_rfl) (by kernel_rfl) ?_
  refine WO.done (by kernel_rfl) ?_
  refine WQ.keep [0, 1, 6, 7, 8, 9] (e' := [(0, .slice AR nr cr), (1, .int .i64 cl), (6, .int .i64 0), (7, .nilIface), (8, .string (⟨#[]⟩)), (9, .iface 35 (.int .i64 co))]) (by kernel_rfl) ?_
  refine WQ.thenN ?_
  refine WE.seq ?_
  refine WE.seq ?_
  refine WE.region ?_
  refine WO.run 2 0 [(21, .bool true), (20, .iface 35 (.int .i64 co))] (by kernel_rfl) (by kernel_rfl) ?_
  refine WO.done (by kernel_rfl) ?_
  refine WQ.keep [0, 1, 6, 7, 8, 9, 21] (e' := [(0, .slice AR nr cr), (1, .int .i64 cl), (6, .int .i64 0), (7, .nilIface), (8, .string (⟨#[]⟩)), (9, .iface 35 (.int .i64 co)), (21, .bool true)]) (by kernel_rfl) ?_
  refine WQ.thenN ?_
  refine WE.condT (by kernel_rfl) ?_
  refine WE.seq ?_
  refine WE.region ?_
  refine WO.run 3 0 [(7, .iface 35 (.int .i64 co)), (6, .int .i64 0), (22, .iface 35 (.int .i64 co))] (by kernel_rfl) (by kernel_rfl) ?_
  refine WO.done (by kernel_rfl) ?_
  refine WQ.keep [0, 1, 6, 7, 8] (e' := [(0, .slice AR nr cr), (1, .int .i64 cl), (6, .int .i64 0), (7, .iface 35 (.int .i64 co)), (8, .string (⟨#[]⟩))]) (by kernel_rfl) ?_
  refine WQ.thenN ?_
  refine WE.ret ?_
  refine WQ.thenR ?_
  refine WQ.ret (v := .tuple #[.int .i64 0, .iface 35 (.int .i64 co)]) (by kernel_rfl) ?_
  exact ⟨rfl, HA⟩
 ·
  rename_i k
  refine WO.call (SQ.E 1 (by kernel_rfl)) 17 (by kernel_rfl) (key_g ev A n cp F _ HT hn hnn hln hlt hv hF2 HTab HM) ?_
  intro e_ w10 hr_
  rw [hk_] at hr_
  obtain ⟨rfl, F11⟩ := hr_
  refine ⟨_, rfl, trivial, ?_⟩
  have HB4 := Blk.keep HB4 F11 (nin0 _)
  have HL := HL.keep F11 (fun _ _ => nin0 _)
  have HT := HT.keep F11 (fun _ _ => nin0 _)
  have HTab := tab_keep HTab F11 (nin0 _)
  have HM := max_keep HM F11 (nin0 _)
  have HA := Fr.step0 HA F11
  refine WO.run 5 2 [(9, .nilIface), (8, .string (str k)), (19, .nilIface), (18, .string (str k)), (15, .tuple #[.string (str k), .nilIface])] (by kernel_rfl) (by kernel_rfl) ?_
  refine WO.done (by kernel_rfl) ?_
  refine WQ.keep [0, 1, 6, 7, 8, 9] (e' := [(0, .slice AR nr cr), (1, .int .i64 cl), (6, .int .i64 0), (7, .nilIface), (8, .string (str k)), (9, .nilIface)]) (by kernel_rfl) ?_
  refine WQ.thenN ?_
  refine WE.seq ?_
  refine WE.seq ?_
  refine WE.region ?_
  refine WO.run 2 0 [(21, .bool false), (20, .nilIface)] (by kernel_rfl) (by kernel_rfl) ?_
  refine WO.done (by kernel_rfl) ?_
  refine WQ.keep [0, 1, 6, 7, 8, 9, 21] (e' := [(0, .slice AR nr cr), (1, .int .i64 cl), (6, .int .i64 0), (7, .nilIface), (8, .string (str k)), (9, .nilIface), (21, .bool false)]) (by kernel_rfl) ?_
  refine WQ.thenN ?_
  refine WE.condF (by kernel_rfl) ?_
  refine WE.skip ?_
  refine WQ.thenN ?_
  refine WE.seq ?_
  refine WE.region ?_
  refine WO.run 3 0 [(25, .string (str k)), (24, .int .i64 cl), (23, .slice AR nr cr)] (by kernel_rfl) (by kernel_rfl) ?_
  refine WO.call (SQ.E 3 (by kernel_rfl)) 26 (by kernel_rfl) (class_ok l AR nr cr FR cl k _ HL hnr hnrr hrl hmr) ?_
  rintro _ w12 ⟨rfl, F13⟩
  refine ⟨_, rfl, trivial, ?_⟩
  have HB4 := Blk.keep HB4 F13 (nin0 _)
  have HL := HL.keep F13 (fun _ _ => nin0 _)
  have HT := HT.keep F13 (fun _ _ => nin0 _)
  have HTab := tab_keep HTab F13 (nin0 _)
  have HM := max_keep HM F13 (nin0 _)
  have HA := Fr.step0 HA F13
  refine WO.run 4 4 [(7, .nilIface), (6, .int .i64 (classR cl k l)), (28, .nilIface), (27, .int .i64 (classR cl k l))] (by kernel_rfl) (by kernel_rfl) ?_
  refine WO.done (by kernel_rfl) ?_
  refine WQ.keep [6, 7] (e' := [(6, .int .i64 (classR cl k l)), (7, .nilIface)]) (by kernel_rfl) ?_
  refine WQ.thenN ?_
  refine WE.ret ?_
  refine WQ.ret (v := .tuple #[.int .i64 (classR cl k l), .nilIface]) (by kernel_rfl) ?_
  exact ⟨rfl, HA⟩
set_option maxRecDepth 100000 in
set_option maxHeartbeats 400000 in
theorem code_1 (w : World) :
  Calls Tryd.prog 17 #[.iface 35 (.int .i64 1)] w fun e w' => e = .returned (.int .i64 1) ∧ Fr [] w w' := by
 have HA := Fr.refl [] w
 refine enter (N := 15) Tryd.func17 (c := _) rfl (by kernel_rfl) (by kernel_rfl) (e := [(0, .iface 35 (.int .i64 1))]) (by kernel_rfl) ?_
 refine WE.seq ?_
 refine WE.region ?_
 refine WO.run 1 0 [(2, .int .i64 0)] (by kernel_rfl) (by kernel_rfl) ?_
 refine WO.done (by kernel_rfl) ?_
 refine WQ.keep [0, 2] (e' := [(0, .iface 35 (.int .i64 1)), (2, .int .i64 0)]) (by kernel_rfl) ?_
 refine WQ.thenN ?_
 refine WE.seq ?_
 refine WE.seq ?_
 refine WE.region ?_
 refine WO.run 2 0 [(5, .bool false), (4, .iface 35 (.int .i64 1))] (by kernel_rfl) (by kernel_rfl) ?_
 refine WO.done (by kernel_rfl) ?_
 refine WQ.keep [0, 2, 5] (e' := [(0, .iface 35 (.int .i64 1)), (2, .int .i64 0), (5, .bool false)]) (by kernel_rfl) ?_
 refine WQ.thenN ?_
 refine WE.condF (by kernel_rfl) ?_
 refine WE.skip ?_
 refine WQ.thenN ?_
 refine WE.seq ?_
 refine WE.seq ?_
 refine WE.region ?_
 refine WO.run 1 0 [(3, .int .i64 1)] (by kernel_rfl) (by kernel_rfl) ?_
 refine WO.done (by kernel_rfl) ?_
 refine WQ.keep [0, 2, 3] (e' := [(0, .iface 35 (.int .i64 1)), (2, .int .i64 0), (3, .int .i64 1)]) (by kernel_rfl) ?_
 refine WQ.thenN ?_
 refine WE.block ?_
 refine WE.unroll ?_
 refine WL.go ?_
 refine WE.seq ?_
 refine WE.seq ?_
 refine WE.region ?_
 refine WO.run 2 0 [(7, .bool true), (6, .int .i64 1)] (by kernel_rfl) (by kernel_rfl) ?_
 refine WO.done (by kernel_rfl) ?_
 refine WQ.keep [0, 2, 3, 7] (e' := [(0, .iface 35 (.int .i64 1)), (2, .int .i64 0), (3, .int .i64 1), (7, .bool true)]) (by kernel_rfl) ?_
 refine WQ.thenN ?_
 refine WE.condT (by kernel_rfl) ?_
 refine WE.skip ?_
 refine WQ.thenN ?_
 refine WE.seq ?_
 refine WE.block ?_
 refine WE.seq ?_
 refine WE.region ?_
 refine WO.run 4 0 [(13, .bool true), (12, .iface 35 (.int .i64 1)), (11, .int .i64 1), (10, .iface 35 (.int .i64 1))] (by kernel_rfl) (by kernel_rfl) ?_
 refine WO.done (by kernel_rfl) ?_
 refine WQ.keep [0, 2, 3, 7, 13] (e' := [(0, .iface 35 (.int .i64 1)), (2, .int .i64 0), (3, .int .i64 1), (7, .bool true), (13, .bool true)]) (by kernel_rfl) ?_
 refine WQ.thenN ?_
 refine WE.condT (by kernel_rfl) ?_
 refine WE.seq ?_
 refine WE.region ?_
 refine WO.run 2 0 [(2, .int .i64 1), (14, .int .i64 1)] (by kernel_rfl) (by kernel_rfl) ?_
 refine WO.done (by kernel_rfl) ?_
 refine WQ.keep [0, 2, 3, 7, 13] (e' := [(0, .iface 35 (.int .i64 1)), (2, .int .i64 1), (3, .int .i64 1), (7, .bool true), (13, .bool true)]) (by kernel_rfl) ?_
 refine WQ.thenN ?_
 refine WE.ret ?_
 refine WQ.blkR ?_
 refine WQ.thenR ?_
 refine WQ.thenR ?_
 refine WQ.blkR ?_
 refine WQ.thenR ?_
 refine WQ.ret (v := .int .i64 1) (by kernel_rfl) ?_
 exact ⟨rfl, HA⟩
set_option maxRecDepth 100000 in
set_option maxHeartbeats 400000 in
theorem code_5 (w : World) :
  Calls Tryd.prog 17 #[.iface 35 (.int .i64 5)] w fun e w' => e = .returned (.int .i64 5) ∧ Fr [] w w' := by
 have HA := Fr.refl [] w
 refine enter (N := 15) Tryd.func17 (c := _) rfl (by kernel_rfl) (by kernel_rfl) (e := [(0, .iface 35 (.int .i64 5))]) (by kernel_rfl) ?_
 refine WE.seq ?_
 refine WE.region ?_
 refine WO.run 1 0 [(2, .int .i64 0)] (by kernel_rfl) (by kernel_rfl) ?_
 refine WO.done (by kernel_rfl) ?_
 refine WQ.keep [0, 2] (e' := [(0, .iface 35 (.int .i64 5)), (2, .int .i64 0)]) (by kernel_rfl) ?_
 refine WQ.thenN ?_
 refine WE.seq ?_
 refine WE.seq ?_
 refine WE.region ?_
 refine WO.run 2 0 [(5, .bool false), (4, .iface 35 (.int .i64 5))] (by kernel_rfl) (by kernel_rfl) ?_
 refine WO.done (by kernel_rfl) ?_
 refine WQ.keep [0, 2, 5] (e' := [(0, .iface 35 (.int .i64 5)), (2, .int .i64 0), (5, .bool false)]) (by kernel_rfl) ?_
 refine WQ.thenN ?_
 refine WE.condF (by kernel_rfl) ?_
 refine WE.skip ?_
 refine WQ.thenN ?_
 refine WE.seq ?_
 refine WE.seq ?_
 refine WE.region ?_
 refine WO.run 1 0 [(3, .int .i64 1)] (by kernel_rfl) (by kernel_rfl) ?_
 refine WO.done (by kernel_rfl) ?_
 refine WQ.keep [0, 2, 3] (e' := [(0, .iface 35 (.int .i64 5)), (2, .int .i64 0), (3, .int .i64 1)]) (by kernel_rfl) ?_
 refine WQ.thenN ?_
 refine WE.block ?_
 refine WE.unroll ?_
 refine WL.go ?_
 refine WE.seq ?_
 refine WE.seq ?_
 refine WE.region ?_
 refine WO.run 2 0 [(7, .bool true), (6, .int .i64 1)] (by kernel_rfl) (by kernel_rfl) ?_
 refine WO.done (by kernel_rfl) ?_
 refine WQ.keep [0, 2, 3, 7] (e' := [(0, .iface 35 (.int .i64 5)), (2, .int .i64 0), (3, .int .i64 1), (7, .bool true)]) (by kernel_rfl) ?_
 refine WQ.thenN ?_
 refine WE.condT (by kernel_rfl) ?_
 refine WE.skip ?_
 refine WQ.thenN ?_
 refine WE.seq ?_
 refine WE.block ?_
 refine WE.seq ?_
 refine WE.region ?_
 refine WO.run 4 0 [(13, .bool false), (12, .iface 35 (.int .i64 1)), (11, .int .i64 1), (10, .iface 35 (.int .i64 5))] (by kernel_rfl) (by kernel_rfl) ?_
 refine WO.done (by kernel_rfl) ?_
 refine WQ.keep [0, 2, 3, 7, 13] (e' := [(0, .iface 35 (.int .i64 5)), (2, .int .i64 0), (3, .int .i64 1), (7, .bool true), (13, .bool false)]) (by kernel_rfl) ?_
 refine WQ.thenN ?_
 refine WE.condF (by kernel_rfl) ?_
 refine WE.skip ?_
 refine WQ.blkN ?_
 refine WQ.thenN ?_
 refine WE.region ?_
 refine WO.run 3 0 [(3, .int .i64 2), (9, .int .i64 2), (8, .int .i64 1)] (by kernel_rfl) (by kernel_rfl) ?_
 refine WO.done (by kernel_rfl) ?_
 refine WQ.keep [0, 2, 3, 7, 13] (e' := [(0, .iface 35 (.int .i64 5)), (2, .int .i64 0), (3, .int .i64 2), (7, .bool true), (13, .bool false)]) (by kernel_rfl) ?_
 refine WQ.thenL ?_
 refine WL.go ?_
 refine WE.seq ?_
 refine WE.seq ?_
 refine WE.region ?_
 refine WO.run 2 0 [(7, .bool true), (6, .int .i64 2)] (by kernel_rfl) (by kernel_rfl) ?_
 refine WO.done (by kernel_rfl) ?_
 refine WQ.keep [0, 2, 3, 7, 13] (e' := [(0, .iface 35 (.int .i64 5)), (2, .int .i64 0), (3, .int .i64 2), (7, .bool true), (13, .bool false)]) (by kernel_rfl) ?_
 refine WQ.thenN ?_
 refine WE.condT (by kernel_rfl) ?_
 refine WE.skip ?_
 refine WQ.thenN ?_
 refine WE.seq ?_
 refine WE.block ?_
 refine WE.seq ?_
 refine WE.region ?_
 refine WO.run 4 0 [(13, .bool false), (12, .iface 35 (.int .i64 2)), (11, .int .i64 2), (10, .iface 35 (.int .i64 5))] (by kernel_rfl) (by kernel_rfl) ?_
 refine WO.done (by kernel_rfl) ?_
 refine WQ.keep [0, 2, 3, 7, 13] (e' := [(0, .iface 35 (.int .i64 5)), (2, .int .i64 0), (3, .int .i64 2), (7, .bool true), (13, .bool false)]) (by kernel_rfl) ?_
 refine WQ.thenN ?_
 refine WE.condF (by kernel_rfl) ?_
 refine WE.skip ?_
 refine WQ.blkN ?_
 refine WQ.thenN ?_
 refine WE.region ?_
 refine WO.run 3 0 [(3, .int .i64 3), (9, .int .i64 3), (8, .int .i64 2)] (by kernel_rfl) (by kernel_rfl) ?_
 refine WO.done (by kernel_rfl) ?_
 refine WQ.keep [0, 2, 3, 7, 13] (e' := [(0, .iface 35 (.int .i64 5)), (2, .int .i64 0), (3, .int .i64 3), (7, .bool true), (13, .bool false)]) (by kernel_rfl) ?_
 refine WQ.thenL ?_
 refine WL.go ?_
 refine WE.seq ?_
 refine WE.seq ?_
 refine WE.region ?_
 refine WO.run 2 0 [(7, .bool true), (6, .int .i64 3)] (by kernel_rfl) (by kernel_rfl) ?_
 refine WO.done (by kernel_rfl) ?_
 refine WQ.keep [0, 2, 3, 7, 13] (e' := [(0, .iface 35 (.int .i64 5)), (2, .int .i64 0), (3, .int .i64 3), (7, .bool true), (13, .bool false)]) (by kernel_rfl) ?_
 refine WQ.thenN ?_
 refine WE.condT (by kernel_rfl) ?_
 refine WE.skip ?_
 refine WQ.thenN ?_
 refine WE.seq ?_
 refine WE.block ?_
 refine WE.seq ?_
 refine WE.region ?_
 refine WO.run 4 0 [(13, .bool false), (12, .iface 35 (.int .i64 3)), (11, .int .i64 3), (10, .iface 35 (.int .i64 5))] (by kernel_rfl) (by kernel_rfl) ?_
 refine WO.done (by kernel_rfl) ?_
 refine WQ.keep [0, 2, 3, 7, 13] (e' := [(0, .iface 35 (.int .i64 5)), (2, .int .i64 0), (3, .int .i64 3), (7, .bool true), (13, .bool false)]) (by kernel_rfl) ?_
 refine WQ.thenN ?_
 refine WE.condF (by kernel_rfl) ?_
 refine WE.skip ?_
 refine WQ.blkN ?_
 refine WQ.thenN ?_
 refine WE.region ?_
 refine WO.run 3 0 [(3, .int .i64 4), (9, .int .i64 4), (8, .int .i64 3)] (by kernel_rfl) (by kernel_rfl) ?_
 refine WO.done (by kernel_rfl) ?_
 refine WQ.keep [0, 2, 3, 7, 13] (e' := [(0, .iface 35 (.int .i64 5)), (2, .int .i64 0), (3, .int .i64 4), (7, .bool true), (13, .bool false)]) (by kernel_rfl) ?_
 refine WQ.thenL ?_
 refine WL.go ?_
 refine WE.seq ?_
 refine WE.seq ?_
 refine WE.region ?_
 refine WO.run 2 0 [(7, .bool true), (6, .int .i64 4)] (by kernel_rfl) (by kernel_rfl) ?_
 refine WO.done (by kernel_rfl) ?_
 refine WQ.keep [0, 2, 3, 7, 13] (e' := [(0, .iface 35 (.int .i64 5)), (2, .int .i64 0), (3, .int .i64 4), (7, .bool true), (13, .bool false)]) (by kernel_rfl) ?_
 refine WQ.thenN ?_
 refine WE.condT (by kernel_rfl) ?_
 refine WE.skip ?_
 refine WQ.thenN ?_
 refine WE.seq ?_
 refine WE.block ?_
 refine WE.seq ?_
 refine WE.region ?_
 refine WO.run 4 0 [(13, .bool false), (12, .iface 35 (.int .i64 4)), (11, .int .i64 4), (10, .iface 35 (.int .i64 5))] (by kernel_rfl) (by kernel_rfl) ?_
 refine WO.done (by kernel_rfl) ?_
 refine WQ.keep [0, 2, 3, 7, 13] (e' := [(0, .iface 35 (.int .i64 5)), (2, .int .i64 0), (3, .int .i64 4), (7, .bool true), (13, .bool false)]) (by kernel_rfl) ?_
 refine WQ.thenN ?_
 refine WE.condF (by kernel_rfl) ?_
 refine WE.skip ?_
 refine WQ.blkN ?_
 refine WQ.thenN ?_
 refine WE.region ?_
 refine WO.run 3 0 [(3, .int .i64 5), (9, .int .i64 5), (8, .int .i64 4)] (by kernel_rfl) (by kernel_rfl) ?_
 refine WO.done (by kernel_rfl) ?_
 refine WQ.keep [0, 2, 3, 7, 13] (e' := [(0, .iface 35 (.int .i64 5)), (2, .int .i64 0), (3, .int .i64 5), (7, .bool true), (13, .bool false)]) (by kernel_rfl) ?_
 refine WQ.thenL ?_
 refine WL.go ?_
 refine WE.seq ?_
 refine WE.seq ?_
 refine WE.region ?_
 refine WO.run 2 0 [(7, .bool true), (6, .int .i64 5)] (by kernel_rfl) (by kernel_rfl) ?_
 refine WO.done (by kernel_rfl) ?_
 refine WQ.keep [0, 2, 3, 7, 13] (e' := [(0, .iface 35 (.int .i64 5)), (2, .int .i64 0), (3, .int .i64 5), (7, .bool true), (13, .bool false)]) (by kernel_rfl) ?_
 refine WQ.thenN ?_
 refine WE.condT (by kernel_rfl) ?_
 refine WE.skip ?_
 refine WQ.thenN ?_
 refine WE.seq ?_
 refine WE.block ?_
 refine WE.seq ?_
 refine WE.region ?_
 refine WO.run 4 0 [(13, .bool true), (12, .iface 35 (.int .i64 5)), (11, .int .i64 5), (10, .iface 35 (.int .i64 5))] (by kernel_rfl) (by kernel_rfl) ?_
 refine WO.done (by kernel_rfl) ?_
 refine WQ.keep [0, 2, 3, 7, 13] (e' := [(0, .iface 35 (.int .i64 5)), (2, .int .i64 0), (3, .int .i64 5), (7, .bool true), (13, .bool true)]) (by kernel_rfl) ?_
 refine WQ.thenN ?_
 refine WE.condT (by kernel_rfl) ?_
 refine WE.seq ?_
 refine WE.region ?_
 refine WO.run 2 0 [(2, .int .i64 5), (14, .int .i64 5)] (by kernel_rfl) (by kernel_rfl) ?_
 refine WO.done (by kernel_rfl) ?_
 refine WQ.keep [0, 2, 3, 7, 13] (e' := [(0, .iface 35 (.int .i64 5)), (2, .int .i64 5), (3, .int .i64 5), (7, .bool true), (13, .bool true)]) (by kernel_rfl) ?_
 refine WQ.thenN ?_
 refine WE.ret ?_
 refine WQ.blkR ?_
 refine WQ.thenR ?_
 refine WQ.thenR ?_
 refine WQ.blkR ?_
 refine WQ.thenR ?_
 refine WQ.ret (v := .int .i64 5) (by kernel_rfl) ?_
 exact ⟨rfl, HA⟩
set_option maxRecDepth 100000 in
set_option maxHeartbeats 400000 in
theorem rcanon_bad (ev : Ev) (A : Option Addr) (n cp : Nat) (F : List Nat) (w : World) (HT : VX cT 2 w F A ev.tags) (hn : ev.tags.length = n) (hnn : n ≤ 9223372036854775807) (hln : ev.name.length ≤ 9223372036854775807) (hlt : ∀ t ∈ ev.tags, t.1.length ≤ 9223372036854775807 ∧ t.2.length ≤ 9223372036854775807) (hmay : mayE ev = false) :
  Calls Tryd.prog 31 #[.agg #[.string (str ev.name), .slice A n cp, .int .i64 ev.kind, .int .i64 ev.value, .int .i64 ev.time]] w fun e w' => e = .returned (.tuple #[.agg #[.string (⟨#[]⟩), .slice none 0 0, .int .i64 0, .int .i64 0, .int .i64 0], .int .i64 1]) ∧ Fr [] w w' := by
 have HA := Fr.refl [] w
 refine enter (N := 81) Tryd.func31 (c := _) rfl (by kernel_rfl) (by kernel_rfl) (e := [(0, .agg #[.string (str ev.name), .slice A n cp, .int .i64 ev.kind, .int .i64 ev.value, .int .i64 ev.time])]) (by kernel_rfl) ?_
 refine WE.seq ?_
 refine WE.region ?_
 refine WO.bx (SQ.E 0 (by kernel_rfl)) 1 #[.string (str ev.name), .slice A n cp, .int .i64 ev.kind, .int .i64 ev.value, .int .i64 ev.time] 25 (fun g => .pointer (some ⟨g, 0, none⟩)) (by kernel_rfl) (fun _ _ => trivial) ?_
 intro g1 w2 HB4 F3 le5 _
 have nin_g1_F : g1 ∉ F := new_nin HT.lt le5
 have ge_HA_g1 := Nat.le_trans HA.size le5
 have HT := HT.keep F3 (fun _ _ => nin0 _)
 have HA := Fr.step0 HA F3
 refine WO.bx (SQ.E 1 (by kernel_rfl)) 2 #[.string (⟨#[]⟩), .slice none 0 0, .int .i64 0, .int .i64 0, .int .i64 0] 25 (fun g => .pointer (some ⟨g, 0, none⟩)) (by kernel_rfl) (fun _ _ => trivial) ?_
 intro g6 w7 HB9 F8 le10 _
 have ne_g1_g6 : g1 ≠ g6 := Nat.ne_of_lt (Nat.lt_of_lt_of_le HB4.lt le10)
 have nin_g6_F : g6 ∉ F := new_nin HT.lt le10
 have ge_HA_g6 := Nat.le_trans HA.size le10
 have HB4 := Blk.keep HB4 F8 (nin0 _)
 have HT := HT.keep F8 (fun _ _ => nin0 _)
 have HA := Fr.step0 HA F8
 refine WO.run 1 2 [(3, .int .i64 0)] (by kernel_rfl) (by kernel_rfl) ?_
 refine WO.done (by kernel_rfl) ?_
 refine WQ.keep [1, 2, 3] (e' := [(1, .pointer (some ⟨g1, 0, none⟩)), (2, .pointer (some ⟨g6, 0, none⟩)), (3, .int .i64 0)]) (by kernel_rfl) ?_
 refine WQ.thenN ?_
 refine WE.seq ?_
 refine WE.region ?_
 refine WO.ldB (SQ.S 0 (by kernel_rfl)) 9 [.string (str ev.name), .slice A n cp, .int .i64 ev.kind, .int .i64 ev.value, .int .i64 ev.time] g1 0 (by kernel_rfl) (by kernel_rfl) (same HB4) (by kernel_rfl) ?_
 refine WO.call (SQ.E 1 (by kernel_rfl)) 10 (by kernel_rfl) (may_r ev A n cp F _ HT hn hnn hln hlt) ?_
 rintro _ w11 ⟨rfl, F12⟩
 rw [hmay]
 refine ⟨_, rfl, trivial, ?_⟩
 have HB4 := Blk.keep HB4 F12 (nin0 _)
 have HB9 := Blk.keep HB9 F12 (nin0 _)
 have HT := HT.keep F12 (fun _ _ => nin0 _)
 have HA := Fr.step0 HA F12
 refine WO.run 1 2 [(4, .bool false)] (by kernel_rfl) (by kernel_rfl) ?_
 refine WO.done (by kernel_rfl) ?_
 refine WQ.keep [1, 2, 3, 4] (e' := [(1, .pointer (some ⟨g1, 0, none⟩)), (2, .pointer (some ⟨g6, 0, none⟩)), (3, .int .i64 0), (4, .bool false)]) (by kernel_rfl) ?_
 refine WQ.thenN ?_
 refine WE.seq ?_
 refine WE.seq ?_
 refine WE.region ?_
 refine WO.run 2 0 [(12, .bool true), (11, .bool false)] (by kernel_rfl) (by kernel_rfl) ?_
 refine WO.done (by kernel_rfl) ?_
 refine WQ.keep [1, 2, 3, 12] (e' := [(1, .pointer (some ⟨g1, 0, none⟩)), (2, .pointer (some ⟨g6, 0, none⟩)), (3, .int .i64 0), (12, .bool true)]) (by kernel_rfl) ?_
 refine WQ.thenN ?_
 refine WE.condT (by kernel_rfl) ?_
 refine WE.seq ?_
 refine WE.region ?_
 refine WO.run 1 0 [(13, .agg #[.string (⟨#[]⟩), .slice none 0 0, .int .i64 0, .int .i64 0, .int .i64 0])] (by kernel_rfl) (by kernel_rfl) ?_
 refine WO.st (SQ.E 1 (by kernel_rfl)) g6 0 [.string (⟨#[]⟩), .slice none 0 0, .int .i64 0, .int .i64 0, .int .i64 0] #[.string (⟨#[]⟩), .slice none 0 0, .int .i64 0, .int .i64 0, .int .i64 0] (by kernel_rfl) HB9 (by kernel_rfl) (by kernel_rfl) (fun _ _ => trivial) ?_
 intro w13 HB15 F14 _
 have HB4 := Blk.keep HB4 F14 (ninC ne_g1_g6 (nin0 _))
 have HT := HT.keep F14 (djB nin_g6_F)
 have HA := Fr.step HA F14 (inSR ge_HA_g6 inS0)
 refine WO.run 1 2 [(3, .int .i64 1)] (by kernel_rfl) (by kernel_rfl) ?_
 refine WO.done (by kernel_rfl) ?_
 refine WQ.keep [1, 2, 3] (e' := [(1, .pointer (some ⟨g1, 0, none⟩)), (2, .pointer (some ⟨g6, 0, none⟩)), (3, .int .i64 1)]) (by kernel_rfl) ?_
 refine WQ.thenN ?_
 refine WE.ret ?_
 refine WQ.thenR ?_
 refine WQ.ret2 (fn := Tryd.f31) (show Tryd.f31.results = #[.cell 2 25, .tmp 3] by kernel_rfl) (show resOk _ _ _ _ (.agg #[.string (⟨#[]⟩), .slice none 0 0, .int .i64 0, .int .i64 0, .int .i64 0]) from ⟨by kernel_rfl, ⟨g6, 0, none⟩, by kernel_rfl, ldVarB [.string (⟨#[]⟩), .slice none 0 0, .int .i64 0, .int .i64 0, .int .i64 0] (by kernel_rfl) (by kernel_rfl) (by kernel_rfl) HB15 (by kernel_rfl)⟩) (show resOk _ _ _ _ (.int .i64 1) from ⟨by kernel_rfl, by kernel_rfl⟩) ?_
 exact ⟨rfl, HA⟩
set_option maxRecDepth 100000 in
set_option maxHeartbeats 1000000 in
theorem rcanon_ok (ev : Ev) (A : Option Addr) (n cp : Nat) (F : List Nat) (w : World) (HT : VX cT 2 w F A ev.tags) (hn : ev.tags.length = n) (hnn : n ≤ 9223372036854775807) (hln : ev.name.length ≤ 9223372036854775807) (hlt : ∀ t ∈ ev.tags, t.1.length ≤ 9223372036854775807 ∧ t.2.length ≤ 9223372036854775807) (hmay : mayE ev = true) :
  Calls Tryd.prog 31 #[.agg #[.string (str ev.name), .slice A n cp, .int .i64 ev.kind, .int .i64 ev.value, .int .i64 ev.time]] w fun e w' => ResD w w' e (canonE ev) := by
 have h6_ := (may_parts hmay).2.2.1
 have HA := Fr.refl [] w
 refine enter (N := 81) Tryd.func31 (c := _) rfl (by kernel_rfl) (by kernel_rfl) (e := [(0, .agg #[.string (str ev.name), .slice A n cp, .int .i64 ev.kind, .int .i64 ev.value, .int .i64 ev.time])]) (by kernel_rfl) ?_
 refine WE.seq ?_
 refine WE.region ?_
 refine WO.bx (SQ.E 0 (by kernel_rfl)) 1 #[.string (str ev.name), .slice A n cp, .int .i64 ev.kind, .int .i64 ev.value, .int .i64 ev.time] 25 (fun g => .pointer (some ⟨g, 0, none⟩)) (by kernel_rfl) (fun _ _ => trivial) ?_
 intro g1 w2 HB4 F3 le5 _
 have nin_g1_F : g1 ∉ F := new_nin HT.lt le5
 have ge_HA_g1 := Nat.le_trans HA.size le5
 have HT := HT.keep F3 (fun _ _ => nin0 _)
 have HA := Fr.step0 HA F3
 refine WO.bx (SQ.E 1 (by kernel_rfl)) 2 #[.string (⟨#[]⟩), .slice none 0 0, .int .i64 0, .int .i64 0, .int .i64 0] 25 (fun g => .pointer (some ⟨g, 0, none⟩)) (by kernel_rfl) (fun _ _ => trivial) ?_
 intro g6 w7 HB9 F8 le10 _
 have ne_g1_g6 : g1 ≠ g6 := Nat.ne_of_lt (Nat.lt_of_lt_of_le HB4.lt le10)
 have nin_g6_F : g6 ∉ F := new_nin HT.lt le10
 have ge_HA_g6 := Nat.le_trans HA.size le10
 have HB4 := Blk.keep HB4 F8 (nin0 _)
 have HT := HT.keep F8 (fun _ _ => nin0 _)
 have HA := Fr.step0 HA F8
 refine WO.run 1 2 [(3, .int .i64 0)] (by kernel_rfl) (by kernel_rfl) ?_
 refine WO.done (by kernel_rfl) ?_
 refine WQ.keep [1, 2, 3] (e' := [(1, .pointer (some ⟨g1, 0, none⟩)), (2, .pointer (some ⟨g6, 0, none⟩)), (3, .int .i64 0)]) (by kernel_rfl) ?_
 refine WQ.thenN ?_
 refine WE.seq ?_
 refine WE.region ?_
 refine WO.ldB (SQ.S 0 (by kernel_rfl)) 9 [.string (str ev.name), .slice A n cp, .int .i64 ev.kind, .int .i64 ev.value, .int .i64 ev.time] g1 0 (by kernel_rfl) (by kernel_rfl) (same HB4) (by kernel_rfl) ?_
 refine WO.call (SQ.E 1 (by kernel_rfl)) 10 (by kernel_rfl) (may_r ev A n cp F _ HT hn hnn hln hlt) ?_
 rintro _ w11 ⟨rfl, F12⟩
 rw [hmay]
 refine ⟨_, rfl, trivial, ?_⟩
 have HB4 := Blk.keep HB4 F12 (nin0 _)
 have HB9 := Blk.keep HB9 F12 (nin0 _)
 have HT := HT.keep F12 (fun _ _ => nin0 _)
 have HA := Fr.step0 HA F12
 refine WO.run 1 2 [(4, .bool true)] (by kernel_rfl) (by kernel_rfl) ?_
 refine WO.done (by kernel_rfl) ?_
 refine WQ.keep [1, 2, 3, 4] (e' := [(1, .pointer (some ⟨g1, 0, none⟩)), (2, .pointer (some ⟨g6, 0, none⟩)), (3, .int .i64 0), (4, .bool true)]) (by kernel_rfl) ?_
 refine WQ.thenN ?_
 refine WE.seq ?_
 refine WE.seq ?_
 refine WE.region ?_
 refine WO.run 2 0 [(12, .bool false), (11, .bool true)] (by kernel_rfl) (by kernel_rfl) ?_
 refine WO.done (by kernel_rfl) ?_
 refine WQ.keep [1, 2, 3, 12] (e' := [(1, .pointer (some ⟨g1, 0, none⟩)), (2, .pointer (some ⟨g6, 0, none⟩)), (3, .int .i64 0), (12, .bool false)]) (by kernel_rfl) ?_
 refine WQ.thenN ?_
 refine WE.condF (by kernel_rfl) ?_
 refine WE.skip ?_
 refine WQ.thenN ?_
 refine WE.seq ?_
 refine WE.region ?_
 refine WO.run 1 0 [(5, .slice none 0 0)] (by kernel_rfl) (by kernel_rfl) ?_
 refine WO.done (by kernel_rfl) ?_
 refine WQ.keep [1, 2, 3, 5] (e' := [(1, .pointer (some ⟨g1, 0, none⟩)), (2, .pointer (some ⟨g6, 0, none⟩)), (3, .int .i64 0), (5, .slice none 0 0)]) (by kernel_rfl) ?_
 refine WQ.thenN ?_
 refine WE.seq ?_
 refine WE.seq ?_
 refine WE.region ?_
 refine WO.run 1 0 [(6, .int .i64 0)] (by kernel_rfl) (by kernel_rfl) ?_
 refine WO.done (by kernel_rfl) ?_
 refine WQ.keep [1, 2, 3, 5, 6] (e' := [(1, .pointer (some ⟨g1, 0, none⟩)), (2, .pointer (some ⟨g6, 0, none⟩)), (3, .int .i64 0), (5, .slice none 0 0), (6, .int .i64 0)]) (by kernel_rfl) ?_
 refine WQ.thenN ?_
 refine WE.block ?_
 refine WE.loop (α := Nat × List Nat × Option Addr × Nat × (List (L × L))) (E := fun ⟨i, FT, At, ct, acc⟩ => [(1, .pointer (some ⟨g1, 0, none⟩)), (2, .pointer (some ⟨g6, 0, none⟩)), (3, .int .i64 0), (5, .slice At acc.length ct), (6, .int .i64 (i : Int))]) (I := fun ⟨i, FT, At, ct, acc⟩ wr => i ≤ n ∧ acc = sortK (ev.tags.take i) ∧ StrA acc ∧ Blk wr g1 #[.string (str ev.name), .slice A n cp, .int .i64 ev.kind, .int .i64 ev.value, .int .i64 ev.time] 25 ∧ Blk wr g6 #[.string (⟨#[]⟩), .slice none 0 0, .int .i64 0, .int .i64 0, .int .i64 0] 25 ∧ VX cT 2 wr F A ev.tags ∧ OwnX 53 2 wr FT (.slice At acc.length ct) (List.map cT acc) ∧ g1 ∉ FT ∧ g6 ∉ FT ∧ (∀ y ∈ FT, y ∉ F) ∧ (∀ y ∈ FT, (World.heap w).size ≤ y) ∧ Fr [] w wr) (m := fun ⟨i, FT, At, ct, acc⟩ => n - i) (0, [], none, 0, []) [1, 2, 3, 5, 6] (by kernel_rfl) ?_ ?_
 ·
  exact ⟨by omega, rfl, List.Pairwise.nil, HB4, HB9, HT, OwnX.nil _ _ _, (by simp), (by simp), (by simp), (by simp), HA⟩
 rintro ⟨i, FT, At, ct, acc⟩ wr ⟨hi, hacc, hstr, HB4, HB9, HT, HO_FT, nin_g1_FT, nin_g6_FT, dj_FT_F, ge_HA_FT, HA⟩
 have hcap_ := own_cap HO_FT (List.length_map _)
 have haccl : acc.length = i := by rw [hacc, (sortK_perm _).length_eq, List.length_take]; omega
 refine WE.seq ?_
 refine WE.seq ?_
 refine WE.region ?_
 refine WO.run 2 0 [(15, .pointer (some ⟨g1, 1, none⟩)), (14, .int .i64 (i : Int))] (by kernel_rfl) (by kernel_rfl) ?_
 refine WO.ld (SQ.S 2 (by kernel_rfl)) 16 (.slice A n cp) (by kernel_rfl) (same (HB4.at 1 (by kernel_rfl))) ?_
 refine WO.run 1 3 [(17, .int .i64 (n : Int))] (by kernel_rfl) (by kernel_rfl) ?_
 refine WO.one (SQ.F 4 (by kernel_rfl)) 18 (.bool (decide (((i : Int) : Int) < (n : Int)))) (by kernel_rfl) ?_
 refine WO.topP (((i : Int) : Int) < (n : Int)) ?_ ?_
 ·
  intro h13
  refine WO.done (by kernel_rfl) ?_
  refine WQ.keep [1, 2, 3, 5, 6, 18] (e' := [(1, .pointer (some ⟨g1, 0, none⟩)), (2, .pointer (some ⟨g6, 0, none⟩)), (3, .int .i64 0), (5, .slice At acc.length ct), (6, .int .i64 (i : Int)), (18, .bool true)]) (by kernel_rfl) ?_
  refine WQ.thenN ?_
  refine WE.condT (by kernel_rfl) ?_
  refine WE.skip ?_
  refine WQ.thenN ?_
  refine WE.seq ?_
  refine WE.block ?_
  refine WE.seq ?_
  have HV14 := VX.of_own HO_FT
  refine WE.region ?_
  refine WO.run 1 0 [(7, .int .i64 0)] (by kernel_rfl) (by kernel_rfl) ?_
  refine WO.done (by kernel_rfl) ?_
  refine WQ.keep [1, 2, 3, 5, 6, 7] (e' := [(1, .pointer (some ⟨g1, 0, none⟩)), (2, .pointer (some ⟨g6, 0, none⟩)), (3, .int .i64 0), (5, .slice At acc.length ct), (6, .int .i64 (i : Int)), (7, .int .i64 0)]) (by kernel_rfl) ?_
  refine WQ.thenN ?_
  refine WE.seqJ (α := Nat) (E := fun j => [(1, .pointer (some ⟨g1, 0, none⟩)), (2, .pointer (some ⟨g6, 0, none⟩)), (3, .int .i64 0), (5, .slice At acc.length ct), (6, .int .i64 (i : Int)), (7, .int .i64 (j : Int))]) (I := fun j wr => j ≤ acc.length ∧ (∀ m, m < j → ltS (gT acc m).1 (gT ev.tags i).1 = true) ∧ (acc.length ≤ j ∨ (j < acc.length ∧ ltS (gT acc j).1 (gT ev.tags i).1 = false)) ∧ Blk wr g1 #[.string (str ev.name), .slice A n cp, .int .i64 ev.kind, .int .i64 ev.value, .int .i64 ev.time] 25 ∧ Blk wr g6 #[.string (⟨#[]⟩), .slice none 0 0, .int .i64 0, .int .i64 0, .int .i64 0] 25 ∧ VX cT 2 wr F A ev.tags ∧ OwnX 53 2 wr FT (.slice At acc.length ct) (List.map cT acc) ∧ VX cT 2 wr FT At acc ∧ Fr [] w wr) ?_ ?_
  ·
   rintro j wr ⟨hj, hlt2, hge2, HB4, HB9, HT, HO_FT, HV14, HA⟩
   refine WE.seqJ (α := Unit) (E := fun _ => [(1, .pointer (some ⟨g1, 0, none⟩)), (2, .pointer (some ⟨g6, 0, none⟩)), (3, .int .i64 0), (5, .slice At acc.length ct), (6, .int .i64 (i : Int)), (7, .int .i64 (j : Int))]) (I := fun _ wr => (acc.length ≤ j ∨ (j < acc.length ∧ ltS (gT acc j).1 (gT ev.tags i).1 = false ∧ (gT acc j).1 ≠ (gT ev.tags i).1)) ∧ Blk wr g1 #[.string (str ev.name), .slice A n cp, .int .i64 ev.kind, .int .i64 ev.value, .int .i64 ev.time] 25 ∧ Blk wr g6 #[.string (⟨#[]⟩), .slice none 0 0, .int .i64 0, .int .i64 0, .int .i64 0] 25 ∧ VX cT 2 wr F A ev.tags ∧ OwnX 53 2 wr FT (.slice At acc.length ct) (List.map cT acc) ∧ VX cT 2 wr FT At acc ∧ Fr [] w wr) ?_ ?_
   ·
    rintro _ wr ⟨hne2, HB4, HB9, HT, HO_FT, HV14, HA⟩
    refine WE.seq ?_
    refine WE.region ?_
    refine WO.bx (SQ.E 0 (by kernel_rfl)) 60 #[] 53 (fun g => .slice (some ⟨g, 0, none⟩) 0 0) (by kernel_rfl) (fun _ _ => trivial) ?_
    intro g15 w16 HB18 F17 le19 _
    have ne_g1_g15 : g1 ≠ g15 := Nat.ne_of_lt (Nat.lt_of_lt_of_le HB4.lt le19)
    have ne_g6_g15 : g6 ≠ g15 := Nat.ne_of_lt (Nat.lt_of_lt_of_le HB9.lt le19)
    have nin_g15_F : g15 ∉ F := new_nin HT.lt le19
    have nin_g15_FT : g15 ∉ FT := new_nin HO_FT.lt le19
    have nin_g15_FT : g15 ∉ FT := new_nin HV14.lt le19
    have ge_HA_g15 := Nat.le_trans HA.size le19
    have HB4 := Blk.keep HB4 F17 (nin0 _)
    have HB9 := Blk.keep HB9 F17 (nin0 _)
    have HT := HT.keep F17 (fun _ _ => nin0 _)
    have HO_FT := HO_FT.keep F17 (fun _ _ => nin0 _)
    have HV14 := HV14.keep F17 (fun _ _ => nin0 _)
    have HA := Fr.step0 HA F17
    refine WO.run 2 1 [(62, .int .i64 (j : Int)), (61, .slice At acc.length ct)] (by kernel_rfl) (by kernel_rfl) ?_
    refine WO.sl (SQ.F 3 (by kernel_rfl)) 63 0 j At acc.length ct 2 none (some (j : Int)) (by kernel_rfl) (by rfl) (by simp only [Option.getD_some] <;> omega) (by omega) (by omega) ?_
    refine WO.top (sl0 _ _ _ _) ?_
    have HR25 := RowB.of_blk (n := 0) HB18 (List.map cT []) rfl rfl (cT_len _) (cT_one _) (by omega)
    refine WO.appRow (SQ.E 4 (by kernel_rfl)) 64 (n := 0) (m := j) (ys := List.map cT (acc.take j)) et_t HR25 ((List.length_map _).trans ((rfl : List.length ([] : List (L × L)) = 0))) (by rw [List.length_map] <;> first | rfl | omega | (simp <;> omega)) ((HV14.take j).srcN (show (acc.take j).length = j by rw [List.length_take]; have := (rfl : acc.length = _); omega) (cT_len _) (cT_one _) ct) (cT_len _) (cT_one _) (by kernel_rfl) (by omega) (by omega) (fun _ _ => trivial) ?_
    intro b20 cap21 w22 HR23 F24 hb26
    have ne_g1_b20 : g1 ≠ b20 := hb26.elim (fun h => h ▸ ne_g1_g15) (fun h => Nat.ne_of_lt (Nat.lt_of_lt_of_le HB4.lt h))
    have ne_g6_b20 : g6 ≠ b20 := hb26.elim (fun h => h ▸ ne_g6_g15) (fun h => Nat.ne_of_lt (Nat.lt_of_lt_of_le HB9.lt h))
    have nin_b20_F : b20 ∉ F := hb26.elim (fun h => h ▸ nin_g15_F) (fun h => new_nin HT.lt h)
    have nin_b20_FT : b20 ∉ FT := hb26.elim (fun h => h ▸ nin_g15_FT) (fun h => new_nin HO_FT.lt h)
    have nin_b20_FT : b20 ∉ FT := hb26.elim (fun h => h ▸ nin_g15_FT) (fun h => new_nin HV14.lt h)
    have in_HA_b20 : b20 ∈ [] ∨ (World.heap w).size ≤ b20 := hb26.elim (fun h => Or.inr (h ▸ ge_HA_g15)) (fun h => Or.inr (Nat.le_trans HA.size h))
    have HB4 := Blk.keep HB4 F24 (ninC ne_g1_g15 (nin0 _))
    have HB9 := Blk.keep HB9 F24 (ninC ne_g6_g15 (nin0 _))
    have HT := HT.keep F24 (djB nin_g15_F)
    have HO_FT := HO_FT.keep F24 (djB nin_g15_FT)
    have HV14 := HV14.keep F24 (djB nin_g15_FT)
    have HA := Fr.step HA F24 (inSR ge_HA_g15 inS0)
    have HR23 : RowB w22 b20 53 2 cap21 ((([] : List (L × L)) ++ (acc.take j)).map cT) := by rw [List.map_append]; exact HR23
    refine WO.run 1 5 [(8, .slice (some ⟨b20, 0, none⟩) (0 + j) cap21)] (by kernel_rfl) (by kernel_rfl) ?_
    refine WO.done (by kernel_rfl) ?_
    refine WQ.keep [1, 2, 3, 5, 6, 7, 8] (e' := [(1, .pointer (some ⟨g1, 0, none⟩)), (2, .pointer (some ⟨g6, 0, none⟩)), (3, .int .i64 0), (5, .slice At acc.length ct), (6, .int .i64 (i : Int)), (7, .int .i64 (j : Int)), (8, .slice (some ⟨b20, 0, none⟩) (0 + j) cap21)]) (by kernel_rfl) ?_
    refine WQ.thenN ?_
    refine WE.seq ?_
    refine WE.region ?_
    refine WO.run 2 0 [(66, .pointer (some ⟨g1, 1, none⟩)), (65, .slice (some ⟨b20, 0, none⟩) (0 + j) cap21)] (by kernel_rfl) (by kernel_rfl) ?_
    refine WO.ld (SQ.S 2 (by kernel_rfl)) 67 (.slice A n cp) (by kernel_rfl) (same (HB4.at 1 (by kernel_rfl))) ?_
    refine WO.run 1 3 [(68, .int .i64 (i : Int))] (by kernel_rfl) (by kernel_rfl) ?_
    obtain ⟨ad27, hA28⟩ := HT.addr (i := i) (by have := hn; omega)
    refine WO.ixo (SQ.F 4 (by kernel_rfl)) 69 n 2 i (i : Int) hA28 (by kernel_rfl) rfl (by omega) ?_
    refine WO.ldA (ad := (ad27.add (i * 2))) (SQ.S 5 (by kernel_rfl)) 70 [.string (str (gT ev.tags i).1), .string (str (gT ev.tags i).2)] (by kernel_rfl) (by kernel_rfl) (fun _ hw_ _ hj_ => by subst hw_; exact HT.part0 hA28 (gT_some ev.tags i (by have := hn; omega)) [.string (str (gT ev.tags i).1), .string (str (gT ev.tags i).2)] (by kernel_rfl) _ hj_) ?_
    refine WO.bx (SQ.E 6 (by kernel_rfl)) 71 #[.string (str (gT ev.tags i).1), .string (str (gT ev.tags i).2)] 53 (fun g => .slice (some ⟨g, 0, none⟩) 1 1) (by kernel_rfl) (fun _ _ => trivial) ?_
    intro g29 w30 HB32 F31 le33 _
    have ne_g1_g29 : g1 ≠ g29 := Nat.ne_of_lt (Nat.lt_of_lt_of_le HB4.lt le33)
    have ne_g6_g29 : g6 ≠ g29 := Nat.ne_of_lt (Nat.lt_of_lt_of_le HB9.lt le33)
    have ne_b20_g29 : b20 ≠ g29 := Nat.ne_of_lt (Nat.lt_of_lt_of_le HR23.lt le33)
    have nin_g29_F : g29 ∉ F := new_nin HT.lt le33
    have nin_g29_FT : g29 ∉ FT := new_nin HO_FT.lt le33
    have nin_g29_FT : g29 ∉ FT := new_nin HV14.lt le33
    have ge_HA_g29 := Nat.le_trans HA.size le33
    have HB4 := Blk.keep HB4 F31 (nin0 _)
    have HB9 := Blk.keep HB9 F31 (nin0 _)
    have HR23 := RowB.keep HR23 F31 (nin0 _)
    have HT := HT.keep F31 (fun _ _ => nin0 _)
    have HO_FT := HO_FT.keep F31 (fun _ _ => nin0 _)
    have HV14 := HV14.keep F31 (fun _ _ => nin0 _)
    have HA := Fr.step0 HA F31
    refine WO.appRow (SQ.E 7 (by kernel_rfl)) 72 (n := (0 + j)) (m := 1) (ys := List.map cT ([(gT ev.tags i)])) et_t HR23 ((List.length_map _).trans ((show (([] : List (L × L)) ++ (acc.take j)).length = 0 + j by rw [List.length_append, (rfl : List.length ([] : List (L × L)) = 0)]; first | rfl | (have := (rfl : List.length ([] : List (L × L)) = 0); simp <;> omega)))) (by rw [List.length_map] <;> first | rfl | omega | (simp <;> omega)) (RowB.src (RowB.of_blk (n := 1) HB32 (List.map cT [(gT ev.tags i)]) rfl rfl (cT_len _) (cT_one _) (by omega))) (cT_len _) (cT_one _) (by kernel_rfl) (by omega) (by omega) (fun _ _ => trivial) ?_
    intro b34 cap35 w36 HR37 F38 hb39
    have ne_g1_b34 : g1 ≠ b34 := hb39.elim (fun h => h ▸ ne_g1_b20) (fun h => Nat.ne_of_lt (Nat.lt_of_lt_of_le HB4.lt h))
    have ne_g6_b34 : g6 ≠ b34 := hb39.elim (fun h => h ▸ ne_g6_b20) (fun h => Nat.ne_of_lt (Nat.lt_of_lt_of_le HB9.lt h))
    have ne_g29_b34 : g29 ≠ b34 := hb39.elim (fun h => h ▸ (Ne.symm ne_b20_g29)) (fun h => Nat.ne_of_lt (Nat.lt_of_lt_of_le HB32.lt h))
    have nin_b34_F : b34 ∉ F := hb39.elim (fun h => h ▸ nin_b20_F) (fun h => new_nin HT.lt h)
    have nin_b34_FT : b34 ∉ FT := hb39.elim (fun h => h ▸ nin_b20_FT) (fun h => new_nin HO_FT.lt h)
    have nin_b34_FT : b34 ∉ FT := hb39.elim (fun h => h ▸ nin_b20_FT) (fun h => new_nin HV14.lt h)
    have in_HA_b34 : b34 ∈ [] ∨ (World.heap w).size ≤ b34 := hb39.elim (fun h => (h ▸ in_HA_b20)) (fun h => Or.inr (Nat.le_trans HA.size h))
    have HB4 := Blk.keep HB4 F38 (ninC ne_g1_b20 (nin0 _))
    have HB9 := Blk.keep HB9 F38 (ninC ne_g6_b20 (nin0 _))
    have HB32 := Blk.keep HB32 F38 (ninC (Ne.symm ne_b20_g29) (nin0 _))
    have HT := HT.keep F38 (djB nin_b20_F)
    have HO_FT := HO_FT.keep F38 (djB nin_b20_FT)
    have HV14 := HV14.keep F38 (djB nin_b20_FT)
    have HA := Fr.step HA F38 (inSD in_HA_b20 inS0)
    have HR37 : RowB w36 b34 53 2 cap35 (((([] : List (L × L)) ++ (acc.take j)) ++ [(gT ev.tags i)]).map cT) := by rw [List.map_append]; exact HR37
    refine WO.run 1 8 [(8, .slice (some ⟨b34, 0, none⟩) (0 + j + 1) cap35)] (by kernel_rfl) (by kernel_rfl) ?_
    refine WO.done (by kernel_rfl) ?_
    refine WQ.keep [1, 2, 3, 5, 6, 7, 8] (e' := [(1, .pointer (some ⟨g1, 0, none⟩)), (2, .pointer (some ⟨g6, 0, none⟩)), (3, .int .i64 0), (5, .slice At acc.length ct), (6, .int .i64 (i : Int)), (7, .int .i64 (j : Int)), (8, .slice (some ⟨b34, 0, none⟩) (0 + j + 1) cap35)]) (by kernel_rfl) ?_
    refine WQ.thenN ?_
    refine WE.region ?_
    refine WO.run 3 0 [(75, .int .i64 (j : Int)), (74, .slice At acc.length ct), (73, .slice (some ⟨b34, 0, none⟩) (0 + j + 1) cap35)] (by kernel_rfl) (by kernel_rfl) ?_
    refine WO.sl (SQ.F 3 (by kernel_rfl)) 76 j acc.length At acc.length ct 2 (some (j : Int)) none (by kernel_rfl) (by simp only [Option.getD_some] <;> omega) (by rfl) (by omega) (by omega) ?_
    refine WO.appRow (SQ.E 4 (by kernel_rfl)) 77 (n := (0 + j + 1)) (m := (acc.length - j)) (ys := List.map cT ((acc.drop j).take (acc.length - j))) et_t HR37 ((List.length_map _).trans ((show ((([] : List (L × L)) ++ (acc.take j)) ++ [(gT ev.tags i)]).length = 0 + j + 1 by rw [List.length_append, (show (([] : List (L × L)) ++ (acc.take j)).length = 0 + j by rw [List.length_append, (rfl : List.length ([] : List (L × L)) = 0)]; first | rfl | (have := (rfl : List.length ([] : List (L × L)) = 0); simp <;> omega))]; first | rfl | (have := (show (([] : List (L × L)) ++ (acc.take j)).length = 0 + j by rw [List.length_append, (rfl : List.length ([] : List (L × L)) = 0)]; first | rfl | (have := (rfl : List.length ([] : List (L × L)) = 0); simp <;> omega)); simp <;> omega)))) (by rw [List.length_map] <;> first | rfl | omega | (simp <;> omega)) (((HV14.drop j ct (by have := (rfl : acc.length = _); omega) (by have := (rfl : acc.length = _); omega)).take (acc.length - j)).srcN (show ((acc.drop j).take (acc.length - j)).length = acc.length - j by rw [List.length_take, List.length_drop]; have := (rfl : acc.length = _); omega) (cT_len _) (cT_one _) (ct - j)) (cT_len _) (cT_one _) (by kernel_rfl) (by omega) (by omega) (fun _ _ => trivial) ?_
    intro b40 cap41 w42 HR43 F44 hb45
    have ne_g1_b40 : g1 ≠ b40 := hb45.elim (fun h => h ▸ ne_g1_b34) (fun h => Nat.ne_of_lt (Nat.lt_of_lt_of_le HB4.lt h))
    have ne_g6_b40 : g6 ≠ b40 := hb45.elim (fun h => h ▸ ne_g6_b34) (fun h => Nat.ne_of_lt (Nat.lt_of_lt_of_le HB9.lt h))
    have ne_g29_b40 : g29 ≠ b40 := hb45.elim (fun h => h ▸ ne_g29_b34) (fun h => Nat.ne_of_lt (Nat.lt_of_lt_of_le HB32.lt h))
    have nin_b40_F : b40 ∉ F := hb45.elim (fun h => h ▸ nin_b34_F) (fun h => new_nin HT.lt h)
    have nin_b40_FT : b40 ∉ FT := hb45.elim (fun h => h ▸ nin_b34_FT) (fun h => new_nin HO_FT.lt h)
    have nin_b40_FT : b40 ∉ FT := hb45.elim (fun h => h ▸ nin_b34_FT) (fun h => new_nin HV14.lt h)
    have in_HA_b40 : b40 ∈ [] ∨ (World.heap w).size ≤ b40 := hb45.elim (fun h => (h ▸ in_HA_b34)) (fun h => Or.inr (Nat.le_trans HA.size h))
    have HB4 := Blk.keep HB4 F44 (ninC ne_g1_b34 (nin0 _))
    have HB9 := Blk.keep HB9 F44 (ninC ne_g6_b34 (nin0 _))
    have HB32 := Blk.keep HB32 F44 (ninC ne_g29_b34 (nin0 _))
    have HT := HT.keep F44 (djB nin_b34_F)
    have HO_FT := HO_FT.keep F44 (djB nin_b34_FT)
    have HV14 := HV14.keep F44 (djB nin_b34_FT)
    have HA := Fr.step HA F44 (inSD in_HA_b34 inS0)
    have HR43 : RowB w42 b40 53 2 cap41 ((((([] : List (L × L)) ++ (acc.take j)) ++ [(gT ev.tags i)]) ++ ((acc.drop j).take (acc.length - j))).map cT) := by rw [List.map_append]; exact HR43
    refine WO.run 1 5 [(5, .slice (some ⟨b40, 0, none⟩) (0 + j + 1 + (acc.length - j)) cap41)] (by kernel_rfl) (by kernel_rfl) ?_
    refine WO.done (by kernel_rfl) ?_
    refine WQ.keep [1, 2, 3, 5, 6] (e' := [(1, .pointer (some ⟨g1, 0, none⟩)), (2, .pointer (some ⟨g6, 0, none⟩)), (3, .int .i64 0), (5, .slice (some ⟨b40, 0, none⟩) (0 + j + 1 + (acc.length - j)) cap41), (6, .int .i64 (i : Int))]) (by kernel_rfl) ?_
    refine WQ.blkN ?_
    refine WQ.thenN ?_
    have hins_ := ins_at_k hj hlt2 (hne2.imp id (fun h_ => ⟨h_.1, h_.2.1⟩))
    have heq_ : (((([] : List (L × L)) ++ (acc.take j)) ++ [(gT ev.tags i)]) ++ ((acc.drop j).take (acc.length - j))) = insK (gT ev.tags i) acc := by rw [← hins_]; simp [List.take_of_length_le]
    have hac2 : (((([] : List (L × L)) ++ (acc.take j)) ++ [(gT ev.tags i)]) ++ ((acc.drop j).take (acc.length - j))) = sortK (ev.tags.take (i + 1)) := heq_.trans (by rw [sort_next (by omega), ← hacc])
    have hst2 : StrA (((([] : List (L × L)) ++ (acc.take j)) ++ [(gT ev.tags i)]) ++ ((acc.drop j).take (acc.length - j))) := by rw [heq_]; exact ins_strA hstr hj hlt2 hne2
    refine WE.region ?_
    refine WO.run 1 0 [(19, .int .i64 (i : Int))] (by kernel_rfl) (by kernel_rfl) ?_
    refine WO.one (SQ.F 1 (by kernel_rfl)) 20 (.int .i64 (IntKind.i64.wrap ((i : Int) + 1))) (by kernel_rfl) ?_
    refine WO.top (v' := .int .i64 ((i + 1 : Nat) : Int)) (wrap_i64 (by omega) (by omega)) ?_
    refine WO.run 1 2 [(6, .int .i64 ((i + 1 : Nat) : Int))] (by kernel_rfl) (by kernel_rfl) ?_
    refine WO.done (by kernel_rfl) ?_
    refine WQ.keep [1, 2, 3, 5, 6] (e' := [(1, .pointer (some ⟨g1, 0, none⟩)), (2, .pointer (some ⟨g6, 0, none⟩)), (3, .int .i64 0), (5, .slice (some ⟨b40, 0, none⟩) (0 + j + 1 + (acc.length - j)) cap41), (6, .int .i64 ((i + 1 : Nat) : Int))]) (by kernel_rfl) ?_
    obtain ⟨F46, hF46⟩ : ∃ F_, F_ = [b40] := ⟨_, rfl⟩
    have HO47 : OwnX 53 2 w42 F46 (.slice (some ⟨b40, 0, none⟩) (0 + j + 1 + (acc.length - j)) cap41) ((((([] : List (L × L)) ++ (acc.take j)) ++ [(gT ev.tags i)]) ++ ((acc.drop j).take (acc.length - j))).map cT) := by rw [hF46]; exact OwnX.row HR43 ((List.length_map _).trans ((show (((([] : List (L × L)) ++ (acc.take j)) ++ [(gT ev.tags i)]) ++ ((acc.drop j).take (acc.length - j))).length = 0 + j + 1 + (acc.length - j) by rw [List.length_append, (show ((([] : List (L × L)) ++ (acc.take j)) ++ [(gT ev.tags i)]).length = 0 + j + 1 by rw [List.length_append, (show (([] : List (L × L)) ++ (acc.take j)).length = 0 + j by rw [List.length_append, (rfl : List.length ([] : List (L × L)) = 0)]; first | rfl | (have := (rfl : List.length ([] : List (L × L)) = 0); simp <;> omega))]; first | rfl | (have := (show (([] : List (L × L)) ++ (acc.take j)).length = 0 + j by rw [List.length_append, (rfl : List.length ([] : List (L × L)) = 0)]; first | rfl | (have := (rfl : List.length ([] : List (L × L)) = 0); simp <;> omega)); simp <;> omega))]; first | rfl | (have := (show ((([] : List (L × L)) ++ (acc.take j)) ++ [(gT ev.tags i)]).length = 0 + j + 1 by rw [List.length_append, (show (([] : List (L × L)) ++ (acc.take j)).length = 0 + j by rw [List.length_append, (rfl : List.length ([] : List (L × L)) = 0)]; first | rfl | (have := (rfl : List.length ([] : List (L × L)) = 0); simp <;> omega))]; first | rfl | (have := (show (([] : List (L × L)) ++ (acc.take j)).length = 0 + j by rw [List.length_append, (rfl : List.length ([] : List (L × L)) = 0)]; first | rfl | (have := (rfl : List.length ([] : List (L × L)) = 0); simp <;> omega)); simp <;> omega)); simp <;> omega))))
    have nin_g1_F46 : g1 ∉ F46 := by rw [hF46]; simpa using ne_g1_b40
    have nin_g6_F46 : g6 ∉ F46 := by rw [hF46]; simpa using ne_g6_b40
    have nin_g29_F46 : g29 ∉ F46 := by rw [hF46]; simpa using ne_g29_b40
    have dj_F46_F : ∀ y ∈ F46, y ∉ F := by rw [hF46]; intro y hy; rw [List.mem_singleton.1 hy]; exact nin_b40_F
    have dj_F46_FT : ∀ y ∈ F46, y ∉ FT := by rw [hF46]; intro y hy; rw [List.mem_singleton.1 hy]; exact nin_b40_FT
    have dj_F46_FT : ∀ y ∈ F46, y ∉ FT := by rw [hF46]; intro y hy; rw [List.mem_singleton.1 hy]; exact nin_b40_FT
    have ge_HA_F46 : ∀ y ∈ F46, (World.heap w).size ≤ y := by rw [hF46]; intro y hy; rw [List.mem_singleton.1 hy]; exact in_HA_b40.resolve_left (by simp)
    have hnq48 : (((([] : List (L × L)) ++ (acc.take j)) ++ [(gT ev.tags i)]) ++ ((acc.drop j).take (acc.length - j))).length = 0 + j + 1 + (acc.length - j) := by simp only [List.length_append, List.length_cons, List.length_nil, List.length_take, List.length_drop]; omega
    have HO49 : OwnX 53 2 w42 F46 (.slice (some ⟨b40, 0, none⟩) ((((([] : List (L × L)) ++ (acc.take j)) ++ [(gT ev.tags i)]) ++ ((acc.drop j).take (acc.length - j))).length) cap41) (List.map cT (((([] : List (L × L)) ++ (acc.take j)) ++ [(gT ev.tags i)]) ++ ((acc.drop j).take (acc.length - j)))) := by rw [hnq48]; exact HO47
    refine WQ.env (e' := [(1, .pointer (some ⟨g1, 0, none⟩)), (2, .pointer (some ⟨g6, 0, none⟩)), (3, .int .i64 0), (5, .slice (some ⟨b40, 0, none⟩) ((((([] : List (L × L)) ++ (acc.take j)) ++ [(gT ev.tags i)]) ++ ((acc.drop j).take (acc.length - j))).length) cap41), (6, .int .i64 ((i + 1 : Nat) : Int))]) (by rw [hnq48]) ?_
    refine WQ.round ?_
    intro a_ ha_
    refine ⟨(i + 1, F46, (some ⟨b40, 0, none⟩), cap41, (((([] : List (L × L)) ++ (acc.take j)) ++ [(gT ev.tags i)]) ++ ((acc.drop j).take (acc.length - j)))), ?_, ha_.keep [1, 2, 3, 5, 6] (by kernel_rfl), ?_⟩
    ·
     show n - (i + 1) < n - i; omega
    ·
     exact ⟨by omega, hac2, hst2, HB4, HB9, HT, HO49, nin_g1_F46, nin_g6_F46, dj_F46_F, ge_HA_F46, HA⟩
   refine WE.seq ?_
   refine WE.draw [.free, .free, .free, .free, .free, .free, .free, .free, .free, .still, .free, .still, .free, .free, .free, .still, .free, .free] Same sameR (by kernel_rfl) 18 (Array.replicate 18 false) (by kernel_rfl) rfl ?_
   intro w50 F51 _
   have HB4 := Blk.keep HB4 F51 (nin0 _)
   have HB9 := Blk.keep HB9 F51 (nin0 _)
   have HT := HT.keep F51 (fun _ _ => nin0 _)
   have HO_FT := HO_FT.keep F51 (fun _ _ => nin0 _)
   have HV14 := HV14.keep F51 (fun _ _ => nin0 _)
   have HA := Fr.step0 HA F51
   refine WO.one (SA.F sameR sameT _ 0 _ (by kernel_rfl)) 41 (.int .i64 (j : Int)) (by kernel_rfl) ?_
   refine WO.one (SA.F sameR sameT _ 1 _ (by kernel_rfl)) 42 (.slice At acc.length ct) (by kernel_rfl) ?_
   refine WO.one (SA.F sameR sameT _ 2 _ (by kernel_rfl)) 43 (.int .i64 (acc.length : Int)) (by kernel_rfl) ?_
   refine WO.one (SA.F sameR sameT _ 3 _ (by kernel_rfl)) 44 (.bool (decide (((j : Int) : Int) < (acc.length : Int)))) (by kernel_rfl) ?_
   refine WO.topP (((j : Int) : Int) < (acc.length : Int)) ?_ ?_
   ·
    intro h52
    refine WO.one (SA.F sameR sameT _ 4 _ (by kernel_rfl)) 45 (.bool true) (by kernel_rfl) ?_
    refine WO.one (SA.F sameR sameT _ 5 _ (by kernel_rfl)) 46 (.slice At acc.length ct) (by kernel_rfl) ?_
    refine WO.one (SA.F sameR sameT _ 6 _ (by kernel_rfl)) 47 (.int .i64 (j : Int)) (by kernel_rfl) ?_
    obtain ⟨ad53, hA54⟩ := HV14.addr (i := j) (by have := (rfl : acc.length = _); omega)
    refine WO.ixo (SA.F sameR sameT _ 7 _ (by kernel_rfl)) 48 acc.length 2 j (j : Int) hA54 (by kernel_rfl) rfl (by omega) ?_
    refine WO.one (SA.F sameR sameT _ 8 _ (by kernel_rfl)) 49 (.pointer (some (ad53.add (j * 2)))) (by kernel_rfl) ?_
    refine WO.ld (SA.S sameR sameT _ 9 _ (by kernel_rfl)) 50 (.string (str (gT acc j).1)) (by kernel_rfl) (same (HV14.at0 hA54 (gT_some acc j (by have := (rfl : acc.length = _); omega)) (by kernel_rfl))) ?_
    refine WO.one (SA.F sameR sameT _ 10 _ (by kernel_rfl)) 51 (.pointer (some ⟨g1, 1, none⟩)) (by kernel_rfl) ?_
    refine WO.ld (SA.S sameR sameT _ 11 _ (by kernel_rfl)) 52 (.slice A n cp) (by kernel_rfl) (same (HB4.at 1 (by kernel_rfl))) ?_
    refine WO.one (SA.F sameR sameT _ 12 _ (by kernel_rfl)) 53 (.int .i64 (i : Int)) (by kernel_rfl) ?_
    obtain ⟨ad55, hA56⟩ := HT.addr (i := i) (by have := hn; omega)
    refine WO.ixo (SA.F sameR sameT _ 13 _ (by kernel_rfl)) 54 n 2 i (i : Int) hA56 (by kernel_rfl) rfl (by omega) ?_
    refine WO.one (SA.F sameR sameT _ 14 _ (by kernel_rfl)) 55 (.pointer (some (ad55.add (i * 2)))) (by kernel_rfl) ?_
    refine WO.ld (SA.S sameR sameT _ 15 _ (by kernel_rfl)) 56 (.string (str (gT ev.tags i).1)) (by kernel_rfl) (same (HT.at0 hA56 (gT_some ev.tags i (by have := hn; omega)) (by kernel_rfl))) ?_
    refine WO.one (SA.F sameR sameT _ 16 _ (by kernel_rfl)) 57 (.bool ((str (gT acc j).1).toList == (str (gT ev.tags i).1).toList)) (by kernel_rfl) ?_
    refine WO.top (v' := .bool (decide ((str (gT acc j).1) = (str (gT ev.tags i).1)))) (congrArg Value.bool (streq (str (gT acc j).1) (str (gT ev.tags i).1))) ?_
    refine WO.topP ((str (gT acc j).1) = (str (gT ev.tags i).1)) ?_ ?_
    ·
     intro h57
     refine WO.one (SA.F sameR sameT _ 17 _ (by kernel_rfl)) 58 (.bool true) (by kernel_rfl) ?_
     refine WO.doneA (by kernel_rfl) ?_
     refine WQ.keep [1, 2, 3, 5, 6, 7, 58] (e' := [(1, .pointer (some ⟨g1, 0, none⟩)), (2, .pointer (some ⟨g6, 0, none⟩)), (3, .int .i64 0), (5, .slice At acc.length ct), (6, .int .i64 (i : Int)), (7, .int .i64 (j : Int)), (58, .bool true)]) (by kernel_rfl) ?_
     refine WQ.thenN ?_
     refine WE.condT (by kernel_rfl) ?_
     refine WE.seq ?_
     have hdup_ : canonE ev = .inr 5 := canon_dup hmay hacc (by omega) (i := i) (j := j) (by omega) (str_inj.1 (by assumption))
     refine WE.region ?_
     refine WO.run 1 0 [(59, .agg #[.string (⟨#[]⟩), .slice none 0 0, .int .i64 0, .int .i64 0, .int .i64 0])] (by kernel_rfl) (by kernel_rfl) ?_
     refine WO.st (SQ.E 1 (by kernel_rfl)) g6 0 [.string (⟨#[]⟩), .slice none 0 0, .int .i64 0, .int .i64 0, .int .i64 0] #[.string (⟨#[]⟩), .slice none 0 0, .int .i64 0, .int .i64 0, .int .i64 0] (by kernel_rfl) HB9 (by kernel_rfl) (by kernel_rfl) (fun _ _ => trivial) ?_
     intro w58 HB60 F59 _
     have HB4 := Blk.keep HB4 F59 (ninC ne_g1_g6 (nin0 _))
     have HT := HT.keep F59 (djB nin_g6_F)
     have HO_FT := HO_FT.keep F59 (djB nin_g6_FT)
     have HV14 := HV14.keep F59 (djB nin_g6_FT)
     have HA := Fr.step HA F59 (inSR ge_HA_g6 inS0)
     refine WO.run 1 2 [(3, .int .i64 5)] (by kernel_rfl) (by kernel_rfl) ?_
     refine WO.done (by kernel_rfl) ?_
     refine WQ.keep [1, 2, 3, 5, 6, 7] (e' := [(1, .pointer (some ⟨g1, 0, none⟩)), (2, .pointer (some ⟨g6, 0, none⟩)), (3, .int .i64 5), (5, .slice At acc.length ct), (6, .int .i64 (i : Int)), (7, .int .i64 (j : Int))]) (by kernel_rfl) ?_
     refine WQ.thenN ?_
     refine WE.ret ?_
     refine WQ.thenR ?_
     refine WQ.blkR ?_
     refine WQ.thenR ?_
     refine WQ.thenR ?_
     refine WQ.blkR ?_
     refine WQ.thenR ?_
     refine WQ.ret2 (fn := Tryd.f31) (show Tryd.f31.results = #[.cell 2 25, .tmp 3] by kernel_rfl) (show resOk _ _ _ _ (.agg #[.string (⟨#[]⟩), .slice none 0 0, .int .i64 0, .int .i64 0, .int .i64 0]) from ⟨by kernel_rfl, ⟨g6, 0, none⟩, by kernel_rfl, ldVarB [.string (⟨#[]⟩), .slice none 0 0, .int .i64 0, .int .i64 0, .int .i64 0] (by kernel_rfl) (by kernel_rfl) (by kernel_rfl) HB60 (by kernel_rfl)⟩) (show resOk _ _ _ _ (.int .i64 5) from ⟨by kernel_rfl, by kernel_rfl⟩) ?_
     rw [hdup_]
     exact ⟨rfl, HA⟩
    intro h57
    refine WO.one (SA.F sameR sameT _ 17 _ (by kernel_rfl)) 58 (.bool false) (by kernel_rfl) ?_
    refine WO.doneA (by kernel_rfl) ?_
    refine WQ.keep [1, 2, 3, 5, 6, 7, 58] (e' := [(1, .pointer (some ⟨g1, 0, none⟩)), (2, .pointer (some ⟨g6, 0, none⟩)), (3, .int .i64 0), (5, .slice At acc.length ct), (6, .int .i64 (i : Int)), (7, .int .i64 (j : Int)), (58, .bool false)]) (by kernel_rfl) ?_
    refine WQ.thenN ?_
    refine WE.condF (by kernel_rfl) ?_
    refine WE.skip ?_
    refine WQ.round ?_
    intro a_ ha_
    refine ⟨(), ha_.keep [1, 2, 3, 5, 6, 7] (by kernel_rfl), ?_⟩
    exact ⟨by first | exact .inl (by omega) | exact .inr ⟨by omega, hge2.elim (fun h_ => absurd h_ (by omega)) (·.2), fun e_ => absurd (congrArg str e_) (by assumption)⟩, HB4, HB9, HT, HO_FT, HV14, HA⟩
   intro h52
   refine WO.one (SA.F sameR sameT _ 4 _ (by kernel_rfl)) 45 (.bool false) (by kernel_rfl) ?_
   refine WO.off (SA.O sameR sameT _ 5 _ (by kernel_rfl)) 46 (by kernel_rfl) ?_
   refine WO.off (SA.O sameR sameT _ 6 _ (by kernel_rfl)) 47 (by kernel_rfl) ?_
   refine WO.off (SA.O sameR sameT _ 7 _ (by kernel_rfl)) 48 (by kernel_rfl) ?_
   refine WO.off (SA.O sameR sameT _ 8 _ (by kernel_rfl)) 49 (by kernel_rfl) ?_
   refine WO.off (SA.O sameR sameT _ 9 _ (by kernel_rfl)) 50 (by kernel_rfl) ?_
   refine WO.off (SA.O sameR sameT _ 10 _ (by kernel_rfl)) 51 (by kernel_rfl) ?_
   refine WO.off (SA.O sameR sameT _ 11 _ (by kernel_rfl)) 52 (by kernel_rfl) ?_
   refine WO.off (SA.O sameR sameT _ 12 _ (by kernel_rfl)) 53 (by kernel_rfl) ?_
   refine WO.off (SA.O sameR sameT _ 13 _ (by kernel_rfl)) 54 (by kernel_rfl) ?_
   refine WO.off (SA.O sameR sameT _ 14 _ (by kernel_rfl)) 55 (by kernel_rfl) ?_
   refine WO.off (SA.O sameR sameT _ 15 _ (by kernel_rfl)) 56 (by kernel_rfl) ?_
   refine WO.off (SA.O sameR sameT _ 16 _ (by kernel_rfl)) 57 (by kernel_rfl) ?_
   refine WO.one (SA.F sameR sameT _ 17 _ (by kernel_rfl)) 58 (.bool false) (by kernel_rfl) ?_
   refine WO.doneA (by kernel_rfl) ?_
   refine WQ.keep [1, 2, 3, 5, 6, 7, 58] (e' := [(1, .pointer (some ⟨g1, 0, none⟩)), (2, .pointer (some ⟨g6, 0, none⟩)), (3, .int .i64 0), (5, .slice At acc.length ct), (6, .int .i64 (i : Int)), (7, .int .i64 (j : Int)), (58, .bool false)]) (by kernel_rfl) ?_
   refine WQ.thenN ?_
   refine WE.condF (by kernel_rfl) ?_
   refine WE.skip ?_
   refine WQ.round ?_
   intro a_ ha_
   refine ⟨(), ha_.keep [1, 2, 3, 5, 6, 7] (by kernel_rfl), ?_⟩
   exact ⟨by first | exact .inl (by omega) | exact .inr ⟨by omega, hge2.elim (fun h_ => absurd h_ (by omega)) (·.2), fun e_ => absurd (congrArg str e_) (by assumption)⟩, HB4, HB9, HT, HO_FT, HV14, HA⟩
  refine WE.block ?_
  refine WE.loop (α := Nat) (E := fun j => [(1, .pointer (some ⟨g1, 0, none⟩)), (2, .pointer (some ⟨g6, 0, none⟩)), (3, .int .i64 0), (5, .slice At acc.length ct), (6, .int .i64 (i : Int)), (7, .int .i64 (j : Int))]) (I := fun j wr => j ≤ acc.length ∧ (∀ m, m < j → ltS (gT acc m).1 (gT ev.tags i).1 = true) ∧ Blk wr g1 #[.string (str ev.name), .slice A n cp, .int .i64 ev.kind, .int .i64 ev.value, .int .i64 ev.time] 25 ∧ Blk wr g6 #[.string (⟨#[]⟩), .slice none 0 0, .int .i64 0, .int .i64 0, .int .i64 0] 25 ∧ VX cT 2 wr F A ev.tags ∧ OwnX 53 2 wr FT (.slice At acc.length ct) (List.map cT acc) ∧ VX cT 2 wr FT At acc ∧ Fr [] w wr) (m := fun j => acc.length - j) 0 [1, 2, 3, 5, 6, 7] (by kernel_rfl) ?_ ?_
  ·
   exact ⟨by omega, by omega, HB4, HB9, HT, HO_FT, HV14, HA⟩
  rintro j wr ⟨hj, hlt2, HB4, HB9, HT, HO_FT, HV14, HA⟩
  refine WE.seq ?_
  refine WE.seq ?_
  refine WE.draw [.free, .free, .free, .free, .free, .free, .free, .free, .free, .still, .free, .still, .free, .free, .free, .still, .free, .free] Same sameR (by kernel_rfl) 18 (Array.replicate 18 false) (by kernel_rfl) rfl ?_
  intro w61 F62 _
  have HB4 := Blk.keep HB4 F62 (nin0 _)
  have HB9 := Blk.keep HB9 F62 (nin0 _)
  have HT := HT.keep F62 (fun _ _ => nin0 _)
  have HO_FT := HO_FT.keep F62 (fun _ _ => nin0 _)
  have HV14 := HV14.keep F62 (fun _ _ => nin0 _)
  have HA := Fr.step0 HA F62
  refine WO.one (SA.F sameR sameT _ 0 _ (by kernel_rfl)) 21 (.int .i64 (j : Int)) (by kernel_rfl) ?_
  refine WO.one (SA.F sameR sameT _ 1 _ (by kernel_rfl)) 22 (.slice At acc.length ct) (by kernel_rfl) ?_
  refine WO.one (SA.F sameR sameT _ 2 _ (by kernel_rfl)) 23 (.int .i64 (acc.length : Int)) (by kernel_rfl) ?_
  refine WO.one (SA.F sameR sameT _ 3 _ (by kernel_rfl)) 24 (.bool (decide (((j : Int) : Int) < (acc.length : Int)))) (by kernel_rfl) ?_
  refine WO.topP (((j : Int) : Int) < (acc.length : Int)) ?_ ?_
  ·
   intro h63
   refine WO.one (SA.F sameR sameT _ 4 _ (by kernel_rfl)) 25 (.bool true) (by kernel_rfl) ?_
   refine WO.one (SA.F sameR sameT _ 5 _ (by kernel_rfl)) 26 (.slice At acc.length ct) (by kernel_rfl) ?_
   refine WO.one (SA.F sameR sameT _ 6 _ (by kernel_rfl)) 27 (.int .i64 (j : Int)) (by kernel_rfl) ?_
   obtain ⟨ad64, hA65⟩ := HV14.addr (i := j) (by have := (rfl : acc.length = _); omega)
   refine WO.ixo (SA.F sameR sameT _ 7 _ (by kernel_rfl)) 28 acc.length 2 j (j : Int) hA65 (by kernel_rfl) rfl (by omega) ?_
   refine WO.one (SA.F sameR sameT _ 8 _ (by kernel_rfl)) 29 (.pointer (some (ad64.add (j * 2)))) (by kernel_rfl) ?_
   refine WO.ld (SA.S sameR sameT _ 9 _ (by kernel_rfl)) 30 (.string (str (gT acc j).1)) (by kernel_rfl) (same (HV14.at0 hA65 (gT_some acc j (by have := (rfl : acc.length = _); omega)) (by kernel_rfl))) ?_
   refine WO.one (SA.F sameR sameT _ 10 _ (by kernel_rfl)) 31 (.pointer (some ⟨g1, 1, none⟩)) (by kernel_rfl) ?_
   refine WO.ld (SA.S sameR sameT _ 11 _ (by kernel_rfl)) 32 (.slice A n cp) (by kernel_rfl) (same (HB4.at 1 (by kernel_rfl))) ?_
   refine WO.one (SA.F sameR sameT _ 12 _ (by kernel_rfl)) 33 (.int .i64 (i : Int)) (by kernel_rfl) ?_
   obtain ⟨ad66, hA67⟩ := HT.addr (i := i) (by have := hn; omega)
   refine WO.ixo (SA.F sameR sameT _ 13 _ (by kernel_rfl)) 34 n 2 i (i : Int) hA67 (by kernel_rfl) rfl (by omega) ?_
   refine WO.one (SA.F sameR sameT _ 14 _ (by kernel_rfl)) 35 (.pointer (some (ad66.add (i * 2)))) (by kernel_rfl) ?_
   refine WO.ld (SA.S sameR sameT _ 15 _ (by kernel_rfl)) 36 (.string (str (gT ev.tags i).1)) (by kernel_rfl) (same (HT.at0 hA67 (gT_some ev.tags i (by have := hn; omega)) (by kernel_rfl))) ?_
   refine WO.one (SA.F sameR sameT _ 16 _ (by kernel_rfl)) 37 (.bool (Go.Op.bytesLess ((str (gT acc j).1)).toList ((str (gT ev.tags i).1)).toList)) (by kernel_rfl) ?_
   refine WO.top (v' := .bool (ltS ((gT acc j).1) ((gT ev.tags i).1))) (congrArg Value.bool (lss_str ((gT acc j).1) ((gT ev.tags i).1))) ?_
   refine WO.topB (ltS ((gT acc j).1) ((gT ev.tags i).1)) ?_ ?_
   ·
    intro h68
    refine WO.one (SA.F sameR sameT _ 17 _ (by kernel_rfl)) 38 (.bool true) (by kernel_rfl) ?_
    refine WO.doneA (by kernel_rfl) ?_
    refine WQ.keep [1, 2, 3, 5, 6, 7, 38] (e' := [(1, .pointer (some ⟨g1, 0, none⟩)), (2, .pointer (some ⟨g6, 0, none⟩)), (3, .int .i64 0), (5, .slice At acc.length ct), (6, .int .i64 (i : Int)), (7, .int .i64 (j : Int)), (38, .bool true)]) (by kernel_rfl) ?_
    refine WQ.thenN ?_
    refine WE.condT (by kernel_rfl) ?_
    refine WE.skip ?_
    refine WQ.thenN ?_
    refine WE.block ?_
    refine WE.region ?_
    refine WO.run 1 0 [(39, .int .i64 (j : Int))] (by kernel_rfl) (by kernel_rfl) ?_
    refine WO.one (SQ.F 1 (by kernel_rfl)) 40 (.int .i64 (IntKind.i64.wrap ((j : Int) + 1))) (by kernel_rfl) ?_
    refine WO.top (v' := .int .i64 ((j + 1 : Nat) : Int)) (wrap_i64 (by omega) (by omega)) ?_
    refine WO.run 1 2 [(7, .int .i64 ((j + 1 : Nat) : Int))] (by kernel_rfl) (by kernel_rfl) ?_
    refine WO.done (by kernel_rfl) ?_
    refine WQ.keep [1, 2, 3, 5, 6, 7] (e' := [(1, .pointer (some ⟨g1, 0, none⟩)), (2, .pointer (some ⟨g6, 0, none⟩)), (3, .int .i64 0), (5, .slice At acc.length ct), (6, .int .i64 (i : Int)), (7, .int .i64 ((j + 1 : Nat) : Int))]) (by kernel_rfl) ?_
    refine WQ.blkN ?_
    refine WQ.round ?_
    intro a_ ha_
    refine ⟨j + 1, ?_, ha_.keep [1, 2, 3, 5, 6, 7] (by kernel_rfl), ?_⟩
    ·
     show acc.length - (j + 1) < acc.length - j; omega
    ·
     exact ⟨by omega, fun m h_ => (Nat.lt_succ_iff_lt_or_eq.1 h_).elim (hlt2 m) (fun e_ => by rw [e_]; assumption), HB4, HB9, HT, HO_FT, HV14, HA⟩
   intro h68
   refine WO.one (SA.F sameR sameT _ 17 _ (by kernel_rfl)) 38 (.bool false) (by kernel_rfl) ?_
   refine WO.doneA (by kernel_rfl) ?_
   refine WQ.keep [1, 2, 3, 5, 6, 7, 38] (e' := [(1, .pointer (some ⟨g1, 0, none⟩)), (2, .pointer (some ⟨g6, 0, none⟩)), (3, .int .i64 0), (5, .slice At acc.length ct), (6, .int .i64 (i : Int)), (7, .int .i64 (j : Int)), (38, .bool false)]) (by kernel_rfl) ?_
   refine WQ.thenN ?_
   refine WE.condF (by kernel_rfl) ?_
   refine WE.exit ?_
   refine WQ.thenE ?_
   refine WQ.thenE ?_
   refine WQ.blkE ?_
   refine WQ.round ?_
   intro a_ ha_
   refine ⟨j, ha_.keep [1, 2, 3, 5, 6, 7] (by kernel_rfl), ?_⟩
   exact ⟨hj, hlt2, by first | exact .inl (by omega) | exact .inr ⟨by omega, by assumption⟩, HB4, HB9, HT, HO_FT, HV14, HA⟩
  intro h63
  refine WO.one (SA.F sameR sameT _ 4 _ (by kernel_rfl)) 25 (.bool false) (by kernel_rfl) ?_
  refine WO.off (SA.O sameR sameT _ 5 _ (by kernel_rfl)) 26 (by kernel_rfl) ?_
  refine WO.off (SA.O sameR sameT _ 6 _ (by kernel_rfl)) 27 (by kernel_rfl) ?_
  refine WO.off (SA.O sameR sameT _ 7 _ (by kernel_rfl)) 28 (by kernel_rfl) ?_
  refine WO.off (SA.O sameR sameT _ 8 _ (by kernel_rfl)) 29 (by kernel_rfl) ?_
  refine WO.off (SA.O sameR sameT _ 9 _ (by kernel_rfl)) 30 (by kernel_rfl) ?_
  refine WO.off (SA.O sameR sameT _ 10 _ (by kernel_rfl)) 31 (by kernel_rfl) ?_
  refine WO.off (SA.O sameR sameT _ 11 _ (by kernel_rfl)) 32 (by kernel_rfl) ?_
  refine WO.off (SA.O sameR sameT _ 12 _ (by kernel_rfl)) 33 (by kernel_rfl) ?_
  refine WO.off (SA.O sameR sameT _ 13 _ (by kernel_rfl)) 34 (by kernel_rfl) ?_
  refine WO.off (SA.O sameR sameT _ 14 _ (by kernel_rfl)) 35 (by kernel_rfl) ?_
  refine WO.off (SA.O sameR sameT _ 15 _ (by kernel_rfl)) 36 (by kernel_rfl) ?_
  refine WO.off (SA.O sameR sameT _ 16 _ (by kernel_rfl)) 37 (by kernel_rfl) ?_
  refine WO.one (SA.F sameR sameT _ 17 _ (by kernel_rfl)) 38 (.bool false) (by kernel_rfl) ?_
  refine WO.doneA (by kernel_rfl) ?_
  refine WQ.keep [1, 2, 3, 5, 6, 7, 38] (e' := [(1, .pointer (some ⟨g1, 0, none⟩)), (2, .pointer (some ⟨g6, 0, none⟩)), (3, .int .i64 0), (5, .slice At acc.length ct), (6, .int .i64 (i : Int)), (7, .int .i64 (j : Int)), (38, .bool false)]) (by kernel_rfl) ?_
  refine WQ.thenN ?_
  refine WE.condF (by kernel_rfl) ?_
  refine WE.exit ?_
  refine WQ.thenE ?_
  refine WQ.thenE ?_
  refine WQ.blkE ?_
  refine WQ.round ?_
  intro a_ ha_
  refine ⟨j, ha_.keep [1, 2, 3, 5, 6, 7] (by kernel_rfl), ?_⟩
  exact ⟨hj, hlt2, by first | exact .inl (by omega) | exact .inr ⟨by omega, by assumption⟩, HB4, HB9, HT, HO_FT, HV14, HA⟩
 intro h13
 refine WO.done (by kernel_rfl) ?_
 refine WQ.keep [1, 2, 3, 5, 6, 18] (e' := [(1, .pointer (some ⟨g1, 0, none⟩)), (2, .pointer (some ⟨g6, 0, none⟩)), (3, .int .i64 0), (5, .slice At acc.length ct), (6, .int .i64 (i : Int)), (18, .bool false)]) (by kernel_rfl) ?_
 refine WQ.thenN ?_
 refine WE.condF (by kernel_rfl) ?_
 refine WE.exit ?_
 refine WQ.thenE ?_
 refine WQ.thenE ?_
 refine WQ.blkE ?_
 refine WQ.thenN ?_
 refine WE.seq ?_
 refine WE.region ?_
 refine WO.run 2 0 [(79, .pointer (some ⟨g1, 1, none⟩)), (78, .slice At acc.length ct)] (by kernel_rfl) (by kernel_rfl) ?_
 refine WO.st (SQ.E 2 (by kernel_rfl)) g1 1 [.slice At acc.length ct] #[.string (str ev.name), .slice At acc.length ct, .int .i64 ev.kind, .int .i64 ev.value, .int .i64 ev.time] (by kernel_rfl) HB4 (by kernel_rfl) (by kernel_rfl) (fun _ _ => trivial) ?_
 intro w69 HB71 F70 _
 have HB9 := Blk.keep HB9 F70 (ninC (Ne.symm ne_g1_g6) (nin0 _))
 have HT := HT.keep F70 (djB nin_g1_F)
 have HO_FT := HO_FT.keep F70 (djB nin_g1_FT)
 have HA := Fr.step HA F70 (inSR ge_HA_g1 inS0)
 refine WO.done (by kernel_rfl) ?_
 refine WQ.keep [1, 2, 3] (e' := [(1, .pointer (some ⟨g1, 0, none⟩)), (2, .pointer (some ⟨g6, 0, none⟩)), (3, .int .i64 0)]) (by kernel_rfl) ?_
 refine WQ.thenN ?_
 refine WE.seq ?_
 refine WE.region ?_
 refine WO.ldB (SQ.S 0 (by kernel_rfl)) 80 [.string (str ev.name), .slice At acc.length ct, .int .i64 ev.kind, .int .i64 ev.value, .int .i64 ev.time] g1 0 (by kernel_rfl) (by kernel_rfl) (same HB71) (by kernel_rfl) ?_
 refine WO.st (SQ.E 1 (by kernel_rfl)) g6 0 [.string (str ev.name), .slice At acc.length ct, .int .i64 ev.kind, .int .i64 ev.value, .int .i64 ev.time] #[.string (str ev.name), .slice At acc.length ct, .int .i64 ev.kind, .int .i64 ev.value, .int .i64 ev.time] (by kernel_rfl) HB9 (by kernel_rfl) (by kernel_rfl) (fun _ _ => trivial) ?_
 intro w72 HB74 F73 _
 have HB71 := Blk.keep HB71 F73 (ninC ne_g1_g6 (nin0 _))
 have HT := HT.keep F73 (djB nin_g6_F)
 have HO_FT := HO_FT.keep F73 (djB nin_g6_FT)
 have HA := Fr.step HA F73 (inSR ge_HA_g6 inS0)
 refine WO.run 1 2 [(3, .int .i64 0)] (by kernel_rfl) (by kernel_rfl) ?_
 refine WO.done (by kernel_rfl) ?_
 refine WQ.keep [2, 3] (e' := [(2, .pointer (some ⟨g6, 0, none⟩)), (3, .int .i64 0)]) (by kernel_rfl) ?_
 refine WQ.thenN ?_
 refine WE.ret ?_
 refine WQ.ret2 (fn := Tryd.f31) (show Tryd.f31.results = #[.cell 2 25, .tmp 3] by kernel_rfl) (show resOk _ _ _ _ (.agg #[.string (str ev.name), .slice At acc.length ct, .int .i64 ev.kind, .int .i64 ev.value, .int .i64 ev.time]) from ⟨by kernel_rfl, ⟨g6, 0, none⟩, by kernel_rfl, ldVarB [.string (str ev.name), .slice At acc.length ct, .int .i64 ev.kind, .int .i64 ev.value, .int .i64 ev.time] (by kernel_rfl) (by kernel_rfl) (by kernel_rfl) HB74 (by kernel_rfl)⟩) (show resOk _ _ _ _ (.int .i64 0) from ⟨by kernel_rfl, by kernel_rfl⟩) ?_
 have hie_ : i = n := by omega
 rw [hie_, List.take_of_length_le (by omega)] at hacc
 rw [show canonE ev = .inl { ev with tags := acc } from by rw [hacc, canon_of (sortK_perm _) (sortK_asc _) hmay, if_neg (by rw [str_dup (by rw [← hacc]; exact hstr)]; simp)]]
 exact ⟨_, _, _, _, rfl, VX.of_own HO_FT, rfl, own_cap HO_FT (List.length_map _), ge_HA_FT, HA⟩
theorem rcanon_f (ev : Ev) (A : Option Addr) (n cp : Nat) (F : List Nat) (w : World) (HT : VX cT 2 w F A ev.tags) (hn : ev.tags.length = n) (hnn : n ≤ 9223372036854775807) (hln : ev.name.length ≤ 9223372036854775807) (hlt : ∀ t ∈ ev.tags, t.1.length ≤ 9223372036854775807 ∧ t.2.length ≤ 9223372036854775807) :
  Calls Tryd.prog 31 #[.agg #[.string (str ev.name), .slice A n cp, .int .i64 ev.kind, .int .i64 ev.value, .int .i64 ev.time]] w fun e w' => ResD w w' e (canonE ev) := by
 cases hmay : mayE ev with
 | false =>
  rw [canon_no hmay]
  exact (rcanon_bad ev A n cp F w HT hn hnn hln hlt hmay).mono fun e w' h => h
 | true => exact rcanon_ok ev A n cp F w HT hn hnn hln hlt hmay
set_option maxRecDepth 100000 in
set_option maxHeartbeats 400000 in
theorem rkey_f (ev : Ev) (A : Option Addr) (n cp : Nat) (F : List Nat) (w : World) (HT : VX cT 2 w F A ev.tags) (hn : ev.tags.length = n) (hnn : n ≤ 9223372036854775807) (hln : ev.name.length ≤ 9223372036854775807) (hlt : ∀ t ∈ ev.tags, t.1.length ≤ 9223372036854775807 ∧ t.2.length ≤ 9223372036854775807) :
  Calls Tryd.prog 15 #[.agg #[.string (str ev.name), .slice A n cp, .int .i64 ev.kind, .int .i64 ev.value, .int .i64 ev.time]] w fun e w' => ResKR w w' e (keyE ev) := by
 have HA := Fr.refl [] w
 refine enter (N := 16) Tryd.func15 (c := _) rfl (by kernel_rfl) (by kernel_rfl) (e := [(0, .agg #[.string (str ev.name), .slice A n cp, .int .i64 ev.kind, .int .i64 ev.value, .int .i64 ev.time])]) (by kernel_rfl) ?_
 refine WE.seq ?_
 refine WE.region ?_
 refine WO.bx (SQ.E 0 (by kernel_rfl)) 1 #[.string (str ev.name), .slice A n cp, .int .i64 ev.kind, .int .i64 ev.value, .int .i64 ev.time] 25 (fun g => .pointer (some ⟨g, 0, none⟩)) (by kernel_rfl) (fun _ _ => trivial) ?_
 intro g1 w2 HB4 F3 le5 _
 have nin_g1_F : g1 ∉ F := new_nin HT.lt le5
 have ge_HA_g1 := Nat.le_trans HA.size le5
 have HT := HT.keep F3 (fun _ _ => nin0 _)
 have HA := Fr.step0 HA F3
 refine WO.run 2 1 [(3, .int .i64 0), (2, .string (⟨#[]⟩))] (by kernel_rfl) (by kernel_rfl) ?_
 refine WO.done (by kernel_rfl) ?_
 refine WQ.keep [1, 2, 3] (e' := [(1, .pointer (some ⟨g1, 0, none⟩)), (2, .string (⟨#[]⟩)), (3, .int .i64 0)]) (by kernel_rfl) ?_
 refine WQ.thenN ?_
 refine WE.seq ?_
 refine WE.region ?_
 refine WO.ldB (SQ.S 0 (by kernel_rfl)) 7 [.string (str ev.name), .slice A n cp, .int .i64 ev.kind, .int .i64 ev.value, .int .i64 ev.time] g1 0 (by kernel_rfl) (by kernel_rfl) (same HB4) (by kernel_rfl) ?_
 refine WO.call (SQ.E 1 (by kernel_rfl)) 8 (by kernel_rfl) (rcanon_f ev A n cp F _ HT hn hnn hln hlt) ?_
 intro e_ w6 hr_
 cases hc_ : canonE ev
 rotate_left
 ·
  rename_i co
  have hco_ := canon_code hc_
  rw [hc_] at hr_
  obtain ⟨rfl, F7⟩ := hr_
  refine ⟨_, rfl, trivial, ?_⟩
  have HB4 := Blk.keep HB4 F7 (nin0 _)
  have HT := HT.keep F7 (fun _ _ => nin0 _)
  have HA := Fr.step0 HA F7
  refine WO.run 3 2 [(10, .int .i64 co), (9, .agg #[.string (⟨#[]⟩), .slice none 0 0, .int .i64 0, .int .i64 0, .int .i64 0]), (6, .tuple #[.agg #[.string (⟨#[]⟩), .slice none 0 0, .int .i64 0, .int .i64 0, .int .i64 0], .int .i64 co])] (by kernel_rfl) (by kernel_rfl) ?_
  refine WO.bx (SQ.E 5 (by kernel_rfl)) 4 #[.string (⟨#[]⟩), .slice none 0 0, .int .i64 0, .int .i64 0, .int .i64 0] 25 (fun g => .pointer (some ⟨g, 0, none⟩)) (by kernel_rfl) (fun _ _ => trivial) ?_
  intro g8 w9 HB11 F10 le12 _
  have ne_g1_g8 : g1 ≠ g8 := Nat.ne_of_lt (Nat.lt_of_lt_of_le HB4.lt le12)
  have nin_g8_F : g8 ∉ F := new_nin HT.lt le12
  have ge_HA_g8 := Nat.le_trans HA.size le12
  have HB4 := Blk.keep HB4 F10 (nin0 _)
  have HT := HT.keep F10 (fun _ _ => nin0 _)
  have HA := Fr.step0 HA F10
  refine WO.st (SQ.E 6 (by kernel_rfl)) g8 0 [.string (⟨#[]⟩), .slice none 0 0, .int .i64 0, .int .i64 0, .int .i64 0] #[.string (⟨#[]⟩), .slice none 0 0, .int .i64 0, .int .i64 0, .int .i64 0] (by kernel_rfl) HB11 (by kernel_rfl) (by kernel_rfl) (fun _ _ => trivial) ?_
  intro w13 HB15 F14 _
  have HB4 := Blk.keep HB4 F14 (ninC ne_g1_g8 (nin0 _))
  have HT := HT.keep F14 (djB nin_g8_F)
  have HA := Fr.step HA F14 (inSR ge_HA_g8 inS0)
  refine WO.run 1 7 [(5, .int .i64 co)] (by kernel_rfl) (by kernel_rfl) ?_
  refine WO.done (by kernel_rfl) ?_
  refine WQ.keep [2, 3, 4, 5] (e' := [(2, .string (⟨#[]⟩)), (3, .int .i64 0), (4, .pointer (some ⟨g8, 0, none⟩)), (5, .int .i64 co)]) (by kernel_rfl) ?_
  refine WQ.thenN ?_
  refine WE.seq ?_
  refine WE.seq ?_
  refine WE.region ?_
  refine WO.run 1 0 [(11, .int .i64 co)] (by kernel_rfl) (by kernel_rfl) ?_
  refine WO.one (SQ.F 1 (by kernel_rfl)) 12 (.bool (!decide ((co : Int) = 0))) (by kernel_rfl) ?_
  refine WO.topNF ((co : Int) = 0) (by omega) ?_
  refine WO.done (by kernel_rfl) ?_
  refine WQ.keep [2, 3, 4, 5, 12] (e' := [(2, .string (⟨#[]⟩)), (3, .int .i64 0), (4, .pointer (some ⟨g8, 0, none⟩)), (5, .int .i64 co), (12, .bool true)]) (by kernel_rfl) ?_
  refine WQ.thenN ?_
  refine WE.condT (by kernel_rfl) ?_
  refine WE.seq ?_
  refine WE.region ?_
  refine WO.run 3 0 [(3, .int .i64 co), (2, .string (⟨#[]⟩)), (13, .int .i64 co)] (by kernel_rfl) (by kernel_rfl) ?_
  refine WO.done (by kernel_rfl) ?_
  refine WQ.keep [2, 3, 4] (e' := [(2, .string (⟨#[]⟩)), (3, .int .i64 co), (4, .pointer (some ⟨g8, 0, none⟩))]) (by kernel_rfl) ?_
  refine WQ.thenN ?_
  refine WE.ret ?_
  refine WQ.thenR ?_
  refine WQ.ret (v := .tuple #[.string (⟨#[]⟩), .int .i64 co]) (by kernel_rfl) ?_
  rw [show keyE ev = .inr co from by unfold keyE; rw [hc_]]
  exact ⟨rfl, HA⟩
 ·
  rename_i cn
  rw [hc_] at hr_
  obtain ⟨A2_, n2_, c2_, F2_, rfl, HT2_, hn2_, hc2_, hg2_, F7⟩ := hr_
  obtain ⟨hmy, hce, hnd, hmc⟩ := canon_may hc_
  have h62_ := (may_parts hmc).2.2.1
  refine ⟨_, rfl, trivial, ?_⟩
  have hg2r_ := fun y hy => Or.inr (a := y ∈ ([] : List Nat)) (hg2_ y hy)
  have nin_g1_F2_ : g1 ∉ F2_ := grow_nin hg2r_ (nin0 _) HB4.lt
  have dj_F2__F : ∀ y ∈ F2_, y ∉ F := grow_dj hg2r_ (by simp) HT.lt
  have ge_HA_F2_ : ∀ y ∈ F2_, (World.heap w).size ≤ y := grow_ge hg2r_ (by simp) HA.size
  have HB4 := Blk.keep HB4 F7 (nin0 _)
  have HT := HT.keep F7 (fun _ _ => nin0 _)
  have HA := Fr.step0 HA F7
  refine WO.run 3 2 [(10, .int .i64 0), (9, .agg #[.string (str cn.name), .slice A2_ n2_ c2_, .int .i64 cn.kind, .int .i64 cn.value, .int .i64 cn.time]), (6, .tuple #[.agg #[.string (str cn.name), .slice A2_ n2_ c2_, .int .i64 cn.kind, .int .i64 cn.value, .int .i64 cn.time], .int .i64 0])] (by kernel_rfl) (by kernel_rfl) ?_
  refine WO.bx (SQ.E 5 (by kernel_rfl)) 4 #[.string (⟨#[]⟩), .slice none 0 0, .int .i64 0, .int .i64 0, .int .i64 0] 25 (fun g => .pointer (some ⟨g, 0, none⟩)) (by kernel_rfl) (fun _ _ => trivial) ?_
  intro g16 w17 HB19 F18 le20 _
  have ne_g1_g16 : g1 ≠ g16 := Nat.ne_of_lt (Nat.lt_of_lt_of_le HB4.lt le20)
  have nin_g16_F : g16 ∉ F := new_nin HT.lt le20
  have nin_g16_F2_ : g16 ∉ F2_ := new_nin HT2_.lt le20
  have ge_HA_g16 := Nat.le_trans HA.size le20
  have HB4 := Blk.keep HB4 F18 (nin0 _)
  have HT := HT.keep F18 (fun _ _ => nin0 _)
  have HT2_ := HT2_.keep F18 (fun _ _ => nin0 _)
  have HA := Fr.step0 HA F18
  refine WO.st (SQ.E 6 (by kernel_rfl)) g16 0 [.string (str cn.name), .slice A2_ n2_ c2_, .int .i64 cn.kind, .int .i64 cn.value, .int .i64 cn.time] #[.string (str cn.name), .slice A2_ n2_ c2_, .int .i64 cn.kind, .int .i64 cn.value, .int .i64 cn.time] (by kernel_rfl) HB19 (by kernel_rfl) (by kernel_rfl) (fun _ _ => trivial) ?_
  intro w21 HB23 F22 _
  have HB4 := Blk.keep HB4 F22 (ninC ne_g1_g16 (nin0 _))
  have HT := HT.keep F22 (djB nin_g16_F)
  have HT2_ := HT2_.keep F22 (djB nin_g16_F2_)
  have HA := Fr.step HA F22 (inSR ge_HA_g16 inS0)
  refine WO.run 1 7 [(5, .int .i64 0)] (by kernel_rfl) (by kernel_rfl) ?_
  refine WO.done (by kernel_rfl) ?_
  refine WQ.keep [2, 3, 4, 5] (e' := [(2, .string (⟨#[]⟩)), (3, .int .i64 0), (4, .pointer (some ⟨g16, 0, none⟩)), (5, .int .i64 0)]) (by kernel_rfl) ?_
  refine WQ.thenN ?_
  refine WE.seq ?_
  refine WE.seq ?_
  refine WE.region ?_
  refine WO.run 2 0 [(12, .bool false), (11, .int .i64 0)] (by kernel_rfl) (by kernel_rfl) ?_
  refine WO.done (by kernel_rfl) ?_
  refine WQ.keep [2, 3, 4, 5, 12] (e' := [(2, .string (⟨#[]⟩)), (3, .int .i64 0), (4, .pointer (some ⟨g16, 0, none⟩)), (5, .int .i64 0), (12, .bool false)]) (by kernel_rfl) ?_
  refine WQ.thenN ?_
  refine WE.condF (by kernel_rfl) ?_
  refine WE.skip ?_
  refine WQ.thenN ?_
  refine WE.seq ?_
  refine WE.region ?_
  refine WO.ldB (SQ.S 0 (by kernel_rfl)) 14 [.string (str cn.name), .slice A2_ n2_ c2_, .int .i64 cn.kind, .int .i64 cn.value, .int .i64 cn.time] g16 0 (by kernel_rfl) (by kernel_rfl) (same HB23) (by kernel_rfl) ?_
  refine WO.call (SQ.E 1 (by kernel_rfl)) 15 (by kernel_rfl) (head_f cn A2_ n2_ c2_ F2_ _ HT2_ hn2_ (by omega) (few_of hmc)) ?_
  rintro _ w24 ⟨rfl, F25⟩
  refine ⟨_, rfl, trivial, ?_⟩
  have HB4 := Blk.keep HB4 F25 (nin0 _)
  have HB23 := Blk.keep HB23 F25 (nin0 _)
  have HT := HT.keep F25 (fun _ _ => nin0 _)
  have HT2_ := HT2_.keep F25 (fun _ _ => nin0 _)
  have HA := Fr.step0 HA F25
  refine WO.run 2 2 [(3, .int .i64 0), (2, .string (str (headT cn)))] (by kernel_rfl) (by kernel_rfl) ?_
  refine WO.done (by kernel_rfl) ?_
  refine WQ.keep [2, 3] (e' := [(2, .string (str (headT cn))), (3, .int .i64 0)]) (by kernel_rfl) ?_
  refine WQ.thenN ?_
  refine WE.ret ?_
  refine WQ.ret (v := .tuple #[.string (str (headT cn)), .int .i64 0]) (by kernel_rfl) ?_
  rw [show keyE ev = .inl (headT cn) from by unfold keyE; rw [hc_]]
  exact ⟨rfl, HA⟩
set_option maxRecDepth 100000 in
set_option maxHeartbeats 400000 in
theorem up14_any (w : World) :
  Calls Tryd.prog 8 #[] w fun e w' => e = .returned (.bool true) ∧ Fr [] w w' := by
 have HA := Fr.refl [] w
 refine enter (N := 44) Tryd.func8 (c := _) rfl (by kernel_rfl) (by kernel_rfl) (e := []) (by kernel_rfl) ?_
 refine WE.seq ?_
 refine WE.region ?_
 refine WO.run 1 0 [(0, .bool false)] (by kernel_rfl) (by kernel_rfl) ?_
 refine WO.done (by kernel_rfl) ?_
 refine WQ.thenN ?_
 refine WE.seq ?_
 refine WE.region ?_
 refine WO.run 1 0 [(8, .agg #[.string (⟨#[99, 112, 117]⟩), .int .i64 0])] (by kernel_rfl) (by kernel_rfl) ?_
 refine WO.bx (SQ.E 1 (by kernel_rfl)) 9 #[.string (⟨#[99, 112, 117]⟩), .int .i64 0] 55 (fun g => .slice (some ⟨g, 0, none⟩) 1 1) (by kernel_rfl) (fun _ _ => trivial) ?_
 intro g1 w2 HB4 F3 le5 _
 have ge_HA_g1 := Nat.le_trans HA.size le5
 have HA := Fr.step0 HA F3
 refine WO.run 1 2 [(1, .slice (some ⟨g1, 0, none⟩) 1 1)] (by kernel_rfl) (by kernel_rfl) ?_
 refine WO.done (by kernel_rfl) ?_
 refine WQ.keep [0, 1] (e' := [(0, .bool false), (1, .slice (some ⟨g1, 0, none⟩) 1 1)]) (by kernel_rfl) ?_
 refine WQ.thenN ?_
 refine WE.seq ?_
 refine WE.region ?_
 refine WO.run 1 0 [(11, .slice (some ⟨g1, 0, none⟩) 1 1)] (by kernel_rfl) (by kernel_rfl) ?_
 have HVu := VX.of_row (RowB.of_blk (n := 1) HB4 (List.map cRu [([99, 112, 117], 0)]) rfl rfl (cRu_len _) (cRu_one _) (by omega))
 refine WO.call (SQ.E 1 (by kernel_rfl)) 12 (by kernel_rfl) (class_ok [([99, 112, 117], 0)] (some ⟨g1, 0, none⟩) 1 1 [g1] 2 [99, 112, 117, 46, 120] _ HVu rfl (by omega) (by decide) rfl) ?_
 rintro _ w6 ⟨rfl, F7⟩
 refine ⟨_, rfl, trivial, ?_⟩
 have HB4 := Blk.keep HB4 F7 (nin0 _)
 have HA := Fr.step0 HA F7
 refine WO.run 5 2 [(3, .nilIface), (2, .int .i64 (classR 2 [99, 112, 117, 46, 120] [([99, 112, 117], 0)])), (14, .nilIface), (13, .int .i64 (classR 2 [99, 112, 117, 46, 120] [([99, 112, 117], 0)])), (10, .tuple #[.int .i64 (classR 2 [99, 112, 117, 46, 120] [([99, 112, 117], 0)]), .nilIface])] (by kernel_rfl) (by kernel_rfl) ?_
 refine WO.done (by kernel_rfl) ?_
 refine WQ.keep [0, 1, 2, 3] (e' := [(0, .bool false), (1, .slice (some ⟨g1, 0, none⟩) 1 1), (2, .int .i64 (classR 2 [99, 112, 117, 46, 120] [([99, 112, 117], 0)])), (3, .nilIface)]) (by kernel_rfl) ?_
 refine WQ.thenN ?_
 refine WE.seq ?_
 refine WE.region ?_
 refine WO.run 1 0 [(16, .slice (some ⟨g1, 0, none⟩) 1 1)] (by kernel_rfl) (by kernel_rfl) ?_
 have HVu := VX.of_row (RowB.of_blk (n := 1) HB4 (List.map cRu [([99, 112, 117], 0)]) rfl rfl (cRu_len _) (cRu_one _) (by omega))
 refine WO.call (SQ.E 1 (by kernel_rfl)) 17 (by kernel_rfl) (class_ok [([99, 112, 117], 0)] (some ⟨g1, 0, none⟩) 1 1 [g1] 2 [109, 101, 109] _ HVu rfl (by omega) (by decide) rfl) ?_
 rintro _ w8 ⟨rfl, F9⟩
 refine ⟨_, rfl, trivial, ?_⟩
 have HB4 := Blk.keep HB4 F9 (nin0 _)
 have HA := Fr.step0 HA F9
 refine WO.run 5 2 [(5, .nilIface), (4, .int .i64 (classR 2 [109, 101, 109] [([99, 112, 117], 0)])), (19, .nilIface), (18, .int .i64 (classR 2 [109, 101, 109] [([99, 112, 117], 0)])), (15, .tuple #[.int .i64 (classR 2 [109, 101, 109] [([99, 112, 117], 0)]), .nilIface])] (by kernel_rfl) (by kernel_rfl) ?_
 refine WO.done (by kernel_rfl) ?_
 refine WQ.keep [0, 1, 2, 3, 4, 5] (e' := [(0, .bool false), (1, .slice (some ⟨g1, 0, none⟩) 1 1), (2, .int .i64 (classR 2 [99, 112, 117, 46, 120] [([99, 112, 117], 0)])), (3, .nilIface), (4, .int .i64 (classR 2 [109, 101, 109] [([99, 112, 117], 0)])), (5, .nilIface)]) (by kernel_rfl) ?_
 refine WQ.thenN ?_
 refine WE.seq ?_
 refine WE.region ?_
 refine WO.run 1 0 [(21, .slice (some ⟨g1, 0, none⟩) 1 1)] (by kernel_rfl) (by kernel_rfl) ?_
 have HVu := VX.of_row (RowB.of_blk (n := 1) HB4 (List.map cRu [([99, 112, 117], 0)]) rfl rfl (cRu_len _) (cRu_one _) (by omega))
 refine WO.call (SQ.E 1 (by kernel_rfl)) 22 (by kernel_rfl) (class_no [([99, 112, 117], 0)] (some ⟨g1, 0, none⟩) 1 1 [g1] 0 [109, 101, 109] _ HVu rfl (by omega) (by decide) rfl) ?_
 rintro _ w10 ⟨rfl, F11⟩
 refine ⟨_, rfl, trivial, ?_⟩
 have HB4 := Blk.keep HB4 F11 (nin0 _)
 have HA := Fr.step0 HA F11
 refine WO.run 5 2 [(7, .iface 35 (.int .i64 1)), (6, .int .i64 0), (24, .iface 35 (.int .i64 1)), (23, .int .i64 0), (20, .tuple #[.int .i64 0, .iface 35 (.int .i64 1)])] (by kernel_rfl) (by kernel_rfl) ?_
 refine WO.done (by kernel_rfl) ?_
 refine WQ.keep [0, 2, 3, 4, 5, 7] (e' := [(0, .bool false), (2, .int .i64 (classR 2 [99, 112, 117, 46, 120] [([99, 112, 117], 0)])), (3, .nilIface), (4, .int .i64 (classR 2 [109, 101, 109] [([99, 112, 117], 0)])), (5, .nilIface), (7, .iface 35 (.int .i64 1))]) (by kernel_rfl) ?_
 refine WQ.thenN ?_
 refine WE.seq ?_
 refine WE.region ?_
 refine WO.run 4 0 [(28, .int .i64 (classR 2 [99, 112, 117, 46, 120] [([99, 112, 117], 0)])), (27, .bool true), (26, .bool true), (25, .nilIface)] (by kernel_rfl) (by kernel_rfl) ?_
 refine WO.one (SQ.F 4 (by kernel_rfl)) 29 (.bool (decide ((classR 2 [99, 112, 117, 46, 120] [([99, 112, 117], 0)] : Int) = 0))) (by kernel_rfl) ?_
 refine WO.topPT ((classR 2 [99, 112, 117, 46, 120] [([99, 112, 117], 0)] : Int) = 0) (by rfl) ?_
 refine WO.run 7 5 [(36, .int .i64 (classR 2 [109, 101, 109] [([99, 112, 117], 0)])), (35, .bool true), (34, .bool true), (33, .bool true), (32, .nilIface), (31, .bool true), (30, .bool true)] (by kernel_rfl) (by kernel_rfl) ?_
 refine WO.one (SQ.F 12 (by kernel_rfl)) 37 (.bool (decide ((classR 2 [109, 101, 109] [([99, 112, 117], 0)] : Int) = 1))) (by kernel_rfl) ?_
 refine WO.topPT ((classR 2 [109, 101, 109] [([99, 112, 117], 0)] : Int) = 1) (by rfl) ?_
 refine WO.run 7 13 [(0, .bool true), (43, .bool true), (42, .bool true), (41, .iface 35 (.int .i64 1)), (40, .iface 35 (.int .i64 1)), (39, .bool true), (38, .bool true)] (by kernel_rfl) (by kernel_rfl) ?_
 refine WO.done (by kernel_rfl) ?_
 refine WQ.keep [0] (e' := [(0, .bool true)]) (by kernel_rfl) ?_
 refine WQ.thenN ?_
 refine WE.ret ?_
 refine WQ.ret (v := .bool true) (by kernel_rfl) ?_
 exact ⟨rfl, HA⟩
set_option maxRecDepth 100000 in
set_option maxHeartbeats 1000000 in
theorem tells_any (l : List (L × Int)) (AR : Option Addr) (nr cr : Nat) (FR : List Nat) (cl : Int) (k0 : L) (ev : Ev) (A : Option Addr) (n cp : Nat) (F : List Nat) (w : World) (hk0 : k0.length ≤ 9223372036854775807) (HL : VX cRu 2 w FR AR l) (hnr : l.length = nr) (hnrr : nr ≤ 9223372036854775807) (hrl : ∀ r ∈ l, r.1.length ≤ 9223372036854775807) (HT : VX cT 2 w F A ev.tags) (hn : ev.tags.length = n) (hnn : n ≤ 9223372036854775807) (hln : ev.name.length ≤ 9223372036854775807) (hlt : ∀ t ∈ ev.tags, t.1.length ≤ 9223372036854775807 ∧ t.2.length ≤ 9223372036854775807) (hv : -9223372036854775808 ≤ ev.value ∧ ev.value ≤ 9223372036854775807) (hF2 : 2 ∉ F) (HTab : Lib.TabIs Tryd.prog w "internal/strconv.uint64pow10" .u64 Lib.pow10Tab) (HM : MaxI w) :
  Calls Tryd.prog 3 #[.slice AR nr cr, .int .i64 cl, .string (str k0), .agg #[.string (str ev.name), .slice A n cp, .int .i64 ev.kind, .int .i64 ev.value, .int .i64 ev.time]] w fun e w' => e = .returned (.bool true) ∧ Fr [] w w' := by
 have HA := Fr.refl [] w
 refine enter (N := 127) Tryd.func3 (c := _) rfl (by kernel_rfl) (by kernel_rfl) (e := [(0, .slice AR nr cr), (1, .int .i64 cl), (2, .string (str k0)), (3, .agg #[.string (str ev.name), .slice A n cp, .int .i64 ev.kind, .int .i64 ev.value, .int .i64 ev.time])]) (by kernel_rfl) ?_
 refine WE.seq ?_
 refine WE.region ?_
 refine WO.bx (SQ.E 0 (by kernel_rfl)) 7 #[.string (str ev.name), .slice A n cp, .int .i64 ev.kind, .int .i64 ev.value, .int .i64 ev.time] 25 (fun g => .pointer (some ⟨g, 0, none⟩)) (by kernel_rfl) (fun _ _ => trivial) ?_
 intro g1 w2 HB4 F3 le5 _
 have nin_g1_FR : g1 ∉ FR := new_nin HL.lt le5
 have nin_g1_F : g1 ∉ F := new_nin HT.lt le5
 have ne_2_g1 : 2 ≠ g1 := Nat.ne_of_lt (Nat.lt_of_lt_of_le (tab_lt HTab) le5)
 have ne_1_g1 : 1 ≠ g1 := Nat.ne_of_lt (Nat.lt_of_lt_of_le (max_lt HM) le5)
 have ge_HA_g1 := Nat.le_trans HA.size le5
 have HL := HL.keep F3 (fun _ _ => nin0 _)
 have HT := HT.keep F3 (fun _ _ => nin0 _)
 have HTab := tab_keep HTab F3 (nin0 _)
 have HM := max_keep HM F3 (nin0 _)
 have HA := Fr.step0 HA F3
 refine WO.run 1 1 [(8, .bool false)] (by kernel_rfl) (by kernel_rfl) ?_
 refine WO.done (by kernel_rfl) ?_
 refine WQ.keep [0, 1, 2, 7, 8] (e' := [(0, .slice AR nr cr), (1, .int .i64 cl), (2, .string (str k0)), (7, .pointer (some ⟨g1, 0, none⟩)), (8, .bool false)]) (by kernel_rfl) ?_
 refine WQ.thenN ?_
 refine WE.seq ?_
 refine WE.region ?_
 refine WO.call (SQ.E 0 (by kernel_rfl)) 19 (by kernel_rfl) (up14_any _) ?_
 rintro _ w6 ⟨rfl, F7⟩
 refine ⟨_, rfl, trivial, ?_⟩
 have HB4 := Blk.keep HB4 F7 (nin0 _)
 have HL := HL.keep F7 (fun _ _ => nin0 _)
 have HT := HT.keep F7 (fun _ _ => nin0 _)
 have HTab := tab_keep HTab F7 (nin0 _)
 have HM := max_keep HM F7 (nin0 _)
 have HA := Fr.step0 HA F7
 refine WO.run 1 1 [(9, .bool true)] (by kernel_rfl) (by kernel_rfl) ?_
 refine WO.done (by kernel_rfl) ?_
 refine WQ.keep [0, 1, 2, 7, 8, 9] (e' := [(0, .slice AR nr cr), (1, .int .i64 cl), (2, .string (str k0)), (7, .pointer (some ⟨g1, 0, none⟩)), (8, .bool false), (9, .bool true)]) (by kernel_rfl) ?_
 refine WQ.thenN ?_
 refine WE.seq ?_
 refine WE.region ?_
 refine WO.ldB (SQ.S 0 (by kernel_rfl)) 20 [.string (str ev.name), .slice A n cp, .int .i64 ev.kind, .int .i64 ev.value, .int .i64 ev.time] g1 0 (by kernel_rfl) (by kernel_rfl) (same HB4) (by kernel_rfl) ?_
 refine WO.call (SQ.E 1 (by kernel_rfl)) 21 (by kernel_rfl) (few_f ev A n cp F _ HT hn hnn hln hlt) ?_
 rintro _ w8 ⟨rfl, F9⟩
 refine ⟨_, rfl, trivial, ?_⟩
 have HB4 := Blk.keep HB4 F9 (nin0 _)
 have HL := HL.keep F9 (fun _ _ => nin0 _)
 have HT := HT.keep F9 (fun _ _ => nin0 _)
 have HTab := tab_keep HTab F9 (nin0 _)
 have HM := max_keep HM F9 (nin0 _)
 have HA := Fr.step0 HA F9
 rcases Bool.eq_false_or_eq_true (fewE ev) with hfew | hfew
 ·
  rw [hfew]
  refine WO.run 1 2 [(10, .bool true)] (by kernel_rfl) (by kernel_rfl) ?_
  refine WO.done (by kernel_rfl) ?_
  refine WQ.keep [0, 1, 2, 7, 8, 9, 10] (e' := [(0, .slice AR nr cr), (1, .int .i64 cl), (2, .string (str k0)), (7, .pointer (some ⟨g1, 0, none⟩)), (8, .bool false), (9, .bool true), (10, .bool true)]) (by kernel_rfl) ?_
  refine WQ.thenN ?_
  refine WE.seq ?_
  refine WE.region ?_
  refine WO.run 1 0 [(22, .slice AR nr cr)] (by kernel_rfl) (by kernel_rfl) ?_
  refine WO.call (SQ.E 1 (by kernel_rfl)) 23 (by kernel_rfl) (fewr_f l AR nr cr FR _ HL hnr hnrr hrl) ?_
  rintro _ w10 ⟨rfl, F11⟩
  refine ⟨_, rfl, trivial, ?_⟩
  have HB4 := Blk.keep HB4 F11 (nin0 _)
  have HL := HL.keep F11 (fun _ _ => nin0 _)
  have HT := HT.keep F11 (fun _ _ => nin0 _)
  have HTab := tab_keep HTab F11 (nin0 _)
  have HM := max_keep HM F11 (nin0 _)
  have HA := Fr.step0 HA F11
  rcases Bool.eq_false_or_eq_true (fewR l) with hfr | hfr
  ·
   rw [hfr]
   refine WO.run 1 2 [(11, .bool true)] (by kernel_rfl) (by kernel_rfl) ?_
   refine WO.done (by kernel_rfl) ?_
   refine WQ.keep [0, 1, 2, 7, 8, 9, 10, 11] (e' := [(0, .slice AR nr cr), (1, .int .i64 cl), (2, .string (str k0)), (7, .pointer (some ⟨g1, 0, none⟩)), (8, .bool false), (9, .bool true), (10, .bool true), (11, .bool true)]) (by kernel_rfl) ?_
   refine WQ.thenN ?_
   refine WE.seq ?_
   refine WE.seq ?_
   refine WE.region ?_
   refine WO.run 9 0 [(32, .int .i64 (k0.length : Int)), (31, .string (str k0)), (30, .bool false), (29, .bool false), (28, .bool false), (27, .bool true), (26, .bool false), (25, .bool false), (24, .bool true)] (by kernel_rfl) (by kernel_rfl) ?_
   refine WO.one (SQ.F 9 (by kernel_rfl)) 33 (.bool (decide (((k0.length : Int) : Int) > (3000 : Int)))) (by kernel_rfl) ?_
   refine WO.topP (((k0.length : Int) : Int) > (3000 : Int)) ?_ ?_
   ·
    intro h12
    refine WO.run 1 10 [(34, .bool true)] (by kernel_rfl) (by kernel_rfl) ?_
    refine WO.done (by kernel_rfl) ?_
    refine WQ.keep [0, 1, 2, 7, 8, 9, 34] (e' := [(0, .slice AR nr cr), (1, .int .i64 cl), (2, .string (str k0)), (7, .pointer (some ⟨g1, 0, none⟩)), (8, .bool false), (9, .bool true), (34, .bool true)]) (by kernel_rfl) ?_
    refine WQ.thenN ?_
    refine WE.condT (by kernel_rfl) ?_
    refine WE.seq ?_
    refine WE.region ?_
    refine WO.run 2 0 [(8, .bool true), (35, .bool true)] (by kernel_rfl) (by kernel_rfl) ?_
    refine WO.done (by kernel_rfl) ?_
    refine WQ.keep [0, 1, 2, 7, 8, 9] (e' := [(0, .slice AR nr cr), (1, .int .i64 cl), (2, .string (str k0)), (7, .pointer (some ⟨g1, 0, none⟩)), (8, .bool true), (9, .bool true)]) (by kernel_rfl) ?_
    refine WQ.thenN ?_
    refine WE.ret ?_
    refine WQ.thenR ?_
    refine WQ.ret (v := .bool true) (by kernel_rfl) ?_
    exact ⟨rfl, HA⟩
   intro h12
   refine WO.run 1 10 [(34, .bool false)] (by kernel_rfl) (by kernel_rfl) ?_
   refine WO.done (by kernel_rfl) ?_
   refine WQ.keep [0, 1, 2, 7, 8, 9, 34] (e' := [(0, .slice AR nr cr), (1, .int .i64 cl), (2, .string (str k0)), (7, .pointer (some ⟨g1, 0, none⟩)), (8, .bool false), (9, .bool true), (34, .bool false)]) (by kernel_rfl) ?_
   refine WQ.thenN ?_
   refine WE.condF (by kernel_rfl) ?_
   refine WE.skip ?_
   refine WQ.thenN ?_
   refine WE.seq ?_
   refine WE.region ?_
   refine WO.run 3 0 [(39, .string (str k0)), (38, .int .i64 cl), (37, .slice AR nr cr)] (by kernel_rfl) (by kernel_rfl) ?_
   rcases Bool.eq_false_or_eq_true (mayR cl l) with hmr | hmr
   ·
    refine WO.call (SQ.E 3 (by kernel_rfl)) 40 (by kernel_rfl) (class_ok l AR nr cr FR cl k0 _ HL hnr hnrr hrl hmr) ?_
    rintro _ w13 ⟨rfl, F14⟩
    refine ⟨_, rfl, trivial, ?_⟩
    have HB4 := Blk.keep HB4 F14 (nin0 _)
    have HL := HL.keep F14 (fun _ _ => nin0 _)
    have HT := HT.keep F14 (fun _ _ => nin0 _)
    have HTab := tab_keep HTab F14 (nin0 _)
    have HM := max_keep HM F14 (nin0 _)
    have HA := Fr.step0 HA F14
    refine WO.run 5 4 [(13, .nilIface), (12, .int .i64 (classR cl k0 l)), (42, .nilIface), (41, .int .i64 (classR cl k0 l)), (36, .tuple #[.int .i64 (classR cl k0 l), .nilIface])] (by kernel_rfl) (by kernel_rfl) ?_
    refine WO.done (by kernel_rfl) ?_
    refine WQ.keep [0, 1, 2, 7, 8, 9, 12, 13] (e' := [(0, .slice AR nr cr), (1, .int .i64 cl), (2, .string (str k0)), (7, .pointer (some ⟨g1, 0, none⟩)), (8, .bool false), (9, .bool true), (12, .int .i64 (classR cl k0 l)), (13, .nilIface)]) (by kernel_rfl) ?_
    refine WQ.thenN ?_
    refine WE.seq ?_
    refine WE.region ?_
    refine WO.run 2 0 [(45, .int .i64 cl), (44, .slice AR nr cr)] (by kernel_rfl) (by kernel_rfl) ?_
    refine WO.ldB (SQ.S 2 (by kernel_rfl)) 46 [.string (str ev.name), .slice A n cp, .int .i64 ev.kind, .int .i64 ev.value, .int .i64 ev.time] g1 0 (by kernel_rfl) (by kernel_rfl) (same HB4) (by kernel_rfl) ?_
    rcases key_cases ev with ⟨k, hk_⟩ | hk_ | hk_
    ·
     refine WO.call (SQ.E 3 (by kernel_rfl)) 47 (by kernel_rfl) (rof_ok l AR nr cr FR cl ev A n cp F _ HL hnr hnrr hrl hmr HT hn hnn hln hlt hv hF2 HTab HM) ?_
     intro e_ w15 hr_
     rw [hk_] at hr_
     obtain ⟨rfl, F16⟩ := hr_
     refine ⟨_, rfl, trivial, ?_⟩
     have HB4 := Blk.keep HB4 F16 (nin0 _)
     have HL := HL.keep F16 (fun _ _ => nin0 _)
     have HT := HT.keep F16 (fun _ _ => nin0 _)
     have HTab := tab_keep HTab F16 (nin0 _)
     have HM := max_keep HM F16 (nin0 _)
     have HA := Fr.step0 HA F16
     refine WO.run 5 4 [(15, .nilIface), (14, .int .i64 (classR cl k l)), (49, .nilIface), (48, .int .i64 (classR cl k l)), (43, .tuple #[.int .i64 (classR cl k l), .nilIface])] (by kernel_rfl) (by kernel_rfl) ?_
     refine WO.done (by kernel_rfl) ?_
     refine WQ.keep [0, 1, 2, 7, 8, 9, 12, 13, 14, 15] (e' := [(0, .slice AR nr cr), (1, .int .i64 cl), (2, .string (str k0)), (7, .pointer (some ⟨g1, 0, none⟩)), (8, .bool false), (9, .bool true), (12, .int .i64 (classR cl k0 l)), (13, .nilIface), (14, .int .i64 (classR cl k l)), (15, .nilIface)]) (by kernel_rfl) ?_
     refine WQ.thenN ?_
     refine WE.seq ?_
     refine WE.region ?_
     refine WO.run 2 0 [(51, .int .i64 cl), (50, .slice AR nr cr)] (by kernel_rfl) (by kernel_rfl) ?_
     refine WO.call (SQ.E 2 (by kernel_rfl)) 52 (by kernel_rfl) (rules_f l AR nr cr FR cl _ HL hnr hnrr hrl) ?_
     rintro _ w17 ⟨rfl, F18⟩
     rw [hmr]
     refine ⟨_, rfl, trivial, ?_⟩
     have HB4 := Blk.keep HB4 F18 (nin0 _)
     have HL := HL.keep F18 (fun _ _ => nin0 _)
     have HT := HT.keep F18 (fun _ _ => nin0 _)
     have HTab := tab_keep HTab F18 (nin0 _)
     have HM := max_keep HM F18 (nin0 _)
     have HA := Fr.step0 HA F18
     refine WO.run 1 3 [(16, .bool true)] (by kernel_rfl) (by kernel_rfl) ?_
     refine WO.done (by kernel_rfl) ?_
     refine WQ.keep [0, 1, 2, 7, 8, 9, 12, 13, 14, 15, 16] (e' := [(0, .slice AR nr cr), (1, .int .i64 cl), (2, .string (str k0)), (7, .pointer (some ⟨g1, 0, none⟩)), (8, .bool false), (9, .bool true), (12, .int .i64 (classR cl k0 l)), (13, .nilIface), (14, .int .i64 (classR cl k l)), (15, .nilIface), (16, .bool true)]) (by kernel_rfl) ?_
     refine WQ.thenN ?_
     refine WE.seq ?_
     refine WE.seq ?_
     refine WE.region ?_
     refine WO.run 2 0 [(54, .bool false), (53, .bool true)] (by kernel_rfl) (by kernel_rfl) ?_
     refine WO.done (by kernel_rfl) ?_
     refine WQ.keep [0, 1, 2, 7, 8, 9, 12, 13, 14, 15, 54] (e' := [(0, .slice AR nr cr), (1, .int .i64 cl), (2, .string (str k0)), (7, .pointer (some ⟨g1, 0, none⟩)), (8, .bool false), (9, .bool true), (12, .int .i64 (classR cl k0 l)), (13, .nilIface), (14, .int .i64 (classR cl k l)), (15, .nilIface), (54, .bool false)]) (by kernel_rfl) ?_
     refine WQ.thenN ?_
     refine WE.condF (by kernel_rfl) ?_
     refine WE.skip ?_
     refine WQ.thenN ?_
     refine WE.seq ?_
     refine WE.region ?_
     refine WO.ldB (SQ.S 0 (by kernel_rfl)) 81 [.string (str ev.name), .slice A n cp, .int .i64 ev.kind, .int .i64 ev.value, .int .i64 ev.time] g1 0 (by kernel_rfl) (by kernel_rfl) (same HB4) (by kernel_rfl) ?_
     refine WO.call (SQ.E 1 (by kernel_rfl)) 82 (by kernel_rfl) (rkey_f ev A n cp F _ HT hn hnn hln hlt) ?_
     intro e_ w19 hr_
     rw [hk_] at hr_
     obtain ⟨rfl, F20⟩ := hr_
     refine ⟨_, rfl, trivial, ?_⟩
     have HB4 := Blk.keep HB4 F20 (nin0 _)
     have HL := HL.keep F20 (fun _ _ => nin0 _)
     have HT := HT.keep F20 (fun _ _ => nin0 _)
     have HTab := tab_keep HTab F20 (nin0 _)
     have HM := max_keep HM F20 (nin0 _)
     have HA := Fr.step0 HA F20
     refine WO.run 5 2 [(18, .int .i64 0), (17, .string (str k)), (84, .int .i64 0), (83, .string (str k)), (80, .tuple #[.string (str k), .int .i64 0])] (by kernel_rfl) (by kernel_rfl) ?_
     refine WO.done (by kernel_rfl) ?_
     refine WQ.keep [0, 1, 2, 8, 9, 12, 13, 14, 15, 17, 18] (e' := [(0, .slice AR nr cr), (1, .int .i64 cl), (2, .string (str k0)), (8, .bool false), (9, .bool true), (12, .int .i64 (classR cl k0 l)), (13, .nilIface), (14, .int .i64 (classR cl k l)), (15, .nilIface), (17, .string (str k)), (18, .int .i64 0)]) (by kernel_rfl) ?_
     refine WQ.thenN ?_
     refine WE.seq ?_
     refine WE.seq ?_
     refine WE.region ?_
     refine WO.run 2 0 [(86, .int .i64 cl), (85, .slice AR nr cr)] (by kernel_rfl) (by kernel_rfl) ?_
     refine WO.call (SQ.E 2 (by kernel_rfl)) 87 (by kernel_rfl) (rmay_f l AR nr cr FR cl _ HL hnr hnrr hrl) ?_
     rintro _ w21 ⟨rfl, F22⟩
     rw [hmr]
     refine ⟨_, rfl, trivial, ?_⟩
     have HB4 := Blk.keep HB4 F22 (nin0 _)
     have HL := HL.keep F22 (fun _ _ => nin0 _)
     have HT := HT.keep F22 (fun _ _ => nin0 _)
     have HTab := tab_keep HTab F22 (nin0 _)
     have HM := max_keep HM F22 (nin0 _)
     have HA := Fr.step0 HA F22
     refine WO.run 10 3 [(97, .string (str k0)), (96, .int .i64 cl), (95, .slice AR nr cr), (94, .int .i64 (classR cl k0 l)), (93, .bool false), (92, .bool false), (91, .bool false), (90, .nilIface), (89, .bool false), (88, .bool false)] (by kernel_rfl) (by kernel_rfl) ?_
     refine WO.call (SQ.E 13 (by kernel_rfl)) 98 (by kernel_rfl) (rclass_f l AR nr cr FR cl k0 _ HL hnr hnrr hrl (mayR_cl hmr)) ?_
     rintro _ w23 ⟨rfl, F24⟩
     refine ⟨_, rfl, trivial, ?_⟩
     have HB4 := Blk.keep HB4 F24 (nin0 _)
     have HL := HL.keep F24 (fun _ _ => nin0 _)
     have HT := HT.keep F24 (fun _ _ => nin0 _)
     have HTab := tab_keep HTab F24 (nin0 _)
     have HM := max_keep HM F24 (nin0 _)
     have HA := Fr.step0 HA F24
     refine WO.one (SQ.F 14 (by kernel_rfl)) 99 (.bool (!decide ((classR cl k0 l : Int) = (classR cl k0 l)))) (by kernel_rfl) ?_
     refine WO.topNT ((classR cl k0 l : Int) = (classR cl k0 l)) (by rfl) ?_
     refine WO.run 1 15 [(100, .bool false)] (by kernel_rfl) (by kernel_rfl) ?_
     refine WO.done (by kernel_rfl) ?_
     refine WQ.keep [0, 1, 8, 9, 14, 15, 17, 18, 100] (e' := [(0, .slice AR nr cr), (1, .int .i64 cl), (8, .bool false), (9, .bool true), (14, .int .i64 (classR cl k l)), (15, .nilIface), (17, .string (str k)), (18, .int .i64 0), (100, .bool false)]) (by kernel_rfl) ?_
     refine WQ.thenN ?_
     refine WE.condF (by kernel_rfl) ?_
     refine WE.skip ?_
     refine WQ.thenN ?_
     refine WE.seq ?_
     refine WE.seq ?_
     refine WE.region ?_
     refine WO.run 2 0 [(102, .bool false), (101, .int .i64 0)] (by kernel_rfl) (by kernel_rfl) ?_
     refine WO.done (by kernel_rfl) ?_
     refine WQ.keep [0, 1, 8, 9, 14, 15, 17, 18, 102] (e' := [(0, .slice AR nr cr), (1, .int .i64 cl), (8, .bool false), (9, .bool true), (14, .int .i64 (classR cl k l)), (15, .nilIface), (17, .string (str k)), (18, .int .i64 0), (102, .bool false)]) (by kernel_rfl) ?_
     refine WQ.thenN ?_
     refine WE.condF (by kernel_rfl) ?_
     refine WE.skip ?_
     refine WQ.thenN ?_
     refine WE.seq ?_
     refine WE.region ?_
     refine WO.run 10 0 [(123, .string (str k)), (122, .int .i64 cl), (121, .slice AR nr cr), (120, .int .i64 (classR cl k l)), (119, .bool true), (118, .bool true), (117, .bool true), (116, .nilIface), (115, .bool true), (114, .bool true)] (by kernel_rfl) (by kernel_rfl) ?_
     refine WO.call (SQ.E 10 (by kernel_rfl)) 124 (by kernel_rfl) (rclass_f l AR nr cr FR cl k _ HL hnr hnrr hrl (mayR_cl hmr)) ?_
     rintro _ w25 ⟨rfl, F26⟩
     refine ⟨_, rfl, trivial, ?_⟩
     have HB4 := Blk.keep HB4 F26 (nin0 _)
     have HL := HL.keep F26 (fun _ _ => nin0 _)
     have HT := HT.keep F26 (fun _ _ => nin0 _)
     have HTab := tab_keep HTab F26 (nin0 _)
     have HM := max_keep HM F26 (nin0 _)
     have HA := Fr.step0 HA F26
     refine WO.run 3 11 [(8, .bool (decide ((classR cl k l : Int) = (classR cl k l)))), (126, .bool (decide ((classR cl k l : Int) = (classR cl k l)))), (125, .bool (decide ((classR cl k l : Int) = (classR cl k l))))] (by kernel_rfl) (by kernel_rfl) ?_
     refine WO.done (by kernel_rfl) ?_
     refine WQ.keep [8] (e' := [(8, .bool (decide ((classR cl k l : Int) = (classR cl k l))))]) (by kernel_rfl) ?_
     refine WQ.thenN ?_
     refine WE.ret ?_
     refine WQ.ret (v := .bool (decide ((classR cl k l : Int) = (classR cl k l)))) (by kernel_rfl) ?_
     exact ⟨by rw [decide_eq_true rfl], HA⟩
    ·
     refine WO.call (SQ.E 3 (by kernel_rfl)) 47 (by kernel_rfl) (rof_ok l AR nr cr FR cl ev A n cp F _ HL hnr hnrr hrl hmr HT hn hnn hln hlt hv hF2 HTab HM) ?_
     intro e_ w27 hr_
     rw [hk_] at hr_
     obtain ⟨rfl, F28⟩ := hr_
     refine ⟨_, rfl, trivial, ?_⟩
     have HB4 := Blk.keep HB4 F28 (nin0 _)
     have HL := HL.keep F28 (fun _ _ => nin0 _)
     have HT := HT.keep F28 (fun _ _ => nin0 _)
     have HTab := tab_keep HTab F28 (nin0 _)
     have HM := max_keep HM F28 (nin0 _)
     have HA := Fr.step0 HA F28
     refine WO.run 5 4 [(15, .iface 35 (.int .i64 1)), (14, .int .i64 0), (49, .iface 35 (.int .i64 1)), (48, .int .i64 0), (43, .tuple #[.int .i64 0, .iface 35 (.int .i64 1)])] (by kernel_rfl) (by kernel_rfl) ?_
     refine WO.done (by kernel_rfl) ?_
     refine WQ.keep [0, 1, 2, 7, 8, 9, 12, 13, 14, 15] (e' := [(0, .slice AR nr cr), (1, .int .i64 cl), (2, .string (str k0)), (7, .pointer (some ⟨g1, 0, none⟩)), (8, .bool false), (9, .bool true), (12, .int .i64 (classR cl k0 l)), (13, .nilIface), (14, .int .i64 0), (15, .iface 35 (.int .i64 1))]) (by kernel_rfl) ?_
     refine WQ.thenN ?_
     refine WE.seq ?_
     refine WE.region ?_
     refine WO.run 2 0 [(51, .int .i64 cl), (50, .slice AR nr cr)] (by kernel_rfl) (by kernel_rfl) ?_
     refine WO.call (SQ.E 2 (by kernel_rfl)) 52 (by kernel_rfl) (rules_f l AR nr cr FR cl _ HL hnr hnrr hrl) ?_
     rintro _ w29 ⟨rfl, F30⟩
     rw [hmr]
     refine ⟨_, rfl, trivial, ?_⟩
     have HB4 := Blk.keep HB4 F30 (nin0 _)
     have HL := HL.keep F30 (fun _ _ => nin0 _)
     have HT := HT.keep F30 (fun _ _ => nin0 _)
     have HTab := tab_keep HTab F30 (nin0 _)
     have HM := max_keep HM F30 (nin0 _)
     have HA := Fr.step0 HA F30
     refine WO.run 1 3 [(16, .bool true)] (by kernel_rfl) (by kernel_rfl) ?_
     refine WO.done (by kernel_rfl) ?_
     refine WQ.keep [0, 1, 2, 7, 8, 9, 12, 13, 14, 15, 16] (e' := [(0, .slice AR nr cr), (1, .int .i64 cl), (2, .string (str k0)), (7, .pointer (some ⟨g1, 0, none⟩)), (8, .bool false), (9, .bool true), (12, .int .i64 (classR cl k0 l)), (13, .nilIface), (14, .int .i64 0), (15, .iface 35 (.int .i64 1)), (16, .bool true)]) (by kernel_rfl) ?_
     refine WQ.thenN ?_
     refine WE.seq ?_
     refine WE.seq ?_
     refine WE.region ?_
     refine WO.run 2 0 [(54, .bool false), (53, .bool true)] (by kernel_rfl) (by kernel_rfl) ?_
     refine WO.done (by kernel_rfl) ?_
     refine WQ.keep [0, 1, 2, 7, 8, 9, 12, 13, 14, 15, 54] (e' := [(0, .slice AR nr cr), (1, .int .i64 cl), (2, .string (str k0)), (7, .pointer (some ⟨g1, 0, none⟩)), (8, .bool false), (9, .bool true), (12, .int .i64 (classR cl k0 l)), (13, .nilIface), (14, .int .i64 0), (15, .iface 35 (.int .i64 1)), (54, .bool false)]) (by kernel_rfl) ?_
     refine WQ.thenN ?_
     refine WE.condF (by kernel_rfl) ?_
     refine WE.skip ?_
     refine WQ.thenN ?_
     refine WE.seq ?_
     refine WE.region ?_
     refine WO.ldB (SQ.S 0 (by kernel_rfl)) 81 [.string (str ev.name), .slice A n cp, .int .i64 ev.kind, .int .i64 ev.value, .int .i64 ev.time] g1 0 (by kernel_rfl) (by kernel_rfl) (same HB4) (by kernel_rfl) ?_
     refine WO.call (SQ.E 1 (by kernel_rfl)) 82 (by kernel_rfl) (rkey_f ev A n cp F _ HT hn hnn hln hlt) ?_
     intro e_ w31 hr_
     rw [hk_] at hr_
     obtain ⟨rfl, F32⟩ := hr_
     refine ⟨_, rfl, trivial, ?_⟩
     have HB4 := Blk.keep HB4 F32 (nin0 _)
     have HL := HL.keep F32 (fun _ _ => nin0 _)
     have HT := HT.keep F32 (fun _ _ => nin0 _)
     have HTab := tab_keep HTab F32 (nin0 _)
     have HM := max_keep HM F32 (nin0 _)
     have HA := Fr.step0 HA F32
     refine WO.run 5 2 [(18, .int .i64 1), (17, .string (⟨#[]⟩)), (84, .int .i64 1), (83, .string (⟨#[]⟩)), (80, .tuple #[.string (⟨#[]⟩), .int .i64 1])] (by kernel_rfl) (by kernel_rfl) ?_
     refine WO.done (by kernel_rfl) ?_
     refine WQ.keep [0, 1, 2, 8, 9, 12, 13, 14, 15, 17, 18] (e' := [(0, .slice AR nr cr), (1, .int .i64 cl), (2, .string (str k0)), (8, .bool false), (9, .bool true), (12, .int .i64 (classR cl k0 l)), (13, .nilIface), (14, .int .i64 0), (15, .iface 35 (.int .i64 1)), (17, .string (⟨#[]⟩)), (18, .int .i64 1)]) (by kernel_rfl) ?_
     refine WQ.thenN ?_
     refine WE.seq ?_
     refine WE.seq ?_
     refine WE.region ?_
     refine WO.run 2 0 [(86, .int .i64 cl), (85, .slice AR nr cr)] (by kernel_rfl) (by kernel_rfl) ?_
     refine WO.call (SQ.E 2 (by kernel_rfl)) 87 (by kernel_rfl) (rmay_f l AR nr cr FR cl _ HL hnr hnrr hrl) ?_
     rintro _ w33 ⟨rfl, F34⟩
     rw [hmr]
     refine ⟨_, rfl, trivial, ?_⟩
     have HB4 := Blk.keep HB4 F34 (nin0 _)
     have HL := HL.keep F34 (fun _ _ => nin0 _)
     have HT := HT.keep F34 (fun _ _ => nin0 _)
     have HTab := tab_keep HTab F34 (nin0 _)
     have HM := max_keep HM F34 (nin0 _)
     have HA := Fr.step0 HA F34
     refine WO.run 10 3 [(97, .string (str k0)), (96, .int .i64 cl), (95, .slice AR nr cr), (94, .int .i64 (classR cl k0 l)), (93, .bool false), (92, .bool false), (91, .bool false), (90, .nilIface), (89, .bool false), (88, .bool false)] (by kernel_rfl) (by kernel_rfl) ?_
     refine WO.call (SQ.E 13 (by kernel_rfl)) 98 (by kernel_rfl) (rclass_f l AR nr cr FR cl k0 _ HL hnr hnrr hrl (mayR_cl hmr)) ?_
     rintro _ w35 ⟨rfl, F36⟩
     refine ⟨_, rfl, trivial, ?_⟩
     have HB4 := Blk.keep HB4 F36 (nin0 _)
     have HL := HL.keep F36 (fun _ _ => nin0 _)
     have HT := HT.keep F36 (fun _ _ => nin0 _)
     have HTab := tab_keep HTab F36 (nin0 _)
     have HM := max_keep HM F36 (nin0 _)
     have HA := Fr.step0 HA F36
     refine WO.one (SQ.F 14 (by kernel_rfl)) 99 (.bool (!decide ((classR cl k0 l : Int) = (classR cl k0 l)))) (by kernel_rfl) ?_
     refine WO.topNT ((classR cl k0 l : Int) = (classR cl k0 l)) (by rfl) ?_
     refine WO.run 1 15 [(100, .bool false)] (by kernel_rfl) (by kernel_rfl) ?_
     refine WO.done (by kernel_rfl) ?_
     refine WQ.keep [0, 1, 8, 9, 14, 15, 17, 18, 100] (e' := [(0, .slice AR nr cr), (1, .int .i64 cl), (8, .bool false), (9, .bool true), (14, .int .i64 0), (15, .iface 35 (.int .i64 1)), (17, .string (⟨#[]⟩)), (18, .int .i64 1), (100, .bool false)]) (by kernel_rfl) ?_
     refine WQ.thenN ?_
     refine WE.condF (by kernel_rfl) ?_
     refine WE.skip ?_
     refine WQ.thenN ?_
     refine WE.seq ?_
     refine WE.seq ?_
     refine WE.region ?_
     refine WO.run 2 0 [(102, .bool true), (101, .int .i64 1)] (by kernel_rfl) (by kernel_rfl) ?_
     refine WO.done (by kernel_rfl) ?_
     refine WQ.keep [0, 1, 8, 9, 14, 15, 17, 18, 102] (e' := [(0, .slice AR nr cr), (1, .int .i64 cl), (8, .bool false), (9, .bool true), (14, .int .i64 0), (15, .iface 35 (.int .i64 1)), (17, .string (⟨#[]⟩)), (18, .int .i64 1), (102, .bool true)]) (by kernel_rfl) ?_
     refine WQ.thenN ?_
     refine WE.condT (by kernel_rfl) ?_
     refine WE.seq ?_
     refine WE.region ?_
     refine WO.run 3 0 [(105, .iface 35 (.int .i64 1)), (104, .bool true), (103, .bool true)] (by kernel_rfl) (by kernel_rfl) ?_
     refine WO.call (SQ.E 3 (by kernel_rfl)) 106 (by kernel_rfl) (code_1 _) ?_
     rintro _ w37 ⟨rfl, F38⟩
     refine ⟨_, rfl, trivial, ?_⟩
     have HB4 := Blk.keep HB4 F38 (nin0 _)
     have HL := HL.keep F38 (fun _ _ => nin0 _)
     have HT := HT.keep F38 (fun _ _ => nin0 _)
     have HTab := tab_keep HTab F38 (nin0 _)
     have HM := max_keep HM F38 (nin0 _)
     have HA := Fr.step0 HA F38
     refine WO.run 8 4 [(8, .bool true), (113, .bool true), (112, .bool true), (111, .int .i64 0), (110, .bool true), (109, .bool true), (108, .bool true), (107, .int .i64 1)] (by kernel_rfl) (by kernel_rfl) ?_
     refine WO.done (by kernel_rfl) ?_
     refine WQ.keep [0, 1, 8, 9, 14, 15, 17] (e' := [(0, .slice AR nr cr), (1, .int .i64 cl), (8, .bool true), (9, .bool true), (14, .int .i64 0), (15, .iface 35 (.int .i64 1)), (17, .string (⟨#[]⟩))]) (by kernel_rfl) ?_
     refine WQ.thenN ?_
     refine WE.ret ?_
     refine WQ.thenR ?_
     refine WQ.ret (v := .bool true) (by kernel_rfl) ?_
     exact ⟨rfl, HA⟩
    ·
     refine WO.call (SQ.E 3 (by kernel_rfl)) 47 (by kernel_rfl) (rof_ok l AR nr cr FR cl ev A n cp F _ HL hnr hnrr hrl hmr HT hn hnn hln hlt hv hF2 HTab HM) ?_
     intro e_ w39 hr_
     rw [hk_] at hr_
     obtain ⟨rfl, F40⟩ := hr_
     refine ⟨_, rfl, trivial, ?_⟩
     have HB4 := Blk.keep HB4 F40 (nin0 _)
     have HL := HL.keep F40 (fun _ _ => nin0 _)
     have HT := HT.keep F40 (fun _ _ => nin0 _)
     have HTab := tab_keep HTab F40 (nin0 _)
     have HM := max_keep HM F40 (nin0 _)
     have HA := Fr.step0 HA F40
     refine WO.run 5 4 [(15, .iface 35 (.int .i64 5)), (14, .int .i64 0), (49, .iface 35 (.int .i64 5)), (48, .int .i64 0), (43, .tuple #[.int .i64 0, .iface 35 (.int .i64 5)])] (by kernel_rfl) (by kernel_rfl) ?_
     refine WO.done (by kernel_rfl) ?_
     refine WQ.keep [0, 1, 2, 7, 8, 9, 12, 13, 14, 15] (e' := [(0, .slice AR nr cr), (1, .int .i64 cl), (2, .string (str k0)), (7, .pointer (some ⟨g1, 0, none⟩)), (8, .bool false), (9, .bool true), (12, .int .i64 (classR cl k0 l)), (13, .nilIface), (14, .int .i64 0), (15, .iface 35 (.int .i64 5))]) (by kernel_rfl) ?_
     refine WQ.thenN ?_
     refine WE.seq ?_
     refine WE.region ?_
     refine WO.run 2 0 [(51, .int .i64 cl), (50, .slice AR nr cr)] (by kernel_rfl) (by kernel_rfl) ?_
     refine WO.call (SQ.E 2 (by kernel_rfl)) 52 (by kernel_rfl) (rules_f l AR nr cr FR cl _ HL hnr hnrr hrl) ?_
     rintro _ w41 ⟨rfl, F42⟩
     rw [hmr]
     refine ⟨_, rfl, trivial, ?_⟩
     have HB4 := Blk.keep HB4 F42 (nin0 _)
     have HL := HL.keep F42 (fun _ _ => nin0 _)
     have HT := HT.keep F42 (fun _ _ => nin0 _)
     have HTab := tab_keep HTab F42 (nin0 _)
     have HM := max_keep HM F42 (nin0 _)
     have HA := Fr.step0 HA F42
     refine WO.run 1 3 [(16, .bool true)] (by kernel_rfl) (by kernel_rfl) ?_
     refine WO.done (by kernel_rfl) ?_
     refine WQ.keep [0, 1, 2, 7, 8, 9, 12, 13, 14, 15, 16] (e' := [(0, .slice AR nr cr), (1, .int .i64 cl), (2, .string (str k0)), (7, .pointer (some ⟨g1, 0, none⟩)), (8, .bool false), (9, .bool true), (12, .int .i64 (classR cl k0 l)), (13, .nilIface), (14, .int .i64 0), (15, .iface 35 (.int .i64 5)), (16, .bool true)]) (by kernel_rfl) ?_
     refine WQ.thenN ?_
     refine WE.seq ?_
     refine WE.seq ?_
     refine WE.region ?_
     refine WO.run 2 0 [(54, .bool false), (53, .bool true)] (by kernel_rfl) (by kernel_rfl) ?_
     refine WO.done (by kernel_rfl) ?_
     refine WQ.keep [0, 1, 2, 7, 8, 9, 12, 13, 14, 15, 54] (e' := [(0, .slice AR nr cr), (1, .int .i64 cl), (2, .string (str k0)), (7, .pointer (some ⟨g1, 0, none⟩)), (8, .bool false), (9, .bool true), (12, .int .i64 (classR cl k0 l)), (13, .nilIface), (14, .int .i64 0), (15, .iface 35 (.int .i64 5)), (54, .bool false)]) (by kernel_rfl) ?_
     refine WQ.thenN ?_
     refine WE.condF (by kernel_rfl) ?_
     refine WE.skip ?_
     refine WQ.thenN ?_
     refine WE.seq ?_
     refine WE.region ?_
     refine WO.ldB (SQ.S 0 (by kernel_rfl)) 81 [.string (str ev.name), .slice A n cp, .int .i64 ev.kind, .int .i64 ev.value, .int .i64 ev.time] g1 0 (by kernel_rfl) (by kernel_rfl) (same HB4) (by kernel_rfl) ?_
     refine WO.call (SQ.E 1 (by kernel_rfl)) 82 (by kernel_rfl) (rkey_f ev A n cp F _ HT hn hnn hln hlt) ?_
     intro e_ w43 hr_
     rw [hk_] at hr_
     obtain ⟨rfl, F44⟩ := hr_
     refine ⟨_, rfl, trivial, ?_⟩
     have HB4 := Blk.keep HB4 F44 (nin0 _)
     have HL := HL.keep F44 (fun _ _ => nin0 _)
     have HT := HT.keep F44 (fun _ _ => nin0 _)
     have HTab := tab_keep HTab F44 (nin0 _)
     have HM := max_keep HM F44 (nin0 _)
     have HA := Fr.step0 HA F44
     refine WO.run 5 2 [(18, .int .i64 5), (17, .string (⟨#[]⟩)), (84, .int .i64 5), (83, .string (⟨#[]⟩)), (80, .tuple #[.string (⟨#[]⟩), .int .i64 5])] (by kernel_rfl) (by kernel_rfl) ?_
     refine WO.done (by kernel_rfl) ?_
     refine WQ.keep [0, 1, 2, 8, 9, 12, 13, 14, 15, 17, 18] (e' := [(0, .slice AR nr cr), (1, .int .i64 cl), (2, .string (str k0)), (8, .bool false), (9, .bool true), (12, .int .i64 (classR cl k0 l)), (13, .nilIface), (14, .int .i64 0), (15, .iface 35 (.int .i64 5)), (17, .string (⟨#[]⟩)), (18, .int .i64 5)]) (by kernel_rfl) ?_
     refine WQ.thenN ?_
     refine WE.seq ?_
     refine WE.seq ?_
     refine WE.region ?_
     refine WO.run 2 0 [(86, .int .i64 cl), (85, .slice AR nr cr)] (by kernel_rfl) (by kernel_rfl) ?_
     refine WO.call (SQ.E 2 (by kernel_rfl)) 87 (by kernel_rfl) (rmay_f l AR nr cr FR cl _ HL hnr hnrr hrl) ?_
     rintro _ w45 ⟨rfl, F46⟩
     rw [hmr]
     refine ⟨_, rfl, trivial, ?_⟩
     have HB4 := Blk.keep HB4 F46 (nin0 _)
     have HL := HL.keep F46 (fun _ _ => nin0 _)
     have HT := HT.keep F46 (fun _ _ => nin0 _)
     have HTab := tab_keep HTab F46 (nin0 _)
     have HM := max_keep HM F46 (nin0 _)
     have HA := Fr.step0 HA F46
     refine WO.run 10 3 [(97, .string (str k0)), (96, .int .i64 cl), (95, .slice AR nr cr), (94, .int .i64 (classR cl k0 l)), (93, .bool false), (92, .bool false), (91, .bool false), (90, .nilIface), (89, .bool false), (88, .bool false)] (by kernel_rfl) (by kernel_rfl) ?_
     refine WO.call (SQ.E 13 (by kernel_rfl)) 98 (by kernel_rfl) (rclass_f l AR nr cr FR cl k0 _ HL hnr hnrr hrl (mayR_cl hmr)) ?_
     rintro _ w47 ⟨rfl, F48⟩
     refine ⟨_, rfl, trivial, ?_⟩
     have HB4 := Blk.keep HB4 F48 (nin0 _)
     have HL := HL.keep F48 (fun _ _ => nin0 _)
     have HT := HT.keep F48 (fun _ _ => nin0 _)
     have HTab := tab_keep HTab F48 (nin0 _)
     have HM := max_keep HM F48 (nin0 _)
     have HA := Fr.step0 HA F48
     refine WO.one (SQ.F 14 (by kernel_rfl)) 99 (.bool (!decide ((classR cl k0 l : Int) = (classR cl k0 l)))) (by kernel_rfl) ?_
     refine WO.topNT ((classR cl k0 l : Int) = (classR cl k0 l)) (by rfl) ?_
     refine WO.run 1 15 [(100, .bool false)] (by kernel_rfl) (by kernel_rfl) ?_
     refine WO.done (by kernel_rfl) ?_
     refine WQ.keep [0, 1, 8, 9, 14, 15, 17, 18, 100] (e' := [(0, .slice AR nr cr), (1, .int .i64 cl), (8, .bool false), (9, .bool true), (14, .int .i64 0), (15, .iface 35 (.int .i64 5)), (17, .string (⟨#[]⟩)), (18, .int .i64 5), (100, .bool false)]) (by kernel_rfl) ?_
     refine WQ.thenN ?_
     refine WE.condF (by kernel_rfl) ?_
     refine WE.skip ?_
     refine WQ.thenN ?_
     refine WE.seq ?_
     refine WE.seq ?_
     refine WE.region ?_
     refine WO.run 2 0 [(102, .bool true), (101, .int .i64 5)] (by kernel_rfl) (by kernel_rfl) ?_
     refine WO.done (by kernel_rfl) ?_
     refine WQ.keep [0, 1, 8, 9, 14, 15, 17, 18, 102] (e' := [(0, .slice AR nr cr), (1, .int .i64 cl), (8, .bool false), (9, .bool true), (14, .int .i64 0), (15, .iface 35 (.int .i64 5)), (17, .string (⟨#[]⟩)), (18, .int .i64 5), (102, .bool true)]) (by kernel_rfl) ?_
     refine WQ.thenN ?_
     refine WE.condT (by kernel_rfl) ?_
     refine WE.seq ?_
     refine WE.region ?_
     refine WO.run 3 0 [(105, .iface 35 (.int .i64 5)), (104, .bool true), (103, .bool true)] (by kernel_rfl) (by kernel_rfl) ?_
     refine WO.call (SQ.E 3 (by kernel_rfl)) 106 (by kernel_rfl) (code_5 _) ?_
     rintro _ w49 ⟨rfl, F50⟩
     refine ⟨_, rfl, trivial, ?_⟩
     have HB4 := Blk.keep HB4 F50 (nin0 _)
     have HL := HL.keep F50 (fun _ _ => nin0 _)
     have HT := HT.keep F50 (fun _ _ => nin0 _)
     have HTab := tab_keep HTab F50 (nin0 _)
     have HM := max_keep HM F50 (nin0 _)
     have HA := Fr.step0 HA F50
     refine WO.run 8 4 [(8, .bool true), (113, .bool true), (112, .bool true), (111, .int .i64 0), (110, .bool true), (109, .bool true), (108, .bool true), (107, .int .i64 5)] (by kernel_rfl) (by kernel_rfl) ?_
     refine WO.done (by kernel_rfl) ?_
     refine WQ.keep [0, 1, 8, 9, 14, 15, 17] (e' := [(0, .slice AR nr cr), (1, .int .i64 cl), (8, .bool true), (9, .bool true), (14, .int .i64 0), (15, .iface 35 (.int .i64 5)), (17, .string (⟨#[]⟩))]) (by kernel_rfl) ?_
     refine WQ.thenN ?_
     refine WE.ret ?_
     refine WQ.thenR ?_
     refine WQ.ret (v := .bool true) (by kernel_rfl) ?_
     exact ⟨rfl, HA⟩
   ·
    refine WO.call (SQ.E 3 (by kernel_rfl)) 40 (by kernel_rfl) (class_no l AR nr cr FR cl k0 _ HL hnr hnrr hrl hmr) ?_
    rintro _ w51 ⟨rfl, F52⟩
    refine ⟨_, rfl, trivial, ?_⟩
    have HB4 := Blk.keep HB4 F52 (nin0 _)
    have HL := HL.keep F52 (fun _ _ => nin0 _)
    have HT := HT.keep F52 (fun _ _ => nin0 _)
    have HTab := tab_keep HTab F52 (nin0 _)
    have HM := max_keep HM F52 (nin0 _)
    have HA := Fr.step0 HA F52
    refine WO.run 5 4 [(13, .iface 35 (.int .i64 1)), (12, .int .i64 0), (42, .iface 35 (.int .i64 1)), (41, .int .i64 0), (36, .tuple #[.int .i64 0, .iface 35 (.int .i64 1)])] (by kernel_rfl) (by kernel_rfl) ?_
    refine WO.done (by kernel_rfl) ?_
    refine WQ.keep [0, 1, 2, 7, 8, 9, 12, 13] (e' := [(0, .slice AR nr cr), (1, .int .i64 cl), (2, .string (str k0)), (7, .pointer (some ⟨g1, 0, none⟩)), (8, .bool false), (9, .bool true), (12, .int .i64 0), (13, .iface 35 (.int .i64 1))]) (by kernel_rfl) ?_
    refine WQ.thenN ?_
    refine WE.seq ?_
    refine WE.region ?_
    refine WO.run 2 0 [(45, .int .i64 cl), (44, .slice AR nr cr)] (by kernel_rfl) (by kernel_rfl) ?_
    refine WO.ldB (SQ.S 2 (by kernel_rfl)) 46 [.string (str ev.name), .slice A n cp, .int .i64 ev.kind, .int .i64 ev.value, .int .i64 ev.time] g1 0 (by kernel_rfl) (by kernel_rfl) (same HB4) (by kernel_rfl) ?_
    refine WO.call (SQ.E 3 (by kernel_rfl)) 47 (by kernel_rfl) (rof_no l AR nr cr FR cl ev A n cp F _ HL hnr hnrr hrl hmr) ?_
    rintro _ w53 ⟨rfl, F54⟩
    refine ⟨_, rfl, trivial, ?_⟩
    have HB4 := Blk.keep HB4 F54 (nin0 _)
    have HL := HL.keep F54 (fun _ _ => nin0 _)
    have HT := HT.keep F54 (fun _ _ => nin0 _)
    have HTab := tab_keep HTab F54 (nin0 _)
    have HM := max_keep HM F54 (nin0 _)
    have HA := Fr.step0 HA F54
    refine WO.run 5 4 [(15, .iface 35 (.int .i64 1)), (14, .int .i64 0), (49, .iface 35 (.int .i64 1)), (48, .int .i64 0), (43, .tuple #[.int .i64 0, .iface 35 (.int .i64 1)])] (by kernel_rfl) (by kernel_rfl) ?_
    refine WO.done (by kernel_rfl) ?_
    refine WQ.keep [0, 1, 2, 7, 8, 9, 12, 13, 14, 15] (e' := [(0, .slice AR nr cr), (1, .int .i64 cl), (2, .string (str k0)), (7, .pointer (some ⟨g1, 0, none⟩)), (8, .bool false), (9, .bool true), (12, .int .i64 0), (13, .iface 35 (.int .i64 1)), (14, .int .i64 0), (15, .iface 35 (.int .i64 1))]) (by kernel_rfl) ?_
    refine WQ.thenN ?_
    refine WE.seq ?_
    refine WE.region ?_
    refine WO.run 2 0 [(51, .int .i64 cl), (50, .slice AR nr cr)] (by kernel_rfl) (by kernel_rfl) ?_
    refine WO.call (SQ.E 2 (by kernel_rfl)) 52 (by kernel_rfl) (rules_f l AR nr cr FR cl _ HL hnr hnrr hrl) ?_
    rintro _ w55 ⟨rfl, F56⟩
    rw [hmr]
    refine ⟨_, rfl, trivial, ?_⟩
    have HB4 := Blk.keep HB4 F56 (nin0 _)
    have HL := HL.keep F56 (fun _ _ => nin0 _)
    have HT := HT.keep F56 (fun _ _ => nin0 _)
    have HTab := tab_keep HTab F56 (nin0 _)
    have HM := max_keep HM F56 (nin0 _)
    have HA := Fr.step0 HA F56
    refine WO.run 1 3 [(16, .bool false)] (by kernel_rfl) (by kernel_rfl) ?_
    refine WO.done (by kernel_rfl) ?_
    refine WQ.keep [0, 1, 2, 7, 8, 9, 12, 13, 14, 15, 16] (e' := [(0, .slice AR nr cr), (1, .int .i64 cl), (2, .string (str k0)), (7, .pointer (some ⟨g1, 0, none⟩)), (8, .bool false), (9, .bool true), (12, .int .i64 0), (13, .iface 35 (.int .i64 1)), (14, .int .i64 0), (15, .iface 35 (.int .i64 1)), (16, .bool false)]) (by kernel_rfl) ?_
    refine WQ.thenN ?_
    refine WE.seq ?_
    refine WE.seq ?_
    refine WE.region ?_
    refine WO.run 2 0 [(54, .bool true), (53, .bool false)] (by kernel_rfl) (by kernel_rfl) ?_
    refine WO.done (by kernel_rfl) ?_
    refine WQ.keep [0, 1, 2, 7, 8, 9, 12, 13, 14, 15, 54] (e' := [(0, .slice AR nr cr), (1, .int .i64 cl), (2, .string (str k0)), (7, .pointer (some ⟨g1, 0, none⟩)), (8, .bool false), (9, .bool true), (12, .int .i64 0), (13, .iface 35 (.int .i64 1)), (14, .int .i64 0), (15, .iface 35 (.int .i64 1)), (54, .bool true)]) (by kernel_rfl) ?_
    refine WQ.thenN ?_
    refine WE.condT (by kernel_rfl) ?_
    refine WE.seq ?_
    refine WE.region ?_
    refine WO.run 4 0 [(58, .int .i64 cl), (57, .slice AR nr cr), (56, .bool true), (55, .bool true)] (by kernel_rfl) (by kernel_rfl) ?_
    refine WO.call (SQ.E 4 (by kernel_rfl)) 59 (by kernel_rfl) (rmay_f l AR nr cr FR cl _ HL hnr hnrr hrl) ?_
    rintro _ w57 ⟨rfl, F58⟩
    rw [hmr]
    refine ⟨_, rfl, trivial, ?_⟩
    have HB4 := Blk.keep HB4 F58 (nin0 _)
    have HL := HL.keep F58 (fun _ _ => nin0 _)
    have HT := HT.keep F58 (fun _ _ => nin0 _)
    have HTab := tab_keep HTab F58 (nin0 _)
    have HM := max_keep HM F58 (nin0 _)
    have HA := Fr.step0 HA F58
    refine WO.run 21 5 [(8, .bool true), (79, .bool true), (78, .bool true), (77, .int .i64 0), (76, .bool true), (75, .bool true), (74, .bool true), (73, .int .i64 0), (72, .bool true), (71, .bool true), (70, .bool true), (69, .iface 35 (.int .i64 1)), (68, .iface 35 (.int .i64 1)), (67, .bool true), (66, .bool true), (65, .bool true), (64, .iface 35 (.int .i64 1)), (63, .iface 35 (.int .i64 1)), (62, .bool true), (61, .bool true), (60, .bool true)] (by kernel_rfl) (by kernel_rfl) ?_
    refine WO.done (by kernel_rfl) ?_
    refine WQ.keep [0, 1, 2, 7, 8, 9, 12, 13, 14, 15] (e' := [(0, .slice AR nr cr), (1, .int .i64 cl), (2, .string (str k0)), (7, .pointer (some ⟨g1, 0, none⟩)), (8, .bool true), (9, .bool true), (12, .int .i64 0), (13, .iface 35 (.int .i64 1)), (14, .int .i64 0), (15, .iface 35 (.int .i64 1))]) (by kernel_rfl) ?_
    refine WQ.thenN ?_
    refine WE.ret ?_
    refine WQ.thenR ?_
    refine WQ.ret (v := .bool true) (by kernel_rfl) ?_
    exact ⟨rfl, HA⟩
  ·
   rw [hfr]
   refine WO.run 1 2 [(11, .bool false)] (by kernel_rfl) (by kernel_rfl) ?_
   refine WO.done (by kernel_rfl) ?_
   refine WQ.keep [0, 1, 2, 7, 8, 9, 10, 11] (e' := [(0, .slice AR nr cr), (1, .int .i64 cl), (2, .string (str k0)), (7, .pointer (some ⟨g1, 0, none⟩)), (8, .bool false), (9, .bool true), (10, .bool true), (11, .bool false)]) (by kernel_rfl) ?_
   refine WQ.thenN ?_
   refine WE.seq ?_
   refine WE.seq ?_
   refine WE.region ?_
   refine WO.run 11 0 [(34, .bool true), (33, undef), (32, undef), (31, undef), (30, .bool true), (29, .bool true), (28, .bool true), (27, .bool false), (26, .bool false), (25, .bool false), (24, .bool true)] (by kernel_rfl) (by kernel_rfl) ?_
   refine WO.done (by kernel_rfl) ?_
   refine WQ.keep [0, 1, 2, 7, 8, 9, 34] (e' := [(0, .slice AR nr cr), (1, .int .i64 cl), (2, .string (str k0)), (7, .pointer (some ⟨g1, 0, none⟩)), (8, .bool false), (9, .bool true), (34, .bool true)]) (by kernel_rfl) ?_
   refine WQ.thenN ?_
   refine WE.condT (by kernel_rfl) ?_
   refine WE.seq ?_
   refine WE.region ?_
   refine WO.run 2 0 [(8, .bool true), (35, .bool true)] (by kernel_rfl) (by kernel_rfl) ?_
   refine WO.done (by kernel_rfl) ?_
   refine WQ.keep [0, 1, 2, 7, 8, 9] (e' := [(0, .slice AR nr cr), (1, .int .i64 cl), (2, .string (str k0)), (7, .pointer (some ⟨g1, 0, none⟩)), (8, .bool true), (9, .bool true)]) (by kernel_rfl) ?_
   refine WQ.thenN ?_
   refine WE.ret ?_
   refine WQ.thenR ?_
   refine WQ.ret (v := .bool true) (by kernel_rfl) ?_
   exact ⟨rfl, HA⟩
 ·
  rw [hfew]
  refine WO.run 1 2 [(10, .bool false)] (by kernel_rfl) (by kernel_rfl) ?_
  refine WO.done (by kernel_rfl) ?_
  refine WQ.keep [0, 1, 2, 7, 8, 9, 10] (e' := [(0, .slice AR nr cr), (1, .int .i64 cl), (2, .string (str k0)), (7, .pointer (some ⟨g1, 0, none⟩)), (8, .bool false), (9, .bool true), (10, .bool false)]) (by kernel_rfl) ?_
  refine WQ.thenN ?_
  refine WE.seq ?_
  refine WE.region ?_
  refine WO.run 1 0 [(22, .slice AR nr cr)] (by kernel_rfl) (by kernel_rfl) ?_
  refine WO.call (SQ.E 1 (by kernel_rfl)) 23 (by kernel_rfl) (fewr_f l AR nr cr FR _ HL hnr hnrr hrl) ?_
  rintro _ w59 ⟨rfl, F60⟩
  refine ⟨_, rfl, trivial, ?_⟩
  have HB4 := Blk.keep HB4 F60 (nin0 _)
  have HL := HL.keep F60 (fun _ _ => nin0 _)
  have HT := HT.keep F60 (fun _ _ => nin0 _)
  have HTab := tab_keep HTab F60 (nin0 _)
  have HM := max_keep HM F60 (nin0 _)
  have HA := Fr.step0 HA F60
  rcases Bool.eq_false_or_eq_true (fewR l) with hfr | hfr
  ·
   rw [hfr]
   refine WO.run 1 2 [(11, .bool true)] (by kernel_rfl) (by kernel_rfl) ?_
   refine WO.done (by kernel_rfl) ?_
   refine WQ.keep [0, 1, 2, 7, 8, 9, 10, 11] (e' := [(0, .slice AR nr cr), (1, .int .i64 cl), (2, .string (str k0)), (7, .pointer (some ⟨g1, 0, none⟩)), (8, .bool false), (9, .bool true), (10, .bool false), (11, .bool true)]) (by kernel_rfl) ?_
   refine WQ.thenN ?_
   refine WE.seq ?_
   refine WE.seq ?_
   refine WE.region ?_
   refine WO.run 11 0 [(34, .bool true), (33, undef), (32, undef), (31, undef), (30, .bool true), (29, .bool true), (28, undef), (27, undef), (26, .bool true), (25, .bool true), (24, .bool false)] (by kernel_rfl) (by kernel_rfl) ?_
   refine WO.done (by kernel_rfl) ?_
   refine WQ.keep [0, 1, 2, 7, 8, 9, 34] (e' := [(0, .slice AR nr cr), (1, .int .i64 cl), (2, .string (str k0)), (7, .pointer (some ⟨g1, 0, none⟩)), (8, .bool false), (9, .bool true), (34, .bool true)]) (by kernel_rfl) ?_
   refine WQ.thenN ?_
   refine WE.condT (by kernel_rfl) ?_
   refine WE.seq ?_
   refine WE.region ?_
   refine WO.run 2 0 [(8, .bool true), (35, .bool true)] (by kernel_rfl) (by kernel_rfl) ?_
   refine WO.done (by kernel_rfl) ?_
   refine WQ.keep [0, 1, 2, 7, 8, 9] (e' := [(0, .slice AR nr cr), (1, .int .i64 cl), (2, .string (str k0)), (7, .pointer (some ⟨g1, 0, none⟩)), (8, .bool true), (9, .bool true)]) (by kernel_rfl) ?_
   refine WQ.thenN ?_
   refine WE.ret ?_
   refine WQ.thenR ?_
   refine WQ.ret (v := .bool true) (by kernel_rfl) ?_
   exact ⟨rfl, HA⟩
  ·
   rw [hfr]
   refine WO.run 1 2 [(11, .bool false)] (by kernel_rfl) (by kernel_rfl) ?_
   refine WO.done (by kernel_rfl) ?_
   refine WQ.keep [0, 1, 2, 7, 8, 9, 10, 11] (e' := [(0, .slice AR nr cr), (1, .int .i64 cl), (2, .string (str k0)), (7, .pointer (some ⟨g1, 0, none⟩)), (8, .bool false), (9, .bool true), (10, .bool false), (11, .bool false)]) (by kernel_rfl) ?_
   refine WQ.thenN ?_
   refine WE.seq ?_
   refine WE.seq ?_
   refine WE.region ?_
   refine WO.run 11 0 [(34, .bool true), (33, undef), (32, undef), (31, undef), (30, .bool true), (29, .bool true), (28, undef), (27, undef), (26, .bool true), (25, .bool true), (24, .bool false)] (by kernel_rfl) (by kernel_rfl) ?_
   refine WO.done (by kernel_rfl) ?_
   refine WQ.keep [0, 1, 2, 7, 8, 9, 34] (e' := [(0, .slice AR nr cr), (1, .int .i64 cl), (2, .string (str k0)), (7, .pointer (some ⟨g1, 0, none⟩)), (8, .bool false), (9, .bool true), (34, .bool true)]) (by kernel_rfl) ?_
   refine WQ.thenN ?_
   refine WE.condT (by kernel_rfl) ?_
   refine WE.seq ?_
   refine WE.region ?_
   refine WO.run 2 0 [(8, .bool true), (35, .bool true)] (by kernel_rfl) (by kernel_rfl) ?_
   refine WO.done (by kernel_rfl) ?_
   refine WQ.keep [0, 1, 2, 7, 8, 9] (e' := [(0, .slice AR nr cr), (1, .int .i64 cl), (2, .string (str k0)), (7, .pointer (some ⟨g1, 0, none⟩)), (8, .bool true), (9, .bool true)]) (by kernel_rfl) ?_
   refine WQ.thenN ?_
   refine WE.ret ?_
   refine WQ.thenR ?_
   refine WQ.ret (v := .bool true) (by kernel_rfl) ?_
   exact ⟨rfl, HA⟩
end Go.Proofs.YtdhonbahpcmmnaaDoor.Line
