/- Layer 4's walks: line.Parse. -/
import Derived.Test.YtdhonbahpcmmnaaDoorLineH
set_option linter.unusedVariables false
set_option linter.unusedSimpArgs false
namespace Go.Proofs.YtdhonbahpcmmnaaDoor.Line
open Go Go.RowKit Go.Proofs.YtdhonbahpcmmnaaDoor Go.Proofs.YtdhonbahpcmmnaaDoor.Eng Go.Proofs.YtdhonbahpcmmnaaDoorW.PrintWords
theorem numE_ge (s : L) (p : Nat) : p ≤ numE s p := by
 have := runE_ge isD s (numB s p)
 unfold numE
 have h : p ≤ numB s p := by unfold numB; split <;> omega
 omega
theorem numE_le {s : L} {p : Nat} (h : p ≤ s.length) : numE s p ≤ s.length := by
 unfold numE
 refine runE_le isD ?_
 unfold numB
 split <;> omega
theorem kind_le (c : UInt8) : 0 ≤ kindP c ∧ kindP c ≤ 3 := by
 unfold kindP
 repeat (first | split | omega)
theorem ix_kind (c : UInt8) : 1 + Lib.indexByte [99, 103, 104] c = kindP c := by
 have b9 : ∀ n : UInt8, (n == c) = decide (c.toNat = n.toNat) := fun n => by
  rw [Bool.eq_iff_iff]
  simp only [beq_iff_eq, decide_eq_true_eq]
  exact ⟨fun h => by rw [h], fun h => (UInt8.toNat_inj.1 h).symm⟩
 simp only [Lib.indexByte, b9, kindP]
 have e1 : (99 : UInt8).toNat = 99 := rfl
 have e2 : (103 : UInt8).toNat = 103 := rfl
 have e3 : (104 : UInt8).toNat = 104 := rfl
 rw [e1, e2, e3]
 by_cases h1 : c.toNat = 99
 ·
  simp [h1]
 ·
  by_cases h2 : c.toNat = 103
  ·
   simp [h2]
  ·
   by_cases h3 : c.toNat = 104
   ·
    simp [h3]
   ·
    simp [h1, h2, h3]
def sp2P (s : L) (ts : List (L × L)) (k : Int) (p : Nat) : Sum Ev Nat := if ¬ isAt s p 32 then .inr p else valP s ts k (p + 1) (numP s (p + 1) (-9223372036854775808) 9223372036854775807)
def finP (s : L) (ts : List (L × L)) (k v t : Int) (p : Nat) : Sum Ev Nat := if p < s.length then .inr p else .inl { name := part s 0, tags := ts, kind := k, value := v, time := t }
def kndP (s : L) (ts : List (L × L)) (p : Nat) : Sum Ev Nat := if s.length ≤ p then .inr p else if kindP (gB s p) = 0 then .inr p else sp2P s ts (kindP (gB s p)) (p + 1)
theorem rp_y {s : L} {ts : List (L × L)} {p : Nat} (h : isAt s p 32) : restP s ts p = kndP s ts (p + 1) := by
 unfold restP
 rw [if_neg (fun c => c h)]
 rfl
theorem kp_1 {s : L} {ts : List (L × L)} {p : Nat} (h : s.length ≤ p) : kndP s ts p = .inr p := if_pos h
theorem kp_2 {s : L} {ts : List (L × L)} {p : Nat} (h : p < s.length) (h0 : kindP (gB s p) = 0) : kndP s ts p = .inr p := by
 unfold kndP
 rw [if_neg (by omega), if_pos h0]
theorem kp_3 {s : L} {ts : List (L × L)} {p : Nat} (h : p < s.length) (h0 : kindP (gB s p) ≠ 0) : kndP s ts p = sp2P s ts (kindP (gB s p)) (p + 1) := by
 unfold kndP
 rw [if_neg (by omega), if_neg h0]
def sp3P (s : L) (ts : List (L × L)) (k v : Int) (p : Nat) : Sum Ev Nat := if ¬ isAt s p 32 then .inr p else timeP s ts k v (p + 1) (numP s (p + 1) 0 1099511627776)
theorem sq_1 {s : L} {ts : List (L × L)} {p : Nat} {k v : Int} (h : ¬ isAt s p 32) : sp3P s ts k v p = .inr p := if_pos h
theorem sq_2 {s : L} {ts : List (L × L)} {p : Nat} {k v : Int} (h : isAt s p 32) : sp3P s ts k v p = timeP s ts k v (p + 1) (numP s (p + 1) 0 1099511627776) := if_neg (fun c => c h)
theorem sp_1 {s : L} {ts : List (L × L)} {p : Nat} {k : Int} (h : ¬ isAt s p 32) : sp2P s ts k p = .inr p := if_pos h
theorem sp_2 {s : L} {ts : List (L × L)} {p : Nat} {k : Int} (h : isAt s p 32) : sp2P s ts k p = valP s ts k (p + 1) (numP s (p + 1) (-9223372036854775808) 9223372036854775807) := if_neg (fun c => c h)
def ResL (w w' : World) (e : Ending) : Sum Ev Nat → Prop
 | .inr p => ∃ g, e = .returned (.tuple #[.agg #[.string (⟨#[]⟩), .slice none 0 0, .int .i64 0, .int .i64 0, .int .i64 0], .iface 67 (.pointer (some ⟨g, 0, none⟩))]) ∧ Blk w' g #[.int .i64 (p : Int), .int .i64 2] 69 ∧ w.heap.size ≤ g ∧ Fr [] w w'
 | .inl ev => ∃ A n cp F, e = .returned (.tuple #[.agg #[.string (str ev.name), .slice A n cp, .int .i64 ev.kind, .int .i64 ev.value, .int .i64 ev.time], .nilIface]) ∧ VX cT 2 w' F A ev.tags ∧ ev.tags.length = n ∧ n ≤ cp ∧ (∀ y ∈ F, w.heap.size ≤ y) ∧ Fr [] w w'
theorem ResL.fail {w w' : World} {p g : Nat} (hB : Blk w' g #[.int .i64 (p : Int), .int .i64 2] 69) (hg : w.heap.size ≤ g) (h : Fr [] w w') : ResL w w' (.returned (.tuple #[.agg #[.string (⟨#[]⟩), .slice none 0 0, .int .i64 0, .int .i64 0, .int .i64 0], .iface 67 (.pointer (some ⟨g, 0, none⟩))])) (.inr p) := ⟨g, rfl, hB, hg, h⟩
theorem ResL.ok {w w' : World} {ev : Ev} {A : Option Addr} {n cp : Nat} {F : List Nat} (hn : ev.tags.length = n) (hc : n ≤ cp) (hT : VX cT 2 w' F A ev.tags) (hg : ∀ y ∈ F, w.heap.size ≤ y) (h : Fr [] w w') : ResL w w' (.returned (.tuple #[.agg #[.string (str ev.name), .slice A n cp, .int .i64 ev.kind, .int .i64 ev.value, .int .i64 ev.time], .nilIface])) (.inl ev) := ⟨A, n, cp, F, rfl, hT, hn, hc, hg, h⟩
theorem number_all (g : Nat) (s : L) (p : Nat) (least most : Int) (w : World) (hp : p ≤ s.length) (hs : s.length ≤ 1000000) (HS : VarI w "strconv.ErrSyntax") (HR : VarI w "strconv.ErrRange") (hgS : 3 ≠ g) (hgR : 4 ≠ g) (HB : Blk w g #[.string (str s), .int .i64 (p : Int), .int .i64 (-1)] 60) :
  Calls Tryd.prog 39 #[.pointer (some ⟨g, 0, none⟩), .int .i64 least, .int .i64 most] w fun e w' => e = .returned (.int .i64 ((numP s p least most).getD 0)) ∧ Blk w' g #[.string (str s), .int .i64 ((numE s p : Nat) : Int), .int .i64 (if (numP s p least most).isSome then -1 else (p : Int))] 60 ∧ Fr [g] w w' := by
 by_cases h : p < s.length ∧ (gB s p).toNat = 45
 ·
  have e1 : numB s p = p + 1 := if_pos h
  have hc : gB s p = 45 := u8_of (by decide) h.2
  unfold numP numE
  rw [e1]
  cases hpi : Lib.parseIntB 64 ((s.take (runE isD s (p + 1))).drop p) with
  | ok v => exact number_m_ok g s p w hp hs least most v h.1 hc hpi HS HR hgS hgR HB
  | «syntax» => exact number_m_syntax g s p w hp hs least most 0 h.1 hc hpi HS HR hgS hgR HB
  | range => exact number_m_range g s p w hp hs least most 0 h.1 hc hpi HS HR hgS hgR HB
 ·
  have e1 : numB s p = p := if_neg h
  have hc : ¬ (p < s.length ∧ gB s p = 45) := fun k => h ⟨k.1, by rw [k.2]; rfl⟩
  unfold numP numE
  rw [e1]
  cases hpi : Lib.parseIntB 64 ((s.take (runE isD s p)).drop p) with
  | ok v => exact number_d_ok g s p w hp hs least most v hc hpi HS HR hgS hgR HB
  | «syntax» => exact number_d_syntax g s p w hp hs least most 0 hc hpi HS HR hgS hgR HB
  | range => exact number_d_range g s p w hp hs least most 0 hc hpi HS HR hgS hgR HB
theorem number_some (g : Nat) (s : L) (p : Nat) (least most v : Int) (w : World) (hp : p ≤ s.length) (hs : s.length ≤ 1000000) (HS : VarI w "strconv.ErrSyntax") (HR : VarI w "strconv.ErrRange") (hgS : 3 ≠ g) (hgR : 4 ≠ g) (hv : numP s p least most = some v) (HB : Blk w g #[.string (str s), .int .i64 (p : Int), .int .i64 (-1)] 60) :
  Calls Tryd.prog 39 #[.pointer (some ⟨g, 0, none⟩), .int .i64 least, .int .i64 most] w fun e w' => e = .returned (.int .i64 v) ∧ Blk w' g #[.string (str s), .int .i64 ((numE s p : Nat) : Int), .int .i64 (-1)] 60 ∧ Fr [g] w w' := by
 have h := number_all g s p least most w hp hs HS HR hgS hgR HB
 rw [hv] at h
 exact h
theorem number_none (g : Nat) (s : L) (p : Nat) (least most : Int) (w : World) (hp : p ≤ s.length) (hs : s.length ≤ 1000000) (HS : VarI w "strconv.ErrSyntax") (HR : VarI w "strconv.ErrRange") (hgS : 3 ≠ g) (hgR : 4 ≠ g) (hv : numP s p least most = none) (HB : Blk w g #[.string (str s), .int .i64 (p : Int), .int .i64 (-1)] 60) :
  Calls Tryd.prog 39 #[.pointer (some ⟨g, 0, none⟩), .int .i64 least, .int .i64 most] w fun e w' => e = .returned (.int .i64 0) ∧ Blk w' g #[.string (str s), .int .i64 ((numE s p : Nat) : Int), .int .i64 (p : Int)] 60 ∧ Fr [g] w w' := by
 have h := number_all g s p least most w hp hs HS HR hgS hgR HB
 rw [hv] at h
 exact h
set_option maxRecDepth 100000 in
set_option maxHeartbeats 1000000 in
theorem parse_l (s : L) (w : World) (hs : s.length ≤ 300) (HS : VarI w "strconv.ErrSyntax") (HR : VarI w "strconv.ErrRange") :
  Calls Tryd.prog 19 #[.string (str s)] w fun e w' => ResL w w' e (parseP s) := by
 have HA := Fr.refl [] w
 refine enter (N := 105) Tryd.func19 (c := _) rfl (by kernel_rfl) (by kernel_rfl) (e := [(0, .string (str s))]) (by kernel_rfl) ?_
 refine WE.seq ?_
 refine WE.region ?_
 refine WO.bx (SQ.E 0 (by kernel_rfl)) 2 #[.string (⟨#[]⟩), .slice none 0 0, .int .i64 0, .int .i64 0, .int .i64 0] 25 (fun g => .pointer (some ⟨g, 0, none⟩)) (by kernel_rfl) (fun _ _ => trivial) ?_
 intro g1 w2 HB4 F3 le5 _
 have ne_3_g1 : 3 ≠ g1 := Nat.ne_of_lt (Nat.lt_of_lt_of_le (var_lt 3 (by kernel_rfl) HS) le5)
 have ne_4_g1 : 4 ≠ g1 := Nat.ne_of_lt (Nat.lt_of_lt_of_le (var_lt 4 (by kernel_rfl) HR) le5)
 have ge_HA_g1 := Nat.le_trans HA.size le5
 have HS := var_keep 3 (by kernel_rfl) HS F3 (nin0 _)
 have HR := var_keep 4 (by kernel_rfl) HR F3 (nin0 _)
 have HA := Fr.step0 HA F3
 refine WO.run 1 1 [(3, .nilIface)] (by kernel_rfl) (by kernel_rfl) ?_
 refine WO.done (by kernel_rfl) ?_
 refine WQ.keep [0, 2, 3] (e' := [(0, .string (str s)), (2, .pointer (some ⟨g1, 0, none⟩)), (3, .nilIface)]) (by kernel_rfl) ?_
 refine WQ.thenN ?_
 refine WE.scope ?_
 refine WE.seq ?_
 refine WE.seq ?_
 refine WE.region ?_
 refine WO.run 2 0 [(9, .int .i64 (s.length : Int)), (8, .string (str s))] (by kernel_rfl) (by kernel_rfl) ?_
 refine WO.one (SQ.F 2 (by kernel_rfl)) 10 (.bool (decide (((s.length : Int) : Int) > (300 : Int)))) (by kernel_rfl) ?_
 refine WO.topPF (((s.length : Int) : Int) > (300 : Int)) (by omega) ?_
 refine WO.done (by kernel_rfl) ?_
 refine WQ.keep [0, 2, 3, 10] (e' := [(0, .string (str s)), (2, .pointer (some ⟨g1, 0, none⟩)), (3, .nilIface), (10, .bool false)]) (by kernel_rfl) ?_
 refine WQ.thenN ?_
 refine WE.condF (by kernel_rfl) ?_
 refine WE.skip ?_
 refine WQ.thenN ?_
 refine WE.seq ?_
 refine WE.region ?_
 refine WO.run 2 0 [(14, .agg #[.string (str s), .int .i64 0, .int .i64 (-1)]), (13, .string (str s))] (by kernel_rfl) (by kernel_rfl) ?_
 refine WO.bx (SQ.E 2 (by kernel_rfl)) 15 #[.string (str s), .int .i64 0, .int .i64 (-1)] 60 (fun g => .pointer (some ⟨g, 0, none⟩)) (by kernel_rfl) (fun _ _ => trivial) ?_
 intro g6 w7 HB9 F8 le10 _
 have ne_g1_g6 : g1 ≠ g6 := Nat.ne_of_lt (Nat.lt_of_lt_of_le HB4.lt le10)
 have ne_3_g6 : 3 ≠ g6 := Nat.ne_of_lt (Nat.lt_of_lt_of_le (var_lt 3 (by kernel_rfl) HS) le10)
 have ne_4_g6 : 4 ≠ g6 := Nat.ne_of_lt (Nat.lt_of_lt_of_le (var_lt 4 (by kernel_rfl) HR) le10)
 have ge_HA_g6 := Nat.le_trans HA.size le10
 have HB4 := Blk.keep HB4 F8 (nin0 _)
 have HS := var_keep 3 (by kernel_rfl) HS F8 (nin0 _)
 have HR := var_keep 4 (by kernel_rfl) HR F8 (nin0 _)
 have HA := Fr.step0 HA F8
 refine WO.run 1 3 [(4, .pointer (some ⟨g6, 0, none⟩))] (by kernel_rfl) (by kernel_rfl) ?_
 refine WO.done (by kernel_rfl) ?_
 refine WQ.keep [0, 2, 3, 4] (e' := [(0, .string (str s)), (2, .pointer (some ⟨g1, 0, none⟩)), (3, .nilIface), (4, .pointer (some ⟨g6, 0, none⟩))]) (by kernel_rfl) ?_
 refine WQ.thenN ?_
 refine WE.seqJ (α := Nat × Int × Nat) (E := fun ⟨p, bz, ge⟩ => [(0, .string (str s)), (2, .pointer (some ⟨g1, 0, none⟩)), (3, .nilIface), (4, .pointer (some ⟨g6, 0, none⟩)), (5, .pointer (some ⟨ge, 0, none⟩))]) (I := fun ⟨p, bz, ge⟩ wr => ((bz = -1 ∧ parseP s = afterP s (tagsP s 6 p [])) ∨ (∃ q : Nat, bz = (q : Int) ∧ parseP s = .inr q)) ∧ p ≤ s.length ∧ Blk wr g1 #[.string (⟨#[]⟩), .slice none 0 0, .int .i64 0, .int .i64 0, .int .i64 0] 25 ∧ Blk wr g6 #[.string (str s), .int .i64 (p : Int), .int .i64 bz] 60 ∧ VarI wr "strconv.ErrSyntax" ∧ VarI wr "strconv.ErrRange" ∧ Blk wr ge #[.string (str ((s.take (runE inW s 0)).drop 0)), .slice none 0 0, .int .i64 0, .int .i64 0, .int .i64 0] 25 ∧ g1 ≠ ge ∧ g6 ≠ ge ∧ 3 ≠ ge ∧ 4 ≠ ge ∧ (World.heap w).size ≤ ge ∧ Fr [] w wr) ?_ ?_
 ·
  rintro ⟨p, bz, ge⟩ wr ⟨hst, hp, HB4, HB9, HS, HR, HN_ge, ne_g1_ge, ne_g6_ge, ne_3_ge, ne_4_ge, ge_HA_ge, HA⟩
  refine WE.seq ?_
  refine WE.label ?_
  refine WQ.thenN ?_
  refine WE.seqJ (α := Nat × Int × List Nat × Option Addr × Nat × (List (L × L))) (E := fun ⟨p, bz, FT, At, ct, acc⟩ => [(0, .string (str s)), (2, .pointer (some ⟨g1, 0, none⟩)), (3, .nilIface), (4, .pointer (some ⟨g6, 0, none⟩)), (5, .pointer (some ⟨ge, 0, none⟩))]) (I := fun ⟨p, bz, FT, At, ct, acc⟩ wr => ((bz = -1 ∧ parseP s = restP s acc p) ∨ (∃ q : Nat, bz = (q : Int) ∧ parseP s = .inr q)) ∧ p ≤ s.length ∧ Blk wr g1 #[.string (⟨#[]⟩), .slice none 0 0, .int .i64 0, .int .i64 0, .int .i64 0] 25 ∧ Blk wr g6 #[.string (str s), .int .i64 (p : Int), .int .i64 bz] 60 ∧ Blk wr ge #[.string (str ((s.take (runE inW s 0)).drop 0)), .slice At acc.length ct, .int .i64 0, .int .i64 0, .int .i64 0] 25 ∧ VarI wr "strconv.ErrSyntax" ∧ VarI wr "strconv.ErrRange" ∧ OwnX 53 2 wr FT (.slice At acc.length ct) (List.map cT acc) ∧ g1 ∉ FT ∧ g6 ∉ FT ∧ ge ∉ FT ∧ 3 ∉ FT ∧ 4 ∉ FT ∧ (∀ y ∈ FT, (World.heap w).size ≤ y) ∧ Fr [] w wr) ?_ ?_
  ·
   rintro ⟨p, bz, FT, At, ct, acc⟩ wr ⟨hst, hp, HB4, HB9, HN_ge, HS, HR, HO_FT, nin_g1_FT, nin_g6_FT, nin_ge_FT, nin_3_FT, nin_4_FT, ge_HA_FT, HA⟩
   refine WE.seqJ (α := Nat × Int) (E := fun ⟨p, bz⟩ => [(0, .string (str s)), (2, .pointer (some ⟨g1, 0, none⟩)), (3, .nilIface), (4, .pointer (some ⟨g6, 0, none⟩)), (5, .pointer (some ⟨ge, 0, none⟩))]) (I := fun ⟨p, bz⟩ wr => ((bz = -1 ∧ parseP s = kndP s acc p) ∨ (∃ q : Nat, bz = (q : Int) ∧ parseP s = .inr q)) ∧ p ≤ s.length ∧ Blk wr g1 #[.string (⟨#[]⟩), .slice none 0 0, .int .i64 0, .int .i64 0, .int .i64 0] 25 ∧ Blk wr g6 #[.string (str s), .int .i64 (p : Int), .int .i64 bz] 60 ∧ Blk wr ge #[.string (str ((s.take (runE inW s 0)).drop 0)), .slice At acc.length ct, .int .i64 0, .int .i64 0, .int .i64 0] 25 ∧ OwnX 53 2 wr FT (.slice At acc.length ct) (List.map cT acc) ∧ VarI wr "strconv.ErrSyntax" ∧ VarI wr "strconv.ErrRange" ∧ Fr [] w wr) ?_ ?_
   ·
    rintro ⟨p, bz⟩ wr ⟨hst, hp, HB4, HB9, HN_ge, HO_FT, HS, HR, HA⟩
    refine WE.seq ?_
    rcases hst with ⟨rfl, hps⟩ | ⟨q, rfl, hps⟩
    ·
     refine WE.region ?_
     refine WO.run 3 0 [(55, .pointer (some ⟨g6, 1, none⟩)), (54, .pointer (some ⟨g6, 0, none⟩)), (53, .pointer (some ⟨g6, 0, none⟩))] (by kernel_rfl) (by kernel_rfl) ?_
     refine WO.ld (SQ.S 3 (by kernel_rfl)) 56 (.int .i64 (p : Int)) (by kernel_rfl) (same (HB9.at 1 (by kernel_rfl))) ?_
     refine WO.run 1 4 [(7, .int .i64 (p : Int))] (by kernel_rfl) (by kernel_rfl) ?_
     refine WO.done (by kernel_rfl) ?_
     refine WQ.keep [0, 2, 3, 4, 5, 7] (e' := [(0, .string (str s)), (2, .pointer (some ⟨g1, 0, none⟩)), (3, .nilIface), (4, .pointer (some ⟨g6, 0, none⟩)), (5, .pointer (some ⟨ge, 0, none⟩)), (7, .int .i64 (p : Int))]) (by kernel_rfl) ?_
     refine WQ.thenN ?_
     refine WE.seqJ (α := Nat × Int × Int × Nat) (E := fun ⟨p, bz, kv, pf⟩ => [(0, .string (str s)), (2, .pointer (some ⟨g1, 0, none⟩)), (3, .nilIface), (4, .pointer (some ⟨g6, 0, none⟩)), (5, .pointer (some ⟨ge, 0, none⟩)), (7, .int .i64 (pf : Int))]) (I := fun ⟨p, bz, kv, pf⟩ wr => ((bz = -1 ∧ ((kv = 0 ∧ parseP s = .inr pf) ∨ (kv ≠ 0 ∧ parseP s = sp2P s acc kv p))) ∨ (∃ q : Nat, bz = (q : Int) ∧ parseP s = .inr q ∧ kv = 0)) ∧ p ≤ s.length ∧ (0 ≤ kv ∧ kv ≤ 3) ∧ Blk wr g1 #[.string (⟨#[]⟩), .slice none 0 0, .int .i64 0, .int .i64 0, .int .i64 0] 25 ∧ Blk wr g6 #[.string (str s), .int .i64 (p : Int), .int .i64 bz] 60 ∧ Blk wr ge #[.string (str ((s.take (runE inW s 0)).drop 0)), .slice At acc.length ct, .int .i64 kv, .int .i64 0, .int .i64 0] 25 ∧ OwnX 53 2 wr FT (.slice At acc.length ct) (List.map cT acc) ∧ VarI wr "strconv.ErrSyntax" ∧ VarI wr "strconv.ErrRange" ∧ Fr [] w wr) ?_ ?_
     ·
      rintro ⟨p, bz, kv, pf⟩ wr ⟨hst, hp, hk03, HB4, HB9, HN_ge, HO_FT, HS, HR, HA⟩
      refine WE.seqJ (α := Nat × Int × Int) (E := fun ⟨p, bz, kv⟩ => [(0, .string (str s)), (2, .pointer (some ⟨g1, 0, none⟩)), (3, .nilIface), (4, .pointer (some ⟨g6, 0, none⟩)), (5, .pointer (some ⟨ge, 0, none⟩))]) (I := fun ⟨p, bz, kv⟩ wr => ((bz = -1 ∧ parseP s = sp2P s acc kv p) ∨ (∃ q : Nat, bz = (q : Int) ∧ parseP s = .inr q)) ∧ p ≤ s.length ∧ Blk wr g1 #[.string (⟨#[]⟩), .slice none 0 0, .int .i64 0, .int .i64 0, .int .i64 0] 25 ∧ Blk wr g6 #[.string (str s), .int .i64 (p : Int), .int .i64 bz] 60 ∧ Blk wr ge #[.string (str ((s.take (runE inW s 0)).drop 0)), .slice At acc.length ct, .int .i64 kv, .int .i64 0, .int .i64 0] 25 ∧ OwnX 53 2 wr FT (.slice At acc.length ct) (List.map cT acc) ∧ VarI wr "strconv.ErrSyntax" ∧ VarI wr "strconv.ErrRange" ∧ Fr [] w wr) ?_ ?_
      ·
       rintro ⟨p, bz, kv⟩ wr ⟨hst, hp, HB4, HB9, HN_ge, HO_FT, HS, HR, HA⟩
       refine WE.seqJ (α := Nat × Int) (E := fun ⟨p, bz⟩ => [(0, .string (str s)), (2, .pointer (some ⟨g1, 0, none⟩)), (3, .nilIface), (4, .pointer (some ⟨g6, 0, none⟩)), (5, .pointer (some ⟨ge, 0, none⟩))]) (I := fun ⟨p, bz⟩ wr => ((bz = -1 ∧ parseP s = valP s acc kv p (numP s p (-9223372036854775808) 9223372036854775807)) ∨ (∃ q : Nat, bz = (q : Int) ∧ parseP s = .inr q)) ∧ p ≤ s.length ∧ Blk wr g1 #[.string (⟨#[]⟩), .slice none 0 0, .int .i64 0, .int .i64 0, .int .i64 0] 25 ∧ Blk wr g6 #[.string (str s), .int .i64 (p : Int), .int .i64 bz] 60 ∧ Blk wr ge #[.string (str ((s.take (runE inW s 0)).drop 0)), .slice At acc.length ct, .int .i64 kv, .int .i64 0, .int .i64 0] 25 ∧ OwnX 53 2 wr FT (.slice At acc.length ct) (List.map cT acc) ∧ VarI wr "strconv.ErrSyntax" ∧ VarI wr "strconv.ErrRange" ∧ Fr [] w wr) ?_ ?_
       ·
        rintro ⟨p, bz⟩ wr ⟨hst, hp, HB4, HB9, HN_ge, HO_FT, HS, HR, HA⟩
        refine WE.seqJ (α := Nat × Int × Int) (E := fun ⟨p, bz, vv⟩ => [(0, .string (str s)), (2, .pointer (some ⟨g1, 0, none⟩)), (3, .nilIface), (4, .pointer (some ⟨g6, 0, none⟩)), (5, .pointer (some ⟨ge, 0, none⟩))]) (I := fun ⟨p, bz, vv⟩ wr => ((bz = -1 ∧ parseP s = sp3P s acc kv vv p) ∨ (∃ q : Nat, bz = (q : Int) ∧ parseP s = .inr q)) ∧ p ≤ s.length ∧ Blk wr g1 #[.string (⟨#[]⟩), .slice none 0 0, .int .i64 0, .int .i64 0, .int .i64 0] 25 ∧ Blk wr g6 #[.string (str s), .int .i64 (p : Int), .int .i64 bz] 60 ∧ Blk wr ge #[.string (str ((s.take (runE inW s 0)).drop 0)), .slice At acc.length ct, .int .i64 kv, .int .i64 vv, .int .i64 0] 25 ∧ OwnX 53 2 wr FT (.slice At acc.length ct) (List.map cT acc) ∧ VarI wr "strconv.ErrSyntax" ∧ VarI wr "strconv.ErrRange" ∧ Fr [] w wr) ?_ ?_
        ·
         rintro ⟨p, bz, vv⟩ wr ⟨hst, hp, HB4, HB9, HN_ge, HO_FT, HS, HR, HA⟩
         refine WE.seqJ (α := Nat × Int) (E := fun ⟨p, bz⟩ => [(0, .string (str s)), (2, .pointer (some ⟨g1, 0, none⟩)), (3, .nilIface), (4, .pointer (some ⟨g6, 0, none⟩)), (5, .pointer (some ⟨ge, 0, none⟩))]) (I := fun ⟨p, bz⟩ wr => ((bz = -1 ∧ parseP s = timeP s acc kv vv p (numP s p 0 1099511627776)) ∨ (∃ q : Nat, bz = (q : Int) ∧ parseP s = .inr q)) ∧ p ≤ s.length ∧ Blk wr g1 #[.string (⟨#[]⟩), .slice none 0 0, .int .i64 0, .int .i64 0, .int .i64 0] 25 ∧ Blk wr g6 #[.string (str s), .int .i64 (p : Int), .int .i64 bz] 60 ∧ Blk wr ge #[.string (str ((s.take (runE inW s 0)).drop 0)), .slice At acc.length ct, .int .i64 kv, .int .i64 vv, .int .i64 0] 25 ∧ OwnX 53 2 wr FT (.slice At acc.length ct) (List.map cT acc) ∧ VarI wr "strconv.ErrSyntax" ∧ VarI wr "strconv.ErrRange" ∧ Fr [] w wr) ?_ ?_
         ·
          rintro ⟨p, bz⟩ wr ⟨hst, hp, HB4, HB9, HN_ge, HO_FT, HS, HR, HA⟩
          refine WE.seqJ (α := Nat × Int × Int) (E := fun ⟨p, bz, tv⟩ => [(0, .string (str s)), (2, .pointer (some ⟨g1, 0, none⟩)), (3, .nilIface), (4, .pointer (some ⟨g6, 0, none⟩)), (5, .pointer (some ⟨ge, 0, none⟩))]) (I := fun ⟨p, bz, tv⟩ wr => ((bz = -1 ∧ parseP s = finP s acc kv vv tv p) ∨ (∃ q : Nat, bz = (q : Int) ∧ parseP s = .inr q)) ∧ p ≤ s.length ∧ Blk wr g1 #[.string (⟨#[]⟩), .slice none 0 0, .int .i64 0, .int .i64 0, .int .i64 0] 25 ∧ Blk wr g6 #[.string (str s), .int .i64 (p : Int), .int .i64 bz] 60 ∧ Blk wr ge #[.string (str ((s.take (runE inW s 0)).drop 0)), .slice At acc.length ct, .int .i64 kv, .int .i64 vv, .int .i64 tv] 25 ∧ OwnX 53 2 wr FT (.slice At acc.length ct) (List.map cT acc) ∧ VarI wr "strconv.ErrSyntax" ∧ VarI wr "strconv.ErrRange" ∧ Fr [] w wr) ?_ ?_
          ·
           rintro ⟨p, bz, tv⟩ wr ⟨hst, hp, HB4, HB9, HN_ge, HO_FT, HS, HR, HA⟩
           refine WE.seqJ (α := Nat × Int) (E := fun ⟨p, bz⟩ => [(2, .pointer (some ⟨g1, 0, none⟩)), (3, .nilIface), (4, .pointer (some ⟨g6, 0, none⟩)), (5, .pointer (some ⟨ge, 0, none⟩))]) (I := fun ⟨p, bz⟩ wr => ((bz = -1 ∧ parseP s = .inl ⟨part s 0, acc, kv, vv, tv⟩) ∨ (∃ q : Nat, bz = (q : Int) ∧ parseP s = .inr q)) ∧ p ≤ s.length ∧ Blk wr g1 #[.string (⟨#[]⟩), .slice none 0 0, .int .i64 0, .int .i64 0, .int .i64 0] 25 ∧ Blk wr g6 #[.string (str s), .int .i64 (p : Int), .int .i64 bz] 60 ∧ Blk wr ge #[.string (str ((s.take (runE inW s 0)).drop 0)), .slice At acc.length ct, .int .i64 kv, .int .i64 vv, .int .i64 tv] 25 ∧ OwnX 53 2 wr FT (.slice At acc.length ct) (List.map cT acc) ∧ VarI wr "strconv.ErrSyntax" ∧ VarI wr "strconv.ErrRange" ∧ Fr [] w wr) ?_ ?_
           ·
            rintro ⟨p, bz⟩ wr ⟨hst, hp, HB4, HB9, HN_ge, HO_FT, HS, HR, HA⟩
            refine WE.seq ?_
            refine WE.seq ?_
            rcases hst with ⟨rfl, hps⟩ | ⟨q, rfl, hps⟩
            ·
             refine WE.region ?_
             refine WO.run 3 0 [(93, .pointer (some ⟨g6, 2, none⟩)), (92, .pointer (some ⟨g6, 0, none⟩)), (91, .pointer (some ⟨g6, 0, none⟩))] (by kernel_rfl) (by kernel_rfl) ?_
             refine WO.ld (SQ.S 3 (by kernel_rfl)) 94 (.int .i64 (-1)) (by kernel_rfl) (same (HB9.at 2 (by kernel_rfl))) ?_
             refine WO.run 1 4 [(95, .bool false)] (by kernel_rfl) (by kernel_rfl) ?_
             refine WO.done (by kernel_rfl) ?_
             refine WQ.keep [2, 3, 4, 5, 95] (e' := [(2, .pointer (some ⟨g1, 0, none⟩)), (3, .nilIface), (4, .pointer (some ⟨g6, 0, none⟩)), (5, .pointer (some ⟨ge, 0, none⟩)), (95, .bool false)]) (by kernel_rfl) ?_
             refine WQ.thenN ?_
             refine WE.condF (by kernel_rfl) ?_
             refine WE.skip ?_
             refine WQ.thenN ?_
             refine WE.seq ?_
             refine WE.region ?_
             refine WO.ldB (SQ.S 0 (by kernel_rfl)) 104 [.string (str ((s.take (runE inW s 0)).drop 0)), .slice At acc.length ct, .int .i64 kv, .int .i64 vv, .int .i64 tv] ge 0 (by kernel_rfl) (by kernel_rfl) (same HN_ge) (by kernel_rfl) ?_
             refine WO.st (SQ.E 1 (by kernel_rfl)) g1 0 [.string (str ((s.take (runE inW s 0)).drop 0)), .slice At acc.length ct, .int .i64 kv, .int .i64 vv, .int .i64 tv] #[.string (str ((s.take (runE inW s 0)).drop 0)), .slice At acc.length ct, .int .i64 kv, .int .i64 vv, .int .i64 tv] (by kernel_rfl) HB4 (by kernel_rfl) (by kernel_rfl) (fun _ _ => trivial) ?_
             intro w11 HB13 F12 _
             have HB9 := Blk.keep HB9 F12 (ninC (Ne.symm ne_g1_g6) (nin0 _))
             have HN_ge := Blk.keep HN_ge F12 (ninC (Ne.symm ne_g1_ge) (nin0 _))
             have HO_FT := HO_FT.keep F12 (djB nin_g1_FT)
             have HS := var_keep 3 (by kernel_rfl) HS F12 (ninC ne_3_g1 (nin0 _))
             have HR := var_keep 4 (by kernel_rfl) HR F12 (ninC ne_4_g1 (nin0 _))
             have HA := Fr.step HA F12 (inSR ge_HA_g1 inS0)
             refine WO.run 1 2 [(3, .nilIface)] (by kernel_rfl) (by kernel_rfl) ?_
             refine WO.done (by kernel_rfl) ?_
             refine WQ.keep [2, 3] (e' := [(2, .pointer (some ⟨g1, 0, none⟩)), (3, .nilIface)]) (by kernel_rfl) ?_
             refine WQ.thenN ?_
             refine WE.ret ?_
             refine WQ.scR ?_
             refine WQ.ret2 (fn := Tryd.f19) (show Tryd.f19.results = #[.cell 2 25, .tmp 3] by kernel_rfl) (show resOk _ _ _ _ (.agg #[.string (str ((s.take (runE inW s 0)).drop 0)), .slice At acc.length ct, .int .i64 kv, .int .i64 vv, .int .i64 tv]) from ⟨by kernel_rfl, ⟨g1, 0, none⟩, by kernel_rfl, ldVarB [.string (str ((s.take (runE inW s 0)).drop 0)), .slice At acc.length ct, .int .i64 kv, .int .i64 vv, .int .i64 tv] (by kernel_rfl) (by kernel_rfl) (by kernel_rfl) HB13 (by kernel_rfl)⟩) (show resOk _ _ _ _ .nilIface from ⟨by kernel_rfl, by kernel_rfl⟩) ?_
             rw [hps]
             exact ResL.ok (ev := ⟨part s 0, acc, kv, vv, tv⟩) rfl (own_cap HO_FT (List.length_map _)) (VX.of_own HO_FT) ge_HA_FT HA
            ·
             refine WE.region ?_
             refine WO.run 3 0 [(93, .pointer (some ⟨g6, 2, none⟩)), (92, .pointer (some ⟨g6, 0, none⟩)), (91, .pointer (some ⟨g6, 0, none⟩))] (by kernel_rfl) (by kernel_rfl) ?_
             refine WO.ld (SQ.S 3 (by kernel_rfl)) 94 (.int .i64 ((q : Nat) : Int)) (by kernel_rfl) (same (HB9.at 2 (by kernel_rfl))) ?_
             refine WO.one (SQ.F 4 (by kernel_rfl)) 95 (.bool (decide (((q : Int) : Int) ≥ (0 : Int)))) (by kernel_rfl) ?_
             refine WO.topPT (((q : Int) : Int) ≥ (0 : Int)) (by omega) ?_
             refine WO.done (by kernel_rfl) ?_
             refine WQ.keep [2, 3, 4, 5, 95] (e' := [(2, .pointer (some ⟨g1, 0, none⟩)), (3, .nilIface), (4, .pointer (some ⟨g6, 0, none⟩)), (5, .pointer (some ⟨ge, 0, none⟩)), (95, .bool true)]) (by kernel_rfl) ?_
             refine WQ.thenN ?_
             refine WE.condT (by kernel_rfl) ?_
             refine WE.seq ?_
             refine WE.draw [.free, .free, .free, .free, .still, .free, .eff, .free, .effR, .free] (Kp [g6]) (kpR _) (by kernel_rfl) 10 (Array.replicate 10 false) (by kernel_rfl) rfl ?_
             intro w14 F15 _
             have HB4 := Blk.keep HB4 F15 (nin0 _)
             have HB9 := Blk.keep HB9 F15 (nin0 _)
             have HN_ge := Blk.keep HN_ge F15 (nin0 _)
             have HO_FT := HO_FT.keep F15 (fun _ _ => nin0 _)
             have HS := var_keep 3 (by kernel_rfl) HS F15 (nin0 _)
             have HR := var_keep 4 (by kernel_rfl) HR F15 (nin0 _)
             have HA := Fr.step0 HA F15
             refine WO.one (SA.F (kpR _) (kpT _) _ 0 _ (by kernel_rfl)) 96 (.agg #[.string (⟨#[]⟩), .slice none 0 0, .int .i64 0, .int .i64 0, .int .i64 0]) (by kernel_rfl) ?_
             refine WO.one (SA.F (kpR _) (kpT _) _ 1 _ (by kernel_rfl)) 97 (.pointer (some ⟨g6, 0, none⟩)) (by kernel_rfl) ?_
             refine WO.one (SA.F (kpR _) (kpT _) _ 2 _ (by kernel_rfl)) 98 (.pointer (some ⟨g6, 0, none⟩)) (by kernel_rfl) ?_
             refine WO.one (SA.F (kpR _) (kpT _) _ 3 _ (by kernel_rfl)) 99 (.pointer (some ⟨g6, 2, none⟩)) (by kernel_rfl) ?_
             refine WO.ld (SA.S (kpR _) (kpT _) _ 4 _ (by kernel_rfl)) 100 (.int .i64 ((q : Nat) : Int)) (by kernel_rfl) (fun _ k => (HB9.kp k (by simp)).at 2 (by kernel_rfl)) ?_
             refine WO.one (SA.F (kpR _) (kpT _) _ 5 _ (by kernel_rfl)) 101 (.agg #[.int .i64 ((q : Nat) : Int), .int .i64 2]) (by kernel_rfl) ?_
             refine WO.toX ?_
             refine WO.fork2 6 8 (by kernel_rfl) ?_ ?_
             ·
              refine WO.bx (SAx.now _ 6 _ (by kernel_rfl) rfl) 102 #[.int .i64 ((q : Nat) : Int), .int .i64 2] 69 (fun g => .pointer (some ⟨g, 0, none⟩)) (by kernel_rfl) (fun _ _ => trivial) ?_
              intro g16 w17 HB19 F18 le20 _
              have ne_g1_g16 : g1 ≠ g16 := Nat.ne_of_lt (Nat.lt_of_lt_of_le HB4.lt le20)
              have ne_g6_g16 : g6 ≠ g16 := Nat.ne_of_lt (Nat.lt_of_lt_of_le HB9.lt le20)
              have ne_ge_g16 : ge ≠ g16 := Nat.ne_of_lt (Nat.lt_of_lt_of_le HN_ge.lt le20)
              have nin_g16_FT : g16 ∉ FT := new_nin HO_FT.lt le20
              have ne_3_g16 : 3 ≠ g16 := Nat.ne_of_lt (Nat.lt_of_lt_of_le (var_lt 3 (by kernel_rfl) HS) le20)
              have ne_4_g16 : 4 ≠ g16 := Nat.ne_of_lt (Nat.lt_of_lt_of_le (var_lt 4 (by kernel_rfl) HR) le20)
              have ge_HA_g16 := Nat.le_trans HA.size le20
              have HB4 := Blk.keep HB4 F18 (nin0 _)
              have HB9 := Blk.keep HB9 F18 (nin0 _)
              have HN_ge := Blk.keep HN_ge F18 (nin0 _)
              have HO_FT := HO_FT.keep F18 (fun _ _ => nin0 _)
              have HS := var_keep 3 (by kernel_rfl) HS F18 (nin0 _)
              have HR := var_keep 4 (by kernel_rfl) HR F18 (nin0 _)
              have HA := Fr.step0 HA F18
              refine WO.one (SAx.F (SA.F (kpR _) (kpT _) _ 7 _ (by kernel_rfl))) 103 (.iface 67 (.pointer (some ⟨g16, 0, none⟩))) (by kernel_rfl) ?_
              refine WO.st (SAx.E (SA.ER _ 8 _ (by kernel_rfl) rfl)) g1 0 [.string (⟨#[]⟩), .slice none 0 0, .int .i64 0, .int .i64 0, .int .i64 0] #[.string (⟨#[]⟩), .slice none 0 0, .int .i64 0, .int .i64 0, .int .i64 0] (by kernel_rfl) HB4 (by kernel_rfl) (by kernel_rfl) (kp_of (kpC HB9.lt (ninC (Ne.symm ne_g1_g6) (nin0 _)) kp0)) ?_
              intro w21 HB23 F22 _
              have HB9 := Blk.keep HB9 F22 (ninC (Ne.symm ne_g1_g6) (nin0 _))
              have HN_ge := Blk.keep HN_ge F22 (ninC (Ne.symm ne_g1_ge) (nin0 _))
              have HB19 := Blk.keep HB19 F22 (ninC (Ne.symm ne_g1_g16) (nin0 _))
              have HO_FT := HO_FT.keep F22 (djB nin_g1_FT)
              have HS := var_keep 3 (by kernel_rfl) HS F22 (ninC ne_3_g1 (nin0 _))
              have HR := var_keep 4 (by kernel_rfl) HR F22 (ninC ne_4_g1 (nin0 _))
              have HA := Fr.step HA F22 (inSR ge_HA_g1 inS0)
              refine WO.one (SAx.F (SA.F (kpR _) (kpT _) _ 9 _ (by kernel_rfl))) 3 (.iface 67 (.pointer (some ⟨g16, 0, none⟩))) (by kernel_rfl) ?_
              refine WO.doneX (by kernel_rfl) ?_
              refine WQ.keep [2, 3, 4, 5, 95] (e' := [(2, .pointer (some ⟨g1, 0, none⟩)), (3, .iface 67 (.pointer (some ⟨g16, 0, none⟩))), (4, .pointer (some ⟨g6, 0, none⟩)), (5, .pointer (some ⟨ge, 0, none⟩)), (95, .bool true)]) (by kernel_rfl) ?_
              refine WQ.thenN ?_
              refine WE.ret ?_
              refine WQ.thenR ?_
              refine WQ.scR ?_
              refine WQ.ret2 (fn := Tryd.f19) (show Tryd.f19.results = #[.cell 2 25, .tmp 3] by kernel_rfl) (show resOk _ _ _ _ (.agg #[.string (⟨#[]⟩), .slice none 0 0, .int .i64 0, .int .i64 0, .int .i64 0]) from ⟨by kernel_rfl, ⟨g1, 0, none⟩, by kernel_rfl, ldVarB [.string (⟨#[]⟩), .slice none 0 0, .int .i64 0, .int .i64 0, .int .i64 0] (by kernel_rfl) (by kernel_rfl) (by kernel_rfl) HB23 (by kernel_rfl)⟩) (show resOk _ _ _ _ (.iface 67 (.pointer (some ⟨g16, 0, none⟩))) from ⟨by kernel_rfl, by kernel_rfl⟩) ?_
              rw [hps]
              exact ResL.fail HB19 ge_HA_g16 HA
             ·
              refine WO.st (SAx.nowR _ 8 _ (by kernel_rfl) rfl) g1 0 [.string (⟨#[]⟩), .slice none 0 0, .int .i64 0, .int .i64 0, .int .i64 0] #[.string (⟨#[]⟩), .slice none 0 0, .int .i64 0, .int .i64 0, .int .i64 0] (by kernel_rfl) HB4 (by kernel_rfl) (by kernel_rfl) (kp_of (kpC HB9.lt (ninC (Ne.symm ne_g1_g6) (nin0 _)) kp0)) ?_
              intro w24 HB26 F25 _
              have HB9 := Blk.keep HB9 F25 (ninC (Ne.symm ne_g1_g6) (nin0 _))
              have HN_ge := Blk.keep HN_ge F25 (ninC (Ne.symm ne_g1_ge) (nin0 _))
              have HO_FT := HO_FT.keep F25 (djB nin_g1_FT)
              have HS := var_keep 3 (by kernel_rfl) HS F25 (ninC ne_3_g1 (nin0 _))
              have HR := var_keep 4 (by kernel_rfl) HR F25 (ninC ne_4_g1 (nin0 _))
              have HA := Fr.step HA F25 (inSR ge_HA_g1 inS0)
              refine WO.bx (SAx.E (SA.E _ 6 _ (by kernel_rfl) rfl)) 102 #[.int .i64 ((q : Nat) : Int), .int .i64 2] 69 (fun g => .pointer (some ⟨g, 0, none⟩)) (by kernel_rfl) (fun _ _ => trivial) ?_
              intro g27 w28 HB30 F29 le31 _
              have ne_g6_g27 : g6 ≠ g27 := Nat.ne_of_lt (Nat.lt_of_lt_of_le HB9.lt le31)
              have ne_ge_g27 : ge ≠ g27 := Nat.ne_of_lt (Nat.lt_of_lt_of_le HN_ge.lt le31)
              have ne_g1_g27 : g1 ≠ g27 := Nat.ne_of_lt (Nat.lt_of_lt_of_le HB26.lt le31)
              have nin_g27_FT : g27 ∉ FT := new_nin HO_FT.lt le31
              have ne_3_g27 : 3 ≠ g27 := Nat.ne_of_lt (Nat.lt_of_lt_of_le (var_lt 3 (by kernel_rfl) HS) le31)
              have ne_4_g27 : 4 ≠ g27 := Nat.ne_of_lt (Nat.lt_of_lt_of_le (var_lt 4 (by kernel_rfl) HR) le31)
              have ge_HA_g27 := Nat.le_trans HA.size le31
              have HB9 := Blk.keep HB9 F29 (nin0 _)
              have HN_ge := Blk.keep HN_ge F29 (nin0 _)
              have HB26 := Blk.keep HB26 F29 (nin0 _)
              have HO_FT := HO_FT.keep F29 (fun _ _ => nin0 _)
              have HS := var_keep 3 (by kernel_rfl) HS F29 (nin0 _)
              have HR := var_keep 4 (by kernel_rfl) HR F29 (nin0 _)
              have HA := Fr.step0 HA F29
              refine WO.one (SAx.F (SA.F (kpR _) (kpT _) _ 7 _ (by kernel_rfl))) 103 (.iface 67 (.pointer (some ⟨g27, 0, none⟩))) (by kernel_rfl) ?_
              refine WO.one (SAx.F (SA.F (kpR _) (kpT _) _ 9 _ (by kernel_rfl))) 3 (.iface 67 (.pointer (some ⟨g27, 0, none⟩))) (by kernel_rfl) ?_
              refine WO.doneX (by kernel_rfl) ?_
              refine WQ.keep [2, 3, 4, 5, 95] (e' := [(2, .pointer (some ⟨g1, 0, none⟩)), (3, .iface 67 (.pointer (some ⟨g27, 0, none⟩))), (4, .pointer (some ⟨g6, 0, none⟩)), (5, .pointer (some ⟨ge, 0, none⟩)), (95, .bool true)]) (by kernel_rfl) ?_
              refine WQ.thenN ?_
              refine WE.ret ?_
              refine WQ.thenR ?_
              refine WQ.scR ?_
              refine WQ.ret2 (fn := Tryd.f19) (show Tryd.f19.results = #[.cell 2 25, .tmp 3] by kernel_rfl) (show resOk _ _ _ _ (.agg #[.string (⟨#[]⟩), .slice none 0 0, .int .i64 0, .int .i64 0, .int .i64 0]) from ⟨by kernel_rfl, ⟨g1, 0, none⟩, by kernel_rfl, ldVarB [.string (⟨#[]⟩), .slice none 0 0, .int .i64 0, .int .i64 0, .int .i64 0] (by kernel_rfl) (by kernel_rfl) (by kernel_rfl) HB26 (by kernel_rfl)⟩) (show resOk _ _ _ _ (.iface 67 (.pointer (some ⟨g27, 0, none⟩))) from ⟨by kernel_rfl, by kernel_rfl⟩) ?_
              rw [hps]
              exact ResL.fail HB30 ge_HA_g27 HA
           refine WE.seq ?_
           rcases hst with ⟨rfl, hps⟩ | ⟨q, rfl, hps⟩
           ·
            refine WE.region ?_
            refine WO.run 3 0 [(80, .pointer (some ⟨g6, 1, none⟩)), (79, .pointer (some ⟨g6, 0, none⟩)), (78, .pointer (some ⟨g6, 0, none⟩))] (by kernel_rfl) (by kernel_rfl) ?_
            refine WO.ld (SQ.S 3 (by kernel_rfl)) 81 (.int .i64 (p : Int)) (by kernel_rfl) (same (HB9.at 1 (by kernel_rfl))) ?_
            refine WO.run 2 4 [(83, .int .i64 (s.length : Int)), (82, .string (str s))] (by kernel_rfl) (by kernel_rfl) ?_
            refine WO.one (SQ.F 6 (by kernel_rfl)) 84 (.bool (decide (((p : Int) : Int) < (s.length : Int)))) (by kernel_rfl) ?_
            refine WO.topP (((p : Int) : Int) < (s.length : Int)) ?_ ?_
            ·
             intro h32
             refine WO.done (by kernel_rfl) ?_
             refine WQ.keep [2, 3, 4, 5, 84] (e' := [(2, .pointer (some ⟨g1, 0, none⟩)), (3, .nilIface), (4, .pointer (some ⟨g6, 0, none⟩)), (5, .pointer (some ⟨ge, 0, none⟩)), (84, .bool true)]) (by kernel_rfl) ?_
             refine WQ.thenN ?_
             refine WE.condT (by kernel_rfl) ?_
             have hps : parseP s = .inr (p) := hps.trans (if_pos (by omega))
             refine WE.region ?_
             refine WO.run 4 0 [(88, .pointer (some ⟨g6, 1, none⟩)), (87, .pointer (some ⟨g6, 0, none⟩)), (86, .pointer (some ⟨g6, 0, none⟩)), (85, .pointer (some ⟨g6, 0, none⟩))] (by kernel_rfl) (by kernel_rfl) ?_
             refine WO.ld (SQ.S 4 (by kernel_rfl)) 89 (.int .i64 (p : Int)) (by kernel_rfl) (same (HB9.at 1 (by kernel_rfl))) ?_
             refine WO.call (SQ.E 5 (by kernel_rfl)) 90 (by kernel_rfl) (fail_ok g6 s p _ (by omega) (by omega) (p : Int) HB9) ?_
             rintro _ w33 ⟨rfl, HB35, F34⟩
             refine ⟨_, rfl, trivial, ?_⟩
             have HB4 := Blk.keep HB4 F34 (ninC ne_g1_g6 (nin0 _))
             have HN_ge := Blk.keep HN_ge F34 (ninC (Ne.symm ne_g6_ge) (nin0 _))
             have HO_FT := HO_FT.keep F34 (djB nin_g6_FT)
             have HS := var_keep 3 (by kernel_rfl) HS F34 (ninC ne_3_g6 (nin0 _))
             have HR := var_keep 4 (by kernel_rfl) HR F34 (ninC ne_4_g6 (nin0 _))
             have HA := Fr.step HA F34 (inSR ge_HA_g6 inS0)
             refine WO.done (by kernel_rfl) ?_
             refine WQ.keep [2, 3, 4, 5] (e' := [(2, .pointer (some ⟨g1, 0, none⟩)), (3, .nilIface), (4, .pointer (some ⟨g6, 0, none⟩)), (5, .pointer (some ⟨ge, 0, none⟩))]) (by kernel_rfl) ?_
             refine WQ.round ?_
             intro a_ ha_
             refine ⟨(p, (p : Int)), ha_.keep [2, 3, 4, 5] (by kernel_rfl), ?_⟩
             exact ⟨(.inr ⟨_, rfl, hps⟩), by omega, HB4, HB35, HN_ge, HO_FT, HS, HR, HA⟩
            intro h32
            refine WO.done (by kernel_rfl) ?_
            refine WQ.keep [2, 3, 4, 5, 84] (e' := [(2, .pointer (some ⟨g1, 0, none⟩)), (3, .nilIface), (4, .pointer (some ⟨g6, 0, none⟩)), (5, .pointer (some ⟨ge, 0, none⟩)), (84, .bool false)]) (by kernel_rfl) ?_
            refine WQ.thenN ?_
            refine WE.condF (by kernel_rfl) ?_
            refine WE.skip ?_
            have hps : parseP s = .inl ⟨part s 0, acc, kv, vv, tv⟩ := hps.trans (if_neg (by omega))
            refine WQ.round ?_
            intro a_ ha_
            refine ⟨(p, -1), ha_.keep [2, 3, 4, 5] (by kernel_rfl), ?_⟩
            exact ⟨(.inl ⟨rfl, hps⟩), by omega, HB4, HB9, HN_ge, HO_FT, HS, HR, HA⟩
           ·
            refine WE.region ?_
            refine WO.run 3 0 [(80, .pointer (some ⟨g6, 1, none⟩)), (79, .pointer (some ⟨g6, 0, none⟩)), (78, .pointer (some ⟨g6, 0, none⟩))] (by kernel_rfl) (by kernel_rfl) ?_
            refine WO.ld (SQ.S 3 (by kernel_rfl)) 81 (.int .i64 (p : Int)) (by kernel_rfl) (same (HB9.at 1 (by kernel_rfl))) ?_
            refine WO.run 2 4 [(83, .int .i64 (s.length : Int)), (82, .string (str s))] (by kernel_rfl) (by kernel_rfl) ?_
            refine WO.one (SQ.F 6 (by kernel_rfl)) 84 (.bool (decide (((p : Int) : Int) < (s.length : Int)))) (by kernel_rfl) ?_
            refine WO.topP (((p : Int) : Int) < (s.length : Int)) ?_ ?_
            ·
             intro h36
             refine WO.done (by kernel_rfl) ?_
             refine WQ.keep [2, 3, 4, 5, 84] (e' := [(2, .pointer (some ⟨g1, 0, none⟩)), (3, .nilIface), (4, .pointer (some ⟨g6, 0, none⟩)), (5, .pointer (some ⟨ge, 0, none⟩)), (84, .bool true)]) (by kernel_rfl) ?_
             refine WQ.thenN ?_
             refine WE.condT (by kernel_rfl) ?_
             refine WE.region ?_
             refine WO.run 4 0 [(88, .pointer (some ⟨g6, 1, none⟩)), (87, .pointer (some ⟨g6, 0, none⟩)), (86, .pointer (some ⟨g6, 0, none⟩)), (85, .pointer (some ⟨g6, 0, none⟩))] (by kernel_rfl) (by kernel_rfl) ?_
             refine WO.ld (SQ.S 4 (by kernel_rfl)) 89 (.int .i64 (p : Int)) (by kernel_rfl) (same (HB9.at 1 (by kernel_rfl))) ?_
             refine WO.call (SQ.E 5 (by kernel_rfl)) 90 (by kernel_rfl) (fail_bad g6 s p ((q : Nat) : Int) _ (by omega) (by omega) (by omega) (p : Int) HB9) ?_
             rintro _ w37 ⟨rfl, HB39, F38⟩
             refine ⟨_, rfl, trivial, ?_⟩
             have HB4 := Blk.keep HB4 F38 (ninC ne_g1_g6 (nin0 _))
             have HN_ge := Blk.keep HN_ge F38 (ninC (Ne.symm ne_g6_ge) (nin0 _))
             have HO_FT := HO_FT.keep F38 (djB nin_g6_FT)
             have HS := var_keep 3 (by kernel_rfl) HS F38 (ninC ne_3_g6 (nin0 _))
             have HR := var_keep 4 (by kernel_rfl) HR F38 (ninC ne_4_g6 (nin0 _))
             have HA := Fr.step HA F38 (inSR ge_HA_g6 inS0)
             refine WO.done (by kernel_rfl) ?_
             refine WQ.keep [2, 3, 4, 5] (e' := [(2, .pointer (some ⟨g1, 0, none⟩)), (3, .nilIface), (4, .pointer (some ⟨g6, 0, none⟩)), (5, .pointer (some ⟨ge, 0, none⟩))]) (by kernel_rfl) ?_
             refine WQ.round ?_
             intro a_ ha_
             refine ⟨(p, ((q : Nat) : Int)), ha_.keep [2, 3, 4, 5] (by kernel_rfl), ?_⟩
             exact ⟨(.inr ⟨_, rfl, hps⟩), by omega, HB4, HB39, HN_ge, HO_FT, HS, HR, HA⟩
            intro h36
            refine WO.done (by kernel_rfl) ?_
            refine WQ.keep [2, 3, 4, 5, 84] (e' := [(2, .pointer (some ⟨g1, 0, none⟩)), (3, .nilIface), (4, .pointer (some ⟨g6, 0, none⟩)), (5, .pointer (some ⟨ge, 0, none⟩)), (84, .bool false)]) (by kernel_rfl) ?_
            refine WQ.thenN ?_
            refine WE.condF (by kernel_rfl) ?_
            refine WE.skip ?_
            refine WQ.round ?_
            intro a_ ha_
            refine ⟨(p, ((q : Nat) : Int)), ha_.keep [2, 3, 4, 5] (by kernel_rfl), ?_⟩
            exact ⟨(.inr ⟨_, rfl, hps⟩), by omega, HB4, HB9, HN_ge, HO_FT, HS, HR, HA⟩
          rcases hst with ⟨rfl, hps⟩ | ⟨q, rfl, hps⟩
          ·
           refine WE.region ?_
           refine WO.run 1 0 [(75, .pointer (some ⟨g6, 0, none⟩))] (by kernel_rfl) (by kernel_rfl) ?_
           have he1 := numE_ge s p
           have he2 := numE_le (show p ≤ s.length by omega)
           cases hv40 : numP s p 0 1099511627776
           ·
            refine WO.call (SQ.E 1 (by kernel_rfl)) 76 (by kernel_rfl) (number_none g6 s p 0 1099511627776 _ (by omega) (by omega) HS HR ne_3_g6 ne_4_g6 hv40 HB9) ?_
            rintro _ w42 ⟨rfl, HB44, F43⟩
            refine ⟨_, rfl, trivial, ?_⟩
            have HB4 := Blk.keep HB4 F43 (ninC ne_g1_g6 (nin0 _))
            have HN_ge := Blk.keep HN_ge F43 (ninC (Ne.symm ne_g6_ge) (nin0 _))
            have HO_FT := HO_FT.keep F43 (djB nin_g6_FT)
            have HS := var_keep 3 (by kernel_rfl) HS F43 (ninC ne_3_g6 (nin0 _))
            have HR := var_keep 4 (by kernel_rfl) HR F43 (ninC ne_4_g6 (nin0 _))
            have HA := Fr.step HA F43 (inSR ge_HA_g6 inS0)
            rw [hv40] at hps
            have hps : parseP s = .inr (p) := hps
            refine WO.run 1 2 [(77, .pointer (some ⟨ge, 4, none⟩))] (by kernel_rfl) (by kernel_rfl) ?_
            refine WO.st (SQ.E 3 (by kernel_rfl)) ge 4 [.int .i64 0] #[.string (str ((s.take (runE inW s 0)).drop 0)), .slice At acc.length ct, .int .i64 kv, .int .i64 vv, .int .i64 0] (by kernel_rfl) HN_ge (by kernel_rfl) (by kernel_rfl) (fun _ _ => trivial) ?_
            intro w45 HB47 F46 _
            have HB4 := Blk.keep HB4 F46 (ninC ne_g1_ge (nin0 _))
            have HB44 := Blk.keep HB44 F46 (ninC ne_g6_ge (nin0 _))
            have HO_FT := HO_FT.keep F46 (djB nin_ge_FT)
            have HS := var_keep 3 (by kernel_rfl) HS F46 (ninC ne_3_ge (nin0 _))
            have HR := var_keep 4 (by kernel_rfl) HR F46 (ninC ne_4_ge (nin0 _))
            have HA := Fr.step HA F46 (inSR ge_HA_ge inS0)
            refine WO.done (by kernel_rfl) ?_
            refine WQ.keep [0, 2, 3, 4, 5] (e' := [(0, .string (str s)), (2, .pointer (some ⟨g1, 0, none⟩)), (3, .nilIface), (4, .pointer (some ⟨g6, 0, none⟩)), (5, .pointer (some ⟨ge, 0, none⟩))]) (by kernel_rfl) ?_
            refine WQ.round ?_
            intro a_ ha_
            refine ⟨(numE s p, (p : Int), 0), ha_.keep [0, 2, 3, 4, 5] (by kernel_rfl), ?_⟩
            exact ⟨(.inr ⟨_, rfl, hps⟩), by omega, HB4, HB44, HB47, HO_FT, HS, HR, HA⟩
           ·
            rename_i v48
            refine WO.call (SQ.E 1 (by kernel_rfl)) 76 (by kernel_rfl) (number_some g6 s p 0 1099511627776 v48 _ (by omega) (by omega) HS HR ne_3_g6 ne_4_g6 hv40 HB9) ?_
            rintro _ w49 ⟨rfl, HB51, F50⟩
            refine ⟨_, rfl, trivial, ?_⟩
            have HB4 := Blk.keep HB4 F50 (ninC ne_g1_g6 (nin0 _))
            have HN_ge := Blk.keep HN_ge F50 (ninC (Ne.symm ne_g6_ge) (nin0 _))
            have HO_FT := HO_FT.keep F50 (djB nin_g6_FT)
            have HS := var_keep 3 (by kernel_rfl) HS F50 (ninC ne_3_g6 (nin0 _))
            have HR := var_keep 4 (by kernel_rfl) HR F50 (ninC ne_4_g6 (nin0 _))
            have HA := Fr.step HA F50 (inSR ge_HA_g6 inS0)
            rw [hv40] at hps
            refine WO.run 1 2 [(77, .pointer (some ⟨ge, 4, none⟩))] (by kernel_rfl) (by kernel_rfl) ?_
            refine WO.st (SQ.E 3 (by kernel_rfl)) ge 4 [.int .i64 v48] #[.string (str ((s.take (runE inW s 0)).drop 0)), .slice At acc.length ct, .int .i64 kv, .int .i64 vv, .int .i64 v48] (by kernel_rfl) HN_ge (by kernel_rfl) (by kernel_rfl) (fun _ _ => trivial) ?_
            intro w52 HB54 F53 _
            have HB4 := Blk.keep HB4 F53 (ninC ne_g1_ge (nin0 _))
            have HB51 := Blk.keep HB51 F53 (ninC ne_g6_ge (nin0 _))
            have HO_FT := HO_FT.keep F53 (djB nin_ge_FT)
            have HS := var_keep 3 (by kernel_rfl) HS F53 (ninC ne_3_ge (nin0 _))
            have HR := var_keep 4 (by kernel_rfl) HR F53 (ninC ne_4_ge (nin0 _))
            have HA := Fr.step HA F53 (inSR ge_HA_ge inS0)
            refine WO.done (by kernel_rfl) ?_
            refine WQ.keep [0, 2, 3, 4, 5] (e' := [(0, .string (str s)), (2, .pointer (some ⟨g1, 0, none⟩)), (3, .nilIface), (4, .pointer (some ⟨g6, 0, none⟩)), (5, .pointer (some ⟨ge, 0, none⟩))]) (by kernel_rfl) ?_
            refine WQ.round ?_
            intro a_ ha_
            refine ⟨(numE s p, -1, v48), ha_.keep [0, 2, 3, 4, 5] (by kernel_rfl), ?_⟩
            exact ⟨(.inl ⟨rfl, hps⟩), by omega, HB4, HB51, HB54, HO_FT, HS, HR, HA⟩
          ·
           refine WE.region ?_
           refine WO.run 1 0 [(75, .pointer (some ⟨g6, 0, none⟩))] (by kernel_rfl) (by kernel_rfl) ?_
           refine WO.call (SQ.E 1 (by kernel_rfl)) 76 (by kernel_rfl) (number_bad g6 s p ((q : Nat) : Int) _ (by omega) (by omega) (by omega) 0 1099511627776 HS ne_3_g6 HB9) ?_
           rintro _ w56 ⟨rfl, HB58, F57⟩
           refine ⟨_, rfl, trivial, ?_⟩
           have HB4 := Blk.keep HB4 F57 (ninC ne_g1_g6 (nin0 _))
           have HN_ge := Blk.keep HN_ge F57 (ninC (Ne.symm ne_g6_ge) (nin0 _))
           have HO_FT := HO_FT.keep F57 (djB nin_g6_FT)
           have HS := var_keep 3 (by kernel_rfl) HS F57 (ninC ne_3_g6 (nin0 _))
           have HR := var_keep 4 (by kernel_rfl) HR F57 (ninC ne_4_g6 (nin0 _))
           have HA := Fr.step HA F57 (inSR ge_HA_g6 inS0)
           refine WO.run 1 2 [(77, .pointer (some ⟨ge, 4, none⟩))] (by kernel_rfl) (by kernel_rfl) ?_
           refine WO.st (SQ.E 3 (by kernel_rfl)) ge 4 [.int .i64 0] #[.string (str ((s.take (runE inW s 0)).drop 0)), .slice At acc.length ct, .int .i64 kv, .int .i64 vv, .int .i64 0] (by kernel_rfl) HN_ge (by kernel_rfl) (by kernel_rfl) (fun _ _ => trivial) ?_
           intro w59 HB61 F60 _
           have HB4 := Blk.keep HB4 F60 (ninC ne_g1_ge (nin0 _))
           have HB58 := Blk.keep HB58 F60 (ninC ne_g6_ge (nin0 _))
           have HO_FT := HO_FT.keep F60 (djB nin_ge_FT)
           have HS := var_keep 3 (by kernel_rfl) HS F60 (ninC ne_3_ge (nin0 _))
           have HR := var_keep 4 (by kernel_rfl) HR F60 (ninC ne_4_ge (nin0 _))
           have HA := Fr.step HA F60 (inSR ge_HA_ge inS0)
           refine WO.done (by kernel_rfl) ?_
           refine WQ.keep [0, 2, 3, 4, 5] (e' := [(0, .string (str s)), (2, .pointer (some ⟨g1, 0, none⟩)), (3, .nilIface), (4, .pointer (some ⟨g6, 0, none⟩)), (5, .pointer (some ⟨ge, 0, none⟩))]) (by kernel_rfl) ?_
           refine WQ.round ?_
           intro a_ ha_
           refine ⟨(p, ((q : Nat) : Int), 0), ha_.keep [0, 2, 3, 4, 5] (by kernel_rfl), ?_⟩
           exact ⟨(.inr ⟨_, rfl, hps⟩), by omega, HB4, HB58, HB61, HO_FT, HS, HR, HA⟩
         rcases hst with ⟨rfl, hps⟩ | ⟨q, rfl, hps⟩
         ·
          refine WE.region ?_
          refine WO.run 1 0 [(73, .pointer (some ⟨g6, 0, none⟩))] (by kernel_rfl) (by kernel_rfl) ?_
          rcases Decidable.em (isAt s p 32) with hA62 | hA62
          ·
           have hlt_ := hA62.1
           refine WO.call (SQ.E 1 (by kernel_rfl)) 74 (by kernel_rfl) (sign_yes g6 s p _ (by omega) (by omega) 32 hA62.1 (u8_of (by decide) hA62.2) HB9) ?_
           rintro _ w63 ⟨rfl, HB65, F64⟩
           refine ⟨_, rfl, trivial, ?_⟩
           have HB4 := Blk.keep HB4 F64 (ninC ne_g1_g6 (nin0 _))
           have HN_ge := Blk.keep HN_ge F64 (ninC (Ne.symm ne_g6_ge) (nin0 _))
           have HO_FT := HO_FT.keep F64 (djB nin_g6_FT)
           have HS := var_keep 3 (by kernel_rfl) HS F64 (ninC ne_3_g6 (nin0 _))
           have HR := var_keep 4 (by kernel_rfl) HR F64 (ninC ne_4_g6 (nin0 _))
           have HA := Fr.step HA F64 (inSR ge_HA_g6 inS0)
           have hps := hps.trans (sq_2 hA62)
           refine WO.done (by kernel_rfl) ?_
           refine WQ.keep [0, 2, 3, 4, 5] (e' := [(0, .string (str s)), (2, .pointer (some ⟨g1, 0, none⟩)), (3, .nilIface), (4, .pointer (some ⟨g6, 0, none⟩)), (5, .pointer (some ⟨ge, 0, none⟩))]) (by kernel_rfl) ?_
           refine WQ.round ?_
           intro a_ ha_
           refine ⟨(p + 1, -1), ha_.keep [0, 2, 3, 4, 5] (by kernel_rfl), ?_⟩
           exact ⟨(.inl ⟨rfl, hps⟩), by omega, HB4, HB65, HN_ge, HO_FT, HS, HR, HA⟩
          ·
           refine WO.call (SQ.E 1 (by kernel_rfl)) 74 (by kernel_rfl) (sign_no g6 s p _ (by omega) (by omega) 32 (fun h_ => hA62 ⟨h_.1, by rw [h_.2]; rfl⟩) HB9) ?_
           rintro _ w66 ⟨rfl, HB68, F67⟩
           refine ⟨_, rfl, trivial, ?_⟩
           have HB4 := Blk.keep HB4 F67 (ninC ne_g1_g6 (nin0 _))
           have HN_ge := Blk.keep HN_ge F67 (ninC (Ne.symm ne_g6_ge) (nin0 _))
           have HO_FT := HO_FT.keep F67 (djB nin_g6_FT)
           have HS := var_keep 3 (by kernel_rfl) HS F67 (ninC ne_3_g6 (nin0 _))
           have HR := var_keep 4 (by kernel_rfl) HR F67 (ninC ne_4_g6 (nin0 _))
           have HA := Fr.step HA F67 (inSR ge_HA_g6 inS0)
           have hps : parseP s = .inr (p) := hps.trans (sq_1 hA62)
           refine WO.done (by kernel_rfl) ?_
           refine WQ.keep [0, 2, 3, 4, 5] (e' := [(0, .string (str s)), (2, .pointer (some ⟨g1, 0, none⟩)), (3, .nilIface), (4, .pointer (some ⟨g6, 0, none⟩)), (5, .pointer (some ⟨ge, 0, none⟩))]) (by kernel_rfl) ?_
           refine WQ.round ?_
           intro a_ ha_
           refine ⟨(p, (p : Int)), ha_.keep [0, 2, 3, 4, 5] (by kernel_rfl), ?_⟩
           exact ⟨(.inr ⟨_, rfl, hps⟩), by omega, HB4, HB68, HN_ge, HO_FT, HS, HR, HA⟩
         ·
          refine WE.region ?_
          refine WO.run 1 0 [(73, .pointer (some ⟨g6, 0, none⟩))] (by kernel_rfl) (by kernel_rfl) ?_
          refine WO.call (SQ.E 1 (by kernel_rfl)) 74 (by kernel_rfl) (sign_bad g6 s p ((q : Nat) : Int) _ (by omega) (by omega) (by omega) 32 HB9) ?_
          rintro _ w69 ⟨rfl, HB71, F70⟩
          refine ⟨_, rfl, trivial, ?_⟩
          have HB4 := Blk.keep HB4 F70 (ninC ne_g1_g6 (nin0 _))
          have HN_ge := Blk.keep HN_ge F70 (ninC (Ne.symm ne_g6_ge) (nin0 _))
          have HO_FT := HO_FT.keep F70 (djB nin_g6_FT)
          have HS := var_keep 3 (by kernel_rfl) HS F70 (ninC ne_3_g6 (nin0 _))
          have HR := var_keep 4 (by kernel_rfl) HR F70 (ninC ne_4_g6 (nin0 _))
          have HA := Fr.step HA F70 (inSR ge_HA_g6 inS0)
          refine WO.done (by kernel_rfl) ?_
          refine WQ.keep [0, 2, 3, 4, 5] (e' := [(0, .string (str s)), (2, .pointer (some ⟨g1, 0, none⟩)), (3, .nilIface), (4, .pointer (some ⟨g6, 0, none⟩)), (5, .pointer (some ⟨ge, 0, none⟩))]) (by kernel_rfl) ?_
          refine WQ.round ?_
          intro a_ ha_
          refine ⟨(p, ((q : Nat) : Int)), ha_.keep [0, 2, 3, 4, 5] (by kernel_rfl), ?_⟩
          exact ⟨(.inr ⟨_, rfl, hps⟩), by omega, HB4, HB71, HN_ge, HO_FT, HS, HR, HA⟩
        rcases hst with ⟨rfl, hps⟩ | ⟨q, rfl, hps⟩
        ·
         refine WE.region ?_
         refine WO.run 1 0 [(70, .pointer (some ⟨g6, 0, none⟩))] (by kernel_rfl) (by kernel_rfl) ?_
         have he1 := numE_ge s p
         have he2 := numE_le (show p ≤ s.length by omega)
         cases hv72 : numP s p (-9223372036854775808) 9223372036854775807
         ·
          refine WO.call (SQ.E 1 (by kernel_rfl)) 71 (by kernel_rfl) (number_none g6 s p (-9223372036854775808) 9223372036854775807 _ (by omega) (by omega) HS HR ne_3_g6 ne_4_g6 hv72 HB9) ?_
          rintro _ w74 ⟨rfl, HB76, F75⟩
          refine ⟨_, rfl, trivial, ?_⟩
          have HB4 := Blk.keep HB4 F75 (ninC ne_g1_g6 (nin0 _))
          have HN_ge := Blk.keep HN_ge F75 (ninC (Ne.symm ne_g6_ge) (nin0 _))
          have HO_FT := HO_FT.keep F75 (djB nin_g6_FT)
          have HS := var_keep 3 (by kernel_rfl) HS F75 (ninC ne_3_g6 (nin0 _))
          have HR := var_keep 4 (by kernel_rfl) HR F75 (ninC ne_4_g6 (nin0 _))
          have HA := Fr.step HA F75 (inSR ge_HA_g6 inS0)
          rw [hv72] at hps
          have hps : parseP s = .inr (p) := hps
          refine WO.run 1 2 [(72, .pointer (some ⟨ge, 3, none⟩))] (by kernel_rfl) (by kernel_rfl) ?_
          refine WO.st (SQ.E 3 (by kernel_rfl)) ge 3 [.int .i64 0] #[.string (str ((s.take (runE inW s 0)).drop 0)), .slice At acc.length ct, .int .i64 kv, .int .i64 0, .int .i64 0] (by kernel_rfl) HN_ge (by kernel_rfl) (by kernel_rfl) (fun _ _ => trivial) ?_
          intro w77 HB79 F78 _
          have HB4 := Blk.keep HB4 F78 (ninC ne_g1_ge (nin0 _))
          have HB76 := Blk.keep HB76 F78 (ninC ne_g6_ge (nin0 _))
          have HO_FT := HO_FT.keep F78 (djB nin_ge_FT)
          have HS := var_keep 3 (by kernel_rfl) HS F78 (ninC ne_3_ge (nin0 _))
          have HR := var_keep 4 (by kernel_rfl) HR F78 (ninC ne_4_ge (nin0 _))
          have HA := Fr.step HA F78 (inSR ge_HA_ge inS0)
          refine WO.done (by kernel_rfl) ?_
          refine WQ.keep [0, 2, 3, 4, 5] (e' := [(0, .string (str s)), (2, .pointer (some ⟨g1, 0, none⟩)), (3, .nilIface), (4, .pointer (some ⟨g6, 0, none⟩)), (5, .pointer (some ⟨ge, 0, none⟩))]) (by kernel_rfl) ?_
          refine WQ.round ?_
          intro a_ ha_
          refine ⟨(numE s p, (p : Int), 0), ha_.keep [0, 2, 3, 4, 5] (by kernel_rfl), ?_⟩
          exact ⟨(.inr ⟨_, rfl, hps⟩), by omega, HB4, HB76, HB79, HO_FT, HS, HR, HA⟩
         ·
          rename_i v80
          refine WO.call (SQ.E 1 (by kernel_rfl)) 71 (by kernel_rfl) (number_some g6 s p (-9223372036854775808) 9223372036854775807 v80 _ (by omega) (by omega) HS HR ne_3_g6 ne_4_g6 hv72 HB9) ?_
          rintro _ w81 ⟨rfl, HB83, F82⟩
          refine ⟨_, rfl, trivial, ?_⟩
          have HB4 := Blk.keep HB4 F82 (ninC ne_g1_g6 (nin0 _))
          have HN_ge := Blk.keep HN_ge F82 (ninC (Ne.symm ne_g6_ge) (nin0 _))
          have HO_FT := HO_FT.keep F82 (djB nin_g6_FT)
          have HS := var_keep 3 (by kernel_rfl) HS F82 (ninC ne_3_g6 (nin0 _))
          have HR := var_keep 4 (by kernel_rfl) HR F82 (ninC ne_4_g6 (nin0 _))
          have HA := Fr.step HA F82 (inSR ge_HA_g6 inS0)
          rw [hv72] at hps
          refine WO.run 1 2 [(72, .pointer (some ⟨ge, 3, none⟩))] (by kernel_rfl) (by kernel_rfl) ?_
          refine WO.st (SQ.E 3 (by kernel_rfl)) ge 3 [.int .i64 v80] #[.string (str ((s.take (runE inW s 0)).drop 0)), .slice At acc.length ct, .int .i64 kv, .int .i64 v80, .int .i64 0] (by kernel_rfl) HN_ge (by kernel_rfl) (by kernel_rfl) (fun _ _ => trivial) ?_
          intro w84 HB86 F85 _
          have HB4 := Blk.keep HB4 F85 (ninC ne_g1_ge (nin0 _))
          have HB83 := Blk.keep HB83 F85 (ninC ne_g6_ge (nin0 _))
          have HO_FT := HO_FT.keep F85 (djB nin_ge_FT)
          have HS := var_keep 3 (by kernel_rfl) HS F85 (ninC ne_3_ge (nin0 _))
          have HR := var_keep 4 (by kernel_rfl) HR F85 (ninC ne_4_ge (nin0 _))
          have HA := Fr.step HA F85 (inSR ge_HA_ge inS0)
          refine WO.done (by kernel_rfl) ?_
          refine WQ.keep [0, 2, 3, 4, 5] (e' := [(0, .string (str s)), (2, .pointer (some ⟨g1, 0, none⟩)), (3, .nilIface), (4, .pointer (some ⟨g6, 0, none⟩)), (5, .pointer (some ⟨ge, 0, none⟩))]) (by kernel_rfl) ?_
          refine WQ.round ?_
          intro a_ ha_
          refine ⟨(numE s p, -1, v80), ha_.keep [0, 2, 3, 4, 5] (by kernel_rfl), ?_⟩
          exact ⟨(.inl ⟨rfl, hps⟩), by omega, HB4, HB83, HB86, HO_FT, HS, HR, HA⟩
        ·
         refine WE.region ?_
         refine WO.run 1 0 [(70, .pointer (some ⟨g6, 0, none⟩))] (by kernel_rfl) (by kernel_rfl) ?_
         refine WO.call (SQ.E 1 (by kernel_rfl)) 71 (by kernel_rfl) (number_bad g6 s p ((q : Nat) : Int) _ (by omega) (by omega) (by omega) (-9223372036854775808) 9223372036854775807 HS ne_3_g6 HB9) ?_
         rintro _ w88 ⟨rfl, HB90, F89⟩
         refine ⟨_, rfl, trivial, ?_⟩
         have HB4 := Blk.keep HB4 F89 (ninC ne_g1_g6 (nin0 _))
         have HN_ge := Blk.keep HN_ge F89 (ninC (Ne.symm ne_g6_ge) (nin0 _))
         have HO_FT := HO_FT.keep F89 (djB nin_g6_FT)
         have HS := var_keep 3 (by kernel_rfl) HS F89 (ninC ne_3_g6 (nin0 _))
         have HR := var_keep 4 (by kernel_rfl) HR F89 (ninC ne_4_g6 (nin0 _))
         have HA := Fr.step HA F89 (inSR ge_HA_g6 inS0)
         refine WO.run 1 2 [(72, .pointer (some ⟨ge, 3, none⟩))] (by kernel_rfl) (by kernel_rfl) ?_
         refine WO.st (SQ.E 3 (by kernel_rfl)) ge 3 [.int .i64 0] #[.string (str ((s.take (runE inW s 0)).drop 0)), .slice At acc.length ct, .int .i64 kv, .int .i64 0, .int .i64 0] (by kernel_rfl) HN_ge (by kernel_rfl) (by kernel_rfl) (fun _ _ => trivial) ?_
         intro w91 HB93 F92 _
         have HB4 := Blk.keep HB4 F92 (ninC ne_g1_ge (nin0 _))
         have HB90 := Blk.keep HB90 F92 (ninC ne_g6_ge (nin0 _))
         have HO_FT := HO_FT.keep F92 (djB nin_ge_FT)
         have HS := var_keep 3 (by kernel_rfl) HS F92 (ninC ne_3_ge (nin0 _))
         have HR := var_keep 4 (by kernel_rfl) HR F92 (ninC ne_4_ge (nin0 _))
         have HA := Fr.step HA F92 (inSR ge_HA_ge inS0)
         refine WO.done (by kernel_rfl) ?_
         refine WQ.keep [0, 2, 3, 4, 5] (e' := [(0, .string (str s)), (2, .pointer (some ⟨g1, 0, none⟩)), (3, .nilIface), (4, .pointer (some ⟨g6, 0, none⟩)), (5, .pointer (some ⟨ge, 0, none⟩))]) (by kernel_rfl) ?_
         refine WQ.round ?_
         intro a_ ha_
         refine ⟨(p, ((q : Nat) : Int), 0), ha_.keep [0, 2, 3, 4, 5] (by kernel_rfl), ?_⟩
         exact ⟨(.inr ⟨_, rfl, hps⟩), by omega, HB4, HB90, HB93, HO_FT, HS, HR, HA⟩
       rcases hst with ⟨rfl, hps⟩ | ⟨q, rfl, hps⟩
       ·
        refine WE.region ?_
        refine WO.run 1 0 [(68, .pointer (some ⟨g6, 0, none⟩))] (by kernel_rfl) (by kernel_rfl) ?_
        rcases Decidable.em (isAt s p 32) with hA94 | hA94
        ·
         have hlt_ := hA94.1
         refine WO.call (SQ.E 1 (by kernel_rfl)) 69 (by kernel_rfl) (sign_yes g6 s p _ (by omega) (by omega) 32 hA94.1 (u8_of (by decide) hA94.2) HB9) ?_
         rintro _ w95 ⟨rfl, HB97, F96⟩
         refine ⟨_, rfl, trivial, ?_⟩
         have HB4 := Blk.keep HB4 F96 (ninC ne_g1_g6 (nin0 _))
         have HN_ge := Blk.keep HN_ge F96 (ninC (Ne.symm ne_g6_ge) (nin0 _))
         have HO_FT := HO_FT.keep F96 (djB nin_g6_FT)
         have HS := var_keep 3 (by kernel_rfl) HS F96 (ninC ne_3_g6 (nin0 _))
         have HR := var_keep 4 (by kernel_rfl) HR F96 (ninC ne_4_g6 (nin0 _))
         have HA := Fr.step HA F96 (inSR ge_HA_g6 inS0)
         have hps := hps.trans (sp_2 hA94)
         refine WO.done (by kernel_rfl) ?_
         refine WQ.keep [0, 2, 3, 4, 5] (e' := [(0, .string (str s)), (2, .pointer (some ⟨g1, 0, none⟩)), (3, .nilIface), (4, .pointer (some ⟨g6, 0, none⟩)), (5, .pointer (some ⟨ge, 0, none⟩))]) (by kernel_rfl) ?_
         refine WQ.round ?_
         intro a_ ha_
         refine ⟨(p + 1, -1), ha_.keep [0, 2, 3, 4, 5] (by kernel_rfl), ?_⟩
         exact ⟨(.inl ⟨rfl, hps⟩), by omega, HB4, HB97, HN_ge, HO_FT, HS, HR, HA⟩
        ·
         refine WO.call (SQ.E 1 (by kernel_rfl)) 69 (by kernel_rfl) (sign_no g6 s p _ (by omega) (by omega) 32 (fun h_ => hA94 ⟨h_.1, by rw [h_.2]; rfl⟩) HB9) ?_
         rintro _ w98 ⟨rfl, HB100, F99⟩
         refine ⟨_, rfl, trivial, ?_⟩
         have HB4 := Blk.keep HB4 F99 (ninC ne_g1_g6 (nin0 _))
         have HN_ge := Blk.keep HN_ge F99 (ninC (Ne.symm ne_g6_ge) (nin0 _))
         have HO_FT := HO_FT.keep F99 (djB nin_g6_FT)
         have HS := var_keep 3 (by kernel_rfl) HS F99 (ninC ne_3_g6 (nin0 _))
         have HR := var_keep 4 (by kernel_rfl) HR F99 (ninC ne_4_g6 (nin0 _))
         have HA := Fr.step HA F99 (inSR ge_HA_g6 inS0)
         have hps : parseP s = .inr (p) := hps.trans (sp_1 hA94)
         refine WO.done (by kernel_rfl) ?_
         refine WQ.keep [0, 2, 3, 4, 5] (e' := [(0, .string (str s)), (2, .pointer (some ⟨g1, 0, none⟩)), (3, .nilIface), (4, .pointer (some ⟨g6, 0, none⟩)), (5, .pointer (some ⟨ge, 0, none⟩))]) (by kernel_rfl) ?_
         refine WQ.round ?_
         intro a_ ha_
         refine ⟨(p, (p : Int)), ha_.keep [0, 2, 3, 4, 5] (by kernel_rfl), ?_⟩
         exact ⟨(.inr ⟨_, rfl, hps⟩), by omega, HB4, HB100, HN_ge, HO_FT, HS, HR, HA⟩
       ·
        refine WE.region ?_
        refine WO.run 1 0 [(68, .pointer (some ⟨g6, 0, none⟩))] (by kernel_rfl) (by kernel_rfl) ?_
        refine WO.call (SQ.E 1 (by kernel_rfl)) 69 (by kernel_rfl) (sign_bad g6 s p ((q : Nat) : Int) _ (by omega) (by omega) (by omega) 32 HB9) ?_
        rintro _ w101 ⟨rfl, HB103, F102⟩
        refine ⟨_, rfl, trivial, ?_⟩
        have HB4 := Blk.keep HB4 F102 (ninC ne_g1_g6 (nin0 _))
        have HN_ge := Blk.keep HN_ge F102 (ninC (Ne.symm ne_g6_ge) (nin0 _))
        have HO_FT := HO_FT.keep F102 (djB nin_g6_FT)
        have HS := var_keep 3 (by kernel_rfl) HS F102 (ninC ne_3_g6 (nin0 _))
        have HR := var_keep 4 (by kernel_rfl) HR F102 (ninC ne_4_g6 (nin0 _))
        have HA := Fr.step HA F102 (inSR ge_HA_g6 inS0)
        refine WO.done (by kernel_rfl) ?_
        refine WQ.keep [0, 2, 3, 4, 5] (e' := [(0, .string (str s)), (2, .pointer (some ⟨g1, 0, none⟩)), (3, .nilIface), (4, .pointer (some ⟨g6, 0, none⟩)), (5, .pointer (some ⟨ge, 0, none⟩))]) (by kernel_rfl) ?_
        refine WQ.round ?_
        intro a_ ha_
        refine ⟨(p, ((q : Nat) : Int)), ha_.keep [0, 2, 3, 4, 5] (by kernel_rfl), ?_⟩
        exact ⟨(.inr ⟨_, rfl, hps⟩), by omega, HB4, HB103, HN_ge, HO_FT, HS, HR, HA⟩
      refine WE.seq ?_
      rcases hst with ⟨rfl, ⟨rfl, hps⟩ | ⟨hk0, hps⟩⟩ | ⟨q, rfl, hps, rfl⟩
      ·
       refine WE.region ?_
       refine WO.run 1 0 [(62, .pointer (some ⟨ge, 2, none⟩))] (by kernel_rfl) (by kernel_rfl) ?_
       refine WO.ld (SQ.S 1 (by kernel_rfl)) 63 (.int .i64 0) (by kernel_rfl) (same (HN_ge.at 2 (by kernel_rfl))) ?_
       refine WO.run 1 2 [(64, .bool true)] (by kernel_rfl) (by kernel_rfl) ?_
       refine WO.done (by kernel_rfl) ?_
       refine WQ.keep [0, 2, 3, 4, 5, 7, 64] (e' := [(0, .string (str s)), (2, .pointer (some ⟨g1, 0, none⟩)), (3, .nilIface), (4, .pointer (some ⟨g6, 0, none⟩)), (5, .pointer (some ⟨ge, 0, none⟩)), (7, .int .i64 (pf : Int)), (64, .bool true)]) (by kernel_rfl) ?_
       refine WQ.thenN ?_
       refine WE.condT (by kernel_rfl) ?_
       refine WE.region ?_
       refine WO.run 2 0 [(66, .int .i64 (pf : Int)), (65, .pointer (some ⟨g6, 0, none⟩))] (by kernel_rfl) (by kernel_rfl) ?_
       refine WO.call (SQ.E 2 (by kernel_rfl)) 67 (by kernel_rfl) (fail_ok g6 s p _ (by omega) (by omega) (pf : Int) HB9) ?_
       rintro _ w104 ⟨rfl, HB106, F105⟩
       refine ⟨_, rfl, trivial, ?_⟩
       have HB4 := Blk.keep HB4 F105 (ninC ne_g1_g6 (nin0 _))
       have HN_ge := Blk.keep HN_ge F105 (ninC (Ne.symm ne_g6_ge) (nin0 _))
       have HO_FT := HO_FT.keep F105 (djB nin_g6_FT)
       have HS := var_keep 3 (by kernel_rfl) HS F105 (ninC ne_3_g6 (nin0 _))
       have HR := var_keep 4 (by kernel_rfl) HR F105 (ninC ne_4_g6 (nin0 _))
       have HA := Fr.step HA F105 (inSR ge_HA_g6 inS0)
       refine WO.done (by kernel_rfl) ?_
       refine WQ.keep [0, 2, 3, 4, 5] (e' := [(0, .string (str s)), (2, .pointer (some ⟨g1, 0, none⟩)), (3, .nilIface), (4, .pointer (some ⟨g6, 0, none⟩)), (5, .pointer (some ⟨ge, 0, none⟩))]) (by kernel_rfl) ?_
       refine WQ.round ?_
       intro a_ ha_
       refine ⟨(p, (pf : Int), 0), ha_.keep [0, 2, 3, 4, 5] (by kernel_rfl), ?_⟩
       exact ⟨(.inr ⟨_, rfl, hps⟩), by omega, HB4, HB106, HN_ge, HO_FT, HS, HR, HA⟩
      ·
       refine WE.region ?_
       refine WO.run 1 0 [(62, .pointer (some ⟨ge, 2, none⟩))] (by kernel_rfl) (by kernel_rfl) ?_
       refine WO.ld (SQ.S 1 (by kernel_rfl)) 63 (.int .i64 kv) (by kernel_rfl) (same (HN_ge.at 2 (by kernel_rfl))) ?_
       refine WO.one (SQ.F 2 (by kernel_rfl)) 64 (.bool (decide ((kv : Int) < 1))) (by kernel_rfl) ?_
       refine WO.topPF ((kv : Int) < 1) (by omega) ?_
       refine WO.done (by kernel_rfl) ?_
       refine WQ.keep [0, 2, 3, 4, 5, 7, 64] (e' := [(0, .string (str s)), (2, .pointer (some ⟨g1, 0, none⟩)), (3, .nilIface), (4, .pointer (some ⟨g6, 0, none⟩)), (5, .pointer (some ⟨ge, 0, none⟩)), (7, .int .i64 (pf : Int)), (64, .bool false)]) (by kernel_rfl) ?_
       refine WQ.thenN ?_
       refine WE.condF (by kernel_rfl) ?_
       refine WE.skip ?_
       refine WQ.round ?_
       intro a_ ha_
       refine ⟨(p, -1, kv), ha_.keep [0, 2, 3, 4, 5] (by kernel_rfl), ?_⟩
       exact ⟨(.inl ⟨rfl, hps⟩), by omega, HB4, HB9, HN_ge, HO_FT, HS, HR, HA⟩
      ·
       refine WE.region ?_
       refine WO.run 1 0 [(62, .pointer (some ⟨ge, 2, none⟩))] (by kernel_rfl) (by kernel_rfl) ?_
       refine WO.ld (SQ.S 1 (by kernel_rfl)) 63 (.int .i64 0) (by kernel_rfl) (same (HN_ge.at 2 (by kernel_rfl))) ?_
       refine WO.run 1 2 [(64, .bool true)] (by kernel_rfl) (by kernel_rfl) ?_
       refine WO.done (by kernel_rfl) ?_
       refine WQ.keep [0, 2, 3, 4, 5, 7, 64] (e' := [(0, .string (str s)), (2, .pointer (some ⟨g1, 0, none⟩)), (3, .nilIface), (4, .pointer (some ⟨g6, 0, none⟩)), (5, .pointer (some ⟨ge, 0, none⟩)), (7, .int .i64 (pf : Int)), (64, .bool true)]) (by kernel_rfl) ?_
       refine WQ.thenN ?_
       refine WE.condT (by kernel_rfl) ?_
       refine WE.region ?_
       refine WO.run 2 0 [(66, .int .i64 (pf : Int)), (65, .pointer (some ⟨g6, 0, none⟩))] (by kernel_rfl) (by kernel_rfl) ?_
       refine WO.call (SQ.E 2 (by kernel_rfl)) 67 (by kernel_rfl) (fail_bad g6 s p ((q : Nat) : Int) _ (by omega) (by omega) (by omega) (pf : Int) HB9) ?_
       rintro _ w107 ⟨rfl, HB109, F108⟩
       refine ⟨_, rfl, trivial, ?_⟩
       have HB4 := Blk.keep HB4 F108 (ninC ne_g1_g6 (nin0 _))
       have HN_ge := Blk.keep HN_ge F108 (ninC (Ne.symm ne_g6_ge) (nin0 _))
       have HO_FT := HO_FT.keep F108 (djB nin_g6_FT)
       have HS := var_keep 3 (by kernel_rfl) HS F108 (ninC ne_3_g6 (nin0 _))
       have HR := var_keep 4 (by kernel_rfl) HR F108 (ninC ne_4_g6 (nin0 _))
       have HA := Fr.step HA F108 (inSR ge_HA_g6 inS0)
       refine WO.done (by kernel_rfl) ?_
       refine WQ.keep [0, 2, 3, 4, 5] (e' := [(0, .string (str s)), (2, .pointer (some ⟨g1, 0, none⟩)), (3, .nilIface), (4, .pointer (some ⟨g6, 0, none⟩)), (5, .pointer (some ⟨ge, 0, none⟩))]) (by kernel_rfl) ?_
       refine WQ.round ?_
       intro a_ ha_
       refine ⟨(p, ((q : Nat) : Int), 0), ha_.keep [0, 2, 3, 4, 5] (by kernel_rfl), ?_⟩
       exact ⟨(.inr ⟨_, rfl, hps⟩), by omega, HB4, HB109, HN_ge, HO_FT, HS, HR, HA⟩
     refine WE.region ?_
     refine WO.run 1 0 [(57, .pointer (some ⟨g6, 0, none⟩))] (by kernel_rfl) (by kernel_rfl) ?_
     rcases Nat.lt_or_ge p s.length with hL | hL
     ·
      refine WO.call (SQ.E 1 (by kernel_rfl)) 58 (by kernel_rfl) (one_yes g6 s p _ (by omega) (by omega) hL HB9) ?_
      rintro _ w110 ⟨rfl, HB112, F111⟩
      refine ⟨_, rfl, trivial, ?_⟩
      have HB4 := Blk.keep HB4 F111 (ninC ne_g1_g6 (nin0 _))
      have HN_ge := Blk.keep HN_ge F111 (ninC (Ne.symm ne_g6_ge) (nin0 _))
      have HO_FT := HO_FT.keep F111 (djB nin_g6_FT)
      have HS := var_keep 3 (by kernel_rfl) HS F111 (ninC ne_3_g6 (nin0 _))
      have HR := var_keep 4 (by kernel_rfl) HR F111 (ninC ne_4_g6 (nin0 _))
      have HA := Fr.step HA F111 (inSR ge_HA_g6 inS0)
      refine WO.call (SQ.E 2 (by kernel_rfl)) 59 (by kernel_rfl) (Tryd.strings_Index_one ⟨#[99, 103, 104]⟩ (gB s p) _) ?_
      rintro _ w113 ⟨rfl, hw_⟩
      have F114 : Fr [] w110 w113 := by rw [hw_]; exact Fr.refl [] _
      refine ⟨_, rfl, trivial, ?_⟩
      have HB4 := Blk.keep HB4 F114 (nin0 _)
      have HN_ge := Blk.keep HN_ge F114 (nin0 _)
      have HB112 := Blk.keep HB112 F114 (nin0 _)
      have HO_FT := HO_FT.keep F114 (fun _ _ => nin0 _)
      have HS := var_keep 3 (by kernel_rfl) HS F114 (nin0 _)
      have HR := var_keep 4 (by kernel_rfl) HR F114 (nin0 _)
      have HA := Fr.step0 HA F114
      refine WO.one (SQ.F 3 (by kernel_rfl)) 60 (.int .i64 (IntKind.i64.wrap (1 + (Lib.indexByte [99, 103, 104] (gB s p))))) (by kernel_rfl) ?_
      refine WO.top (v' := .int .i64 (kindP (gB s p))) (by rw [ix_kind (gB s p)]; exact wrap_i64 rfl (by have := kind_le (gB s p); omega)) ?_
      refine WO.run 1 4 [(61, .pointer (some ⟨ge, 2, none⟩))] (by kernel_rfl) (by kernel_rfl) ?_
      refine WO.st (SQ.E 5 (by kernel_rfl)) ge 2 [.int .i64 (kindP (gB s p))] #[.string (str ((s.take (runE inW s 0)).drop 0)), .slice At acc.length ct, .int .i64 (kindP (gB s p)), .int .i64 0, .int .i64 0] (by kernel_rfl) HN_ge (by kernel_rfl) (by kernel_rfl) (fun _ _ => trivial) ?_
      intro w115 HB117 F116 _
      have HB4 := Blk.keep HB4 F116 (ninC ne_g1_ge (nin0 _))
      have HB112 := Blk.keep HB112 F116 (ninC ne_g6_ge (nin0 _))
      have HO_FT := HO_FT.keep F116 (djB nin_ge_FT)
      have HS := var_keep 3 (by kernel_rfl) HS F116 (ninC ne_3_ge (nin0 _))
      have HR := var_keep 4 (by kernel_rfl) HR F116 (ninC ne_4_ge (nin0 _))
      have HA := Fr.step HA F116 (inSR ge_HA_ge inS0)
      refine WO.done (by kernel_rfl) ?_
      refine WQ.keep [0, 2, 3, 4, 5, 7] (e' := [(0, .string (str s)), (2, .pointer (some ⟨g1, 0, none⟩)), (3, .nilIface), (4, .pointer (some ⟨g6, 0, none⟩)), (5, .pointer (some ⟨ge, 0, none⟩)), (7, .int .i64 (p : Int))]) (by kernel_rfl) ?_
      have hk_ : (kindP (gB s p) = 0 ∧ parseP s = .inr p) ∨ (kindP (gB s p) ≠ 0 ∧ parseP s = sp2P s acc (kindP (gB s p)) (p + 1)) := (Decidable.em (kindP (gB s p) = 0)).imp (fun h_ => ⟨h_, hps.trans (kp_2 hL h_)⟩) (fun h_ => ⟨h_, hps.trans (kp_3 hL h_)⟩)
      refine WQ.round ?_
      intro a_ ha_
      refine ⟨(p + 1, -1, kindP (gB s p), p), ha_.keep [0, 2, 3, 4, 5, 7] (by kernel_rfl), ?_⟩
      exact ⟨(.inl ⟨rfl, hk_⟩), by omega, by first | exact kind_le _ | decide, HB4, HB112, HB117, HO_FT, HS, HR, HA⟩
     ·
      refine WO.call (SQ.E 1 (by kernel_rfl)) 58 (by kernel_rfl) (one_end g6 s p _ (by omega) (by omega) hL HB9) ?_
      rintro _ w118 ⟨rfl, HB120, F119⟩
      refine ⟨_, rfl, trivial, ?_⟩
      have HB4 := Blk.keep HB4 F119 (ninC ne_g1_g6 (nin0 _))
      have HN_ge := Blk.keep HN_ge F119 (ninC (Ne.symm ne_g6_ge) (nin0 _))
      have HO_FT := HO_FT.keep F119 (djB nin_g6_FT)
      have HS := var_keep 3 (by kernel_rfl) HS F119 (ninC ne_3_g6 (nin0 _))
      have HR := var_keep 4 (by kernel_rfl) HR F119 (ninC ne_4_g6 (nin0 _))
      have HA := Fr.step HA F119 (inSR ge_HA_g6 inS0)
      refine WO.call (SQ.E 2 (by kernel_rfl)) 59 (by kernel_rfl) (Tryd.strings_Index_one ⟨#[99, 103, 104]⟩ (63 : UInt8) _) ?_
      rintro _ w121 ⟨rfl, hw_⟩
      have F122 : Fr [] w118 w121 := by rw [hw_]; exact Fr.refl [] _
      refine ⟨_, rfl, trivial, ?_⟩
      have HB4 := Blk.keep HB4 F122 (nin0 _)
      have HN_ge := Blk.keep HN_ge F122 (nin0 _)
      have HB120 := Blk.keep HB120 F122 (nin0 _)
      have HO_FT := HO_FT.keep F122 (fun _ _ => nin0 _)
      have HS := var_keep 3 (by kernel_rfl) HS F122 (nin0 _)
      have HR := var_keep 4 (by kernel_rfl) HR F122 (nin0 _)
      have HA := Fr.step0 HA F122
      refine WO.one (SQ.F 3 (by kernel_rfl)) 60 (.int .i64 (IntKind.i64.wrap (1 + (Lib.indexByte [99, 103, 104] (63 : UInt8))))) (by kernel_rfl) ?_
      refine WO.top (v' := .int .i64 (kindP (63 : UInt8))) (by rw [ix_kind (63 : UInt8)]; exact wrap_i64 rfl (by have := kind_le (63 : UInt8); omega)) ?_
      refine WO.run 1 4 [(61, .pointer (some ⟨ge, 2, none⟩))] (by kernel_rfl) (by kernel_rfl) ?_
      refine WO.st (SQ.E 5 (by kernel_rfl)) ge 2 [.int .i64 (kindP (63 : UInt8))] #[.string (str ((s.take (runE inW s 0)).drop 0)), .slice At acc.length ct, .int .i64 (kindP (63 : UInt8)), .int .i64 0, .int .i64 0] (by kernel_rfl) HN_ge (by kernel_rfl) (by kernel_rfl) (fun _ _ => trivial) ?_
      intro w123 HB125 F124 _
      have HB4 := Blk.keep HB4 F124 (ninC ne_g1_ge (nin0 _))
      have HB120 := Blk.keep HB120 F124 (ninC ne_g6_ge (nin0 _))
      have HO_FT := HO_FT.keep F124 (djB nin_ge_FT)
      have HS := var_keep 3 (by kernel_rfl) HS F124 (ninC ne_3_ge (nin0 _))
      have HR := var_keep 4 (by kernel_rfl) HR F124 (ninC ne_4_ge (nin0 _))
      have HA := Fr.step HA F124 (inSR ge_HA_ge inS0)
      refine WO.done (by kernel_rfl) ?_
      refine WQ.keep [0, 2, 3, 4, 5, 7] (e' := [(0, .string (str s)), (2, .pointer (some ⟨g1, 0, none⟩)), (3, .nilIface), (4, .pointer (some ⟨g6, 0, none⟩)), (5, .pointer (some ⟨ge, 0, none⟩)), (7, .int .i64 (p : Int))]) (by kernel_rfl) ?_
      have hps : parseP s = .inr p := hps.trans (kp_1 hL)
      refine WQ.round ?_
      intro a_ ha_
      refine ⟨(p, -1, kindP (63 : UInt8), p), ha_.keep [0, 2, 3, 4, 5, 7] (by kernel_rfl), ?_⟩
      exact ⟨(.inl ⟨rfl, .inl ⟨rfl, hps⟩⟩), by omega, by first | exact kind_le _ | decide, HB4, HB120, HB125, HO_FT, HS, HR, HA⟩
    ·
     refine WE.region ?_
     refine WO.run 3 0 [(55, .pointer (some ⟨g6, 1, none⟩)), (54, .pointer (some ⟨g6, 0, none⟩)), (53, .pointer (some ⟨g6, 0, none⟩))] (by kernel_rfl) (by kernel_rfl) ?_
     refine WO.ld (SQ.S 3 (by kernel_rfl)) 56 (.int .i64 (p : Int)) (by kernel_rfl) (same (HB9.at 1 (by kernel_rfl))) ?_
     refine WO.run 1 4 [(7, .int .i64 (p : Int))] (by kernel_rfl) (by kernel_rfl) ?_
     refine WO.done (by kernel_rfl) ?_
     refine WQ.keep [0, 2, 3, 4, 5, 7] (e' := [(0, .string (str s)), (2, .pointer (some ⟨g1, 0, none⟩)), (3, .nilIface), (4, .pointer (some ⟨g6, 0, none⟩)), (5, .pointer (some ⟨ge, 0, none⟩)), (7, .int .i64 (p : Int))]) (by kernel_rfl) ?_
     refine WQ.thenN ?_
     refine WE.seqJ (α := Nat × Int × Int × Nat) (E := fun ⟨p, bz, kv, pf⟩ => [(0, .string (str s)), (2, .pointer (some ⟨g1, 0, none⟩)), (3, .nilIface), (4, .pointer (some ⟨g6, 0, none⟩)), (5, .pointer (some ⟨ge, 0, none⟩)), (7, .int .i64 (pf : Int))]) (I := fun ⟨p, bz, kv, pf⟩ wr => ((bz = -1 ∧ ((kv = 0 ∧ parseP s = .inr pf) ∨ (kv ≠ 0 ∧ parseP s = sp2P s acc kv p))) ∨ (∃ q : Nat, bz = (q : Int) ∧ parseP s = .inr q ∧ kv = 0)) ∧ p ≤ s.length ∧ (0 ≤ kv ∧ kv ≤ 3) ∧ Blk wr g1 #[.string (⟨#[]⟩), .slice none 0 0, .int .i64 0, .int .i64 0, .int .i64 0] 25 ∧ Blk wr g6 #[.string (str s), .int .i64 (p : Int), .int .i64 bz] 60 ∧ Blk wr ge #[.string (str ((s.take (runE inW s 0)).drop 0)), .slice At acc.length ct, .int .i64 kv, .int .i64 0, .int .i64 0] 25 ∧ OwnX 53 2 wr FT (.slice At acc.length ct) (List.map cT acc) ∧ VarI wr "strconv.ErrSyntax" ∧ VarI wr "strconv.ErrRange" ∧ Fr [] w wr) ?_ ?_
     ·
      rintro ⟨p, bz, kv, pf⟩ wr ⟨hst, hp, hk03, HB4, HB9, HN_ge, HO_FT, HS, HR, HA⟩
      refine WE.seqJ (α := Nat × Int × Int) (E := fun ⟨p, bz, kv⟩ => [(0, .string (str s)), (2, .pointer (some ⟨g1, 0, none⟩)), (3, .nilIface), (4, .pointer (some ⟨g6, 0, none⟩)), (5, .pointer (some ⟨ge, 0, none⟩))]) (I := fun ⟨p, bz, kv⟩ wr => ((bz = -1 ∧ parseP s = sp2P s acc kv p) ∨ (∃ q : Nat, bz = (q : Int) ∧ parseP s = .inr q)) ∧ p ≤ s.length ∧ Blk wr g1 #[.string (⟨#[]⟩), .slice none 0 0, .int .i64 0, .int .i64 0, .int .i64 0] 25 ∧ Blk wr g6 #[.string (str s), .int .i64 (p : Int), .int .i64 bz] 60 ∧ Blk wr ge #[.string (str ((s.take (runE inW s 0)).drop 0)), .slice At acc.length ct, .int .i64 kv, .int .i64 0, .int .i64 0] 25 ∧ OwnX 53 2 wr FT (.slice At acc.length ct) (List.map cT acc) ∧ VarI wr "strconv.ErrSyntax" ∧ VarI wr "strconv.ErrRange" ∧ Fr [] w wr) ?_ ?_
      ·
       rintro ⟨p, bz, kv⟩ wr ⟨hst, hp, HB4, HB9, HN_ge, HO_FT, HS, HR, HA⟩
       refine WE.seqJ (α := Nat × Int) (E := fun ⟨p, bz⟩ => [(0, .string (str s)), (2, .pointer (some ⟨g1, 0, none⟩)), (3, .nilIface), (4, .pointer (some ⟨g6, 0, none⟩)), (5, .pointer (some ⟨ge, 0, none⟩))]) (I := fun ⟨p, bz⟩ wr => ((bz = -1 ∧ parseP s = valP s acc kv p (numP s p (-9223372036854775808) 9223372036854775807)) ∨ (∃ q : Nat, bz = (q : Int) ∧ parseP s = .inr q)) ∧ p ≤ s.length ∧ Blk wr g1 #[.string (⟨#[]⟩), .slice none 0 0, .int .i64 0, .int .i64 0, .int .i64 0] 25 ∧ Blk wr g6 #[.string (str s), .int .i64 (p : Int), .int .i64 bz] 60 ∧ Blk wr ge #[.string (str ((s.take (runE inW s 0)).drop 0)), .slice At acc.length ct, .int .i64 kv, .int .i64 0, .int .i64 0] 25 ∧ OwnX 53 2 wr FT (.slice At acc.length ct) (List.map cT acc) ∧ VarI wr "strconv.ErrSyntax" ∧ VarI wr "strconv.ErrRange" ∧ Fr [] w wr) ?_ ?_
       ·
        rintro ⟨p, bz⟩ wr ⟨hst, hp, HB4, HB9, HN_ge, HO_FT, HS, HR, HA⟩
        refine WE.seqJ (α := Nat × Int × Int) (E := fun ⟨p, bz, vv⟩ => [(0, .string (str s)), (2, .pointer (some ⟨g1, 0, none⟩)), (3, .nilIface), (4, .pointer (some ⟨g6, 0, none⟩)), (5, .pointer (some ⟨ge, 0, none⟩))]) (I := fun ⟨p, bz, vv⟩ wr => ((bz = -1 ∧ parseP s = sp3P s acc kv vv p) ∨ (∃ q : Nat, bz = (q : Int) ∧ parseP s = .inr q)) ∧ p ≤ s.length ∧ Blk wr g1 #[.string (⟨#[]⟩), .slice none 0 0, .int .i64 0, .int .i64 0, .int .i64 0] 25 ∧ Blk wr g6 #[.string (str s), .int .i64 (p : Int), .int .i64 bz] 60 ∧ Blk wr ge #[.string (str ((s.take (runE inW s 0)).drop 0)), .slice At acc.length ct, .int .i64 kv, .int .i64 vv, .int .i64 0] 25 ∧ OwnX 53 2 wr FT (.slice At acc.length ct) (List.map cT acc) ∧ VarI wr "strconv.ErrSyntax" ∧ VarI wr "strconv.ErrRange" ∧ Fr [] w wr) ?_ ?_
        ·
         rintro ⟨p, bz, vv⟩ wr ⟨hst, hp, HB4, HB9, HN_ge, HO_FT, HS, HR, HA⟩
         refine WE.seqJ (α := Nat × Int) (E := fun ⟨p, bz⟩ => [(0, .string (str s)), (2, .pointer (some ⟨g1, 0, none⟩)), (3, .nilIface), (4, .pointer (some ⟨g6, 0, none⟩)), (5, .pointer (some ⟨ge, 0, none⟩))]) (I := fun ⟨p, bz⟩ wr => ((bz = -1 ∧ parseP s = timeP s acc kv vv p (numP s p 0 1099511627776)) ∨ (∃ q : Nat, bz = (q : Int) ∧ parseP s = .inr q)) ∧ p ≤ s.length ∧ Blk wr g1 #[.string (⟨#[]⟩), .slice none 0 0, .int .i64 0, .int .i64 0, .int .i64 0] 25 ∧ Blk wr g6 #[.string (str s), .int .i64 (p : Int), .int .i64 bz] 60 ∧ Blk wr ge #[.string (str ((s.take (runE inW s 0)).drop 0)), .slice At acc.length ct, .int .i64 kv, .int .i64 vv, .int .i64 0] 25 ∧ OwnX 53 2 wr FT (.slice At acc.length ct) (List.map cT acc) ∧ VarI wr "strconv.ErrSyntax" ∧ VarI wr "strconv.ErrRange" ∧ Fr [] w wr) ?_ ?_
         ·
          rintro ⟨p, bz⟩ wr ⟨hst, hp, HB4, HB9, HN_ge, HO_FT, HS, HR, HA⟩
          refine WE.seqJ (α := Nat × Int × Int) (E := fun ⟨p, bz, tv⟩ => [(0, .string (str s)), (2, .pointer (some ⟨g1, 0, none⟩)), (3, .nilIface), (4, .pointer (some ⟨g6, 0, none⟩)), (5, .pointer (some ⟨ge, 0, none⟩))]) (I := fun ⟨p, bz, tv⟩ wr => ((bz = -1 ∧ parseP s = finP s acc kv vv tv p) ∨ (∃ q : Nat, bz = (q : Int) ∧ parseP s = .inr q)) ∧ p ≤ s.length ∧ Blk wr g1 #[.string (⟨#[]⟩), .slice none 0 0, .int .i64 0, .int .i64 0, .int .i64 0] 25 ∧ Blk wr g6 #[.string (str s), .int .i64 (p : Int), .int .i64 bz] 60 ∧ Blk wr ge #[.string (str ((s.take (runE inW s 0)).drop 0)), .slice At acc.length ct, .int .i64 kv, .int .i64 vv, .int .i64 tv] 25 ∧ OwnX 53 2 wr FT (.slice At acc.length ct) (List.map cT acc) ∧ VarI wr "strconv.ErrSyntax" ∧ VarI wr "strconv.ErrRange" ∧ Fr [] w wr) ?_ ?_
          ·
           rintro ⟨p, bz, tv⟩ wr ⟨hst, hp, HB4, HB9, HN_ge, HO_FT, HS, HR, HA⟩
           refine WE.seqJ (α := Nat × Int) (E := fun ⟨p, bz⟩ => [(2, .pointer (some ⟨g1, 0, none⟩)), (3, .nilIface), (4, .pointer (some ⟨g6, 0, none⟩)), (5, .pointer (some ⟨ge, 0, none⟩))]) (I := fun ⟨p, bz⟩ wr => ((bz = -1 ∧ parseP s = .inl ⟨part s 0, acc, kv, vv, tv⟩) ∨ (∃ q : Nat, bz = (q : Int) ∧ parseP s = .inr q)) ∧ p ≤ s.length ∧ Blk wr g1 #[.string (⟨#[]⟩), .slice none 0 0, .int .i64 0, .int .i64 0, .int .i64 0] 25 ∧ Blk wr g6 #[.string (str s), .int .i64 (p : Int), .int .i64 bz] 60 ∧ Blk wr ge #[.string (str ((s.take (runE inW s 0)).drop 0)), .slice At acc.length ct, .int .i64 kv, .int .i64 vv, .int .i64 tv] 25 ∧ OwnX 53 2 wr FT (.slice At acc.length ct) (List.map cT acc) ∧ VarI wr "strconv.ErrSyntax" ∧ VarI wr "strconv.ErrRange" ∧ Fr [] w wr) ?_ ?_
           ·
            rintro ⟨p, bz⟩ wr ⟨hst, hp, HB4, HB9, HN_ge, HO_FT, HS, HR, HA⟩
            refine WE.seq ?_
            refine WE.seq ?_
            rcases hst with ⟨rfl, hps⟩ | ⟨q, rfl, hps⟩
            ·
             refine WE.region ?_
             refine WO.run 3 0 [(93, .pointer (some ⟨g6, 2, none⟩)), (92, .pointer (some ⟨g6, 0, none⟩)), (91, .pointer (some ⟨g6, 0, none⟩))] (by kernel_rfl) (by kernel_rfl) ?_
             refine WO.ld (SQ.S 3 (by kernel_rfl)) 94 (.int .i64 (-1)) (by kernel_rfl) (same (HB9.at 2 (by kernel_rfl))) ?_
             refine WO.run 1 4 [(95, .bool false)] (by kernel_rfl) (by kernel_rfl) ?_
             refine WO.done (by kernel_rfl) ?_
             refine WQ.keep [2, 3, 4, 5, 95] (e' := [(2, .pointer (some ⟨g1, 0, none⟩)), (3, .nilIface), (4, .pointer (some ⟨g6, 0, none⟩)), (5, .pointer (some ⟨ge, 0, none⟩)), (95, .bool false)]) (by kernel_rfl) ?_
             refine WQ.thenN ?_
             refine WE.condF (by kernel_rfl) ?_
             refine WE.skip ?_
             refine WQ.thenN ?_
             refine WE.seq ?_
             refine WE.region ?_
             refine WO.ldB (SQ.S 0 (by kernel_rfl)) 104 [.string (str ((s.take (runE inW s 0)).drop 0)), .slice At acc.length ct, .int .i64 kv, .int .i64 vv, .int .i64 tv] ge 0 (by kernel_rfl) (by kernel_rfl) (same HN_ge) (by kernel_rfl) ?_
             refine WO.st (SQ.E 1 (by kernel_rfl)) g1 0 [.string (str ((s.take (runE inW s 0)).drop 0)), .slice At acc.length ct, .int .i64 kv, .int .i64 vv, .int .i64 tv] #[.string (str ((s.take (runE inW s 0)).drop 0)), .slice At acc.length ct, .int .i64 kv, .int .i64 vv, .int .i64 tv] (by kernel_rfl) HB4 (by kernel_rfl) (by kernel_rfl) (fun _ _ => trivial) ?_
             intro w126 HB128 F127 _
             have HB9 := Blk.keep HB9 F127 (ninC (Ne.symm ne_g1_g6) (nin0 _))
             have HN_ge := Blk.keep HN_ge F127 (ninC (Ne.symm ne_g1_ge) (nin0 _))
             have HO_FT := HO_FT.keep F127 (djB nin_g1_FT)
             have HS := var_keep 3 (by kernel_rfl) HS F127 (ninC ne_3_g1 (nin0 _))
             have HR := var_keep 4 (by kernel_rfl) HR F127 (ninC ne_4_g1 (nin0 _))
             have HA := Fr.step HA F127 (inSR ge_HA_g1 inS0)
             refine WO.run 1 2 [(3, .nilIface)] (by kernel_rfl) (by kernel_rfl) ?_
             refine WO.done (by kernel_rfl) ?_
             refine WQ.keep [2, 3] (e' := [(2, .pointer (some ⟨g1, 0, none⟩)), (3, .nilIface)]) (by kernel_rfl) ?_
             refine WQ.thenN ?_
             refine WE.ret ?_
             refine WQ.scR ?_
             refine WQ.ret2 (fn := Tryd.f19) (show Tryd.f19.results = #[.cell 2 25, .tmp 3] by kernel_rfl) (show resOk _ _ _ _ (.agg #[.string (str ((s.take (runE inW s 0)).drop 0)), .slice At acc.length ct, .int .i64 kv, .int .i64 vv, .int .i64 tv]) from ⟨by kernel_rfl, ⟨g1, 0, none⟩, by kernel_rfl, ldVarB [.string (str ((s.take (runE inW s 0)).drop 0)), .slice At acc.length ct, .int .i64 kv, .int .i64 vv, .int .i64 tv] (by kernel_rfl) (by kernel_rfl) (by kernel_rfl) HB128 (by kernel_rfl)⟩) (show resOk _ _ _ _ .nilIface from ⟨by kernel_rfl, by kernel_rfl⟩) ?_
             rw [hps]
             exact ResL.ok (ev := ⟨part s 0, acc, kv, vv, tv⟩) rfl (own_cap HO_FT (List.length_map _)) (VX.of_own HO_FT) ge_HA_FT HA
            ·
             refine WE.region ?_
             refine WO.run 3 0 [(93, .pointer (some ⟨g6, 2, none⟩)), (92, .pointer (some ⟨g6, 0, none⟩)), (91, .pointer (some ⟨g6, 0, none⟩))] (by kernel_rfl) (by kernel_rfl) ?_
             refine WO.ld (SQ.S 3 (by kernel_rfl)) 94 (.int .i64 ((q : Nat) : Int)) (by kernel_rfl) (same (HB9.at 2 (by kernel_rfl))) ?_
             refine WO.one (SQ.F 4 (by kernel_rfl)) 95 (.bool (decide (((q : Int) : Int) ≥ (0 : Int)))) (by kernel_rfl) ?_
             refine WO.topPT (((q : Int) : Int) ≥ (0 : Int)) (by omega) ?_
             refine WO.done (by kernel_rfl) ?_
             refine WQ.keep [2, 3, 4, 5, 95] (e' := [(2, .pointer (some ⟨g1, 0, none⟩)), (3, .nilIface), (4, .pointer (some ⟨g6, 0, none⟩)), (5, .pointer (some ⟨ge, 0, none⟩)), (95, .bool true)]) (by kernel_rfl) ?_
             refine WQ.thenN ?_
             refine WE.condT (by kernel_rfl) ?_
             refine WE.seq ?_
             refine WE.draw [.free, .free, .free, .free, .still, .free, .eff, .free, .effR, .free] (Kp [g6]) (kpR _) (by kernel_rfl) 10 (Array.replicate 10 false) (by kernel_rfl) rfl ?_
             intro w129 F130 _
             have HB4 := Blk.keep HB4 F130 (nin0 _)
             have HB9 := Blk.keep HB9 F130 (nin0 _)
             have HN_ge := Blk.keep HN_ge F130 (nin0 _)
             have HO_FT := HO_FT.keep F130 (fun _ _ => nin0 _)
             have HS := var_keep 3 (by kernel_rfl) HS F130 (nin0 _)
             have HR := var_keep 4 (by kernel_rfl) HR F130 (nin0 _)
             have HA := Fr.step0 HA F130
             refine WO.one (SA.F (kpR _) (kpT _) _ 0 _ (by kernel_rfl)) 96 (.agg #[.string (⟨#[]⟩), .slice none 0 0, .int .i64 0, .int .i64 0, .int .i64 0]) (by kernel_rfl) ?_
             refine WO.one (SA.F (kpR _) (kpT _) _ 1 _ (by kernel_rfl)) 97 (.pointer (some ⟨g6, 0, none⟩)) (by kernel_rfl) ?_
             refine WO.one (SA.F (kpR _) (kpT _) _ 2 _ (by kernel_rfl)) 98 (.pointer (some ⟨g6, 0, none⟩)) (by kernel_rfl) ?_
             refine WO.one (SA.F (kpR _) (kpT _) _ 3 _ (by kernel_rfl)) 99 (.pointer (some ⟨g6, 2, none⟩)) (by kernel_rfl) ?_
             refine WO.ld (SA.S (kpR _) (kpT _) _ 4 _ (by kernel_rfl)) 100 (.int .i64 ((q : Nat) : Int)) (by kernel_rfl) (fun _ k => (HB9.kp k (by simp)).at 2 (by kernel_rfl)) ?_
             refine WO.one (SA.F (kpR _) (kpT _) _ 5 _ (by kernel_rfl)) 101 (.agg #[.int .i64 ((q : Nat) : Int), .int .i64 2]) (by kernel_rfl) ?_
             refine WO.toX ?_
             refine WO.fork2 6 8 (by kernel_rfl) ?_ ?_
             ·
              refine WO.bx (SAx.now _ 6 _ (by kernel_rfl) rfl) 102 #[.int .i64 ((q : Nat) : Int), .int .i64 2] 69 (fun g => .pointer (some ⟨g, 0, none⟩)) (by kernel_rfl) (fun _ _ => trivial) ?_
              intro g131 w132 HB134 F133 le135 _
              have ne_g1_g131 : g1 ≠ g131 := Nat.ne_of_lt (Nat.lt_of_lt_of_le HB4.lt le135)
              have ne_g6_g131 : g6 ≠ g131 := Nat.ne_of_lt (Nat.lt_of_lt_of_le HB9.lt le135)
              have ne_ge_g131 : ge ≠ g131 := Nat.ne_of_lt (Nat.lt_of_lt_of_le HN_ge.lt le135)
              have nin_g131_FT : g131 ∉ FT := new_nin HO_FT.lt le135
              have ne_3_g131 : 3 ≠ g131 := Nat.ne_of_lt (Nat.lt_of_lt_of_le (var_lt 3 (by kernel_rfl) HS) le135)
              have ne_4_g131 : 4 ≠ g131 := Nat.ne_of_lt (Nat.lt_of_lt_of_le (var_lt 4 (by kernel_rfl) HR) le135)
              have ge_HA_g131 := Nat.le_trans HA.size le135
              have HB4 := Blk.keep HB4 F133 (nin0 _)
              have HB9 := Blk.keep HB9 F133 (nin0 _)
              have HN_ge := Blk.keep HN_ge F133 (nin0 _)
              have HO_FT := HO_FT.keep F133 (fun _ _ => nin0 _)
              have HS := var_keep 3 (by kernel_rfl) HS F133 (nin0 _)
              have HR := var_keep 4 (by kernel_rfl) HR F133 (nin0 _)
              have HA := Fr.step0 HA F133
              refine WO.one (SAx.F (SA.F (kpR _) (kpT _) _ 7 _ (by kernel_rfl))) 103 (.iface 67 (.pointer (some ⟨g131, 0, none⟩))) (by kernel_rfl) ?_
              refine WO.st (SAx.E (SA.ER _ 8 _ (by kernel_rfl) rfl)) g1 0 [.string (⟨#[]⟩), .slice none 0 0, .int .i64 0, .int .i64 0, .int .i64 0] #[.string (⟨#[]⟩), .slice none 0 0, .int .i64 0, .int .i64 0, .int .i64 0] (by kernel_rfl) HB4 (by kernel_rfl) (by kernel_rfl) (kp_of (kpC HB9.lt (ninC (Ne.symm ne_g1_g6) (nin0 _)) kp0)) ?_
              intro w136 HB138 F137 _
              have HB9 := Blk.keep HB9 F137 (ninC (Ne.symm ne_g1_g6) (nin0 _))
              have HN_ge := Blk.keep HN_ge F137 (ninC (Ne.symm ne_g1_ge) (nin0 _))
              have HB134 := Blk.keep HB134 F137 (ninC (Ne.symm ne_g1_g131) (nin0 _))
              have HO_FT := HO_FT.keep F137 (djB nin_g1_FT)
              have HS := var_keep 3 (by kernel_rfl) HS F137 (ninC ne_3_g1 (nin0 _))
              have HR := var_keep 4 (by kernel_rfl) HR F137 (ninC ne_4_g1 (nin0 _))
              have HA := Fr.step HA F137 (inSR ge_HA_g1 inS0)
              refine WO.one (SAx.F (SA.F (kpR _) (kpT _) _ 9 _ (by kernel_rfl))) 3 (.iface 67 (.pointer (some ⟨g131, 0, none⟩))) (by kernel_rfl) ?_
              refine WO.doneX (by kernel_rfl) ?_
              refine WQ.keep [2, 3, 4, 5, 95] (e' := [(2, .pointer (some ⟨g1, 0, none⟩)), (3, .iface 67 (.pointer (some ⟨g131, 0, none⟩))), (4, .pointer (some ⟨g6, 0, none⟩)), (5, .pointer (some ⟨ge, 0, none⟩)), (95, .bool true)]) (by kernel_rfl) ?_
              refine WQ.thenN ?_
              refine WE.ret ?_
              refine WQ.thenR ?_
              refine WQ.scR ?_
              refine WQ.ret2 (fn := Tryd.f19) (show Tryd.f19.results = #[.cell 2 25, .tmp 3] by kernel_rfl) (show resOk _ _ _ _ (.agg #[.string (⟨#[]⟩), .slice none 0 0, .int .i64 0, .int .i64 0, .int .i64 0]) from ⟨by kernel_rfl, ⟨g1, 0, none⟩, by kernel_rfl, ldVarB [.string (⟨#[]⟩), .slice none 0 0, .int .i64 0, .int .i64 0, .int .i64 0] (by kernel_rfl) (by kernel_rfl) (by kernel_rfl) HB138 (by kernel_rfl)⟩) (show resOk _ _ _ _ (.iface 67 (.pointer (some ⟨g131, 0, none⟩))) from ⟨by kernel_rfl, by kernel_rfl⟩) ?_
              rw [hps]
              exact ResL.fail HB134 ge_HA_g131 HA
             ·
              refine WO.st (SAx.nowR _ 8 _ (by kernel_rfl) rfl) g1 0 [.string (⟨#[]⟩), .slice none 0 0, .int .i64 0, .int .i64 0, .int .i64 0] #[.string (⟨#[]⟩), .slice none 0 0, .int .i64 0, .int .i64 0, .int .i64 0] (by kernel_rfl) HB4 (by kernel_rfl) (by kernel_rfl) (kp_of (kpC HB9.lt (ninC (Ne.symm ne_g1_g6) (nin0 _)) kp0)) ?_
              intro w139 HB141 F140 _
              have HB9 := Blk.keep HB9 F140 (ninC (Ne.symm ne_g1_g6) (nin0 _))
              have HN_ge := Blk.keep HN_ge F140 (ninC (Ne.symm ne_g1_ge) (nin0 _))
              have HO_FT := HO_FT.keep F140 (djB nin_g1_FT)
              have HS := var_keep 3 (by kernel_rfl) HS F140 (ninC ne_3_g1 (nin0 _))
              have HR := var_keep 4 (by kernel_rfl) HR F140 (ninC ne_4_g1 (nin0 _))
              have HA := Fr.step HA F140 (inSR ge_HA_g1 inS0)
              refine WO.bx (SAx.E (SA.E _ 6 _ (by kernel_rfl) rfl)) 102 #[.int .i64 ((q : Nat) : Int), .int .i64 2] 69 (fun g => .pointer (some ⟨g, 0, none⟩)) (by kernel_rfl) (fun _ _ => trivial) ?_
              intro g142 w143 HB145 F144 le146 _
              have ne_g6_g142 : g6 ≠ g142 := Nat.ne_of_lt (Nat.lt_of_lt_of_le HB9.lt le146)
              have ne_ge_g142 : ge ≠ g142 := Nat.ne_of_lt (Nat.lt_of_lt_of_le HN_ge.lt le146)
              have ne_g1_g142 : g1 ≠ g142 := Nat.ne_of_lt (Nat.lt_of_lt_of_le HB141.lt le146)
              have nin_g142_FT : g142 ∉ FT := new_nin HO_FT.lt le146
              have ne_3_g142 : 3 ≠ g142 := Nat.ne_of_lt (Nat.lt_of_lt_of_le (var_lt 3 (by kernel_rfl) HS) le146)
              have ne_4_g142 : 4 ≠ g142 := Nat.ne_of_lt (Nat.lt_of_lt_of_le (var_lt 4 (by kernel_rfl) HR) le146)
              have ge_HA_g142 := Nat.le_trans HA.size le146
              have HB9 := Blk.keep HB9 F144 (nin0 _)
              have HN_ge := Blk.keep HN_ge F144 (nin0 _)
              have HB141 := Blk.keep HB141 F144 (nin0 _)
              have HO_FT := HO_FT.keep F144 (fun _ _ => nin0 _)
              have HS := var_keep 3 (by kernel_rfl) HS F144 (nin0 _)
              have HR := var_keep 4 (by kernel_rfl) HR F144 (nin0 _)
              have HA := Fr.step0 HA F144
              refine WO.one (SAx.F (SA.F (kpR _) (kpT _) _ 7 _ (by kernel_rfl))) 103 (.iface 67 (.pointer (some ⟨g142, 0, none⟩))) (by kernel_rfl) ?_
              refine WO.one (SAx.F (SA.F (kpR _) (kpT _) _ 9 _ (by kernel_rfl))) 3 (.iface 67 (.pointer (some ⟨g142, 0, none⟩))) (by kernel_rfl) ?_
              refine WO.doneX (by kernel_rfl) ?_
              refine WQ.keep [2, 3, 4, 5, 95] (e' := [(2, .pointer (some ⟨g1, 0, none⟩)), (3, .iface 67 (.pointer (some ⟨g142, 0, none⟩))), (4, .pointer (some ⟨g6, 0, none⟩)), (5, .pointer (some ⟨ge, 0, none⟩)), (95, .bool true)]) (by kernel_rfl) ?_
              refine WQ.thenN ?_
              refine WE.ret ?_
              refine WQ.thenR ?_
              refine WQ.scR ?_
              refine WQ.ret2 (fn := Tryd.f19) (show Tryd.f19.results = #[.cell 2 25, .tmp 3] by kernel_rfl) (show resOk _ _ _ _ (.agg #[.string (⟨#[]⟩), .slice none 0 0, .int .i64 0, .int .i64 0, .int .i64 0]) from ⟨by kernel_rfl, ⟨g1, 0, none⟩, by kernel_rfl, ldVarB [.string (⟨#[]⟩), .slice none 0 0, .int .i64 0, .int .i64 0, .int .i64 0] (by kernel_rfl) (by kernel_rfl) (by kernel_rfl) HB141 (by kernel_rfl)⟩) (show resOk _ _ _ _ (.iface 67 (.pointer (some ⟨g142, 0, none⟩))) from ⟨by kernel_rfl, by kernel_rfl⟩) ?_
              rw [hps]
              exact ResL.fail HB145 ge_HA_g142 HA
           refine WE.seq ?_
           rcases hst with ⟨rfl, hps⟩ | ⟨q, rfl, hps⟩
           ·
            refine WE.region ?_
            refine WO.run 3 0 [(80, .pointer (some ⟨g6, 1, none⟩)), (79, .pointer (some ⟨g6, 0, none⟩)), (78, .pointer (some ⟨g6, 0, none⟩))] (by kernel_rfl) (by kernel_rfl) ?_
            refine WO.ld (SQ.S 3 (by kernel_rfl)) 81 (.int .i64 (p : Int)) (by kernel_rfl) (same (HB9.at 1 (by kernel_rfl))) ?_
            refine WO.run 2 4 [(83, .int .i64 (s.length : Int)), (82, .string (str s))] (by kernel_rfl) (by kernel_rfl) ?_
            refine WO.one (SQ.F 6 (by kernel_rfl)) 84 (.bool (decide (((p : Int) : Int) < (s.length : Int)))) (by kernel_rfl) ?_
            refine WO.topP (((p : Int) : Int) < (s.length : Int)) ?_ ?_
            ·
             intro h147
             refine WO.done (by kernel_rfl) ?_
             refine WQ.keep [2, 3, 4, 5, 84] (e' := [(2, .pointer (some ⟨g1, 0, none⟩)), (3, .nilIface), (4, .pointer (some ⟨g6, 0, none⟩)), (5, .pointer (some ⟨ge, 0, none⟩)), (84, .bool true)]) (by kernel_rfl) ?_
             refine WQ.thenN ?_
             refine WE.condT (by kernel_rfl) ?_
             have hps : parseP s = .inr (p) := hps.trans (if_pos (by omega))
             refine WE.region ?_
             refine WO.run 4 0 [(88, .pointer (some ⟨g6, 1, none⟩)), (87, .pointer (some ⟨g6, 0, none⟩)), (86, .pointer (some ⟨g6, 0, none⟩)), (85, .pointer (some ⟨g6, 0, none⟩))] (by kernel_rfl) (by kernel_rfl) ?_
             refine WO.ld (SQ.S 4 (by kernel_rfl)) 89 (.int .i64 (p : Int)) (by kernel_rfl) (same (HB9.at 1 (by kernel_rfl))) ?_
             refine WO.call (SQ.E 5 (by kernel_rfl)) 90 (by kernel_rfl) (fail_ok g6 s p _ (by omega) (by omega) (p : Int) HB9) ?_
             rintro _ w148 ⟨rfl, HB150, F149⟩
             refine ⟨_, rfl, trivial, ?_⟩
             have HB4 := Blk.keep HB4 F149 (ninC ne_g1_g6 (nin0 _))
             have HN_ge := Blk.keep HN_ge F149 (ninC (Ne.symm ne_g6_ge) (nin0 _))
             have HO_FT := HO_FT.keep F149 (djB nin_g6_FT)
             have HS := var_keep 3 (by kernel_rfl) HS F149 (ninC ne_3_g6 (nin0 _))
             have HR := var_keep 4 (by kernel_rfl) HR F149 (ninC ne_4_g6 (nin0 _))
             have HA := Fr.step HA F149 (inSR ge_HA_g6 inS0)
             refine WO.done (by kernel_rfl) ?_
             refine WQ.keep [2, 3, 4, 5] (e' := [(2, .pointer (some ⟨g1, 0, none⟩)), (3, .nilIface), (4, .pointer (some ⟨g6, 0, none⟩)), (5, .pointer (some ⟨ge, 0, none⟩))]) (by kernel_rfl) ?_
             refine WQ.round ?_
             intro a_ ha_
             refine ⟨(p, (p : Int)), ha_.keep [2, 3, 4, 5] (by kernel_rfl), ?_⟩
             exact ⟨(.inr ⟨_, rfl, hps⟩), by omega, HB4, HB150, HN_ge, HO_FT, HS, HR, HA⟩
            intro h147
            refine WO.done (by kernel_rfl) ?_
            refine WQ.keep [2, 3, 4, 5, 84] (e' := [(2, .pointer (some ⟨g1, 0, none⟩)), (3, .nilIface), (4, .pointer (some ⟨g6, 0, none⟩)), (5, .pointer (some ⟨ge, 0, none⟩)), (84, .bool false)]) (by kernel_rfl) ?_
            refine WQ.thenN ?_
            refine WE.condF (by kernel_rfl) ?_
            refine WE.skip ?_
            have hps : parseP s = .inl ⟨part s 0, acc, kv, vv, tv⟩ := hps.trans (if_neg (by omega))
            refine WQ.round ?_
            intro a_ ha_
            refine ⟨(p, -1), ha_.keep [2, 3, 4, 5] (by kernel_rfl), ?_⟩
            exact ⟨(.inl ⟨rfl, hps⟩), by omega, HB4, HB9, HN_ge, HO_FT, HS, HR, HA⟩
           ·
            refine WE.region ?_
            refine WO.run 3 0 [(80, .pointer (some ⟨g6, 1, none⟩)), (79, .pointer (some ⟨g6, 0, none⟩)), (78, .pointer (some ⟨g6, 0, none⟩))] (by kernel_rfl) (by kernel_rfl) ?_
            refine WO.ld (SQ.S 3 (by kernel_rfl)) 81 (.int .i64 (p : Int)) (by kernel_rfl) (same (HB9.at 1 (by kernel_rfl))) ?_
            refine WO.run 2 4 [(83, .int .i64 (s.length : Int)), (82, .string (str s))] (by kernel_rfl) (by kernel_rfl) ?_
            refine WO.one (SQ.F 6 (by kernel_rfl)) 84 (.bool (decide (((p : Int) : Int) < (s.length : Int)))) (by kernel_rfl) ?_
            refine WO.topP (((p : Int) : Int) < (s.length : Int)) ?_ ?_
            ·
             intro h151
             refine WO.done (by kernel_rfl) ?_
             refine WQ.keep [2, 3, 4, 5, 84] (e' := [(2, .pointer (some ⟨g1, 0, none⟩)), (3, .nilIface), (4, .pointer (some ⟨g6, 0, none⟩)), (5, .pointer (some ⟨ge, 0, none⟩)), (84, .bool true)]) (by kernel_rfl) ?_
             refine WQ.thenN ?_
             refine WE.condT (by kernel_rfl) ?_
             refine WE.region ?_
             refine WO.run 4 0 [(88, .pointer (some ⟨g6, 1, none⟩)), (87, .pointer (some ⟨g6, 0, none⟩)), (86, .pointer (some ⟨g6, 0, none⟩)), (85, .pointer (some ⟨g6, 0, none⟩))] (by kernel_rfl) (by kernel_rfl) ?_
             refine WO.ld (SQ.S 4 (by kernel_rfl)) 89 (.int .i64 (p : Int)) (by kernel_rfl) (same (HB9.at 1 (by kernel_rfl))) ?_
             refine WO.call (SQ.E 5 (by kernel_rfl)) 90 (by kernel_rfl) (fail_bad g6 s p ((q : Nat) : Int) _ (by omega) (by omega) (by omega) (p : Int) HB9) ?_
             rintro _ w152 ⟨rfl, HB154, F153⟩
             refine ⟨_, rfl, trivial, ?_⟩
             have HB4 := Blk.keep HB4 F153 (ninC ne_g1_g6 (nin0 _))
             have HN_ge := Blk.keep HN_ge F153 (ninC (Ne.symm ne_g6_ge) (nin0 _))
             have HO_FT := HO_FT.keep F153 (djB nin_g6_FT)
             have HS := var_keep 3 (by kernel_rfl) HS F153 (ninC ne_3_g6 (nin0 _))
             have HR := var_keep 4 (by kernel_rfl) HR F153 (ninC ne_4_g6 (nin0 _))
             have HA := Fr.step HA F153 (inSR ge_HA_g6 inS0)
             refine WO.done (by kernel_rfl) ?_
             refine WQ.keep [2, 3, 4, 5] (e' := [(2, .pointer (some ⟨g1, 0, none⟩)), (3, .nilIface), (4, .pointer (some ⟨g6, 0, none⟩)), (5, .pointer (some ⟨ge, 0, none⟩))]) (by kernel_rfl) ?_
             refine WQ.round ?_
             intro a_ ha_
             refine ⟨(p, ((q : Nat) : Int)), ha_.keep [2, 3, 4, 5] (by kernel_rfl), ?_⟩
             exact ⟨(.inr ⟨_, rfl, hps⟩), by omega, HB4, HB154, HN_ge, HO_FT, HS, HR, HA⟩
            intro h151
            refine WO.done (by kernel_rfl) ?_
            refine WQ.keep [2, 3, 4, 5, 84] (e' := [(2, .pointer (some ⟨g1, 0, none⟩)), (3, .nilIface), (4, .pointer (some ⟨g6, 0, none⟩)), (5, .pointer (some ⟨ge, 0, none⟩)), (84, .bool false)]) (by kernel_rfl) ?_
            refine WQ.thenN ?_
            refine WE.condF (by kernel_rfl) ?_
            refine WE.skip ?_
            refine WQ.round ?_
            intro a_ ha_
            refine ⟨(p, ((q : Nat) : Int)), ha_.keep [2, 3, 4, 5] (by kernel_rfl), ?_⟩
            exact ⟨(.inr ⟨_, rfl, hps⟩), by omega, HB4, HB9, HN_ge, HO_FT, HS, HR, HA⟩
          rcases hst with ⟨rfl, hps⟩ | ⟨q, rfl, hps⟩
          ·
           refine WE.region ?_
           refine WO.run 1 0 [(75, .pointer (some ⟨g6, 0, none⟩))] (by kernel_rfl) (by kernel_rfl) ?_
           have he1 := numE_ge s p
           have he2 := numE_le (show p ≤ s.length by omega)
           cases hv155 : numP s p 0 1099511627776
           ·
            refine WO.call (SQ.E 1 (by kernel_rfl)) 76 (by kernel_rfl) (number_none g6 s p 0 1099511627776 _ (by omega) (by omega) HS HR ne_3_g6 ne_4_g6 hv155 HB9) ?_
            rintro _ w157 ⟨rfl, HB159, F158⟩
            refine ⟨_, rfl, trivial, ?_⟩
            have HB4 := Blk.keep HB4 F158 (ninC ne_g1_g6 (nin0 _))
            have HN_ge := Blk.keep HN_ge F158 (ninC (Ne.symm ne_g6_ge) (nin0 _))
            have HO_FT := HO_FT.keep F158 (djB nin_g6_FT)
            have HS := var_keep 3 (by kernel_rfl) HS F158 (ninC ne_3_g6 (nin0 _))
            have HR := var_keep 4 (by kernel_rfl) HR F158 (ninC ne_4_g6 (nin0 _))
            have HA := Fr.step HA F158 (inSR ge_HA_g6 inS0)
            rw [hv155] at hps
            have hps : parseP s = .inr (p) := hps
            refine WO.run 1 2 [(77, .pointer (some ⟨ge, 4, none⟩))] (by kernel_rfl) (by kernel_rfl) ?_
            refine WO.st (SQ.E 3 (by kernel_rfl)) ge 4 [.int .i64 0] #[.string (str ((s.take (runE inW s 0)).drop 0)), .slice At acc.length ct, .int .i64 kv, .int .i64 vv, .int .i64 0] (by kernel_rfl) HN_ge (by kernel_rfl) (by kernel_rfl) (fun _ _ => trivial) ?_
            intro w160 HB162 F161 _
            have HB4 := Blk.keep HB4 F161 (ninC ne_g1_ge (nin0 _))
            have HB159 := Blk.keep HB159 F161 (ninC ne_g6_ge (nin0 _))
            have HO_FT := HO_FT.keep F161 (djB nin_ge_FT)
            have HS := var_keep 3 (by kernel_rfl) HS F161 (ninC ne_3_ge (nin0 _))
            have HR := var_keep 4 (by kernel_rfl) HR F161 (ninC ne_4_ge (nin0 _))
            have HA := Fr.step HA F161 (inSR ge_HA_ge inS0)
            refine WO.done (by kernel_rfl) ?_
            refine WQ.keep [0, 2, 3, 4, 5] (e' := [(0, .string (str s)), (2, .pointer (some ⟨g1, 0, none⟩)), (3, .nilIface), (4, .pointer (some ⟨g6, 0, none⟩)), (5, .pointer (some ⟨ge, 0, none⟩))]) (by kernel_rfl) ?_
            refine WQ.round ?_
            intro a_ ha_
            refine ⟨(numE s p, (p : Int), 0), ha_.keep [0, 2, 3, 4, 5] (by kernel_rfl), ?_⟩
            exact ⟨(.inr ⟨_, rfl, hps⟩), by omega, HB4, HB159, HB162, HO_FT, HS, HR, HA⟩
           ·
            rename_i v163
            refine WO.call (SQ.E 1 (by kernel_rfl)) 76 (by kernel_rfl) (number_some g6 s p 0 1099511627776 v163 _ (by omega) (by omega) HS HR ne_3_g6 ne_4_g6 hv155 HB9) ?_
            rintro _ w164 ⟨rfl, HB166, F165⟩
            refine ⟨_, rfl, trivial, ?_⟩
            have HB4 := Blk.keep HB4 F165 (ninC ne_g1_g6 (nin0 _))
            have HN_ge := Blk.keep HN_ge F165 (ninC (Ne.symm ne_g6_ge) (nin0 _))
            have HO_FT := HO_FT.keep F165 (djB nin_g6_FT)
            have HS := var_keep 3 (by kernel_rfl) HS F165 (ninC ne_3_g6 (nin0 _))
            have HR := var_keep 4 (by kernel_rfl) HR F165 (ninC ne_4_g6 (nin0 _))
            have HA := Fr.step HA F165 (inSR ge_HA_g6 inS0)
            rw [hv155] at hps
            refine WO.run 1 2 [(77, .pointer (some ⟨ge, 4, none⟩))] (by kernel_rfl) (by kernel_rfl) ?_
            refine WO.st (SQ.E 3 (by kernel_rfl)) ge 4 [.int .i64 v163] #[.string (str ((s.take (runE inW s 0)).drop 0)), .slice At acc.length ct, .int .i64 kv, .int .i64 vv, .int .i64 v163] (by kernel_rfl) HN_ge (by kernel_rfl) (by kernel_rfl) (fun _ _ => trivial) ?_
            intro w167 HB169 F168 _
            have HB4 := Blk.keep HB4 F168 (ninC ne_g1_ge (nin0 _))
            have HB166 := Blk.keep HB166 F168 (ninC ne_g6_ge (nin0 _))
            have HO_FT := HO_FT.keep F168 (djB nin_ge_FT)
            have HS := var_keep 3 (by kernel_rfl) HS F168 (ninC ne_3_ge (nin0 _))
            have HR := var_keep 4 (by kernel_rfl) HR F168 (ninC ne_4_ge (nin0 _))
            have HA := Fr.step HA F168 (inSR ge_HA_ge inS0)
            refine WO.done (by kernel_rfl) ?_
            refine WQ.keep [0, 2, 3, 4, 5] (e' := [(0, .string (str s)), (2, .pointer (some ⟨g1, 0, none⟩)), (3, .nilIface), (4, .pointer (some ⟨g6, 0, none⟩)), (5, .pointer (some ⟨ge, 0, none⟩))]) (by kernel_rfl) ?_
            refine WQ.round ?_
            intro a_ ha_
            refine ⟨(numE s p, -1, v163), ha_.keep [0, 2, 3, 4, 5] (by kernel_rfl), ?_⟩
            exact ⟨(.inl ⟨rfl, hps⟩), by omega, HB4, HB166, HB169, HO_FT, HS, HR, HA⟩
          ·
           refine WE.region ?_
           refine WO.run 1 0 [(75, .pointer (some ⟨g6, 0, none⟩))] (by kernel_rfl) (by kernel_rfl) ?_
           refine WO.call (SQ.E 1 (by kernel_rfl)) 76 (by kernel_rfl) (number_bad g6 s p ((q : Nat) : Int) _ (by omega) (by omega) (by omega) 0 1099511627776 HS ne_3_g6 HB9) ?_
           rintro _ w171 ⟨rfl, HB173, F172⟩
           refine ⟨_, rfl, trivial, ?_⟩
           have HB4 := Blk.keep HB4 F172 (ninC ne_g1_g6 (nin0 _))
           have HN_ge := Blk.keep HN_ge F172 (ninC (Ne.symm ne_g6_ge) (nin0 _))
           have HO_FT := HO_FT.keep F172 (djB nin_g6_FT)
           have HS := var_keep 3 (by kernel_rfl) HS F172 (ninC ne_3_g6 (nin0 _))
           have HR := var_keep 4 (by kernel_rfl) HR F172 (ninC ne_4_g6 (nin0 _))
           have HA := Fr.step HA F172 (inSR ge_HA_g6 inS0)
           refine WO.run 1 2 [(77, .pointer (some ⟨ge, 4, none⟩))] (by kernel_rfl) (by kernel_rfl) ?_
           refine WO.st (SQ.E 3 (by kernel_rfl)) ge 4 [.int .i64 0] #[.string (str ((s.take (runE inW s 0)).drop 0)), .slice At acc.length ct, .int .i64 kv, .int .i64 vv, .int .i64 0] (by kernel_rfl) HN_ge (by kernel_rfl) (by kernel_rfl) (fun _ _ => trivial) ?_
           intro w174 HB176 F175 _
           have HB4 := Blk.keep HB4 F175 (ninC ne_g1_ge (nin0 _))
           have HB173 := Blk.keep HB173 F175 (ninC ne_g6_ge (nin0 _))
           have HO_FT := HO_FT.keep F175 (djB nin_ge_FT)
           have HS := var_keep 3 (by kernel_rfl) HS F175 (ninC ne_3_ge (nin0 _))
           have HR := var_keep 4 (by kernel_rfl) HR F175 (ninC ne_4_ge (nin0 _))
           have HA := Fr.step HA F175 (inSR ge_HA_ge inS0)
           refine WO.done (by kernel_rfl) ?_
           refine WQ.keep [0, 2, 3, 4, 5] (e' := [(0, .string (str s)), (2, .pointer (some ⟨g1, 0, none⟩)), (3, .nilIface), (4, .pointer (some ⟨g6, 0, none⟩)), (5, .pointer (some ⟨ge, 0, none⟩))]) (by kernel_rfl) ?_
           refine WQ.round ?_
           intro a_ ha_
           refine ⟨(p, ((q : Nat) : Int), 0), ha_.keep [0, 2, 3, 4, 5] (by kernel_rfl), ?_⟩
           exact ⟨(.inr ⟨_, rfl, hps⟩), by omega, HB4, HB173, HB176, HO_FT, HS, HR, HA⟩
         rcases hst with ⟨rfl, hps⟩ | ⟨q, rfl, hps⟩
         ·
          refine WE.region ?_
          refine WO.run 1 0 [(73, .pointer (some ⟨g6, 0, none⟩))] (by kernel_rfl) (by kernel_rfl) ?_
          rcases Decidable.em (isAt s p 32) with hA177 | hA177
          ·
           have hlt_ := hA177.1
           refine WO.call (SQ.E 1 (by kernel_rfl)) 74 (by kernel_rfl) (sign_yes g6 s p _ (by omega) (by omega) 32 hA177.1 (u8_of (by decide) hA177.2) HB9) ?_
           rintro _ w178 ⟨rfl, HB180, F179⟩
           refine ⟨_, rfl, trivial, ?_⟩
           have HB4 := Blk.keep HB4 F179 (ninC ne_g1_g6 (nin0 _))
           have HN_ge := Blk.keep HN_ge F179 (ninC (Ne.symm ne_g6_ge) (nin0 _))
           have HO_FT := HO_FT.keep F179 (djB nin_g6_FT)
           have HS := var_keep 3 (by kernel_rfl) HS F179 (ninC ne_3_g6 (nin0 _))
           have HR := var_keep 4 (by kernel_rfl) HR F179 (ninC ne_4_g6 (nin0 _))
           have HA := Fr.step HA F179 (inSR ge_HA_g6 inS0)
           have hps := hps.trans (sq_2 hA177)
           refine WO.done (by kernel_rfl) ?_
           refine WQ.keep [0, 2, 3, 4, 5] (e' := [(0, .string (str s)), (2, .pointer (some ⟨g1, 0, none⟩)), (3, .nilIface), (4, .pointer (some ⟨g6, 0, none⟩)), (5, .pointer (some ⟨ge, 0, none⟩))]) (by kernel_rfl) ?_
           refine WQ.round ?_
           intro a_ ha_
           refine ⟨(p + 1, -1), ha_.keep [0, 2, 3, 4, 5] (by kernel_rfl), ?_⟩
           exact ⟨(.inl ⟨rfl, hps⟩), by omega, HB4, HB180, HN_ge, HO_FT, HS, HR, HA⟩
          ·
           refine WO.call (SQ.E 1 (by kernel_rfl)) 74 (by kernel_rfl) (sign_no g6 s p _ (by omega) (by omega) 32 (fun h_ => hA177 ⟨h_.1, by rw [h_.2]; rfl⟩) HB9) ?_
           rintro _ w181 ⟨rfl, HB183, F182⟩
           refine ⟨_, rfl, trivial, ?_⟩
           have HB4 := Blk.keep HB4 F182 (ninC ne_g1_g6 (nin0 _))
           have HN_ge := Blk.keep HN_ge F182 (ninC (Ne.symm ne_g6_ge) (nin0 _))
           have HO_FT := HO_FT.keep F182 (djB nin_g6_FT)
           have HS := var_keep 3 (by kernel_rfl) HS F182 (ninC ne_3_g6 (nin0 _))
           have HR := var_keep 4 (by kernel_rfl) HR F182 (ninC ne_4_g6 (nin0 _))
           have HA := Fr.step HA F182 (inSR ge_HA_g6 inS0)
           have hps : parseP s = .inr (p) := hps.trans (sq_1 hA177)
           refine WO.done (by kernel_rfl) ?_
           refine WQ.keep [0, 2, 3, 4, 5] (e' := [(0, .string (str s)), (2, .pointer (some ⟨g1, 0, none⟩)), (3, .nilIface), (4, .pointer (some ⟨g6, 0, none⟩)), (5, .pointer (some ⟨ge, 0, none⟩))]) (by kernel_rfl) ?_
           refine WQ.round ?_
           intro a_ ha_
           refine ⟨(p, (p : Int)), ha_.keep [0, 2, 3, 4, 5] (by kernel_rfl), ?_⟩
           exact ⟨(.inr ⟨_, rfl, hps⟩), by omega, HB4, HB183, HN_ge, HO_FT, HS, HR, HA⟩
         ·
          refine WE.region ?_
          refine WO.run 1 0 [(73, .pointer (some ⟨g6, 0, none⟩))] (by kernel_rfl) (by kernel_rfl) ?_
          refine WO.call (SQ.E 1 (by kernel_rfl)) 74 (by kernel_rfl) (sign_bad g6 s p ((q : Nat) : Int) _ (by omega) (by omega) (by omega) 32 HB9) ?_
          rintro _ w184 ⟨rfl, HB186, F185⟩
          refine ⟨_, rfl, trivial, ?_⟩
          have HB4 := Blk.keep HB4 F185 (ninC ne_g1_g6 (nin0 _))
          have HN_ge := Blk.keep HN_ge F185 (ninC (Ne.symm ne_g6_ge) (nin0 _))
          have HO_FT := HO_FT.keep F185 (djB nin_g6_FT)
          have HS := var_keep 3 (by kernel_rfl) HS F185 (ninC ne_3_g6 (nin0 _))
          have HR := var_keep 4 (by kernel_rfl) HR F185 (ninC ne_4_g6 (nin0 _))
          have HA := Fr.step HA F185 (inSR ge_HA_g6 inS0)
          refine WO.done (by kernel_rfl) ?_
          refine WQ.keep [0, 2, 3, 4, 5] (e' := [(0, .string (str s)), (2, .pointer (some ⟨g1, 0, none⟩)), (3, .nilIface), (4, .pointer (some ⟨g6, 0, none⟩)), (5, .pointer (some ⟨ge, 0, none⟩))]) (by kernel_rfl) ?_
          refine WQ.round ?_
          intro a_ ha_
          refine ⟨(p, ((q : Nat) : Int)), ha_.keep [0, 2, 3, 4, 5] (by kernel_rfl), ?_⟩
          exact ⟨(.inr ⟨_, rfl, hps⟩), by omega, HB4, HB186, HN_ge, HO_FT, HS, HR, HA⟩
        rcases hst with ⟨rfl, hps⟩ | ⟨q, rfl, hps⟩
        ·
         refine WE.region ?_
         refine WO.run 1 0 [(70, .pointer (some ⟨g6, 0, none⟩))] (by kernel_rfl) (by kernel_rfl) ?_
         have he1 := numE_ge s p
         have he2 := numE_le (show p ≤ s.length by omega)
         cases hv187 : numP s p (-9223372036854775808) 9223372036854775807
         ·
          refine WO.call (SQ.E 1 (by kernel_rfl)) 71 (by kernel_rfl) (number_none g6 s p (-9223372036854775808) 9223372036854775807 _ (by omega) (by omega) HS HR ne_3_g6 ne_4_g6 hv187 HB9) ?_
          rintro _ w189 ⟨rfl, HB191, F190⟩
          refine ⟨_, rfl, trivial, ?_⟩
          have HB4 := Blk.keep HB4 F190 (ninC ne_g1_g6 (nin0 _))
          have HN_ge := Blk.keep HN_ge F190 (ninC (Ne.symm ne_g6_ge) (nin0 _))
          have HO_FT := HO_FT.keep F190 (djB nin_g6_FT)
          have HS := var_keep 3 (by kernel_rfl) HS F190 (ninC ne_3_g6 (nin0 _))
          have HR := var_keep 4 (by kernel_rfl) HR F190 (ninC ne_4_g6 (nin0 _))
          have HA := Fr.step HA F190 (inSR ge_HA_g6 inS0)
          rw [hv187] at hps
          have hps : parseP s = .inr (p) := hps
          refine WO.run 1 2 [(72, .pointer (some ⟨ge, 3, none⟩))] (by kernel_rfl) (by kernel_rfl) ?_
          refine WO.st (SQ.E 3 (by kernel_rfl)) ge 3 [.int .i64 0] #[.string (str ((s.take (runE inW s 0)).drop 0)), .slice At acc.length ct, .int .i64 kv, .int .i64 0, .int .i64 0] (by kernel_rfl) HN_ge (by kernel_rfl) (by kernel_rfl) (fun _ _ => trivial) ?_
          intro w192 HB194 F193 _
          have HB4 := Blk.keep HB4 F193 (ninC ne_g1_ge (nin0 _))
          have HB191 := Blk.keep HB191 F193 (ninC ne_g6_ge (nin0 _))
          have HO_FT := HO_FT.keep F193 (djB nin_ge_FT)
          have HS := var_keep 3 (by kernel_rfl) HS F193 (ninC ne_3_ge (nin0 _))
          have HR := var_keep 4 (by kernel_rfl) HR F193 (ninC ne_4_ge (nin0 _))
          have HA := Fr.step HA F193 (inSR ge_HA_ge inS0)
          refine WO.done (by kernel_rfl) ?_
          refine WQ.keep [0, 2, 3, 4, 5] (e' := [(0, .string (str s)), (2, .pointer (some ⟨g1, 0, none⟩)), (3, .nilIface), (4, .pointer (some ⟨g6, 0, none⟩)), (5, .pointer (some ⟨ge, 0, none⟩))]) (by kernel_rfl) ?_
          refine WQ.round ?_
          intro a_ ha_
          refine ⟨(numE s p, (p : Int), 0), ha_.keep [0, 2, 3, 4, 5] (by kernel_rfl), ?_⟩
          exact ⟨(.inr ⟨_, rfl, hps⟩), by omega, HB4, HB191, HB194, HO_FT, HS, HR, HA⟩
         ·
          rename_i v195
          refine WO.call (SQ.E 1 (by kernel_rfl)) 71 (by kernel_rfl) (number_some g6 s p (-9223372036854775808) 9223372036854775807 v195 _ (by omega) (by omega) HS HR ne_3_g6 ne_4_g6 hv187 HB9) ?_
          rintro _ w196 ⟨rfl, HB198, F197⟩
          refine ⟨_, rfl, trivial, ?_⟩
          have HB4 := Blk.keep HB4 F197 (ninC ne_g1_g6 (nin0 _))
          have HN_ge := Blk.keep HN_ge F197 (ninC (Ne.symm ne_g6_ge) (nin0 _))
          have HO_FT := HO_FT.keep F197 (djB nin_g6_FT)
          have HS := var_keep 3 (by kernel_rfl) HS F197 (ninC ne_3_g6 (nin0 _))
          have HR := var_keep 4 (by kernel_rfl) HR F197 (ninC ne_4_g6 (nin0 _))
          have HA := Fr.step HA F197 (inSR ge_HA_g6 inS0)
          rw [hv187] at hps
          refine WO.run 1 2 [(72, .pointer (some ⟨ge, 3, none⟩))] (by kernel_rfl) (by kernel_rfl) ?_
          refine WO.st (SQ.E 3 (by kernel_rfl)) ge 3 [.int .i64 v195] #[.string (str ((s.take (runE inW s 0)).drop 0)), .slice At acc.length ct, .int .i64 kv, .int .i64 v195, .int .i64 0] (by kernel_rfl) HN_ge (by kernel_rfl) (by kernel_rfl) (fun _ _ => trivial) ?_
          intro w199 HB201 F200 _
          have HB4 := Blk.keep HB4 F200 (ninC ne_g1_ge (nin0 _))
          have HB198 := Blk.keep HB198 F200 (ninC ne_g6_ge (nin0 _))
          have HO_FT := HO_FT.keep F200 (djB nin_ge_FT)
          have HS := var_keep 3 (by kernel_rfl) HS F200 (ninC ne_3_ge (nin0 _))
          have HR := var_keep 4 (by kernel_rfl) HR F200 (ninC ne_4_ge (nin0 _))
          have HA := Fr.step HA F200 (inSR ge_HA_ge inS0)
          refine WO.done (by kernel_rfl) ?_
          refine WQ.keep [0, 2, 3, 4, 5] (e' := [(0, .string (str s)), (2, .pointer (some ⟨g1, 0, none⟩)), (3, .nilIface), (4, .pointer (some ⟨g6, 0, none⟩)), (5, .pointer (some ⟨ge, 0, none⟩))]) (by kernel_rfl) ?_
          refine WQ.round ?_
          intro a_ ha_
          refine ⟨(numE s p, -1, v195), ha_.keep [0, 2, 3, 4, 5] (by kernel_rfl), ?_⟩
          exact ⟨(.inl ⟨rfl, hps⟩), by omega, HB4, HB198, HB201, HO_FT, HS, HR, HA⟩
        ·
         refine WE.region ?_
         refine WO.run 1 0 [(70, .pointer (some ⟨g6, 0, none⟩))] (by kernel_rfl) (by kernel_rfl) ?_
         refine WO.call (SQ.E 1 (by kernel_rfl)) 71 (by kernel_rfl) (number_bad g6 s p ((q : Nat) : Int) _ (by omega) (by omega) (by omega) (-9223372036854775808) 9223372036854775807 HS ne_3_g6 HB9) ?_
         rintro _ w203 ⟨rfl, HB205, F204⟩
         refine ⟨_, rfl, trivial, ?_⟩
         have HB4 := Blk.keep HB4 F204 (ninC ne_g1_g6 (nin0 _))
         have HN_ge := Blk.keep HN_ge F204 (ninC (Ne.symm ne_g6_ge) (nin0 _))
         have HO_FT := HO_FT.keep F204 (djB nin_g6_FT)
         have HS := var_keep 3 (by kernel_rfl) HS F204 (ninC ne_3_g6 (nin0 _))
         have HR := var_keep 4 (by kernel_rfl) HR F204 (ninC ne_4_g6 (nin0 _))
         have HA := Fr.step HA F204 (inSR ge_HA_g6 inS0)
         refine WO.run 1 2 [(72, .pointer (some ⟨ge, 3, none⟩))] (by kernel_rfl) (by kernel_rfl) ?_
         refine WO.st (SQ.E 3 (by kernel_rfl)) ge 3 [.int .i64 0] #[.string (str ((s.take (runE inW s 0)).drop 0)), .slice At acc.length ct, .int .i64 kv, .int .i64 0, .int .i64 0] (by kernel_rfl) HN_ge (by kernel_rfl) (by kernel_rfl) (fun _ _ => trivial) ?_
         intro w206 HB208 F207 _
         have HB4 := Blk.keep HB4 F207 (ninC ne_g1_ge (nin0 _))
         have HB205 := Blk.keep HB205 F207 (ninC ne_g6_ge (nin0 _))
         have HO_FT := HO_FT.keep F207 (djB nin_ge_FT)
         have HS := var_keep 3 (by kernel_rfl) HS F207 (ninC ne_3_ge (nin0 _))
         have HR := var_keep 4 (by kernel_rfl) HR F207 (ninC ne_4_ge (nin0 _))
         have HA := Fr.step HA F207 (inSR ge_HA_ge inS0)
         refine WO.done (by kernel_rfl) ?_
         refine WQ.keep [0, 2, 3, 4, 5] (e' := [(0, .string (str s)), (2, .pointer (some ⟨g1, 0, none⟩)), (3, .nilIface), (4, .pointer (some ⟨g6, 0, none⟩)), (5, .pointer (some ⟨ge, 0, none⟩))]) (by kernel_rfl) ?_
         refine WQ.round ?_
         intro a_ ha_
         refine ⟨(p, ((q : Nat) : Int), 0), ha_.keep [0, 2, 3, 4, 5] (by kernel_rfl), ?_⟩
         exact ⟨(.inr ⟨_, rfl, hps⟩), by omega, HB4, HB205, HB208, HO_FT, HS, HR, HA⟩
       rcases hst with ⟨rfl, hps⟩ | ⟨q, rfl, hps⟩
       ·
        refine WE.region ?_
        refine WO.run 1 0 [(68, .pointer (some ⟨g6, 0, none⟩))] (by kernel_rfl) (by kernel_rfl) ?_
        rcases Decidable.em (isAt s p 32) with hA209 | hA209
        ·
         have hlt_ := hA209.1
         refine WO.call (SQ.E 1 (by kernel_rfl)) 69 (by kernel_rfl) (sign_yes g6 s p _ (by omega) (by omega) 32 hA209.1 (u8_of (by decide) hA209.2) HB9) ?_
         rintro _ w210 ⟨rfl, HB212, F211⟩
         refine ⟨_, rfl, trivial, ?_⟩
         have HB4 := Blk.keep HB4 F211 (ninC ne_g1_g6 (nin0 _))
         have HN_ge := Blk.keep HN_ge F211 (ninC (Ne.symm ne_g6_ge) (nin0 _))
         have HO_FT := HO_FT.keep F211 (djB nin_g6_FT)
         have HS := var_keep 3 (by kernel_rfl) HS F211 (ninC ne_3_g6 (nin0 _))
         have HR := var_keep 4 (by kernel_rfl) HR F211 (ninC ne_4_g6 (nin0 _))
         have HA := Fr.step HA F211 (inSR ge_HA_g6 inS0)
         have hps := hps.trans (sp_2 hA209)
         refine WO.done (by kernel_rfl) ?_
         refine WQ.keep [0, 2, 3, 4, 5] (e' := [(0, .string (str s)), (2, .pointer (some ⟨g1, 0, none⟩)), (3, .nilIface), (4, .pointer (some ⟨g6, 0, none⟩)), (5, .pointer (some ⟨ge, 0, none⟩))]) (by kernel_rfl) ?_
         refine WQ.round ?_
         intro a_ ha_
         refine ⟨(p + 1, -1), ha_.keep [0, 2, 3, 4, 5] (by kernel_rfl), ?_⟩
         exact ⟨(.inl ⟨rfl, hps⟩), by omega, HB4, HB212, HN_ge, HO_FT, HS, HR, HA⟩
        ·
         refine WO.call (SQ.E 1 (by kernel_rfl)) 69 (by kernel_rfl) (sign_no g6 s p _ (by omega) (by omega) 32 (fun h_ => hA209 ⟨h_.1, by rw [h_.2]; rfl⟩) HB9) ?_
         rintro _ w213 ⟨rfl, HB215, F214⟩
         refine ⟨_, rfl, trivial, ?_⟩
         have HB4 := Blk.keep HB4 F214 (ninC ne_g1_g6 (nin0 _))
         have HN_ge := Blk.keep HN_ge F214 (ninC (Ne.symm ne_g6_ge) (nin0 _))
         have HO_FT := HO_FT.keep F214 (djB nin_g6_FT)
         have HS := var_keep 3 (by kernel_rfl) HS F214 (ninC ne_3_g6 (nin0 _))
         have HR := var_keep 4 (by kernel_rfl) HR F214 (ninC ne_4_g6 (nin0 _))
         have HA := Fr.step HA F214 (inSR ge_HA_g6 inS0)
         have hps : parseP s = .inr (p) := hps.trans (sp_1 hA209)
         refine WO.done (by kernel_rfl) ?_
         refine WQ.keep [0, 2, 3, 4, 5] (e' := [(0, .string (str s)), (2, .pointer (some ⟨g1, 0, none⟩)), (3, .nilIface), (4, .pointer (some ⟨g6, 0, none⟩)), (5, .pointer (some ⟨ge, 0, none⟩))]) (by kernel_rfl) ?_
         refine WQ.round ?_
         intro a_ ha_
         refine ⟨(p, (p : Int)), ha_.keep [0, 2, 3, 4, 5] (by kernel_rfl), ?_⟩
         exact ⟨(.inr ⟨_, rfl, hps⟩), by omega, HB4, HB215, HN_ge, HO_FT, HS, HR, HA⟩
       ·
        refine WE.region ?_
        refine WO.run 1 0 [(68, .pointer (some ⟨g6, 0, none⟩))] (by kernel_rfl) (by kernel_rfl) ?_
        refine WO.call (SQ.E 1 (by kernel_rfl)) 69 (by kernel_rfl) (sign_bad g6 s p ((q : Nat) : Int) _ (by omega) (by omega) (by omega) 32 HB9) ?_
        rintro _ w216 ⟨rfl, HB218, F217⟩
        refine ⟨_, rfl, trivial, ?_⟩
        have HB4 := Blk.keep HB4 F217 (ninC ne_g1_g6 (nin0 _))
        have HN_ge := Blk.keep HN_ge F217 (ninC (Ne.symm ne_g6_ge) (nin0 _))
        have HO_FT := HO_FT.keep F217 (djB nin_g6_FT)
        have HS := var_keep 3 (by kernel_rfl) HS F217 (ninC ne_3_g6 (nin0 _))
        have HR := var_keep 4 (by kernel_rfl) HR F217 (ninC ne_4_g6 (nin0 _))
        have HA := Fr.step HA F217 (inSR ge_HA_g6 inS0)
        refine WO.done (by kernel_rfl) ?_
        refine WQ.keep [0, 2, 3, 4, 5] (e' := [(0, .string (str s)), (2, .pointer (some ⟨g1, 0, none⟩)), (3, .nilIface), (4, .pointer (some ⟨g6, 0, none⟩)), (5, .pointer (some ⟨ge, 0, none⟩))]) (by kernel_rfl) ?_
        refine WQ.round ?_
        intro a_ ha_
        refine ⟨(p, ((q : Nat) : Int)), ha_.keep [0, 2, 3, 4, 5] (by kernel_rfl), ?_⟩
        exact ⟨(.inr ⟨_, rfl, hps⟩), by omega, HB4, HB218, HN_ge, HO_FT, HS, HR, HA⟩
      refine WE.seq ?_
      rcases hst with ⟨rfl, ⟨rfl, hps⟩ | ⟨hk0, hps⟩⟩ | ⟨q, rfl, hps, rfl⟩
      ·
       refine WE.region ?_
       refine WO.run 1 0 [(62, .pointer (some ⟨ge, 2, none⟩))] (by kernel_rfl) (by kernel_rfl) ?_
       refine WO.ld (SQ.S 1 (by kernel_rfl)) 63 (.int .i64 0) (by kernel_rfl) (same (HN_ge.at 2 (by kernel_rfl))) ?_
       refine WO.run 1 2 [(64, .bool true)] (by kernel_rfl) (by kernel_rfl) ?_
       refine WO.done (by kernel_rfl) ?_
       refine WQ.keep [0, 2, 3, 4, 5, 7, 64] (e' := [(0, .string (str s)), (2, .pointer (some ⟨g1, 0, none⟩)), (3, .nilIface), (4, .pointer (some ⟨g6, 0, none⟩)), (5, .pointer (some ⟨ge, 0, none⟩)), (7, .int .i64 (pf : Int)), (64, .bool true)]) (by kernel_rfl) ?_
       refine WQ.thenN ?_
       refine WE.condT (by kernel_rfl) ?_
       refine WE.region ?_
       refine WO.run 2 0 [(66, .int .i64 (pf : Int)), (65, .pointer (some ⟨g6, 0, none⟩))] (by kernel_rfl) (by kernel_rfl) ?_
       refine WO.call (SQ.E 2 (by kernel_rfl)) 67 (by kernel_rfl) (fail_ok g6 s p _ (by omega) (by omega) (pf : Int) HB9) ?_
       rintro _ w219 ⟨rfl, HB221, F220⟩
       refine ⟨_, rfl, trivial, ?_⟩
       have HB4 := Blk.keep HB4 F220 (ninC ne_g1_g6 (nin0 _))
       have HN_ge := Blk.keep HN_ge F220 (ninC (Ne.symm ne_g6_ge) (nin0 _))
       have HO_FT := HO_FT.keep F220 (djB nin_g6_FT)
       have HS := var_keep 3 (by kernel_rfl) HS F220 (ninC ne_3_g6 (nin0 _))
       have HR := var_keep 4 (by kernel_rfl) HR F220 (ninC ne_4_g6 (nin0 _))
       have HA := Fr.step HA F220 (inSR ge_HA_g6 inS0)
       refine WO.done (by kernel_rfl) ?_
       refine WQ.keep [0, 2, 3, 4, 5] (e' := [(0, .string (str s)), (2, .pointer (some ⟨g1, 0, none⟩)), (3, .nilIface), (4, .pointer (some ⟨g6, 0, none⟩)), (5, .pointer (some ⟨ge, 0, none⟩))]) (by kernel_rfl) ?_
       refine WQ.round ?_
       intro a_ ha_
       refine ⟨(p, (pf : Int), 0), ha_.keep [0, 2, 3, 4, 5] (by kernel_rfl), ?_⟩
       exact ⟨(.inr ⟨_, rfl, hps⟩), by omega, HB4, HB221, HN_ge, HO_FT, HS, HR, HA⟩
      ·
       refine WE.region ?_
       refine WO.run 1 0 [(62, .pointer (some ⟨ge, 2, none⟩))] (by kernel_rfl) (by kernel_rfl) ?_
       refine WO.ld (SQ.S 1 (by kernel_rfl)) 63 (.int .i64 kv) (by kernel_rfl) (same (HN_ge.at 2 (by kernel_rfl))) ?_
       refine WO.one (SQ.F 2 (by kernel_rfl)) 64 (.bool (decide ((kv : Int) < 1))) (by kernel_rfl) ?_
       refine WO.topPF ((kv : Int) < 1) (by omega) ?_
       refine WO.done (by kernel_rfl) ?_
       refine WQ.keep [0, 2, 3, 4, 5, 7, 64] (e' := [(0, .string (str s)), (2, .pointer (some ⟨g1, 0, none⟩)), (3, .nilIface), (4, .pointer (some ⟨g6, 0, none⟩)), (5, .pointer (some ⟨ge, 0, none⟩)), (7, .int .i64 (pf : Int)), (64, .bool false)]) (by kernel_rfl) ?_
       refine WQ.thenN ?_
       refine WE.condF (by kernel_rfl) ?_
       refine WE.skip ?_
       refine WQ.round ?_
       intro a_ ha_
       refine ⟨(p, -1, kv), ha_.keep [0, 2, 3, 4, 5] (by kernel_rfl), ?_⟩
       exact ⟨(.inl ⟨rfl, hps⟩), by omega, HB4, HB9, HN_ge, HO_FT, HS, HR, HA⟩
      ·
       refine WE.region ?_
       refine WO.run 1 0 [(62, .pointer (some ⟨ge, 2, none⟩))] (by kernel_rfl) (by kernel_rfl) ?_
       refine WO.ld (SQ.S 1 (by kernel_rfl)) 63 (.int .i64 0) (by kernel_rfl) (same (HN_ge.at 2 (by kernel_rfl))) ?_
       refine WO.run 1 2 [(64, .bool true)] (by kernel_rfl) (by kernel_rfl) ?_
       refine WO.done (by kernel_rfl) ?_
       refine WQ.keep [0, 2, 3, 4, 5, 7, 64] (e' := [(0, .string (str s)), (2, .pointer (some ⟨g1, 0, none⟩)), (3, .nilIface), (4, .pointer (some ⟨g6, 0, none⟩)), (5, .pointer (some ⟨ge, 0, none⟩)), (7, .int .i64 (pf : Int)), (64, .bool true)]) (by kernel_rfl) ?_
       refine WQ.thenN ?_
       refine WE.condT (by kernel_rfl) ?_
       refine WE.region ?_
       refine WO.run 2 0 [(66, .int .i64 (pf : Int)), (65, .pointer (some ⟨g6, 0, none⟩))] (by kernel_rfl) (by kernel_rfl) ?_
       refine WO.call (SQ.E 2 (by kernel_rfl)) 67 (by kernel_rfl) (fail_bad g6 s p ((q : Nat) : Int) _ (by omega) (by omega) (by omega) (pf : Int) HB9) ?_
       rintro _ w222 ⟨rfl, HB224, F223⟩
       refine ⟨_, rfl, trivial, ?_⟩
       have HB4 := Blk.keep HB4 F223 (ninC ne_g1_g6 (nin0 _))
       have HN_ge := Blk.keep HN_ge F223 (ninC (Ne.symm ne_g6_ge) (nin0 _))
       have HO_FT := HO_FT.keep F223 (djB nin_g6_FT)
       have HS := var_keep 3 (by kernel_rfl) HS F223 (ninC ne_3_g6 (nin0 _))
       have HR := var_keep 4 (by kernel_rfl) HR F223 (ninC ne_4_g6 (nin0 _))
       have HA := Fr.step HA F223 (inSR ge_HA_g6 inS0)
       refine WO.done (by kernel_rfl) ?_
       refine WQ.keep [0, 2, 3, 4, 5] (e' := [(0, .string (str s)), (2, .pointer (some ⟨g1, 0, none⟩)), (3, .nilIface), (4, .pointer (some ⟨g6, 0, none⟩)), (5, .pointer (some ⟨ge, 0, none⟩))]) (by kernel_rfl) ?_
       refine WQ.round ?_
       intro a_ ha_
       refine ⟨(p, ((q : Nat) : Int), 0), ha_.keep [0, 2, 3, 4, 5] (by kernel_rfl), ?_⟩
       exact ⟨(.inr ⟨_, rfl, hps⟩), by omega, HB4, HB224, HN_ge, HO_FT, HS, HR, HA⟩
     refine WE.region ?_
     refine WO.run 1 0 [(57, .pointer (some ⟨g6, 0, none⟩))] (by kernel_rfl) (by kernel_rfl) ?_
     refine WO.call (SQ.E 1 (by kernel_rfl)) 58 (by kernel_rfl) (one_bad g6 s p ((q : Nat) : Int) _ (by omega) (by omega) (by omega) HB9) ?_
     rintro _ w225 ⟨rfl, HB227, F226⟩
     refine ⟨_, rfl, trivial, ?_⟩
     have HB4 := Blk.keep HB4 F226 (ninC ne_g1_g6 (nin0 _))
     have HN_ge := Blk.keep HN_ge F226 (ninC (Ne.symm ne_g6_ge) (nin0 _))
     have HO_FT := HO_FT.keep F226 (djB nin_g6_FT)
     have HS := var_keep 3 (by kernel_rfl) HS F226 (ninC ne_3_g6 (nin0 _))
     have HR := var_keep 4 (by kernel_rfl) HR F226 (ninC ne_4_g6 (nin0 _))
     have HA := Fr.step HA F226 (inSR ge_HA_g6 inS0)
     refine WO.call (SQ.E 2 (by kernel_rfl)) 59 (by kernel_rfl) (Tryd.strings_Index_one ⟨#[99, 103, 104]⟩ (63 : UInt8) _) ?_
     rintro _ w228 ⟨rfl, hw_⟩
     have F229 : Fr [] w225 w228 := by rw [hw_]; exact Fr.refl [] _
     refine ⟨_, rfl, trivial, ?_⟩
     have HB4 := Blk.keep HB4 F229 (nin0 _)
     have HN_ge := Blk.keep HN_ge F229 (nin0 _)
     have HB227 := Blk.keep HB227 F229 (nin0 _)
     have HO_FT := HO_FT.keep F229 (fun _ _ => nin0 _)
     have HS := var_keep 3 (by kernel_rfl) HS F229 (nin0 _)
     have HR := var_keep 4 (by kernel_rfl) HR F229 (nin0 _)
     have HA := Fr.step0 HA F229
     refine WO.one (SQ.F 3 (by kernel_rfl)) 60 (.int .i64 (IntKind.i64.wrap (1 + (Lib.indexByte [99, 103, 104] (63 : UInt8))))) (by kernel_rfl) ?_
     refine WO.top (v' := .int .i64 (kindP (63 : UInt8))) (by rw [ix_kind (63 : UInt8)]; exact wrap_i64 rfl (by have := kind_le (63 : UInt8); omega)) ?_
     refine WO.run 1 4 [(61, .pointer (some ⟨ge, 2, none⟩))] (by kernel_rfl) (by kernel_rfl) ?_
     refine WO.st (SQ.E 5 (by kernel_rfl)) ge 2 [.int .i64 (kindP (63 : UInt8))] #[.string (str ((s.take (runE inW s 0)).drop 0)), .slice At acc.length ct, .int .i64 (kindP (63 : UInt8)), .int .i64 0, .int .i64 0] (by kernel_rfl) HN_ge (by kernel_rfl) (by kernel_rfl) (fun _ _ => trivial) ?_
     intro w230 HB232 F231 _
     have HB4 := Blk.keep HB4 F231 (ninC ne_g1_ge (nin0 _))
     have HB227 := Blk.keep HB227 F231 (ninC ne_g6_ge (nin0 _))
     have HO_FT := HO_FT.keep F231 (djB nin_ge_FT)
     have HS := var_keep 3 (by kernel_rfl) HS F231 (ninC ne_3_ge (nin0 _))
     have HR := var_keep 4 (by kernel_rfl) HR F231 (ninC ne_4_ge (nin0 _))
     have HA := Fr.step HA F231 (inSR ge_HA_ge inS0)
     refine WO.done (by kernel_rfl) ?_
     refine WQ.keep [0, 2, 3, 4, 5, 7] (e' := [(0, .string (str s)), (2, .pointer (some ⟨g1, 0, none⟩)), (3, .nilIface), (4, .pointer (some ⟨g6, 0, none⟩)), (5, .pointer (some ⟨ge, 0, none⟩)), (7, .int .i64 (p : Int))]) (by kernel_rfl) ?_
     refine WQ.round ?_
     intro a_ ha_
     refine ⟨(p, ((q : Nat) : Int), kindP (63 : UInt8), p), ha_.keep [0, 2, 3, 4, 5, 7] (by kernel_rfl), ?_⟩
     exact ⟨(.inr ⟨_, rfl, hps, rfl⟩), by omega, by first | exact kind_le _ | decide, HB4, HB227, HB232, HO_FT, HS, HR, HA⟩
   rcases hst with ⟨rfl, hps⟩ | ⟨q, rfl, hps⟩
   ·
    refine WE.region ?_
    refine WO.run 1 0 [(51, .pointer (some ⟨g6, 0, none⟩))] (by kernel_rfl) (by kernel_rfl) ?_
    rcases Decidable.em (isAt s p 32) with hA233 | hA233
    ·
     have hlt_ := hA233.1
     refine WO.call (SQ.E 1 (by kernel_rfl)) 52 (by kernel_rfl) (sign_yes g6 s p _ (by omega) (by omega) 32 hA233.1 (u8_of (by decide) hA233.2) HB9) ?_
     rintro _ w234 ⟨rfl, HB236, F235⟩
     refine ⟨_, rfl, trivial, ?_⟩
     have HB4 := Blk.keep HB4 F235 (ninC ne_g1_g6 (nin0 _))
     have HN_ge := Blk.keep HN_ge F235 (ninC (Ne.symm ne_g6_ge) (nin0 _))
     have HO_FT := HO_FT.keep F235 (djB nin_g6_FT)
     have HS := var_keep 3 (by kernel_rfl) HS F235 (ninC ne_3_g6 (nin0 _))
     have HR := var_keep 4 (by kernel_rfl) HR F235 (ninC ne_4_g6 (nin0 _))
     have HA := Fr.step HA F235 (inSR ge_HA_g6 inS0)
     have hps := hps.trans (rp_y hA233)
     refine WO.done (by kernel_rfl) ?_
     refine WQ.keep [0, 2, 3, 4, 5] (e' := [(0, .string (str s)), (2, .pointer (some ⟨g1, 0, none⟩)), (3, .nilIface), (4, .pointer (some ⟨g6, 0, none⟩)), (5, .pointer (some ⟨ge, 0, none⟩))]) (by kernel_rfl) ?_
     refine WQ.round ?_
     intro a_ ha_
     refine ⟨(p + 1, -1), ha_.keep [0, 2, 3, 4, 5] (by kernel_rfl), ?_⟩
     exact ⟨(.inl ⟨rfl, hps⟩), by omega, HB4, HB236, HN_ge, HO_FT, HS, HR, HA⟩
    ·
     refine WO.call (SQ.E 1 (by kernel_rfl)) 52 (by kernel_rfl) (sign_no g6 s p _ (by omega) (by omega) 32 (fun h_ => hA233 ⟨h_.1, by rw [h_.2]; rfl⟩) HB9) ?_
     rintro _ w237 ⟨rfl, HB239, F238⟩
     refine ⟨_, rfl, trivial, ?_⟩
     have HB4 := Blk.keep HB4 F238 (ninC ne_g1_g6 (nin0 _))
     have HN_ge := Blk.keep HN_ge F238 (ninC (Ne.symm ne_g6_ge) (nin0 _))
     have HO_FT := HO_FT.keep F238 (djB nin_g6_FT)
     have HS := var_keep 3 (by kernel_rfl) HS F238 (ninC ne_3_g6 (nin0 _))
     have HR := var_keep 4 (by kernel_rfl) HR F238 (ninC ne_4_g6 (nin0 _))
     have HA := Fr.step HA F238 (inSR ge_HA_g6 inS0)
     have hps : parseP s = .inr (p) := hps.trans (rp_1 hA233)
     refine WO.done (by kernel_rfl) ?_
     refine WQ.keep [0, 2, 3, 4, 5] (e' := [(0, .string (str s)), (2, .pointer (some ⟨g1, 0, none⟩)), (3, .nilIface), (4, .pointer (some ⟨g6, 0, none⟩)), (5, .pointer (some ⟨ge, 0, none⟩))]) (by kernel_rfl) ?_
     refine WQ.round ?_
     intro a_ ha_
     refine ⟨(p, (p : Int)), ha_.keep [0, 2, 3, 4, 5] (by kernel_rfl), ?_⟩
     exact ⟨(.inr ⟨_, rfl, hps⟩), by omega, HB4, HB239, HN_ge, HO_FT, HS, HR, HA⟩
   ·
    refine WE.region ?_
    refine WO.run 1 0 [(51, .pointer (some ⟨g6, 0, none⟩))] (by kernel_rfl) (by kernel_rfl) ?_
    refine WO.call (SQ.E 1 (by kernel_rfl)) 52 (by kernel_rfl) (sign_bad g6 s p ((q : Nat) : Int) _ (by omega) (by omega) (by omega) 32 HB9) ?_
    rintro _ w240 ⟨rfl, HB242, F241⟩
    refine ⟨_, rfl, trivial, ?_⟩
    have HB4 := Blk.keep HB4 F241 (ninC ne_g1_g6 (nin0 _))
    have HN_ge := Blk.keep HN_ge F241 (ninC (Ne.symm ne_g6_ge) (nin0 _))
    have HO_FT := HO_FT.keep F241 (djB nin_g6_FT)
    have HS := var_keep 3 (by kernel_rfl) HS F241 (ninC ne_3_g6 (nin0 _))
    have HR := var_keep 4 (by kernel_rfl) HR F241 (ninC ne_4_g6 (nin0 _))
    have HA := Fr.step HA F241 (inSR ge_HA_g6 inS0)
    refine WO.done (by kernel_rfl) ?_
    refine WQ.keep [0, 2, 3, 4, 5] (e' := [(0, .string (str s)), (2, .pointer (some ⟨g1, 0, none⟩)), (3, .nilIface), (4, .pointer (some ⟨g6, 0, none⟩)), (5, .pointer (some ⟨ge, 0, none⟩))]) (by kernel_rfl) ?_
    refine WQ.round ?_
    intro a_ ha_
    refine ⟨(p, ((q : Nat) : Int)), ha_.keep [0, 2, 3, 4, 5] (by kernel_rfl), ?_⟩
    exact ⟨(.inr ⟨_, rfl, hps⟩), by omega, HB4, HB242, HN_ge, HO_FT, HS, HR, HA⟩
  refine WE.block ?_
  refine WE.loop (α := Nat × Nat × Int × List Nat × Option Addr × Nat × (List (L × L))) (E := fun ⟨k, p, bz, FT, At, ct, acc⟩ => [(0, .string (str s)), (2, .pointer (some ⟨g1, 0, none⟩)), (3, .nilIface), (4, .pointer (some ⟨g6, 0, none⟩)), (5, .pointer (some ⟨ge, 0, none⟩))]) (I := fun ⟨k, p, bz, FT, At, ct, acc⟩ wr => ((bz = -1 ∧ parseP s = afterP s (tagsP s k p acc) ∧ acc.length + k = 6) ∨ (∃ q : Nat, bz = (q : Int) ∧ parseP s = .inr q)) ∧ p ≤ s.length ∧ Blk wr g1 #[.string (⟨#[]⟩), .slice none 0 0, .int .i64 0, .int .i64 0, .int .i64 0] 25 ∧ Blk wr g6 #[.string (str s), .int .i64 (p : Int), .int .i64 bz] 60 ∧ Blk wr ge #[.string (str ((s.take (runE inW s 0)).drop 0)), .slice At acc.length ct, .int .i64 0, .int .i64 0, .int .i64 0] 25 ∧ VarI wr "strconv.ErrSyntax" ∧ VarI wr "strconv.ErrRange" ∧ OwnX 53 2 wr FT (.slice At acc.length ct) (List.map cT acc) ∧ g1 ∉ FT ∧ g6 ∉ FT ∧ ge ∉ FT ∧ 3 ∉ FT ∧ 4 ∉ FT ∧ (∀ y ∈ FT, (World.heap w).size ≤ y) ∧ Fr [] w wr) (m := fun ⟨k, p, bz, FT, At, ct, acc⟩ => if bz = -1 then k + 1 else 0) (6, p, bz, [], none, 0, []) [0, 2, 3, 4, 5] (by kernel_rfl) ?_ ?_
  ·
   exact ⟨hst.imp (fun h_ => ⟨h_.1, h_.2, rfl⟩) id, hp, HB4, HB9, HN_ge, HS, HR, OwnX.nil _ _ _, (by simp), (by simp), (by simp), (by simp), (by simp), (by simp), HA⟩
  rintro ⟨k, p, bz, FT, At, ct, acc⟩ wr ⟨hst, hp, HB4, HB9, HN_ge, HS, HR, HO_FT, nin_g1_FT, nin_g6_FT, nin_ge_FT, nin_3_FT, nin_4_FT, ge_HA_FT, HA⟩
  refine WE.seq ?_
  refine WE.seq ?_
  rcases hst with ⟨rfl, hps, hk⟩ | ⟨q, rfl, hps⟩
  ·
   refine WE.region ?_
   refine WO.run 3 0 [(21, .pointer (some ⟨g6, 2, none⟩)), (20, .pointer (some ⟨g6, 0, none⟩)), (19, .pointer (some ⟨g6, 0, none⟩))] (by kernel_rfl) (by kernel_rfl) ?_
   refine WO.ld (SQ.S 3 (by kernel_rfl)) 22 (.int .i64 (-1)) (by kernel_rfl) (same (HB9.at 2 (by kernel_rfl))) ?_
   refine WO.run 1 4 [(23, .bool true)] (by kernel_rfl) (by kernel_rfl) ?_
   refine WO.done (by kernel_rfl) ?_
   refine WQ.keep [0, 2, 3, 4, 5, 23] (e' := [(0, .string (str s)), (2, .pointer (some ⟨g1, 0, none⟩)), (3, .nilIface), (4, .pointer (some ⟨g6, 0, none⟩)), (5, .pointer (some ⟨ge, 0, none⟩)), (23, .bool true)]) (by kernel_rfl) ?_
   refine WQ.thenN ?_
   refine WE.condT (by kernel_rfl) ?_
   refine WE.skip ?_
   refine WQ.thenN ?_
   refine WE.block ?_
   refine WE.seq ?_
   refine WE.block ?_
   refine WE.seq ?_
   refine WE.region ?_
   refine WO.run 1 0 [(25, .pointer (some ⟨g6, 0, none⟩))] (by kernel_rfl) (by kernel_rfl) ?_
   rcases Decidable.em (isAt s p 44) with hA243 | hA243
   ·
    have hlt_ := hA243.1
    refine WO.call (SQ.E 1 (by kernel_rfl)) 26 (by kernel_rfl) (next_yes g6 s p _ (by omega) (by omega) 44 hA243.1 (u8_of (by decide) hA243.2) HB9) ?_
    rintro _ w244 ⟨rfl, HB246, F245⟩
    refine ⟨_, rfl, trivial, ?_⟩
    have HB4 := Blk.keep HB4 F245 (ninC ne_g1_g6 (nin0 _))
    have HN_ge := Blk.keep HN_ge F245 (ninC (Ne.symm ne_g6_ge) (nin0 _))
    have HO_FT := HO_FT.keep F245 (djB nin_g6_FT)
    have HS := var_keep 3 (by kernel_rfl) HS F245 (ninC ne_3_g6 (nin0 _))
    have HR := var_keep 4 (by kernel_rfl) HR F245 (ninC ne_4_g6 (nin0 _))
    have HA := Fr.step HA F245 (inSR ge_HA_g6 inS0)
    refine WO.run 1 2 [(24, .bool true)] (by kernel_rfl) (by kernel_rfl) ?_
    refine WO.done (by kernel_rfl) ?_
    refine WQ.keep [0, 2, 3, 4, 5, 24] (e' := [(0, .string (str s)), (2, .pointer (some ⟨g1, 0, none⟩)), (3, .nilIface), (4, .pointer (some ⟨g6, 0, none⟩)), (5, .pointer (some ⟨ge, 0, none⟩)), (24, .bool true)]) (by kernel_rfl) ?_
    refine WQ.thenN ?_
    refine WE.condT (by kernel_rfl) ?_
    refine WE.seq ?_
    refine WE.seq ?_
    refine WE.region ?_
    refine WO.run 1 0 [(27, .pointer (some ⟨ge, 1, none⟩))] (by kernel_rfl) (by kernel_rfl) ?_
    refine WO.ld (SQ.S 1 (by kernel_rfl)) 28 (.slice At acc.length ct) (by kernel_rfl) (same (HN_ge.at 1 (by kernel_rfl))) ?_
    refine WO.run 1 2 [(29, .int .i64 (acc.length : Int))] (by kernel_rfl) (by kernel_rfl) ?_
    refine WO.one (SQ.F 3 (by kernel_rfl)) 30 (.bool (decide (((acc.length : Int) : Int) = (6 : Int)))) (by kernel_rfl) ?_
    refine WO.topP (((acc.length : Int) : Int) = (6 : Int)) ?_ ?_
    ·
     intro h247
     refine WO.done (by kernel_rfl) ?_
     refine WQ.keep [0, 2, 3, 4, 5, 30] (e' := [(0, .string (str s)), (2, .pointer (some ⟨g1, 0, none⟩)), (3, .nilIface), (4, .pointer (some ⟨g6, 0, none⟩)), (5, .pointer (some ⟨ge, 0, none⟩)), (30, .bool true)]) (by kernel_rfl) ?_
     refine WQ.thenN ?_
     refine WE.condT (by kernel_rfl) ?_
     refine WE.seq ?_
     obtain rfl : k = 0 := by omega
     have hps : parseP s = .inr (p) := hps.trans (congrArg (afterP s) (tags_many hA243))
     refine WE.region ?_
     refine WO.run 4 0 [(34, .pointer (some ⟨g6, 1, none⟩)), (33, .pointer (some ⟨g6, 0, none⟩)), (32, .pointer (some ⟨g6, 0, none⟩)), (31, .pointer (some ⟨g6, 0, none⟩))] (by kernel_rfl) (by kernel_rfl) ?_
     refine WO.ld (SQ.S 4 (by kernel_rfl)) 35 (.int .i64 ((p + 1 : Nat) : Int)) (by kernel_rfl) (same (HB246.at 1 (by kernel_rfl))) ?_
     refine WO.one (SQ.F 5 (by kernel_rfl)) 36 (.int .i64 (IntKind.i64.wrap (((p + 1 : Nat) : Int) - 1))) (by kernel_rfl) ?_
     refine WO.top (v' := .int .i64 (p : Int)) (wrap_i64 (by omega) (by omega)) ?_
     refine WO.call (SQ.E 6 (by kernel_rfl)) 37 (by kernel_rfl) (fail_ok g6 s (p + 1) _ (by omega) (by omega) (p : Int) HB246) ?_
     rintro _ w248 ⟨rfl, HB250, F249⟩
     refine ⟨_, rfl, trivial, ?_⟩
     have HB4 := Blk.keep HB4 F249 (ninC ne_g1_g6 (nin0 _))
     have HN_ge := Blk.keep HN_ge F249 (ninC (Ne.symm ne_g6_ge) (nin0 _))
     have HO_FT := HO_FT.keep F249 (djB nin_g6_FT)
     have HS := var_keep 3 (by kernel_rfl) HS F249 (ninC ne_3_g6 (nin0 _))
     have HR := var_keep 4 (by kernel_rfl) HR F249 (ninC ne_4_g6 (nin0 _))
     have HA := Fr.step HA F249 (inSR ge_HA_g6 inS0)
     refine WO.done (by kernel_rfl) ?_
     refine WQ.keep [0, 2, 3, 4, 5] (e' := [(0, .string (str s)), (2, .pointer (some ⟨g1, 0, none⟩)), (3, .nilIface), (4, .pointer (some ⟨g6, 0, none⟩)), (5, .pointer (some ⟨ge, 0, none⟩))]) (by kernel_rfl) ?_
     refine WQ.thenN ?_
     refine WE.exit ?_
     refine WQ.thenE ?_
     refine WQ.blkX (by kernel_rfl) ?_
     refine WQ.thenE ?_
     refine WQ.blkX (by kernel_rfl) ?_
     refine WQ.thenE ?_
     refine WQ.blkE ?_
     refine WQ.round ?_
     intro a_ ha_
     refine ⟨(p + 1, (p : Int), FT, At, ct, acc), ha_.keep [0, 2, 3, 4, 5] (by kernel_rfl), ?_⟩
     exact ⟨(.inr ⟨_, rfl, hps⟩), by omega, HB4, HB250, HN_ge, HS, HR, HO_FT, nin_g1_FT, nin_g6_FT, nin_ge_FT, nin_3_FT, nin_4_FT, ge_HA_FT, HA⟩
    intro h247
    refine WO.done (by kernel_rfl) ?_
    refine WQ.keep [0, 2, 3, 4, 5, 30] (e' := [(0, .string (str s)), (2, .pointer (some ⟨g1, 0, none⟩)), (3, .nilIface), (4, .pointer (some ⟨g6, 0, none⟩)), (5, .pointer (some ⟨ge, 0, none⟩)), (30, .bool false)]) (by kernel_rfl) ?_
    refine WQ.thenN ?_
    refine WE.condF (by kernel_rfl) ?_
    refine WE.skip ?_
    refine WQ.thenN ?_
    obtain ⟨k, rfl⟩ : ∃ k', k = k' + 1 := ⟨k - 1, by omega⟩
    have hA44 := hA243
    refine WE.seqJ (α := Nat × Int) (E := fun ⟨p1, bz⟩ => [(0, .string (str s)), (2, .pointer (some ⟨g1, 0, none⟩)), (3, .nilIface), (4, .pointer (some ⟨g6, 0, none⟩)), (5, .pointer (some ⟨ge, 0, none⟩)), (6, .string (str ((s.take (runE inW s (p + 1))).drop (p + 1))))]) (I := fun ⟨p1, bz⟩ wr => ((bz = -1 ∧ isWord (part s (p + 1)) = true ∧ p1 = runE inW s (p + 1)) ∨ (∃ q : Nat, bz = (q : Int) ∧ parseP s = .inr q)) ∧ p1 ≤ s.length ∧ Blk wr g1 #[.string (⟨#[]⟩), .slice none 0 0, .int .i64 0, .int .i64 0, .int .i64 0] 25 ∧ Blk wr ge #[.string (str ((s.take (runE inW s 0)).drop 0)), .slice At acc.length ct, .int .i64 0, .int .i64 0, .int .i64 0] 25 ∧ Blk wr g6 #[.string (str s), .int .i64 (p1 : Int), .int .i64 bz] 60 ∧ OwnX 53 2 wr FT (.slice At acc.length ct) (List.map cT acc) ∧ VarI wr "strconv.ErrSyntax" ∧ VarI wr "strconv.ErrRange" ∧ Fr [] w wr) ?_ ?_
    ·
     rintro ⟨p1, bz⟩ wr ⟨hst, hp1, HB4, HN_ge, HB246, HO_FT, HS, HR, HA⟩
     refine WE.seqJ (α := Nat × Int) (E := fun ⟨p1, bz⟩ => [(0, .string (str s)), (2, .pointer (some ⟨g1, 0, none⟩)), (3, .nilIface), (4, .pointer (some ⟨g6, 0, none⟩)), (5, .pointer (some ⟨ge, 0, none⟩)), (6, .string (str ((s.take (runE inW s (p + 1))).drop (p + 1))))]) (I := fun ⟨p1, bz⟩ wr => ((bz = -1 ∧ isWord (part s (p + 1)) = true ∧ isAt s (runE inW s (p + 1)) 61 ∧ p1 = runE inW s (p + 1) + 1) ∨ (∃ q : Nat, bz = (q : Int) ∧ parseP s = .inr q)) ∧ p1 ≤ s.length ∧ Blk wr g1 #[.string (⟨#[]⟩), .slice none 0 0, .int .i64 0, .int .i64 0, .int .i64 0] 25 ∧ Blk wr ge #[.string (str ((s.take (runE inW s 0)).drop 0)), .slice At acc.length ct, .int .i64 0, .int .i64 0, .int .i64 0] 25 ∧ Blk wr g6 #[.string (str s), .int .i64 (p1 : Int), .int .i64 bz] 60 ∧ OwnX 53 2 wr FT (.slice At acc.length ct) (List.map cT acc) ∧ VarI wr "strconv.ErrSyntax" ∧ VarI wr "strconv.ErrRange" ∧ Fr [] w wr) ?_ ?_
     ·
      rintro ⟨p1, bz⟩ wr ⟨hst, hp1, HB4, HN_ge, HB246, HO_FT, HS, HR, HA⟩
      refine WE.seq ?_
      rcases hst with ⟨rfl, hK1, hA61, rfl⟩ | ⟨q, rfl, hps⟩
      ·
       refine WE.draw [.free, .still, .free, .free, .effR, .free, .effR, .eff, .free, .eff] (Kp [ge]) (kpR _) (by kernel_rfl) 10 (Array.replicate 10 false) (by kernel_rfl) rfl ?_
       intro w251 F252 _
       have HB4 := Blk.keep HB4 F252 (nin0 _)
       have HN_ge := Blk.keep HN_ge F252 (nin0 _)
       have HB246 := Blk.keep HB246 F252 (nin0 _)
       have HO_FT := HO_FT.keep F252 (fun _ _ => nin0 _)
       have HS := var_keep 3 (by kernel_rfl) HS F252 (nin0 _)
       have HR := var_keep 4 (by kernel_rfl) HR F252 (nin0 _)
       have HA := Fr.step0 HA F252
       refine WO.one (SA.F (kpR _) (kpT _) _ 0 _ (by kernel_rfl)) 42 (.pointer (some ⟨ge, 1, none⟩)) (by kernel_rfl) ?_
       refine WO.ld (SA.S (kpR _) (kpT _) _ 1 _ (by kernel_rfl)) 43 (.slice At acc.length ct) (by kernel_rfl) (fun _ k => (HN_ge.kp k (by simp)).at 1 (by kernel_rfl)) ?_
       refine WO.one (SA.F (kpR _) (kpT _) _ 2 _ (by kernel_rfl)) 44 (.string (str ((s.take (runE inW s (p + 1))).drop (p + 1)))) (by kernel_rfl) ?_
       refine WO.one (SA.F (kpR _) (kpT _) _ 3 _ (by kernel_rfl)) 45 (.pointer (some ⟨g6, 0, none⟩)) (by kernel_rfl) ?_
       have he1 := runE_ge inW s (runE inW s (p + 1) + 1)
       have he2 := runE_le inW (show runE inW s (p + 1) + 1 ≤ s.length by omega)
       rcases Bool.eq_false_or_eq_true (isWord (part s (runE inW s (p + 1) + 1))) with hK253 | hK253
       ·
        refine WO.call (SA.ER _ 4 _ (by kernel_rfl) rfl) 46 (by kernel_rfl) (word_yes g6 s (runE inW s (p + 1) + 1) _ (by omega) (by omega) hK253 HB246) ?_
        rintro _ w254 ⟨rfl, HB256, F255⟩
        refine ⟨_, rfl, (kp_of (kpC HN_ge.lt (ninC (Ne.symm ne_g6_ge) (nin0 _)) kp0)) _ F255, ?_⟩
        have HB4 := Blk.keep HB4 F255 (ninC ne_g1_g6 (nin0 _))
        have HN_ge := Blk.keep HN_ge F255 (ninC (Ne.symm ne_g6_ge) (nin0 _))
        have HO_FT := HO_FT.keep F255 (djB nin_g6_FT)
        have HS := var_keep 3 (by kernel_rfl) HS F255 (ninC ne_3_g6 (nin0 _))
        have HR := var_keep 4 (by kernel_rfl) HR F255 (ninC ne_4_g6 (nin0 _))
        have HA := Fr.step HA F255 (inSR ge_HA_g6 inS0)
        have hps := hps.trans (congrArg (afterP s) (tags_on hA44 hK1 hA61 hK253))
        refine WO.one (SA.F (kpR _) (kpT _) _ 5 _ (by kernel_rfl)) 47 (.agg #[.string (str ((s.take (runE inW s (p + 1))).drop (p + 1))), .string (str ((s.take (runE inW s (runE inW s (p + 1) + 1))).drop (runE inW s (p + 1) + 1)))]) (by kernel_rfl) ?_
        refine WO.bx (SA.ER _ 6 _ (by kernel_rfl) rfl) 48 #[.string (str ((s.take (runE inW s (p + 1))).drop (p + 1))), .string (str ((s.take (runE inW s (runE inW s (p + 1) + 1))).drop (runE inW s (p + 1) + 1)))] 53 (fun g => .slice (some ⟨g, 0, none⟩) 1 1) (by kernel_rfl) (kp_of (kpC HN_ge.lt (nin0 _) kp0)) ?_
        intro g257 w258 HB260 F259 le261 _
        have ne_g1_g257 : g1 ≠ g257 := Nat.ne_of_lt (Nat.lt_of_lt_of_le HB4.lt le261)
        have ne_ge_g257 : ge ≠ g257 := Nat.ne_of_lt (Nat.lt_of_lt_of_le HN_ge.lt le261)
        have ne_g6_g257 : g6 ≠ g257 := Nat.ne_of_lt (Nat.lt_of_lt_of_le HB256.lt le261)
        have nin_g257_FT : g257 ∉ FT := new_nin HO_FT.lt le261
        have ne_3_g257 : 3 ≠ g257 := Nat.ne_of_lt (Nat.lt_of_lt_of_le (var_lt 3 (by kernel_rfl) HS) le261)
        have ne_4_g257 : 4 ≠ g257 := Nat.ne_of_lt (Nat.lt_of_lt_of_le (var_lt 4 (by kernel_rfl) HR) le261)
        have ge_HA_g257 := Nat.le_trans HA.size le261
        have HB4 := Blk.keep HB4 F259 (nin0 _)
        have HN_ge := Blk.keep HN_ge F259 (nin0 _)
        have HB256 := Blk.keep HB256 F259 (nin0 _)
        have HO_FT := HO_FT.keep F259 (fun _ _ => nin0 _)
        have HS := var_keep 3 (by kernel_rfl) HS F259 (nin0 _)
        have HR := var_keep 4 (by kernel_rfl) HR F259 (nin0 _)
        have HA := Fr.step0 HA F259
        refine WO.appX (SA.E _ 7 _ (by kernel_rfl) rfl) 49 (m := 1) (ys := List.map cT ([((((s.take (runE inW s (p + 1))).drop (p + 1)), ((s.take (runE inW s (runE inW s (p + 1) + 1))).drop (runE inW s (p + 1) + 1))) : L × L)])) et_t HO_FT (by rw [List.length_map] <;> first | rfl | omega | (simp <;> omega)) (RowB.src (RowB.of_blk (n := 1) HB260 (List.map cT [((((s.take (runE inW s (p + 1))).drop (p + 1)), ((s.take (runE inW s (runE inW s (p + 1) + 1))).drop (runE inW s (p + 1) + 1))) : L × L)]) rfl rfl (cT_len _) (cT_one _) (by omega))) (cT_len _) (cT_one _) (by kernel_rfl) (by rw [List.length_map]; first | omega | (simp only [List.length_nil]; omega)) (by rw [List.length_map]; first | omega | (simp only [List.length_nil]; omega)) (fun _ _ => trivial) ?_
        intro v267 w268 G269 HO270 F271 hg272
        rw [← List.map_append] at HO270
        have nin_g1_G269 : g1 ∉ G269 := grow_nin hg272 nin_g1_FT HB4.lt
        have nin_ge_G269 : ge ∉ G269 := grow_nin hg272 nin_ge_FT HN_ge.lt
        have nin_g6_G269 : g6 ∉ G269 := grow_nin hg272 nin_g6_FT HB256.lt
        have nin_g257_G269 : g257 ∉ G269 := grow_nin hg272 nin_g257_FT HB260.lt
        have nin_3_G269 : 3 ∉ G269 := grow_nin hg272 nin_3_FT ((var_lt 3 (by kernel_rfl) HS))
        have nin_4_G269 : 4 ∉ G269 := grow_nin hg272 nin_4_FT ((var_lt 4 (by kernel_rfl) HR))
        have ge_HA_G269 : ∀ y ∈ G269, (World.heap w).size ≤ y := grow_ge hg272 ge_HA_FT HA.size
        have HB4 := Blk.keep HB4 F271 nin_g1_FT
        have HN_ge := Blk.keep HN_ge F271 nin_ge_FT
        have HB256 := Blk.keep HB256 F271 nin_g6_FT
        have HB260 := Blk.keep HB260 F271 nin_g257_FT
        have HS := var_keep 3 (by kernel_rfl) HS F271 nin_3_FT
        have HR := var_keep 4 (by kernel_rfl) HR F271 nin_4_FT
        have HA := Fr.step HA F271 (inF ge_HA_FT)
        obtain ⟨A273, cap274, rfl⟩ := HO270.sliceN (List.length_map _)
        have := @List.length_append _ acc ([((((s.take (runE inW s (p + 1))).drop (p + 1)), ((s.take (runE inW s (runE inW s (p + 1) + 1))).drop (runE inW s (p + 1) + 1))) : L × L)])
        refine WO.one (SA.F (kpR _) (kpT _) _ 8 _ (by kernel_rfl)) 50 (.pointer (some ⟨ge, 1, none⟩)) (by kernel_rfl) ?_
        refine WO.st (SA.E _ 9 _ (by kernel_rfl) rfl) ge 1 [.slice A273 ((acc ++ [((((s.take (runE inW s (p + 1))).drop (p + 1)), ((s.take (runE inW s (runE inW s (p + 1) + 1))).drop (runE inW s (p + 1) + 1))) : L × L)]).length) cap274] #[.string (str ((s.take (runE inW s 0)).drop 0)), .slice A273 ((acc ++ [((((s.take (runE inW s (p + 1))).drop (p + 1)), ((s.take (runE inW s (runE inW s (p + 1) + 1))).drop (runE inW s (p + 1) + 1))) : L × L)]).length) cap274, .int .i64 0, .int .i64 0, .int .i64 0] (by kernel_rfl) HN_ge (by kernel_rfl) (by kernel_rfl) (fun _ _ => trivial) ?_
        intro w275 HB277 F276 _
        have HB4 := Blk.keep HB4 F276 (ninC ne_g1_ge (nin0 _))
        have HB256 := Blk.keep HB256 F276 (ninC ne_g6_ge (nin0 _))
        have HB260 := Blk.keep HB260 F276 (ninC (Ne.symm ne_ge_g257) (nin0 _))
        have HO270 := HO270.keep F276 (djB nin_ge_G269)
        have HS := var_keep 3 (by kernel_rfl) HS F276 (ninC ne_3_ge (nin0 _))
        have HR := var_keep 4 (by kernel_rfl) HR F276 (ninC ne_4_ge (nin0 _))
        have HA := Fr.step HA F276 (inSR ge_HA_ge inS0)
        refine WO.doneA (by kernel_rfl) ?_
        refine WQ.keep [0, 2, 3, 4, 5, 6] (e' := [(0, .string (str s)), (2, .pointer (some ⟨g1, 0, none⟩)), (3, .nilIface), (4, .pointer (some ⟨g6, 0, none⟩)), (5, .pointer (some ⟨ge, 0, none⟩)), (6, .string (str ((s.take (runE inW s (p + 1))).drop (p + 1))))]) (by kernel_rfl) ?_
        refine WQ.thenN ?_
        refine WE.exit ?_
        refine WQ.blkX (by kernel_rfl) ?_
        refine WQ.thenE ?_
        refine WQ.blkE ?_
        refine WQ.round ?_
        intro a_ ha_
        refine ⟨(k, runE inW s (runE inW s (p + 1) + 1), -1, G269, A273, cap274, (acc ++ [((((s.take (runE inW s (p + 1))).drop (p + 1)), ((s.take (runE inW s (runE inW s (p + 1) + 1))).drop (runE inW s (p + 1) + 1))) : L × L)])), ?_, ha_.keep [0, 2, 3, 4, 5] (by kernel_rfl), ?_⟩
        ·
         show (if _ then _ else _) < (if _ then _ else _); first | (rw [if_pos rfl, if_pos rfl]; omega) | (rw [if_neg (by omega), if_pos rfl]; omega)
        ·
         exact ⟨.inl ⟨rfl, hps, by simp only [List.length_append, List.length_cons, List.length_nil]; omega⟩, by omega, HB4, HB256, HB277, HS, HR, HO270, nin_g1_G269, nin_g6_G269, nin_ge_G269, nin_3_G269, nin_4_G269, ge_HA_G269, HA⟩
       ·
        refine WO.call (SA.ER _ 4 _ (by kernel_rfl) rfl) 46 (by kernel_rfl) (word_no g6 s (runE inW s (p + 1) + 1) _ (by omega) (by omega) hK253 HB246) ?_
        rintro _ w278 ⟨rfl, HB280, F279⟩
        refine ⟨_, rfl, (kp_of (kpC HN_ge.lt (ninC (Ne.symm ne_g6_ge) (nin0 _)) kp0)) _ F279, ?_⟩
        have HB4 := Blk.keep HB4 F279 (ninC ne_g1_g6 (nin0 _))
        have HN_ge := Blk.keep HN_ge F279 (ninC (Ne.symm ne_g6_ge) (nin0 _))
        have HO_FT := HO_FT.keep F279 (djB nin_g6_FT)
        have HS := var_keep 3 (by kernel_rfl) HS F279 (ninC ne_3_g6 (nin0 _))
        have HR := var_keep 4 (by kernel_rfl) HR F279 (ninC ne_4_g6 (nin0 _))
        have HA := Fr.step HA F279 (inSR ge_HA_g6 inS0)
        have hps : parseP s = .inr (runE inW s (p + 1) + 1) := hps.trans (congrArg (afterP s) (tags_val hA44 hK1 hA61 hK253))
        refine WO.one (SA.F (kpR _) (kpT _) _ 5 _ (by kernel_rfl)) 47 (.agg #[.string (str ((s.take (runE inW s (p + 1))).drop (p + 1))), .string (str ((s.take (runE inW s (runE inW s (p + 1) + 1))).drop (runE inW s (p + 1) + 1)))]) (by kernel_rfl) ?_
        refine WO.bx (SA.ER _ 6 _ (by kernel_rfl) rfl) 48 #[.string (str ((s.take (runE inW s (p + 1))).drop (p + 1))), .string (str ((s.take (runE inW s (runE inW s (p + 1) + 1))).drop (runE inW s (p + 1) + 1)))] 53 (fun g => .slice (some ⟨g, 0, none⟩) 1 1) (by kernel_rfl) (kp_of (kpC HN_ge.lt (nin0 _) kp0)) ?_
        intro g281 w282 HB284 F283 le285 _
        have ne_g1_g281 : g1 ≠ g281 := Nat.ne_of_lt (Nat.lt_of_lt_of_le HB4.lt le285)
        have ne_ge_g281 : ge ≠ g281 := Nat.ne_of_lt (Nat.lt_of_lt_of_le HN_ge.lt le285)
        have ne_g6_g281 : g6 ≠ g281 := Nat.ne_of_lt (Nat.lt_of_lt_of_le HB280.lt le285)
        have nin_g281_FT : g281 ∉ FT := new_nin HO_FT.lt le285
        have ne_3_g281 : 3 ≠ g281 := Nat.ne_of_lt (Nat.lt_of_lt_of_le (var_lt 3 (by kernel_rfl) HS) le285)
        have ne_4_g281 : 4 ≠ g281 := Nat.ne_of_lt (Nat.lt_of_lt_of_le (var_lt 4 (by kernel_rfl) HR) le285)
        have ge_HA_g281 := Nat.le_trans HA.size le285
        have HB4 := Blk.keep HB4 F283 (nin0 _)
        have HN_ge := Blk.keep HN_ge F283 (nin0 _)
        have HB280 := Blk.keep HB280 F283 (nin0 _)
        have HO_FT := HO_FT.keep F283 (fun _ _ => nin0 _)
        have HS := var_keep 3 (by kernel_rfl) HS F283 (nin0 _)
        have HR := var_keep 4 (by kernel_rfl) HR F283 (nin0 _)
        have HA := Fr.step0 HA F283
        refine WO.appX (SA.E _ 7 _ (by kernel_rfl) rfl) 49 (m := 1) (ys := List.map cT ([((((s.take (runE inW s (p + 1))).drop (p + 1)), ((s.take (runE inW s (runE inW s (p + 1) + 1))).drop (runE inW s (p + 1) + 1))) : L × L)])) et_t HO_FT (by rw [List.length_map] <;> first | rfl | omega | (simp <;> omega)) (RowB.src (RowB.of_blk (n := 1) HB284 (List.map cT [((((s.take (runE inW s (p + 1))).drop (p + 1)), ((s.take (runE inW s (runE inW s (p + 1) + 1))).drop (runE inW s (p + 1) + 1))) : L × L)]) rfl rfl (cT_len _) (cT_one _) (by omega))) (cT_len _) (cT_one _) (by kernel_rfl) (by rw [List.length_map]; first | omega | (simp only [List.length_nil]; omega)) (by rw [List.length_map]; first | omega | (simp only [List.length_nil]; omega)) (fun _ _ => trivial) ?_
        intro v291 w292 G293 HO294 F295 hg296
        rw [← List.map_append] at HO294
        have nin_g1_G293 : g1 ∉ G293 := grow_nin hg296 nin_g1_FT HB4.lt
        have nin_ge_G293 : ge ∉ G293 := grow_nin hg296 nin_ge_FT HN_ge.lt
        have nin_g6_G293 : g6 ∉ G293 := grow_nin hg296 nin_g6_FT HB280.lt
        have nin_g281_G293 : g281 ∉ G293 := grow_nin hg296 nin_g281_FT HB284.lt
        have nin_3_G293 : 3 ∉ G293 := grow_nin hg296 nin_3_FT ((var_lt 3 (by kernel_rfl) HS))
        have nin_4_G293 : 4 ∉ G293 := grow_nin hg296 nin_4_FT ((var_lt 4 (by kernel_rfl) HR))
        have ge_HA_G293 : ∀ y ∈ G293, (World.heap w).size ≤ y := grow_ge hg296 ge_HA_FT HA.size
        have HB4 := Blk.keep HB4 F295 nin_g1_FT
        have HN_ge := Blk.keep HN_ge F295 nin_ge_FT
        have HB280 := Blk.keep HB280 F295 nin_g6_FT
        have HB284 := Blk.keep HB284 F295 nin_g281_FT
        have HS := var_keep 3 (by kernel_rfl) HS F295 nin_3_FT
        have HR := var_keep 4 (by kernel_rfl) HR F295 nin_4_FT
        have HA := Fr.step HA F295 (inF ge_HA_FT)
        obtain ⟨A297, cap298, rfl⟩ := HO294.sliceN (List.length_map _)
        have := @List.length_append _ acc ([((((s.take (runE inW s (p + 1))).drop (p + 1)), ((s.take (runE inW s (runE inW s (p + 1) + 1))).drop (runE inW s (p + 1) + 1))) : L × L)])
        refine WO.one (SA.F (kpR _) (kpT _) _ 8 _ (by kernel_rfl)) 50 (.pointer (some ⟨ge, 1, none⟩)) (by kernel_rfl) ?_
        refine WO.st (SA.E _ 9 _ (by kernel_rfl) rfl) ge 1 [.slice A297 ((acc ++ [((((s.take (runE inW s (p + 1))).drop (p + 1)), ((s.take (runE inW s (runE inW s (p + 1) + 1))).drop (runE inW s (p + 1) + 1))) : L × L)]).length) cap298] #[.string (str ((s.take (runE inW s 0)).drop 0)), .slice A297 ((acc ++ [((((s.take (runE inW s (p + 1))).drop (p + 1)), ((s.take (runE inW s (runE inW s (p + 1) + 1))).drop (runE inW s (p + 1) + 1))) : L × L)]).length) cap298, .int .i64 0, .int .i64 0, .int .i64 0] (by kernel_rfl) HN_ge (by kernel_rfl) (by kernel_rfl) (fun _ _ => trivial) ?_
        intro w299 HB301 F300 _
        have HB4 := Blk.keep HB4 F300 (ninC ne_g1_ge (nin0 _))
        have HB280 := Blk.keep HB280 F300 (ninC ne_g6_ge (nin0 _))
        have HB284 := Blk.keep HB284 F300 (ninC (Ne.symm ne_ge_g281) (nin0 _))
        have HO294 := HO294.keep F300 (djB nin_ge_G293)
        have HS := var_keep 3 (by kernel_rfl) HS F300 (ninC ne_3_ge (nin0 _))
        have HR := var_keep 4 (by kernel_rfl) HR F300 (ninC ne_4_ge (nin0 _))
        have HA := Fr.step HA F300 (inSR ge_HA_ge inS0)
        refine WO.doneA (by kernel_rfl) ?_
        refine WQ.keep [0, 2, 3, 4, 5, 6] (e' := [(0, .string (str s)), (2, .pointer (some ⟨g1, 0, none⟩)), (3, .nilIface), (4, .pointer (some ⟨g6, 0, none⟩)), (5, .pointer (some ⟨ge, 0, none⟩)), (6, .string (str ((s.take (runE inW s (p + 1))).drop (p + 1))))]) (by kernel_rfl) ?_
        refine WQ.thenN ?_
        refine WE.exit ?_
        refine WQ.blkX (by kernel_rfl) ?_
        refine WQ.thenE ?_
        refine WQ.blkE ?_
        refine WQ.round ?_
        intro a_ ha_
        refine ⟨(k, runE inW s (runE inW s (p + 1) + 1), ((runE inW s (p + 1) + 1 : Nat) : Int), G293, A297, cap298, (acc ++ [((((s.take (runE inW s (p + 1))).drop (p + 1)), ((s.take (runE inW s (runE inW s (p + 1) + 1))).drop (runE inW s (p + 1) + 1))) : L × L)])), ?_, ha_.keep [0, 2, 3, 4, 5] (by kernel_rfl), ?_⟩
        ·
         show (if _ then _ else _) < (if _ then _ else _); first | (rw [if_pos rfl, if_pos rfl]; omega) | (rw [if_neg (by omega), if_pos rfl]; omega)
        ·
         exact ⟨.inr ⟨_, rfl, hps⟩, by omega, HB4, HB280, HB301, HS, HR, HO294, nin_g1_G293, nin_g6_G293, nin_ge_G293, nin_3_G293, nin_4_G293, ge_HA_G293, HA⟩
      ·
       refine WE.draw [.free, .still, .free, .free, .effR, .free, .effR, .eff, .free, .eff] (Kp [ge]) (kpR _) (by kernel_rfl) 10 (Array.replicate 10 false) (by kernel_rfl) rfl ?_
       intro w302 F303 _
       have HB4 := Blk.keep HB4 F303 (nin0 _)
       have HN_ge := Blk.keep HN_ge F303 (nin0 _)
       have HB246 := Blk.keep HB246 F303 (nin0 _)
       have HO_FT := HO_FT.keep F303 (fun _ _ => nin0 _)
       have HS := var_keep 3 (by kernel_rfl) HS F303 (nin0 _)
       have HR := var_keep 4 (by kernel_rfl) HR F303 (nin0 _)
       have HA := Fr.step0 HA F303
       refine WO.one (SA.F (kpR _) (kpT _) _ 0 _ (by kernel_rfl)) 42 (.pointer (some ⟨ge, 1, none⟩)) (by kernel_rfl) ?_
       refine WO.ld (SA.S (kpR _) (kpT _) _ 1 _ (by kernel_rfl)) 43 (.slice At acc.length ct) (by kernel_rfl) (fun _ k => (HN_ge.kp k (by simp)).at 1 (by kernel_rfl)) ?_
       refine WO.one (SA.F (kpR _) (kpT _) _ 2 _ (by kernel_rfl)) 44 (.string (str ((s.take (runE inW s (p + 1))).drop (p + 1)))) (by kernel_rfl) ?_
       refine WO.one (SA.F (kpR _) (kpT _) _ 3 _ (by kernel_rfl)) 45 (.pointer (some ⟨g6, 0, none⟩)) (by kernel_rfl) ?_
       refine WO.call (SA.ER _ 4 _ (by kernel_rfl) rfl) 46 (by kernel_rfl) (word_bad2 g6 s p1 ((q : Nat) : Int) _ (by omega) (by omega) (by omega) HB246) ?_
       rintro _ w304 ⟨rfl, HB306, F305⟩
       refine ⟨_, rfl, (kp_of (kpC HN_ge.lt (ninC (Ne.symm ne_g6_ge) (nin0 _)) kp0)) _ F305, ?_⟩
       have HB4 := Blk.keep HB4 F305 (ninC ne_g1_g6 (nin0 _))
       have HN_ge := Blk.keep HN_ge F305 (ninC (Ne.symm ne_g6_ge) (nin0 _))
       have HO_FT := HO_FT.keep F305 (djB nin_g6_FT)
       have HS := var_keep 3 (by kernel_rfl) HS F305 (ninC ne_3_g6 (nin0 _))
       have HR := var_keep 4 (by kernel_rfl) HR F305 (ninC ne_4_g6 (nin0 _))
       have HA := Fr.step HA F305 (inSR ge_HA_g6 inS0)
       refine WO.one (SA.F (kpR _) (kpT _) _ 5 _ (by kernel_rfl)) 47 (.agg #[.string (str ((s.take (runE inW s (p + 1))).drop (p + 1))), .string (str ((s.take p1).drop p1))]) (by kernel_rfl) ?_
       refine WO.bx (SA.ER _ 6 _ (by kernel_rfl) rfl) 48 #[.string (str ((s.take (runE inW s (p + 1))).drop (p + 1))), .string (str ((s.take p1).drop p1))] 53 (fun g => .slice (some ⟨g, 0, none⟩) 1 1) (by kernel_rfl) (kp_of (kpC HN_ge.lt (nin0 _) kp0)) ?_
       intro g307 w308 HB310 F309 le311 _
       have ne_g1_g307 : g1 ≠ g307 := Nat.ne_of_lt (Nat.lt_of_lt_of_le HB4.lt le311)
       have ne_ge_g307 : ge ≠ g307 := Nat.ne_of_lt (Nat.lt_of_lt_of_le HN_ge.lt le311)
       have ne_g6_g307 : g6 ≠ g307 := Nat.ne_of_lt (Nat.lt_of_lt_of_le HB306.lt le311)
       have nin_g307_FT : g307 ∉ FT := new_nin HO_FT.lt le311
       have ne_3_g307 : 3 ≠ g307 := Nat.ne_of_lt (Nat.lt_of_lt_of_le (var_lt 3 (by kernel_rfl) HS) le311)
       have ne_4_g307 : 4 ≠ g307 := Nat.ne_of_lt (Nat.lt_of_lt_of_le (var_lt 4 (by kernel_rfl) HR) le311)
       have ge_HA_g307 := Nat.le_trans HA.size le311
       have HB4 := Blk.keep HB4 F309 (nin0 _)
       have HN_ge := Blk.keep HN_ge F309 (nin0 _)
       have HB306 := Blk.keep HB306 F309 (nin0 _)
       have HO_FT := HO_FT.keep F309 (fun _ _ => nin0 _)
       have HS := var_keep 3 (by kernel_rfl) HS F309 (nin0 _)
       have HR := var_keep 4 (by kernel_rfl) HR F309 (nin0 _)
       have HA := Fr.step0 HA F309
       refine WO.appX (SA.E _ 7 _ (by kernel_rfl) rfl) 49 (m := 1) (ys := List.map cT ([((((s.take (runE inW s (p + 1))).drop (p + 1)), ((s.take p1).drop p1)) : L × L)])) et_t HO_FT (by rw [List.length_map] <;> first | rfl | omega | (simp <;> omega)) (RowB.src (RowB.of_blk (n := 1) HB310 (List.map cT [((((s.take (runE inW s (p + 1))).drop (p + 1)), ((s.take p1).drop p1)) : L × L)]) rfl rfl (cT_len _) (cT_one _) (by omega))) (cT_len _) (cT_one _) (by kernel_rfl) (by rw [List.length_map]; first | omega | (simp only [List.length_nil]; omega)) (by rw [List.length_map]; first | omega | (simp only [List.length_nil]; omega)) (fun _ _ => trivial) ?_
       intro v317 w318 G319 HO320 F321 hg322
       rw [← List.map_append] at HO320
       have nin_g1_G319 : g1 ∉ G319 := grow_nin hg322 nin_g1_FT HB4.lt
       have nin_ge_G319 : ge ∉ G319 := grow_nin hg322 nin_ge_FT HN_ge.lt
       have nin_g6_G319 : g6 ∉ G319 := grow_nin hg322 nin_g6_FT HB306.lt
       have nin_g307_G319 : g307 ∉ G319 := grow_nin hg322 nin_g307_FT HB310.lt
       have nin_3_G319 : 3 ∉ G319 := grow_nin hg322 nin_3_FT ((var_lt 3 (by kernel_rfl) HS))
       have nin_4_G319 : 4 ∉ G319 := grow_nin hg322 nin_4_FT ((var_lt 4 (by kernel_rfl) HR))
       have ge_HA_G319 : ∀ y ∈ G319, (World.heap w).size ≤ y := grow_ge hg322 ge_HA_FT HA.size
       have HB4 := Blk.keep HB4 F321 nin_g1_FT
       have HN_ge := Blk.keep HN_ge F321 nin_ge_FT
       have HB306 := Blk.keep HB306 F321 nin_g6_FT
       have HB310 := Blk.keep HB310 F321 nin_g307_FT
       have HS := var_keep 3 (by kernel_rfl) HS F321 nin_3_FT
       have HR := var_keep 4 (by kernel_rfl) HR F321 nin_4_FT
       have HA := Fr.step HA F321 (inF ge_HA_FT)
       obtain ⟨A323, cap324, rfl⟩ := HO320.sliceN (List.length_map _)
       have := @List.length_append _ acc ([((((s.take (runE inW s (p + 1))).drop (p + 1)), ((s.take p1).drop p1)) : L × L)])
       refine WO.one (SA.F (kpR _) (kpT _) _ 8 _ (by kernel_rfl)) 50 (.pointer (some ⟨ge, 1, none⟩)) (by kernel_rfl) ?_
       refine WO.st (SA.E _ 9 _ (by kernel_rfl) rfl) ge 1 [.slice A323 ((acc ++ [((((s.take (runE inW s (p + 1))).drop (p + 1)), ((s.take p1).drop p1)) : L × L)]).length) cap324] #[.string (str ((s.take (runE inW s 0)).drop 0)), .slice A323 ((acc ++ [((((s.take (runE inW s (p + 1))).drop (p + 1)), ((s.take p1).drop p1)) : L × L)]).length) cap324, .int .i64 0, .int .i64 0, .int .i64 0] (by kernel_rfl) HN_ge (by kernel_rfl) (by kernel_rfl) (fun _ _ => trivial) ?_
       intro w325 HB327 F326 _
       have HB4 := Blk.keep HB4 F326 (ninC ne_g1_ge (nin0 _))
       have HB306 := Blk.keep HB306 F326 (ninC ne_g6_ge (nin0 _))
       have HB310 := Blk.keep HB310 F326 (ninC (Ne.symm ne_ge_g307) (nin0 _))
       have HO320 := HO320.keep F326 (djB nin_ge_G319)
       have HS := var_keep 3 (by kernel_rfl) HS F326 (ninC ne_3_ge (nin0 _))
       have HR := var_keep 4 (by kernel_rfl) HR F326 (ninC ne_4_ge (nin0 _))
       have HA := Fr.step HA F326 (inSR ge_HA_ge inS0)
       refine WO.doneA (by kernel_rfl) ?_
       refine WQ.keep [0, 2, 3, 4, 5, 6] (e' := [(0, .string (str s)), (2, .pointer (some ⟨g1, 0, none⟩)), (3, .nilIface), (4, .pointer (some ⟨g6, 0, none⟩)), (5, .pointer (some ⟨ge, 0, none⟩)), (6, .string (str ((s.take (runE inW s (p + 1))).drop (p + 1))))]) (by kernel_rfl) ?_
       refine WQ.thenN ?_
       refine WE.exit ?_
       refine WQ.blkX (by kernel_rfl) ?_
       refine WQ.thenE ?_
       refine WQ.blkE ?_
       refine WQ.round ?_
       intro a_ ha_
       refine ⟨(k, p1, ((q : Nat) : Int), G319, A323, cap324, (acc ++ [((((s.take (runE inW s (p + 1))).drop (p + 1)), ((s.take p1).drop p1)) : L × L)])), ?_, ha_.keep [0, 2, 3, 4, 5] (by kernel_rfl), ?_⟩
       ·
        show (if _ then _ else _) < (if _ then _ else _); first | (rw [if_pos rfl, if_pos rfl]; omega) | (rw [if_neg (by omega), if_pos rfl]; omega)
       ·
        exact ⟨.inr ⟨_, rfl, hps⟩, by omega, HB4, HB306, HB327, HS, HR, HO320, nin_g1_G319, nin_g6_G319, nin_ge_G319, nin_3_G319, nin_4_G319, ge_HA_G319, HA⟩
     rcases hst with ⟨rfl, hK1, rfl⟩ | ⟨q, rfl, hps⟩
     ·
      refine WE.region ?_
      refine WO.run 1 0 [(40, .pointer (some ⟨g6, 0, none⟩))] (by kernel_rfl) (by kernel_rfl) ?_
      rcases Decidable.em (isAt s (runE inW s (p + 1)) 61) with hA328 | hA328
      ·
       have hlt_ := hA328.1
       refine WO.call (SQ.E 1 (by kernel_rfl)) 41 (by kernel_rfl) (sign_yes g6 s (runE inW s (p + 1)) _ (by omega) (by omega) 61 hA328.1 (u8_of (by decide) hA328.2) HB246) ?_
       rintro _ w329 ⟨rfl, HB331, F330⟩
       refine ⟨_, rfl, trivial, ?_⟩
       have HB4 := Blk.keep HB4 F330 (ninC ne_g1_g6 (nin0 _))
       have HN_ge := Blk.keep HN_ge F330 (ninC (Ne.symm ne_g6_ge) (nin0 _))
       have HO_FT := HO_FT.keep F330 (djB nin_g6_FT)
       have HS := var_keep 3 (by kernel_rfl) HS F330 (ninC ne_3_g6 (nin0 _))
       have HR := var_keep 4 (by kernel_rfl) HR F330 (ninC ne_4_g6 (nin0 _))
       have HA := Fr.step HA F330 (inSR ge_HA_g6 inS0)
       refine WO.done (by kernel_rfl) ?_
       refine WQ.keep [0, 2, 3, 4, 5, 6] (e' := [(0, .string (str s)), (2, .pointer (some ⟨g1, 0, none⟩)), (3, .nilIface), (4, .pointer (some ⟨g6, 0, none⟩)), (5, .pointer (some ⟨ge, 0, none⟩)), (6, .string (str ((s.take (runE inW s (p + 1))).drop (p + 1))))]) (by kernel_rfl) ?_
       refine WQ.round ?_
       intro a_ ha_
       refine ⟨(runE inW s (p + 1) + 1, -1), ha_.keep [0, 2, 3, 4, 5, 6] (by kernel_rfl), ?_⟩
       exact ⟨.inl ⟨rfl, hK1, hA328, rfl⟩, by omega, HB4, HN_ge, HB331, HO_FT, HS, HR, HA⟩
      ·
       refine WO.call (SQ.E 1 (by kernel_rfl)) 41 (by kernel_rfl) (sign_no g6 s (runE inW s (p + 1)) _ (by omega) (by omega) 61 (fun h_ => hA328 ⟨h_.1, by rw [h_.2]; rfl⟩) HB246) ?_
       rintro _ w332 ⟨rfl, HB334, F333⟩
       refine ⟨_, rfl, trivial, ?_⟩
       have HB4 := Blk.keep HB4 F333 (ninC ne_g1_g6 (nin0 _))
       have HN_ge := Blk.keep HN_ge F333 (ninC (Ne.symm ne_g6_ge) (nin0 _))
       have HO_FT := HO_FT.keep F333 (djB nin_g6_FT)
       have HS := var_keep 3 (by kernel_rfl) HS F333 (ninC ne_3_g6 (nin0 _))
       have HR := var_keep 4 (by kernel_rfl) HR F333 (ninC ne_4_g6 (nin0 _))
       have HA := Fr.step HA F333 (inSR ge_HA_g6 inS0)
       have hps : parseP s = .inr (runE inW s (p + 1)) := hps.trans (congrArg (afterP s) (tags_eq hA44 hK1 hA328))
       refine WO.done (by kernel_rfl) ?_
       refine WQ.keep [0, 2, 3, 4, 5, 6] (e' := [(0, .string (str s)), (2, .pointer (some ⟨g1, 0, none⟩)), (3, .nilIface), (4, .pointer (some ⟨g6, 0, none⟩)), (5, .pointer (some ⟨ge, 0, none⟩)), (6, .string (str ((s.take (runE inW s (p + 1))).drop (p + 1))))]) (by kernel_rfl) ?_
       refine WQ.round ?_
       intro a_ ha_
       refine ⟨(runE inW s (p + 1), ((runE inW s (p + 1) : Nat) : Int)), ha_.keep [0, 2, 3, 4, 5, 6] (by kernel_rfl), ?_⟩
       exact ⟨.inr ⟨_, rfl, hps⟩, by omega, HB4, HN_ge, HB334, HO_FT, HS, HR, HA⟩
     ·
      refine WE.region ?_
      refine WO.run 1 0 [(40, .pointer (some ⟨g6, 0, none⟩))] (by kernel_rfl) (by kernel_rfl) ?_
      refine WO.call (SQ.E 1 (by kernel_rfl)) 41 (by kernel_rfl) (sign_bad g6 s p1 ((q : Nat) : Int) _ (by omega) (by omega) (by omega) 61 HB246) ?_
      rintro _ w335 ⟨rfl, HB337, F336⟩
      refine ⟨_, rfl, trivial, ?_⟩
      have HB4 := Blk.keep HB4 F336 (ninC ne_g1_g6 (nin0 _))
      have HN_ge := Blk.keep HN_ge F336 (ninC (Ne.symm ne_g6_ge) (nin0 _))
      have HO_FT := HO_FT.keep F336 (djB nin_g6_FT)
      have HS := var_keep 3 (by kernel_rfl) HS F336 (ninC ne_3_g6 (nin0 _))
      have HR := var_keep 4 (by kernel_rfl) HR F336 (ninC ne_4_g6 (nin0 _))
      have HA := Fr.step HA F336 (inSR ge_HA_g6 inS0)
      refine WO.done (by kernel_rfl) ?_
      refine WQ.keep [0, 2, 3, 4, 5, 6] (e' := [(0, .string (str s)), (2, .pointer (some ⟨g1, 0, none⟩)), (3, .nilIface), (4, .pointer (some ⟨g6, 0, none⟩)), (5, .pointer (some ⟨ge, 0, none⟩)), (6, .string (str ((s.take (runE inW s (p + 1))).drop (p + 1))))]) (by kernel_rfl) ?_
      refine WQ.round ?_
      intro a_ ha_
      refine ⟨(p1, ((q : Nat) : Int)), ha_.keep [0, 2, 3, 4, 5, 6] (by kernel_rfl), ?_⟩
      exact ⟨.inr ⟨_, rfl, hps⟩, by omega, HB4, HN_ge, HB337, HO_FT, HS, HR, HA⟩
    refine WE.region ?_
    refine WO.run 1 0 [(38, .pointer (some ⟨g6, 0, none⟩))] (by kernel_rfl) (by kernel_rfl) ?_
    have he1 := runE_ge inW s (p + 1)
    have he2 := runE_le inW (show p + 1 ≤ s.length by omega)
    rcases Bool.eq_false_or_eq_true (isWord (part s (p + 1))) with hK338 | hK338
    ·
     refine WO.call (SQ.E 1 (by kernel_rfl)) 39 (by kernel_rfl) (word_yes g6 s (p + 1) _ (by omega) (by omega) hK338 HB246) ?_
     rintro _ w339 ⟨rfl, HB341, F340⟩
     refine ⟨_, rfl, trivial, ?_⟩
     have HB4 := Blk.keep HB4 F340 (ninC ne_g1_g6 (nin0 _))
     have HN_ge := Blk.keep HN_ge F340 (ninC (Ne.symm ne_g6_ge) (nin0 _))
     have HO_FT := HO_FT.keep F340 (djB nin_g6_FT)
     have HS := var_keep 3 (by kernel_rfl) HS F340 (ninC ne_3_g6 (nin0 _))
     have HR := var_keep 4 (by kernel_rfl) HR F340 (ninC ne_4_g6 (nin0 _))
     have HA := Fr.step HA F340 (inSR ge_HA_g6 inS0)
     refine WO.run 1 2 [(6, .string (str ((s.take (runE inW s (p + 1))).drop (p + 1))))] (by kernel_rfl) (by kernel_rfl) ?_
     refine WO.done (by kernel_rfl) ?_
     refine WQ.keep [0, 2, 3, 4, 5, 6] (e' := [(0, .string (str s)), (2, .pointer (some ⟨g1, 0, none⟩)), (3, .nilIface), (4, .pointer (some ⟨g6, 0, none⟩)), (5, .pointer (some ⟨ge, 0, none⟩)), (6, .string (str ((s.take (runE inW s (p + 1))).drop (p + 1))))]) (by kernel_rfl) ?_
     refine WQ.round ?_
     intro a_ ha_
     refine ⟨(runE inW s (p + 1), -1), ha_.keep [0, 2, 3, 4, 5, 6] (by kernel_rfl), ?_⟩
     exact ⟨.inl ⟨rfl, hK338, rfl⟩, by omega, HB4, HN_ge, HB341, HO_FT, HS, HR, HA⟩
    ·
     refine WO.call (SQ.E 1 (by kernel_rfl)) 39 (by kernel_rfl) (word_no g6 s (p + 1) _ (by omega) (by omega) hK338 HB246) ?_
     rintro _ w342 ⟨rfl, HB344, F343⟩
     refine ⟨_, rfl, trivial, ?_⟩
     have HB4 := Blk.keep HB4 F343 (ninC ne_g1_g6 (nin0 _))
     have HN_ge := Blk.keep HN_ge F343 (ninC (Ne.symm ne_g6_ge) (nin0 _))
     have HO_FT := HO_FT.keep F343 (djB nin_g6_FT)
     have HS := var_keep 3 (by kernel_rfl) HS F343 (ninC ne_3_g6 (nin0 _))
     have HR := var_keep 4 (by kernel_rfl) HR F343 (ninC ne_4_g6 (nin0 _))
     have HA := Fr.step HA F343 (inSR ge_HA_g6 inS0)
     have hps : parseP s = .inr (p + 1) := hps.trans (congrArg (afterP s) (tags_key hA44 hK338))
     refine WO.run 1 2 [(6, .string (str ((s.take (runE inW s (p + 1))).drop (p + 1))))] (by kernel_rfl) (by kernel_rfl) ?_
     refine WO.done (by kernel_rfl) ?_
     refine WQ.keep [0, 2, 3, 4, 5, 6] (e' := [(0, .string (str s)), (2, .pointer (some ⟨g1, 0, none⟩)), (3, .nilIface), (4, .pointer (some ⟨g6, 0, none⟩)), (5, .pointer (some ⟨ge, 0, none⟩)), (6, .string (str ((s.take (runE inW s (p + 1))).drop (p + 1))))]) (by kernel_rfl) ?_
     refine WQ.round ?_
     intro a_ ha_
     refine ⟨(runE inW s (p + 1), ((p + 1 : Nat) : Int)), ha_.keep [0, 2, 3, 4, 5, 6] (by kernel_rfl), ?_⟩
     exact ⟨.inr ⟨_, rfl, hps⟩, by omega, HB4, HN_ge, HB344, HO_FT, HS, HR, HA⟩
   ·
    refine WO.call (SQ.E 1 (by kernel_rfl)) 26 (by kernel_rfl) (next_no g6 s p _ (by omega) (by omega) 44 (fun h_ => hA243 ⟨h_.1, by rw [h_.2]; rfl⟩) HB9) ?_
    rintro _ w345 ⟨rfl, HB347, F346⟩
    refine ⟨_, rfl, trivial, ?_⟩
    have HB4 := Blk.keep HB4 F346 (ninC ne_g1_g6 (nin0 _))
    have HN_ge := Blk.keep HN_ge F346 (ninC (Ne.symm ne_g6_ge) (nin0 _))
    have HO_FT := HO_FT.keep F346 (djB nin_g6_FT)
    have HS := var_keep 3 (by kernel_rfl) HS F346 (ninC ne_3_g6 (nin0 _))
    have HR := var_keep 4 (by kernel_rfl) HR F346 (ninC ne_4_g6 (nin0 _))
    have HA := Fr.step HA F346 (inSR ge_HA_g6 inS0)
    refine WO.run 1 2 [(24, .bool false)] (by kernel_rfl) (by kernel_rfl) ?_
    refine WO.done (by kernel_rfl) ?_
    refine WQ.keep [0, 2, 3, 4, 5, 24] (e' := [(0, .string (str s)), (2, .pointer (some ⟨g1, 0, none⟩)), (3, .nilIface), (4, .pointer (some ⟨g6, 0, none⟩)), (5, .pointer (some ⟨ge, 0, none⟩)), (24, .bool false)]) (by kernel_rfl) ?_
    refine WQ.thenN ?_
    refine WE.condF (by kernel_rfl) ?_
    refine WE.skip ?_
    refine WQ.blkN ?_
    refine WQ.thenN ?_
    refine WE.exit ?_
    refine WQ.blkX (by kernel_rfl) ?_
    refine WQ.thenE ?_
    refine WQ.blkE ?_
    have hps : parseP s = restP s acc p := hps.trans (congrArg (afterP s) (tags_stop hA243))
    refine WQ.round ?_
    intro a_ ha_
    refine ⟨(p, -1, FT, At, ct, acc), ha_.keep [0, 2, 3, 4, 5] (by kernel_rfl), ?_⟩
    exact ⟨(.inl ⟨rfl, hps⟩), by omega, HB4, HB347, HN_ge, HS, HR, HO_FT, nin_g1_FT, nin_g6_FT, nin_ge_FT, nin_3_FT, nin_4_FT, ge_HA_FT, HA⟩
  ·
   refine WE.region ?_
   refine WO.run 3 0 [(21, .pointer (some ⟨g6, 2, none⟩)), (20, .pointer (some ⟨g6, 0, none⟩)), (19, .pointer (some ⟨g6, 0, none⟩))] (by kernel_rfl) (by kernel_rfl) ?_
   refine WO.ld (SQ.S 3 (by kernel_rfl)) 22 (.int .i64 ((q : Nat) : Int)) (by kernel_rfl) (same (HB9.at 2 (by kernel_rfl))) ?_
   refine WO.one (SQ.F 4 (by kernel_rfl)) 23 (.bool (decide (((q : Int) : Int) < (0 : Int)))) (by kernel_rfl) ?_
   refine WO.topPF (((q : Int) : Int) < (0 : Int)) (by omega) ?_
   refine WO.done (by kernel_rfl) ?_
   refine WQ.keep [0, 2, 3, 4, 5, 23] (e' := [(0, .string (str s)), (2, .pointer (some ⟨g1, 0, none⟩)), (3, .nilIface), (4, .pointer (some ⟨g6, 0, none⟩)), (5, .pointer (some ⟨ge, 0, none⟩)), (23, .bool false)]) (by kernel_rfl) ?_
   refine WQ.thenN ?_
   refine WE.condF (by kernel_rfl) ?_
   refine WE.exit ?_
   refine WQ.thenE ?_
   refine WQ.thenE ?_
   refine WQ.blkE ?_
   refine WQ.round ?_
   intro a_ ha_
   refine ⟨(p, ((q : Nat) : Int), FT, At, ct, acc), ha_.keep [0, 2, 3, 4, 5] (by kernel_rfl), ?_⟩
   exact ⟨(.inr ⟨_, rfl, hps⟩), by omega, HB4, HB9, HN_ge, HS, HR, HO_FT, nin_g1_FT, nin_g6_FT, nin_ge_FT, nin_3_FT, nin_4_FT, ge_HA_FT, HA⟩
 refine WE.region ?_
 refine WO.run 1 0 [(16, .pointer (some ⟨g6, 0, none⟩))] (by kernel_rfl) (by kernel_rfl) ?_
 have he1 := runE_ge inW s 0
 have he2 := runE_le inW (show 0 ≤ s.length by omega)
 rcases Bool.eq_false_or_eq_true (isWord (part s 0)) with hK348 | hK348
 ·
  refine WO.call (SQ.E 1 (by kernel_rfl)) 17 (by kernel_rfl) (word_yes g6 s 0 _ (by omega) (by omega) hK348 HB9) ?_
  rintro _ w349 ⟨rfl, HB351, F350⟩
  refine ⟨_, rfl, trivial, ?_⟩
  have HB4 := Blk.keep HB4 F350 (ninC ne_g1_g6 (nin0 _))
  have HS := var_keep 3 (by kernel_rfl) HS F350 (ninC ne_3_g6 (nin0 _))
  have HR := var_keep 4 (by kernel_rfl) HR F350 (ninC ne_4_g6 (nin0 _))
  have HA := Fr.step HA F350 (inSR ge_HA_g6 inS0)
  have hps : parseP s = afterP s (tagsP s 6 (runE inW s 0) []) := pp_tags hK348
  refine WO.run 1 2 [(18, .agg #[.string (str ((s.take (runE inW s 0)).drop 0)), .slice none 0 0, .int .i64 0, .int .i64 0, .int .i64 0])] (by kernel_rfl) (by kernel_rfl) ?_
  refine WO.bx (SQ.E 3 (by kernel_rfl)) 5 #[.string (⟨#[]⟩), .slice none 0 0, .int .i64 0, .int .i64 0, .int .i64 0] 25 (fun g => .pointer (some ⟨g, 0, none⟩)) (by kernel_rfl) (fun _ _ => trivial) ?_
  intro g352 w353 HB355 F354 le356 _
  have ne_g1_g352 : g1 ≠ g352 := Nat.ne_of_lt (Nat.lt_of_lt_of_le HB4.lt le356)
  have ne_g6_g352 : g6 ≠ g352 := Nat.ne_of_lt (Nat.lt_of_lt_of_le HB351.lt le356)
  have ne_3_g352 : 3 ≠ g352 := Nat.ne_of_lt (Nat.lt_of_lt_of_le (var_lt 3 (by kernel_rfl) HS) le356)
  have ne_4_g352 : 4 ≠ g352 := Nat.ne_of_lt (Nat.lt_of_lt_of_le (var_lt 4 (by kernel_rfl) HR) le356)
  have ge_HA_g352 := Nat.le_trans HA.size le356
  have HB4 := Blk.keep HB4 F354 (nin0 _)
  have HB351 := Blk.keep HB351 F354 (nin0 _)
  have HS := var_keep 3 (by kernel_rfl) HS F354 (nin0 _)
  have HR := var_keep 4 (by kernel_rfl) HR F354 (nin0 _)
  have HA := Fr.step0 HA F354
  refine WO.st (SQ.E 4 (by kernel_rfl)) g352 0 [.string (str ((s.take (runE inW s 0)).drop 0)), .slice none 0 0, .int .i64 0, .int .i64 0, .int .i64 0] #[.string (str ((s.take (runE inW s 0)).drop 0)), .slice none 0 0, .int .i64 0, .int .i64 0, .int .i64 0] (by kernel_rfl) HB355 (by kernel_rfl) (by kernel_rfl) (fun _ _ => trivial) ?_
  intro w357 HB359 F358 _
  have HB4 := Blk.keep HB4 F358 (ninC ne_g1_g352 (nin0 _))
  have HB351 := Blk.keep HB351 F358 (ninC ne_g6_g352 (nin0 _))
  have HS := var_keep 3 (by kernel_rfl) HS F358 (ninC ne_3_g352 (nin0 _))
  have HR := var_keep 4 (by kernel_rfl) HR F358 (ninC ne_4_g352 (nin0 _))
  have HA := Fr.step HA F358 (inSR ge_HA_g352 inS0)
  refine WO.done (by kernel_rfl) ?_
  refine WQ.keep [0, 2, 3, 4, 5] (e' := [(0, .string (str s)), (2, .pointer (some ⟨g1, 0, none⟩)), (3, .nilIface), (4, .pointer (some ⟨g6, 0, none⟩)), (5, .pointer (some ⟨g352, 0, none⟩))]) (by kernel_rfl) ?_
  refine WQ.round ?_
  intro a_ ha_
  refine ⟨(runE inW s 0, -1, g352), ha_.keep [0, 2, 3, 4, 5] (by kernel_rfl), ?_⟩
  exact ⟨.inl ⟨rfl, hps⟩, by omega, HB4, HB351, HS, HR, HB359, ne_g1_g352, ne_g6_g352, ne_3_g352, ne_4_g352, ge_HA_g352, HA⟩
 ·
  refine WO.call (SQ.E 1 (by kernel_rfl)) 17 (by kernel_rfl) (word_no g6 s 0 _ (by omega) (by omega) hK348 HB9) ?_
  rintro _ w360 ⟨rfl, HB362, F361⟩
  refine ⟨_, rfl, trivial, ?_⟩
  have HB4 := Blk.keep HB4 F361 (ninC ne_g1_g6 (nin0 _))
  have HS := var_keep 3 (by kernel_rfl) HS F361 (ninC ne_3_g6 (nin0 _))
  have HR := var_keep 4 (by kernel_rfl) HR F361 (ninC ne_4_g6 (nin0 _))
  have HA := Fr.step HA F361 (inSR ge_HA_g6 inS0)
  have hps : parseP s = .inr 0 := pp_name hK348
  refine WO.run 1 2 [(18, .agg #[.string (str ((s.take (runE inW s 0)).drop 0)), .slice none 0 0, .int .i64 0, .int .i64 0, .int .i64 0])] (by kernel_rfl) (by kernel_rfl) ?_
  refine WO.bx (SQ.E 3 (by kernel_rfl)) 5 #[.string (⟨#[]⟩), .slice none 0 0, .int .i64 0, .int .i64 0, .int .i64 0] 25 (fun g => .pointer (some ⟨g, 0, none⟩)) (by kernel_rfl) (fun _ _ => trivial) ?_
  intro g363 w364 HB366 F365 le367 _
  have ne_g1_g363 : g1 ≠ g363 := Nat.ne_of_lt (Nat.lt_of_lt_of_le HB4.lt le367)
  have ne_g6_g363 : g6 ≠ g363 := Nat.ne_of_lt (Nat.lt_of_lt_of_le HB362.lt le367)
  have ne_3_g363 : 3 ≠ g363 := Nat.ne_of_lt (Nat.lt_of_lt_of_le (var_lt 3 (by kernel_rfl) HS) le367)
  have ne_4_g363 : 4 ≠ g363 := Nat.ne_of_lt (Nat.lt_of_lt_of_le (var_lt 4 (by kernel_rfl) HR) le367)
  have ge_HA_g363 := Nat.le_trans HA.size le367
  have HB4 := Blk.keep HB4 F365 (nin0 _)
  have HB362 := Blk.keep HB362 F365 (nin0 _)
  have HS := var_keep 3 (by kernel_rfl) HS F365 (nin0 _)
  have HR := var_keep 4 (by kernel_rfl) HR F365 (nin0 _)
  have HA := Fr.step0 HA F365
  refine WO.st (SQ.E 4 (by kernel_rfl)) g363 0 [.string (str ((s.take (runE inW s 0)).drop 0)), .slice none 0 0, .int .i64 0, .int .i64 0, .int .i64 0] #[.string (str ((s.take (runE inW s 0)).drop 0)), .slice none 0 0, .int .i64 0, .int .i64 0, .int .i64 0] (by kernel_rfl) HB366 (by kernel_rfl) (by kernel_rfl) (fun _ _ => trivial) ?_
  intro w368 HB370 F369 _
  have HB4 := Blk.keep HB4 F369 (ninC ne_g1_g363 (nin0 _))
  have HB362 := Blk.keep HB362 F369 (ninC ne_g6_g363 (nin0 _))
  have HS := var_keep 3 (by kernel_rfl) HS F369 (ninC ne_3_g363 (nin0 _))
  have HR := var_keep 4 (by kernel_rfl) HR F369 (ninC ne_4_g363 (nin0 _))
  have HA := Fr.step HA F369 (inSR ge_HA_g363 inS0)
  refine WO.done (by kernel_rfl) ?_
  refine WQ.keep [0, 2, 3, 4, 5] (e' := [(0, .string (str s)), (2, .pointer (some ⟨g1, 0, none⟩)), (3, .nilIface), (4, .pointer (some ⟨g6, 0, none⟩)), (5, .pointer (some ⟨g363, 0, none⟩))]) (by kernel_rfl) ?_
  refine WQ.round ?_
  intro a_ ha_
  refine ⟨(runE inW s 0, (0 : Int), g363), ha_.keep [0, 2, 3, 4, 5] (by kernel_rfl), ?_⟩
  exact ⟨.inr ⟨_, rfl, hps⟩, by omega, HB4, HB362, HS, HR, HB370, ne_g1_g363, ne_g6_g363, ne_3_g363, ne_4_g363, ge_HA_g363, HA⟩
set_option maxRecDepth 100000 in
set_option maxHeartbeats 400000 in
theorem parse_long (s : L) (w : World) (hs : 300 < s.length) (hl : s.length ≤ 1000000) :
  Calls Tryd.prog 19 #[.string (str s)] w fun e w' => e = .returned (.tuple #[.agg #[.string (⟨#[]⟩), .slice none 0 0, .int .i64 0, .int .i64 0, .int .i64 0], .iface 35 (.int .i64 3)]) ∧ Fr [] w w' := by
 have HA := Fr.refl [] w
 refine enter (N := 105) Tryd.func19 (c := _) rfl (by kernel_rfl) (by kernel_rfl) (e := [(0, .string (str s))]) (by kernel_rfl) ?_
 refine WE.seq ?_
 refine WE.region ?_
 refine WO.bx (SQ.E 0 (by kernel_rfl)) 2 #[.string (⟨#[]⟩), .slice none 0 0, .int .i64 0, .int .i64 0, .int .i64 0] 25 (fun g => .pointer (some ⟨g, 0, none⟩)) (by kernel_rfl) (fun _ _ => trivial) ?_
 intro g1 w2 HB4 F3 le5 _
 have ge_HA_g1 := Nat.le_trans HA.size le5
 have HA := Fr.step0 HA F3
 refine WO.run 1 1 [(3, .nilIface)] (by kernel_rfl) (by kernel_rfl) ?_
 refine WO.done (by kernel_rfl) ?_
 refine WQ.keep [0, 2, 3] (e' := [(0, .string (str s)), (2, .pointer (some ⟨g1, 0, none⟩)), (3, .nilIface)]) (by kernel_rfl) ?_
 refine WQ.thenN ?_
 refine WE.scope ?_
 refine WE.seq ?_
 refine WE.seq ?_
 refine WE.region ?_
 refine WO.run 2 0 [(9, .int .i64 (s.length : Int)), (8, .string (str s))] (by kernel_rfl) (by kernel_rfl) ?_
 refine WO.one (SQ.F 2 (by kernel_rfl)) 10 (.bool (decide (((s.length : Int) : Int) > (300 : Int)))) (by kernel_rfl) ?_
 refine WO.topPT (((s.length : Int) : Int) > (300 : Int)) (by omega) ?_
 refine WO.done (by kernel_rfl) ?_
 refine WQ.keep [0, 2, 3, 10] (e' := [(0, .string (str s)), (2, .pointer (some ⟨g1, 0, none⟩)), (3, .nilIface), (10, .bool true)]) (by kernel_rfl) ?_
 refine WQ.thenN ?_
 refine WE.condT (by kernel_rfl) ?_
 refine WE.seq ?_
 refine WE.region ?_
 refine WO.run 2 0 [(12, .iface 35 (.int .i64 3)), (11, .agg #[.string (⟨#[]⟩), .slice none 0 0, .int .i64 0, .int .i64 0, .int .i64 0])] (by kernel_rfl) (by kernel_rfl) ?_
 refine WO.st (SQ.E 2 (by kernel_rfl)) g1 0 [.string (⟨#[]⟩), .slice none 0 0, .int .i64 0, .int .i64 0, .int .i64 0] #[.string (⟨#[]⟩), .slice none 0 0, .int .i64 0, .int .i64 0, .int .i64 0] (by kernel_rfl) HB4 (by kernel_rfl) (by kernel_rfl) (fun _ _ => trivial) ?_
 intro w6 HB8 F7 _
 have HA := Fr.step HA F7 (inSR ge_HA_g1 inS0)
 refine WO.run 1 3 [(3, .iface 35 (.int .i64 3))] (by kernel_rfl) (by kernel_rfl) ?_
 refine WO.done (by kernel_rfl) ?_
 refine WQ.keep [0, 2, 3, 10] (e' := [(0, .string (str s)), (2, .pointer (some ⟨g1, 0, none⟩)), (3, .iface 35 (.int .i64 3)), (10, .bool true)]) (by kernel_rfl) ?_
 refine WQ.thenN ?_
 refine WE.ret ?_
 refine WQ.thenR ?_
 refine WQ.scR ?_
 refine WQ.ret2 (fn := Tryd.f19) (show Tryd.f19.results = #[.cell 2 25, .tmp 3] by kernel_rfl) (show resOk _ _ _ _ (.agg #[.string (⟨#[]⟩), .slice none 0 0, .int .i64 0, .int .i64 0, .int .i64 0]) from ⟨by kernel_rfl, ⟨g1, 0, none⟩, by kernel_rfl, ldVarB [.string (⟨#[]⟩), .slice none 0 0, .int .i64 0, .int .i64 0, .int .i64 0] (by kernel_rfl) (by kernel_rfl) (by kernel_rfl) HB8 (by kernel_rfl)⟩) (show resOk _ _ _ _ (.iface 35 (.int .i64 3)) from ⟨by kernel_rfl, by kernel_rfl⟩) ?_
 exact ⟨rfl, HA⟩
end Go.Proofs.YtdhonbahpcmmnaaDoor.Line
