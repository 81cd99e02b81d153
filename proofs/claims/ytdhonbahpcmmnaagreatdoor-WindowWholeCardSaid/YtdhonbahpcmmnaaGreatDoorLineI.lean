/- Layer 4's walks: line.Parse. -/
import Derived.Test.YtdhonbahpcmmnaaGreatDoorLineH
import Derived.Test.YtdhonbahpcmmnaaGreatDoorEngC
set_option linter.unusedVariables false
set_option linter.unusedSimpArgs false
namespace Go.Proofs.YtdhonbahpcmmnaaGreatDoor.Line
open Go Go.RowKit Go.Proofs.YtdhonbahpcmmnaaGreatDoor Go.Proofs.YtdhonbahpcmmnaaGreatDoor.Eng Go.Proofs.YtdhonbahpcmmnaaGreatDoorW.PrintWords
theorem numE_ge (s : L) (p : Nat) : p ≤ numE s p := by
  have := runE_ge isD s (numB s p)
  unfold numE
  have h : p ≤ numB s p := by unfold numB; split <;> omega
  omega
theorem numE_le {s : L} {p : Nat} (h : p ≤ s.length) : numE s p ≤ s.length := by
  unfold numE
  refine runE_le isD ?_
  unfold numB
  split <;> omega
theorem kind_le (c : UInt8) : 0 ≤ kindP c ∧ kindP c ≤ 3 := by
  unfold kindP
  repeat (first | split | omega)
theorem ix_kind (c : UInt8) : 1 + Lib.indexByte [99, 103, 104] c = kindP c := by
  have b9 : ∀ n : UInt8, (n == c) = decide (c.toNat = n.toNat) := fun n => by
    rw [Bool.eq_iff_iff]
    simp only [beq_iff_eq, decide_eq_true_eq]
    exact ⟨fun h => by rw [h], fun h => (UInt8.toNat_inj.1 h).symm⟩
  simp only [Lib.indexByte, b9, kindP]
  have e1 : (99 : UInt8).toNat = 99 := rfl
  have e2 : (103 : UInt8).toNat = 103 := rfl
  have e3 : (104 : UInt8).toNat = 104 := rfl
  rw [e1, e2, e3]
  by_cases h1 : c.toNat = 99
  · simp [h1]
  · by_cases h2 : c.toNat = 103
    · simp [h2]
    · by_cases h3 : c.toNat = 104
      · simp [h3]
      · simp [h1, h2, h3]
def sp2P (s : L) (ts : List (L × L)) (k : Int) (p : Nat) : Sum Ev Nat := if ¬ isAt s p 32 then .inr p else valP s ts k (p + 1) (numP s (p + 1) (-9223372036854775808) 9223372036854775807)
def finP (s : L) (ts : List (L × L)) (k v t : Int) (p : Nat) : Sum Ev Nat := if p < s.length then .inr p else .inl { name := part s 0, tags := ts, kind := k, value := v, time := t }
def kndP (s : L) (ts : List (L × L)) (p : Nat) : Sum Ev Nat := if s.length ≤ p then .inr p else if kindP (gB s p) = 0 then .inr p else sp2P s ts (kindP (gB s p)) (p + 1)
theorem rp_y {s : L} {ts : List (L × L)} {p : Nat} (h : isAt s p 32) : restP s ts p = kndP s ts (p + 1) := by
  unfold restP
  rw [if_neg (fun c => c h)]
  rfl
theorem kp_1 {s : L} {ts : List (L × L)} {p : Nat} (h : s.length ≤ p) : kndP s ts p = .inr p := if_pos h
theorem kp_2 {s : L} {ts : List (L × L)} {p : Nat} (h : p < s.length) (h0 : kindP (gB s p) = 0) : kndP s ts p = .inr p := by
  unfold kndP
  rw [if_neg (by omega), if_pos h0]
theorem kp_3 {s : L} {ts : List (L × L)} {p : Nat} (h : p < s.length) (h0 : kindP (gB s p) ≠ 0) : kndP s ts p = sp2P s ts (kindP (gB s p)) (p + 1) := by
  unfold kndP
  rw [if_neg (by omega), if_neg h0]
def sp3P (s : L) (ts : List (L × L)) (k v : Int) (p : Nat) : Sum Ev Nat := if ¬ isAt s p 32 then .inr p else timeP s ts k v (p + 1) (numP s (p + 1) 0 1099511627776)
theorem sq_1 {s : L} {ts : List (L × L)} {p : Nat} {k v : Int} (h : ¬ isAt s p 32) : sp3P s ts k v p = .inr p := if_pos h
theorem sq_2 {s : L} {ts : List (L × L)} {p : Nat} {k v : Int} (h : isAt s p 32) : sp3P s ts k v p = timeP s ts k v (p + 1) (numP s (p + 1) 0 1099511627776) := if_neg (fun c => c h)
theorem sp_1 {s : L} {ts : List (L × L)} {p : Nat} {k : Int} (h : ¬ isAt s p 32) : sp2P s ts k p = .inr p := if_pos h
theorem sp_2 {s : L} {ts : List (L × L)} {p : Nat} {k : Int} (h : isAt s p 32) : sp2P s ts k p = valP s ts k (p + 1) (numP s (p + 1) (-9223372036854775808) 9223372036854775807) := if_neg (fun c => c h)
def ResL (w w' : World) (e : Ending) : Sum Ev Nat → Prop
  | .inr p => ∃ g, e = .returned (.tuple #[.agg #[.string (⟨#[]⟩), .slice none 0 0, .int .i64 0, .int .i64 0, .int .i64 0], .iface 116 (.pointer (some ⟨g, 0, none⟩))]) ∧ Blk w' g #[.int .i64 (p : Int), .int .i64 2] 118 ∧ w.heap.size ≤ g ∧ Fr [] w w'
  | .inl ev => ∃ A n cp F, e = .returned (.tuple #[.agg #[.string (str ev.name), .slice A n cp, .int .i64 ev.kind, .int .i64 ev.value, .int .i64 ev.time], .nilIface]) ∧ VX cT 2 w' F A ev.tags ∧ ev.tags.length = n ∧ n ≤ cp ∧ (∀ y ∈ F, w.heap.size ≤ y) ∧ Fr [] w w'
theorem ResL.fail {w w' : World} {p g : Nat} (hB : Blk w' g #[.int .i64 (p : Int), .int .i64 2] 118) (hg : w.heap.size ≤ g) (h : Fr [] w w') : ResL w w' (.returned (.tuple #[.agg #[.string (⟨#[]⟩), .slice none 0 0, .int .i64 0, .int .i64 0, .int .i64 0], .iface 116 (.pointer (some ⟨g, 0, none⟩))])) (.inr p) := ⟨g, rfl, hB, hg, h⟩
theorem ResL.ok {w w' : World} {ev : Ev} {A : Option Addr} {n cp : Nat} {F : List Nat} (hn : ev.tags.length = n) (hc : n ≤ cp) (hT : VX cT 2 w' F A ev.tags) (hg : ∀ y ∈ F, w.heap.size ≤ y) (h : Fr [] w w') : ResL w w' (.returned (.tuple #[.agg #[.string (str ev.name), .slice A n cp, .int .i64 ev.kind, .int .i64 ev.value, .int .i64 ev.time], .nilIface])) (.inl ev) := ⟨A, n, cp, F, rfl, hT, hn, hc, hg, h⟩
theorem number_all (g : Nat) (s : L) (p : Nat) (least most : Int) (w : World) (hp : p ≤ s.length) (hs : s.length ≤ 1000000) (HS : VarI w "strconv.ErrSyntax") (HR : VarI w "strconv.ErrRange") (hgS : 1 ≠ g) (hgR : 2 ≠ g) (HB : Blk w g #[.string (str s), .int .i64 (p : Int), .int .i64 (-1)] 138) :
    Calls Tryz.prog 85 #[.pointer (some ⟨g, 0, none⟩), .int .i64 least, .int .i64 most] w fun e w' => e = .returned (.int .i64 ((numP s p least most).getD 0)) ∧ Blk w' g #[.string (str s), .int .i64 ((numE s p : Nat) : Int), .int .i64 (if (numP s p least most).isSome then -1 else (p : Int))] 138 ∧ Fr [g] w w' := by
  by_cases h : p < s.length ∧ (gB s p).toNat = 45
  · have e1 : numB s p = p + 1 := if_pos h
    have hc : gB s p = 45 := u8_of (by decide) h.2
    unfold numP numE
    rw [e1]
    cases hpi : Lib.parseIntB 64 ((s.take (runE isD s (p + 1))).drop p) with
    | ok v => exact number_m_ok g s p w hp hs least most v h.1 hc hpi HS HR hgS hgR HB
    | «syntax» => exact number_m_syntax g s p w hp hs least most 0 h.1 hc hpi HS HR hgS hgR HB
    | range => exact number_m_range g s p w hp hs least most 0 h.1 hc hpi HS HR hgS hgR HB
  · have e1 : numB s p = p := if_neg h
    have hc : ¬ (p < s.length ∧ gB s p = 45) := fun k => h ⟨k.1, by rw [k.2]; rfl⟩
    unfold numP numE
    rw [e1]
    cases hpi : Lib.parseIntB 64 ((s.take (runE isD s p)).drop p) with
    | ok v => exact number_d_ok g s p w hp hs least most v hc hpi HS HR hgS hgR HB
    | «syntax» => exact number_d_syntax g s p w hp hs least most 0 hc hpi HS HR hgS hgR HB
    | range => exact number_d_range g s p w hp hs least most 0 hc hpi HS HR hgS hgR HB
theorem number_some (g : Nat) (s : L) (p : Nat) (least most v : Int) (w : World) (hp : p ≤ s.length) (hs : s.length ≤ 1000000) (HS : VarI w "strconv.ErrSyntax") (HR : VarI w "strconv.ErrRange") (hgS : 1 ≠ g) (hgR : 2 ≠ g) (hv : numP s p least most = some v) (HB : Blk w g #[.string (str s), .int .i64 (p : Int), .int .i64 (-1)] 138) :
    Calls Tryz.prog 85 #[.pointer (some ⟨g, 0, none⟩), .int .i64 least, .int .i64 most] w fun e w' => e = .returned (.int .i64 v) ∧ Blk w' g #[.string (str s), .int .i64 ((numE s p : Nat) : Int), .int .i64 (-1)] 138 ∧ Fr [g] w w' := by
  have h := number_all g s p least most w hp hs HS HR hgS hgR HB
  rw [hv] at h
  exact h
theorem number_none (g : Nat) (s : L) (p : Nat) (least most : Int) (w : World) (hp : p ≤ s.length) (hs : s.length ≤ 1000000) (HS : VarI w "strconv.ErrSyntax") (HR : VarI w "strconv.ErrRange") (hgS : 1 ≠ g) (hgR : 2 ≠ g) (hv : numP s p least most = none) (HB : Blk w g #[.string (str s), .int .i64 (p : Int), .int .i64 (-1)] 138) :
    Calls Tryz.prog 85 #[.pointer (some ⟨g, 0, none⟩), .int .i64 least, .int .i64 most] w fun e w' => e = .returned (.int .i64 0) ∧ Blk w' g #[.string (str s), .int .i64 ((numE s p : Nat) : Int), .int .i64 (p : Int)] 138 ∧ Fr [g] w w' := by
  have h := number_all g s p least most w hp hs HS HR hgS hgR HB
  rw [hv] at h
  exact h
set_option maxRecDepth 100000 in
set_option maxHeartbeats 1000000 in
theorem parse_l (s : L) (w : World) (hs : s.length ≤ 300) (HS : VarI w "strconv.ErrSyntax") (HR : VarI w "strconv.ErrRange") :
    Calls Tryz.prog 66 #[.string (str s)] w fun e w' => ResL w w' e (parseP s) := by
 have HA := Fr.refl [] w
 refine Ze Tryz.func66 _ <| Zsg <| Zb 2 #[.string (⟨#[]⟩), .slice none 0 0, J 0, J 0, J 0] 91 (fun g => Pt g 0) ?_
 intro g1 w2 HB4 F3 le5 _
 have ge_HA_g1 := Nat.le_trans HA.size le5
 refine Zr 1 <| Zdn <| WE.scope <| Zq <| Zsg <| Zr 2 <| ZoPF 10 (((s.length : Int) : Int) > (300 : Int)) (by omega) <| Zdn <| ZF <| Zk <| Zsg <| Zr 2 <| Zb 15 #[.string (str s), J 0, J (-1)] 138 (fun g => Pt g 0) ?_
 intro g6 w7 HB9 F8 le10 _
 have ne_g1_g6 := ltn HB4.lt le10
 have HS := HS.k F3
 have ne_1_g6 : 1 ≠ g6 := Nat.ne_of_lt (Nat.lt_of_lt_of_le (var_lt 1 (by kernel_rfl) HS) le10)
 have HR := HR.k F3
 have ne_2_g6 : 2 ≠ g6 := Nat.ne_of_lt (Nat.lt_of_lt_of_le (var_lt 2 (by kernel_rfl) HR) le10)
 have HA := HA.step0 F3
 have ge_HA_g6 := Nat.le_trans HA.size le10
 refine Zr 1 <| Zdn <| WE.seqJ (α := Nat × Int × Nat) (E := fun ⟨p, bz, ge⟩ => [(0, .string (str s)), (2, Pt g1 0), (3, .nilIface), (4, Pt g6 0), (5, Pt ge 0)]) (I := fun ⟨p, bz, ge⟩ wr => ((bz = -1 ∧ parseP s = afterP s (tagsP s 6 p [])) ∨ (∃ q : Nat, bz = (q : Int) ∧ parseP s = .inr q)) ∧ p ≤ s.length ∧ Blk wr g1 #[.string (⟨#[]⟩), .slice none 0 0, J 0, J 0, J 0] 91 ∧ Blk wr g6 #[.string (str s), J (p : Int), J bz] 138 ∧ VarI wr "strconv.ErrSyntax" ∧ VarI wr "strconv.ErrRange" ∧ Blk wr ge #[.string (str ((s.take (runE inW s 0)).drop 0)), .slice none 0 0, J 0, J 0, J 0] 91 ∧ g1 ≠ ge ∧ g6 ≠ ge ∧ 1 ≠ ge ∧ 2 ≠ ge ∧ (World.heap w).size ≤ ge ∧ Fr [] w wr) ?_ ?_
 ·
  rintro ⟨p, bz, ge⟩ wr ⟨hst, hp, HB4, HB9, HS, HR, HN_ge, ne_g1_ge, ne_g6_ge, ne_1_ge, ne_2_ge, ge_HA_ge, HA⟩
  refine Zq <| WE.label <| Zn <| WE.seqJ (α := Nat × Int × List Nat × Option Addr × Nat × (List (L × L))) (E := fun ⟨p, bz, FT, At, ct, acc⟩ => [(0, .string (str s)), (2, Pt g1 0), (3, .nilIface), (4, Pt g6 0), (5, Pt ge 0)]) (I := fun ⟨p, bz, FT, At, ct, acc⟩ wr => ((bz = -1 ∧ parseP s = restP s acc p) ∨ (∃ q : Nat, bz = (q : Int) ∧ parseP s = .inr q)) ∧ p ≤ s.length ∧ Blk wr g1 #[.string (⟨#[]⟩), .slice none 0 0, J 0, J 0, J 0] 91 ∧ Blk wr g6 #[.string (str s), J (p : Int), J bz] 138 ∧ Blk wr ge #[.string (str ((s.take (runE inW s 0)).drop 0)), .slice At acc.length ct, J 0, J 0, J 0] 91 ∧ VarI wr "strconv.ErrSyntax" ∧ VarI wr "strconv.ErrRange" ∧ OwnX 143 2 wr FT (.slice At acc.length ct) (List.map cT acc) ∧ g1 ∉ FT ∧ g6 ∉ FT ∧ ge ∉ FT ∧ 1 ∉ FT ∧ 2 ∉ FT ∧ (∀ y ∈ FT, (World.heap w).size ≤ y) ∧ Fr [] w wr) ?_ ?_
  ·
   rintro ⟨p, bz, FT, At, ct, acc⟩ wr ⟨hst, hp, HB4, HB9, HN_ge, HS, HR, HO_FT, nin_g1_FT, nin_g6_FT, nin_ge_FT, nin_1_FT, nin_2_FT, ge_HA_FT, HA⟩
   refine WE.seqJ (α := Nat × Int) (E := fun ⟨p, bz⟩ => [(0, .string (str s)), (2, Pt g1 0), (3, .nilIface), (4, Pt g6 0), (5, Pt ge 0)]) (I := fun ⟨p, bz⟩ wr => ((bz = -1 ∧ parseP s = kndP s acc p) ∨ (∃ q : Nat, bz = (q : Int) ∧ parseP s = .inr q)) ∧ p ≤ s.length ∧ Blk wr g1 #[.string (⟨#[]⟩), .slice none 0 0, J 0, J 0, J 0] 91 ∧ Blk wr g6 #[.string (str s), J (p : Int), J bz] 138 ∧ Blk wr ge #[.string (str ((s.take (runE inW s 0)).drop 0)), .slice At acc.length ct, J 0, J 0, J 0] 91 ∧ OwnX 143 2 wr FT (.slice At acc.length ct) (List.map cT acc) ∧ VarI wr "strconv.ErrSyntax" ∧ VarI wr "strconv.ErrRange" ∧ Fr [] w wr) ?_ ?_
   ·
    rintro ⟨p, bz⟩ wr ⟨hst, hp, HB4, HB9, HN_ge, HO_FT, HS, HR, HA⟩
    refine Zq ?_
    rcases hst with ⟨rfl, hps⟩ | ⟨q, rfl, hps⟩
    ·
     refine WE.region <| Zr 3 <| Zl 56 (J (p : Int)) (HB9.s 1) <| Zr 1 <| Zdn <| WE.seqJ (α := Nat × Int × Int × Nat) (E := fun ⟨p, bz, kv, pf⟩ => [(0, .string (str s)), (2, Pt g1 0), (3, .nilIface), (4, Pt g6 0), (5, Pt ge 0), (7, J (pf : Int))]) (I := fun ⟨p, bz, kv, pf⟩ wr => ((bz = -1 ∧ ((kv = 0 ∧ parseP s = .inr pf) ∨ (kv ≠ 0 ∧ parseP s = sp2P s acc kv p))) ∨ (∃ q : Nat, bz = (q : Int) ∧ parseP s = .inr q ∧ kv = 0)) ∧ p ≤ s.length ∧ (0 ≤ kv ∧ kv ≤ 3) ∧ Blk wr g1 #[.string (⟨#[]⟩), .slice none 0 0, J 0, J 0, J 0] 91 ∧ Blk wr g6 #[.string (str s), J (p : Int), J bz] 138 ∧ Blk wr ge #[.string (str ((s.take (runE inW s 0)).drop 0)), .slice At acc.length ct, J kv, J 0, J 0] 91 ∧ OwnX 143 2 wr FT (.slice At acc.length ct) (List.map cT acc) ∧ VarI wr "strconv.ErrSyntax" ∧ VarI wr "strconv.ErrRange" ∧ Fr [] w wr) ?_ ?_
     ·
      rintro ⟨p, bz, kv, pf⟩ wr ⟨hst, hp, hk03, HB4, HB9, HN_ge, HO_FT, HS, HR, HA⟩
      refine WE.seqJ (α := Nat × Int × Int) (E := fun ⟨p, bz, kv⟩ => [(0, .string (str s)), (2, Pt g1 0), (3, .nilIface), (4, Pt g6 0), (5, Pt ge 0)]) (I := fun ⟨p, bz, kv⟩ wr => ((bz = -1 ∧ parseP s = sp2P s acc kv p) ∨ (∃ q : Nat, bz = (q : Int) ∧ parseP s = .inr q)) ∧ p ≤ s.length ∧ Blk wr g1 #[.string (⟨#[]⟩), .slice none 0 0, J 0, J 0, J 0] 91 ∧ Blk wr g6 #[.string (str s), J (p : Int), J bz] 138 ∧ Blk wr ge #[.string (str ((s.take (runE inW s 0)).drop 0)), .slice At acc.length ct, J kv, J 0, J 0] 91 ∧ OwnX 143 2 wr FT (.slice At acc.length ct) (List.map cT acc) ∧ VarI wr "strconv.ErrSyntax" ∧ VarI wr "strconv.ErrRange" ∧ Fr [] w wr) ?_ ?_
      ·
       rintro ⟨p, bz, kv⟩ wr ⟨hst, hp, HB4, HB9, HN_ge, HO_FT, HS, HR, HA⟩
       refine WE.seqJ (α := Nat × Int) (E := fun ⟨p, bz⟩ => [(0, .string (str s)), (2, Pt g1 0), (3, .nilIface), (4, Pt g6 0), (5, Pt ge 0)]) (I := fun ⟨p, bz⟩ wr => ((bz = -1 ∧ parseP s = valP s acc kv p (numP s p (-9223372036854775808) 9223372036854775807)) ∨ (∃ q : Nat, bz = (q : Int) ∧ parseP s = .inr q)) ∧ p ≤ s.length ∧ Blk wr g1 #[.string (⟨#[]⟩), .slice none 0 0, J 0, J 0, J 0] 91 ∧ Blk wr g6 #[.string (str s), J (p : Int), J bz] 138 ∧ Blk wr ge #[.string (str ((s.take (runE inW s 0)).drop 0)), .slice At acc.length ct, J kv, J 0, J 0] 91 ∧ OwnX 143 2 wr FT (.slice At acc.length ct) (List.map cT acc) ∧ VarI wr "strconv.ErrSyntax" ∧ VarI wr "strconv.ErrRange" ∧ Fr [] w wr) ?_ ?_
       ·
        rintro ⟨p, bz⟩ wr ⟨hst, hp, HB4, HB9, HN_ge, HO_FT, HS, HR, HA⟩
        refine WE.seqJ (α := Nat × Int × Int) (E := fun ⟨p, bz, vv⟩ => [(0, .string (str s)), (2, Pt g1 0), (3, .nilIface), (4, Pt g6 0), (5, Pt ge 0)]) (I := fun ⟨p, bz, vv⟩ wr => ((bz = -1 ∧ parseP s = sp3P s acc kv vv p) ∨ (∃ q : Nat, bz = (q : Int) ∧ parseP s = .inr q)) ∧ p ≤ s.length ∧ Blk wr g1 #[.string (⟨#[]⟩), .slice none 0 0, J 0, J 0, J 0] 91 ∧ Blk wr g6 #[.string (str s), J (p : Int), J bz] 138 ∧ Blk wr ge #[.string (str ((s.take (runE inW s 0)).drop 0)), .slice At acc.length ct, J kv, J vv, J 0] 91 ∧ OwnX 143 2 wr FT (.slice At acc.length ct) (List.map cT acc) ∧ VarI wr "strconv.ErrSyntax" ∧ VarI wr "strconv.ErrRange" ∧ Fr [] w wr) ?_ ?_
        ·
         rintro ⟨p, bz, vv⟩ wr ⟨hst, hp, HB4, HB9, HN_ge, HO_FT, HS, HR, HA⟩
         refine WE.seqJ (α := Nat × Int) (E := fun ⟨p, bz⟩ => [(0, .string (str s)), (2, Pt g1 0), (3, .nilIface), (4, Pt g6 0), (5, Pt ge 0)]) (I := fun ⟨p, bz⟩ wr => ((bz = -1 ∧ parseP s = timeP s acc kv vv p (numP s p 0 1099511627776)) ∨ (∃ q : Nat, bz = (q : Int) ∧ parseP s = .inr q)) ∧ p ≤ s.length ∧ Blk wr g1 #[.string (⟨#[]⟩), .slice none 0 0, J 0, J 0, J 0] 91 ∧ Blk wr g6 #[.string (str s), J (p : Int), J bz] 138 ∧ Blk wr ge #[.string (str ((s.take (runE inW s 0)).drop 0)), .slice At acc.length ct, J kv, J vv, J 0] 91 ∧ OwnX 143 2 wr FT (.slice At acc.length ct) (List.map cT acc) ∧ VarI wr "strconv.ErrSyntax" ∧ VarI wr "strconv.ErrRange" ∧ Fr [] w wr) ?_ ?_
         ·
          rintro ⟨p, bz⟩ wr ⟨hst, hp, HB4, HB9, HN_ge, HO_FT, HS, HR, HA⟩
          refine WE.seqJ (α := Nat × Int × Int) (E := fun ⟨p, bz, tv⟩ => [(0, .string (str s)), (2, Pt g1 0), (3, .nilIface), (4, Pt g6 0), (5, Pt ge 0)]) (I := fun ⟨p, bz, tv⟩ wr => ((bz = -1 ∧ parseP s = finP s acc kv vv tv p) ∨ (∃ q : Nat, bz = (q : Int) ∧ parseP s = .inr q)) ∧ p ≤ s.length ∧ Blk wr g1 #[.string (⟨#[]⟩), .slice none 0 0, J 0, J 0, J 0] 91 ∧ Blk wr g6 #[.string (str s), J (p : Int), J bz] 138 ∧ Blk wr ge #[.string (str ((s.take (runE inW s 0)).drop 0)), .slice At acc.length ct, J kv, J vv, J tv] 91 ∧ OwnX 143 2 wr FT (.slice At acc.length ct) (List.map cT acc) ∧ VarI wr "strconv.ErrSyntax" ∧ VarI wr "strconv.ErrRange" ∧ Fr [] w wr) ?_ ?_
          ·
           rintro ⟨p, bz, tv⟩ wr ⟨hst, hp, HB4, HB9, HN_ge, HO_FT, HS, HR, HA⟩
           refine WE.seqJ (α := Nat × Int) (E := fun ⟨p, bz⟩ => [(2, Pt g1 0), (3, .nilIface), (4, Pt g6 0), (5, Pt ge 0)]) (I := fun ⟨p, bz⟩ wr => ((bz = -1 ∧ parseP s = .inl ⟨part s 0, acc, kv, vv, tv⟩) ∨ (∃ q : Nat, bz = (q : Int) ∧ parseP s = .inr q)) ∧ p ≤ s.length ∧ Blk wr g1 #[.string (⟨#[]⟩), .slice none 0 0, J 0, J 0, J 0] 91 ∧ Blk wr g6 #[.string (str s), J (p : Int), J bz] 138 ∧ Blk wr ge #[.string (str ((s.take (runE inW s 0)).drop 0)), .slice At acc.length ct, J kv, J vv, J tv] 91 ∧ OwnX 143 2 wr FT (.slice At acc.length ct) (List.map cT acc) ∧ VarI wr "strconv.ErrSyntax" ∧ VarI wr "strconv.ErrRange" ∧ Fr [] w wr) ?_ ?_
           ·
            rintro ⟨p, bz⟩ wr ⟨hst, hp, HB4, HB9, HN_ge, HO_FT, HS, HR, HA⟩
            refine Zq <| Zq ?_
            rcases hst with ⟨rfl, hps⟩ | ⟨q, rfl, hps⟩
            ·
             refine WE.region <| Zr 3 <| Zl 94 (J (-1)) (HB9.s 2) <| Zr 1 <| Zdn <| ZF <| Zk <| Zsg <| Zlb 104 [.string (str ((s.take (runE inW s 0)).drop 0)), .slice At acc.length ct, J kv, J vv, J tv] ge 0 (same HN_ge) <| Zst g1 0 #[.string (str ((s.take (runE inW s 0)).drop 0)), .slice At acc.length ct, J kv, J vv, J tv] HB4 ?_
             intro w11 HB13 F12 _
             refine Zr 1 <| Zdn <| WE.ret <| WQ.scR <| WQ.ret2 (fn := Tryz.f66) (show Tryz.f66.results = #[.cell 2 91, .tmp 3] by kernel_rfl) (show resOk _ _ _ _ (.agg #[.string (str ((s.take (runE inW s 0)).drop 0)), .slice At acc.length ct, J kv, J vv, J tv]) from ⟨by kernel_rfl, ⟨g1, 0, none⟩, by kernel_rfl, ldVarB [.string (str ((s.take (runE inW s 0)).drop 0)), .slice At acc.length ct, J kv, J vv, J tv] (by kernel_rfl) (by kernel_rfl) (by kernel_rfl) HB13 (by kernel_rfl)⟩) (show resOk _ _ _ _ .nilIface from ⟨by kernel_rfl, by kernel_rfl⟩) ?_
             rw [hps]
             have HO_FT := HO_FT.keep F12 (djB nin_g1_FT)
             exact ResL.ok (ev := ⟨part s 0, acc, kv, vv, tv⟩) rfl (own_cap HO_FT (List.length_map _)) (VX.of_own HO_FT) ge_HA_FT (HA.step F12 (inSR ge_HA_g1 inS0))
            ·
             refine WE.region <| Zr 3 <| Zl 94 (J ((q : Nat) : Int)) (HB9.s 2) <| ZoPT 95 (((q : Int) : Int) ≥ (0 : Int)) (by omega) <| Zdn <| ZT <| Zq <| ZER (Kp [g6]) [4] [8] [6] 10 ?_
             intro w14 F15 _
             have HB9 := HB9.k F15
             refine Yq 0 4 <| Yl 4 100 (J ((q : Nat) : Int)) (fun _ k => (HB9.kp k (by simp)).at 2 (by kernel_rfl)) <| Yq 5 1 <| WO.toX <| WO.fork2 6 8 (by kernel_rfl) ?_ ?_
             ·
              refine WO.bx (SAx.now _ 6 _ (by kernel_rfl) rfl) 102 #[J ((q : Nat) : Int), J 2] 118 (fun g => Pt g 0) (by kernel_rfl) (fun _ _ => trivial) ?_
              intro g16 w17 HB19 F18 le20 _
              have HB4 := HB4.k F15
              have ne_g1_g16 := ltn HB4.lt le20
              have HA := HA.step0 F15
              have ge_HA_g16 := Nat.le_trans HA.size le20
              refine WO.one (SAx.F (SA.F (kpR _) (kpT _) _ 7 _ (by kernel_rfl))) 103 (.iface 116 (Pt g16 0)) (by kernel_rfl) <| WO.st (SAx.E (SA.ER _ 8 _ (by kernel_rfl) rfl)) g1 0 [.string (⟨#[]⟩), .slice none 0 0, J 0, J 0, J 0] #[.string (⟨#[]⟩), .slice none 0 0, J 0, J 0, J 0] (by kernel_rfl) (HB4.k F18) (by kernel_rfl) (by kernel_rfl) (kp_of (kpC (HB9.k F18).lt (ninC (Ne.symm ne_g1_g6) (nin0 _)) kp0)) ?_
              intro w21 HB23 F22 _
              refine WO.one (SAx.F (SA.F (kpR _) (kpT _) _ 9 _ (by kernel_rfl))) 3 (.iface 116 (Pt g16 0)) (by kernel_rfl) <| WO.doneX (by kernel_rfl) <| Zn <| WE.ret <| WQ.thenR <| WQ.scR <| WQ.ret2 (fn := Tryz.f66) (show Tryz.f66.results = #[.cell 2 91, .tmp 3] by kernel_rfl) (show resOk _ _ _ _ (.agg #[.string (⟨#[]⟩), .slice none 0 0, J 0, J 0, J 0]) from ⟨by kernel_rfl, ⟨g1, 0, none⟩, by kernel_rfl, ldVarB [.string (⟨#[]⟩), .slice none 0 0, J 0, J 0, J 0] (by kernel_rfl) (by kernel_rfl) (by kernel_rfl) HB23 (by kernel_rfl)⟩) (show resOk _ _ _ _ (.iface 116 (Pt g16 0)) from ⟨by kernel_rfl, by kernel_rfl⟩) ?_
              rw [hps]
              exact ResL.fail (HB19.j F22 (Ne.symm ne_g1_g16)) ge_HA_g16 ((HA.step0 F18).step F22 (inSR ge_HA_g1 inS0))
             ·
              refine WO.st (SAx.nowR _ 8 _ (by kernel_rfl) rfl) g1 0 [.string (⟨#[]⟩), .slice none 0 0, J 0, J 0, J 0] #[.string (⟨#[]⟩), .slice none 0 0, J 0, J 0, J 0] (by kernel_rfl) (HB4.k F15) (by kernel_rfl) (by kernel_rfl) (kp_of (kpC HB9.lt (ninC (Ne.symm ne_g1_g6) (nin0 _)) kp0)) ?_
              intro w24 HB26 F25 _
              refine WO.bx (SAx.E (SA.E _ 6 _ (by kernel_rfl) rfl)) 102 #[J ((q : Nat) : Int), J 2] 118 (fun g => Pt g 0) (by kernel_rfl) (fun _ _ => trivial) ?_
              intro g27 w28 HB30 F29 le31 _
              have HA := (HA.step0 F15).step F25 (inSR ge_HA_g1 inS0)
              have ge_HA_g27 := Nat.le_trans HA.size le31
              refine WO.one (SAx.F (SA.F (kpR _) (kpT _) _ 7 _ (by kernel_rfl))) 103 (.iface 116 (Pt g27 0)) (by kernel_rfl) <| WO.one (SAx.F (SA.F (kpR _) (kpT _) _ 9 _ (by kernel_rfl))) 3 (.iface 116 (Pt g27 0)) (by kernel_rfl) <| WO.doneX (by kernel_rfl) <| Zn <| WE.ret <| WQ.thenR <| WQ.scR <| WQ.ret2 (fn := Tryz.f66) (show Tryz.f66.results = #[.cell 2 91, .tmp 3] by kernel_rfl) (show resOk _ _ _ _ (.agg #[.string (⟨#[]⟩), .slice none 0 0, J 0, J 0, J 0]) from ⟨by kernel_rfl, ⟨g1, 0, none⟩, by kernel_rfl, ldVarB [.string (⟨#[]⟩), .slice none 0 0, J 0, J 0, J 0] (by kernel_rfl) (by kernel_rfl) (by kernel_rfl) (HB26.k F29) (by kernel_rfl)⟩) (show resOk _ _ _ _ (.iface 116 (Pt g27 0)) from ⟨by kernel_rfl, by kernel_rfl⟩) ?_
              rw [hps]
              exact ResL.fail HB30 ge_HA_g27 (HA.step0 F29)
           refine Zq ?_
           rcases hst with ⟨rfl, hps⟩ | ⟨q, rfl, hps⟩
           ·
            refine WE.region <| Zr 3 <| Zl 81 (J (p : Int)) (HB9.s 1) <| Zr 2 <| ZoP 84 (((p : Int) : Int) < (s.length : Int)) ?_ ?_
            ·
             intro h32
             refine Zdn <| ZT ?_
             have hps : parseP s = .inr (p) := hps.trans (if_pos (by omega))
             refine WE.region <| Zr 4 <| Zl 89 (J (p : Int)) (HB9.s 1) <| Zc 90 (fail_ok g6 s p _ (by omega) (by omega) (p : Int) HB9) ?_
             rintro _ w33 ⟨rfl, HB35, F34⟩
             refine ⟨_, rfl, trivial, Zd <| WQ.round ?_⟩
             intro a_ ha_
             refine ⟨(p, (p : Int)), ha_.keep [2, 3, 4, 5] (by kernel_rfl), ?_⟩
             exact ⟨(.inr ⟨_, rfl, hps⟩), by omega, (HB4.j F34 ne_g1_g6), HB35, (HN_ge.j F34 (Ne.symm ne_g6_ge)), (HO_FT.keep F34 (djB nin_g6_FT)), (var_keep 1 (by kernel_rfl) HS F34 (ninC ne_1_g6 (nin0 _))), (var_keep 2 (by kernel_rfl) HR F34 (ninC ne_2_g6 (nin0 _))), (HA.step F34 (inSR ge_HA_g6 inS0))⟩
            intro h32
            refine Zdn <| ZF <| WE.skip ?_
            have hps : parseP s = .inl ⟨part s 0, acc, kv, vv, tv⟩ := hps.trans (if_neg (by omega))
            refine WQ.round ?_
            intro a_ ha_
            refine ⟨(p, -1), ha_.keep [2, 3, 4, 5] (by kernel_rfl), ?_⟩
            exact ⟨(.inl ⟨rfl, hps⟩), by omega, HB4, HB9, HN_ge, HO_FT, HS, HR, HA⟩
           ·
            refine WE.region <| Zr 3 <| Zl 81 (J (p : Int)) (HB9.s 1) <| Zr 2 <| ZoP 84 (((p : Int) : Int) < (s.length : Int)) ?_ ?_
            ·
             intro h36
             refine Zdn <| ZT <| WE.region <| Zr 4 <| Zl 89 (J (p : Int)) (HB9.s 1) <| Zc 90 (fail_bad g6 s p ((q : Nat) : Int) _ (by omega) (by omega) (by omega) (p : Int) HB9) ?_
             rintro _ w37 ⟨rfl, HB39, F38⟩
             refine ⟨_, rfl, trivial, Zd <| WQ.round ?_⟩
             intro a_ ha_
             refine ⟨(p, ((q : Nat) : Int)), ha_.keep [2, 3, 4, 5] (by kernel_rfl), ?_⟩
             exact ⟨(.inr ⟨_, rfl, hps⟩), by omega, (HB4.j F38 ne_g1_g6), HB39, (HN_ge.j F38 (Ne.symm ne_g6_ge)), (HO_FT.keep F38 (djB nin_g6_FT)), (var_keep 1 (by kernel_rfl) HS F38 (ninC ne_1_g6 (nin0 _))), (var_keep 2 (by kernel_rfl) HR F38 (ninC ne_2_g6 (nin0 _))), (HA.step F38 (inSR ge_HA_g6 inS0))⟩
            intro h36
            refine Zdn <| ZF <| WE.skip <| WQ.round ?_
            intro a_ ha_
            refine ⟨(p, ((q : Nat) : Int)), ha_.keep [2, 3, 4, 5] (by kernel_rfl), ?_⟩
            exact ⟨(.inr ⟨_, rfl, hps⟩), by omega, HB4, HB9, HN_ge, HO_FT, HS, HR, HA⟩
          rcases hst with ⟨rfl, hps⟩ | ⟨q, rfl, hps⟩
          ·
           refine WE.region <| Zr 1 ?_
           have he1 := numE_ge s p
           have he2 := numE_le (show p ≤ s.length by omega)
           cases hv40 : numP s p 0 1099511627776
           ·
            refine Zc 76 (number_none g6 s p 0 1099511627776 _ (by omega) (by omega) HS HR ne_1_g6 ne_2_g6 hv40 HB9) ?_
            rintro _ w42 ⟨rfl, HB44, F43⟩
            refine ⟨_, rfl, trivial, ?_⟩
            rw [hv40] at hps
            have hps : parseP s = .inr (p) := hps
            refine Zr 1 <| Zst ge 4 #[.string (str ((s.take (runE inW s 0)).drop 0)), .slice At acc.length ct, J kv, J vv, J 0] (HN_ge.j F43 (Ne.symm ne_g6_ge)) ?_
            intro w45 HB47 F46 _
            refine Zd <| WQ.round ?_
            intro a_ ha_
            refine ⟨(numE s p, (p : Int), 0), ha_.keep [0, 2, 3, 4, 5] (by kernel_rfl), ?_⟩
            exact ⟨(.inr ⟨_, rfl, hps⟩), by omega, ((HB4.j F43 ne_g1_g6).j F46 ne_g1_ge), (HB44.j F46 ne_g6_ge), HB47, ((HO_FT.keep F43 (djB nin_g6_FT)).keep F46 (djB nin_ge_FT)), (var_keep 1 (by kernel_rfl) (var_keep 1 (by kernel_rfl) HS F43 (ninC ne_1_g6 (nin0 _))) F46 (ninC ne_1_ge (nin0 _))), (var_keep 2 (by kernel_rfl) (var_keep 2 (by kernel_rfl) HR F43 (ninC ne_2_g6 (nin0 _))) F46 (ninC ne_2_ge (nin0 _))), ((HA.step F43 (inSR ge_HA_g6 inS0)).step F46 (inSR ge_HA_ge inS0))⟩
           ·
            rename_i v48
            refine Zc 76 (number_some g6 s p 0 1099511627776 v48 _ (by omega) (by omega) HS HR ne_1_g6 ne_2_g6 hv40 HB9) ?_
            rintro _ w49 ⟨rfl, HB51, F50⟩
            refine ⟨_, rfl, trivial, ?_⟩
            rw [hv40] at hps
            refine Zr 1 <| Zst ge 4 #[.string (str ((s.take (runE inW s 0)).drop 0)), .slice At acc.length ct, J kv, J vv, J v48] (HN_ge.j F50 (Ne.symm ne_g6_ge)) ?_
            intro w52 HB54 F53 _
            refine Zd <| WQ.round ?_
            intro a_ ha_
            refine ⟨(numE s p, -1, v48), ha_.keep [0, 2, 3, 4, 5] (by kernel_rfl), ?_⟩
            exact ⟨(.inl ⟨rfl, hps⟩), by omega, ((HB4.j F50 ne_g1_g6).j F53 ne_g1_ge), (HB51.j F53 ne_g6_ge), HB54, ((HO_FT.keep F50 (djB nin_g6_FT)).keep F53 (djB nin_ge_FT)), (var_keep 1 (by kernel_rfl) (var_keep 1 (by kernel_rfl) HS F50 (ninC ne_1_g6 (nin0 _))) F53 (ninC ne_1_ge (nin0 _))), (var_keep 2 (by kernel_rfl) (var_keep 2 (by kernel_rfl) HR F50 (ninC ne_2_g6 (nin0 _))) F53 (ninC ne_2_ge (nin0 _))), ((HA.step F50 (inSR ge_HA_g6 inS0)).step F53 (inSR ge_HA_ge inS0))⟩
          ·
           refine WE.region <| Zr 1 <| Zc 76 (number_bad g6 s p ((q : Nat) : Int) _ (by omega) (by omega) (by omega) 0 1099511627776 HS ne_1_g6 HB9) ?_
           rintro _ w56 ⟨rfl, HB58, F57⟩
           refine ⟨_, rfl, trivial, Zr 1 <| Zst ge 4 #[.string (str ((s.take (runE inW s 0)).drop 0)), .slice At acc.length ct, J kv, J vv, J 0] (HN_ge.j F57 (Ne.symm ne_g6_ge)) ?_⟩
           intro w59 HB61 F60 _
           refine Zd <| WQ.round ?_
           intro a_ ha_
           refine ⟨(p, ((q : Nat) : Int), 0), ha_.keep [0, 2, 3, 4, 5] (by kernel_rfl), ?_⟩
           exact ⟨(.inr ⟨_, rfl, hps⟩), by omega, ((HB4.j F57 ne_g1_g6).j F60 ne_g1_ge), (HB58.j F60 ne_g6_ge), HB61, ((HO_FT.keep F57 (djB nin_g6_FT)).keep F60 (djB nin_ge_FT)), (var_keep 1 (by kernel_rfl) (var_keep 1 (by kernel_rfl) HS F57 (ninC ne_1_g6 (nin0 _))) F60 (ninC ne_1_ge (nin0 _))), (var_keep 2 (by kernel_rfl) (var_keep 2 (by kernel_rfl) HR F57 (ninC ne_2_g6 (nin0 _))) F60 (ninC ne_2_ge (nin0 _))), ((HA.step F57 (inSR ge_HA_g6 inS0)).step F60 (inSR ge_HA_ge inS0))⟩
         rcases hst with ⟨rfl, hps⟩ | ⟨q, rfl, hps⟩
         ·
          refine WE.region <| Zr 1 ?_
          rcases Decidable.em (isAt s p 32) with hA62 | hA62
          ·
           have hlt_ := hA62.1
           refine Zc 74 (sign_yes g6 s p _ (by omega) (by omega) 32 hA62.1 (u8_of (by decide) hA62.2) HB9) ?_
           rintro _ w63 ⟨rfl, HB65, F64⟩
           refine ⟨_, rfl, trivial, ?_⟩
           have hps := hps.trans (sq_2 hA62)
           refine Zd <| WQ.round ?_
           intro a_ ha_
           refine ⟨(p + 1, -1), ha_.keep [0, 2, 3, 4, 5] (by kernel_rfl), ?_⟩
           exact ⟨(.inl ⟨rfl, hps⟩), by omega, (HB4.j F64 ne_g1_g6), HB65, (HN_ge.j F64 (Ne.symm ne_g6_ge)), (HO_FT.keep F64 (djB nin_g6_FT)), (var_keep 1 (by kernel_rfl) HS F64 (ninC ne_1_g6 (nin0 _))), (var_keep 2 (by kernel_rfl) HR F64 (ninC ne_2_g6 (nin0 _))), (HA.step F64 (inSR ge_HA_g6 inS0))⟩
          ·
           refine Zc 74 (sign_no g6 s p _ (by omega) (by omega) 32 (fun h_ => hA62 ⟨h_.1, by rw [h_.2]; rfl⟩) HB9) ?_
           rintro _ w66 ⟨rfl, HB68, F67⟩
           refine ⟨_, rfl, trivial, ?_⟩
           have hps : parseP s = .inr (p) := hps.trans (sq_1 hA62)
           refine Zd <| WQ.round ?_
           intro a_ ha_
           refine ⟨(p, (p : Int)), ha_.keep [0, 2, 3, 4, 5] (by kernel_rfl), ?_⟩
           exact ⟨(.inr ⟨_, rfl, hps⟩), by omega, (HB4.j F67 ne_g1_g6), HB68, (HN_ge.j F67 (Ne.symm ne_g6_ge)), (HO_FT.keep F67 (djB nin_g6_FT)), (var_keep 1 (by kernel_rfl) HS F67 (ninC ne_1_g6 (nin0 _))), (var_keep 2 (by kernel_rfl) HR F67 (ninC ne_2_g6 (nin0 _))), (HA.step F67 (inSR ge_HA_g6 inS0))⟩
         ·
          refine WE.region <| Zr 1 <| Zc 74 (sign_bad g6 s p ((q : Nat) : Int) _ (by omega) (by omega) (by omega) 32 HB9) ?_
          rintro _ w69 ⟨rfl, HB71, F70⟩
          refine ⟨_, rfl, trivial, Zd <| WQ.round ?_⟩
          intro a_ ha_
          refine ⟨(p, ((q : Nat) : Int)), ha_.keep [0, 2, 3, 4, 5] (by kernel_rfl), ?_⟩
          exact ⟨(.inr ⟨_, rfl, hps⟩), by omega, (HB4.j F70 ne_g1_g6), HB71, (HN_ge.j F70 (Ne.symm ne_g6_ge)), (HO_FT.keep F70 (djB nin_g6_FT)), (var_keep 1 (by kernel_rfl) HS F70 (ninC ne_1_g6 (nin0 _))), (var_keep 2 (by kernel_rfl) HR F70 (ninC ne_2_g6 (nin0 _))), (HA.step F70 (inSR ge_HA_g6 inS0))⟩
        rcases hst with ⟨rfl, hps⟩ | ⟨q, rfl, hps⟩
        ·
         refine WE.region <| Zr 1 ?_
         have he1 := numE_ge s p
         have he2 := numE_le (show p ≤ s.length by omega)
         cases hv72 : numP s p (-9223372036854775808) 9223372036854775807
         ·
          refine Zc 71 (number_none g6 s p (-9223372036854775808) 9223372036854775807 _ (by omega) (by omega) HS HR ne_1_g6 ne_2_g6 hv72 HB9) ?_
          rintro _ w74 ⟨rfl, HB76, F75⟩
          refine ⟨_, rfl, trivial, ?_⟩
          rw [hv72] at hps
          have hps : parseP s = .inr (p) := hps
          refine Zr 1 <| Zst ge 3 #[.string (str ((s.take (runE inW s 0)).drop 0)), .slice At acc.length ct, J kv, J 0, J 0] (HN_ge.j F75 (Ne.symm ne_g6_ge)) ?_
          intro w77 HB79 F78 _
          refine Zd <| WQ.round ?_
          intro a_ ha_
          refine ⟨(numE s p, (p : Int), 0), ha_.keep [0, 2, 3, 4, 5] (by kernel_rfl), ?_⟩
          exact ⟨(.inr ⟨_, rfl, hps⟩), by omega, ((HB4.j F75 ne_g1_g6).j F78 ne_g1_ge), (HB76.j F78 ne_g6_ge), HB79, ((HO_FT.keep F75 (djB nin_g6_FT)).keep F78 (djB nin_ge_FT)), (var_keep 1 (by kernel_rfl) (var_keep 1 (by kernel_rfl) HS F75 (ninC ne_1_g6 (nin0 _))) F78 (ninC ne_1_ge (nin0 _))), (var_keep 2 (by kernel_rfl) (var_keep 2 (by kernel_rfl) HR F75 (ninC ne_2_g6 (nin0 _))) F78 (ninC ne_2_ge (nin0 _))), ((HA.step F75 (inSR ge_HA_g6 inS0)).step F78 (inSR ge_HA_ge inS0))⟩
         ·
          rename_i v80
          refine Zc 71 (number_some g6 s p (-9223372036854775808) 9223372036854775807 v80 _ (by omega) (by omega) HS HR ne_1_g6 ne_2_g6 hv72 HB9) ?_
          rintro _ w81 ⟨rfl, HB83, F82⟩
          refine ⟨_, rfl, trivial, ?_⟩
          rw [hv72] at hps
          refine Zr 1 <| Zst ge 3 #[.string (str ((s.take (runE inW s 0)).drop 0)), .slice At acc.length ct, J kv, J v80, J 0] (HN_ge.j F82 (Ne.symm ne_g6_ge)) ?_
          intro w84 HB86 F85 _
          refine Zd <| WQ.round ?_
          intro a_ ha_
          refine ⟨(numE s p, -1, v80), ha_.keep [0, 2, 3, 4, 5] (by kernel_rfl), ?_⟩
          exact ⟨(.inl ⟨rfl, hps⟩), by omega, ((HB4.j F82 ne_g1_g6).j F85 ne_g1_ge), (HB83.j F85 ne_g6_ge), HB86, ((HO_FT.keep F82 (djB nin_g6_FT)).keep F85 (djB nin_ge_FT)), (var_keep 1 (by kernel_rfl) (var_keep 1 (by kernel_rfl) HS F82 (ninC ne_1_g6 (nin0 _))) F85 (ninC ne_1_ge (nin0 _))), (var_keep 2 (by kernel_rfl) (var_keep 2 (by kernel_rfl) HR F82 (ninC ne_2_g6 (nin0 _))) F85 (ninC ne_2_ge (nin0 _))), ((HA.step F82 (inSR ge_HA_g6 inS0)).step F85 (inSR ge_HA_ge inS0))⟩
        ·
         refine WE.region <| Zr 1 <| Zc 71 (number_bad g6 s p ((q : Nat) : Int) _ (by omega) (by omega) (by omega) (-9223372036854775808) 9223372036854775807 HS ne_1_g6 HB9) ?_
         rintro _ w88 ⟨rfl, HB90, F89⟩
         refine ⟨_, rfl, trivial, Zr 1 <| Zst ge 3 #[.string (str ((s.take (runE inW s 0)).drop 0)), .slice At acc.length ct, J kv, J 0, J 0] (HN_ge.j F89 (Ne.symm ne_g6_ge)) ?_⟩
         intro w91 HB93 F92 _
         refine Zd <| WQ.round ?_
         intro a_ ha_
         refine ⟨(p, ((q : Nat) : Int), 0), ha_.keep [0, 2, 3, 4, 5] (by kernel_rfl), ?_⟩
         exact ⟨(.inr ⟨_, rfl, hps⟩), by omega, ((HB4.j F89 ne_g1_g6).j F92 ne_g1_ge), (HB90.j F92 ne_g6_ge), HB93, ((HO_FT.keep F89 (djB nin_g6_FT)).keep F92 (djB nin_ge_FT)), (var_keep 1 (by kernel_rfl) (var_keep 1 (by kernel_rfl) HS F89 (ninC ne_1_g6 (nin0 _))) F92 (ninC ne_1_ge (nin0 _))), (var_keep 2 (by kernel_rfl) (var_keep 2 (by kernel_rfl) HR F89 (ninC ne_2_g6 (nin0 _))) F92 (ninC ne_2_ge (nin0 _))), ((HA.step F89 (inSR ge_HA_g6 inS0)).step F92 (inSR ge_HA_ge inS0))⟩
       rcases hst with ⟨rfl, hps⟩ | ⟨q, rfl, hps⟩
       ·
        refine WE.region <| Zr 1 ?_
        rcases Decidable.em (isAt s p 32) with hA94 | hA94
        ·
         have hlt_ := hA94.1
         refine Zc 69 (sign_yes g6 s p _ (by omega) (by omega) 32 hA94.1 (u8_of (by decide) hA94.2) HB9) ?_
         rintro _ w95 ⟨rfl, HB97, F96⟩
         refine ⟨_, rfl, trivial, ?_⟩
         have hps := hps.trans (sp_2 hA94)
         refine Zd <| WQ.round ?_
         intro a_ ha_
         refine ⟨(p + 1, -1), ha_.keep [0, 2, 3, 4, 5] (by kernel_rfl), ?_⟩
         exact ⟨(.inl ⟨rfl, hps⟩), by omega, (HB4.j F96 ne_g1_g6), HB97, (HN_ge.j F96 (Ne.symm ne_g6_ge)), (HO_FT.keep F96 (djB nin_g6_FT)), (var_keep 1 (by kernel_rfl) HS F96 (ninC ne_1_g6 (nin0 _))), (var_keep 2 (by kernel_rfl) HR F96 (ninC ne_2_g6 (nin0 _))), (HA.step F96 (inSR ge_HA_g6 inS0))⟩
        ·
         refine Zc 69 (sign_no g6 s p _ (by omega) (by omega) 32 (fun h_ => hA94 ⟨h_.1, by rw [h_.2]; rfl⟩) HB9) ?_
         rintro _ w98 ⟨rfl, HB100, F99⟩
         refine ⟨_, rfl, trivial, ?_⟩
         have hps : parseP s = .inr (p) := hps.trans (sp_1 hA94)
         refine Zd <| WQ.round ?_
         intro a_ ha_
         refine ⟨(p, (p : Int)), ha_.keep [0, 2, 3, 4, 5] (by kernel_rfl), ?_⟩
         exact ⟨(.inr ⟨_, rfl, hps⟩), by omega, (HB4.j F99 ne_g1_g6), HB100, (HN_ge.j F99 (Ne.symm ne_g6_ge)), (HO_FT.keep F99 (djB nin_g6_FT)), (var_keep 1 (by kernel_rfl) HS F99 (ninC ne_1_g6 (nin0 _))), (var_keep 2 (by kernel_rfl) HR F99 (ninC ne_2_g6 (nin0 _))), (HA.step F99 (inSR ge_HA_g6 inS0))⟩
       ·
        refine WE.region <| Zr 1 <| Zc 69 (sign_bad g6 s p ((q : Nat) : Int) _ (by omega) (by omega) (by omega) 32 HB9) ?_
        rintro _ w101 ⟨rfl, HB103, F102⟩
        refine ⟨_, rfl, trivial, Zd <| WQ.round ?_⟩
        intro a_ ha_
        refine ⟨(p, ((q : Nat) : Int)), ha_.keep [0, 2, 3, 4, 5] (by kernel_rfl), ?_⟩
        exact ⟨(.inr ⟨_, rfl, hps⟩), by omega, (HB4.j F102 ne_g1_g6), HB103, (HN_ge.j F102 (Ne.symm ne_g6_ge)), (HO_FT.keep F102 (djB nin_g6_FT)), (var_keep 1 (by kernel_rfl) HS F102 (ninC ne_1_g6 (nin0 _))), (var_keep 2 (by kernel_rfl) HR F102 (ninC ne_2_g6 (nin0 _))), (HA.step F102 (inSR ge_HA_g6 inS0))⟩
      refine Zq ?_
      rcases hst with ⟨rfl, ⟨rfl, hps⟩ | ⟨hk0, hps⟩⟩ | ⟨q, rfl, hps, rfl⟩
      ·
       refine WE.region <| Zr 1 <| Zl 63 (J 0) (HN_ge.s 2) <| Zr 1 <| Zdn <| ZT <| WE.region <| Zr 2 <| Zc 67 (fail_ok g6 s p _ (by omega) (by omega) (pf : Int) HB9) ?_
       rintro _ w104 ⟨rfl, HB106, F105⟩
       refine ⟨_, rfl, trivial, Zd <| WQ.round ?_⟩
       intro a_ ha_
       refine ⟨(p, (pf : Int), 0), ha_.keep [0, 2, 3, 4, 5] (by kernel_rfl), ?_⟩
       exact ⟨(.inr ⟨_, rfl, hps⟩), by omega, (HB4.j F105 ne_g1_g6), HB106, (HN_ge.j F105 (Ne.symm ne_g6_ge)), (HO_FT.keep F105 (djB nin_g6_FT)), (var_keep 1 (by kernel_rfl) HS F105 (ninC ne_1_g6 (nin0 _))), (var_keep 2 (by kernel_rfl) HR F105 (ninC ne_2_g6 (nin0 _))), (HA.step F105 (inSR ge_HA_g6 inS0))⟩
      ·
       refine WE.region <| Zr 1 <| Zl 63 (J kv) (HN_ge.s 2) <| ZoPF 64 ((kv : Int) < 1) (by omega) <| Zdn <| ZF <| WE.skip <| WQ.round ?_
       intro a_ ha_
       refine ⟨(p, -1, kv), ha_.keep [0, 2, 3, 4, 5] (by kernel_rfl), ?_⟩
       exact ⟨(.inl ⟨rfl, hps⟩), by omega, HB4, HB9, HN_ge, HO_FT, HS, HR, HA⟩
      ·
       refine WE.region <| Zr 1 <| Zl 63 (J 0) (HN_ge.s 2) <| Zr 1 <| Zdn <| ZT <| WE.region <| Zr 2 <| Zc 67 (fail_bad g6 s p ((q : Nat) : Int) _ (by omega) (by omega) (by omega) (pf : Int) HB9) ?_
       rintro _ w107 ⟨rfl, HB109, F108⟩
       refine ⟨_, rfl, trivial, Zd <| WQ.round ?_⟩
       intro a_ ha_
       refine ⟨(p, ((q : Nat) : Int), 0), ha_.keep [0, 2, 3, 4, 5] (by kernel_rfl), ?_⟩
       exact ⟨(.inr ⟨_, rfl, hps⟩), by omega, (HB4.j F108 ne_g1_g6), HB109, (HN_ge.j F108 (Ne.symm ne_g6_ge)), (HO_FT.keep F108 (djB nin_g6_FT)), (var_keep 1 (by kernel_rfl) HS F108 (ninC ne_1_g6 (nin0 _))), (var_keep 2 (by kernel_rfl) HR F108 (ninC ne_2_g6 (nin0 _))), (HA.step F108 (inSR ge_HA_g6 inS0))⟩
     refine WE.region <| Zr 1 ?_
     rcases Nat.lt_or_ge p s.length with hL | hL
     ·
      refine Zc 58 (one_yes g6 s p _ (by omega) (by omega) hL HB9) ?_
      rintro _ w110 ⟨rfl, HB112, F111⟩
      refine ⟨_, rfl, trivial, Zc 59 (Tryz.strings_Index_one ⟨#[99, 103, 104]⟩ (gB s p) _) ?_⟩
      rintro _ w113 ⟨rfl, hw_⟩
      have F114 : Fr [] w110 w113 := by rw [hw_]; exact Fr.refl [] _
      refine ⟨_, rfl, trivial, Zo 60 (J (IntKind.i64.wrap (1 + (Lib.indexByte [99, 103, 104] (gB s p))))) <| WO.top (v' := J (kindP (gB s p))) (by rw [ix_kind (gB s p)]; exact wrap_i64 rfl (by have := kind_le (gB s p); omega)) <| Zr 1 <| Zst ge 2 #[.string (str ((s.take (runE inW s 0)).drop 0)), .slice At acc.length ct, J (kindP (gB s p)), J 0, J 0] ((HN_ge.j F111 (Ne.symm ne_g6_ge)).k F114) ?_⟩
      intro w115 HB117 F116 _
      refine Zd ?_
      have hk_ : (kindP (gB s p) = 0 ∧ parseP s = .inr p) ∨ (kindP (gB s p) ≠ 0 ∧ parseP s = sp2P s acc (kindP (gB s p)) (p + 1)) := (Decidable.em (kindP (gB s p) = 0)).imp (fun h_ => ⟨h_, hps.trans (kp_2 hL h_)⟩) (fun h_ => ⟨h_, hps.trans (kp_3 hL h_)⟩)
      refine WQ.round ?_
      intro a_ ha_
      refine ⟨(p + 1, -1, kindP (gB s p), p), ha_.keep [0, 2, 3, 4, 5, 7] (by kernel_rfl), ?_⟩
      exact ⟨(.inl ⟨rfl, hk_⟩), by omega, by first | exact kind_le _ | decide, (((HB4.j F111 ne_g1_g6).k F114).j F116 ne_g1_ge), ((HB112.k F114).j F116 ne_g6_ge), HB117, (((HO_FT.keep F111 (djB nin_g6_FT)).keep F114 dj0).keep F116 (djB nin_ge_FT)), (var_keep 1 (by kernel_rfl) ((var_keep 1 (by kernel_rfl) HS F111 (ninC ne_1_g6 (nin0 _))).k F114) F116 (ninC ne_1_ge (nin0 _))), (var_keep 2 (by kernel_rfl) ((var_keep 2 (by kernel_rfl) HR F111 (ninC ne_2_g6 (nin0 _))).k F114) F116 (ninC ne_2_ge (nin0 _))), (((HA.step F111 (inSR ge_HA_g6 inS0)).step0 F114).step F116 (inSR ge_HA_ge inS0))⟩
     ·
      refine Zc 58 (one_end g6 s p _ (by omega) (by omega) hL HB9) ?_
      rintro _ w118 ⟨rfl, HB120, F119⟩
      refine ⟨_, rfl, trivial, Zc 59 (Tryz.strings_Index_one ⟨#[99, 103, 104]⟩ (63 : UInt8) _) ?_⟩
      rintro _ w121 ⟨rfl, hw_⟩
      have F122 : Fr [] w118 w121 := by rw [hw_]; exact Fr.refl [] _
      refine ⟨_, rfl, trivial, Zo 60 (J (IntKind.i64.wrap (1 + (Lib.indexByte [99, 103, 104] (63 : UInt8))))) <| WO.top (v' := J (kindP (63 : UInt8))) (by rw [ix_kind (63 : UInt8)]; exact wrap_i64 rfl (by have := kind_le (63 : UInt8); omega)) <| Zr 1 <| Zst ge 2 #[.string (str ((s.take (runE inW s 0)).drop 0)), .slice At acc.length ct, J (kindP (63 : UInt8)), J 0, J 0] ((HN_ge.j F119 (Ne.symm ne_g6_ge)).k F122) ?_⟩
      intro w123 HB125 F124 _
      refine Zd ?_
      have hps : parseP s = .inr p := hps.trans (kp_1 hL)
      refine WQ.round ?_
      intro a_ ha_
      refine ⟨(p, -1, kindP (63 : UInt8), p), ha_.keep [0, 2, 3, 4, 5, 7] (by kernel_rfl), ?_⟩
      exact ⟨(.inl ⟨rfl, .inl ⟨rfl, hps⟩⟩), by omega, by first | exact kind_le _ | decide, (((HB4.j F119 ne_g1_g6).k F122).j F124 ne_g1_ge), ((HB120.k F122).j F124 ne_g6_ge), HB125, (((HO_FT.keep F119 (djB nin_g6_FT)).keep F122 dj0).keep F124 (djB nin_ge_FT)), (var_keep 1 (by kernel_rfl) ((var_keep 1 (by kernel_rfl) HS F119 (ninC ne_1_g6 (nin0 _))).k F122) F124 (ninC ne_1_ge (nin0 _))), (var_keep 2 (by kernel_rfl) ((var_keep 2 (by kernel_rfl) HR F119 (ninC ne_2_g6 (nin0 _))).k F122) F124 (ninC ne_2_ge (nin0 _))), (((HA.step F119 (inSR ge_HA_g6 inS0)).step0 F122).step F124 (inSR ge_HA_ge inS0))⟩
    ·
     refine WE.region <| Zr 3 <| Zl 56 (J (p : Int)) (HB9.s 1) <| Zr 1 <| Zdn <| WE.seqJ (α := Nat × Int × Int × Nat) (E := fun ⟨p, bz, kv, pf⟩ => [(0, .string (str s)), (2, Pt g1 0), (3, .nilIface), (4, Pt g6 0), (5, Pt ge 0), (7, J (pf : Int))]) (I := fun ⟨p, bz, kv, pf⟩ wr => ((bz = -1 ∧ ((kv = 0 ∧ parseP s = .inr pf) ∨ (kv ≠ 0 ∧ parseP s = sp2P s acc kv p))) ∨ (∃ q : Nat, bz = (q : Int) ∧ parseP s = .inr q ∧ kv = 0)) ∧ p ≤ s.length ∧ (0 ≤ kv ∧ kv ≤ 3) ∧ Blk wr g1 #[.string (⟨#[]⟩), .slice none 0 0, J 0, J 0, J 0] 91 ∧ Blk wr g6 #[.string (str s), J (p : Int), J bz] 138 ∧ Blk wr ge #[.string (str ((s.take (runE inW s 0)).drop 0)), .slice At acc.length ct, J kv, J 0, J 0] 91 ∧ OwnX 143 2 wr FT (.slice At acc.length ct) (List.map cT acc) ∧ VarI wr "strconv.ErrSyntax" ∧ VarI wr "strconv.ErrRange" ∧ Fr [] w wr) ?_ ?_
     ·
      rintro ⟨p, bz, kv, pf⟩ wr ⟨hst, hp, hk03, HB4, HB9, HN_ge, HO_FT, HS, HR, HA⟩
      refine WE.seqJ (α := Nat × Int × Int) (E := fun ⟨p, bz, kv⟩ => [(0, .string (str s)), (2, Pt g1 0), (3, .nilIface), (4, Pt g6 0), (5, Pt ge 0)]) (I := fun ⟨p, bz, kv⟩ wr => ((bz = -1 ∧ parseP s = sp2P s acc kv p) ∨ (∃ q : Nat, bz = (q : Int) ∧ parseP s = .inr q)) ∧ p ≤ s.length ∧ Blk wr g1 #[.string (⟨#[]⟩), .slice none 0 0, J 0, J 0, J 0] 91 ∧ Blk wr g6 #[.string (str s), J (p : Int), J bz] 138 ∧ Blk wr ge #[.string (str ((s.take (runE inW s 0)).drop 0)), .slice At acc.length ct, J kv, J 0, J 0] 91 ∧ OwnX 143 2 wr FT (.slice At acc.length ct) (List.map cT acc) ∧ VarI wr "strconv.ErrSyntax" ∧ VarI wr "strconv.ErrRange" ∧ Fr [] w wr) ?_ ?_
      ·
       rintro ⟨p, bz, kv⟩ wr ⟨hst, hp, HB4, HB9, HN_ge, HO_FT, HS, HR, HA⟩
       refine WE.seqJ (α := Nat × Int) (E := fun ⟨p, bz⟩ => [(0, .string (str s)), (2, Pt g1 0), (3, .nilIface), (4, Pt g6 0), (5, Pt ge 0)]) (I := fun ⟨p, bz⟩ wr => ((bz = -1 ∧ parseP s = valP s acc kv p (numP s p (-9223372036854775808) 9223372036854775807)) ∨ (∃ q : Nat, bz = (q : Int) ∧ parseP s = .inr q)) ∧ p ≤ s.length ∧ Blk wr g1 #[.string (⟨#[]⟩), .slice none 0 0, J 0, J 0, J 0] 91 ∧ Blk wr g6 #[.string (str s), J (p : Int), J bz] 138 ∧ Blk wr ge #[.string (str ((s.take (runE inW s 0)).drop 0)), .slice At acc.length ct, J kv, J 0, J 0] 91 ∧ OwnX 143 2 wr FT (.slice At acc.length ct) (List.map cT acc) ∧ VarI wr "strconv.ErrSyntax" ∧ VarI wr "strconv.ErrRange" ∧ Fr [] w wr) ?_ ?_
       ·
        rintro ⟨p, bz⟩ wr ⟨hst, hp, HB4, HB9, HN_ge, HO_FT, HS, HR, HA⟩
        refine WE.seqJ (α := Nat × Int × Int) (E := fun ⟨p, bz, vv⟩ => [(0, .string (str s)), (2, Pt g1 0), (3, .nilIface), (4, Pt g6 0), (5, Pt ge 0)]) (I := fun ⟨p, bz, vv⟩ wr => ((bz = -1 ∧ parseP s = sp3P s acc kv vv p) ∨ (∃ q : Nat, bz = (q : Int) ∧ parseP s = .inr q)) ∧ p ≤ s.length ∧ Blk wr g1 #[.string (⟨#[]⟩), .slice none 0 0, J 0, J 0, J 0] 91 ∧ Blk wr g6 #[.string (str s), J (p : Int), J bz] 138 ∧ Blk wr ge #[.string (str ((s.take (runE inW s 0)).drop 0)), .slice At acc.length ct, J kv, J vv, J 0] 91 ∧ OwnX 143 2 wr FT (.slice At acc.length ct) (List.map cT acc) ∧ VarI wr "strconv.ErrSyntax" ∧ VarI wr "strconv.ErrRange" ∧ Fr [] w wr) ?_ ?_
        ·
         rintro ⟨p, bz, vv⟩ wr ⟨hst, hp, HB4, HB9, HN_ge, HO_FT, HS, HR, HA⟩
         refine WE.seqJ (α := Nat × Int) (E := fun ⟨p, bz⟩ => [(0, .string (str s)), (2, Pt g1 0), (3, .nilIface), (4, Pt g6 0), (5, Pt ge 0)]) (I := fun ⟨p, bz⟩ wr => ((bz = -1 ∧ parseP s = timeP s acc kv vv p (numP s p 0 1099511627776)) ∨ (∃ q : Nat, bz = (q : Int) ∧ parseP s = .inr q)) ∧ p ≤ s.length ∧ Blk wr g1 #[.string (⟨#[]⟩), .slice none 0 0, J 0, J 0, J 0] 91 ∧ Blk wr g6 #[.string (str s), J (p : Int), J bz] 138 ∧ Blk wr ge #[.string (str ((s.take (runE inW s 0)).drop 0)), .slice At acc.length ct, J kv, J vv, J 0] 91 ∧ OwnX 143 2 wr FT (.slice At acc.length ct) (List.map cT acc) ∧ VarI wr "strconv.ErrSyntax" ∧ VarI wr "strconv.ErrRange" ∧ Fr [] w wr) ?_ ?_
         ·
          rintro ⟨p, bz⟩ wr ⟨hst, hp, HB4, HB9, HN_ge, HO_FT, HS, HR, HA⟩
          refine WE.seqJ (α := Nat × Int × Int) (E := fun ⟨p, bz, tv⟩ => [(0, .string (str s)), (2, Pt g1 0), (3, .nilIface), (4, Pt g6 0), (5, Pt ge 0)]) (I := fun ⟨p, bz, tv⟩ wr => ((bz = -1 ∧ parseP s = finP s acc kv vv tv p) ∨ (∃ q : Nat, bz = (q : Int) ∧ parseP s = .inr q)) ∧ p ≤ s.length ∧ Blk wr g1 #[.string (⟨#[]⟩), .slice none 0 0, J 0, J 0, J 0] 91 ∧ Blk wr g6 #[.string (str s), J (p : Int), J bz] 138 ∧ Blk wr ge #[.string (str ((s.take (runE inW s 0)).drop 0)), .slice At acc.length ct, J kv, J vv, J tv] 91 ∧ OwnX 143 2 wr FT (.slice At acc.length ct) (List.map cT acc) ∧ VarI wr "strconv.ErrSyntax" ∧ VarI wr "strconv.ErrRange" ∧ Fr [] w wr) ?_ ?_
          ·
           rintro ⟨p, bz, tv⟩ wr ⟨hst, hp, HB4, HB9, HN_ge, HO_FT, HS, HR, HA⟩
           refine WE.seqJ (α := Nat × Int) (E := fun ⟨p, bz⟩ => [(2, Pt g1 0), (3, .nilIface), (4, Pt g6 0), (5, Pt ge 0)]) (I := fun ⟨p, bz⟩ wr => ((bz = -1 ∧ parseP s = .inl ⟨part s 0, acc, kv, vv, tv⟩) ∨ (∃ q : Nat, bz = (q : Int) ∧ parseP s = .inr q)) ∧ p ≤ s.length ∧ Blk wr g1 #[.string (⟨#[]⟩), .slice none 0 0, J 0, J 0, J 0] 91 ∧ Blk wr g6 #[.string (str s), J (p : Int), J bz] 138 ∧ Blk wr ge #[.string (str ((s.take (runE inW s 0)).drop 0)), .slice At acc.length ct, J kv, J vv, J tv] 91 ∧ OwnX 143 2 wr FT (.slice At acc.length ct) (List.map cT acc) ∧ VarI wr "strconv.ErrSyntax" ∧ VarI wr "strconv.ErrRange" ∧ Fr [] w wr) ?_ ?_
           ·
            rintro ⟨p, bz⟩ wr ⟨hst, hp, HB4, HB9, HN_ge, HO_FT, HS, HR, HA⟩
            refine Zq <| Zq ?_
            rcases hst with ⟨rfl, hps⟩ | ⟨q, rfl, hps⟩
            ·
             refine WE.region <| Zr 3 <| Zl 94 (J (-1)) (HB9.s 2) <| Zr 1 <| Zdn <| ZF <| Zk <| Zsg <| Zlb 104 [.string (str ((s.take (runE inW s 0)).drop 0)), .slice At acc.length ct, J kv, J vv, J tv] ge 0 (same HN_ge) <| Zst g1 0 #[.string (str ((s.take (runE inW s 0)).drop 0)), .slice At acc.length ct, J kv, J vv, J tv] HB4 ?_
             intro w126 HB128 F127 _
             refine Zr 1 <| Zdn <| WE.ret <| WQ.scR <| WQ.ret2 (fn := Tryz.f66) (show Tryz.f66.results = #[.cell 2 91, .tmp 3] by kernel_rfl) (show resOk _ _ _ _ (.agg #[.string (str ((s.take (runE inW s 0)).drop 0)), .slice At acc.length ct, J kv, J vv, J tv]) from ⟨by kernel_rfl, ⟨g1, 0, none⟩, by kernel_rfl, ldVarB [.string (str ((s.take (runE inW s 0)).drop 0)), .slice At acc.length ct, J kv, J vv, J tv] (by kernel_rfl) (by kernel_rfl) (by kernel_rfl) HB128 (by kernel_rfl)⟩) (show resOk _ _ _ _ .nilIface from ⟨by kernel_rfl, by kernel_rfl⟩) ?_
             rw [hps]
             have HO_FT := HO_FT.keep F127 (djB nin_g1_FT)
             exact ResL.ok (ev := ⟨part s 0, acc, kv, vv, tv⟩) rfl (own_cap HO_FT (List.length_map _)) (VX.of_own HO_FT) ge_HA_FT (HA.step F127 (inSR ge_HA_g1 inS0))
            ·
             refine WE.region <| Zr 3 <| Zl 94 (J ((q : Nat) : Int)) (HB9.s 2) <| ZoPT 95 (((q : Int) : Int) ≥ (0 : Int)) (by omega) <| Zdn <| ZT <| Zq <| ZER (Kp [g6]) [4] [8] [6] 10 ?_
             intro w129 F130 _
             have HB9 := HB9.k F130
             refine Yq 0 4 <| Yl 4 100 (J ((q : Nat) : Int)) (fun _ k => (HB9.kp k (by simp)).at 2 (by kernel_rfl)) <| Yq 5 1 <| WO.toX <| WO.fork2 6 8 (by kernel_rfl) ?_ ?_
             ·
              refine WO.bx (SAx.now _ 6 _ (by kernel_rfl) rfl) 102 #[J ((q : Nat) : Int), J 2] 118 (fun g => Pt g 0) (by kernel_rfl) (fun _ _ => trivial) ?_
              intro g131 w132 HB134 F133 le135 _
              have HB4 := HB4.k F130
              have ne_g1_g131 := ltn HB4.lt le135
              have HA := HA.step0 F130
              have ge_HA_g131 := Nat.le_trans HA.size le135
              refine WO.one (SAx.F (SA.F (kpR _) (kpT _) _ 7 _ (by kernel_rfl))) 103 (.iface 116 (Pt g131 0)) (by kernel_rfl) <| WO.st (SAx.E (SA.ER _ 8 _ (by kernel_rfl) rfl)) g1 0 [.string (⟨#[]⟩), .slice none 0 0, J 0, J 0, J 0] #[.string (⟨#[]⟩), .slice none 0 0, J 0, J 0, J 0] (by kernel_rfl) (HB4.k F133) (by kernel_rfl) (by kernel_rfl) (kp_of (kpC (HB9.k F133).lt (ninC (Ne.symm ne_g1_g6) (nin0 _)) kp0)) ?_
              intro w136 HB138 F137 _
              refine WO.one (SAx.F (SA.F (kpR _) (kpT _) _ 9 _ (by kernel_rfl))) 3 (.iface 116 (Pt g131 0)) (by kernel_rfl) <| WO.doneX (by kernel_rfl) <| Zn <| WE.ret <| WQ.thenR <| WQ.scR <| WQ.ret2 (fn := Tryz.f66) (show Tryz.f66.results = #[.cell 2 91, .tmp 3] by kernel_rfl) (show resOk _ _ _ _ (.agg #[.string (⟨#[]⟩), .slice none 0 0, J 0, J 0, J 0]) from ⟨by kernel_rfl, ⟨g1, 0, none⟩, by kernel_rfl, ldVarB [.string (⟨#[]⟩), .slice none 0 0, J 0, J 0, J 0] (by kernel_rfl) (by kernel_rfl) (by kernel_rfl) HB138 (by kernel_rfl)⟩) (show resOk _ _ _ _ (.iface 116 (Pt g131 0)) from ⟨by kernel_rfl, by kernel_rfl⟩) ?_
              rw [hps]
              exact ResL.fail (HB134.j F137 (Ne.symm ne_g1_g131)) ge_HA_g131 ((HA.step0 F133).step F137 (inSR ge_HA_g1 inS0))
             ·
              refine WO.st (SAx.nowR _ 8 _ (by kernel_rfl) rfl) g1 0 [.string (⟨#[]⟩), .slice none 0 0, J 0, J 0, J 0] #[.string (⟨#[]⟩), .slice none 0 0, J 0, J 0, J 0] (by kernel_rfl) (HB4.k F130) (by kernel_rfl) (by kernel_rfl) (kp_of (kpC HB9.lt (ninC (Ne.symm ne_g1_g6) (nin0 _)) kp0)) ?_
              intro w139 HB141 F140 _
              refine WO.bx (SAx.E (SA.E _ 6 _ (by kernel_rfl) rfl)) 102 #[J ((q : Nat) : Int), J 2] 118 (fun g => Pt g 0) (by kernel_rfl) (fun _ _ => trivial) ?_
              intro g142 w143 HB145 F144 le146 _
              have HA := (HA.step0 F130).step F140 (inSR ge_HA_g1 inS0)
              have ge_HA_g142 := Nat.le_trans HA.size le146
              refine WO.one (SAx.F (SA.F (kpR _) (kpT _) _ 7 _ (by kernel_rfl))) 103 (.iface 116 (Pt g142 0)) (by kernel_rfl) <| WO.one (SAx.F (SA.F (kpR _) (kpT _) _ 9 _ (by kernel_rfl))) 3 (.iface 116 (Pt g142 0)) (by kernel_rfl) <| WO.doneX (by kernel_rfl) <| Zn <| WE.ret <| WQ.thenR <| WQ.scR <| WQ.ret2 (fn := Tryz.f66) (show Tryz.f66.results = #[.cell 2 91, .tmp 3] by kernel_rfl) (show resOk _ _ _ _ (.agg #[.string (⟨#[]⟩), .slice none 0 0, J 0, J 0, J 0]) from ⟨by kernel_rfl, ⟨g1, 0, none⟩, by kernel_rfl, ldVarB [.string (⟨#[]⟩), .slice none 0 0, J 0, J 0, J 0] (by kernel_rfl) (by kernel_rfl) (by kernel_rfl) (HB141.k F144) (by kernel_rfl)⟩) (show resOk _ _ _ _ (.iface 116 (Pt g142 0)) from ⟨by kernel_rfl, by kernel_rfl⟩) ?_
              rw [hps]
              exact ResL.fail HB145 ge_HA_g142 (HA.step0 F144)
           refine Zq ?_
           rcases hst with ⟨rfl, hps⟩ | ⟨q, rfl, hps⟩
           ·
            refine WE.region <| Zr 3 <| Zl 81 (J (p : Int)) (HB9.s 1) <| Zr 2 <| ZoP 84 (((p : Int) : Int) < (s.length : Int)) ?_ ?_
            ·
             intro h147
             refine Zdn <| ZT ?_
             have hps : parseP s = .inr (p) := hps.trans (if_pos (by omega))
             refine WE.region <| Zr 4 <| Zl 89 (J (p : Int)) (HB9.s 1) <| Zc 90 (fail_ok g6 s p _ (by omega) (by omega) (p : Int) HB9) ?_
             rintro _ w148 ⟨rfl, HB150, F149⟩
             refine ⟨_, rfl, trivial, Zd <| WQ.round ?_⟩
             intro a_ ha_
             refine ⟨(p, (p : Int)), ha_.keep [2, 3, 4, 5] (by kernel_rfl), ?_⟩
             exact ⟨(.inr ⟨_, rfl, hps⟩), by omega, (HB4.j F149 ne_g1_g6), HB150, (HN_ge.j F149 (Ne.symm ne_g6_ge)), (HO_FT.keep F149 (djB nin_g6_FT)), (var_keep 1 (by kernel_rfl) HS F149 (ninC ne_1_g6 (nin0 _))), (var_keep 2 (by kernel_rfl) HR F149 (ninC ne_2_g6 (nin0 _))), (HA.step F149 (inSR ge_HA_g6 inS0))⟩
            intro h147
            refine Zdn <| ZF <| WE.skip ?_
            have hps : parseP s = .inl ⟨part s 0, acc, kv, vv, tv⟩ := hps.trans (if_neg (by omega))
            refine WQ.round ?_
            intro a_ ha_
            refine ⟨(p, -1), ha_.keep [2, 3, 4, 5] (by kernel_rfl), ?_⟩
            exact ⟨(.inl ⟨rfl, hps⟩), by omega, HB4, HB9, HN_ge, HO_FT, HS, HR, HA⟩
           ·
            refine WE.region <| Zr 3 <| Zl 81 (J (p : Int)) (HB9.s 1) <| Zr 2 <| ZoP 84 (((p : Int) : Int) < (s.length : Int)) ?_ ?_
            ·
             intro h151
             refine Zdn <| ZT <| WE.region <| Zr 4 <| Zl 89 (J (p : Int)) (HB9.s 1) <| Zc 90 (fail_bad g6 s p ((q : Nat) : Int) _ (by omega) (by omega) (by omega) (p : Int) HB9) ?_
             rintro _ w152 ⟨rfl, HB154, F153⟩
             refine ⟨_, rfl, trivial, Zd <| WQ.round ?_⟩
             intro a_ ha_
             refine ⟨(p, ((q : Nat) : Int)), ha_.keep [2, 3, 4, 5] (by kernel_rfl), ?_⟩
             exact ⟨(.inr ⟨_, rfl, hps⟩), by omega, (HB4.j F153 ne_g1_g6), HB154, (HN_ge.j F153 (Ne.symm ne_g6_ge)), (HO_FT.keep F153 (djB nin_g6_FT)), (var_keep 1 (by kernel_rfl) HS F153 (ninC ne_1_g6 (nin0 _))), (var_keep 2 (by kernel_rfl) HR F153 (ninC ne_2_g6 (nin0 _))), (HA.step F153 (inSR ge_HA_g6 inS0))⟩
            intro h151
            refine Zdn <| ZF <| WE.skip <| WQ.round ?_
            intro a_ ha_
            refine ⟨(p, ((q : Nat) : Int)), ha_.keep [2, 3, 4, 5] (by kernel_rfl), ?_⟩
            exact ⟨(.inr ⟨_, rfl, hps⟩), by omega, HB4, HB9, HN_ge, HO_FT, HS, HR, HA⟩
          rcases hst with ⟨rfl, hps⟩ | ⟨q, rfl, hps⟩
          ·
           refine WE.region <| Zr 1 ?_
           have he1 := numE_ge s p
           have he2 := numE_le (show p ≤ s.length by omega)
           cases hv155 : numP s p 0 1099511627776
           ·
            refine Zc 76 (number_none g6 s p 0 1099511627776 _ (by omega) (by omega) HS HR ne_1_g6 ne_2_g6 hv155 HB9) ?_
            rintro _ w157 ⟨rfl, HB159, F158⟩
            refine ⟨_, rfl, trivial, ?_⟩
            rw [hv155] at hps
            have hps : parseP s = .inr (p) := hps
            refine Zr 1 <| Zst ge 4 #[.string (str ((s.take (runE inW s 0)).drop 0)), .slice At acc.length ct, J kv, J vv, J 0] (HN_ge.j F158 (Ne.symm ne_g6_ge)) ?_
            intro w160 HB162 F161 _
            refine Zd <| WQ.round ?_
            intro a_ ha_
            refine ⟨(numE s p, (p : Int), 0), ha_.keep [0, 2, 3, 4, 5] (by kernel_rfl), ?_⟩
            exact ⟨(.inr ⟨_, rfl, hps⟩), by omega, ((HB4.j F158 ne_g1_g6).j F161 ne_g1_ge), (HB159.j F161 ne_g6_ge), HB162, ((HO_FT.keep F158 (djB nin_g6_FT)).keep F161 (djB nin_ge_FT)), (var_keep 1 (by kernel_rfl) (var_keep 1 (by kernel_rfl) HS F158 (ninC ne_1_g6 (nin0 _))) F161 (ninC ne_1_ge (nin0 _))), (var_keep 2 (by kernel_rfl) (var_keep 2 (by kernel_rfl) HR F158 (ninC ne_2_g6 (nin0 _))) F161 (ninC ne_2_ge (nin0 _))), ((HA.step F158 (inSR ge_HA_g6 inS0)).step F161 (inSR ge_HA_ge inS0))⟩
           ·
            rename_i v163
            refine Zc 76 (number_some g6 s p 0 1099511627776 v163 _ (by omega) (by omega) HS HR ne_1_g6 ne_2_g6 hv155 HB9) ?_
            rintro _ w164 ⟨rfl, HB166, F165⟩
            refine ⟨_, rfl, trivial, ?_⟩
            rw [hv155] at hps
            refine Zr 1 <| Zst ge 4 #[.string (str ((s.take (runE inW s 0)).drop 0)), .slice At acc.length ct, J kv, J vv, J v163] (HN_ge.j F165 (Ne.symm ne_g6_ge)) ?_
            intro w167 HB169 F168 _
            refine Zd <| WQ.round ?_
            intro a_ ha_
            refine ⟨(numE s p, -1, v163), ha_.keep [0, 2, 3, 4, 5] (by kernel_rfl), ?_⟩
            exact ⟨(.inl ⟨rfl, hps⟩), by omega, ((HB4.j F165 ne_g1_g6).j F168 ne_g1_ge), (HB166.j F168 ne_g6_ge), HB169, ((HO_FT.keep F165 (djB nin_g6_FT)).keep F168 (djB nin_ge_FT)), (var_keep 1 (by kernel_rfl) (var_keep 1 (by kernel_rfl) HS F165 (ninC ne_1_g6 (nin0 _))) F168 (ninC ne_1_ge (nin0 _))), (var_keep 2 (by kernel_rfl) (var_keep 2 (by kernel_rfl) HR F165 (ninC ne_2_g6 (nin0 _))) F168 (ninC ne_2_ge (nin0 _))), ((HA.step F165 (inSR ge_HA_g6 inS0)).step F168 (inSR ge_HA_ge inS0))⟩
          ·
           refine WE.region <| Zr 1 <| Zc 76 (number_bad g6 s p ((q : Nat) : Int) _ (by omega) (by omega) (by omega) 0 1099511627776 HS ne_1_g6 HB9) ?_
           rintro _ w171 ⟨rfl, HB173, F172⟩
           refine ⟨_, rfl, trivial, Zr 1 <| Zst ge 4 #[.string (str ((s.take (runE inW s 0)).drop 0)), .slice At acc.length ct, J kv, J vv, J 0] (HN_ge.j F172 (Ne.symm ne_g6_ge)) ?_⟩
           intro w174 HB176 F175 _
           refine Zd <| WQ.round ?_
           intro a_ ha_
           refine ⟨(p, ((q : Nat) : Int), 0), ha_.keep [0, 2, 3, 4, 5] (by kernel_rfl), ?_⟩
           exact ⟨(.inr ⟨_, rfl, hps⟩), by omega, ((HB4.j F172 ne_g1_g6).j F175 ne_g1_ge), (HB173.j F175 ne_g6_ge), HB176, ((HO_FT.keep F172 (djB nin_g6_FT)).keep F175 (djB nin_ge_FT)), (var_keep 1 (by kernel_rfl) (var_keep 1 (by kernel_rfl) HS F172 (ninC ne_1_g6 (nin0 _))) F175 (ninC ne_1_ge (nin0 _))), (var_keep 2 (by kernel_rfl) (var_keep 2 (by kernel_rfl) HR F172 (ninC ne_2_g6 (nin0 _))) F175 (ninC ne_2_ge (nin0 _))), ((HA.step F172 (inSR ge_HA_g6 inS0)).step F175 (inSR ge_HA_ge inS0))⟩
         rcases hst with ⟨rfl, hps⟩ | ⟨q, rfl, hps⟩
         ·
          refine WE.region <| Zr 1 ?_
          rcases Decidable.em (isAt s p 32) with hA177 | hA177
          ·
           have hlt_ := hA177.1
           refine Zc 74 (sign_yes g6 s p _ (by omega) (by omega) 32 hA177.1 (u8_of (by decide) hA177.2) HB9) ?_
           rintro _ w178 ⟨rfl, HB180, F179⟩
           refine ⟨_, rfl, trivial, ?_⟩
           have hps := hps.trans (sq_2 hA177)
           refine Zd <| WQ.round ?_
           intro a_ ha_
           refine ⟨(p + 1, -1), ha_.keep [0, 2, 3, 4, 5] (by kernel_rfl), ?_⟩
           exact ⟨(.inl ⟨rfl, hps⟩), by omega, (HB4.j F179 ne_g1_g6), HB180, (HN_ge.j F179 (Ne.symm ne_g6_ge)), (HO_FT.keep F179 (djB nin_g6_FT)), (var_keep 1 (by kernel_rfl) HS F179 (ninC ne_1_g6 (nin0 _))), (var_keep 2 (by kernel_rfl) HR F179 (ninC ne_2_g6 (nin0 _))), (HA.step F179 (inSR ge_HA_g6 inS0))⟩
          ·
           refine Zc 74 (sign_no g6 s p _ (by omega) (by omega) 32 (fun h_ => hA177 ⟨h_.1, by rw [h_.2]; rfl⟩) HB9) ?_
           rintro _ w181 ⟨rfl, HB183, F182⟩
           refine ⟨_, rfl, trivial, ?_⟩
           have hps : parseP s = .inr (p) := hps.trans (sq_1 hA177)
           refine Zd <| WQ.round ?_
           intro a_ ha_
           refine ⟨(p, (p : Int)), ha_.keep [0, 2, 3, 4, 5] (by kernel_rfl), ?_⟩
           exact ⟨(.inr ⟨_, rfl, hps⟩), by omega, (HB4.j F182 ne_g1_g6), HB183, (HN_ge.j F182 (Ne.symm ne_g6_ge)), (HO_FT.keep F182 (djB nin_g6_FT)), (var_keep 1 (by kernel_rfl) HS F182 (ninC ne_1_g6 (nin0 _))), (var_keep 2 (by kernel_rfl) HR F182 (ninC ne_2_g6 (nin0 _))), (HA.step F182 (inSR ge_HA_g6 inS0))⟩
         ·
          refine WE.region <| Zr 1 <| Zc 74 (sign_bad g6 s p ((q : Nat) : Int) _ (by omega) (by omega) (by omega) 32 HB9) ?_
          rintro _ w184 ⟨rfl, HB186, F185⟩
          refine ⟨_, rfl, trivial, Zd <| WQ.round ?_⟩
          intro a_ ha_
          refine ⟨(p, ((q : Nat) : Int)), ha_.keep [0, 2, 3, 4, 5] (by kernel_rfl), ?_⟩
          exact ⟨(.inr ⟨_, rfl, hps⟩), by omega, (HB4.j F185 ne_g1_g6), HB186, (HN_ge.j F185 (Ne.symm ne_g6_ge)), (HO_FT.keep F185 (djB nin_g6_FT)), (var_keep 1 (by kernel_rfl) HS F185 (ninC ne_1_g6 (nin0 _))), (var_keep 2 (by kernel_rfl) HR F185 (ninC ne_2_g6 (nin0 _))), (HA.step F185 (inSR ge_HA_g6 inS0))⟩
        rcases hst with ⟨rfl, hps⟩ | ⟨q, rfl, hps⟩
        ·
         refine WE.region <| Zr 1 ?_
         have he1 := numE_ge s p
         have he2 := numE_le (show p ≤ s.length by omega)
         cases hv187 : numP s p (-9223372036854775808) 9223372036854775807
         ·
          refine Zc 71 (number_none g6 s p (-9223372036854775808) 9223372036854775807 _ (by omega) (by omega) HS HR ne_1_g6 ne_2_g6 hv187 HB9) ?_
          rintro _ w189 ⟨rfl, HB191, F190⟩
          refine ⟨_, rfl, trivial, ?_⟩
          rw [hv187] at hps
          have hps : parseP s = .inr (p) := hps
          refine Zr 1 <| Zst ge 3 #[.string (str ((s.take (runE inW s 0)).drop 0)), .slice At acc.length ct, J kv, J 0, J 0] (HN_ge.j F190 (Ne.symm ne_g6_ge)) ?_
          intro w192 HB194 F193 _
          refine Zd <| WQ.round ?_
          intro a_ ha_
          refine ⟨(numE s p, (p : Int), 0), ha_.keep [0, 2, 3, 4, 5] (by kernel_rfl), ?_⟩
          exact ⟨(.inr ⟨_, rfl, hps⟩), by omega, ((HB4.j F190 ne_g1_g6).j F193 ne_g1_ge), (HB191.j F193 ne_g6_ge), HB194, ((HO_FT.keep F190 (djB nin_g6_FT)).keep F193 (djB nin_ge_FT)), (var_keep 1 (by kernel_rfl) (var_keep 1 (by kernel_rfl) HS F190 (ninC ne_1_g6 (nin0 _))) F193 (ninC ne_1_ge (nin0 _))), (var_keep 2 (by kernel_rfl) (var_keep 2 (by kernel_rfl) HR F190 (ninC ne_2_g6 (nin0 _))) F193 (ninC ne_2_ge (nin0 _))), ((HA.step F190 (inSR ge_HA_g6 inS0)).step F193 (inSR ge_HA_ge inS0))⟩
         ·
          rename_i v195
          refine Zc 71 (number_some g6 s p (-9223372036854775808) 9223372036854775807 v195 _ (by omega) (by omega) HS HR ne_1_g6 ne_2_g6 hv187 HB9) ?_
          rintro _ w196 ⟨rfl, HB198, F197⟩
          refine ⟨_, rfl, trivial, ?_⟩
          rw [hv187] at hps
          refine Zr 1 <| Zst ge 3 #[.string (str ((s.take (runE inW s 0)).drop 0)), .slice At acc.length ct, J kv, J v195, J 0] (HN_ge.j F197 (Ne.symm ne_g6_ge)) ?_
          intro w199 HB201 F200 _
          refine Zd <| WQ.round ?_
          intro a_ ha_
          refine ⟨(numE s p, -1, v195), ha_.keep [0, 2, 3, 4, 5] (by kernel_rfl), ?_⟩
          exact ⟨(.inl ⟨rfl, hps⟩), by omega, ((HB4.j F197 ne_g1_g6).j F200 ne_g1_ge), (HB198.j F200 ne_g6_ge), HB201, ((HO_FT.keep F197 (djB nin_g6_FT)).keep F200 (djB nin_ge_FT)), (var_keep 1 (by kernel_rfl) (var_keep 1 (by kernel_rfl) HS F197 (ninC ne_1_g6 (nin0 _))) F200 (ninC ne_1_ge (nin0 _))), (var_keep 2 (by kernel_rfl) (var_keep 2 (by kernel_rfl) HR F197 (ninC ne_2_g6 (nin0 _))) F200 (ninC ne_2_ge (nin0 _))), ((HA.step F197 (inSR ge_HA_g6 inS0)).step F200 (inSR ge_HA_ge inS0))⟩
        ·
         refine WE.region <| Zr 1 <| Zc 71 (number_bad g6 s p ((q : Nat) : Int) _ (by omega) (by omega) (by omega) (-9223372036854775808) 9223372036854775807 HS ne_1_g6 HB9) ?_
         rintro _ w203 ⟨rfl, HB205, F204⟩
         refine ⟨_, rfl, trivial, Zr 1 <| Zst ge 3 #[.string (str ((s.take (runE inW s 0)).drop 0)), .slice At acc.length ct, J kv, J 0, J 0] (HN_ge.j F204 (Ne.symm ne_g6_ge)) ?_⟩
         intro w206 HB208 F207 _
         refine Zd <| WQ.round ?_
         intro a_ ha_
         refine ⟨(p, ((q : Nat) : Int), 0), ha_.keep [0, 2, 3, 4, 5] (by kernel_rfl), ?_⟩
         exact ⟨(.inr ⟨_, rfl, hps⟩), by omega, ((HB4.j F204 ne_g1_g6).j F207 ne_g1_ge), (HB205.j F207 ne_g6_ge), HB208, ((HO_FT.keep F204 (djB nin_g6_FT)).keep F207 (djB nin_ge_FT)), (var_keep 1 (by kernel_rfl) (var_keep 1 (by kernel_rfl) HS F204 (ninC ne_1_g6 (nin0 _))) F207 (ninC ne_1_ge (nin0 _))), (var_keep 2 (by kernel_rfl) (var_keep 2 (by kernel_rfl) HR F204 (ninC ne_2_g6 (nin0 _))) F207 (ninC ne_2_ge (nin0 _))), ((HA.step F204 (inSR ge_HA_g6 inS0)).step F207 (inSR ge_HA_ge inS0))⟩
       rcases hst with ⟨rfl, hps⟩ | ⟨q, rfl, hps⟩
       ·
        refine WE.region <| Zr 1 ?_
        rcases Decidable.em (isAt s p 32) with hA209 | hA209
        ·
         have hlt_ := hA209.1
         refine Zc 69 (sign_yes g6 s p _ (by omega) (by omega) 32 hA209.1 (u8_of (by decide) hA209.2) HB9) ?_
         rintro _ w210 ⟨rfl, HB212, F211⟩
         refine ⟨_, rfl, trivial, ?_⟩
         have hps := hps.trans (sp_2 hA209)
         refine Zd <| WQ.round ?_
         intro a_ ha_
         refine ⟨(p + 1, -1), ha_.keep [0, 2, 3, 4, 5] (by kernel_rfl), ?_⟩
         exact ⟨(.inl ⟨rfl, hps⟩), by omega, (HB4.j F211 ne_g1_g6), HB212, (HN_ge.j F211 (Ne.symm ne_g6_ge)), (HO_FT.keep F211 (djB nin_g6_FT)), (var_keep 1 (by kernel_rfl) HS F211 (ninC ne_1_g6 (nin0 _))), (var_keep 2 (by kernel_rfl) HR F211 (ninC ne_2_g6 (nin0 _))), (HA.step F211 (inSR ge_HA_g6 inS0))⟩
        ·
         refine Zc 69 (sign_no g6 s p _ (by omega) (by omega) 32 (fun h_ => hA209 ⟨h_.1, by rw [h_.2]; rfl⟩) HB9) ?_
         rintro _ w213 ⟨rfl, HB215, F214⟩
         refine ⟨_, rfl, trivial, ?_⟩
         have hps : parseP s = .inr (p) := hps.trans (sp_1 hA209)
         refine Zd <| WQ.round ?_
         intro a_ ha_
         refine ⟨(p, (p : Int)), ha_.keep [0, 2, 3, 4, 5] (by kernel_rfl), ?_⟩
         exact ⟨(.inr ⟨_, rfl, hps⟩), by omega, (HB4.j F214 ne_g1_g6), HB215, (HN_ge.j F214 (Ne.symm ne_g6_ge)), (HO_FT.keep F214 (djB nin_g6_FT)), (var_keep 1 (by kernel_rfl) HS F214 (ninC ne_1_g6 (nin0 _))), (var_keep 2 (by kernel_rfl) HR F214 (ninC ne_2_g6 (nin0 _))), (HA.step F214 (inSR ge_HA_g6 inS0))⟩
       ·
        refine WE.region <| Zr 1 <| Zc 69 (sign_bad g6 s p ((q : Nat) : Int) _ (by omega) (by omega) (by omega) 32 HB9) ?_
        rintro _ w216 ⟨rfl, HB218, F217⟩
        refine ⟨_, rfl, trivial, Zd <| WQ.round ?_⟩
        intro a_ ha_
        refine ⟨(p, ((q : Nat) : Int)), ha_.keep [0, 2, 3, 4, 5] (by kernel_rfl), ?_⟩
        exact ⟨(.inr ⟨_, rfl, hps⟩), by omega, (HB4.j F217 ne_g1_g6), HB218, (HN_ge.j F217 (Ne.symm ne_g6_ge)), (HO_FT.keep F217 (djB nin_g6_FT)), (var_keep 1 (by kernel_rfl) HS F217 (ninC ne_1_g6 (nin0 _))), (var_keep 2 (by kernel_rfl) HR F217 (ninC ne_2_g6 (nin0 _))), (HA.step F217 (inSR ge_HA_g6 inS0))⟩
      refine Zq ?_
      rcases hst with ⟨rfl, ⟨rfl, hps⟩ | ⟨hk0, hps⟩⟩ | ⟨q, rfl, hps, rfl⟩
      ·
       refine WE.region <| Zr 1 <| Zl 63 (J 0) (HN_ge.s 2) <| Zr 1 <| Zdn <| ZT <| WE.region <| Zr 2 <| Zc 67 (fail_ok g6 s p _ (by omega) (by omega) (pf : Int) HB9) ?_
       rintro _ w219 ⟨rfl, HB221, F220⟩
       refine ⟨_, rfl, trivial, Zd <| WQ.round ?_⟩
       intro a_ ha_
       refine ⟨(p, (pf : Int), 0), ha_.keep [0, 2, 3, 4, 5] (by kernel_rfl), ?_⟩
       exact ⟨(.inr ⟨_, rfl, hps⟩), by omega, (HB4.j F220 ne_g1_g6), HB221, (HN_ge.j F220 (Ne.symm ne_g6_ge)), (HO_FT.keep F220 (djB nin_g6_FT)), (var_keep 1 (by kernel_rfl) HS F220 (ninC ne_1_g6 (nin0 _))), (var_keep 2 (by kernel_rfl) HR F220 (ninC ne_2_g6 (nin0 _))), (HA.step F220 (inSR ge_HA_g6 inS0))⟩
      ·
       refine WE.region <| Zr 1 <| Zl 63 (J kv) (HN_ge.s 2) <| ZoPF 64 ((kv : Int) < 1) (by omega) <| Zdn <| ZF <| WE.skip <| WQ.round ?_
       intro a_ ha_
       refine ⟨(p, -1, kv), ha_.keep [0, 2, 3, 4, 5] (by kernel_rfl), ?_⟩
       exact ⟨(.inl ⟨rfl, hps⟩), by omega, HB4, HB9, HN_ge, HO_FT, HS, HR, HA⟩
      ·
       refine WE.region <| Zr 1 <| Zl 63 (J 0) (HN_ge.s 2) <| Zr 1 <| Zdn <| ZT <| WE.region <| Zr 2 <| Zc 67 (fail_bad g6 s p ((q : Nat) : Int) _ (by omega) (by omega) (by omega) (pf : Int) HB9) ?_
       rintro _ w222 ⟨rfl, HB224, F223⟩
       refine ⟨_, rfl, trivial, Zd <| WQ.round ?_⟩
       intro a_ ha_
       refine ⟨(p, ((q : Nat) : Int), 0), ha_.keep [0, 2, 3, 4, 5] (by kernel_rfl), ?_⟩
       exact ⟨(.inr ⟨_, rfl, hps⟩), by omega, (HB4.j F223 ne_g1_g6), HB224, (HN_ge.j F223 (Ne.symm ne_g6_ge)), (HO_FT.keep F223 (djB nin_g6_FT)), (var_keep 1 (by kernel_rfl) HS F223 (ninC ne_1_g6 (nin0 _))), (var_keep 2 (by kernel_rfl) HR F223 (ninC ne_2_g6 (nin0 _))), (HA.step F223 (inSR ge_HA_g6 inS0))⟩
     refine WE.region <| Zr 1 <| Zc 58 (one_bad g6 s p ((q : Nat) : Int) _ (by omega) (by omega) (by omega) HB9) ?_
     rintro _ w225 ⟨rfl, HB227, F226⟩
     refine ⟨_, rfl, trivial, Zc 59 (Tryz.strings_Index_one ⟨#[99, 103, 104]⟩ (63 : UInt8) _) ?_⟩
     rintro _ w228 ⟨rfl, hw_⟩
     have F229 : Fr [] w225 w228 := by rw [hw_]; exact Fr.refl [] _
     refine ⟨_, rfl, trivial, Zo 60 (J (IntKind.i64.wrap (1 + (Lib.indexByte [99, 103, 104] (63 : UInt8))))) <| WO.top (v' := J (kindP (63 : UInt8))) (by rw [ix_kind (63 : UInt8)]; exact wrap_i64 rfl (by have := kind_le (63 : UInt8); omega)) <| Zr 1 <| Zst ge 2 #[.string (str ((s.take (runE inW s 0)).drop 0)), .slice At acc.length ct, J (kindP (63 : UInt8)), J 0, J 0] ((HN_ge.j F226 (Ne.symm ne_g6_ge)).k F229) ?_⟩
     intro w230 HB232 F231 _
     refine Zd <| WQ.round ?_
     intro a_ ha_
     refine ⟨(p, ((q : Nat) : Int), kindP (63 : UInt8), p), ha_.keep [0, 2, 3, 4, 5, 7] (by kernel_rfl), ?_⟩
     exact ⟨(.inr ⟨_, rfl, hps, rfl⟩), by omega, by first | exact kind_le _ | decide, (((HB4.j F226 ne_g1_g6).k F229).j F231 ne_g1_ge), ((HB227.k F229).j F231 ne_g6_ge), HB232, (((HO_FT.keep F226 (djB nin_g6_FT)).keep F229 dj0).keep F231 (djB nin_ge_FT)), (var_keep 1 (by kernel_rfl) ((var_keep 1 (by kernel_rfl) HS F226 (ninC ne_1_g6 (nin0 _))).k F229) F231 (ninC ne_1_ge (nin0 _))), (var_keep 2 (by kernel_rfl) ((var_keep 2 (by kernel_rfl) HR F226 (ninC ne_2_g6 (nin0 _))).k F229) F231 (ninC ne_2_ge (nin0 _))), (((HA.step F226 (inSR ge_HA_g6 inS0)).step0 F229).step F231 (inSR ge_HA_ge inS0))⟩
   rcases hst with ⟨rfl, hps⟩ | ⟨q, rfl, hps⟩
   ·
    refine WE.region <| Zr 1 ?_
    rcases Decidable.em (isAt s p 32) with hA233 | hA233
    ·
     have hlt_ := hA233.1
     refine Zc 52 (sign_yes g6 s p _ (by omega) (by omega) 32 hA233.1 (u8_of (by decide) hA233.2) HB9) ?_
     rintro _ w234 ⟨rfl, HB236, F235⟩
     refine ⟨_, rfl, trivial, ?_⟩
     have hps := hps.trans (rp_y hA233)
     refine Zd <| WQ.round ?_
     intro a_ ha_
     refine ⟨(p + 1, -1), ha_.keep [0, 2, 3, 4, 5] (by kernel_rfl), ?_⟩
     exact ⟨(.inl ⟨rfl, hps⟩), by omega, (HB4.j F235 ne_g1_g6), HB236, (HN_ge.j F235 (Ne.symm ne_g6_ge)), (HO_FT.keep F235 (djB nin_g6_FT)), (var_keep 1 (by kernel_rfl) HS F235 (ninC ne_1_g6 (nin0 _))), (var_keep 2 (by kernel_rfl) HR F235 (ninC ne_2_g6 (nin0 _))), (HA.step F235 (inSR ge_HA_g6 inS0))⟩
    ·
     refine Zc 52 (sign_no g6 s p _ (by omega) (by omega) 32 (fun h_ => hA233 ⟨h_.1, by rw [h_.2]; rfl⟩) HB9) ?_
     rintro _ w237 ⟨rfl, HB239, F238⟩
     refine ⟨_, rfl, trivial, ?_⟩
     have hps : parseP s = .inr (p) := hps.trans (rp_1 hA233)
     refine Zd <| WQ.round ?_
     intro a_ ha_
     refine ⟨(p, (p : Int)), ha_.keep [0, 2, 3, 4, 5] (by kernel_rfl), ?_⟩
     exact ⟨(.inr ⟨_, rfl, hps⟩), by omega, (HB4.j F238 ne_g1_g6), HB239, (HN_ge.j F238 (Ne.symm ne_g6_ge)), (HO_FT.keep F238 (djB nin_g6_FT)), (var_keep 1 (by kernel_rfl) HS F238 (ninC ne_1_g6 (nin0 _))), (var_keep 2 (by kernel_rfl) HR F238 (ninC ne_2_g6 (nin0 _))), (HA.step F238 (inSR ge_HA_g6 inS0))⟩
   ·
    refine WE.region <| Zr 1 <| Zc 52 (sign_bad g6 s p ((q : Nat) : Int) _ (by omega) (by omega) (by omega) 32 HB9) ?_
    rintro _ w240 ⟨rfl, HB242, F241⟩
    refine ⟨_, rfl, trivial, Zd <| WQ.round ?_⟩
    intro a_ ha_
    refine ⟨(p, ((q : Nat) : Int)), ha_.keep [0, 2, 3, 4, 5] (by kernel_rfl), ?_⟩
    exact ⟨(.inr ⟨_, rfl, hps⟩), by omega, (HB4.j F241 ne_g1_g6), HB242, (HN_ge.j F241 (Ne.symm ne_g6_ge)), (HO_FT.keep F241 (djB nin_g6_FT)), (var_keep 1 (by kernel_rfl) HS F241 (ninC ne_1_g6 (nin0 _))), (var_keep 2 (by kernel_rfl) HR F241 (ninC ne_2_g6 (nin0 _))), (HA.step F241 (inSR ge_HA_g6 inS0))⟩
  refine WE.block <| WE.loop (α := Nat × Nat × Int × List Nat × Option Addr × Nat × (List (L × L))) (E := fun ⟨k, p, bz, FT, At, ct, acc⟩ => [(0, .string (str s)), (2, Pt g1 0), (3, .nilIface), (4, Pt g6 0), (5, Pt ge 0)]) (I := fun ⟨k, p, bz, FT, At, ct, acc⟩ wr => ((bz = -1 ∧ parseP s = afterP s (tagsP s k p acc) ∧ acc.length + k = 6) ∨ (∃ q : Nat, bz = (q : Int) ∧ parseP s = .inr q)) ∧ p ≤ s.length ∧ Blk wr g1 #[.string (⟨#[]⟩), .slice none 0 0, J 0, J 0, J 0] 91 ∧ Blk wr g6 #[.string (str s), J (p : Int), J bz] 138 ∧ Blk wr ge #[.string (str ((s.take (runE inW s 0)).drop 0)), .slice At acc.length ct, J 0, J 0, J 0] 91 ∧ VarI wr "strconv.ErrSyntax" ∧ VarI wr "strconv.ErrRange" ∧ OwnX 143 2 wr FT (.slice At acc.length ct) (List.map cT acc) ∧ g1 ∉ FT ∧ g6 ∉ FT ∧ ge ∉ FT ∧ 1 ∉ FT ∧ 2 ∉ FT ∧ (∀ y ∈ FT, (World.heap w).size ≤ y) ∧ Fr [] w wr) (m := fun ⟨k, p, bz, FT, At, ct, acc⟩ => if bz = -1 then k + 1 else 0) (6, p, bz, [], none, 0, []) [0, 2, 3, 4, 5] (by kernel_rfl) ?_ ?_
  ·
   exact ⟨hst.imp (fun h_ => ⟨h_.1, h_.2, rfl⟩) id, hp, HB4, HB9, HN_ge, HS, HR, OwnX.nil _ _ _, (by simp), (by simp), (by simp), (by simp), (by simp), (by simp), HA⟩
  rintro ⟨k, p, bz, FT, At, ct, acc⟩ wr ⟨hst, hp, HB4, HB9, HN_ge, HS, HR, HO_FT, nin_g1_FT, nin_g6_FT, nin_ge_FT, nin_1_FT, nin_2_FT, ge_HA_FT, HA⟩
  refine Zq <| Zq ?_
  rcases hst with ⟨rfl, hps, hk⟩ | ⟨q, rfl, hps⟩
  ·
   refine WE.region <| Zr 3 <| Zl 22 (J (-1)) (HB9.s 2) <| Zr 1 <| Zdn <| ZT <| Zk <| WE.block <| Zq <| WE.block <| Zsg <| Zr 1 ?_
   rcases Decidable.em (isAt s p 44) with hA243 | hA243
   ·
    have hlt_ := hA243.1
    refine Zc 26 (next_yes g6 s p _ (by omega) (by omega) 44 hA243.1 (u8_of (by decide) hA243.2) HB9) ?_
    rintro _ w244 ⟨rfl, HB246, F245⟩
    have HN_ge := HN_ge.j F245 (Ne.symm ne_g6_ge)
    refine ⟨_, rfl, trivial, Zr 1 <| Zdn <| ZT <| Zq <| Zsg <| Zr 1 <| Zl 28 (.slice At acc.length ct) (HN_ge.s 1) <| Zr 1 <| Zo 30 (.bool (decide (((acc.length : Int) : Int) = (6 : Int)))) ?_⟩
    refine WO.topP (((acc.length : Int) : Int) = (6 : Int)) ?_ ?_
    ·
     intro h247
     refine Zdn <| ZT <| Zq ?_
     obtain rfl : k = 0 := by omega
     have hps : parseP s = .inr (p) := hps.trans (congrArg (afterP s) (tags_many hA243))
     refine WE.region <| Zr 4 <| Zl 35 (J ((p + 1 : Nat) : Int)) (HB246.s 1) <| Zw 36 (((p + 1 : Nat) : Int) - 1) (p : Int) <| Zc 37 (fail_ok g6 s (p + 1) _ (by omega) (by omega) (p : Int) HB246) ?_
     rintro _ w248 ⟨rfl, HB250, F249⟩
     refine ⟨_, rfl, trivial, Zdn <| WE.exit <| WQ.thenE <| ZX <| WQ.thenE <| ZX <| WQ.thenE <| WQ.blkE <| WQ.round ?_⟩
     intro a_ ha_
     refine ⟨(p + 1, (p : Int), FT, At, ct, acc), ha_.keep [0, 2, 3, 4, 5] (by kernel_rfl), ?_⟩
     exact ⟨(.inr ⟨_, rfl, hps⟩), by omega, ((HB4.j F245 ne_g1_g6).j F249 ne_g1_g6), HB250, (HN_ge.j F249 (Ne.symm ne_g6_ge)), (var_keep 1 (by kernel_rfl) (var_keep 1 (by kernel_rfl) HS F245 (ninC ne_1_g6 (nin0 _))) F249 (ninC ne_1_g6 (nin0 _))), (var_keep 2 (by kernel_rfl) (var_keep 2 (by kernel_rfl) HR F245 (ninC ne_2_g6 (nin0 _))) F249 (ninC ne_2_g6 (nin0 _))), ((HO_FT.keep F245 (djB nin_g6_FT)).keep F249 (djB nin_g6_FT)), nin_g1_FT, nin_g6_FT, nin_ge_FT, nin_1_FT, nin_2_FT, ge_HA_FT, ((HA.step F245 (inSR ge_HA_g6 inS0)).step F249 (inSR ge_HA_g6 inS0))⟩
    intro h247
    refine Zdn <| ZF <| WE.skip <| Zn ?_
    obtain ⟨k, rfl⟩ : ∃ k', k = k' + 1 := ⟨k - 1, by omega⟩
    have hA44 := hA243
    refine WE.seqJ (α := Nat × Int) (E := fun ⟨p1, bz⟩ => [(0, .string (str s)), (2, Pt g1 0), (3, .nilIface), (4, Pt g6 0), (5, Pt ge 0), (6, .string (str ((s.take (runE inW s (p + 1))).drop (p + 1))))]) (I := fun ⟨p1, bz⟩ wr => ((bz = -1 ∧ isWord (part s (p + 1)) = true ∧ p1 = runE inW s (p + 1)) ∨ (∃ q : Nat, bz = (q : Int) ∧ parseP s = .inr q)) ∧ p1 ≤ s.length ∧ Blk wr g1 #[.string (⟨#[]⟩), .slice none 0 0, J 0, J 0, J 0] 91 ∧ Blk wr ge #[.string (str ((s.take (runE inW s 0)).drop 0)), .slice At acc.length ct, J 0, J 0, J 0] 91 ∧ Blk wr g6 #[.string (str s), J (p1 : Int), J bz] 138 ∧ OwnX 143 2 wr FT (.slice At acc.length ct) (List.map cT acc) ∧ VarI wr "strconv.ErrSyntax" ∧ VarI wr "strconv.ErrRange" ∧ Fr [] w wr) ?_ ?_
    ·
     rintro ⟨p1, bz⟩ wr ⟨hst, hp1, HB4, HN_ge, HB246, HO_FT, HS, HR, HA⟩
     refine WE.seqJ (α := Nat × Int) (E := fun ⟨p1, bz⟩ => [(0, .string (str s)), (2, Pt g1 0), (3, .nilIface), (4, Pt g6 0), (5, Pt ge 0), (6, .string (str ((s.take (runE inW s (p + 1))).drop (p + 1))))]) (I := fun ⟨p1, bz⟩ wr => ((bz = -1 ∧ isWord (part s (p + 1)) = true ∧ isAt s (runE inW s (p + 1)) 61 ∧ p1 = runE inW s (p + 1) + 1) ∨ (∃ q : Nat, bz = (q : Int) ∧ parseP s = .inr q)) ∧ p1 ≤ s.length ∧ Blk wr g1 #[.string (⟨#[]⟩), .slice none 0 0, J 0, J 0, J 0] 91 ∧ Blk wr ge #[.string (str ((s.take (runE inW s 0)).drop 0)), .slice At acc.length ct, J 0, J 0, J 0] 91 ∧ Blk wr g6 #[.string (str s), J (p1 : Int), J bz] 138 ∧ OwnX 143 2 wr FT (.slice At acc.length ct) (List.map cT acc) ∧ VarI wr "strconv.ErrSyntax" ∧ VarI wr "strconv.ErrRange" ∧ Fr [] w wr) ?_ ?_
     ·
      rintro ⟨p1, bz⟩ wr ⟨hst, hp1, HB4, HN_ge, HB246, HO_FT, HS, HR, HA⟩
      refine Zq ?_
      rcases hst with ⟨rfl, hK1, hA61, rfl⟩ | ⟨q, rfl, hps⟩
      ·
       refine ZER (Kp [ge]) [1] [4, 6] [7, 9] 10 ?_
       intro w251 F252 _
       have HN_ge := HN_ge.k F252
       refine Yq 0 1 <| Yl 1 43 (.slice At acc.length ct) (fun _ k => (HN_ge.kp k (by simp)).at 1 (by kernel_rfl)) <| Yq 2 2 ?_
       have he1 := runE_ge inW s (runE inW s (p + 1) + 1)
       have he2 := runE_le inW (show runE inW s (p + 1) + 1 ≤ s.length by omega)
       rcases Bool.eq_false_or_eq_true (isWord (part s (runE inW s (p + 1) + 1))) with hK253 | hK253
       ·
        refine WO.call (SA.ER _ 4 _ (by kernel_rfl) rfl) 46 (by kernel_rfl) (word_yes g6 s (runE inW s (p + 1) + 1) _ (by omega) (by omega) hK253 (HB246.k F252)) ?_
        rintro _ w254 ⟨rfl, HB256, F255⟩
        refine ⟨_, rfl, (kp_of (kpC HN_ge.lt (ninC (Ne.symm ne_g6_ge) (nin0 _)) kp0)) _ F255, ?_⟩
        have hps := hps.trans (congrArg (afterP s) (tags_on hA44 hK1 hA61 hK253))
        have HN_ge := HN_ge.j F255 (Ne.symm ne_g6_ge)
        refine Yq 5 1 <| WO.bx (SA.ER _ 6 _ (by kernel_rfl) rfl) 48 #[.string (str ((s.take (runE inW s (p + 1))).drop (p + 1))), .string (str ((s.take (runE inW s (runE inW s (p + 1) + 1))).drop (runE inW s (p + 1) + 1)))] 143 (fun g => .slice (some ⟨g, 0, none⟩) 1 1) (by kernel_rfl) (kp_of (kpC HN_ge.lt (nin0 _) kp0)) ?_
        intro g257 w258 HB260 F259 le261 _
        refine Yax 7 (m := 1) (ys := List.map cT ([((((s.take (runE inW s (p + 1))).drop (p + 1)), ((s.take (runE inW s (runE inW s (p + 1) + 1))).drop (runE inW s (p + 1) + 1))) : L × L)])) 49 et_t (((HO_FT.keep F252 dj0).keep F255 (djB nin_g6_FT)).keep F259 dj0) (RowB.src (RowB.of_blk (n := 1) HB260 (List.map cT [((((s.take (runE inW s (p + 1))).drop (p + 1)), ((s.take (runE inW s (runE inW s (p + 1) + 1))).drop (runE inW s (p + 1) + 1))) : L × L)]) rfl rfl (cT_len _) (cT_one _) (by omega))) (cT_len _) (cT_one _) ?_
        intro v267 w268 G269 HO270 F271 hg272
        rw [← List.map_append] at HO270
        have HB4 := ((HB4.k F252).j F255 ne_g1_g6).k F259
        have nin_g1_G269 := grow_nin hg272 nin_g1_FT HB4.lt
        have HN_ge := HN_ge.k F259
        have nin_ge_G269 := grow_nin hg272 nin_ge_FT HN_ge.lt
        have HB256 := HB256.k F259
        have nin_g6_G269 := grow_nin hg272 nin_g6_FT HB256.lt
        have HS := (var_keep 1 (by kernel_rfl) (HS.k F252) F255 (ninC ne_1_g6 (nin0 _))).k F259
        have nin_1_G269 := grow_nin hg272 nin_1_FT ((var_lt 1 (by kernel_rfl) HS))
        have HR := (var_keep 2 (by kernel_rfl) (HR.k F252) F255 (ninC ne_2_g6 (nin0 _))).k F259
        have nin_2_G269 := grow_nin hg272 nin_2_FT ((var_lt 2 (by kernel_rfl) HR))
        have HA := ((HA.step0 F252).step F255 (inSR ge_HA_g6 inS0)).step0 F259
        have ge_HA_G269 := grow_ge hg272 ge_HA_FT HA.size
        obtain ⟨A273, cap274, rfl⟩ := HO270.sliceN (List.length_map _)
        have := @List.length_append _ acc ([((((s.take (runE inW s (p + 1))).drop (p + 1)), ((s.take (runE inW s (runE inW s (p + 1) + 1))).drop (runE inW s (p + 1) + 1))) : L × L)])
        refine Yq 8 1 <| Ys 9 ge 1 [.slice A273 ((acc ++ [((((s.take (runE inW s (p + 1))).drop (p + 1)), ((s.take (runE inW s (runE inW s (p + 1) + 1))).drop (runE inW s (p + 1) + 1))) : L × L)]).length) cap274] #[.string (str ((s.take (runE inW s 0)).drop 0)), .slice A273 ((acc ++ [((((s.take (runE inW s (p + 1))).drop (p + 1)), ((s.take (runE inW s (runE inW s (p + 1) + 1))).drop (runE inW s (p + 1) + 1))) : L × L)]).length) cap274, J 0, J 0, J 0] (HN_ge.keep F271 nin_ge_FT) ?_
        intro w275 HB277 F276 _
        refine Ydn <| WE.exit <| ZX <| WQ.thenE <| WQ.blkE <| WQ.round ?_
        intro a_ ha_
        refine ⟨(k, runE inW s (runE inW s (p + 1) + 1), -1, G269, A273, cap274, (acc ++ [((((s.take (runE inW s (p + 1))).drop (p + 1)), ((s.take (runE inW s (runE inW s (p + 1) + 1))).drop (runE inW s (p + 1) + 1))) : L × L)])), ?_, ha_.keep [0, 2, 3, 4, 5] (by kernel_rfl), ?_⟩
        ·
         show (if _ then _ else _) < (if _ then _ else _); first | (rw [if_pos rfl, if_pos rfl]; omega) | (rw [if_neg (by omega), if_pos rfl]; omega)
        ·
         exact ⟨.inl ⟨rfl, hps, by simp only [List.length_append, List.length_cons, List.length_nil]; omega⟩, by omega, ((HB4.keep F271 nin_g1_FT).j F276 ne_g1_ge), ((HB256.keep F271 nin_g6_FT).j F276 ne_g6_ge), HB277, (var_keep 1 (by kernel_rfl) (var_keep 1 (by kernel_rfl) HS F271 nin_1_FT) F276 (ninC ne_1_ge (nin0 _))), (var_keep 2 (by kernel_rfl) (var_keep 2 (by kernel_rfl) HR F271 nin_2_FT) F276 (ninC ne_2_ge (nin0 _))), (HO270.keep F276 (djB nin_ge_G269)), nin_g1_G269, nin_g6_G269, nin_ge_G269, nin_1_G269, nin_2_G269, ge_HA_G269, ((HA.step F271 (inF ge_HA_FT)).step F276 (inSR ge_HA_ge inS0))⟩
       ·
        refine WO.call (SA.ER _ 4 _ (by kernel_rfl) rfl) 46 (by kernel_rfl) (word_no g6 s (runE inW s (p + 1) + 1) _ (by omega) (by omega) hK253 (HB246.k F252)) ?_
        rintro _ w278 ⟨rfl, HB280, F279⟩
        refine ⟨_, rfl, (kp_of (kpC HN_ge.lt (ninC (Ne.symm ne_g6_ge) (nin0 _)) kp0)) _ F279, ?_⟩
        have hps : parseP s = .inr (runE inW s (p + 1) + 1) := hps.trans (congrArg (afterP s) (tags_val hA44 hK1 hA61 hK253))
        have HN_ge := HN_ge.j F279 (Ne.symm ne_g6_ge)
        refine Yq 5 1 <| WO.bx (SA.ER _ 6 _ (by kernel_rfl) rfl) 48 #[.string (str ((s.take (runE inW s (p + 1))).drop (p + 1))), .string (str ((s.take (runE inW s (runE inW s (p + 1) + 1))).drop (runE inW s (p + 1) + 1)))] 143 (fun g => .slice (some ⟨g, 0, none⟩) 1 1) (by kernel_rfl) (kp_of (kpC HN_ge.lt (nin0 _) kp0)) ?_
        intro g281 w282 HB284 F283 le285 _
        refine Yax 7 (m := 1) (ys := List.map cT ([((((s.take (runE inW s (p + 1))).drop (p + 1)), ((s.take (runE inW s (runE inW s (p + 1) + 1))).drop (runE inW s (p + 1) + 1))) : L × L)])) 49 et_t (((HO_FT.keep F252 dj0).keep F279 (djB nin_g6_FT)).keep F283 dj0) (RowB.src (RowB.of_blk (n := 1) HB284 (List.map cT [((((s.take (runE inW s (p + 1))).drop (p + 1)), ((s.take (runE inW s (runE inW s (p + 1) + 1))).drop (runE inW s (p + 1) + 1))) : L × L)]) rfl rfl (cT_len _) (cT_one _) (by omega))) (cT_len _) (cT_one _) ?_
        intro v291 w292 G293 HO294 F295 hg296
        rw [← List.map_append] at HO294
        have HB4 := ((HB4.k F252).j F279 ne_g1_g6).k F283
        have nin_g1_G293 := grow_nin hg296 nin_g1_FT HB4.lt
        have HN_ge := HN_ge.k F283
        have nin_ge_G293 := grow_nin hg296 nin_ge_FT HN_ge.lt
        have HB280 := HB280.k F283
        have nin_g6_G293 := grow_nin hg296 nin_g6_FT HB280.lt
        have HS := (var_keep 1 (by kernel_rfl) (HS.k F252) F279 (ninC ne_1_g6 (nin0 _))).k F283
        have nin_1_G293 := grow_nin hg296 nin_1_FT ((var_lt 1 (by kernel_rfl) HS))
        have HR := (var_keep 2 (by kernel_rfl) (HR.k F252) F279 (ninC ne_2_g6 (nin0 _))).k F283
        have nin_2_G293 := grow_nin hg296 nin_2_FT ((var_lt 2 (by kernel_rfl) HR))
        have HA := ((HA.step0 F252).step F279 (inSR ge_HA_g6 inS0)).step0 F283
        have ge_HA_G293 := grow_ge hg296 ge_HA_FT HA.size
        obtain ⟨A297, cap298, rfl⟩ := HO294.sliceN (List.length_map _)
        have := @List.length_append _ acc ([((((s.take (runE inW s (p + 1))).drop (p + 1)), ((s.take (runE inW s (runE inW s (p + 1) + 1))).drop (runE inW s (p + 1) + 1))) : L × L)])
        refine Yq 8 1 <| Ys 9 ge 1 [.slice A297 ((acc ++ [((((s.take (runE inW s (p + 1))).drop (p + 1)), ((s.take (runE inW s (runE inW s (p + 1) + 1))).drop (runE inW s (p + 1) + 1))) : L × L)]).length) cap298] #[.string (str ((s.take (runE inW s 0)).drop 0)), .slice A297 ((acc ++ [((((s.take (runE inW s (p + 1))).drop (p + 1)), ((s.take (runE inW s (runE inW s (p + 1) + 1))).drop (runE inW s (p + 1) + 1))) : L × L)]).length) cap298, J 0, J 0, J 0] (HN_ge.keep F295 nin_ge_FT) ?_
        intro w299 HB301 F300 _
        refine Ydn <| WE.exit <| ZX <| WQ.thenE <| WQ.blkE <| WQ.round ?_
        intro a_ ha_
        refine ⟨(k, runE inW s (runE inW s (p + 1) + 1), ((runE inW s (p + 1) + 1 : Nat) : Int), G293, A297, cap298, (acc ++ [((((s.take (runE inW s (p + 1))).drop (p + 1)), ((s.take (runE inW s (runE inW s (p + 1) + 1))).drop (runE inW s (p + 1) + 1))) : L × L)])), ?_, ha_.keep [0, 2, 3, 4, 5] (by kernel_rfl), ?_⟩
        ·
         show (if _ then _ else _) < (if _ then _ else _); first | (rw [if_pos rfl, if_pos rfl]; omega) | (rw [if_neg (by omega), if_pos rfl]; omega)
        ·
         exact ⟨.inr ⟨_, rfl, hps⟩, by omega, ((HB4.keep F295 nin_g1_FT).j F300 ne_g1_ge), ((HB280.keep F295 nin_g6_FT).j F300 ne_g6_ge), HB301, (var_keep 1 (by kernel_rfl) (var_keep 1 (by kernel_rfl) HS F295 nin_1_FT) F300 (ninC ne_1_ge (nin0 _))), (var_keep 2 (by kernel_rfl) (var_keep 2 (by kernel_rfl) HR F295 nin_2_FT) F300 (ninC ne_2_ge (nin0 _))), (HO294.keep F300 (djB nin_ge_G293)), nin_g1_G293, nin_g6_G293, nin_ge_G293, nin_1_G293, nin_2_G293, ge_HA_G293, ((HA.step F295 (inF ge_HA_FT)).step F300 (inSR ge_HA_ge inS0))⟩
      ·
       refine ZER (Kp [ge]) [1] [4, 6] [7, 9] 10 ?_
       intro w302 F303 _
       have HN_ge := HN_ge.k F303
       refine Yq 0 1 <| Yl 1 43 (.slice At acc.length ct) (fun _ k => (HN_ge.kp k (by simp)).at 1 (by kernel_rfl)) <| Yq 2 2 <| WO.call (SA.ER _ 4 _ (by kernel_rfl) rfl) 46 (by kernel_rfl) (word_bad2 g6 s p1 ((q : Nat) : Int) _ (by omega) (by omega) (by omega) (HB246.k F303)) ?_
       rintro _ w304 ⟨rfl, HB306, F305⟩
       refine ⟨_, rfl, (kp_of (kpC HN_ge.lt (ninC (Ne.symm ne_g6_ge) (nin0 _)) kp0)) _ F305, ?_⟩
       have HN_ge := HN_ge.j F305 (Ne.symm ne_g6_ge)
       refine Yq 5 1 <| WO.bx (SA.ER _ 6 _ (by kernel_rfl) rfl) 48 #[.string (str ((s.take (runE inW s (p + 1))).drop (p + 1))), .string (str ((s.take p1).drop p1))] 143 (fun g => .slice (some ⟨g, 0, none⟩) 1 1) (by kernel_rfl) (kp_of (kpC HN_ge.lt (nin0 _) kp0)) ?_
       intro g307 w308 HB310 F309 le311 _
       refine Yax 7 (m := 1) (ys := List.map cT ([((((s.take (runE inW s (p + 1))).drop (p + 1)), ((s.take p1).drop p1)) : L × L)])) 49 et_t (((HO_FT.keep F303 dj0).keep F305 (djB nin_g6_FT)).keep F309 dj0) (RowB.src (RowB.of_blk (n := 1) HB310 (List.map cT [((((s.take (runE inW s (p + 1))).drop (p + 1)), ((s.take p1).drop p1)) : L × L)]) rfl rfl (cT_len _) (cT_one _) (by omega))) (cT_len _) (cT_one _) ?_
       intro v317 w318 G319 HO320 F321 hg322
       rw [← List.map_append] at HO320
       have HB4 := ((HB4.k F303).j F305 ne_g1_g6).k F309
       have nin_g1_G319 := grow_nin hg322 nin_g1_FT HB4.lt
       have HN_ge := HN_ge.k F309
       have nin_ge_G319 := grow_nin hg322 nin_ge_FT HN_ge.lt
       have HB306 := HB306.k F309
       have nin_g6_G319 := grow_nin hg322 nin_g6_FT HB306.lt
       have HS := (var_keep 1 (by kernel_rfl) (HS.k F303) F305 (ninC ne_1_g6 (nin0 _))).k F309
       have nin_1_G319 := grow_nin hg322 nin_1_FT ((var_lt 1 (by kernel_rfl) HS))
       have HR := (var_keep 2 (by kernel_rfl) (HR.k F303) F305 (ninC ne_2_g6 (nin0 _))).k F309
       have nin_2_G319 := grow_nin hg322 nin_2_FT ((var_lt 2 (by kernel_rfl) HR))
       have HA := ((HA.step0 F303).step F305 (inSR ge_HA_g6 inS0)).step0 F309
       have ge_HA_G319 := grow_ge hg322 ge_HA_FT HA.size
       obtain ⟨A323, cap324, rfl⟩ := HO320.sliceN (List.length_map _)
       have := @List.length_append _ acc ([((((s.take (runE inW s (p + 1))).drop (p + 1)), ((s.take p1).drop p1)) : L × L)])
       refine Yq 8 1 <| Ys 9 ge 1 [.slice A323 ((acc ++ [((((s.take (runE inW s (p + 1))).drop (p + 1)), ((s.take p1).drop p1)) : L × L)]).length) cap324] #[.string (str ((s.take (runE inW s 0)).drop 0)), .slice A323 ((acc ++ [((((s.take (runE inW s (p + 1))).drop (p + 1)), ((s.take p1).drop p1)) : L × L)]).length) cap324, J 0, J 0, J 0] (HN_ge.keep F321 nin_ge_FT) ?_
       intro w325 HB327 F326 _
       refine Ydn <| WE.exit <| ZX <| WQ.thenE <| WQ.blkE <| WQ.round ?_
       intro a_ ha_
       refine ⟨(k, p1, ((q : Nat) : Int), G319, A323, cap324, (acc ++ [((((s.take (runE inW s (p + 1))).drop (p + 1)), ((s.take p1).drop p1)) : L × L)])), ?_, ha_.keep [0, 2, 3, 4, 5] (by kernel_rfl), ?_⟩
       ·
        show (if _ then _ else _) < (if _ then _ else _); first | (rw [if_pos rfl, if_pos rfl]; omega) | (rw [if_neg (by omega), if_pos rfl]; omega)
       ·
        exact ⟨.inr ⟨_, rfl, hps⟩, by omega, ((HB4.keep F321 nin_g1_FT).j F326 ne_g1_ge), ((HB306.keep F321 nin_g6_FT).j F326 ne_g6_ge), HB327, (var_keep 1 (by kernel_rfl) (var_keep 1 (by kernel_rfl) HS F321 nin_1_FT) F326 (ninC ne_1_ge (nin0 _))), (var_keep 2 (by kernel_rfl) (var_keep 2 (by kernel_rfl) HR F321 nin_2_FT) F326 (ninC ne_2_ge (nin0 _))), (HO320.keep F326 (djB nin_ge_G319)), nin_g1_G319, nin_g6_G319, nin_ge_G319, nin_1_G319, nin_2_G319, ge_HA_G319, ((HA.step F321 (inF ge_HA_FT)).step F326 (inSR ge_HA_ge inS0))⟩
     rcases hst with ⟨rfl, hK1, rfl⟩ | ⟨q, rfl, hps⟩
     ·
      refine WE.region <| Zr 1 ?_
      rcases Decidable.em (isAt s (runE inW s (p + 1)) 61) with hA328 | hA328
      ·
       have hlt_ := hA328.1
       refine Zc 41 (sign_yes g6 s (runE inW s (p + 1)) _ (by omega) (by omega) 61 hA328.1 (u8_of (by decide) hA328.2) HB246) ?_
       rintro _ w329 ⟨rfl, HB331, F330⟩
       refine ⟨_, rfl, trivial, Zd <| WQ.round ?_⟩
       intro a_ ha_
       refine ⟨(runE inW s (p + 1) + 1, -1), ha_.keep [0, 2, 3, 4, 5, 6] (by kernel_rfl), ?_⟩
       exact ⟨.inl ⟨rfl, hK1, hA328, rfl⟩, by omega, (HB4.j F330 ne_g1_g6), (HN_ge.j F330 (Ne.symm ne_g6_ge)), HB331, (HO_FT.keep F330 (djB nin_g6_FT)), (var_keep 1 (by kernel_rfl) HS F330 (ninC ne_1_g6 (nin0 _))), (var_keep 2 (by kernel_rfl) HR F330 (ninC ne_2_g6 (nin0 _))), (HA.step F330 (inSR ge_HA_g6 inS0))⟩
      ·
       refine Zc 41 (sign_no g6 s (runE inW s (p + 1)) _ (by omega) (by omega) 61 (fun h_ => hA328 ⟨h_.1, by rw [h_.2]; rfl⟩) HB246) ?_
       rintro _ w332 ⟨rfl, HB334, F333⟩
       refine ⟨_, rfl, trivial, ?_⟩
       have hps : parseP s = .inr (runE inW s (p + 1)) := hps.trans (congrArg (afterP s) (tags_eq hA44 hK1 hA328))
       refine Zd <| WQ.round ?_
       intro a_ ha_
       refine ⟨(runE inW s (p + 1), ((runE inW s (p + 1) : Nat) : Int)), ha_.keep [0, 2, 3, 4, 5, 6] (by kernel_rfl), ?_⟩
       exact ⟨.inr ⟨_, rfl, hps⟩, by omega, (HB4.j F333 ne_g1_g6), (HN_ge.j F333 (Ne.symm ne_g6_ge)), HB334, (HO_FT.keep F333 (djB nin_g6_FT)), (var_keep 1 (by kernel_rfl) HS F333 (ninC ne_1_g6 (nin0 _))), (var_keep 2 (by kernel_rfl) HR F333 (ninC ne_2_g6 (nin0 _))), (HA.step F333 (inSR ge_HA_g6 inS0))⟩
     ·
      refine WE.region <| Zr 1 <| Zc 41 (sign_bad g6 s p1 ((q : Nat) : Int) _ (by omega) (by omega) (by omega) 61 HB246) ?_
      rintro _ w335 ⟨rfl, HB337, F336⟩
      refine ⟨_, rfl, trivial, Zd <| WQ.round ?_⟩
      intro a_ ha_
      refine ⟨(p1, ((q : Nat) : Int)), ha_.keep [0, 2, 3, 4, 5, 6] (by kernel_rfl), ?_⟩
      exact ⟨.inr ⟨_, rfl, hps⟩, by omega, (HB4.j F336 ne_g1_g6), (HN_ge.j F336 (Ne.symm ne_g6_ge)), HB337, (HO_FT.keep F336 (djB nin_g6_FT)), (var_keep 1 (by kernel_rfl) HS F336 (ninC ne_1_g6 (nin0 _))), (var_keep 2 (by kernel_rfl) HR F336 (ninC ne_2_g6 (nin0 _))), (HA.step F336 (inSR ge_HA_g6 inS0))⟩
    refine WE.region <| Zr 1 ?_
    have he1 := runE_ge inW s (p + 1)
    have he2 := runE_le inW (show p + 1 ≤ s.length by omega)
    rcases Bool.eq_false_or_eq_true (isWord (part s (p + 1))) with hK338 | hK338
    ·
     refine Zc 39 (word_yes g6 s (p + 1) _ (by omega) (by omega) hK338 HB246) ?_
     rintro _ w339 ⟨rfl, HB341, F340⟩
     refine ⟨_, rfl, trivial, Zr 1 <| Zd <| WQ.round ?_⟩
     intro a_ ha_
     refine ⟨(runE inW s (p + 1), -1), ha_.keep [0, 2, 3, 4, 5, 6] (by kernel_rfl), ?_⟩
     exact ⟨.inl ⟨rfl, hK338, rfl⟩, by omega, ((HB4.j F245 ne_g1_g6).j F340 ne_g1_g6), (HN_ge.j F340 (Ne.symm ne_g6_ge)), HB341, ((HO_FT.keep F245 (djB nin_g6_FT)).keep F340 (djB nin_g6_FT)), (var_keep 1 (by kernel_rfl) (var_keep 1 (by kernel_rfl) HS F245 (ninC ne_1_g6 (nin0 _))) F340 (ninC ne_1_g6 (nin0 _))), (var_keep 2 (by kernel_rfl) (var_keep 2 (by kernel_rfl) HR F245 (ninC ne_2_g6 (nin0 _))) F340 (ninC ne_2_g6 (nin0 _))), ((HA.step F245 (inSR ge_HA_g6 inS0)).step F340 (inSR ge_HA_g6 inS0))⟩
    ·
     refine Zc 39 (word_no g6 s (p + 1) _ (by omega) (by omega) hK338 HB246) ?_
     rintro _ w342 ⟨rfl, HB344, F343⟩
     refine ⟨_, rfl, trivial, ?_⟩
     have hps : parseP s = .inr (p + 1) := hps.trans (congrArg (afterP s) (tags_key hA44 hK338))
     refine Zr 1 <| Zd <| WQ.round ?_
     intro a_ ha_
     refine ⟨(runE inW s (p + 1), ((p + 1 : Nat) : Int)), ha_.keep [0, 2, 3, 4, 5, 6] (by kernel_rfl), ?_⟩
     exact ⟨.inr ⟨_, rfl, hps⟩, by omega, ((HB4.j F245 ne_g1_g6).j F343 ne_g1_g6), (HN_ge.j F343 (Ne.symm ne_g6_ge)), HB344, ((HO_FT.keep F245 (djB nin_g6_FT)).keep F343 (djB nin_g6_FT)), (var_keep 1 (by kernel_rfl) (var_keep 1 (by kernel_rfl) HS F245 (ninC ne_1_g6 (nin0 _))) F343 (ninC ne_1_g6 (nin0 _))), (var_keep 2 (by kernel_rfl) (var_keep 2 (by kernel_rfl) HR F245 (ninC ne_2_g6 (nin0 _))) F343 (ninC ne_2_g6 (nin0 _))), ((HA.step F245 (inSR ge_HA_g6 inS0)).step F343 (inSR ge_HA_g6 inS0))⟩
   ·
    refine Zc 26 (next_no g6 s p _ (by omega) (by omega) 44 (fun h_ => hA243 ⟨h_.1, by rw [h_.2]; rfl⟩) HB9) ?_
    rintro _ w345 ⟨rfl, HB347, F346⟩
    refine ⟨_, rfl, trivial, Zr 1 <| Zdn <| ZF <| WE.skip <| WQ.blkN <| Zn <| WE.exit <| ZX <| WQ.thenE <| WQ.blkE ?_⟩
    have hps : parseP s = restP s acc p := hps.trans (congrArg (afterP s) (tags_stop hA243))
    refine WQ.round ?_
    intro a_ ha_
    refine ⟨(p, -1, FT, At, ct, acc), ha_.keep [0, 2, 3, 4, 5] (by kernel_rfl), ?_⟩
    exact ⟨(.inl ⟨rfl, hps⟩), by omega, (HB4.j F346 ne_g1_g6), HB347, (HN_ge.j F346 (Ne.symm ne_g6_ge)), (var_keep 1 (by kernel_rfl) HS F346 (ninC ne_1_g6 (nin0 _))), (var_keep 2 (by kernel_rfl) HR F346 (ninC ne_2_g6 (nin0 _))), (HO_FT.keep F346 (djB nin_g6_FT)), nin_g1_FT, nin_g6_FT, nin_ge_FT, nin_1_FT, nin_2_FT, ge_HA_FT, (HA.step F346 (inSR ge_HA_g6 inS0))⟩
  ·
   refine WE.region <| Zr 3 <| Zl 22 (J ((q : Nat) : Int)) (HB9.s 2) <| ZoPF 23 (((q : Int) : Int) < (0 : Int)) (by omega) <| Zdn <| ZF <| WE.exit <| WQ.thenE <| WQ.thenE <| WQ.blkE <| WQ.round ?_
   intro a_ ha_
   refine ⟨(p, ((q : Nat) : Int), FT, At, ct, acc), ha_.keep [0, 2, 3, 4, 5] (by kernel_rfl), ?_⟩
   exact ⟨(.inr ⟨_, rfl, hps⟩), by omega, HB4, HB9, HN_ge, HS, HR, HO_FT, nin_g1_FT, nin_g6_FT, nin_ge_FT, nin_1_FT, nin_2_FT, ge_HA_FT, HA⟩
 refine WE.region <| Zr 1 ?_
 have he1 := runE_ge inW s 0
 have he2 := runE_le inW (show 0 ≤ s.length by omega)
 rcases Bool.eq_false_or_eq_true (isWord (part s 0)) with hK348 | hK348
 ·
  refine Zc 17 (word_yes g6 s 0 _ (by omega) (by omega) hK348 HB9) ?_
  rintro _ w349 ⟨rfl, HB351, F350⟩
  refine ⟨_, rfl, trivial, ?_⟩
  have hps : parseP s = afterP s (tagsP s 6 (runE inW s 0) []) := pp_tags hK348
  refine Zr 1 <| Zb 5 #[.string (⟨#[]⟩), .slice none 0 0, J 0, J 0, J 0] 91 (fun g => Pt g 0) ?_
  intro g352 w353 HB355 F354 le356 _
  have HB4 := (HB4.k F8).j F350 ne_g1_g6
  have ne_g1_g352 := ltn HB4.lt le356
  have ne_g6_g352 := ltn HB351.lt le356
  have HS := var_keep 1 (by kernel_rfl) (HS.k F8) F350 (ninC ne_1_g6 (nin0 _))
  have ne_1_g352 : 1 ≠ g352 := Nat.ne_of_lt (Nat.lt_of_lt_of_le (var_lt 1 (by kernel_rfl) HS) le356)
  have HR := var_keep 2 (by kernel_rfl) (HR.k F8) F350 (ninC ne_2_g6 (nin0 _))
  have ne_2_g352 : 2 ≠ g352 := Nat.ne_of_lt (Nat.lt_of_lt_of_le (var_lt 2 (by kernel_rfl) HR) le356)
  have HA := (HA.step0 F8).step F350 (inSR ge_HA_g6 inS0)
  have ge_HA_g352 := Nat.le_trans HA.size le356
  refine Zst g352 0 #[.string (str ((s.take (runE inW s 0)).drop 0)), .slice none 0 0, J 0, J 0, J 0] HB355 ?_
  intro w357 HB359 F358 _
  refine Zd <| WQ.round ?_
  intro a_ ha_
  refine ⟨(runE inW s 0, -1, g352), ha_.keep [0, 2, 3, 4, 5] (by kernel_rfl), ?_⟩
  exact ⟨.inl ⟨rfl, hps⟩, by omega, ((HB4.k F354).j F358 ne_g1_g352), ((HB351.k F354).j F358 ne_g6_g352), (var_keep 1 (by kernel_rfl) (HS.k F354) F358 (ninC ne_1_g352 (nin0 _))), (var_keep 2 (by kernel_rfl) (HR.k F354) F358 (ninC ne_2_g352 (nin0 _))), HB359, ne_g1_g352, ne_g6_g352, ne_1_g352, ne_2_g352, ge_HA_g352, ((HA.step0 F354).step F358 (inSR ge_HA_g352 inS0))⟩
 ·
  refine Zc 17 (word_no g6 s 0 _ (by omega) (by omega) hK348 HB9) ?_
  rintro _ w360 ⟨rfl, HB362, F361⟩
  refine ⟨_, rfl, trivial, ?_⟩
  have hps : parseP s = .inr 0 := pp_name hK348
  refine Zr 1 <| Zb 5 #[.string (⟨#[]⟩), .slice none 0 0, J 0, J 0, J 0] 91 (fun g => Pt g 0) ?_
  intro g363 w364 HB366 F365 le367 _
  have HB4 := (HB4.k F8).j F361 ne_g1_g6
  have ne_g1_g363 := ltn HB4.lt le367
  have ne_g6_g363 := ltn HB362.lt le367
  have HS := var_keep 1 (by kernel_rfl) (HS.k F8) F361 (ninC ne_1_g6 (nin0 _))
  have ne_1_g363 : 1 ≠ g363 := Nat.ne_of_lt (Nat.lt_of_lt_of_le (var_lt 1 (by kernel_rfl) HS) le367)
  have HR := var_keep 2 (by kernel_rfl) (HR.k F8) F361 (ninC ne_2_g6 (nin0 _))
  have ne_2_g363 : 2 ≠ g363 := Nat.ne_of_lt (Nat.lt_of_lt_of_le (var_lt 2 (by kernel_rfl) HR) le367)
  have HA := (HA.step0 F8).step F361 (inSR ge_HA_g6 inS0)
  have ge_HA_g363 := Nat.le_trans HA.size le367
  refine Zst g363 0 #[.string (str ((s.take (runE inW s 0)).drop 0)), .slice none 0 0, J 0, J 0, J 0] HB366 ?_
  intro w368 HB370 F369 _
  refine Zd <| WQ.round ?_
  intro a_ ha_
  refine ⟨(runE inW s 0, (0 : Int), g363), ha_.keep [0, 2, 3, 4, 5] (by kernel_rfl), ?_⟩
  exact ⟨.inr ⟨_, rfl, hps⟩, by omega, ((HB4.k F365).j F369 ne_g1_g363), ((HB362.k F365).j F369 ne_g6_g363), (var_keep 1 (by kernel_rfl) (HS.k F365) F369 (ninC ne_1_g363 (nin0 _))), (var_keep 2 (by kernel_rfl) (HR.k F365) F369 (ninC ne_2_g363 (nin0 _))), HB370, ne_g1_g363, ne_g6_g363, ne_1_g363, ne_2_g363, ge_HA_g363, ((HA.step0 F365).step F369 (inSR ge_HA_g363 inS0))⟩
set_option maxRecDepth 100000 in
set_option maxHeartbeats 400000 in
theorem parse_long (s : L) (w : World) (hs : 300 < s.length) (hl : s.length ≤ 1000000) :
    Calls Tryz.prog 66 #[.string (str s)] w fun e w' => e = .returned (.tuple #[.agg #[.string (⟨#[]⟩), .slice none 0 0, .int .i64 0, .int .i64 0, .int .i64 0], .iface 32 (.int .i64 3)]) ∧ Fr [] w w' := by
 have HA := Fr.refl [] w
 refine Ze Tryz.func66 _ <| Zsg <| Zb 2 #[.string (⟨#[]⟩), .slice none 0 0, J 0, J 0, J 0] 91 (fun g => Pt g 0) ?_
 intro g1 w2 HB4 F3 le5 _
 have ge_HA_g1 := Nat.le_trans HA.size le5
 refine Zr 1 <| Zdn <| WE.scope <| Zq <| Zsg <| Zr 2 <| ZoPT 10 (((s.length : Int) : Int) > (300 : Int)) (by omega) <| Zdn <| ZT <| Zsg <| Zr 2 <| Zst g1 0 #[.string (⟨#[]⟩), .slice none 0 0, J 0, J 0, J 0] HB4 ?_
 intro w6 HB8 F7 _
 refine Zr 1 <| Zdn <| WE.ret <| WQ.thenR <| WQ.scR <| WQ.ret2 (fn := Tryz.f66) (show Tryz.f66.results = #[.cell 2 91, .tmp 3] by kernel_rfl) (show resOk _ _ _ _ (.agg #[.string (⟨#[]⟩), .slice none 0 0, J 0, J 0, J 0]) from ⟨by kernel_rfl, ⟨g1, 0, none⟩, by kernel_rfl, ldVarB [.string (⟨#[]⟩), .slice none 0 0, J 0, J 0, J 0] (by kernel_rfl) (by kernel_rfl) (by kernel_rfl) HB8 (by kernel_rfl)⟩) (show resOk _ _ _ _ (.iface 32 (J 3)) from ⟨by kernel_rfl, by kernel_rfl⟩) ?_
 exact ⟨rfl, ((HA.step0 F3).step F7 (inSR ge_HA_g1 inS0))⟩
end Go.Proofs.YtdhonbahpcmmnaaGreatDoor.Line
