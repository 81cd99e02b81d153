/- Layer 4's walks: the document's Parse. -/
import Derived.Test.YtdhonbahpcmmnaaDoorLineG
import Derived.Test.YtdhonbahpcmmnaaDoorEngJ
set_option linter.unusedVariables false
set_option linter.unusedSimpArgs false
namespace Go.Proofs.YtdhonbahpcmmnaaDoor.Line
open Go Go.RowKit Go.Proofs.YtdhonbahpcmmnaaDoor Go.Proofs.YtdhonbahpcmmnaaDoor.Eng Go.Proofs.YtdhonbahpcmmnaaDoorW.PrintWords
theorem et_t : ET Tryd.prog 23 53 2 32 := by
 obtain ⟨i, h1, h2, h3, h4⟩ := info_parts (P := Tryd.prog) (e := 53) (z := .agg #[.string ⟨#[]⟩, .string ⟨#[]⟩]) (size := 2) (bytes := 32) (by kernel_rfl)
 exact ⟨by kernel_rfl, ⟨i, _, h1, h2, h3, h4, rfl⟩, by decide⟩
theorem own_cap {w : World} {T : TypeId} {size : Nat} {F : List Nat} {A : Option Addr} {n cap : Nat} {xs : List (List Value)} (h : OwnX T size w F (.slice A n cap) xs) (hn : xs.length = n) : n ≤ cap := by
 rcases h with ⟨_, hv, _⟩ | ⟨b, c, _, hv, hr⟩
 ·
  injection hv with _ h1 h2
  omega
 ·
  injection hv with _ h1 h2
  have := hr.le
  omega
theorem kind_99 {c : UInt8} (h : c.toNat = 99) : kindP c = 1 := if_pos h
theorem kind_103 {c : UInt8} (h : c.toNat = 103) : kindP c = 2 := by unfold kindP; rw [if_neg (by omega), if_pos h]
theorem kind_104 {c : UInt8} (h : c.toNat = 104) : kindP c = 3 := by unfold kindP; rw [if_neg (by omega), if_neg (by omega), if_pos h]
theorem kind_0 {c : UInt8} (h : c.toNat ≠ 99) (h1 : c.toNat ≠ 103) (h2 : c.toNat ≠ 104) : kindP c = 0 := by unfold kindP; rw [if_neg h, if_neg h1, if_neg h2]
def ResR (w w' : World) (e : Ending) : Sum Ev Nat → Prop
 | .inr p => e = .returned (.tuple #[.agg #[.string (⟨#[]⟩), .slice none 0 0, .int .i64 0, .int .i64 0, .int .i64 0], .int .i64 (p : Int)]) ∧ Fr [] w w'
 | .inl ev => ∃ A n cp F, e = .returned (.tuple #[.agg #[.string (str ev.name), .slice A n cp, .int .i64 ev.kind, .int .i64 ev.value, .int .i64 ev.time], .int .i64 (-1)]) ∧ VX cT 2 w' F A ev.tags ∧ ev.tags.length = n ∧ n ≤ cp ∧ (∀ y ∈ F, w.heap.size ≤ y) ∧ Fr [] w w'
theorem ResR.fail {w w' : World} {p : Nat} (h : Fr [] w w') : ResR w w' (.returned (.tuple #[.agg #[.string (⟨#[]⟩), .slice none 0 0, .int .i64 0, .int .i64 0, .int .i64 0], .int .i64 (p : Int)])) (.inr p) := ⟨rfl, h⟩
theorem ResR.ok {w w' : World} {ev : Ev} {A : Option Addr} {n cp : Nat} {F : List Nat} (hn : ev.tags.length = n) (hc : n ≤ cp) (hT : VX cT 2 w' F A ev.tags) (hg : ∀ y ∈ F, w.heap.size ≤ y) (h : Fr [] w w') : ResR w w' (.returned (.tuple #[.agg #[.string (str ev.name), .slice A n cp, .int .i64 ev.kind, .int .i64 ev.value, .int .i64 ev.time], .int .i64 (-1)])) (.inl ev) := ⟨A, n, cp, F, rfl, hT, hn, hc, hg, h⟩
set_option maxRecDepth 100000 in
set_option maxHeartbeats 1000000 in
theorem parse_r (s : L) (w : World) (hs : s.length ≤ 100000) :
  Calls Tryd.prog 21 #[.string (str s)] w fun e w' => ResR w w' e (parseP s) := by
 have HA := Fr.refl [] w
 refine enter (N := 204) Tryd.func21 (c := _) rfl (by kernel_rfl) (by kernel_rfl) (e := [(0, .string (str s))]) (by kernel_rfl) ?_
 refine WE.seq ?_
 refine WE.region ?_
 refine WO.bx (SQ.E 0 (by kernel_rfl)) 2 #[.string (⟨#[]⟩), .slice none 0 0, .int .i64 0, .int .i64 0, .int .i64 0] 25 (fun g => .pointer (some ⟨g, 0, none⟩)) (by kernel_rfl) (fun _ _ => trivial) ?_
 intro g1 w2 HB4 F3 le5 _
 have ge_HA_g1 := Nat.le_trans HA.size le5
 have HA := Fr.step0 HA F3
 refine WO.run 1 1 [(3, .int .i64 0)] (by kernel_rfl) (by kernel_rfl) ?_
 refine WO.done (by kernel_rfl) ?_
 refine WQ.keep [0, 2, 3] (e' := [(0, .string (str s)), (2, .pointer (some ⟨g1, 0, none⟩)), (3, .int .i64 0)]) (by kernel_rfl) ?_
 refine WQ.thenN ?_
 refine WE.seq ?_
 refine WE.region ?_
 refine WO.bx (SQ.E 0 (by kernel_rfl)) 4 #[.string (⟨#[]⟩), .slice none 0 0, .int .i64 0, .int .i64 0, .int .i64 0] 25 (fun g => .pointer (some ⟨g, 0, none⟩)) (by kernel_rfl) (fun _ _ => trivial) ?_
 intro g6 w7 HB9 F8 le10 _
 have ne_g1_g6 : g1 ≠ g6 := Nat.ne_of_lt (Nat.lt_of_lt_of_le HB4.lt le10)
 have ge_HA_g6 := Nat.le_trans HA.size le10
 have HB4 := Blk.keep HB4 F8 (nin0 _)
 have HA := Fr.step0 HA F8
 refine WO.done (by kernel_rfl) ?_
 refine WQ.keep [0, 2, 3, 4] (e' := [(0, .string (str s)), (2, .pointer (some ⟨g1, 0, none⟩)), (3, .int .i64 0), (4, .pointer (some ⟨g6, 0, none⟩))]) (by kernel_rfl) ?_
 refine WQ.thenN ?_
 refine WE.seq ?_
 refine WE.region ?_
 refine WO.run 1 0 [(18, .string (str s))] (by kernel_rfl) (by kernel_rfl) ?_
 refine WO.call (SQ.E 1 (by kernel_rfl)) 19 (by kernel_rfl) (rrun_w s 0 _ (by omega) (by omega)) ?_
 rintro _ w11 ⟨rfl, F12⟩
 have he1 := runE_ge inW s 0
 have he2 := runE_le inW (show 0 ≤ s.length by omega)
 refine ⟨_, rfl, trivial, ?_⟩
 have HB4 := Blk.keep HB4 F12 (nin0 _)
 have HB9 := Blk.keep HB9 F12 (nin0 _)
 have HA := Fr.step0 HA F12
 refine WO.run 1 2 [(5, .int .i64 ((runE inW s 0 : Nat) : Int))] (by kernel_rfl) (by kernel_rfl) ?_
 refine WO.done (by kernel_rfl) ?_
 refine WQ.keep [0, 2, 3, 4, 5] (e' := [(0, .string (str s)), (2, .pointer (some ⟨g1, 0, none⟩)), (3, .int .i64 0), (4, .pointer (some ⟨g6, 0, none⟩)), (5, .int .i64 ((runE inW s 0 : Nat) : Int))]) (by kernel_rfl) ?_
 refine WQ.thenN ?_
 refine WE.seq ?_
 refine WE.region ?_
 refine WO.run 2 0 [(21, .int .i64 ((runE inW s 0 : Nat) : Int)), (20, .string (str s))] (by kernel_rfl) (by kernel_rfl) ?_
 refine WO.slS (hi := ((runE inW s 0 : Nat) : Int)) (SQ.F 2 (by kernel_rfl)) 22 (runE inW s 0) s (by kernel_rfl) (by rfl) (by omega) ?_
 refine WO.call (SQ.E 3 (by kernel_rfl)) 23 (by kernel_rfl) (word_r (s.take (runE inW s 0)) _ (by simp only [List.length_drop, List.length_take]; omega)) ?_
 rintro _ w13 ⟨rfl, F14⟩
 refine ⟨_, rfl, trivial, ?_⟩
 have HB4 := Blk.keep HB4 F14 (nin0 _)
 have HB9 := Blk.keep HB9 F14 (nin0 _)
 have HA := Fr.step0 HA F14
 rcases Bool.eq_false_or_eq_true (isWord (s.take (runE inW s 0))) with hK15 | hK15
 ·
  rw [hK15]
  refine WO.run 1 4 [(6, .bool true)] (by kernel_rfl) (by kernel_rfl) ?_
  refine WO.done (by kernel_rfl) ?_
  refine WQ.keep [0, 2, 3, 4, 5, 6] (e' := [(0, .string (str s)), (2, .pointer (some ⟨g1, 0, none⟩)), (3, .int .i64 0), (4, .pointer (some ⟨g6, 0, none⟩)), (5, .int .i64 ((runE inW s 0 : Nat) : Int)), (6, .bool true)]) (by kernel_rfl) ?_
  refine WQ.thenN ?_
  refine WE.seq ?_
  refine WE.seq ?_
  refine WE.region ?_
  refine WO.run 2 0 [(25, .bool false), (24, .bool true)] (by kernel_rfl) (by kernel_rfl) ?_
  refine WO.done (by kernel_rfl) ?_
  refine WQ.keep [0, 2, 3, 4, 5, 25] (e' := [(0, .string (str s)), (2, .pointer (some ⟨g1, 0, none⟩)), (3, .int .i64 0), (4, .pointer (some ⟨g6, 0, none⟩)), (5, .int .i64 ((runE inW s 0 : Nat) : Int)), (25, .bool false)]) (by kernel_rfl) ?_
  refine WQ.thenN ?_
  refine WE.condF (by kernel_rfl) ?_
  refine WE.skip ?_
  refine WQ.thenN ?_
  refine WE.seq ?_
  have hps : parseP s = afterP s (tagsP s 6 (runE inW s 0) []) := pp_tags hK15
  refine WE.region ?_
  refine WO.run 2 0 [(28, .int .i64 ((runE inW s 0 : Nat) : Int)), (27, .string (str s))] (by kernel_rfl) (by kernel_rfl) ?_
  refine WO.slS (hi := ((runE inW s 0 : Nat) : Int)) (SQ.F 2 (by kernel_rfl)) 29 (runE inW s 0) s (by kernel_rfl) (by rfl) (by omega) ?_
  refine WO.run 1 3 [(30, .pointer (some ⟨g6, 0, none⟩))] (by kernel_rfl) (by kernel_rfl) ?_
  refine WO.st (SQ.E 4 (by kernel_rfl)) g6 0 [.string (str (s.take (runE inW s 0)))] #[.string (str (s.take (runE inW s 0))), .slice none 0 0, .int .i64 0, .int .i64 0, .int .i64 0] (by kernel_rfl) HB9 (by kernel_rfl) (by kernel_rfl) (fun _ _ => trivial) ?_
  intro w16 HB18 F17 _
  have HB4 := Blk.keep HB4 F17 (ninC ne_g1_g6 (nin0 _))
  have HA := Fr.step HA F17 (inSR ge_HA_g6 inS0)
  refine WO.done (by kernel_rfl) ?_
  refine WQ.keep [0, 2, 3, 4, 5] (e' := [(0, .string (str s)), (2, .pointer (some ⟨g1, 0, none⟩)), (3, .int .i64 0), (4, .pointer (some ⟨g6, 0, none⟩)), (5, .int .i64 ((runE inW s 0 : Nat) : Int))]) (by kernel_rfl) ?_
  refine WQ.thenN ?_
  refine WE.seqJ (α := Nat × List Nat × Option Addr × Nat × (List (L × L))) (E := fun ⟨p, FT, At, ct, acc⟩ => [(0, .string (str s)), (2, .pointer (some ⟨g1, 0, none⟩)), (3, .int .i64 0), (4, .pointer (some ⟨g6, 0, none⟩)), (5, .int .i64 (p : Int))]) (I := fun ⟨p, FT, At, ct, acc⟩ wr => parseP s = restP s acc p ∧ p ≤ s.length ∧ Blk wr g1 #[.string (⟨#[]⟩), .slice none 0 0, .int .i64 0, .int .i64 0, .int .i64 0] 25 ∧ Blk wr g6 #[.string (str (s.take (runE inW s 0))), .slice At acc.length ct, .int .i64 0, .int .i64 0, .int .i64 0] 25 ∧ OwnX 53 2 wr FT (.slice At acc.length ct) (List.map cT acc) ∧ g1 ∉ FT ∧ g6 ∉ FT ∧ (∀ y ∈ FT, (World.heap w).size ≤ y) ∧ Fr [] w wr) ?_ ?_
  ·
   rintro ⟨p, FT, At, ct, acc⟩ wr ⟨hps, hp, HB4, HB18, HO_FT, nin_g1_FT, nin_g6_FT, ge_HA_FT, HA⟩
   refine WE.seq ?_
   refine WE.seq ?_
   refine WE.region ?_
   refine WO.run 3 0 [(106, .int .i64 (s.length : Int)), (105, .string (str s)), (104, .int .i64 (p : Int))] (by kernel_rfl) (by kernel_rfl) ?_
   refine WO.one (SQ.F 3 (by kernel_rfl)) 107 (.bool (decide (((p : Int) : Int) ≥ (s.length : Int)))) (by kernel_rfl) ?_
   refine WO.topP (((p : Int) : Int) ≥ (s.length : Int)) ?_ ?_
   ·
    intro h19
    refine WO.run 6 4 [(113, .bool true), (112, undef), (111, undef), (110, undef), (109, undef), (108, .bool true)] (by kernel_rfl) (by kernel_rfl) ?_
    refine WO.done (by kernel_rfl) ?_
    refine WQ.keep [0, 2, 3, 4, 5, 113] (e' := [(0, .string (str s)), (2, .pointer (some ⟨g1, 0, none⟩)), (3, .int .i64 0), (4, .pointer (some ⟨g6, 0, none⟩)), (5, .int .i64 (p : Int)), (113, .bool true)]) (by kernel_rfl) ?_
    refine WQ.thenN ?_
    refine WE.condT (by kernel_rfl) ?_
    refine WE.seq ?_
    have hps : parseP s = .inr p := hps.trans (rp_1 (fun h_ => by have a_ := h_.1; have b_ := h_.2; omega))
    refine WE.region ?_
    refine WO.run 2 0 [(115, .int .i64 (p : Int)), (114, .agg #[.string (⟨#[]⟩), .slice none 0 0, .int .i64 0, .int .i64 0, .int .i64 0])] (by kernel_rfl) (by kernel_rfl) ?_
    refine WO.st (SQ.E 2 (by kernel_rfl)) g1 0 [.string (⟨#[]⟩), .slice none 0 0, .int .i64 0, .int .i64 0, .int .i64 0] #[.string (⟨#[]⟩), .slice none 0 0, .int .i64 0, .int .i64 0, .int .i64 0] (by kernel_rfl) HB4 (by kernel_rfl) (by kernel_rfl) (fun _ _ => trivial) ?_
    intro w20 HB22 F21 _
    have HB18 := Blk.keep HB18 F21 (ninC (Ne.symm ne_g1_g6) (nin0 _))
    have HO_FT := HO_FT.keep F21 (djB nin_g1_FT)
    have HA := Fr.step HA F21 (inSR ge_HA_g1 inS0)
    refine WO.run 1 3 [(3, .int .i64 (p : Int))] (by kernel_rfl) (by kernel_rfl) ?_
    refine WO.done (by kernel_rfl) ?_
    refine WQ.keep [0, 2, 3, 4, 5] (e' := [(0, .string (str s)), (2, .pointer (some ⟨g1, 0, none⟩)), (3, .int .i64 (p : Int)), (4, .pointer (some ⟨g6, 0, none⟩)), (5, .int .i64 (p : Int))]) (by kernel_rfl) ?_
    refine WQ.thenN ?_
    refine WE.ret ?_
    refine WQ.thenR ?_
    refine WQ.ret2 (fn := Tryd.f21) (show Tryd.f21.results = #[.cell 2 25, .tmp 3] by kernel_rfl) (show resOk _ _ _ _ (.agg #[.string (⟨#[]⟩), .slice none 0 0, .int .i64 0, .int .i64 0, .int .i64 0]) from ⟨by kernel_rfl, ⟨g1, 0, none⟩, by kernel_rfl, ldVarB [.string (⟨#[]⟩), .slice none 0 0, .int .i64 0, .int .i64 0, .int .i64 0] (by kernel_rfl) (by kernel_rfl) (by kernel_rfl) HB22 (by kernel_rfl)⟩) (show resOk _ _ _ _ (.int .i64 (p : Int)) from ⟨by kernel_rfl, by kernel_rfl⟩) ?_
    rw [hps]
    exact ResR.fail HA
   intro h19
   refine WO.run 3 4 [(110, .int .i64 (p : Int)), (109, .string (str s)), (108, .bool false)] (by kernel_rfl) (by kernel_rfl) ?_
   refine WO.ixS (i := (p : Int)) (SQ.F 7 (by kernel_rfl)) 111 p s (by kernel_rfl) (by rfl) (by omega) ?_
   refine WO.one (SQ.F 8 (by kernel_rfl)) 112 (.bool (!decide ((((gB s p).toNat : Int) : Int) = (32 : Int)))) (by kernel_rfl) ?_
   refine WO.topN ((((gB s p).toNat : Int) : Int) = (32 : Int)) ?_ ?_
   ·
    intro h23
    refine WO.run 1 9 [(113, .bool false)] (by kernel_rfl) (by kernel_rfl) ?_
    refine WO.done (by kernel_rfl) ?_
    refine WQ.keep [0, 2, 3, 4, 5, 113] (e' := [(0, .string (str s)), (2, .pointer (some ⟨g1, 0, none⟩)), (3, .int .i64 0), (4, .pointer (some ⟨g6, 0, none⟩)), (5, .int .i64 (p : Int)), (113, .bool false)]) (by kernel_rfl) ?_
    refine WQ.thenN ?_
    refine WE.condF (by kernel_rfl) ?_
    refine WE.skip ?_
    refine WQ.thenN ?_
    refine WE.seq ?_
    have hA32 : isAt s p 32 := ⟨by omega, by omega⟩
    refine WE.region ?_
    refine WO.run 1 0 [(116, .int .i64 (p : Int))] (by kernel_rfl) (by kernel_rfl) ?_
    refine WO.one (SQ.F 1 (by kernel_rfl)) 117 (.int .i64 (IntKind.i64.wrap ((p : Int) + 1))) (by kernel_rfl) ?_
    refine WO.top (v' := .int .i64 ((p + 1 : Nat) : Int)) (wrap_i64 (by omega) (by omega)) ?_
    refine WO.run 1 2 [(5, .int .i64 ((p + 1 : Nat) : Int))] (by kernel_rfl) (by kernel_rfl) ?_
    refine WO.done (by kernel_rfl) ?_
    refine WQ.keep [0, 2, 3, 4, 5] (e' := [(0, .string (str s)), (2, .pointer (some ⟨g1, 0, none⟩)), (3, .int .i64 0), (4, .pointer (some ⟨g6, 0, none⟩)), (5, .int .i64 ((p + 1 : Nat) : Int))]) (by kernel_rfl) ?_
    refine WQ.thenN ?_
    refine WE.seq ?_
    refine WE.seq ?_
    refine WE.region ?_
    refine WO.run 3 0 [(120, .int .i64 (s.length : Int)), (119, .string (str s)), (118, .int .i64 ((p + 1 : Nat) : Int))] (by kernel_rfl) (by kernel_rfl) ?_
    refine WO.one (SQ.F 3 (by kernel_rfl)) 121 (.bool (decide (((p + 1 : Int) : Int) ≥ (s.length : Int)))) (by kernel_rfl) ?_
    refine WO.topP (((p + 1 : Int) : Int) ≥ (s.length : Int)) ?_ ?_
    ·
     intro h24
     refine WO.done (by kernel_rfl) ?_
     refine WQ.keep [0, 2, 3, 4, 5, 121] (e' := [(0, .string (str s)), (2, .pointer (some ⟨g1, 0, none⟩)), (3, .int .i64 0), (4, .pointer (some ⟨g6, 0, none⟩)), (5, .int .i64 ((p + 1 : Nat) : Int)), (121, .bool true)]) (by kernel_rfl) ?_
     refine WQ.thenN ?_
     refine WE.condT (by kernel_rfl) ?_
     refine WE.seq ?_
     have hps : parseP s = .inr (p + 1) := hps.trans (rp_2 hA32 (by omega))
     refine WE.region ?_
     refine WO.run 2 0 [(123, .int .i64 ((p + 1 : Nat) : Int)), (122, .agg #[.string (⟨#[]⟩), .slice none 0 0, .int .i64 0, .int .i64 0, .int .i64 0])] (by kernel_rfl) (by kernel_rfl) ?_
     refine WO.st (SQ.E 2 (by kernel_rfl)) g1 0 [.string (⟨#[]⟩), .slice none 0 0, .int .i64 0, .int .i64 0, .int .i64 0] #[.string (⟨#[]⟩), .slice none 0 0, .int .i64 0, .int .i64 0, .int .i64 0] (by kernel_rfl) HB4 (by kernel_rfl) (by kernel_rfl) (fun _ _ => trivial) ?_
     intro w25 HB27 F26 _
     have HB18 := Blk.keep HB18 F26 (ninC (Ne.symm ne_g1_g6) (nin0 _))
     have HO_FT := HO_FT.keep F26 (djB nin_g1_FT)
     have HA := Fr.step HA F26 (inSR ge_HA_g1 inS0)
     refine WO.run 1 3 [(3, .int .i64 ((p + 1 : Nat) : Int))] (by kernel_rfl) (by kernel_rfl) ?_
     refine WO.done (by kernel_rfl) ?_
     refine WQ.keep [0, 2, 3, 4, 5] (e' := [(0, .string (str s)), (2, .pointer (some ⟨g1, 0, none⟩)), (3, .int .i64 ((p + 1 : Nat) : Int)), (4, .pointer (some ⟨g6, 0, none⟩)), (5, .int .i64 ((p + 1 : Nat) : Int))]) (by kernel_rfl) ?_
     refine WQ.thenN ?_
     refine WE.ret ?_
     refine WQ.thenR ?_
     refine WQ.ret2 (fn := Tryd.f21) (show Tryd.f21.results = #[.cell 2 25, .tmp 3] by kernel_rfl) (show resOk _ _ _ _ (.agg #[.string (⟨#[]⟩), .slice none 0 0, .int .i64 0, .int .i64 0, .int .i64 0]) from ⟨by kernel_rfl, ⟨g1, 0, none⟩, by kernel_rfl, ldVarB [.string (⟨#[]⟩), .slice none 0 0, .int .i64 0, .int .i64 0, .int .i64 0] (by kernel_rfl) (by kernel_rfl) (by kernel_rfl) HB27 (by kernel_rfl)⟩) (show resOk _ _ _ _ (.int .i64 ((p + 1 : Nat) : Int)) from ⟨by kernel_rfl, by kernel_rfl⟩) ?_
     rw [hps]
     exact ResR.fail HA
    intro h24
    refine WO.done (by kernel_rfl) ?_
    refine WQ.keep [0, 2, 3, 4, 5, 121] (e' := [(0, .string (str s)), (2, .pointer (some ⟨g1, 0, none⟩)), (3, .int .i64 0), (4, .pointer (some ⟨g6, 0, none⟩)), (5, .int .i64 ((p + 1 : Nat) : Int)), (121, .bool false)]) (by kernel_rfl) ?_
    refine WQ.thenN ?_
    refine WE.condF (by kernel_rfl) ?_
    refine WE.skip ?_
    refine WQ.thenN ?_
    refine WE.seqJ (α := Int) (E := fun kv => [(0, .string (str s)), (2, .pointer (some ⟨g1, 0, none⟩)), (3, .int .i64 0), (4, .pointer (some ⟨g6, 0, none⟩)), (5, .int .i64 ((p + 1 : Nat) : Int))]) (I := fun kv wr => kindP (gB s (p + 1)) = kv ∧ kindP (gB s (p + 1)) ≠ 0 ∧ ¬ s.length ≤ p + 1 ∧ Blk wr g1 #[.string (⟨#[]⟩), .slice none 0 0, .int .i64 0, .int .i64 0, .int .i64 0] 25 ∧ Blk wr g6 #[.string (str (s.take (runE inW s 0))), .slice At acc.length ct, .int .i64 kv, .int .i64 0, .int .i64 0] 25 ∧ OwnX 53 2 wr FT (.slice At acc.length ct) (List.map cT acc) ∧ Fr [] w wr) ?_ ?_
    ·
     rintro kv wr ⟨hk1, hk0, hl1, HB4, HB18, HO_FT, HA⟩
     refine WE.seq ?_
     refine WE.region ?_
     refine WO.run 1 0 [(138, .int .i64 ((p + 1 : Nat) : Int))] (by kernel_rfl) (by kernel_rfl) ?_
     refine WO.one (SQ.F 1 (by kernel_rfl)) 139 (.int .i64 (IntKind.i64.wrap (((p + 1 : Nat) : Int) + 1))) (by kernel_rfl) ?_
     refine WO.top (v' := .int .i64 ((p + 2 : Nat) : Int)) (wrap_i64 (by omega) (by omega)) ?_
     refine WO.run 1 2 [(5, .int .i64 ((p + 2 : Nat) : Int))] (by kernel_rfl) (by kernel_rfl) ?_
     refine WO.done (by kernel_rfl) ?_
     refine WQ.keep [0, 2, 3, 4, 5] (e' := [(0, .string (str s)), (2, .pointer (some ⟨g1, 0, none⟩)), (3, .int .i64 0), (4, .pointer (some ⟨g6, 0, none⟩)), (5, .int .i64 ((p + 2 : Nat) : Int))]) (by kernel_rfl) ?_
     refine WQ.thenN ?_
     refine WE.seq ?_
     refine WE.seq ?_
     refine WE.region ?_
     refine WO.run 1 0 [(11, .int .i64 0)] (by kernel_rfl) (by kernel_rfl) ?_
     refine WO.done (by kernel_rfl) ?_
     refine WQ.keep [0, 2, 3, 4, 5, 11] (e' := [(0, .string (str s)), (2, .pointer (some ⟨g1, 0, none⟩)), (3, .int .i64 0), (4, .pointer (some ⟨g6, 0, none⟩)), (5, .int .i64 ((p + 2 : Nat) : Int)), (11, .int .i64 0)]) (by kernel_rfl) ?_
     refine WQ.thenN ?_
     refine WE.block ?_
     refine WE.unroll ?_
     refine WL.go ?_
     refine WE.seq ?_
     refine WE.seq ?_
     refine WE.region ?_
     refine WO.run 2 0 [(141, .bool true), (140, .int .i64 0)] (by kernel_rfl) (by kernel_rfl) ?_
     refine WO.done (by kernel_rfl) ?_
     refine WQ.keep [0, 2, 3, 4, 5, 11, 141] (e' := [(0, .string (str s)), (2, .pointer (some ⟨g1, 0, none⟩)), (3, .int .i64 0), (4, .pointer (some ⟨g6, 0, none⟩)), (5, .int .i64 ((p + 2 : Nat) : Int)), (11, .int .i64 0), (141, .bool true)]) (by kernel_rfl) ?_
     refine WQ.thenN ?_
     refine WE.condT (by kernel_rfl) ?_
     refine WE.skip ?_
     refine WQ.thenN ?_
     refine WE.seq ?_
     refine WE.block ?_
     refine WE.seq ?_
     refine WE.seq ?_
     refine WE.region ?_
     refine WO.run 3 0 [(146, .int .i64 (s.length : Int)), (145, .string (str s)), (144, .int .i64 ((p + 2 : Nat) : Int))] (by kernel_rfl) (by kernel_rfl) ?_
     refine WO.one (SQ.F 3 (by kernel_rfl)) 147 (.bool (decide (((p + 2 : Int) : Int) ≥ (s.length : Int)))) (by kernel_rfl) ?_
     refine WO.topP (((p + 2 : Int) : Int) ≥ (s.length : Int)) ?_ ?_
     ·
      intro h28
      refine WO.run 6 4 [(153, .bool true), (152, undef), (151, undef), (150, undef), (149, undef), (148, .bool true)] (by kernel_rfl) (by kernel_rfl) ?_
      refine WO.done (by kernel_rfl) ?_
      refine WQ.keep [0, 2, 3, 4, 5, 11, 141, 153] (e' := [(0, .string (str s)), (2, .pointer (some ⟨g1, 0, none⟩)), (3, .int .i64 0), (4, .pointer (some ⟨g6, 0, none⟩)), (5, .int .i64 ((p + 2 : Nat) : Int)), (11, .int .i64 0), (141, .bool true), (153, .bool true)]) (by kernel_rfl) ?_
      refine WQ.thenN ?_
      refine WE.condT (by kernel_rfl) ?_
      refine WE.seq ?_
      have hps : parseP s = .inr (p + 2) := hps.trans (rp_4 hA32 hl1 hk0 (fun h_ => by have a_ := h_.1; have b_ := h_.2; omega))
      refine WE.region ?_
      refine WO.run 2 0 [(155, .int .i64 ((p + 2 : Nat) : Int)), (154, .agg #[.string (⟨#[]⟩), .slice none 0 0, .int .i64 0, .int .i64 0, .int .i64 0])] (by kernel_rfl) (by kernel_rfl) ?_
      refine WO.st (SQ.E 2 (by kernel_rfl)) g1 0 [.string (⟨#[]⟩), .slice none 0 0, .int .i64 0, .int .i64 0, .int .i64 0] #[.string (⟨#[]⟩), .slice none 0 0, .int .i64 0, .int .i64 0, .int .i64 0] (by kernel_rfl) HB4 (by kernel_rfl) (by kernel_rfl) (fun _ _ => trivial) ?_
      intro w29 HB31 F30 _
      have HB18 := Blk.keep HB18 F30 (ninC (Ne.symm ne_g1_g6) (nin0 _))
      have HO_FT := HO_FT.keep F30 (djB nin_g1_FT)
      have HA := Fr.step HA F30 (inSR ge_HA_g1 inS0)
      refine WO.run 1 3 [(3, .int .i64 ((p + 2 : Nat) : Int))] (by kernel_rfl) (by kernel_rfl) ?_
      refine WO.done (by kernel_rfl) ?_
      refine WQ.keep [0, 2, 3, 4, 5, 11, 141, 153] (e' := [(0, .string (str s)), (2, .pointer (some ⟨g1, 0, none⟩)), (3, .int .i64 ((p + 2 : Nat) : Int)), (4, .pointer (some ⟨g6, 0, none⟩)), (5, .int .i64 ((p + 2 : Nat) : Int)), (11, .int .i64 0), (141, .bool true), (153, .bool true)]) (by kernel_rfl) ?_
      refine WQ.thenN ?_
      refine WE.ret ?_
      refine WQ.thenR ?_
      refine WQ.blkR ?_
      refine WQ.thenR ?_
      refine WQ.thenR ?_
      refine WQ.blkR ?_
      refine WQ.thenR ?_
      refine WQ.ret2 (fn := Tryd.f21) (show Tryd.f21.results = #[.cell 2 25, .tmp 3] by kernel_rfl) (show resOk _ _ _ _ (.agg #[.string (⟨#[]⟩), .slice none 0 0, .int .i64 0, .int .i64 0, .int .i64 0]) from ⟨by kernel_rfl, ⟨g1, 0, none⟩, by kernel_rfl, ldVarB [.string (⟨#[]⟩), .slice none 0 0, .int .i64 0, .int .i64 0, .int .i64 0] (by kernel_rfl) (by kernel_rfl) (by kernel_rfl) HB31 (by kernel_rfl)⟩) (show resOk _ _ _ _ (.int .i64 ((p + 2 : Nat) : Int)) from ⟨by kernel_rfl, by kernel_rfl⟩) ?_
      rw [hps]
      exact ResR.fail HA
     intro h28
     refine WO.run 3 4 [(150, .int .i64 ((p + 2 : Nat) : Int)), (149, .string (str s)), (148, .bool false)] (by kernel_rfl) (by kernel_rfl) ?_
     refine WO.ixS (i := ((p + 2 : Nat) : Int)) (SQ.F 7 (by kernel_rfl)) 151 (p + 2) s (by kernel_rfl) (by rfl) (by omega) ?_
     refine WO.one (SQ.F 8 (by kernel_rfl)) 152 (.bool (!decide ((((gB s (p + 2)).toNat : Int) : Int) = (32 : Int)))) (by kernel_rfl) ?_
     refine WO.topN ((((gB s (p + 2)).toNat : Int) : Int) = (32 : Int)) ?_ ?_
     ·
      intro h32
      refine WO.run 1 9 [(153, .bool false)] (by kernel_rfl) (by kernel_rfl) ?_
      refine WO.done (by kernel_rfl) ?_
      refine WQ.keep [0, 2, 3, 4, 5, 11, 141, 153] (e' := [(0, .string (str s)), (2, .pointer (some ⟨g1, 0, none⟩)), (3, .int .i64 0), (4, .pointer (some ⟨g6, 0, none⟩)), (5, .int .i64 ((p + 2 : Nat) : Int)), (11, .int .i64 0), (141, .bool true), (153, .bool false)]) (by kernel_rfl) ?_
      refine WQ.thenN ?_
      refine WE.condF (by kernel_rfl) ?_
      refine WE.skip ?_
      refine WQ.thenN ?_
      refine WE.seq ?_
      have hB32 : isAt s (p + 2) 32 := ⟨by omega, by omega⟩
      have hps := hps.trans (rp_5 hA32 hl1 hk0 hB32)
      refine WE.region ?_
      refine WO.run 1 0 [(156, .int .i64 ((p + 2 : Nat) : Int))] (by kernel_rfl) (by kernel_rfl) ?_
      refine WO.one (SQ.F 1 (by kernel_rfl)) 157 (.int .i64 (IntKind.i64.wrap (((p + 2 : Nat) : Int) + 1))) (by kernel_rfl) ?_
      refine WO.top (v' := .int .i64 ((p + 3 : Nat) : Int)) (wrap_i64 (by omega) (by omega)) ?_
      refine WO.run 1 2 [(12, .int .i64 ((p + 3 : Nat) : Int))] (by kernel_rfl) (by kernel_rfl) ?_
      refine WO.done (by kernel_rfl) ?_
      refine WQ.keep [0, 2, 3, 4, 5, 11, 12, 141, 153] (e' := [(0, .string (str s)), (2, .pointer (some ⟨g1, 0, none⟩)), (3, .int .i64 0), (4, .pointer (some ⟨g6, 0, none⟩)), (5, .int .i64 ((p + 2 : Nat) : Int)), (11, .int .i64 0), (12, .int .i64 ((p + 3 : Nat) : Int)), (141, .bool true), (153, .bool false)]) (by kernel_rfl) ?_
      refine WQ.thenN ?_
      refine WE.seq ?_
      refine WE.region ?_
      refine WO.run 2 0 [(13, .int .i64 ((p + 3 : Nat) : Int)), (158, .int .i64 ((p + 3 : Nat) : Int))] (by kernel_rfl) (by kernel_rfl) ?_
      refine WO.done (by kernel_rfl) ?_
      refine WQ.keep [0, 2, 3, 4, 5, 11, 12, 13, 141, 153] (e' := [(0, .string (str s)), (2, .pointer (some ⟨g1, 0, none⟩)), (3, .int .i64 0), (4, .pointer (some ⟨g6, 0, none⟩)), (5, .int .i64 ((p + 2 : Nat) : Int)), (11, .int .i64 0), (12, .int .i64 ((p + 3 : Nat) : Int)), (13, .int .i64 ((p + 3 : Nat) : Int)), (141, .bool true), (153, .bool false)]) (by kernel_rfl) ?_
      refine WQ.thenN ?_
      refine WE.seqJ (α := Nat) (E := fun Q => [(0, .string (str s)), (2, .pointer (some ⟨g1, 0, none⟩)), (3, .int .i64 0), (4, .pointer (some ⟨g6, 0, none⟩)), (5, .int .i64 ((p + 2 : Nat) : Int)), (11, .int .i64 0), (12, .int .i64 ((p + 3 : Nat) : Int)), (13, .int .i64 (Q : Int)), (141, .bool true), (153, .bool false)]) (I := fun Q wr => numE s (p + 3) = runE isD s Q ∧ Q ≤ s.length ∧ p + 3 ≤ Q ∧ Blk wr g1 #[.string (⟨#[]⟩), .slice none 0 0, .int .i64 0, .int .i64 0, .int .i64 0] 25 ∧ Blk wr g6 #[.string (str (s.take (runE inW s 0))), .slice At acc.length ct, .int .i64 kv, .int .i64 0, .int .i64 0] 25 ∧ OwnX 53 2 wr FT (.slice At acc.length ct) (List.map cT acc) ∧ Fr [] w wr) ?_ ?_
      ·
       rintro Q wr ⟨hnE, hQ, hPQ, HB4, HB18, HO_FT, HA⟩
       refine WE.seq ?_
       refine WE.region ?_
       refine WO.run 2 0 [(172, .int .i64 (Q : Int)), (171, .string (str s))] (by kernel_rfl) (by kernel_rfl) ?_
       refine WO.call (SQ.E 2 (by kernel_rfl)) 173 (by kernel_rfl) (rrun_d s Q _ (by omega) (by omega)) ?_
       rintro _ w33 ⟨rfl, F34⟩
       have he1 := runE_ge isD s Q
       have he2 := runE_le isD (show Q ≤ s.length by omega)
       rw [← hnE] at he1 he2
       rw [← hnE]
       refine ⟨_, rfl, trivial, ?_⟩
       have HB4 := Blk.keep HB4 F34 (nin0 _)
       have HB18 := Blk.keep HB18 F34 (nin0 _)
       have HO_FT := HO_FT.keep F34 (fun _ _ => nin0 _)
       have HA := Fr.step0 HA F34
       refine WO.run 1 3 [(13, .int .i64 ((numE s (p + 3) : Nat) : Int))] (by kernel_rfl) (by kernel_rfl) ?_
       refine WO.done (by kernel_rfl) ?_
       refine WQ.keep [0, 2, 3, 4, 5, 11, 12, 13, 141, 153] (e' := [(0, .string (str s)), (2, .pointer (some ⟨g1, 0, none⟩)), (3, .int .i64 0), (4, .pointer (some ⟨g6, 0, none⟩)), (5, .int .i64 ((p + 2 : Nat) : Int)), (11, .int .i64 0), (12, .int .i64 ((p + 3 : Nat) : Int)), (13, .int .i64 ((numE s (p + 3) : Nat) : Int)), (141, .bool true), (153, .bool false)]) (by kernel_rfl) ?_
       refine WQ.thenN ?_
       refine WE.seq ?_
       refine WE.region ?_
       refine WO.run 1 0 [(14, .int .i64 0)] (by kernel_rfl) (by kernel_rfl) ?_
       refine WO.done (by kernel_rfl) ?_
       refine WQ.keep [0, 2, 3, 4, 5, 11, 12, 13, 14, 141, 153] (e' := [(0, .string (str s)), (2, .pointer (some ⟨g1, 0, none⟩)), (3, .int .i64 0), (4, .pointer (some ⟨g6, 0, none⟩)), (5, .int .i64 ((p + 2 : Nat) : Int)), (11, .int .i64 0), (12, .int .i64 ((p + 3 : Nat) : Int)), (13, .int .i64 ((numE s (p + 3) : Nat) : Int)), (14, .int .i64 0), (141, .bool true), (153, .bool false)]) (by kernel_rfl) ?_
       refine WQ.thenN ?_
       refine WE.seq ?_
       refine WE.region ?_
       refine WO.run 1 0 [(15, .int .i64 1099511627776)] (by kernel_rfl) (by kernel_rfl) ?_
       refine WO.done (by kernel_rfl) ?_
       refine WQ.keep [0, 2, 3, 4, 5, 11, 12, 13, 14, 15, 141, 153] (e' := [(0, .string (str s)), (2, .pointer (some ⟨g1, 0, none⟩)), (3, .int .i64 0), (4, .pointer (some ⟨g6, 0, none⟩)), (5, .int .i64 ((p + 2 : Nat) : Int)), (11, .int .i64 0), (12, .int .i64 ((p + 3 : Nat) : Int)), (13, .int .i64 ((numE s (p + 3) : Nat) : Int)), (14, .int .i64 0), (15, .int .i64 1099511627776), (141, .bool true), (153, .bool false)]) (by kernel_rfl) ?_
       refine WQ.thenN ?_
       refine WE.seq ?_
       refine WE.seq ?_
       refine WE.region ?_
       refine WO.run 2 0 [(175, .bool true), (174, .int .i64 0)] (by kernel_rfl) (by kernel_rfl) ?_
       refine WO.done (by kernel_rfl) ?_
       refine WQ.keep [0, 2, 3, 4, 5, 11, 12, 13, 14, 15, 141, 153, 175] (e' := [(0, .string (str s)), (2, .pointer (some ⟨g1, 0, none⟩)), (3, .int .i64 0), (4, .pointer (some ⟨g6, 0, none⟩)), (5, .int .i64 ((p + 2 : Nat) : Int)), (11, .int .i64 0), (12, .int .i64 ((p + 3 : Nat) : Int)), (13, .int .i64 ((numE s (p + 3) : Nat) : Int)), (14, .int .i64 0), (15, .int .i64 1099511627776), (141, .bool true), (153, .bool false), (175, .bool true)]) (by kernel_rfl) ?_
       refine WQ.thenN ?_
       refine WE.condT (by kernel_rfl) ?_
       refine WE.seq ?_
       refine WE.region ?_
       refine WO.run 1 0 [(14, .int .i64 (-9223372036854775808))] (by kernel_rfl) (by kernel_rfl) ?_
       refine WO.done (by kernel_rfl) ?_
       refine WQ.keep [0, 2, 3, 4, 5, 11, 12, 13, 14, 15, 141, 153, 175] (e' := [(0, .string (str s)), (2, .pointer (some ⟨g1, 0, none⟩)), (3, .int .i64 0), (4, .pointer (some ⟨g6, 0, none⟩)), (5, .int .i64 ((p + 2 : Nat) : Int)), (11, .int .i64 0), (12, .int .i64 ((p + 3 : Nat) : Int)), (13, .int .i64 ((numE s (p + 3) : Nat) : Int)), (14, .int .i64 (-9223372036854775808)), (15, .int .i64 1099511627776), (141, .bool true), (153, .bool false), (175, .bool true)]) (by kernel_rfl) ?_
       refine WQ.thenN ?_
       refine WE.region ?_
       refine WO.run 1 0 [(15, .int .i64 9223372036854775807)] (by kernel_rfl) (by kernel_rfl) ?_
       refine WO.done (by kernel_rfl) ?_
       refine WQ.keep [0, 2, 3, 4, 5, 11, 12, 13, 14, 15, 141, 153, 175] (e' := [(0, .string (str s)), (2, .pointer (some ⟨g1, 0, none⟩)), (3, .int .i64 0), (4, .pointer (some ⟨g6, 0, none⟩)), (5, .int .i64 ((p + 2 : Nat) : Int)), (11, .int .i64 0), (12, .int .i64 ((p + 3 : Nat) : Int)), (13, .int .i64 ((numE s (p + 3) : Nat) : Int)), (14, .int .i64 (-9223372036854775808)), (15, .int .i64 9223372036854775807), (141, .bool true), (153, .bool false), (175, .bool true)]) (by kernel_rfl) ?_
       refine WQ.thenN ?_
       refine WE.seq ?_
       refine WE.region ?_
       refine WO.run 3 0 [(179, .int .i64 ((numE s (p + 3) : Nat) : Int)), (178, .int .i64 ((p + 3 : Nat) : Int)), (177, .string (str s))] (by kernel_rfl) (by kernel_rfl) ?_
       refine WO.slS2 (lo := ((p + 3 : Nat) : Int)) (hi := ((numE s (p + 3) : Nat) : Int)) (SQ.F 3 (by kernel_rfl)) 180 (p + 3) (numE s (p + 3)) s (by kernel_rfl) (by rfl) (by rfl) (by omega) (by omega) ?_
       refine WO.run 2 4 [(182, .int .i64 9223372036854775807), (181, .int .i64 (-9223372036854775808))] (by kernel_rfl) (by kernel_rfl) ?_
       refine WO.call (SQ.E 6 (by kernel_rfl)) 183 (by kernel_rfl) (value_part s (p + 3) _ (-9223372036854775808) 9223372036854775807 (by omega) (by omega)) ?_
       rintro _ w35 ⟨v37, b38, rfl, hv39, F36⟩
       refine ⟨_, rfl, trivial, ?_⟩
       have HB4 := Blk.keep HB4 F36 (nin0 _)
       have HB18 := Blk.keep HB18 F36 (nin0 _)
       have HO_FT := HO_FT.keep F36 (fun _ _ => nin0 _)
       have HA := Fr.step0 HA F36
       cases b38
       ·
        have hv39 : numP s (p + 3) (-9223372036854775808) 9223372036854775807 = none := hv39.symm
        refine WO.run 5 7 [(17, .bool false), (16, .int .i64 v37), (185, .bool false), (184, .int .i64 v37), (176, .tuple #[.int .i64 v37, .bool false])] (by kernel_rfl) (by kernel_rfl) ?_
        refine WO.done (by kernel_rfl) ?_
        refine WQ.keep [0, 2, 3, 4, 5, 11, 12, 13, 14, 15, 16, 17, 141, 153, 175] (e' := [(0, .string (str s)), (2, .pointer (some ⟨g1, 0, none⟩)), (3, .int .i64 0), (4, .pointer (some ⟨g6, 0, none⟩)), (5, .int .i64 ((p + 2 : Nat) : Int)), (11, .int .i64 0), (12, .int .i64 ((p + 3 : Nat) : Int)), (13, .int .i64 ((numE s (p + 3) : Nat) : Int)), (14, .int .i64 (-9223372036854775808)), (15, .int .i64 9223372036854775807), (16, .int .i64 v37), (17, .bool false), (141, .bool true), (153, .bool false), (175, .bool true)]) (by kernel_rfl) ?_
        refine WQ.thenN ?_
        refine WE.seq ?_
        refine WE.seq ?_
        refine WE.region ?_
        refine WO.run 2 0 [(187, .bool true), (186, .bool false)] (by kernel_rfl) (by kernel_rfl) ?_
        refine WO.done (by kernel_rfl) ?_
        refine WQ.keep [0, 2, 3, 4, 5, 11, 12, 13, 14, 15, 16, 17, 141, 153, 175, 187] (e' := [(0, .string (str s)), (2, .pointer (some ⟨g1, 0, none⟩)), (3, .int .i64 0), (4, .pointer (some ⟨g6, 0, none⟩)), (5, .int .i64 ((p + 2 : Nat) : Int)), (11, .int .i64 0), (12, .int .i64 ((p + 3 : Nat) : Int)), (13, .int .i64 ((numE s (p + 3) : Nat) : Int)), (14, .int .i64 (-9223372036854775808)), (15, .int .i64 9223372036854775807), (16, .int .i64 v37), (17, .bool false), (141, .bool true), (153, .bool false), (175, .bool true), (187, .bool true)]) (by kernel_rfl) ?_
        refine WQ.thenN ?_
        refine WE.condT (by kernel_rfl) ?_
        refine WE.seq ?_
        rw [hv39] at hps
        have hps : parseP s = .inr (p + 3) := hps
        refine WE.region ?_
        refine WO.run 2 0 [(189, .int .i64 ((p + 3 : Nat) : Int)), (188, .agg #[.string (⟨#[]⟩), .slice none 0 0, .int .i64 0, .int .i64 0, .int .i64 0])] (by kernel_rfl) (by kernel_rfl) ?_
        refine WO.st (SQ.E 2 (by kernel_rfl)) g1 0 [.string (⟨#[]⟩), .slice none 0 0, .int .i64 0, .int .i64 0, .int .i64 0] #[.string (⟨#[]⟩), .slice none 0 0, .int .i64 0, .int .i64 0, .int .i64 0] (by kernel_rfl) HB4 (by kernel_rfl) (by kernel_rfl) (fun _ _ => trivial) ?_
        intro w40 HB42 F41 _
        have HB18 := Blk.keep HB18 F41 (ninC (Ne.symm ne_g1_g6) (nin0 _))
        have HO_FT := HO_FT.keep F41 (djB nin_g1_FT)
        have HA := Fr.step HA F41 (inSR ge_HA_g1 inS0)
        refine WO.run 1 3 [(3, .int .i64 ((p + 3 : Nat) : Int))] (by kernel_rfl) (by kernel_rfl) ?_
        refine WO.done (by kernel_rfl) ?_
        refine WQ.keep [0, 2, 3, 4, 5, 11, 12, 13, 14, 15, 16, 17, 141, 153, 175, 187] (e' := [(0, .string (str s)), (2, .pointer (some ⟨g1, 0, none⟩)), (3, .int .i64 ((p + 3 : Nat) : Int)), (4, .pointer (some ⟨g6, 0, none⟩)), (5, .int .i64 ((p + 2 : Nat) : Int)), (11, .int .i64 0), (12, .int .i64 ((p + 3 : Nat) : Int)), (13, .int .i64 ((numE s (p + 3) : Nat) : Int)), (14, .int .i64 (-9223372036854775808)), (15, .int .i64 9223372036854775807), (16, .int .i64 v37), (17, .bool false), (141, .bool true), (153, .bool false), (175, .bool true), (187, .bool true)]) (by kernel_rfl) ?_
        refine WQ.thenN ?_
        refine WE.ret ?_
        refine WQ.thenR ?_
        refine WQ.blkR ?_
        refine WQ.thenR ?_
        refine WQ.thenR ?_
        refine WQ.blkR ?_
        refine WQ.thenR ?_
        refine WQ.ret2 (fn := Tryd.f21) (show Tryd.f21.results = #[.cell 2 25, .tmp 3] by kernel_rfl) (show resOk _ _ _ _ (.agg #[.string (⟨#[]⟩), .slice none 0 0, .int .i64 0, .int .i64 0, .int .i64 0]) from ⟨by kernel_rfl, ⟨g1, 0, none⟩, by kernel_rfl, ldVarB [.string (⟨#[]⟩), .slice none 0 0, .int .i64 0, .int .i64 0, .int .i64 0] (by kernel_rfl) (by kernel_rfl) (by kernel_rfl) HB42 (by kernel_rfl)⟩) (show resOk _ _ _ _ (.int .i64 ((p + 3 : Nat) : Int)) from ⟨by kernel_rfl, by kernel_rfl⟩) ?_
        rw [hps]
        exact ResR.fail HA
       ·
        have hv39 : numP s (p + 3) (-9223372036854775808) 9223372036854775807 = some v37 := hv39.symm
        refine WO.run 5 7 [(17, .bool true), (16, .int .i64 v37), (185, .bool true), (184, .int .i64 v37), (176, .tuple #[.int .i64 v37, .bool true])] (by kernel_rfl) (by kernel_rfl) ?_
        refine WO.done (by kernel_rfl) ?_
        refine WQ.keep [0, 2, 3, 4, 5, 11, 12, 13, 14, 15, 16, 17, 141, 153, 175] (e' := [(0, .string (str s)), (2, .pointer (some ⟨g1, 0, none⟩)), (3, .int .i64 0), (4, .pointer (some ⟨g6, 0, none⟩)), (5, .int .i64 ((p + 2 : Nat) : Int)), (11, .int .i64 0), (12, .int .i64 ((p + 3 : Nat) : Int)), (13, .int .i64 ((numE s (p + 3) : Nat) : Int)), (14, .int .i64 (-9223372036854775808)), (15, .int .i64 9223372036854775807), (16, .int .i64 v37), (17, .bool true), (141, .bool true), (153, .bool false), (175, .bool true)]) (by kernel_rfl) ?_
        refine WQ.thenN ?_
        refine WE.seq ?_
        refine WE.seq ?_
        refine WE.region ?_
        refine WO.run 2 0 [(187, .bool false), (186, .bool true)] (by kernel_rfl) (by kernel_rfl) ?_
        refine WO.done (by kernel_rfl) ?_
        refine WQ.keep [0, 2, 3, 4, 5, 11, 12, 13, 14, 15, 16, 17, 141, 153, 175, 187] (e' := [(0, .string (str s)), (2, .pointer (some ⟨g1, 0, none⟩)), (3, .int .i64 0), (4, .pointer (some ⟨g6, 0, none⟩)), (5, .int .i64 ((p + 2 : Nat) : Int)), (11, .int .i64 0), (12, .int .i64 ((p + 3 : Nat) : Int)), (13, .int .i64 ((numE s (p + 3) : Nat) : Int)), (14, .int .i64 (-9223372036854775808)), (15, .int .i64 9223372036854775807), (16, .int .i64 v37), (17, .bool true), (141, .bool true), (153, .bool false), (175, .bool true), (187, .bool false)]) (by kernel_rfl) ?_
        refine WQ.thenN ?_
        refine WE.condF (by kernel_rfl) ?_
        refine WE.skip ?_
        refine WQ.thenN ?_
        refine WE.seq ?_
        refine WE.seq ?_
        rw [hv39] at hps
        refine WE.region ?_
        refine WO.run 2 0 [(191, .bool true), (190, .int .i64 0)] (by kernel_rfl) (by kernel_rfl) ?_
        refine WO.done (by kernel_rfl) ?_
        refine WQ.keep [0, 2, 3, 4, 5, 11, 12, 13, 14, 15, 16, 17, 141, 153, 175, 187, 191] (e' := [(0, .string (str s)), (2, .pointer (some ⟨g1, 0, none⟩)), (3, .int .i64 0), (4, .pointer (some ⟨g6, 0, none⟩)), (5, .int .i64 ((p + 2 : Nat) : Int)), (11, .int .i64 0), (12, .int .i64 ((p + 3 : Nat) : Int)), (13, .int .i64 ((numE s (p + 3) : Nat) : Int)), (14, .int .i64 (-9223372036854775808)), (15, .int .i64 9223372036854775807), (16, .int .i64 v37), (17, .bool true), (141, .bool true), (153, .bool false), (175, .bool true), (187, .bool false), (191, .bool true)]) (by kernel_rfl) ?_
        refine WQ.thenN ?_
        refine WE.condT (by kernel_rfl) ?_
        refine WE.region ?_
        refine WO.run 2 0 [(193, .pointer (some ⟨g6, 3, none⟩)), (192, .int .i64 v37)] (by kernel_rfl) (by kernel_rfl) ?_
        refine WO.st (SQ.E 2 (by kernel_rfl)) g6 3 [.int .i64 v37] #[.string (str (s.take (runE inW s 0))), .slice At acc.length ct, .int .i64 kv, .int .i64 v37, .int .i64 0] (by kernel_rfl) HB18 (by kernel_rfl) (by kernel_rfl) (fun _ _ => trivial) ?_
        intro w43 HB45 F44 _
        have HB4 := Blk.keep HB4 F44 (ninC ne_g1_g6 (nin0 _))
        have HO_FT := HO_FT.keep F44 (djB nin_g6_FT)
        have HA := Fr.step HA F44 (inSR ge_HA_g6 inS0)
        refine WO.done (by kernel_rfl) ?_
        refine WQ.keep [0, 2, 3, 4, 5, 11, 12, 13, 14, 15, 16, 17, 141, 153, 175, 187, 191] (e' := [(0, .string (str s)), (2, .pointer (some ⟨g1, 0, none⟩)), (3, .int .i64 0), (4, .pointer (some ⟨g6, 0, none⟩)), (5, .int .i64 ((p + 2 : Nat) : Int)), (11, .int .i64 0), (12, .int .i64 ((p + 3 : Nat) : Int)), (13, .int .i64 ((numE s (p + 3) : Nat) : Int)), (14, .int .i64 (-9223372036854775808)), (15, .int .i64 9223372036854775807), (16, .int .i64 v37), (17, .bool true), (141, .bool true), (153, .bool false), (175, .bool true), (187, .bool false), (191, .bool true)]) (by kernel_rfl) ?_
        refine WQ.thenN ?_
        refine WE.region ?_
        refine WO.run 2 0 [(5, .int .i64 ((numE s (p + 3) : Nat) : Int)), (196, .int .i64 ((numE s (p + 3) : Nat) : Int))] (by kernel_rfl) (by kernel_rfl) ?_
        refine WO.done (by kernel_rfl) ?_
        refine WQ.keep [0, 2, 3, 4, 5, 11, 12, 13, 14, 15, 16, 17, 141, 153, 175, 187, 191] (e' := [(0, .string (str s)), (2, .pointer (some ⟨g1, 0, none⟩)), (3, .int .i64 0), (4, .pointer (some ⟨g6, 0, none⟩)), (5, .int .i64 ((numE s (p + 3) : Nat) : Int)), (11, .int .i64 0), (12, .int .i64 ((p + 3 : Nat) : Int)), (13, .int .i64 ((numE s (p + 3) : Nat) : Int)), (14, .int .i64 (-9223372036854775808)), (15, .int .i64 9223372036854775807), (16, .int .i64 v37), (17, .bool true), (141, .bool true), (153, .bool false), (175, .bool true), (187, .bool false), (191, .bool true)]) (by kernel_rfl) ?_
        refine WQ.blkN ?_
        refine WQ.thenN ?_
        refine WE.region ?_
        refine WO.run 3 0 [(11, .int .i64 1), (143, .int .i64 1), (142, .int .i64 0)] (by kernel_rfl) (by kernel_rfl) ?_
        refine WO.done (by kernel_rfl) ?_
        refine WQ.keep [0, 2, 3, 4, 5, 11, 12, 13, 14, 15, 16, 17, 141, 153, 175, 187, 191] (e' := [(0, .string (str s)), (2, .pointer (some ⟨g1, 0, none⟩)), (3, .int .i64 0), (4, .pointer (some ⟨g6, 0, none⟩)), (5, .int .i64 ((numE s (p + 3) : Nat) : Int)), (11, .int .i64 1), (12, .int .i64 ((p + 3 : Nat) : Int)), (13, .int .i64 ((numE s (p + 3) : Nat) : Int)), (14, .int .i64 (-9223372036854775808)), (15, .int .i64 9223372036854775807), (16, .int .i64 v37), (17, .bool true), (141, .bool true), (153, .bool false), (175, .bool true), (187, .bool false), (191, .bool true)]) (by kernel_rfl) ?_
        refine WQ.thenL ?_
        refine WL.go ?_
        refine WE.seq ?_
        refine WE.seq ?_
        refine WE.region ?_
        refine WO.run 2 0 [(141, .bool true), (140, .int .i64 1)] (by kernel_rfl) (by kernel_rfl) ?_
        refine WO.done (by kernel_rfl) ?_
        refine WQ.keep [0, 2, 3, 4, 5, 11, 12, 13, 14, 15, 16, 17, 141, 153, 175, 187, 191] (e' := [(0, .string (str s)), (2, .pointer (some ⟨g1, 0, none⟩)), (3, .int .i64 0), (4, .pointer (some ⟨g6, 0, none⟩)), (5, .int .i64 ((numE s (p + 3) : Nat) : Int)), (11, .int .i64 1), (12, .int .i64 ((p + 3 : Nat) : Int)), (13, .int .i64 ((numE s (p + 3) : Nat) : Int)), (14, .int .i64 (-9223372036854775808)), (15, .int .i64 9223372036854775807), (16, .int .i64 v37), (17, .bool true), (141, .bool true), (153, .bool false), (175, .bool true), (187, .bool false), (191, .bool true)]) (by kernel_rfl) ?_
        refine WQ.thenN ?_
        refine WE.condT (by kernel_rfl) ?_
        refine WE.skip ?_
        refine WQ.thenN ?_
        refine WE.seq ?_
        refine WE.block ?_
        refine WE.seq ?_
        refine WE.seq ?_
        refine WE.region ?_
        refine WO.run 3 0 [(146, .int .i64 (s.length : Int)), (145, .string (str s)), (144, .int .i64 ((numE s (p + 3) : Nat) : Int))] (by kernel_rfl) (by kernel_rfl) ?_
        refine WO.one (SQ.F 3 (by kernel_rfl)) 147 (.bool (decide (((numE s (p + 3) : Int) : Int) ≥ (s.length : Int)))) (by kernel_rfl) ?_
        refine WO.topP (((numE s (p + 3) : Int) : Int) ≥ (s.length : Int)) ?_ ?_
        ·
         intro h46
         refine WO.run 6 4 [(153, .bool true), (152, undef), (151, undef), (150, undef), (149, undef), (148, .bool true)] (by kernel_rfl) (by kernel_rfl) ?_
         refine WO.done (by kernel_rfl) ?_
         refine WQ.keep [0, 2, 3, 4, 5, 11, 12, 13, 14, 15, 16, 17, 141, 153, 175, 187, 191] (e' := [(0, .string (str s)), (2, .pointer (some ⟨g1, 0, none⟩)), (3, .int .i64 0), (4, .pointer (some ⟨g6, 0, none⟩)), (5, .int .i64 ((numE s (p + 3) : Nat) : Int)), (11, .int .i64 1), (12, .int .i64 ((p + 3 : Nat) : Int)), (13, .int .i64 ((numE s (p + 3) : Nat) : Int)), (14, .int .i64 (-9223372036854775808)), (15, .int .i64 9223372036854775807), (16, .int .i64 v37), (17, .bool true), (141, .bool true), (153, .bool true), (175, .bool true), (187, .bool false), (191, .bool true)]) (by kernel_rfl) ?_
         refine WQ.thenN ?_
         refine WE.condT (by kernel_rfl) ?_
         refine WE.seq ?_
         have hps : parseP s = .inr (numE s (p + 3)) := hps.trans (vp_1 (fun h_ => by have a_ := h_.1; have b_ := h_.2; omega))
         refine WE.region ?_
         refine WO.run 2 0 [(155, .int .i64 ((numE s (p + 3) : Nat) : Int)), (154, .agg #[.string (⟨#[]⟩), .slice none 0 0, .int .i64 0, .int .i64 0, .int .i64 0])] (by kernel_rfl) (by kernel_rfl) ?_
         refine WO.st (SQ.E 2 (by kernel_rfl)) g1 0 [.string (⟨#[]⟩), .slice none 0 0, .int .i64 0, .int .i64 0, .int .i64 0] #[.string (⟨#[]⟩), .slice none 0 0, .int .i64 0, .int .i64 0, .int .i64 0] (by kernel_rfl) HB4 (by kernel_rfl) (by kernel_rfl) (fun _ _ => trivial) ?_
         intro w47 HB49 F48 _
         have HB45 := Blk.keep HB45 F48 (ninC (Ne.symm ne_g1_g6) (nin0 _))
         have HO_FT := HO_FT.keep F48 (djB nin_g1_FT)
         have HA := Fr.step HA F48 (inSR ge_HA_g1 inS0)
         refine WO.run 1 3 [(3, .int .i64 ((numE s (p + 3) : Nat) : Int))] (by kernel_rfl) (by kernel_rfl) ?_
         refine WO.done (by kernel_rfl) ?_
         refine WQ.keep [0, 2, 3, 4, 5, 11, 12, 13, 14, 15, 16, 17, 141, 153, 175, 187, 191] (e' := [(0, .string (str s)), (2, .pointer (some ⟨g1, 0, none⟩)), (3, .int .i64 ((numE s (p + 3) : Nat) : Int)), (4, .pointer (some ⟨g6, 0, none⟩)), (5, .int .i64 ((numE s (p + 3) : Nat) : Int)), (11, .int .i64 1), (12, .int .i64 ((p + 3 : Nat) : Int)), (13, .int .i64 ((numE s (p + 3) : Nat) : Int)), (14, .int .i64 (-9223372036854775808)), (15, .int .i64 9223372036854775807), (16, .int .i64 v37), (17, .bool true), (141, .bool true), (153, .bool true), (175, .bool true), (187, .bool false), (191, .bool true)]) (by kernel_rfl) ?_
         refine WQ.thenN ?_
         refine WE.ret ?_
         refine WQ.thenR ?_
         refine WQ.blkR ?_
         refine WQ.thenR ?_
         refine WQ.thenR ?_
         refine WQ.blkR ?_
         refine WQ.thenR ?_
         refine WQ.ret2 (fn := Tryd.f21) (show Tryd.f21.results = #[.cell 2 25, .tmp 3] by kernel_rfl) (show resOk _ _ _ _ (.agg #[.string (⟨#[]⟩), .slice none 0 0, .int .i64 0, .int .i64 0, .int .i64 0]) from ⟨by kernel_rfl, ⟨g1, 0, none⟩, by kernel_rfl, ldVarB [.string (⟨#[]⟩), .slice none 0 0, .int .i64 0, .int .i64 0, .int .i64 0] (by kernel_rfl) (by kernel_rfl) (by kernel_rfl) HB49 (by kernel_rfl)⟩) (show resOk _ _ _ _ (.int .i64 ((numE s (p + 3) : Nat) : Int)) from ⟨by kernel_rfl, by kernel_rfl⟩) ?_
         rw [hps]
         exact ResR.fail HA
        intro h46
        refine WO.run 3 4 [(150, .int .i64 ((numE s (p + 3) : Nat) : Int)), (149, .string (str s)), (148, .bool false)] (by kernel_rfl) (by kernel_rfl) ?_
        refine WO.ixS (i := ((numE s (p + 3) : Nat) : Int)) (SQ.F 7 (by kernel_rfl)) 151 (numE s (p + 3)) s (by kernel_rfl) (by rfl) (by omega) ?_
        refine WO.one (SQ.F 8 (by kernel_rfl)) 152 (.bool (!decide ((((gB s (numE s (p + 3))).toNat : Int) : Int) = (32 : Int)))) (by kernel_rfl) ?_
        refine WO.topN ((((gB s (numE s (p + 3))).toNat : Int) : Int) = (32 : Int)) ?_ ?_
        ·
         intro h50
         refine WO.run 1 9 [(153, .bool false)] (by kernel_rfl) (by kernel_rfl) ?_
         refine WO.done (by kernel_rfl) ?_
         refine WQ.keep [0, 2, 3, 4, 5, 11, 12, 13, 14, 15, 16, 17, 141, 153, 175, 187, 191] (e' := [(0, .string (str s)), (2, .pointer (some ⟨g1, 0, none⟩)), (3, .int .i64 0), (4, .pointer (some ⟨g6, 0, none⟩)), (5, .int .i64 ((numE s (p + 3) : Nat) : Int)), (11, .int .i64 1), (12, .int .i64 ((p + 3 : Nat) : Int)), (13, .int .i64 ((numE s (p + 3) : Nat) : Int)), (14, .int .i64 (-9223372036854775808)), (15, .int .i64 9223372036854775807), (16, .int .i64 v37), (17, .bool true), (141, .bool true), (153, .bool false), (175, .bool true), (187, .bool false), (191, .bool true)]) (by kernel_rfl) ?_
         refine WQ.thenN ?_
         refine WE.condF (by kernel_rfl) ?_
         refine WE.skip ?_
         refine WQ.thenN ?_
         refine WE.seq ?_
         have hB32 : isAt s (numE s (p + 3)) 32 := ⟨by omega, by omega⟩
         have hps := hps.trans (vp_2 hB32)
         refine WE.region ?_
         refine WO.run 1 0 [(156, .int .i64 ((numE s (p + 3) : Nat) : Int))] (by kernel_rfl) (by kernel_rfl) ?_
         refine WO.one (SQ.F 1 (by kernel_rfl)) 157 (.int .i64 (IntKind.i64.wrap (((numE s (p + 3) : Nat) : Int) + 1))) (by kernel_rfl) ?_
         refine WO.top (v' := .int .i64 ((numE s (p + 3) + 1 : Nat) : Int)) (wrap_i64 (by omega) (by omega)) ?_
         refine WO.run 1 2 [(12, .int .i64 ((numE s (p + 3) + 1 : Nat) : Int))] (by kernel_rfl) (by kernel_rfl) ?_
         refine WO.done (by kernel_rfl) ?_
         refine WQ.keep [0, 2, 3, 4, 5, 11, 12, 13, 14, 15, 16, 17, 141, 153, 175, 187, 191] (e' := [(0, .string (str s)), (2, .pointer (some ⟨g1, 0, none⟩)), (3, .int .i64 0), (4, .pointer (some ⟨g6, 0, none⟩)), (5, .int .i64 ((numE s (p + 3) : Nat) : Int)), (11, .int .i64 1), (12, .int .i64 ((numE s (p + 3) + 1 : Nat) : Int)), (13, .int .i64 ((numE s (p + 3) : Nat) : Int)), (14, .int .i64 (-9223372036854775808)), (15, .int .i64 9223372036854775807), (16, .int .i64 v37), (17, .bool true), (141, .bool true), (153, .bool false), (175, .bool true), (187, .bool false), (191, .bool true)]) (by kernel_rfl) ?_
         refine WQ.thenN ?_
         refine WE.seq ?_
         refine WE.region ?_
         refine WO.run 2 0 [(13, .int .i64 ((numE s (p + 3) + 1 : Nat) : Int)), (158, .int .i64 ((numE s (p + 3) + 1 : Nat) : Int))] (by kernel_rfl) (by kernel_rfl) ?_
         refine WO.done (by kernel_rfl) ?_
         refine WQ.keep [0, 2, 3, 4, 5, 11, 12, 13, 14, 15, 16, 17, 141, 153, 175, 187, 191] (e' := [(0, .string (str s)), (2, .pointer (some ⟨g1, 0, none⟩)), (3, .int .i64 0), (4, .pointer (some ⟨g6, 0, none⟩)), (5, .int .i64 ((numE s (p + 3) : Nat) : Int)), (11, .int .i64 1), (12, .int .i64 ((numE s (p + 3) + 1 : Nat) : Int)), (13, .int .i64 ((numE s (p + 3) + 1 : Nat) : Int)), (14, .int .i64 (-9223372036854775808)), (15, .int .i64 9223372036854775807), (16, .int .i64 v37), (17, .bool true), (141, .bool true), (153, .bool false), (175, .bool true), (187, .bool false), (191, .bool true)]) (by kernel_rfl) ?_
         refine WQ.thenN ?_
         refine WE.seqJ (α := Nat) (E := fun Q => [(0, .string (str s)), (2, .pointer (some ⟨g1, 0, none⟩)), (3, .int .i64 0), (4, .pointer (some ⟨g6, 0, none⟩)), (5, .int .i64 ((numE s (p + 3) : Nat) : Int)), (11, .int .i64 1), (12, .int .i64 ((numE s (p + 3) + 1 : Nat) : Int)), (13, .int .i64 (Q : Int)), (14, .int .i64 (-9223372036854775808)), (15, .int .i64 9223372036854775807), (16, .int .i64 v37), (17, .bool true), (141, .bool true), (153, .bool false), (175, .bool true), (187, .bool false), (191, .bool true)]) (I := fun Q wr => numE s (numE s (p + 3) + 1) = runE isD s Q ∧ Q ≤ s.length ∧ numE s (p + 3) + 1 ≤ Q ∧ Blk wr g1 #[.string (⟨#[]⟩), .slice none 0 0, .int .i64 0, .int .i64 0, .int .i64 0] 25 ∧ Blk wr g6 #[.string (str (s.take (runE inW s 0))), .slice At acc.length ct, .int .i64 kv, .int .i64 v37, .int .i64 0] 25 ∧ OwnX 53 2 wr FT (.slice At acc.length ct) (List.map cT acc) ∧ Fr [] w wr) ?_ ?_
         ·
          rintro Q wr ⟨hnE, hQ, hPQ, HB4, HB45, HO_FT, HA⟩
          refine WE.seq ?_
          refine WE.region ?_
          refine WO.run 2 0 [(172, .int .i64 (Q : Int)), (171, .string (str s))] (by kernel_rfl) (by kernel_rfl) ?_
          refine WO.call (SQ.E 2 (by kernel_rfl)) 173 (by kernel_rfl) (rrun_d s Q _ (by omega) (by omega)) ?_
          rintro _ w51 ⟨rfl, F52⟩
          have he1 := runE_ge isD s Q
          have he2 := runE_le isD (show Q ≤ s.length by omega)
          rw [← hnE] at he1 he2
          rw [← hnE]
          refine ⟨_, rfl, trivial, ?_⟩
          have HB4 := Blk.keep HB4 F52 (nin0 _)
          have HB45 := Blk.keep HB45 F52 (nin0 _)
          have HO_FT := HO_FT.keep F52 (fun _ _ => nin0 _)
          have HA := Fr.step0 HA F52
          refine WO.run 1 3 [(13, .int .i64 ((numE s (numE s (p + 3) + 1) : Nat) : Int))] (by kernel_rfl) (by kernel_rfl) ?_
          refine WO.done (by kernel_rfl) ?_
          refine WQ.keep [0, 2, 3, 4, 5, 11, 12, 13, 14, 15, 16, 17, 141, 153, 175, 187, 191] (e' := [(0, .string (str s)), (2, .pointer (some ⟨g1, 0, none⟩)), (3, .int .i64 0), (4, .pointer (some ⟨g6, 0, none⟩)), (5, .int .i64 ((numE s (p + 3) : Nat) : Int)), (11, .int .i64 1), (12, .int .i64 ((numE s (p + 3) + 1 : Nat) : Int)), (13, .int .i64 ((numE s (numE s (p + 3) + 1) : Nat) : Int)), (14, .int .i64 (-9223372036854775808)), (15, .int .i64 9223372036854775807), (16, .int .i64 v37), (17, .bool true), (141, .bool true), (153, .bool false), (175, .bool true), (187, .bool false), (191, .bool true)]) (by kernel_rfl) ?_
          refine WQ.thenN ?_
          refine WE.seq ?_
          refine WE.region ?_
          refine WO.run 1 0 [(14, .int .i64 0)] (by kernel_rfl) (by kernel_rfl) ?_
          refine WO.done (by kernel_rfl) ?_
          refine WQ.keep [0, 2, 3, 4, 5, 11, 12, 13, 14, 15, 16, 17, 141, 153, 175, 187, 191] (e' := [(0, .string (str s)), (2, .pointer (some ⟨g1, 0, none⟩)), (3, .int .i64 0), (4, .pointer (some ⟨g6, 0, none⟩)), (5, .int .i64 ((numE s (p + 3) : Nat) : Int)), (11, .int .i64 1), (12, .int .i64 ((numE s (p + 3) + 1 : Nat) : Int)), (13, .int .i64 ((numE s (numE s (p + 3) + 1) : Nat) : Int)), (14, .int .i64 0), (15, .int .i64 9223372036854775807), (16, .int .i64 v37), (17, .bool true), (141, .bool true), (153, .bool false), (175, .bool true), (187, .bool false), (191, .bool true)]) (by kernel_rfl) ?_
          refine WQ.thenN ?_
          refine WE.seq ?_
          refine WE.region ?_
          refine WO.run 1 0 [(15, .int .i64 1099511627776)] (by kernel_rfl) (by kernel_rfl) ?_
          refine WO.done (by kernel_rfl) ?_
          refine WQ.keep [0, 2, 3, 4, 5, 11, 12, 13, 14, 15, 16, 17, 141, 153, 175, 187, 191] (e' := [(0, .string (str s)), (2, .pointer (some ⟨g1, 0, none⟩)), (3, .int .i64 0), (4, .pointer (some ⟨g6, 0, none⟩)), (5, .int .i64 ((numE s (p + 3) : Nat) : Int)), (11, .int .i64 1), (12, .int .i64 ((numE s (p + 3) + 1 : Nat) : Int)), (13, .int .i64 ((numE s (numE s (p + 3) + 1) : Nat) : Int)), (14, .int .i64 0), (15, .int .i64 1099511627776), (16, .int .i64 v37), (17, .bool true), (141, .bool true), (153, .bool false), (175, .bool true), (187, .bool false), (191, .bool true)]) (by kernel_rfl) ?_
          refine WQ.thenN ?_
          refine WE.seq ?_
          refine WE.seq ?_
          refine WE.region ?_
          refine WO.run 2 0 [(175, .bool false), (174, .int .i64 1)] (by kernel_rfl) (by kernel_rfl) ?_
          refine WO.done (by kernel_rfl) ?_
          refine WQ.keep [0, 2, 3, 4, 5, 11, 12, 13, 14, 15, 16, 17, 141, 153, 175, 187, 191] (e' := [(0, .string (str s)), (2, .pointer (some ⟨g1, 0, none⟩)), (3, .int .i64 0), (4, .pointer (some ⟨g6, 0, none⟩)), (5, .int .i64 ((numE s (p + 3) : Nat) : Int)), (11, .int .i64 1), (12, .int .i64 ((numE s (p + 3) + 1 : Nat) : Int)), (13, .int .i64 ((numE s (numE s (p + 3) + 1) : Nat) : Int)), (14, .int .i64 0), (15, .int .i64 1099511627776), (16, .int .i64 v37), (17, .bool true), (141, .bool true), (153, .bool false), (175, .bool false), (187, .bool false), (191, .bool true)]) (by kernel_rfl) ?_
          refine WQ.thenN ?_
          refine WE.condF (by kernel_rfl) ?_
          refine WE.skip ?_
          refine WQ.thenN ?_
          refine WE.seq ?_
          refine WE.region ?_
          refine WO.run 3 0 [(179, .int .i64 ((numE s (numE s (p + 3) + 1) : Nat) : Int)), (178, .int .i64 ((numE s (p + 3) + 1 : Nat) : Int)), (177, .string (str s))] (by kernel_rfl) (by kernel_rfl) ?_
          refine WO.slS2 (lo := ((numE s (p + 3) + 1 : Nat) : Int)) (hi := ((numE s (numE s (p + 3) + 1) : Nat) : Int)) (SQ.F 3 (by kernel_rfl)) 180 (numE s (p + 3) + 1) (numE s (numE s (p + 3) + 1)) s (by kernel_rfl) (by rfl) (by rfl) (by omega) (by omega) ?_
          refine WO.run 2 4 [(182, .int .i64 1099511627776), (181, .int .i64 0)] (by kernel_rfl) (by kernel_rfl) ?_
          refine WO.call (SQ.E 6 (by kernel_rfl)) 183 (by kernel_rfl) (value_part s (numE s (p + 3) + 1) _ 0 1099511627776 (by omega) (by omega)) ?_
          rintro _ w53 ⟨v55, b56, rfl, hv57, F54⟩
          refine ⟨_, rfl, trivial, ?_⟩
          have HB4 := Blk.keep HB4 F54 (nin0 _)
          have HB45 := Blk.keep HB45 F54 (nin0 _)
          have HO_FT := HO_FT.keep F54 (fun _ _ => nin0 _)
          have HA := Fr.step0 HA F54
          cases b56
          ·
           have hv57 : numP s (numE s (p + 3) + 1) 0 1099511627776 = none := hv57.symm
           refine WO.run 5 7 [(17, .bool false), (16, .int .i64 v55), (185, .bool false), (184, .int .i64 v55), (176, .tuple #[.int .i64 v55, .bool false])] (by kernel_rfl) (by kernel_rfl) ?_
           refine WO.done (by kernel_rfl) ?_
           refine WQ.keep [0, 2, 3, 4, 5, 11, 12, 13, 14, 15, 16, 17, 141, 153, 175, 187, 191] (e' := [(0, .string (str s)), (2, .pointer (some ⟨g1, 0, none⟩)), (3, .int .i64 0), (4, .pointer (some ⟨g6, 0, none⟩)), (5, .int .i64 ((numE s (p + 3) : Nat) : Int)), (11, .int .i64 1), (12, .int .i64 ((numE s (p + 3) + 1 : Nat) : Int)), (13, .int .i64 ((numE s (numE s (p + 3) + 1) : Nat) : Int)), (14, .int .i64 0), (15, .int .i64 1099511627776), (16, .int .i64 v55), (17, .bool false), (141, .bool true), (153, .bool false), (175, .bool false), (187, .bool false), (191, .bool true)]) (by kernel_rfl) ?_
           refine WQ.thenN ?_
           refine WE.seq ?_
           refine WE.seq ?_
           refine WE.region ?_
           refine WO.run 2 0 [(187, .bool true), (186, .bool false)] (by kernel_rfl) (by kernel_rfl) ?_
           refine WO.done (by kernel_rfl) ?_
           refine WQ.keep [0, 2, 3, 4, 5, 11, 12, 13, 14, 15, 16, 17, 141, 153, 175, 187, 191] (e' := [(0, .string (str s)), (2, .pointer (some ⟨g1, 0, none⟩)), (3, .int .i64 0), (4, .pointer (some ⟨g6, 0, none⟩)), (5, .int .i64 ((numE s (p + 3) : Nat) : Int)), (11, .int .i64 1), (12, .int .i64 ((numE s (p + 3) + 1 : Nat) : Int)), (13, .int .i64 ((numE s (numE s (p + 3) + 1) : Nat) : Int)), (14, .int .i64 0), (15, .int .i64 1099511627776), (16, .int .i64 v55), (17, .bool false), (141, .bool true), (153, .bool false), (175, .bool false), (187, .bool true), (191, .bool true)]) (by kernel_rfl) ?_
           refine WQ.thenN ?_
           refine WE.condT (by kernel_rfl) ?_
           refine WE.seq ?_
           rw [hv57] at hps
           have hps : parseP s = .inr (numE s (p + 3) + 1) := hps
           refine WE.region ?_
           refine WO.run 2 0 [(189, .int .i64 ((numE s (p + 3) + 1 : Nat) : Int)), (188, .agg #[.string (⟨#[]⟩), .slice none 0 0, .int .i64 0, .int .i64 0, .int .i64 0])] (by kernel_rfl) (by kernel_rfl) ?_
           refine WO.st (SQ.E 2 (by kernel_rfl)) g1 0 [.string (⟨#[]⟩), .slice none 0 0, .int .i64 0, .int .i64 0, .int .i64 0] #[.string (⟨#[]⟩), .slice none 0 0, .int .i64 0, .int .i64 0, .int .i64 0] (by kernel_rfl) HB4 (by kernel_rfl) (by kernel_rfl) (fun _ _ => trivial) ?_
           intro w58 HB60 F59 _
           have HB45 := Blk.keep HB45 F59 (ninC (Ne.symm ne_g1_g6) (nin0 _))
           have HO_FT := HO_FT.keep F59 (djB nin_g1_FT)
           have HA := Fr.step HA F59 (inSR ge_HA_g1 inS0)
           refine WO.run 1 3 [(3, .int .i64 ((numE s (p + 3) + 1 : Nat) : Int))] (by kernel_rfl) (by kernel_rfl) ?_
           refine WO.done (by kernel_rfl) ?_
           refine WQ.keep [0, 2, 3, 4, 5, 11, 12, 13, 14, 15, 16, 17, 141, 153, 175, 187, 191] (e' := [(0, .string (str s)), (2, .pointer (some ⟨g1, 0, none⟩)), (3, .int .i64 ((numE s (p + 3) + 1 : Nat) : Int)), (4, .pointer (some ⟨g6, 0, none⟩)), (5, .int .i64 ((numE s (p + 3) : Nat) : Int)), (11, .int .i64 1), (12, .int .i64 ((numE s (p + 3) + 1 : Nat) : Int)), (13, .int .i64 ((numE s (numE s (p + 3) + 1) : Nat) : Int)), (14, .int .i64 0), (15, .int .i64 1099511627776), (16, .int .i64 v55), (17, .bool false), (141, .bool true), (153, .bool false), (175, .bool false), (187, .bool true), (191, .bool true)]) (by kernel_rfl) ?_
           refine WQ.thenN ?_
           refine WE.ret ?_
           refine WQ.thenR ?_
           refine WQ.blkR ?_
           refine WQ.thenR ?_
           refine WQ.thenR ?_
           refine WQ.blkR ?_
           refine WQ.thenR ?_
           refine WQ.ret2 (fn := Tryd.f21) (show Tryd.f21.results = #[.cell 2 25, .tmp 3] by kernel_rfl) (show resOk _ _ _ _ (.agg #[.string (⟨#[]⟩), .slice none 0 0, .int .i64 0, .int .i64 0, .int .i64 0]) from ⟨by kernel_rfl, ⟨g1, 0, none⟩, by kernel_rfl, ldVarB [.string (⟨#[]⟩), .slice none 0 0, .int .i64 0, .int .i64 0, .int .i64 0] (by kernel_rfl) (by kernel_rfl) (by kernel_rfl) HB60 (by kernel_rfl)⟩) (show resOk _ _ _ _ (.int .i64 ((numE s (p + 3) + 1 : Nat) : Int)) from ⟨by kernel_rfl, by kernel_rfl⟩) ?_
           rw [hps]
           exact ResR.fail HA
          ·
           have hv57 : numP s (numE s (p + 3) + 1) 0 1099511627776 = some v55 := hv57.symm
           refine WO.run 5 7 [(17, .bool true), (16, .int .i64 v55), (185, .bool true), (184, .int .i64 v55), (176, .tuple #[.int .i64 v55, .bool true])] (by kernel_rfl) (by kernel_rfl) ?_
           refine WO.done (by kernel_rfl) ?_
           refine WQ.keep [0, 2, 3, 4, 5, 11, 12, 13, 14, 15, 16, 17, 141, 153, 175, 187, 191] (e' := [(0, .string (str s)), (2, .pointer (some ⟨g1, 0, none⟩)), (3, .int .i64 0), (4, .pointer (some ⟨g6, 0, none⟩)), (5, .int .i64 ((numE s (p + 3) : Nat) : Int)), (11, .int .i64 1), (12, .int .i64 ((numE s (p + 3) + 1 : Nat) : Int)), (13, .int .i64 ((numE s (numE s (p + 3) + 1) : Nat) : Int)), (14, .int .i64 0), (15, .int .i64 1099511627776), (16, .int .i64 v55), (17, .bool true), (141, .bool true), (153, .bool false), (175, .bool false), (187, .bool false), (191, .bool true)]) (by kernel_rfl) ?_
           refine WQ.thenN ?_
           refine WE.seq ?_
           refine WE.seq ?_
           refine WE.region ?_
           refine WO.run 2 0 [(187, .bool false), (186, .bool true)] (by kernel_rfl) (by kernel_rfl) ?_
           refine WO.done (by kernel_rfl) ?_
           refine WQ.keep [0, 2, 3, 4, 5, 11, 12, 13, 14, 15, 16, 17, 141, 153, 175, 187, 191] (e' := [(0, .string (str s)), (2, .pointer (some ⟨g1, 0, none⟩)), (3, .int .i64 0), (4, .pointer (some ⟨g6, 0, none⟩)), (5, .int .i64 ((numE s (p + 3) : Nat) : Int)), (11, .int .i64 1), (12, .int .i64 ((numE s (p + 3) + 1 : Nat) : Int)), (13, .int .i64 ((numE s (numE s (p + 3) + 1) : Nat) : Int)), (14, .int .i64 0), (15, .int .i64 1099511627776), (16, .int .i64 v55), (17, .bool true), (141, .bool true), (153, .bool false), (175, .bool false), (187, .bool false), (191, .bool true)]) (by kernel_rfl) ?_
           refine WQ.thenN ?_
           refine WE.condF (by kernel_rfl) ?_
           refine WE.skip ?_
           refine WQ.thenN ?_
           refine WE.seq ?_
           refine WE.seq ?_
           rw [hv57] at hps
           refine WE.region ?_
           refine WO.run 2 0 [(191, .bool false), (190, .int .i64 1)] (by kernel_rfl) (by kernel_rfl) ?_
           refine WO.done (by kernel_rfl) ?_
           refine WQ.keep [0, 2, 3, 4, 5, 11, 12, 13, 14, 15, 16, 17, 141, 153, 175, 187, 191] (e' := [(0, .string (str s)), (2, .pointer (some ⟨g1, 0, none⟩)), (3, .int .i64 0), (4, .pointer (some ⟨g6, 0, none⟩)), (5, .int .i64 ((numE s (p + 3) : Nat) : Int)), (11, .int .i64 1), (12, .int .i64 ((numE s (p + 3) + 1 : Nat) : Int)), (13, .int .i64 ((numE s (numE s (p + 3) + 1) : Nat) : Int)), (14, .int .i64 0), (15, .int .i64 1099511627776), (16, .int .i64 v55), (17, .bool true), (141, .bool true), (153, .bool false), (175, .bool false), (187, .bool false), (191, .bool false)]) (by kernel_rfl) ?_
           refine WQ.thenN ?_
           refine WE.condF (by kernel_rfl) ?_
           refine WE.region ?_
           refine WO.run 2 0 [(195, .pointer (some ⟨g6, 4, none⟩)), (194, .int .i64 v55)] (by kernel_rfl) (by kernel_rfl) ?_
           refine WO.st (SQ.E 2 (by kernel_rfl)) g6 4 [.int .i64 v55] #[.string (str (s.take (runE inW s 0))), .slice At acc.length ct, .int .i64 kv, .int .i64 v37, .int .i64 v55] (by kernel_rfl) HB45 (by kernel_rfl) (by kernel_rfl) (fun _ _ => trivial) ?_
           intro w61 HB63 F62 _
           have HB4 := Blk.keep HB4 F62 (ninC ne_g1_g6 (nin0 _))
           have HO_FT := HO_FT.keep F62 (djB nin_g6_FT)
           have HA := Fr.step HA F62 (inSR ge_HA_g6 inS0)
           refine WO.done (by kernel_rfl) ?_
           refine WQ.keep [0, 2, 3, 4, 5, 11, 12, 13, 14, 15, 16, 17, 141, 153, 175, 187, 191] (e' := [(0, .string (str s)), (2, .pointer (some ⟨g1, 0, none⟩)), (3, .int .i64 0), (4, .pointer (some ⟨g6, 0, none⟩)), (5, .int .i64 ((numE s (p + 3) : Nat) : Int)), (11, .int .i64 1), (12, .int .i64 ((numE s (p + 3) + 1 : Nat) : Int)), (13, .int .i64 ((numE s (numE s (p + 3) + 1) : Nat) : Int)), (14, .int .i64 0), (15, .int .i64 1099511627776), (16, .int .i64 v55), (17, .bool true), (141, .bool true), (153, .bool false), (175, .bool false), (187, .bool false), (191, .bool false)]) (by kernel_rfl) ?_
           refine WQ.thenN ?_
           refine WE.region ?_
           refine WO.run 2 0 [(5, .int .i64 ((numE s (numE s (p + 3) + 1) : Nat) : Int)), (196, .int .i64 ((numE s (numE s (p + 3) + 1) : Nat) : Int))] (by kernel_rfl) (by kernel_rfl) ?_
           refine WO.done (by kernel_rfl) ?_
           refine WQ.keep [0, 2, 3, 4, 5, 11, 12, 13, 14, 15, 16, 17, 141, 153, 175, 187, 191] (e' := [(0, .string (str s)), (2, .pointer (some ⟨g1, 0, none⟩)), (3, .int .i64 0), (4, .pointer (some ⟨g6, 0, none⟩)), (5, .int .i64 ((numE s (numE s (p + 3) + 1) : Nat) : Int)), (11, .int .i64 1), (12, .int .i64 ((numE s (p + 3) + 1 : Nat) : Int)), (13, .int .i64 ((numE s (numE s (p + 3) + 1) : Nat) : Int)), (14, .int .i64 0), (15, .int .i64 1099511627776), (16, .int .i64 v55), (17, .bool true), (141, .bool true), (153, .bool false), (175, .bool false), (187, .bool false), (191, .bool false)]) (by kernel_rfl) ?_
           refine WQ.blkN ?_
           refine WQ.thenN ?_
           refine WE.region ?_
           refine WO.run 3 0 [(11, .int .i64 2), (143, .int .i64 2), (142, .int .i64 1)] (by kernel_rfl) (by kernel_rfl) ?_
           refine WO.done (by kernel_rfl) ?_
           refine WQ.keep [0, 2, 3, 4, 5, 11, 12, 13, 14, 15, 16, 17, 141, 153, 175, 187, 191] (e' := [(0, .string (str s)), (2, .pointer (some ⟨g1, 0, none⟩)), (3, .int .i64 0), (4, .pointer (some ⟨g6, 0, none⟩)), (5, .int .i64 ((numE s (numE s (p + 3) + 1) : Nat) : Int)), (11, .int .i64 2), (12, .int .i64 ((numE s (p + 3) + 1 : Nat) : Int)), (13, .int .i64 ((numE s (numE s (p + 3) + 1) : Nat) : Int)), (14, .int .i64 0), (15, .int .i64 1099511627776), (16, .int .i64 v55), (17, .bool true), (141, .bool true), (153, .bool false), (175, .bool false), (187, .bool false), (191, .bool false)]) (by kernel_rfl) ?_
           refine WQ.thenL ?_
           refine WL.go ?_
           refine WE.seq ?_
           refine WE.seq ?_
           refine WE.region ?_
           refine WO.run 2 0 [(141, .bool false), (140, .int .i64 2)] (by kernel_rfl) (by kernel_rfl) ?_
           refine WO.done (by kernel_rfl) ?_
           refine WQ.keep [0, 2, 3, 4, 5, 11, 12, 13, 14, 15, 16, 17, 141, 153, 175, 187, 191] (e' := [(0, .string (str s)), (2, .pointer (some ⟨g1, 0, none⟩)), (3, .int .i64 0), (4, .pointer (some ⟨g6, 0, none⟩)), (5, .int .i64 ((numE s (numE s (p + 3) + 1) : Nat) : Int)), (11, .int .i64 2), (12, .int .i64 ((numE s (p + 3) + 1 : Nat) : Int)), (13, .int .i64 ((numE s (numE s (p + 3) + 1) : Nat) : Int)), (14, .int .i64 0), (15, .int .i64 1099511627776), (16, .int .i64 v55), (17, .bool true), (141, .bool false), (153, .bool false), (175, .bool false), (187, .bool false), (191, .bool false)]) (by kernel_rfl) ?_
           refine WQ.thenN ?_
           refine WE.condF (by kernel_rfl) ?_
           refine WE.exit ?_
           refine WQ.thenE ?_
           refine WQ.thenE ?_
           refine WQ.blkE ?_
           refine WQ.thenN ?_
           refine WE.seq ?_
           refine WE.seq ?_
           refine WE.region ?_
           refine WO.run 3 0 [(199, .int .i64 (s.length : Int)), (198, .string (str s)), (197, .int .i64 ((numE s (numE s (p + 3) + 1) : Nat) : Int))] (by kernel_rfl) (by kernel_rfl) ?_
           refine WO.one (SQ.F 3 (by kernel_rfl)) 200 (.bool (decide (((numE s (numE s (p + 3) + 1) : Int) : Int) < (s.length : Int)))) (by kernel_rfl) ?_
           refine WO.topP (((numE s (numE s (p + 3) + 1) : Int) : Int) < (s.length : Int)) ?_ ?_
           ·
            intro h64
            refine WO.done (by kernel_rfl) ?_
            refine WQ.keep [2, 3, 4, 5, 200] (e' := [(2, .pointer (some ⟨g1, 0, none⟩)), (3, .int .i64 0), (4, .pointer (some ⟨g6, 0, none⟩)), (5, .int .i64 ((numE s (numE s (p + 3) + 1) : Nat) : Int)), (200, .bool true)]) (by kernel_rfl) ?_
            refine WQ.thenN ?_
            refine WE.condT (by kernel_rfl) ?_
            refine WE.seq ?_
            have hps : parseP s = .inr (numE s (numE s (p + 3) + 1)) := hps.trans (tp_1 (by omega))
            refine WE.region ?_
            refine WO.run 2 0 [(202, .int .i64 ((numE s (numE s (p + 3) + 1) : Nat) : Int)), (201, .agg #[.string (⟨#[]⟩), .slice none 0 0, .int .i64 0, .int .i64 0, .int .i64 0])] (by kernel_rfl) (by kernel_rfl) ?_
            refine WO.st (SQ.E 2 (by kernel_rfl)) g1 0 [.string (⟨#[]⟩), .slice none 0 0, .int .i64 0, .int .i64 0, .int .i64 0] #[.string (⟨#[]⟩), .slice none 0 0, .int .i64 0, .int .i64 0, .int .i64 0] (by kernel_rfl) HB4 (by kernel_rfl) (by kernel_rfl) (fun _ _ => trivial) ?_
            intro w65 HB67 F66 _
            have HB63 := Blk.keep HB63 F66 (ninC (Ne.symm ne_g1_g6) (nin0 _))
            have HO_FT := HO_FT.keep F66 (djB nin_g1_FT)
            have HA := Fr.step HA F66 (inSR ge_HA_g1 inS0)
            refine WO.run 1 3 [(3, .int .i64 ((numE s (numE s (p + 3) + 1) : Nat) : Int))] (by kernel_rfl) (by kernel_rfl) ?_
            refine WO.done (by kernel_rfl) ?_
            refine WQ.keep [2, 3, 4] (e' := [(2, .pointer (some ⟨g1, 0, none⟩)), (3, .int .i64 ((numE s (numE s (p + 3) + 1) : Nat) : Int)), (4, .pointer (some ⟨g6, 0, none⟩))]) (by kernel_rfl) ?_
            refine WQ.thenN ?_
            refine WE.ret ?_
            refine WQ.thenR ?_
            refine WQ.ret2 (fn := Tryd.f21) (show Tryd.f21.results = #[.cell 2 25, .tmp 3] by kernel_rfl) (show resOk _ _ _ _ (.agg #[.string (⟨#[]⟩), .slice none 0 0, .int .i64 0, .int .i64 0, .int .i64 0]) from ⟨by kernel_rfl, ⟨g1, 0, none⟩, by kernel_rfl, ldVarB [.string (⟨#[]⟩), .slice none 0 0, .int .i64 0, .int .i64 0, .int .i64 0] (by kernel_rfl) (by kernel_rfl) (by kernel_rfl) HB67 (by kernel_rfl)⟩) (show resOk _ _ _ _ (.int .i64 ((numE s (numE s (p + 3) + 1) : Nat) : Int)) from ⟨by kernel_rfl, by kernel_rfl⟩) ?_
            rw [hps]
            exact ResR.fail HA
           intro h64
           refine WO.done (by kernel_rfl) ?_
           refine WQ.keep [2, 3, 4, 5, 200] (e' := [(2, .pointer (some ⟨g1, 0, none⟩)), (3, .int .i64 0), (4, .pointer (some ⟨g6, 0, none⟩)), (5, .int .i64 ((numE s (numE s (p + 3) + 1) : Nat) : Int)), (200, .bool false)]) (by kernel_rfl) ?_
           refine WQ.thenN ?_
           refine WE.condF (by kernel_rfl) ?_
           refine WE.skip ?_
           refine WQ.thenN ?_
           refine WE.seq ?_
           have hps := hps.trans (tp_2 (by omega))
           refine WE.region ?_
           refine WO.ldB (SQ.S 0 (by kernel_rfl)) 203 [.string (str (s.take (runE inW s 0))), .slice At acc.length ct, .int .i64 kv, .int .i64 v37, .int .i64 v55] g6 0 (by kernel_rfl) (by kernel_rfl) (same HB63) (by kernel_rfl) ?_
           refine WO.st (SQ.E 1 (by kernel_rfl)) g1 0 [.string (str (s.take (runE inW s 0))), .slice At acc.length ct, .int .i64 kv, .int .i64 v37, .int .i64 v55] #[.string (str (s.take (runE inW s 0))), .slice At acc.length ct, .int .i64 kv, .int .i64 v37, .int .i64 v55] (by kernel_rfl) HB4 (by kernel_rfl) (by kernel_rfl) (fun _ _ => trivial) ?_
           intro w68 HB70 F69 _
           have HB63 := Blk.keep HB63 F69 (ninC (Ne.symm ne_g1_g6) (nin0 _))
           have HO_FT := HO_FT.keep F69 (djB nin_g1_FT)
           have HA := Fr.step HA F69 (inSR ge_HA_g1 inS0)
           refine WO.run 1 2 [(3, .int .i64 (-1))] (by kernel_rfl) (by kernel_rfl) ?_
           refine WO.done (by kernel_rfl) ?_
           refine WQ.keep [2, 3] (e' := [(2, .pointer (some ⟨g1, 0, none⟩)), (3, .int .i64 (-1))]) (by kernel_rfl) ?_
           refine WQ.thenN ?_
           refine WE.ret ?_
           refine WQ.ret2 (fn := Tryd.f21) (show Tryd.f21.results = #[.cell 2 25, .tmp 3] by kernel_rfl) (show resOk _ _ _ _ (.agg #[.string (str (s.take (runE inW s 0))), .slice At acc.length ct, .int .i64 kv, .int .i64 v37, .int .i64 v55]) from ⟨by kernel_rfl, ⟨g1, 0, none⟩, by kernel_rfl, ldVarB [.string (str (s.take (runE inW s 0))), .slice At acc.length ct, .int .i64 kv, .int .i64 v37, .int .i64 v55] (by kernel_rfl) (by kernel_rfl) (by kernel_rfl) HB70 (by kernel_rfl)⟩) (show resOk _ _ _ _ (.int .i64 (-1)) from ⟨by kernel_rfl, by kernel_rfl⟩) ?_
           rw [hps]
           rw [hk1]
           exact ResR.ok (ev := ⟨part s 0, acc, kv, v37, v55⟩) rfl (own_cap HO_FT (List.length_map _)) (VX.of_own HO_FT) ge_HA_FT HA
         refine WE.seq ?_
         refine WE.region ?_
         refine WO.run 3 0 [(161, .int .i64 (s.length : Int)), (160, .string (str s)), (159, .int .i64 ((numE s (p + 3) + 1 : Nat) : Int))] (by kernel_rfl) (by kernel_rfl) ?_
         refine WO.one (SQ.F 3 (by kernel_rfl)) 162 (.bool (decide (((numE s (p + 3) + 1 : Int) : Int) < (s.length : Int)))) (by kernel_rfl) ?_
         refine WO.topP (((numE s (p + 3) + 1 : Int) : Int) < (s.length : Int)) ?_ ?_
         ·
          intro h71
          refine WO.run 3 4 [(165, .int .i64 ((numE s (p + 3) + 1 : Nat) : Int)), (164, .string (str s)), (163, .bool true)] (by kernel_rfl) (by kernel_rfl) ?_
          refine WO.ixS (i := ((numE s (p + 3) + 1 : Nat) : Int)) (SQ.F 7 (by kernel_rfl)) 166 (numE s (p + 3) + 1) s (by kernel_rfl) (by rfl) (by omega) ?_
          refine WO.one (SQ.F 8 (by kernel_rfl)) 167 (.bool (decide ((((gB s (numE s (p + 3) + 1)).toNat : Int) : Int) = (45 : Int)))) (by kernel_rfl) ?_
          refine WO.topP ((((gB s (numE s (p + 3) + 1)).toNat : Int) : Int) = (45 : Int)) ?_ ?_
          ·
           intro h72
           refine WO.run 1 9 [(168, .bool true)] (by kernel_rfl) (by kernel_rfl) ?_
           refine WO.done (by kernel_rfl) ?_
           refine WQ.keep [0, 2, 3, 4, 5, 11, 12, 13, 14, 15, 16, 17, 141, 153, 168, 175, 187, 191] (e' := [(0, .string (str s)), (2, .pointer (some ⟨g1, 0, none⟩)), (3, .int .i64 0), (4, .pointer (some ⟨g6, 0, none⟩)), (5, .int .i64 ((numE s (p + 3) : Nat) : Int)), (11, .int .i64 1), (12, .int .i64 ((numE s (p + 3) + 1 : Nat) : Int)), (13, .int .i64 ((numE s (p + 3) + 1 : Nat) : Int)), (14, .int .i64 (-9223372036854775808)), (15, .int .i64 9223372036854775807), (16, .int .i64 v37), (17, .bool true), (141, .bool true), (153, .bool false), (168, .bool true), (175, .bool true), (187, .bool false), (191, .bool true)]) (by kernel_rfl) ?_
           refine WQ.thenN ?_
           refine WE.condT (by kernel_rfl) ?_
           have hnB : numB s (numE s (p + 3) + 1) = numE s (p + 3) + 1 + 1 := if_pos ⟨by omega, by omega⟩
           refine WE.region ?_
           refine WO.run 1 0 [(169, .int .i64 ((numE s (p + 3) + 1 : Nat) : Int))] (by kernel_rfl) (by kernel_rfl) ?_
           refine WO.one (SQ.F 1 (by kernel_rfl)) 170 (.int .i64 (IntKind.i64.wrap (((numE s (p + 3) + 1 : Nat) : Int) + 1))) (by kernel_rfl) ?_
           refine WO.top (v' := .int .i64 (((numE s (p + 3) + 1) + 1 : Nat) : Int)) (wrap_i64 (by omega) (by omega)) ?_
           refine WO.run 1 2 [(13, .int .i64 (((numE s (p + 3) + 1) + 1 : Nat) : Int))] (by kernel_rfl) (by kernel_rfl) ?_
           refine WO.done (by kernel_rfl) ?_
           refine WQ.keep [0, 2, 3, 4, 5, 11, 12, 13, 14, 15, 16, 17, 141, 153, 168, 175, 187, 191] (e' := [(0, .string (str s)), (2, .pointer (some ⟨g1, 0, none⟩)), (3, .int .i64 0), (4, .pointer (some ⟨g6, 0, none⟩)), (5, .int .i64 ((numE s (p + 3) : Nat) : Int)), (11, .int .i64 1), (12, .int .i64 ((numE s (p + 3) + 1 : Nat) : Int)), (13, .int .i64 (((numE s (p + 3) + 1) + 1 : Nat) : Int)), (14, .int .i64 (-9223372036854775808)), (15, .int .i64 9223372036854775807), (16, .int .i64 v37), (17, .bool true), (141, .bool true), (153, .bool false), (168, .bool true), (175, .bool true), (187, .bool false), (191, .bool true)]) (by kernel_rfl) ?_
           have hnE : numE s (numE s (p + 3) + 1) = runE isD s (numE s (p + 3) + 1 + 1) := congrArg (runE isD s) hnB
           refine WQ.round ?_
           intro a_ ha_
           refine ⟨numE s (p + 3) + 1 + 1, ha_.keep [0, 2, 3, 4, 5, 11, 12, 13, 14, 15, 16, 17, 141, 153, 175, 187, 191] (by kernel_rfl), ?_⟩
           exact ⟨hnE, by omega, by omega, HB4, HB45, HO_FT, HA⟩
          intro h72
          refine WO.run 1 9 [(168, .bool false)] (by kernel_rfl) (by kernel_rfl) ?_
          refine WO.done (by kernel_rfl) ?_
          refine WQ.keep [0, 2, 3, 4, 5, 11, 12, 13, 14, 15, 16, 17, 141, 153, 168, 175, 187, 191] (e' := [(0, .string (str s)), (2, .pointer (some ⟨g1, 0, none⟩)), (3, .int .i64 0), (4, .pointer (some ⟨g6, 0, none⟩)), (5, .int .i64 ((numE s (p + 3) : Nat) : Int)), (11, .int .i64 1), (12, .int .i64 ((numE s (p + 3) + 1 : Nat) : Int)), (13, .int .i64 ((numE s (p + 3) + 1 : Nat) : Int)), (14, .int .i64 (-9223372036854775808)), (15, .int .i64 9223372036854775807), (16, .int .i64 v37), (17, .bool true), (141, .bool true), (153, .bool false), (168, .bool false), (175, .bool true), (187, .bool false), (191, .bool true)]) (by kernel_rfl) ?_
          refine WQ.thenN ?_
          refine WE.condF (by kernel_rfl) ?_
          refine WE.skip ?_
          have hnB : numB s (numE s (p + 3) + 1) = numE s (p + 3) + 1 := if_neg (fun h_ => by have a_ := h_.1; have b_ := h_.2; omega)
          have hnE : numE s (numE s (p + 3) + 1) = runE isD s (numE s (p + 3) + 1) := congrArg (runE isD s) hnB
          refine WQ.round ?_
          intro a_ ha_
          refine ⟨numE s (p + 3) + 1, ha_.keep [0, 2, 3, 4, 5, 11, 12, 13, 14, 15, 16, 17, 141, 153, 175, 187, 191] (by kernel_rfl), ?_⟩
          exact ⟨hnE, by omega, by omega, HB4, HB45, HO_FT, HA⟩
         intro h71
         refine WO.run 6 4 [(168, .bool false), (167, undef), (166, undef), (165, undef), (164, undef), (163, .bool false)] (by kernel_rfl) (by kernel_rfl) ?_
         refine WO.done (by kernel_rfl) ?_
         refine WQ.keep [0, 2, 3, 4, 5, 11, 12, 13, 14, 15, 16, 17, 141, 153, 168, 175, 187, 191] (e' := [(0, .string (str s)), (2, .pointer (some ⟨g1, 0, none⟩)), (3, .int .i64 0), (4, .pointer (some ⟨g6, 0, none⟩)), (5, .int .i64 ((numE s (p + 3) : Nat) : Int)), (11, .int .i64 1), (12, .int .i64 ((numE s (p + 3) + 1 : Nat) : Int)), (13, .int .i64 ((numE s (p + 3) + 1 : Nat) : Int)), (14, .int .i64 (-9223372036854775808)), (15, .int .i64 9223372036854775807), (16, .int .i64 v37), (17, .bool true), (141, .bool true), (153, .bool false), (168, .bool false), (175, .bool true), (187, .bool false), (191, .bool true)]) (by kernel_rfl) ?_
         refine WQ.thenN ?_
         refine WE.condF (by kernel_rfl) ?_
         refine WE.skip ?_
         have hnB : numB s (numE s (p + 3) + 1) = numE s (p + 3) + 1 := if_neg (fun h_ => by have a_ := h_.1; have b_ := h_.2; omega)
         have hnE : numE s (numE s (p + 3) + 1) = runE isD s (numE s (p + 3) + 1) := congrArg (runE isD s) hnB
         refine WQ.round ?_
         intro a_ ha_
         refine ⟨numE s (p + 3) + 1, ha_.keep [0, 2, 3, 4, 5, 11, 12, 13, 14, 15, 16, 17, 141, 153, 175, 187, 191] (by kernel_rfl), ?_⟩
         exact ⟨hnE, by omega, by omega, HB4, HB45, HO_FT, HA⟩
        intro h50
        refine WO.run 1 9 [(153, .bool true)] (by kernel_rfl) (by kernel_rfl) ?_
        refine WO.done (by kernel_rfl) ?_
        refine WQ.keep [0, 2, 3, 4, 5, 11, 12, 13, 14, 15, 16, 17, 141, 153, 175, 187, 191] (e' := [(0, .string (str s)), (2, .pointer (some ⟨g1, 0, none⟩)), (3, .int .i64 0), (4, .pointer (some ⟨g6, 0, none⟩)), (5, .int .i64 ((numE s (p + 3) : Nat) : Int)), (11, .int .i64 1), (12, .int .i64 ((p + 3 : Nat) : Int)), (13, .int .i64 ((numE s (p + 3) : Nat) : Int)), (14, .int .i64 (-9223372036854775808)), (15, .int .i64 9223372036854775807), (16, .int .i64 v37), (17, .bool true), (141, .bool true), (153, .bool true), (175, .bool true), (187, .bool false), (191, .bool true)]) (by kernel_rfl) ?_
        refine WQ.thenN ?_
        refine WE.condT (by kernel_rfl) ?_
        refine WE.seq ?_
        have hps : parseP s = .inr (numE s (p + 3)) := hps.trans (vp_1 (fun h_ => by have a_ := h_.1; have b_ := h_.2; omega))
        refine WE.region ?_
        refine WO.run 2 0 [(155, .int .i64 ((numE s (p + 3) : Nat) : Int)), (154, .agg #[.string (⟨#[]⟩), .slice none 0 0, .int .i64 0, .int .i64 0, .int .i64 0])] (by kernel_rfl) (by kernel_rfl) ?_
        refine WO.st (SQ.E 2 (by kernel_rfl)) g1 0 [.string (⟨#[]⟩), .slice none 0 0, .int .i64 0, .int .i64 0, .int .i64 0] #[.string (⟨#[]⟩), .slice none 0 0, .int .i64 0, .int .i64 0, .int .i64 0] (by kernel_rfl) HB4 (by kernel_rfl) (by kernel_rfl) (fun _ _ => trivial) ?_
        intro w73 HB75 F74 _
        have HB45 := Blk.keep HB45 F74 (ninC (Ne.symm ne_g1_g6) (nin0 _))
        have HO_FT := HO_FT.keep F74 (djB nin_g1_FT)
        have HA := Fr.step HA F74 (inSR ge_HA_g1 inS0)
        refine WO.run 1 3 [(3, .int .i64 ((numE s (p + 3) : Nat) : Int))] (by kernel_rfl) (by kernel_rfl) ?_
        refine WO.done (by kernel_rfl) ?_
        refine WQ.keep [0, 2, 3, 4, 5, 11, 12, 13, 14, 15, 16, 17, 141, 153, 175, 187, 191] (e' := [(0, .string (str s)), (2, .pointer (some ⟨g1, 0, none⟩)), (3, .int .i64 ((numE s (p + 3) : Nat) : Int)), (4, .pointer (some ⟨g6, 0, none⟩)), (5, .int .i64 ((numE s (p + 3) : Nat) : Int)), (11, .int .i64 1), (12, .int .i64 ((p + 3 : Nat) : Int)), (13, .int .i64 ((numE s (p + 3) : Nat) : Int)), (14, .int .i64 (-9223372036854775808)), (15, .int .i64 9223372036854775807), (16, .int .i64 v37), (17, .bool true), (141, .bool true), (153, .bool true), (175, .bool true), (187, .bool false), (191, .bool true)]) (by kernel_rfl) ?_
        refine WQ.thenN ?_
        refine WE.ret ?_
        refine WQ.thenR ?_
        refine WQ.blkR ?_
        refine WQ.thenR ?_
        refine WQ.thenR ?_
        refine WQ.blkR ?_
        refine WQ.thenR ?_
        refine WQ.ret2 (fn := Tryd.f21) (show Tryd.f21.results = #[.cell 2 25, .tmp 3] by kernel_rfl) (show resOk _ _ _ _ (.agg #[.string (⟨#[]⟩), .slice none 0 0, .int .i64 0, .int .i64 0, .int .i64 0]) from ⟨by kernel_rfl, ⟨g1, 0, none⟩, by kernel_rfl, ldVarB [.string (⟨#[]⟩), .slice none 0 0, .int .i64 0, .int .i64 0, .int .i64 0] (by kernel_rfl) (by kernel_rfl) (by kernel_rfl) HB75 (by kernel_rfl)⟩) (show resOk _ _ _ _ (.int .i64 ((numE s (p + 3) : Nat) : Int)) from ⟨by kernel_rfl, by kernel_rfl⟩) ?_
        rw [hps]
        exact ResR.fail HA
      refine WE.seq ?_
      refine WE.region ?_
      refine WO.run 3 0 [(161, .int .i64 (s.length : Int)), (160, .string (str s)), (159, .int .i64 ((p + 3 : Nat) : Int))] (by kernel_rfl) (by kernel_rfl) ?_
      refine WO.one (SQ.F 3 (by kernel_rfl)) 162 (.bool (decide (((p + 3 : Int) : Int) < (s.length : Int)))) (by kernel_rfl) ?_
      refine WO.topP (((p + 3 : Int) : Int) < (s.length : Int)) ?_ ?_
      ·
       intro h76
       refine WO.run 3 4 [(165, .int .i64 ((p + 3 : Nat) : Int)), (164, .string (str s)), (163, .bool true)] (by kernel_rfl) (by kernel_rfl) ?_
       refine WO.ixS (i := ((p + 3 : Nat) : Int)) (SQ.F 7 (by kernel_rfl)) 166 (p + 3) s (by kernel_rfl) (by rfl) (by omega) ?_
       refine WO.one (SQ.F 8 (by kernel_rfl)) 167 (.bool (decide ((((gB s (p + 3)).toNat : Int) : Int) = (45 : Int)))) (by kernel_rfl) ?_
       refine WO.topP ((((gB s (p + 3)).toNat : Int) : Int) = (45 : Int)) ?_ ?_
       ·
        intro h77
        refine WO.run 1 9 [(168, .bool true)] (by kernel_rfl) (by kernel_rfl) ?_
        refine WO.done (by kernel_rfl) ?_
        refine WQ.keep [0, 2, 3, 4, 5, 11, 12, 13, 141, 153, 168] (e' := [(0, .string (str s)), (2, .pointer (some ⟨g1, 0, none⟩)), (3, .int .i64 0), (4, .pointer (some ⟨g6, 0, none⟩)), (5, .int .i64 ((p + 2 : Nat) : Int)), (11, .int .i64 0), (12, .int .i64 ((p + 3 : Nat) : Int)), (13, .int .i64 ((p + 3 : Nat) : Int)), (141, .bool true), (153, .bool false), (168, .bool true)]) (by kernel_rfl) ?_
        refine WQ.thenN ?_
        refine WE.condT (by kernel_rfl) ?_
        have hnB : numB s (p + 3) = p + 3 + 1 := if_pos ⟨by omega, by omega⟩
        refine WE.region ?_
        refine WO.run 1 0 [(169, .int .i64 ((p + 3 : Nat) : Int))] (by kernel_rfl) (by kernel_rfl) ?_
        refine WO.one (SQ.F 1 (by kernel_rfl)) 170 (.int .i64 (IntKind.i64.wrap (((p + 3 : Nat) : Int) + 1))) (by kernel_rfl) ?_
        refine WO.top (v' := .int .i64 (((p + 3) + 1 : Nat) : Int)) (wrap_i64 (by omega) (by omega)) ?_
        refine WO.run 1 2 [(13, .int .i64 (((p + 3) + 1 : Nat) : Int))] (by kernel_rfl) (by kernel_rfl) ?_
        refine WO.done (by kernel_rfl) ?_
        refine WQ.keep [0, 2, 3, 4, 5, 11, 12, 13, 141, 153, 168] (e' := [(0, .string (str s)), (2, .pointer (some ⟨g1, 0, none⟩)), (3, .int .i64 0), (4, .pointer (some ⟨g6, 0, none⟩)), (5, .int .i64 ((p + 2 : Nat) : Int)), (11, .int .i64 0), (12, .int .i64 ((p + 3 : Nat) : Int)), (13, .int .i64 (((p + 3) + 1 : Nat) : Int)), (141, .bool true), (153, .bool false), (168, .bool true)]) (by kernel_rfl) ?_
        have hnE : numE s (p + 3) = runE isD s (p + 3 + 1) := congrArg (runE isD s) hnB
        refine WQ.round ?_
        intro a_ ha_
        refine ⟨p + 3 + 1, ha_.keep [0, 2, 3, 4, 5, 11, 12, 13, 141, 153] (by kernel_rfl), ?_⟩
        exact ⟨hnE, by omega, by omega, HB4, HB18, HO_FT, HA⟩
       intro h77
       refine WO.run 1 9 [(168, .bool false)] (by kernel_rfl) (by kernel_rfl) ?_
       refine WO.done (by kernel_rfl) ?_
       refine WQ.keep [0, 2, 3, 4, 5, 11, 12, 13, 141, 153, 168] (e' := [(0, .string (str s)), (2, .pointer (some ⟨g1, 0, none⟩)), (3, .int .i64 0), (4, .pointer (some ⟨g6, 0, none⟩)), (5, .int .i64 ((p + 2 : Nat) : Int)), (11, .int .i64 0), (12, .int .i64 ((p + 3 : Nat) : Int)), (13, .int .i64 ((p + 3 : Nat) : Int)), (141, .bool true), (153, .bool false), (168, .bool false)]) (by kernel_rfl) ?_
       refine WQ.thenN ?_
       refine WE.condF (by kernel_rfl) ?_
       refine WE.skip ?_
       have hnB : numB s (p + 3) = p + 3 := if_neg (fun h_ => by have a_ := h_.1; have b_ := h_.2; omega)
       have hnE : numE s (p + 3) = runE isD s (p + 3) := congrArg (runE isD s) hnB
       refine WQ.round ?_
       intro a_ ha_
       refine ⟨p + 3, ha_.keep [0, 2, 3, 4, 5, 11, 12, 13, 141, 153] (by kernel_rfl), ?_⟩
       exact ⟨hnE, by omega, by omega, HB4, HB18, HO_FT, HA⟩
      intro h76
      refine WO.run 6 4 [(168, .bool false), (167, undef), (166, undef), (165, undef), (164, undef), (163, .bool false)] (by kernel_rfl) (by kernel_rfl) ?_
      refine WO.done (by kernel_rfl) ?_
      refine WQ.keep [0, 2, 3, 4, 5, 11, 12, 13, 141, 153, 168] (e' := [(0, .string (str s)), (2, .pointer (some ⟨g1, 0, none⟩)), (3, .int .i64 0), (4, .pointer (some ⟨g6, 0, none⟩)), (5, .int .i64 ((p + 2 : Nat) : Int)), (11, .int .i64 0), (12, .int .i64 ((p + 3 : Nat) : Int)), (13, .int .i64 ((p + 3 : Nat) : Int)), (141, .bool true), (153, .bool false), (168, .bool false)]) (by kernel_rfl) ?_
      refine WQ.thenN ?_
      refine WE.condF (by kernel_rfl) ?_
      refine WE.skip ?_
      have hnB : numB s (p + 3) = p + 3 := if_neg (fun h_ => by have a_ := h_.1; have b_ := h_.2; omega)
      have hnE : numE s (p + 3) = runE isD s (p + 3) := congrArg (runE isD s) hnB
      refine WQ.round ?_
      intro a_ ha_
      refine ⟨p + 3, ha_.keep [0, 2, 3, 4, 5, 11, 12, 13, 141, 153] (by kernel_rfl), ?_⟩
      exact ⟨hnE, by omega, by omega, HB4, HB18, HO_FT, HA⟩
     intro h32
     refine WO.run 1 9 [(153, .bool true)] (by kernel_rfl) (by kernel_rfl) ?_
     refine WO.done (by kernel_rfl) ?_
     refine WQ.keep [0, 2, 3, 4, 5, 11, 141, 153] (e' := [(0, .string (str s)), (2, .pointer (some ⟨g1, 0, none⟩)), (3, .int .i64 0), (4, .pointer (some ⟨g6, 0, none⟩)), (5, .int .i64 ((p + 2 : Nat) : Int)), (11, .int .i64 0), (141, .bool true), (153, .bool true)]) (by kernel_rfl) ?_
     refine WQ.thenN ?_
     refine WE.condT (by kernel_rfl) ?_
     refine WE.seq ?_
     have hps : parseP s = .inr (p + 2) := hps.trans (rp_4 hA32 hl1 hk0 (fun h_ => by have a_ := h_.1; have b_ := h_.2; omega))
     refine WE.region ?_
     refine WO.run 2 0 [(155, .int .i64 ((p + 2 : Nat) : Int)), (154, .agg #[.string (⟨#[]⟩), .slice none 0 0, .int .i64 0, .int .i64 0, .int .i64 0])] (by kernel_rfl) (by kernel_rfl) ?_
     refine WO.st (SQ.E 2 (by kernel_rfl)) g1 0 [.string (⟨#[]⟩), .slice none 0 0, .int .i64 0, .int .i64 0, .int .i64 0] #[.string (⟨#[]⟩), .slice none 0 0, .int .i64 0, .int .i64 0, .int .i64 0] (by kernel_rfl) HB4 (by kernel_rfl) (by kernel_rfl) (fun _ _ => trivial) ?_
     intro w78 HB80 F79 _
     have HB18 := Blk.keep HB18 F79 (ninC (Ne.symm ne_g1_g6) (nin0 _))
     have HO_FT := HO_FT.keep F79 (djB nin_g1_FT)
     have HA := Fr.step HA F79 (inSR ge_HA_g1 inS0)
     refine WO.run 1 3 [(3, .int .i64 ((p + 2 : Nat) : Int))] (by kernel_rfl) (by kernel_rfl) ?_
     refine WO.done (by kernel_rfl) ?_
     refine WQ.keep [0, 2, 3, 4, 5, 11, 141, 153] (e' := [(0, .string (str s)), (2, .pointer (some ⟨g1, 0, none⟩)), (3, .int .i64 ((p + 2 : Nat) : Int)), (4, .pointer (some ⟨g6, 0, none⟩)), (5, .int .i64 ((p + 2 : Nat) : Int)), (11, .int .i64 0), (141, .bool true), (153, .bool true)]) (by kernel_rfl) ?_
     refine WQ.thenN ?_
     refine WE.ret ?_
     refine WQ.thenR ?_
     refine WQ.blkR ?_
     refine WQ.thenR ?_
     refine WQ.thenR ?_
     refine WQ.blkR ?_
     refine WQ.thenR ?_
     refine WQ.ret2 (fn := Tryd.f21) (show Tryd.f21.results = #[.cell 2 25, .tmp 3] by kernel_rfl) (show resOk _ _ _ _ (.agg #[.string (⟨#[]⟩), .slice none 0 0, .int .i64 0, .int .i64 0, .int .i64 0]) from ⟨by kernel_rfl, ⟨g1, 0, none⟩, by kernel_rfl, ldVarB [.string (⟨#[]⟩), .slice none 0 0, .int .i64 0, .int .i64 0, .int .i64 0] (by kernel_rfl) (by kernel_rfl) (by kernel_rfl) HB80 (by kernel_rfl)⟩) (show resOk _ _ _ _ (.int .i64 ((p + 2 : Nat) : Int)) from ⟨by kernel_rfl, by kernel_rfl⟩) ?_
     rw [hps]
     exact ResR.fail HA
    refine WE.seq ?_
    have hl1 : ¬ s.length ≤ p + 1 := by omega
    refine WE.region ?_
    refine WO.run 2 0 [(125, .int .i64 ((p + 1 : Nat) : Int)), (124, .string (str s))] (by kernel_rfl) (by kernel_rfl) ?_
    refine WO.ixS (i := ((p + 1 : Nat) : Int)) (SQ.F 2 (by kernel_rfl)) 126 (p + 1) s (by kernel_rfl) (by rfl) (by omega) ?_
    refine WO.done (by kernel_rfl) ?_
    refine WQ.keep [0, 2, 3, 4, 5, 126] (e' := [(0, .string (str s)), (2, .pointer (some ⟨g1, 0, none⟩)), (3, .int .i64 0), (4, .pointer (some ⟨g6, 0, none⟩)), (5, .int .i64 ((p + 1 : Nat) : Int)), (126, .int .u8 ((gB s (p + 1)).toNat : Int))]) (by kernel_rfl) ?_
    refine WQ.thenN ?_
    refine WE.block ?_
    refine WE.seq ?_
    refine WE.region ?_
    refine WO.one (SQ.F 0 (by kernel_rfl)) 130 (.bool (decide ((((gB s (p + 1)).toNat : Int) : Int) = (99 : Int)))) (by kernel_rfl) ?_
    refine WO.topP ((((gB s (p + 1)).toNat : Int) : Int) = (99 : Int)) ?_ ?_
    ·
     intro h81
     refine WO.run 1 1 [(129, .bool true)] (by kernel_rfl) (by kernel_rfl) ?_
     refine WO.done (by kernel_rfl) ?_
     refine WQ.keep [0, 2, 3, 4, 5, 126, 129] (e' := [(0, .string (str s)), (2, .pointer (some ⟨g1, 0, none⟩)), (3, .int .i64 0), (4, .pointer (some ⟨g6, 0, none⟩)), (5, .int .i64 ((p + 1 : Nat) : Int)), (126, .int .u8 ((gB s (p + 1)).toNat : Int)), (129, .bool true)]) (by kernel_rfl) ?_
     refine WQ.thenN ?_
     refine WE.condT (by kernel_rfl) ?_
     have hk1 : kindP (gB s (p + 1)) = 1 := kind_99 (by omega)
     have hk0 : kindP (gB s (p + 1)) ≠ 0 := by omega
     refine WE.region ?_
     refine WO.run 1 0 [(131, .pointer (some ⟨g6, 2, none⟩))] (by kernel_rfl) (by kernel_rfl) ?_
     refine WO.st (SQ.E 1 (by kernel_rfl)) g6 2 [.int .i64 1] #[.string (str (s.take (runE inW s 0))), .slice At acc.length ct, .int .i64 1, .int .i64 0, .int .i64 0] (by kernel_rfl) HB18 (by kernel_rfl) (by kernel_rfl) (fun _ _ => trivial) ?_
     intro w82 HB84 F83 _
     have HB4 := Blk.keep HB4 F83 (ninC ne_g1_g6 (nin0 _))
     have HO_FT := HO_FT.keep F83 (djB nin_g6_FT)
     have HA := Fr.step HA F83 (inSR ge_HA_g6 inS0)
     refine WO.done (by kernel_rfl) ?_
     refine WQ.keep [0, 2, 3, 4, 5] (e' := [(0, .string (str s)), (2, .pointer (some ⟨g1, 0, none⟩)), (3, .int .i64 0), (4, .pointer (some ⟨g6, 0, none⟩)), (5, .int .i64 ((p + 1 : Nat) : Int))]) (by kernel_rfl) ?_
     refine WQ.blkN ?_
     refine WQ.round ?_
     intro a_ ha_
     refine ⟨1, ha_.keep [0, 2, 3, 4, 5] (by kernel_rfl), ?_⟩
     exact ⟨hk1, hk0, hl1, HB4, HB84, HO_FT, HA⟩
    intro h81
    refine WO.run 1 1 [(129, .bool false)] (by kernel_rfl) (by kernel_rfl) ?_
    refine WO.done (by kernel_rfl) ?_
    refine WQ.keep [0, 2, 3, 4, 5, 126, 129] (e' := [(0, .string (str s)), (2, .pointer (some ⟨g1, 0, none⟩)), (3, .int .i64 0), (4, .pointer (some ⟨g6, 0, none⟩)), (5, .int .i64 ((p + 1 : Nat) : Int)), (126, .int .u8 ((gB s (p + 1)).toNat : Int)), (129, .bool false)]) (by kernel_rfl) ?_
    refine WQ.thenN ?_
    refine WE.condF (by kernel_rfl) ?_
    refine WE.seq ?_
    refine WE.region ?_
    refine WO.one (SQ.F 0 (by kernel_rfl)) 133 (.bool (decide ((((gB s (p + 1)).toNat : Int) : Int) = (103 : Int)))) (by kernel_rfl) ?_
    refine WO.topP ((((gB s (p + 1)).toNat : Int) : Int) = (103 : Int)) ?_ ?_
    ·
     intro h85
     refine WO.run 1 1 [(132, .bool true)] (by kernel_rfl) (by kernel_rfl) ?_
     refine WO.done (by kernel_rfl) ?_
     refine WQ.keep [0, 2, 3, 4, 5, 126, 132] (e' := [(0, .string (str s)), (2, .pointer (some ⟨g1, 0, none⟩)), (3, .int .i64 0), (4, .pointer (some ⟨g6, 0, none⟩)), (5, .int .i64 ((p + 1 : Nat) : Int)), (126, .int .u8 ((gB s (p + 1)).toNat : Int)), (132, .bool true)]) (by kernel_rfl) ?_
     refine WQ.thenN ?_
     refine WE.condT (by kernel_rfl) ?_
     have hk1 : kindP (gB s (p + 1)) = 2 := kind_103 (by omega)
     have hk0 : kindP (gB s (p + 1)) ≠ 0 := by omega
     refine WE.region ?_
     refine WO.run 1 0 [(134, .pointer (some ⟨g6, 2, none⟩))] (by kernel_rfl) (by kernel_rfl) ?_
     refine WO.st (SQ.E 1 (by kernel_rfl)) g6 2 [.int .i64 2] #[.string (str (s.take (runE inW s 0))), .slice At acc.length ct, .int .i64 2, .int .i64 0, .int .i64 0] (by kernel_rfl) HB18 (by kernel_rfl) (by kernel_rfl) (fun _ _ => trivial) ?_
     intro w86 HB88 F87 _
     have HB4 := Blk.keep HB4 F87 (ninC ne_g1_g6 (nin0 _))
     have HO_FT := HO_FT.keep F87 (djB nin_g6_FT)
     have HA := Fr.step HA F87 (inSR ge_HA_g6 inS0)
     refine WO.done (by kernel_rfl) ?_
     refine WQ.keep [0, 2, 3, 4, 5] (e' := [(0, .string (str s)), (2, .pointer (some ⟨g1, 0, none⟩)), (3, .int .i64 0), (4, .pointer (some ⟨g6, 0, none⟩)), (5, .int .i64 ((p + 1 : Nat) : Int))]) (by kernel_rfl) ?_
     refine WQ.blkN ?_
     refine WQ.round ?_
     intro a_ ha_
     refine ⟨2, ha_.keep [0, 2, 3, 4, 5] (by kernel_rfl), ?_⟩
     exact ⟨hk1, hk0, hl1, HB4, HB88, HO_FT, HA⟩
    intro h85
    refine WO.run 1 1 [(132, .bool false)] (by kernel_rfl) (by kernel_rfl) ?_
    refine WO.done (by kernel_rfl) ?_
    refine WQ.keep [0, 2, 3, 4, 5, 126, 132] (e' := [(0, .string (str s)), (2, .pointer (some ⟨g1, 0, none⟩)), (3, .int .i64 0), (4, .pointer (some ⟨g6, 0, none⟩)), (5, .int .i64 ((p + 1 : Nat) : Int)), (126, .int .u8 ((gB s (p + 1)).toNat : Int)), (132, .bool false)]) (by kernel_rfl) ?_
    refine WQ.thenN ?_
    refine WE.condF (by kernel_rfl) ?_
    refine WE.seq ?_
    refine WE.region ?_
    refine WO.one (SQ.F 0 (by kernel_rfl)) 136 (.bool (decide ((((gB s (p + 1)).toNat : Int) : Int) = (104 : Int)))) (by kernel_rfl) ?_
    refine WO.topP ((((gB s (p + 1)).toNat : Int) : Int) = (104 : Int)) ?_ ?_
    ·
     intro h89
     refine WO.run 1 1 [(135, .bool true)] (by kernel_rfl) (by kernel_rfl) ?_
     refine WO.done (by kernel_rfl) ?_
     refine WQ.keep [0, 2, 3, 4, 5, 135] (e' := [(0, .string (str s)), (2, .pointer (some ⟨g1, 0, none⟩)), (3, .int .i64 0), (4, .pointer (some ⟨g6, 0, none⟩)), (5, .int .i64 ((p + 1 : Nat) : Int)), (135, .bool true)]) (by kernel_rfl) ?_
     refine WQ.thenN ?_
     refine WE.condT (by kernel_rfl) ?_
     have hk1 : kindP (gB s (p + 1)) = 3 := kind_104 (by omega)
     have hk0 : kindP (gB s (p + 1)) ≠ 0 := by omega
     refine WE.region ?_
     refine WO.run 1 0 [(137, .pointer (some ⟨g6, 2, none⟩))] (by kernel_rfl) (by kernel_rfl) ?_
     refine WO.st (SQ.E 1 (by kernel_rfl)) g6 2 [.int .i64 3] #[.string (str (s.take (runE inW s 0))), .slice At acc.length ct, .int .i64 3, .int .i64 0, .int .i64 0] (by kernel_rfl) HB18 (by kernel_rfl) (by kernel_rfl) (fun _ _ => trivial) ?_
     intro w90 HB92 F91 _
     have HB4 := Blk.keep HB4 F91 (ninC ne_g1_g6 (nin0 _))
     have HO_FT := HO_FT.keep F91 (djB nin_g6_FT)
     have HA := Fr.step HA F91 (inSR ge_HA_g6 inS0)
     refine WO.done (by kernel_rfl) ?_
     refine WQ.keep [0, 2, 3, 4, 5] (e' := [(0, .string (str s)), (2, .pointer (some ⟨g1, 0, none⟩)), (3, .int .i64 0), (4, .pointer (some ⟨g6, 0, none⟩)), (5, .int .i64 ((p + 1 : Nat) : Int))]) (by kernel_rfl) ?_
     refine WQ.blkN ?_
     refine WQ.round ?_
     intro a_ ha_
     refine ⟨3, ha_.keep [0, 2, 3, 4, 5] (by kernel_rfl), ?_⟩
     exact ⟨hk1, hk0, hl1, HB4, HB92, HO_FT, HA⟩
    intro h89
    refine WO.run 1 1 [(135, .bool false)] (by kernel_rfl) (by kernel_rfl) ?_
    refine WO.done (by kernel_rfl) ?_
    refine WQ.keep [0, 2, 3, 4, 5, 135] (e' := [(0, .string (str s)), (2, .pointer (some ⟨g1, 0, none⟩)), (3, .int .i64 0), (4, .pointer (some ⟨g6, 0, none⟩)), (5, .int .i64 ((p + 1 : Nat) : Int)), (135, .bool false)]) (by kernel_rfl) ?_
    refine WQ.thenN ?_
    refine WE.condF (by kernel_rfl) ?_
    refine WE.seq ?_
    have hps : parseP s = .inr (p + 1) := hps.trans (rp_3 hA32 hl1 (kind_0 (by omega) (by omega) (by omega)))
    refine WE.region ?_
    refine WO.run 2 0 [(128, .int .i64 ((p + 1 : Nat) : Int)), (127, .agg #[.string (⟨#[]⟩), .slice none 0 0, .int .i64 0, .int .i64 0, .int .i64 0])] (by kernel_rfl) (by kernel_rfl) ?_
    refine WO.st (SQ.E 2 (by kernel_rfl)) g1 0 [.string (⟨#[]⟩), .slice none 0 0, .int .i64 0, .int .i64 0, .int .i64 0] #[.string (⟨#[]⟩), .slice none 0 0, .int .i64 0, .int .i64 0, .int .i64 0] (by kernel_rfl) HB4 (by kernel_rfl) (by kernel_rfl) (fun _ _ => trivial) ?_
    intro w93 HB95 F94 _
    have HB18 := Blk.keep HB18 F94 (ninC (Ne.symm ne_g1_g6) (nin0 _))
    have HO_FT := HO_FT.keep F94 (djB nin_g1_FT)
    have HA := Fr.step HA F94 (inSR ge_HA_g1 inS0)
    refine WO.run 1 3 [(3, .int .i64 ((p + 1 : Nat) : Int))] (by kernel_rfl) (by kernel_rfl) ?_
    refine WO.done (by kernel_rfl) ?_
    refine WQ.keep [0, 2, 3, 4, 5] (e' := [(0, .string (str s)), (2, .pointer (some ⟨g1, 0, none⟩)), (3, .int .i64 ((p + 1 : Nat) : Int)), (4, .pointer (some ⟨g6, 0, none⟩)), (5, .int .i64 ((p + 1 : Nat) : Int))]) (by kernel_rfl) ?_
    refine WQ.thenN ?_
    refine WE.ret ?_
    refine WQ.blkR ?_
    refine WQ.thenR ?_
    refine WQ.ret2 (fn := Tryd.f21) (show Tryd.f21.results = #[.cell 2 25, .tmp 3] by kernel_rfl) (show resOk _ _ _ _ (.agg #[.string (⟨#[]⟩), .slice none 0 0, .int .i64 0, .int .i64 0, .int .i64 0]) from ⟨by kernel_rfl, ⟨g1, 0, none⟩, by kernel_rfl, ldVarB [.string (⟨#[]⟩), .slice none 0 0, .int .i64 0, .int .i64 0, .int .i64 0] (by kernel_rfl) (by kernel_rfl) (by kernel_rfl) HB95 (by kernel_rfl)⟩) (show resOk _ _ _ _ (.int .i64 ((p + 1 : Nat) : Int)) from ⟨by kernel_rfl, by kernel_rfl⟩) ?_
    rw [hps]
    exact ResR.fail HA
   intro h23
   refine WO.run 1 9 [(113, .bool true)] (by kernel_rfl) (by kernel_rfl) ?_
   refine WO.done (by kernel_rfl) ?_
   refine WQ.keep [0, 2, 3, 4, 5, 113] (e' := [(0, .string (str s)), (2, .pointer (some ⟨g1, 0, none⟩)), (3, .int .i64 0), (4, .pointer (some ⟨g6, 0, none⟩)), (5, .int .i64 (p : Int)), (113, .bool true)]) (by kernel_rfl) ?_
   refine WQ.thenN ?_
   refine WE.condT (by kernel_rfl) ?_
   refine WE.seq ?_
   have hps : parseP s = .inr p := hps.trans (rp_1 (fun h_ => by have a_ := h_.1; have b_ := h_.2; omega))
   refine WE.region ?_
   refine WO.run 2 0 [(115, .int .i64 (p : Int)), (114, .agg #[.string (⟨#[]⟩), .slice none 0 0, .int .i64 0, .int .i64 0, .int .i64 0])] (by kernel_rfl) (by kernel_rfl) ?_
   refine WO.st (SQ.E 2 (by kernel_rfl)) g1 0 [.string (⟨#[]⟩), .slice none 0 0, .int .i64 0, .int .i64 0, .int .i64 0] #[.string (⟨#[]⟩), .slice none 0 0, .int .i64 0, .int .i64 0, .int .i64 0] (by kernel_rfl) HB4 (by kernel_rfl) (by kernel_rfl) (fun _ _ => trivial) ?_
   intro w96 HB98 F97 _
   have HB18 := Blk.keep HB18 F97 (ninC (Ne.symm ne_g1_g6) (nin0 _))
   have HO_FT := HO_FT.keep F97 (djB nin_g1_FT)
   have HA := Fr.step HA F97 (inSR ge_HA_g1 inS0)
   refine WO.run 1 3 [(3, .int .i64 (p : Int))] (by kernel_rfl) (by kernel_rfl) ?_
   refine WO.done (by kernel_rfl) ?_
   refine WQ.keep [0, 2, 3, 4, 5] (e' := [(0, .string (str s)), (2, .pointer (some ⟨g1, 0, none⟩)), (3, .int .i64 (p : Int)), (4, .pointer (some ⟨g6, 0, none⟩)), (5, .int .i64 (p : Int))]) (by kernel_rfl) ?_
   refine WQ.thenN ?_
   refine WE.ret ?_
   refine WQ.thenR ?_
   refine WQ.ret2 (fn := Tryd.f21) (show Tryd.f21.results = #[.cell 2 25, .tmp 3] by kernel_rfl) (show resOk _ _ _ _ (.agg #[.string (⟨#[]⟩), .slice none 0 0, .int .i64 0, .int .i64 0, .int .i64 0]) from ⟨by kernel_rfl, ⟨g1, 0, none⟩, by kernel_rfl, ldVarB [.string (⟨#[]⟩), .slice none 0 0, .int .i64 0, .int .i64 0, .int .i64 0] (by kernel_rfl) (by kernel_rfl) (by kernel_rfl) HB98 (by kernel_rfl)⟩) (show resOk _ _ _ _ (.int .i64 (p : Int)) from ⟨by kernel_rfl, by kernel_rfl⟩) ?_
   rw [hps]
   exact ResR.fail HA
  refine WE.block ?_
  refine WE.loop (α := Nat × Nat × List Nat × Option Addr × Nat × (List (L × L))) (E := fun ⟨k, p, FT, At, ct, acc⟩ => [(0, .string (str s)), (2, .pointer (some ⟨g1, 0, none⟩)), (3, .int .i64 0), (4, .pointer (some ⟨g6, 0, none⟩)), (5, .int .i64 (p : Int))]) (I := fun ⟨k, p, FT, At, ct, acc⟩ wr => parseP s = afterP s (tagsP s k p acc) ∧ acc.length + k = 6 ∧ p ≤ s.length ∧ Blk wr g1 #[.string (⟨#[]⟩), .slice none 0 0, .int .i64 0, .int .i64 0, .int .i64 0] 25 ∧ Blk wr g6 #[.string (str (s.take (runE inW s 0))), .slice At acc.length ct, .int .i64 0, .int .i64 0, .int .i64 0] 25 ∧ OwnX 53 2 wr FT (.slice At acc.length ct) (List.map cT acc) ∧ g1 ∉ FT ∧ g6 ∉ FT ∧ (∀ y ∈ FT, (World.heap w).size ≤ y) ∧ Fr [] w wr) (m := fun ⟨k, p, FT, At, ct, acc⟩ => k) (6, runE inW s 0, [], none, 0, []) [0, 2, 3, 4, 5] (by kernel_rfl) ?_ ?_
  ·
   exact ⟨hps, rfl, by omega, HB4, HB18, OwnX.nil _ _ _, (by simp), (by simp), (by simp), HA⟩
  rintro ⟨k, p, FT, At, ct, acc⟩ wr ⟨hps, hk, hp, HB4, HB18, HO_FT, nin_g1_FT, nin_g6_FT, ge_HA_FT, HA⟩
  refine WE.seq ?_
  refine WE.seq ?_
  refine WE.region ?_
  refine WO.run 3 0 [(33, .int .i64 (s.length : Int)), (32, .string (str s)), (31, .int .i64 (p : Int))] (by kernel_rfl) (by kernel_rfl) ?_
  refine WO.one (SQ.F 3 (by kernel_rfl)) 34 (.bool (decide (((p : Int) : Int) < (s.length : Int)))) (by kernel_rfl) ?_
  refine WO.topP (((p : Int) : Int) < (s.length : Int)) ?_ ?_
  ·
   intro h99
   refine WO.run 3 4 [(37, .int .i64 (p : Int)), (36, .string (str s)), (35, .bool true)] (by kernel_rfl) (by kernel_rfl) ?_
   refine WO.ixS (i := (p : Int)) (SQ.F 7 (by kernel_rfl)) 38 p s (by kernel_rfl) (by rfl) (by omega) ?_
   refine WO.one (SQ.F 8 (by kernel_rfl)) 39 (.bool (decide ((((gB s p).toNat : Int) : Int) = (44 : Int)))) (by kernel_rfl) ?_
   refine WO.topP ((((gB s p).toNat : Int) : Int) = (44 : Int)) ?_ ?_
   ·
    intro h100
    refine WO.run 1 9 [(40, .bool true)] (by kernel_rfl) (by kernel_rfl) ?_
    refine WO.done (by kernel_rfl) ?_
    refine WQ.keep [0, 2, 3, 4, 5, 40] (e' := [(0, .string (str s)), (2, .pointer (some ⟨g1, 0, none⟩)), (3, .int .i64 0), (4, .pointer (some ⟨g6, 0, none⟩)), (5, .int .i64 (p : Int)), (40, .bool true)]) (by kernel_rfl) ?_
    refine WQ.thenN ?_
    refine WE.condT (by kernel_rfl) ?_
    refine WE.skip ?_
    refine WQ.thenN ?_
    refine WE.block ?_
    refine WE.seq ?_
    refine WE.seq ?_
    have hA44 : isAt s p 44 := ⟨by omega, by omega⟩
    refine WE.region ?_
    refine WO.run 1 0 [(41, .pointer (some ⟨g6, 1, none⟩))] (by kernel_rfl) (by kernel_rfl) ?_
    refine WO.ld (SQ.S 1 (by kernel_rfl)) 42 (.slice At acc.length ct) (by kernel_rfl) (same (HB18.at 1 (by kernel_rfl))) ?_
    refine WO.run 1 2 [(43, .int .i64 (acc.length : Int))] (by kernel_rfl) (by kernel_rfl) ?_
    refine WO.one (SQ.F 3 (by kernel_rfl)) 44 (.bool (decide (((acc.length : Int) : Int) = (6 : Int)))) (by kernel_rfl) ?_
    refine WO.topP (((acc.length : Int) : Int) = (6 : Int)) ?_ ?_
    ·
     intro h101
     refine WO.done (by kernel_rfl) ?_
     refine WQ.keep [0, 2, 3, 4, 5, 44] (e' := [(0, .string (str s)), (2, .pointer (some ⟨g1, 0, none⟩)), (3, .int .i64 0), (4, .pointer (some ⟨g6, 0, none⟩)), (5, .int .i64 (p : Int)), (44, .bool true)]) (by kernel_rfl) ?_
     refine WQ.thenN ?_
     refine WE.condT (by kernel_rfl) ?_
     refine WE.seq ?_
     obtain rfl : k = 0 := by omega
     have hps : parseP s = .inr p := hps.trans (congrArg (afterP s) (tags_many hA44))
     refine WE.region ?_
     refine WO.run 2 0 [(46, .int .i64 (p : Int)), (45, .agg #[.string (⟨#[]⟩), .slice none 0 0, .int .i64 0, .int .i64 0, .int .i64 0])] (by kernel_rfl) (by kernel_rfl) ?_
     refine WO.st (SQ.E 2 (by kernel_rfl)) g1 0 [.string (⟨#[]⟩), .slice none 0 0, .int .i64 0, .int .i64 0, .int .i64 0] #[.string (⟨#[]⟩), .slice none 0 0, .int .i64 0, .int .i64 0, .int .i64 0] (by kernel_rfl) HB4 (by kernel_rfl) (by kernel_rfl) (fun _ _ => trivial) ?_
     intro w102 HB104 F103 _
     have HB18 := Blk.keep HB18 F103 (ninC (Ne.symm ne_g1_g6) (nin0 _))
     have HO_FT := HO_FT.keep F103 (djB nin_g1_FT)
     have HA := Fr.step HA F103 (inSR ge_HA_g1 inS0)
     refine WO.run 1 3 [(3, .int .i64 (p : Int))] (by kernel_rfl) (by kernel_rfl) ?_
     refine WO.done (by kernel_rfl) ?_
     refine WQ.keep [0, 2, 3, 4, 5] (e' := [(0, .string (str s)), (2, .pointer (some ⟨g1, 0, none⟩)), (3, .int .i64 (p : Int)), (4, .pointer (some ⟨g6, 0, none⟩)), (5, .int .i64 (p : Int))]) (by kernel_rfl) ?_
     refine WQ.thenN ?_
     refine WE.ret ?_
     refine WQ.thenR ?_
     refine WQ.blkR ?_
     refine WQ.thenR ?_
     refine WQ.blkR ?_
     refine WQ.thenR ?_
     refine WQ.ret2 (fn := Tryd.f21) (show Tryd.f21.results = #[.cell 2 25, .tmp 3] by kernel_rfl) (show resOk _ _ _ _ (.agg #[.string (⟨#[]⟩), .slice none 0 0, .int .i64 0, .int .i64 0, .int .i64 0]) from ⟨by kernel_rfl, ⟨g1, 0, none⟩, by kernel_rfl, ldVarB [.string (⟨#[]⟩), .slice none 0 0, .int .i64 0, .int .i64 0, .int .i64 0] (by kernel_rfl) (by kernel_rfl) (by kernel_rfl) HB104 (by kernel_rfl)⟩) (show resOk _ _ _ _ (.int .i64 (p : Int)) from ⟨by kernel_rfl, by kernel_rfl⟩) ?_
     rw [hps]
     exact ResR.fail HA
    intro h101
    refine WO.done (by kernel_rfl) ?_
    refine WQ.keep [0, 2, 3, 4, 5, 44] (e' := [(0, .string (str s)), (2, .pointer (some ⟨g1, 0, none⟩)), (3, .int .i64 0), (4, .pointer (some ⟨g6, 0, none⟩)), (5, .int .i64 (p : Int)), (44, .bool false)]) (by kernel_rfl) ?_
    refine WQ.thenN ?_
    refine WE.condF (by kernel_rfl) ?_
    refine WE.skip ?_
    refine WQ.thenN ?_
    refine WE.seq ?_
    obtain ⟨k, rfl⟩ : ∃ k', k = k' + 1 := ⟨k - 1, by omega⟩
    refine WE.region ?_
    refine WO.run 1 0 [(47, .int .i64 (p : Int))] (by kernel_rfl) (by kernel_rfl) ?_
    refine WO.one (SQ.F 1 (by kernel_rfl)) 48 (.int .i64 (IntKind.i64.wrap ((p : Int) + 1))) (by kernel_rfl) ?_
    refine WO.top (v' := .int .i64 ((p + 1 : Nat) : Int)) (wrap_i64 (by omega) (by omega)) ?_
    refine WO.run 1 2 [(7, .int .i64 ((p + 1 : Nat) : Int))] (by kernel_rfl) (by kernel_rfl) ?_
    refine WO.done (by kernel_rfl) ?_
    refine WQ.keep [0, 2, 3, 4, 5, 7] (e' := [(0, .string (str s)), (2, .pointer (some ⟨g1, 0, none⟩)), (3, .int .i64 0), (4, .pointer (some ⟨g6, 0, none⟩)), (5, .int .i64 (p : Int)), (7, .int .i64 ((p + 1 : Nat) : Int))]) (by kernel_rfl) ?_
    refine WQ.thenN ?_
    refine WE.seq ?_
    refine WE.region ?_
    refine WO.run 2 0 [(50, .int .i64 ((p + 1 : Nat) : Int)), (49, .string (str s))] (by kernel_rfl) (by kernel_rfl) ?_
    refine WO.call (SQ.E 2 (by kernel_rfl)) 51 (by kernel_rfl) (rrun_w s (p + 1) _ (by omega) (by omega)) ?_
    rintro _ w105 ⟨rfl, F106⟩
    have he1 := runE_ge inW s (p + 1)
    have he2 := runE_le inW (show p + 1 ≤ s.length by omega)
    refine ⟨_, rfl, trivial, ?_⟩
    have HB4 := Blk.keep HB4 F106 (nin0 _)
    have HB18 := Blk.keep HB18 F106 (nin0 _)
    have HO_FT := HO_FT.keep F106 (fun _ _ => nin0 _)
    have HA := Fr.step0 HA F106
    refine WO.run 1 3 [(8, .int .i64 ((runE inW s (p + 1) : Nat) : Int))] (by kernel_rfl) (by kernel_rfl) ?_
    refine WO.done (by kernel_rfl) ?_
    refine WQ.keep [0, 2, 3, 4, 5, 7, 8] (e' := [(0, .string (str s)), (2, .pointer (some ⟨g1, 0, none⟩)), (3, .int .i64 0), (4, .pointer (some ⟨g6, 0, none⟩)), (5, .int .i64 (p : Int)), (7, .int .i64 ((p + 1 : Nat) : Int)), (8, .int .i64 ((runE inW s (p + 1) : Nat) : Int))]) (by kernel_rfl) ?_
    refine WQ.thenN ?_
    refine WE.seq ?_
    refine WE.region ?_
    refine WO.run 3 0 [(54, .int .i64 ((runE inW s (p + 1) : Nat) : Int)), (53, .int .i64 ((p + 1 : Nat) : Int)), (52, .string (str s))] (by kernel_rfl) (by kernel_rfl) ?_
    refine WO.slS2 (lo := ((p + 1 : Nat) : Int)) (hi := ((runE inW s (p + 1) : Nat) : Int)) (SQ.F 3 (by kernel_rfl)) 55 (p + 1) (runE inW s (p + 1)) s (by kernel_rfl) (by rfl) (by rfl) (by omega) (by omega) ?_
    refine WO.call (SQ.E 4 (by kernel_rfl)) 56 (by kernel_rfl) (word_r ((s.take (runE inW s (p + 1))).drop (p + 1)) _ (by simp only [List.length_drop, List.length_take]; omega)) ?_
    rintro _ w107 ⟨rfl, F108⟩
    refine ⟨_, rfl, trivial, ?_⟩
    have HB4 := Blk.keep HB4 F108 (nin0 _)
    have HB18 := Blk.keep HB18 F108 (nin0 _)
    have HO_FT := HO_FT.keep F108 (fun _ _ => nin0 _)
    have HA := Fr.step0 HA F108
    rcases Bool.eq_false_or_eq_true (isWord ((s.take (runE inW s (p + 1))).drop (p + 1))) with hK109 | hK109
    ·
     rw [hK109]
     refine WO.run 1 5 [(9, .bool true)] (by kernel_rfl) (by kernel_rfl) ?_
     refine WO.done (by kernel_rfl) ?_
     refine WQ.keep [0, 2, 3, 4, 5, 7, 8, 9] (e' := [(0, .string (str s)), (2, .pointer (some ⟨g1, 0, none⟩)), (3, .int .i64 0), (4, .pointer (some ⟨g6, 0, none⟩)), (5, .int .i64 (p : Int)), (7, .int .i64 ((p + 1 : Nat) : Int)), (8, .int .i64 ((runE inW s (p + 1) : Nat) : Int)), (9, .bool true)]) (by kernel_rfl) ?_
     refine WQ.thenN ?_
     refine WE.seq ?_
     refine WE.seq ?_
     refine WE.region ?_
     refine WO.run 2 0 [(58, .bool false), (57, .bool true)] (by kernel_rfl) (by kernel_rfl) ?_
     refine WO.done (by kernel_rfl) ?_
     refine WQ.keep [0, 2, 3, 4, 5, 7, 8, 9, 58] (e' := [(0, .string (str s)), (2, .pointer (some ⟨g1, 0, none⟩)), (3, .int .i64 0), (4, .pointer (some ⟨g6, 0, none⟩)), (5, .int .i64 (p : Int)), (7, .int .i64 ((p + 1 : Nat) : Int)), (8, .int .i64 ((runE inW s (p + 1) : Nat) : Int)), (9, .bool true), (58, .bool false)]) (by kernel_rfl) ?_
     refine WQ.thenN ?_
     refine WE.condF (by kernel_rfl) ?_
     refine WE.skip ?_
     refine WQ.thenN ?_
     refine WE.seq ?_
     refine WE.seq ?_
     have he3 := he1
     have he4 := he2
     refine WE.region ?_
     refine WO.run 3 0 [(63, .int .i64 (s.length : Int)), (62, .string (str s)), (61, .int .i64 ((runE inW s (p + 1) : Nat) : Int))] (by kernel_rfl) (by kernel_rfl) ?_
     refine WO.one (SQ.F 3 (by kernel_rfl)) 64 (.bool (decide (((runE inW s (p + 1) : Int) : Int) ≥ (s.length : Int)))) (by kernel_rfl) ?_
     refine WO.topP (((runE inW s (p + 1) : Int) : Int) ≥ (s.length : Int)) ?_ ?_
     ·
      intro h110
      refine WO.run 6 4 [(70, .bool true), (69, undef), (68, undef), (67, undef), (66, undef), (65, .bool true)] (by kernel_rfl) (by kernel_rfl) ?_
      refine WO.done (by kernel_rfl) ?_
      refine WQ.keep [0, 2, 3, 4, 5, 7, 8, 9, 70] (e' := [(0, .string (str s)), (2, .pointer (some ⟨g1, 0, none⟩)), (3, .int .i64 0), (4, .pointer (some ⟨g6, 0, none⟩)), (5, .int .i64 (p : Int)), (7, .int .i64 ((p + 1 : Nat) : Int)), (8, .int .i64 ((runE inW s (p + 1) : Nat) : Int)), (9, .bool true), (70, .bool true)]) (by kernel_rfl) ?_
      refine WQ.thenN ?_
      refine WE.condT (by kernel_rfl) ?_
      refine WE.seq ?_
      have hps : parseP s = .inr (runE inW s (p + 1)) := hps.trans (congrArg (afterP s) (tags_eq hA44 hK109 (fun h_ => by have a_ := h_.1; have b_ := h_.2; omega)))
      refine WE.region ?_
      refine WO.run 2 0 [(72, .int .i64 ((runE inW s (p + 1) : Nat) : Int)), (71, .agg #[.string (⟨#[]⟩), .slice none 0 0, .int .i64 0, .int .i64 0, .int .i64 0])] (by kernel_rfl) (by kernel_rfl) ?_
      refine WO.st (SQ.E 2 (by kernel_rfl)) g1 0 [.string (⟨#[]⟩), .slice none 0 0, .int .i64 0, .int .i64 0, .int .i64 0] #[.string (⟨#[]⟩), .slice none 0 0, .int .i64 0, .int .i64 0, .int .i64 0] (by kernel_rfl) HB4 (by kernel_rfl) (by kernel_rfl) (fun _ _ => trivial) ?_
      intro w111 HB113 F112 _
      have HB18 := Blk.keep HB18 F112 (ninC (Ne.symm ne_g1_g6) (nin0 _))
      have HO_FT := HO_FT.keep F112 (djB nin_g1_FT)
      have HA := Fr.step HA F112 (inSR ge_HA_g1 inS0)
      refine WO.run 1 3 [(3, .int .i64 ((runE inW s (p + 1) : Nat) : Int))] (by kernel_rfl) (by kernel_rfl) ?_
      refine WO.done (by kernel_rfl) ?_
      refine WQ.keep [0, 2, 3, 4, 5, 7, 8, 9] (e' := [(0, .string (str s)), (2, .pointer (some ⟨g1, 0, none⟩)), (3, .int .i64 ((runE inW s (p + 1) : Nat) : Int)), (4, .pointer (some ⟨g6, 0, none⟩)), (5, .int .i64 (p : Int)), (7, .int .i64 ((p + 1 : Nat) : Int)), (8, .int .i64 ((runE inW s (p + 1) : Nat) : Int)), (9, .bool true)]) (by kernel_rfl) ?_
      refine WQ.thenN ?_
      refine WE.ret ?_
      refine WQ.thenR ?_
      refine WQ.blkR ?_
      refine WQ.thenR ?_
      refine WQ.blkR ?_
      refine WQ.thenR ?_
      refine WQ.ret2 (fn := Tryd.f21) (show Tryd.f21.results = #[.cell 2 25, .tmp 3] by kernel_rfl) (show resOk _ _ _ _ (.agg #[.string (⟨#[]⟩), .slice none 0 0, .int .i64 0, .int .i64 0, .int .i64 0]) from ⟨by kernel_rfl, ⟨g1, 0, none⟩, by kernel_rfl, ldVarB [.string (⟨#[]⟩), .slice none 0 0, .int .i64 0, .int .i64 0, .int .i64 0] (by kernel_rfl) (by kernel_rfl) (by kernel_rfl) HB113 (by kernel_rfl)⟩) (show resOk _ _ _ _ (.int .i64 ((runE inW s (p + 1) : Nat) : Int)) from ⟨by kernel_rfl, by kernel_rfl⟩) ?_
      rw [hps]
      exact ResR.fail HA
     intro h110
     refine WO.run 3 4 [(67, .int .i64 ((runE inW s (p + 1) : Nat) : Int)), (66, .string (str s)), (65, .bool false)] (by kernel_rfl) (by kernel_rfl) ?_
     refine WO.ixS (i := ((runE inW s (p + 1) : Nat) : Int)) (SQ.F 7 (by kernel_rfl)) 68 (runE inW s (p + 1)) s (by kernel_rfl) (by rfl) (by omega) ?_
     refine WO.one (SQ.F 8 (by kernel_rfl)) 69 (.bool (!decide ((((gB s (runE inW s (p + 1))).toNat : Int) : Int) = (61 : Int)))) (by kernel_rfl) ?_
     refine WO.topN ((((gB s (runE inW s (p + 1))).toNat : Int) : Int) = (61 : Int)) ?_ ?_
     ·
      intro h114
      refine WO.run 1 9 [(70, .bool false)] (by kernel_rfl) (by kernel_rfl) ?_
      refine WO.done (by kernel_rfl) ?_
      refine WQ.keep [0, 2, 3, 4, 5, 7, 8, 9, 70] (e' := [(0, .string (str s)), (2, .pointer (some ⟨g1, 0, none⟩)), (3, .int .i64 0), (4, .pointer (some ⟨g6, 0, none⟩)), (5, .int .i64 (p : Int)), (7, .int .i64 ((p + 1 : Nat) : Int)), (8, .int .i64 ((runE inW s (p + 1) : Nat) : Int)), (9, .bool true), (70, .bool false)]) (by kernel_rfl) ?_
      refine WQ.thenN ?_
      refine WE.condF (by kernel_rfl) ?_
      refine WE.skip ?_
      refine WQ.thenN ?_
      refine WE.seq ?_
      have hA61 : isAt s (runE inW s (p + 1)) 61 := ⟨by omega, by omega⟩
      refine WE.region ?_
      refine WO.run 2 0 [(74, .int .i64 ((runE inW s (p + 1) : Nat) : Int)), (73, .string (str s))] (by kernel_rfl) (by kernel_rfl) ?_
      refine WO.one (SQ.F 2 (by kernel_rfl)) 75 (.int .i64 (IntKind.i64.wrap (((runE inW s (p + 1) : Nat) : Int) + 1))) (by kernel_rfl) ?_
      refine WO.top (v' := .int .i64 (((runE inW s (p + 1)) + 1 : Nat) : Int)) (wrap_i64 (by omega) (by omega)) ?_
      refine WO.call (SQ.E 3 (by kernel_rfl)) 76 (by kernel_rfl) (rrun_w s ((runE inW s (p + 1)) + 1) _ (by omega) (by omega)) ?_
      rintro _ w115 ⟨rfl, F116⟩
      have he1 := runE_ge inW s ((runE inW s (p + 1)) + 1)
      have he2 := runE_le inW (show (runE inW s (p + 1)) + 1 ≤ s.length by omega)
      refine ⟨_, rfl, trivial, ?_⟩
      have HB4 := Blk.keep HB4 F116 (nin0 _)
      have HB18 := Blk.keep HB18 F116 (nin0 _)
      have HO_FT := HO_FT.keep F116 (fun _ _ => nin0 _)
      have HA := Fr.step0 HA F116
      refine WO.run 1 4 [(10, .int .i64 ((runE inW s ((runE inW s (p + 1)) + 1) : Nat) : Int))] (by kernel_rfl) (by kernel_rfl) ?_
      refine WO.done (by kernel_rfl) ?_
      refine WQ.keep [0, 2, 3, 4, 5, 7, 8, 9, 10] (e' := [(0, .string (str s)), (2, .pointer (some ⟨g1, 0, none⟩)), (3, .int .i64 0), (4, .pointer (some ⟨g6, 0, none⟩)), (5, .int .i64 (p : Int)), (7, .int .i64 ((p + 1 : Nat) : Int)), (8, .int .i64 ((runE inW s (p + 1) : Nat) : Int)), (9, .bool true), (10, .int .i64 ((runE inW s ((runE inW s (p + 1)) + 1) : Nat) : Int))]) (by kernel_rfl) ?_
      refine WQ.thenN ?_
      refine WE.seq ?_
      refine WE.region ?_
      refine WO.run 2 0 [(78, .int .i64 ((runE inW s (p + 1) : Nat) : Int)), (77, .string (str s))] (by kernel_rfl) (by kernel_rfl) ?_
      refine WO.one (SQ.F 2 (by kernel_rfl)) 79 (.int .i64 (IntKind.i64.wrap (((runE inW s (p + 1) : Nat) : Int) + 1))) (by kernel_rfl) ?_
      refine WO.top (v' := .int .i64 (((runE inW s (p + 1)) + 1 : Nat) : Int)) (wrap_i64 (by omega) (by omega)) ?_
      refine WO.run 1 3 [(80, .int .i64 ((runE inW s ((runE inW s (p + 1)) + 1) : Nat) : Int))] (by kernel_rfl) (by kernel_rfl) ?_
      refine WO.slS2 (lo := (((runE inW s (p + 1)) + 1 : Nat) : Int)) (hi := ((runE inW s ((runE inW s (p + 1)) + 1) : Nat) : Int)) (SQ.F 4 (by kernel_rfl)) 81 ((runE inW s (p + 1)) + 1) (runE inW s ((runE inW s (p + 1)) + 1)) s (by kernel_rfl) (by rfl) (by rfl) (by omega) (by omega) ?_
      refine WO.call (SQ.E 5 (by kernel_rfl)) 82 (by kernel_rfl) (word_r ((s.take (runE inW s ((runE inW s (p + 1)) + 1))).drop ((runE inW s (p + 1)) + 1)) _ (by simp only [List.length_drop, List.length_take]; omega)) ?_
      rintro _ w117 ⟨rfl, F118⟩
      refine ⟨_, rfl, trivial, ?_⟩
      have HB4 := Blk.keep HB4 F118 (nin0 _)
      have HB18 := Blk.keep HB18 F118 (nin0 _)
      have HO_FT := HO_FT.keep F118 (fun _ _ => nin0 _)
      have HA := Fr.step0 HA F118
      rcases Bool.eq_false_or_eq_true (isWord ((s.take (runE inW s ((runE inW s (p + 1)) + 1))).drop ((runE inW s (p + 1)) + 1))) with hK119 | hK119
      ·
       rw [hK119]
       refine WO.run 1 6 [(9, .bool true)] (by kernel_rfl) (by kernel_rfl) ?_
       refine WO.done (by kernel_rfl) ?_
       refine WQ.keep [0, 2, 3, 4, 5, 7, 8, 9, 10] (e' := [(0, .string (str s)), (2, .pointer (some ⟨g1, 0, none⟩)), (3, .int .i64 0), (4, .pointer (some ⟨g6, 0, none⟩)), (5, .int .i64 (p : Int)), (7, .int .i64 ((p + 1 : Nat) : Int)), (8, .int .i64 ((runE inW s (p + 1) : Nat) : Int)), (9, .bool true), (10, .int .i64 ((runE inW s ((runE inW s (p + 1)) + 1) : Nat) : Int))]) (by kernel_rfl) ?_
       refine WQ.thenN ?_
       refine WE.seq ?_
       refine WE.seq ?_
       refine WE.region ?_
       refine WO.run 2 0 [(84, .bool false), (83, .bool true)] (by kernel_rfl) (by kernel_rfl) ?_
       refine WO.done (by kernel_rfl) ?_
       refine WQ.keep [0, 2, 3, 4, 5, 7, 8, 10, 84] (e' := [(0, .string (str s)), (2, .pointer (some ⟨g1, 0, none⟩)), (3, .int .i64 0), (4, .pointer (some ⟨g6, 0, none⟩)), (5, .int .i64 (p : Int)), (7, .int .i64 ((p + 1 : Nat) : Int)), (8, .int .i64 ((runE inW s (p + 1) : Nat) : Int)), (10, .int .i64 ((runE inW s ((runE inW s (p + 1)) + 1) : Nat) : Int)), (84, .bool false)]) (by kernel_rfl) ?_
       refine WQ.thenN ?_
       refine WE.condF (by kernel_rfl) ?_
       refine WE.skip ?_
       refine WQ.thenN ?_
       refine WE.seq ?_
       have hps := hps.trans (congrArg (afterP s) (tags_on hA44 hK109 hA61 hK119))
       have hz120 : (World.heap w117).size ≤ (World.heap w117).size := Nat.le_refl _
       have ltz_g1 := HB4.lt
       have ltz_g6 := HB18.lt
       have ltz_FT := HO_FT.lt
       refine WE.draw [.free, .still, .free, .free, .free, .free, .free, .free, .free, .free, .free, .free, .effR, .eff, .free, .eff] (FrB (World.heap w117).size) (frBR _) (by kernel_rfl) 16 (Array.replicate 16 false) (by kernel_rfl) rfl ?_
       intro w121 F122 _
       have HB4 := Blk.keep HB4 F122 (nin0 _)
       have HB18 := Blk.keep HB18 F122 (nin0 _)
       have HO_FT := HO_FT.keep F122 (fun _ _ => nin0 _)
       have hz120 := Nat.le_trans hz120 F122.size
       have HA := Fr.step0 HA F122
       refine WO.one (SA.F (frBR _) (frBT _) _ 0 _ (by kernel_rfl)) 88 (.pointer (some ⟨g6, 1, none⟩)) (by kernel_rfl) ?_
       refine WO.ld (SA.S (frBR _) (frBT _) _ 1 _ (by kernel_rfl)) 89 (.slice At acc.length ct) (by kernel_rfl) (fun _ k => (HB18.keepB k ltz_g6).at 1 (by kernel_rfl)) ?_
       refine WO.one (SA.F (frBR _) (frBT _) _ 2 _ (by kernel_rfl)) 90 (.string (str s)) (by kernel_rfl) ?_
       refine WO.one (SA.F (frBR _) (frBT _) _ 3 _ (by kernel_rfl)) 91 (.int .i64 ((p + 1 : Nat) : Int)) (by kernel_rfl) ?_
       refine WO.one (SA.F (frBR _) (frBT _) _ 4 _ (by kernel_rfl)) 92 (.int .i64 ((runE inW s (p + 1) : Nat) : Int)) (by kernel_rfl) ?_
       refine WO.slS2 (lo := ((p + 1 : Nat) : Int)) (hi := ((runE inW s (p + 1) : Nat) : Int)) (SA.F (frBR _) (frBT _) _ 5 _ (by kernel_rfl)) 93 (p + 1) (runE inW s (p + 1)) s (by kernel_rfl) (by rfl) (by rfl) (by omega) (by omega) ?_
       refine WO.one (SA.F (frBR _) (frBT _) _ 6 _ (by kernel_rfl)) 94 (.string (str s)) (by kernel_rfl) ?_
       refine WO.one (SA.F (frBR _) (frBT _) _ 7 _ (by kernel_rfl)) 95 (.int .i64 ((runE inW s (p + 1) : Nat) : Int)) (by kernel_rfl) ?_
       refine WO.one (SA.F (frBR _) (frBT _) _ 8 _ (by kernel_rfl)) 96 (.int .i64 (IntKind.i64.wrap (((runE inW s (p + 1) : Nat) : Int) + 1))) (by kernel_rfl) ?_
       refine WO.top (v' := .int .i64 (((runE inW s (p + 1)) + 1 : Nat) : Int)) (wrap_i64 (by omega) (by omega)) ?_
       refine WO.one (SA.F (frBR _) (frBT _) _ 9 _ (by kernel_rfl)) 97 (.int .i64 ((runE inW s ((runE inW s (p + 1)) + 1) : Nat) : Int)) (by kernel_rfl) ?_
       refine WO.slS2 (lo := (((runE inW s (p + 1)) + 1 : Nat) : Int)) (hi := ((runE inW s ((runE inW s (p + 1)) + 1) : Nat) : Int)) (SA.F (frBR _) (frBT _) _ 10 _ (by kernel_rfl)) 98 ((runE inW s (p + 1)) + 1) (runE inW s ((runE inW s (p + 1)) + 1)) s (by kernel_rfl) (by rfl) (by rfl) (by omega) (by omega) ?_
       refine WO.one (SA.F (frBR _) (frBT _) _ 11 _ (by kernel_rfl)) 99 (.agg #[.string (str ((s.take (runE inW s (p + 1))).drop (p + 1))), .string (str ((s.take (runE inW s ((runE inW s (p + 1)) + 1))).drop ((runE inW s (p + 1)) + 1)))]) (by kernel_rfl) ?_
       refine WO.bx (SA.ER _ 12 _ (by kernel_rfl) rfl) 100 #[.string (str ((s.take (runE inW s (p + 1))).drop (p + 1))), .string (str ((s.take (runE inW s ((runE inW s (p + 1)) + 1))).drop ((runE inW s (p + 1)) + 1)))] 53 (fun g => .slice (some ⟨g, 0, none⟩) 1 1) (by kernel_rfl) (frB_of hz120 (by simp)) ?_
       intro g123 w124 HB126 F125 le127 _
       have ne_g1_g123 : g1 ≠ g123 := Nat.ne_of_lt (Nat.lt_of_lt_of_le HB4.lt le127)
       have ne_g6_g123 : g6 ≠ g123 := Nat.ne_of_lt (Nat.lt_of_lt_of_le HB18.lt le127)
       have nin_g123_FT : g123 ∉ FT := new_nin HO_FT.lt le127
       have ge_HA_g123 := Nat.le_trans HA.size le127
       have gz_hz120_g123 := Nat.le_trans hz120 le127
       have HB4 := Blk.keep HB4 F125 (nin0 _)
       have HB18 := Blk.keep HB18 F125 (nin0 _)
       have HO_FT := HO_FT.keep F125 (fun _ _ => nin0 _)
       have hz120 := Nat.le_trans hz120 F125.size
       have HA := Fr.step0 HA F125
       refine WO.appX (SA.E _ 13 _ (by kernel_rfl) rfl) 101 (m := 1) (ys := List.map cT ([((((s.take (runE inW s (p + 1))).drop (p + 1)), ((s.take (runE inW s ((runE inW s (p + 1)) + 1))).drop ((runE inW s (p + 1)) + 1))) : L × L)])) et_t HO_FT (by rw [List.length_map] <;> first | rfl | omega | (simp <;> omega)) (RowB.src (RowB.of_blk (n := 1) HB126 (List.map cT [((((s.take (runE inW s (p + 1))).drop (p + 1)), ((s.take (runE inW s ((runE inW s (p + 1)) + 1))).drop ((runE inW s (p + 1)) + 1))) : L × L)]) rfl rfl (cT_len _) (cT_one _) (by omega))) (cT_len _) (cT_one _) (by kernel_rfl) (by rw [List.length_map]; first | omega | (simp only [List.length_nil]; omega)) (by rw [List.length_map]; first | omega | (simp only [List.length_nil]; omega)) (fun _ _ => trivial) ?_
       intro v133 w134 G135 HO136 F137 hg138
       rw [← List.map_append] at HO136
       have nin_g1_G135 : g1 ∉ G135 := grow_nin hg138 nin_g1_FT HB4.lt
       have nin_g6_G135 : g6 ∉ G135 := grow_nin hg138 nin_g6_FT HB18.lt
       have nin_g123_G135 : g123 ∉ G135 := grow_nin hg138 nin_g123_FT HB126.lt
       have ge_HA_G135 : ∀ y ∈ G135, (World.heap w).size ≤ y := grow_ge hg138 ge_HA_FT HA.size
       have HB4 := Blk.keep HB4 F137 nin_g1_FT
       have HB18 := Blk.keep HB18 F137 nin_g6_FT
       have HB126 := Blk.keep HB126 F137 nin_g123_FT
       have hz120 := Nat.le_trans hz120 F137.size
       have HA := Fr.step HA F137 (inF ge_HA_FT)
       obtain ⟨A139, cap140, rfl⟩ := HO136.sliceN (List.length_map _)
       have := @List.length_append _ acc ([((((s.take (runE inW s (p + 1))).drop (p + 1)), ((s.take (runE inW s ((runE inW s (p + 1)) + 1))).drop ((runE inW s (p + 1)) + 1))) : L × L)])
       refine WO.one (SA.F (frBR _) (frBT _) _ 14 _ (by kernel_rfl)) 102 (.pointer (some ⟨g6, 1, none⟩)) (by kernel_rfl) ?_
       refine WO.st (SA.E _ 15 _ (by kernel_rfl) rfl) g6 1 [.slice A139 ((acc ++ [((((s.take (runE inW s (p + 1))).drop (p + 1)), ((s.take (runE inW s ((runE inW s (p + 1)) + 1))).drop ((runE inW s (p + 1)) + 1))) : L × L)]).length) cap140] #[.string (str (s.take (runE inW s 0))), .slice A139 ((acc ++ [((((s.take (runE inW s (p + 1))).drop (p + 1)), ((s.take (runE inW s ((runE inW s (p + 1)) + 1))).drop ((runE inW s (p + 1)) + 1))) : L × L)]).length) cap140, .int .i64 0, .int .i64 0, .int .i64 0] (by kernel_rfl) HB18 (by kernel_rfl) (by kernel_rfl) (fun _ _ => trivial) ?_
       intro w141 HB143 F142 _
       have HB4 := Blk.keep HB4 F142 (ninC ne_g1_g6 (nin0 _))
       have HB126 := Blk.keep HB126 F142 (ninC (Ne.symm ne_g6_g123) (nin0 _))
       have HO136 := HO136.keep F142 (djB nin_g6_G135)
       have hz120 := Nat.le_trans hz120 F142.size
       have HA := Fr.step HA F142 (inSR ge_HA_g6 inS0)
       refine WO.doneA (by kernel_rfl) ?_
       refine WQ.keep [0, 2, 3, 4, 5, 7, 8, 10, 84] (e' := [(0, .string (str s)), (2, .pointer (some ⟨g1, 0, none⟩)), (3, .int .i64 0), (4, .pointer (some ⟨g6, 0, none⟩)), (5, .int .i64 (p : Int)), (7, .int .i64 ((p + 1 : Nat) : Int)), (8, .int .i64 ((runE inW s (p + 1) : Nat) : Int)), (10, .int .i64 ((runE inW s ((runE inW s (p + 1)) + 1) : Nat) : Int)), (84, .bool false)]) (by kernel_rfl) ?_
       refine WQ.thenN ?_
       refine WE.region ?_
       refine WO.run 2 0 [(5, .int .i64 ((runE inW s ((runE inW s (p + 1)) + 1) : Nat) : Int)), (103, .int .i64 ((runE inW s ((runE inW s (p + 1)) + 1) : Nat) : Int))] (by kernel_rfl) (by kernel_rfl) ?_
       refine WO.done (by kernel_rfl) ?_
       refine WQ.keep [0, 2, 3, 4, 5] (e' := [(0, .string (str s)), (2, .pointer (some ⟨g1, 0, none⟩)), (3, .int .i64 0), (4, .pointer (some ⟨g6, 0, none⟩)), (5, .int .i64 ((runE inW s ((runE inW s (p + 1)) + 1) : Nat) : Int))]) (by kernel_rfl) ?_
       refine WQ.blkN ?_
       refine WQ.round ?_
       intro a_ ha_
       refine ⟨(k, (runE inW s (runE inW s (p + 1) + 1)), G135, A139, cap140, (acc ++ [((((s.take (runE inW s (p + 1))).drop (p + 1)), ((s.take (runE inW s ((runE inW s (p + 1)) + 1))).drop ((runE inW s (p + 1)) + 1))) : L × L)])), ?_, ha_.keep [0, 2, 3, 4, 5] (by kernel_rfl), ?_⟩
       ·
        exact Nat.lt_succ_self _
       ·
        exact ⟨hps, by simp only [List.length_append, List.length_cons, List.length_nil]; omega, by omega, HB4, HB143, HO136, nin_g1_G135, nin_g6_G135, ge_HA_G135, HA⟩
      rw [hK119]
      refine WO.run 1 6 [(9, .bool false)] (by kernel_rfl) (by kernel_rfl) ?_
      refine WO.done (by kernel_rfl) ?_
      refine WQ.keep [0, 2, 3, 4, 5, 7, 8, 9, 10] (e' := [(0, .string (str s)), (2, .pointer (some ⟨g1, 0, none⟩)), (3, .int .i64 0), (4, .pointer (some ⟨g6, 0, none⟩)), (5, .int .i64 (p : Int)), (7, .int .i64 ((p + 1 : Nat) : Int)), (8, .int .i64 ((runE inW s (p + 1) : Nat) : Int)), (9, .bool false), (10, .int .i64 ((runE inW s ((runE inW s (p + 1)) + 1) : Nat) : Int))]) (by kernel_rfl) ?_
      refine WQ.thenN ?_
      refine WE.seq ?_
      refine WE.seq ?_
      refine WE.region ?_
      refine WO.run 2 0 [(84, .bool true), (83, .bool false)] (by kernel_rfl) (by kernel_rfl) ?_
      refine WO.done (by kernel_rfl) ?_
      refine WQ.keep [0, 2, 3, 4, 5, 7, 8, 10, 84] (e' := [(0, .string (str s)), (2, .pointer (some ⟨g1, 0, none⟩)), (3, .int .i64 0), (4, .pointer (some ⟨g6, 0, none⟩)), (5, .int .i64 (p : Int)), (7, .int .i64 ((p + 1 : Nat) : Int)), (8, .int .i64 ((runE inW s (p + 1) : Nat) : Int)), (10, .int .i64 ((runE inW s ((runE inW s (p + 1)) + 1) : Nat) : Int)), (84, .bool true)]) (by kernel_rfl) ?_
      refine WQ.thenN ?_
      refine WE.condT (by kernel_rfl) ?_
      refine WE.seq ?_
      have hps : parseP s = .inr (runE inW s (p + 1) + 1) := hps.trans (congrArg (afterP s) (tags_val hA44 hK109 hA61 hK119))
      refine WE.region ?_
      refine WO.run 2 0 [(86, .int .i64 ((runE inW s (p + 1) : Nat) : Int)), (85, .agg #[.string (⟨#[]⟩), .slice none 0 0, .int .i64 0, .int .i64 0, .int .i64 0])] (by kernel_rfl) (by kernel_rfl) ?_
      refine WO.one (SQ.F 2 (by kernel_rfl)) 87 (.int .i64 (IntKind.i64.wrap (((runE inW s (p + 1) : Nat) : Int) + 1))) (by kernel_rfl) ?_
      refine WO.top (v' := .int .i64 (((runE inW s (p + 1)) + 1 : Nat) : Int)) (wrap_i64 (by omega) (by omega)) ?_
      refine WO.st (SQ.E 3 (by kernel_rfl)) g1 0 [.string (⟨#[]⟩), .slice none 0 0, .int .i64 0, .int .i64 0, .int .i64 0] #[.string (⟨#[]⟩), .slice none 0 0, .int .i64 0, .int .i64 0, .int .i64 0] (by kernel_rfl) HB4 (by kernel_rfl) (by kernel_rfl) (fun _ _ => trivial) ?_
      intro w144 HB146 F145 _
      have HB18 := Blk.keep HB18 F145 (ninC (Ne.symm ne_g1_g6) (nin0 _))
      have HO_FT := HO_FT.keep F145 (djB nin_g1_FT)
      have HA := Fr.step HA F145 (inSR ge_HA_g1 inS0)
      refine WO.run 1 4 [(3, .int .i64 (((runE inW s (p + 1)) + 1 : Nat) : Int))] (by kernel_rfl) (by kernel_rfl) ?_
      refine WO.done (by kernel_rfl) ?_
      refine WQ.keep [0, 2, 3, 4, 5, 7, 8, 10] (e' := [(0, .string (str s)), (2, .pointer (some ⟨g1, 0, none⟩)), (3, .int .i64 (((runE inW s (p + 1)) + 1 : Nat) : Int)), (4, .pointer (some ⟨g6, 0, none⟩)), (5, .int .i64 (p : Int)), (7, .int .i64 ((p + 1 : Nat) : Int)), (8, .int .i64 ((runE inW s (p + 1) : Nat) : Int)), (10, .int .i64 ((runE inW s ((runE inW s (p + 1)) + 1) : Nat) : Int))]) (by kernel_rfl) ?_
      refine WQ.thenN ?_
      refine WE.ret ?_
      refine WQ.thenR ?_
      refine WQ.blkR ?_
      refine WQ.thenR ?_
      refine WQ.blkR ?_
      refine WQ.thenR ?_
      refine WQ.ret2 (fn := Tryd.f21) (show Tryd.f21.results = #[.cell 2 25, .tmp 3] by kernel_rfl) (show resOk _ _ _ _ (.agg #[.string (⟨#[]⟩), .slice none 0 0, .int .i64 0, .int .i64 0, .int .i64 0]) from ⟨by kernel_rfl, ⟨g1, 0, none⟩, by kernel_rfl, ldVarB [.string (⟨#[]⟩), .slice none 0 0, .int .i64 0, .int .i64 0, .int .i64 0] (by kernel_rfl) (by kernel_rfl) (by kernel_rfl) HB146 (by kernel_rfl)⟩) (show resOk _ _ _ _ (.int .i64 (((runE inW s (p + 1)) + 1 : Nat) : Int)) from ⟨by kernel_rfl, by kernel_rfl⟩) ?_
      rw [hps]
      exact ResR.fail HA
     intro h114
     refine WO.run 1 9 [(70, .bool true)] (by kernel_rfl) (by kernel_rfl) ?_
     refine WO.done (by kernel_rfl) ?_
     refine WQ.keep [0, 2, 3, 4, 5, 7, 8, 9, 70] (e' := [(0, .string (str s)), (2, .pointer (some ⟨g1, 0, none⟩)), (3, .int .i64 0), (4, .pointer (some ⟨g6, 0, none⟩)), (5, .int .i64 (p : Int)), (7, .int .i64 ((p + 1 : Nat) : Int)), (8, .int .i64 ((runE inW s (p + 1) : Nat) : Int)), (9, .bool true), (70, .bool true)]) (by kernel_rfl) ?_
     refine WQ.thenN ?_
     refine WE.condT (by kernel_rfl) ?_
     refine WE.seq ?_
     have hps : parseP s = .inr (runE inW s (p + 1)) := hps.trans (congrArg (afterP s) (tags_eq hA44 hK109 (fun h_ => by have a_ := h_.1; have b_ := h_.2; omega)))
     refine WE.region ?_
     refine WO.run 2 0 [(72, .int .i64 ((runE inW s (p + 1) : Nat) : Int)), (71, .agg #[.string (⟨#[]⟩), .slice none 0 0, .int .i64 0, .int .i64 0, .int .i64 0])] (by kernel_rfl) (by kernel_rfl) ?_
     refine WO.st (SQ.E 2 (by kernel_rfl)) g1 0 [.string (⟨#[]⟩), .slice none 0 0, .int .i64 0, .int .i64 0, .int .i64 0] #[.string (⟨#[]⟩), .slice none 0 0, .int .i64 0, .int .i64 0, .int .i64 0] (by kernel_rfl) HB4 (by kernel_rfl) (by kernel_rfl) (fun _ _ => trivial) ?_
     intro w147 HB149 F148 _
     have HB18 := Blk.keep HB18 F148 (ninC (Ne.symm ne_g1_g6) (nin0 _))
     have HO_FT := HO_FT.keep F148 (djB nin_g1_FT)
     have HA := Fr.step HA F148 (inSR ge_HA_g1 inS0)
     refine WO.run 1 3 [(3, .int .i64 ((runE inW s (p + 1) : Nat) : Int))] (by kernel_rfl) (by kernel_rfl) ?_
     refine WO.done (by kernel_rfl) ?_
     refine WQ.keep [0, 2, 3, 4, 5, 7, 8, 9] (e' := [(0, .string (str s)), (2, .pointer (some ⟨g1, 0, none⟩)), (3, .int .i64 ((runE inW s (p + 1) : Nat) : Int)), (4, .pointer (some ⟨g6, 0, none⟩)), (5, .int .i64 (p : Int)), (7, .int .i64 ((p + 1 : Nat) : Int)), (8, .int .i64 ((runE inW s (p + 1) : Nat) : Int)), (9, .bool true)]) (by kernel_rfl) ?_
     refine WQ.thenN ?_
     refine WE.ret ?_
     refine WQ.thenR ?_
     refine WQ.blkR ?_
     refine WQ.thenR ?_
     refine WQ.blkR ?_
     refine WQ.thenR ?_
     refine WQ.ret2 (fn := Tryd.f21) (show Tryd.f21.results = #[.cell 2 25, .tmp 3] by kernel_rfl) (show resOk _ _ _ _ (.agg #[.string (⟨#[]⟩), .slice none 0 0, .int .i64 0, .int .i64 0, .int .i64 0]) from ⟨by kernel_rfl, ⟨g1, 0, none⟩, by kernel_rfl, ldVarB [.string (⟨#[]⟩), .slice none 0 0, .int .i64 0, .int .i64 0, .int .i64 0] (by kernel_rfl) (by kernel_rfl) (by kernel_rfl) HB149 (by kernel_rfl)⟩) (show resOk _ _ _ _ (.int .i64 ((runE inW s (p + 1) : Nat) : Int)) from ⟨by kernel_rfl, by kernel_rfl⟩) ?_
     rw [hps]
     exact ResR.fail HA
    rw [hK109]
    refine WO.run 1 5 [(9, .bool false)] (by kernel_rfl) (by kernel_rfl) ?_
    refine WO.done (by kernel_rfl) ?_
    refine WQ.keep [0, 2, 3, 4, 5, 7, 8, 9] (e' := [(0, .string (str s)), (2, .pointer (some ⟨g1, 0, none⟩)), (3, .int .i64 0), (4, .pointer (some ⟨g6, 0, none⟩)), (5, .int .i64 (p : Int)), (7, .int .i64 ((p + 1 : Nat) : Int)), (8, .int .i64 ((runE inW s (p + 1) : Nat) : Int)), (9, .bool false)]) (by kernel_rfl) ?_
    refine WQ.thenN ?_
    refine WE.seq ?_
    refine WE.seq ?_
    refine WE.region ?_
    refine WO.run 2 0 [(58, .bool true), (57, .bool false)] (by kernel_rfl) (by kernel_rfl) ?_
    refine WO.done (by kernel_rfl) ?_
    refine WQ.keep [0, 2, 3, 4, 5, 7, 8, 9, 58] (e' := [(0, .string (str s)), (2, .pointer (some ⟨g1, 0, none⟩)), (3, .int .i64 0), (4, .pointer (some ⟨g6, 0, none⟩)), (5, .int .i64 (p : Int)), (7, .int .i64 ((p + 1 : Nat) : Int)), (8, .int .i64 ((runE inW s (p + 1) : Nat) : Int)), (9, .bool false), (58, .bool true)]) (by kernel_rfl) ?_
    refine WQ.thenN ?_
    refine WE.condT (by kernel_rfl) ?_
    refine WE.seq ?_
    have hps : parseP s = .inr (p + 1) := hps.trans (congrArg (afterP s) (tags_key hA44 hK109))
    refine WE.region ?_
    refine WO.run 2 0 [(60, .int .i64 ((p + 1 : Nat) : Int)), (59, .agg #[.string (⟨#[]⟩), .slice none 0 0, .int .i64 0, .int .i64 0, .int .i64 0])] (by kernel_rfl) (by kernel_rfl) ?_
    refine WO.st (SQ.E 2 (by kernel_rfl)) g1 0 [.string (⟨#[]⟩), .slice none 0 0, .int .i64 0, .int .i64 0, .int .i64 0] #[.string (⟨#[]⟩), .slice none 0 0, .int .i64 0, .int .i64 0, .int .i64 0] (by kernel_rfl) HB4 (by kernel_rfl) (by kernel_rfl) (fun _ _ => trivial) ?_
    intro w150 HB152 F151 _
    have HB18 := Blk.keep HB18 F151 (ninC (Ne.symm ne_g1_g6) (nin0 _))
    have HO_FT := HO_FT.keep F151 (djB nin_g1_FT)
    have HA := Fr.step HA F151 (inSR ge_HA_g1 inS0)
    refine WO.run 1 3 [(3, .int .i64 ((p + 1 : Nat) : Int))] (by kernel_rfl) (by kernel_rfl) ?_
    refine WO.done (by kernel_rfl) ?_
    refine WQ.keep [0, 2, 3, 4, 5, 7, 8, 9] (e' := [(0, .string (str s)), (2, .pointer (some ⟨g1, 0, none⟩)), (3, .int .i64 ((p + 1 : Nat) : Int)), (4, .pointer (some ⟨g6, 0, none⟩)), (5, .int .i64 (p : Int)), (7, .int .i64 ((p + 1 : Nat) : Int)), (8, .int .i64 ((runE inW s (p + 1) : Nat) : Int)), (9, .bool false)]) (by kernel_rfl) ?_
    refine WQ.thenN ?_
    refine WE.ret ?_
    refine WQ.thenR ?_
    refine WQ.blkR ?_
    refine WQ.thenR ?_
    refine WQ.blkR ?_
    refine WQ.thenR ?_
    refine WQ.ret2 (fn := Tryd.f21) (show Tryd.f21.results = #[.cell 2 25, .tmp 3] by kernel_rfl) (show resOk _ _ _ _ (.agg #[.string (⟨#[]⟩), .slice none 0 0, .int .i64 0, .int .i64 0, .int .i64 0]) from ⟨by kernel_rfl, ⟨g1, 0, none⟩, by kernel_rfl, ldVarB [.string (⟨#[]⟩), .slice none 0 0, .int .i64 0, .int .i64 0, .int .i64 0] (by kernel_rfl) (by kernel_rfl) (by kernel_rfl) HB152 (by kernel_rfl)⟩) (show resOk _ _ _ _ (.int .i64 ((p + 1 : Nat) : Int)) from ⟨by kernel_rfl, by kernel_rfl⟩) ?_
    rw [hps]
    exact ResR.fail HA
   intro h100
   refine WO.run 1 9 [(40, .bool false)] (by kernel_rfl) (by kernel_rfl) ?_
   refine WO.done (by kernel_rfl) ?_
   refine WQ.keep [0, 2, 3, 4, 5, 40] (e' := [(0, .string (str s)), (2, .pointer (some ⟨g1, 0, none⟩)), (3, .int .i64 0), (4, .pointer (some ⟨g6, 0, none⟩)), (5, .int .i64 (p : Int)), (40, .bool false)]) (by kernel_rfl) ?_
   refine WQ.thenN ?_
   refine WE.condF (by kernel_rfl) ?_
   refine WE.exit ?_
   refine WQ.thenE ?_
   refine WQ.thenE ?_
   refine WQ.blkE ?_
   have hps : parseP s = restP s acc p := hps.trans (congrArg (afterP s) (tags_stop (fun h_ => by have a_ := h_.1; have b_ := h_.2; omega)))
   refine WQ.round ?_
   intro a_ ha_
   refine ⟨(p, FT, At, ct, acc), ha_.keep [0, 2, 3, 4, 5] (by kernel_rfl), ?_⟩
   exact ⟨hps, hp, HB4, HB18, HO_FT, nin_g1_FT, nin_g6_FT, ge_HA_FT, HA⟩
  intro h99
  refine WO.run 6 4 [(40, .bool false), (39, undef), (38, undef), (37, undef), (36, undef), (35, .bool false)] (by kernel_rfl) (by kernel_rfl) ?_
  refine WO.done (by kernel_rfl) ?_
  refine WQ.keep [0, 2, 3, 4, 5, 40] (e' := [(0, .string (str s)), (2, .pointer (some ⟨g1, 0, none⟩)), (3, .int .i64 0), (4, .pointer (some ⟨g6, 0, none⟩)), (5, .int .i64 (p : Int)), (40, .bool false)]) (by kernel_rfl) ?_
  refine WQ.thenN ?_
  refine WE.condF (by kernel_rfl) ?_
  refine WE.exit ?_
  refine WQ.thenE ?_
  refine WQ.thenE ?_
  refine WQ.blkE ?_
  have hps : parseP s = restP s acc p := hps.trans (congrArg (afterP s) (tags_stop (fun h_ => by have a_ := h_.1; have b_ := h_.2; omega)))
  refine WQ.round ?_
  intro a_ ha_
  refine ⟨(p, FT, At, ct, acc), ha_.keep [0, 2, 3, 4, 5] (by kernel_rfl), ?_⟩
  exact ⟨hps, hp, HB4, HB18, HO_FT, nin_g1_FT, nin_g6_FT, ge_HA_FT, HA⟩
 rw [hK15]
 refine WO.run 1 4 [(6, .bool false)] (by kernel_rfl) (by kernel_rfl) ?_
 refine WO.done (by kernel_rfl) ?_
 refine WQ.keep [0, 2, 3, 4, 5, 6] (e' := [(0, .string (str s)), (2, .pointer (some ⟨g1, 0, none⟩)), (3, .int .i64 0), (4, .pointer (some ⟨g6, 0, none⟩)), (5, .int .i64 ((runE inW s 0 : Nat) : Int)), (6, .bool false)]) (by kernel_rfl) ?_
 refine WQ.thenN ?_
 refine WE.seq ?_
 refine WE.seq ?_
 refine WE.region ?_
 refine WO.run 2 0 [(25, .bool true), (24, .bool false)] (by kernel_rfl) (by kernel_rfl) ?_
 refine WO.done (by kernel_rfl) ?_
 refine WQ.keep [0, 2, 3, 4, 5, 25] (e' := [(0, .string (str s)), (2, .pointer (some ⟨g1, 0, none⟩)), (3, .int .i64 0), (4, .pointer (some ⟨g6, 0, none⟩)), (5, .int .i64 ((runE inW s 0 : Nat) : Int)), (25, .bool true)]) (by kernel_rfl) ?_
 refine WQ.thenN ?_
 refine WE.condT (by kernel_rfl) ?_
 refine WE.seq ?_
 have hps : parseP s = .inr 0 := pp_name hK15
 refine WE.region ?_
 refine WO.run 1 0 [(26, .agg #[.string (⟨#[]⟩), .slice none 0 0, .int .i64 0, .int .i64 0, .int .i64 0])] (by kernel_rfl) (by kernel_rfl) ?_
 refine WO.st (SQ.E 1 (by kernel_rfl)) g1 0 [.string (⟨#[]⟩), .slice none 0 0, .int .i64 0, .int .i64 0, .int .i64 0] #[.string (⟨#[]⟩), .slice none 0 0, .int .i64 0, .int .i64 0, .int .i64 0] (by kernel_rfl) HB4 (by kernel_rfl) (by kernel_rfl) (fun _ _ => trivial) ?_
 intro w153 HB155 F154 _
 have HB9 := Blk.keep HB9 F154 (ninC (Ne.symm ne_g1_g6) (nin0 _))
 have HA := Fr.step HA F154 (inSR ge_HA_g1 inS0)
 refine WO.run 1 2 [(3, .int .i64 0)] (by kernel_rfl) (by kernel_rfl) ?_
 refine WO.done (by kernel_rfl) ?_
 refine WQ.keep [0, 2, 3, 4, 5] (e' := [(0, .string (str s)), (2, .pointer (some ⟨g1, 0, none⟩)), (3, .int .i64 0), (4, .pointer (some ⟨g6, 0, none⟩)), (5, .int .i64 ((runE inW s 0 : Nat) : Int))]) (by kernel_rfl) ?_
 refine WQ.thenN ?_
 refine WE.ret ?_
 refine WQ.thenR ?_
 refine WQ.ret2 (fn := Tryd.f21) (show Tryd.f21.results = #[.cell 2 25, .tmp 3] by kernel_rfl) (show resOk _ _ _ _ (.agg #[.string (⟨#[]⟩), .slice none 0 0, .int .i64 0, .int .i64 0, .int .i64 0]) from ⟨by kernel_rfl, ⟨g1, 0, none⟩, by kernel_rfl, ldVarB [.string (⟨#[]⟩), .slice none 0 0, .int .i64 0, .int .i64 0, .int .i64 0] (by kernel_rfl) (by kernel_rfl) (by kernel_rfl) HB155 (by kernel_rfl)⟩) (show resOk _ _ _ _ (.int .i64 0) from ⟨by kernel_rfl, by kernel_rfl⟩) ?_
 rw [hps]
 exact ResR.fail HA
end Go.Proofs.YtdhonbahpcmmnaaDoor.Line
