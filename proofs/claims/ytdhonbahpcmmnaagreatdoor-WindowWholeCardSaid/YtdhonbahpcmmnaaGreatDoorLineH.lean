/- The plain side of layer 18, over Rw: what a row comes to. -/
import Derived.Test.YtdhonbahpcmmnaaGreatDoorBatPure
import Derived.Lib.BitFns
import Derived.Test.YtdhonbahpcmmnaaGreatDoorEngC
section
set_option linter.unusedVariables false
namespace Go.Proofs.YtdhonbahpcmmnaaGreatDoor.Bat
open Go
def I64 (v : Int) : Prop := -9223372036854775808 ≤ v ∧ v ≤ 9223372036854775807
def bl (v : Int) : Nat := Lib.bitLen (if v < 0 then 0 else v).toNat
theorem bl_le {v : Int} (h : I64 v) : bl v ≤ 63 := by
 unfold bl
 by_cases h0 : v ≤ 0
 ·
  have : (if v < 0 then 0 else v).toNat = 0 := by split <;> omega
  rw [this]
  decide
 ·
  rw [if_neg (by omega)]
  have hb : ∀ n x : Nat, x < 2 ^ n → n ≤ 64 → Lib.bitLen x ≤ n := by
   intro n
   induction n with
   | zero =>
    intro x hx _
    obtain rfl : x = 0 := by omega
    decide
   | succ n ih =>
    intro x hx hn
    by_cases hx0 : x = 0
    ·
     subst hx0
     have : Lib.bitLen 0 = 0 := by decide
     omega
    ·
     rw [Lib.bitLen_half x hx0 (Nat.lt_of_lt_of_le hx (Nat.pow_le_pow_right (by omega) hn))]
     have := ih (x / 2) (by rw [Nat.pow_succ] at hx; omega) (by omega)
     omega
  have h63 : v.toNat < 2 ^ 63 := by have := h.2; omega
  exact hb 63 v.toNat h63 (by decide)
def scount (x : Nat) : Nat := if x + 1 < 18446744073709551616 then x + 1 else 18446744073709551615
theorem scount_lt (x : Nat) : scount x < 18446744073709551616 := by unfold scount; split <;> omega
theorem scount_pos (x : Nat) : 1 ≤ scount x := by unfold scount; split <;> omega
def sadd (a b : Int) : Int × Bool := if 9223372036854775807 < a + b then (9223372036854775807, true) else if a + b < -9223372036854775808 then (-9223372036854775808, true) else (a + b, false)
theorem sadd_in (a b : Int) : I64 (sadd a b).1 := by unfold sadd I64; split <;> (try split) <;> simp <;> omega
theorem sadd_1 {a b : Int} (h : 9223372036854775807 < a + b) : sadd a b = (9223372036854775807, true) := if_pos h
theorem sadd_2 {a b : Int} (h : a + b < -9223372036854775808) : sadd a b = (-9223372036854775808, true) := by unfold sadd; rw [if_neg (by omega), if_pos h]
theorem sadd_3 {a b : Int} (h : -9223372036854775808 ≤ a + b ∧ a + b ≤ 9223372036854775807) : sadd a b = (a + b, false) := by unfold sadd; rw [if_neg (by omega), if_neg (by omega)]
def extN (q : List Nat) (b : Nat) : List Nat := q ++ List.replicate (b + 1 - q.length) 0
theorem extN_len (q : List Nat) (b : Nat) : (extN q b).length = max q.length (b + 1) := by unfold extN; simp; omega
theorem extN_of {q : List Nat} {b : Nat} (h : b < q.length) : extN q b = q := by unfold extN; rw [show b + 1 - q.length = 0 by omega]; simp
theorem extN_snoc {q : List Nat} {b : Nat} (h : q.length ≤ b) : extN (q ++ [0]) b = extN q b := by
 unfold extN
 rw [List.length_append, List.append_assoc, show b + 1 - q.length = (b + 1 - (q.length + [0].length)) + 1 by simp; omega, List.replicate_succ]
 rfl
def bumpN (q : List Nat) (b : Nat) : List Nat := (extN q b).set b (scount ((extN q b).getD b 0))
theorem bumpN_len (q : List Nat) (b : Nat) : (bumpN q b).length = max q.length (b + 1) := by unfold bumpN; rw [List.length_set, extN_len]
theorem extN_lt {q : List Nat} {b : Nat} (h : ∀ x ∈ q, x < 18446744073709551616) : ∀ x ∈ extN q b, x < 18446744073709551616 := by
 intro x hx
 rcases List.mem_append.1 hx with h1 | h1
 ·
  exact h x h1
 ·
  rw [(List.mem_replicate.1 h1).2]
  decide
theorem bumpN_lt {q : List Nat} {b : Nat} (h : ∀ x ∈ q, x < 18446744073709551616) : ∀ x ∈ bumpN q b, x < 18446744073709551616 := by
 intro x hx
 rcases List.mem_or_eq_of_mem_set hx with h1 | h1
 ·
  exact extN_lt h x h1
 ·
  rw [h1]
  exact scount_lt _
def begR (key : L) (kind v : Int) : Rw := ⟨key, kind, 1, v, v, v, false, if kind = 3 then bumpN [] (bl v) else []⟩
def addR (r : Rw) (v : Int) : Rw :=
 { key := r.key, kind := r.kind, many := scount r.many, sum := if r.kind = 2 then v else (sadd r.sum v).1, least := if v < r.least then v else r.least, most := if r.most < v then v else r.most, over := if r.kind = 2 then r.over else r.over || (sadd r.sum v).2, bk := if r.kind = 3 then bumpN r.bk (bl v) else r.bk }
theorem begR_in {key : L} {kind v : Int} (h : I64 v) : (begR key kind v).In := by
 refine ⟨by show 1 < _; decide, h, h, h, ?_⟩
 show ∀ x ∈ (if kind = 3 then bumpN [] (bl v) else []), _
 split
 ·
  exact bumpN_lt (by simp)
 ·
  simp
theorem addR_in {r : Rw} {v : Int} (h : r.In) (hv : I64 v) : (addR r v).In := by
 obtain ⟨h1, h2, h3, h4, h5⟩ := h
 refine ⟨scount_lt _, ?_, ?_, ?_, ?_⟩
 ·
  show I64 (if r.kind = 2 then v else (sadd r.sum v).1)
  split
  ·
   exact hv
  ·
   exact sadd_in _ _
 ·
  show I64 (if v < r.least then v else r.least)
  split
  ·
   exact hv
  ·
   exact h3
 ·
  show I64 (if r.most < v then v else r.most)
  split
  ·
   exact hv
  ·
   exact h4
 ·
  show ∀ x ∈ (if r.kind = 3 then bumpN r.bk (bl v) else r.bk), _
  split
  ·
   exact bumpN_lt h5
  ·
   exact h5
end Go.Proofs.YtdhonbahpcmmnaaGreatDoor.Bat
end
section
set_option linter.unusedVariables false
set_option linter.unusedSimpArgs false
namespace Go.Proofs.YtdhonbahpcmmnaaGreatDoor.Line
open Go Go.RowKit Go.Proofs.YtdhonbahpcmmnaaGreatDoor Go.Proofs.YtdhonbahpcmmnaaGreatDoor.Eng Go.Proofs.YtdhonbahpcmmnaaGreatDoorW.PrintWords
theorem et_t : ET Tryz.prog 89 143 2 32 := by
  obtain ⟨i, h1, h2, h3, h4⟩ := info_parts (P := Tryz.prog) (e := 143) (z := .agg #[.string ⟨#[]⟩, .string ⟨#[]⟩]) (size := 2) (bytes := 32) (by kernel_rfl)
  exact ⟨by kernel_rfl, ⟨i, _, h1, h2, h3, h4, rfl⟩, by decide⟩
theorem own_cap {w : World} {T : TypeId} {size : Nat} {F : List Nat} {A : Option Addr} {n cap : Nat} {xs : List (List Value)} (h : OwnX T size w F (.slice A n cap) xs) (hn : xs.length = n) : n ≤ cap := by
  rcases h with ⟨_, hv, _⟩ | ⟨b, c, _, hv, hr⟩
  · injection hv with _ h1 h2
    omega
  · injection hv with _ h1 h2
    have := hr.le
    omega
theorem kind_99 {c : UInt8} (h : c.toNat = 99) : kindP c = 1 := if_pos h
theorem kind_103 {c : UInt8} (h : c.toNat = 103) : kindP c = 2 := by unfold kindP; rw [if_neg (by omega), if_pos h]
theorem kind_104 {c : UInt8} (h : c.toNat = 104) : kindP c = 3 := by unfold kindP; rw [if_neg (by omega), if_neg (by omega), if_pos h]
theorem kind_0 {c : UInt8} (h : c.toNat ≠ 99) (h1 : c.toNat ≠ 103) (h2 : c.toNat ≠ 104) : kindP c = 0 := by unfold kindP; rw [if_neg h, if_neg h1, if_neg h2]
def ResR (w w' : World) (e : Ending) : Sum Ev Nat → Prop
  | .inr p => e = .returned (.tuple #[.agg #[.string (⟨#[]⟩), .slice none 0 0, .int .i64 0, .int .i64 0, .int .i64 0], .int .i64 (p : Int)]) ∧ Fr [] w w'
  | .inl ev => ∃ A n cp F, e = .returned (.tuple #[.agg #[.string (str ev.name), .slice A n cp, .int .i64 ev.kind, .int .i64 ev.value, .int .i64 ev.time], .int .i64 (-1)]) ∧ VX cT 2 w' F A ev.tags ∧ ev.tags.length = n ∧ n ≤ cp ∧ (∀ y ∈ F, w.heap.size ≤ y) ∧ Fr [] w w'
theorem ResR.fail {w w' : World} {p : Nat} (h : Fr [] w w') : ResR w w' (.returned (.tuple #[.agg #[.string (⟨#[]⟩), .slice none 0 0, .int .i64 0, .int .i64 0, .int .i64 0], .int .i64 (p : Int)])) (.inr p) := ⟨rfl, h⟩
theorem ResR.ok {w w' : World} {ev : Ev} {A : Option Addr} {n cp : Nat} {F : List Nat} (hn : ev.tags.length = n) (hc : n ≤ cp) (hT : VX cT 2 w' F A ev.tags) (hg : ∀ y ∈ F, w.heap.size ≤ y) (h : Fr [] w w') : ResR w w' (.returned (.tuple #[.agg #[.string (str ev.name), .slice A n cp, .int .i64 ev.kind, .int .i64 ev.value, .int .i64 ev.time], .int .i64 (-1)])) (.inl ev) := ⟨A, n, cp, F, rfl, hT, hn, hc, hg, h⟩
set_option maxRecDepth 100000 in
set_option maxHeartbeats 1000000 in
theorem parse_r (s : L) (w : World) (hs : s.length ≤ 100000) :
    Calls Tryz.prog 77 #[.string (str s)] w fun e w' => ResR w w' e (parseP s) := by
 have HA := Fr.refl [] w
 refine Ze Tryz.func77 _ <| Zsg <| Zb 2 #[.string (⟨#[]⟩), .slice none 0 0, J 0, J 0, J 0] 91 (fun g => Pt g 0) ?_
 intro g1 w2 HB4 F3 le5 _
 have ge_HA_g1 := Nat.le_trans HA.size le5
 refine Zr 1 <| Zdn <| Zsg <| Zb 4 #[.string (⟨#[]⟩), .slice none 0 0, J 0, J 0, J 0] 91 (fun g => Pt g 0) ?_
 intro g6 w7 HB9 F8 le10 _
 have ne_g1_g6 := ltn HB4.lt le10
 have HA := HA.step0 F3
 have ge_HA_g6 := Nat.le_trans HA.size le10
 refine Zdn <| Zsg <| Zr 1 <| Zc 19 (rrun_w s 0 _ (by omega) (by omega)) ?_
 rintro _ w11 ⟨rfl, F12⟩
 have he1 := runE_ge inW s 0
 have he2 := runE_le inW (show 0 ≤ s.length by omega)
 refine ⟨_, rfl, trivial, Zr 1 <| Zdn <| Zsg <| Zr 2 <| Zvs (hi := ((runE inW s 0 : Nat) : Int)) 22 (runE inW s 0) s (by rfl) (by omega) <| Zc 23 (word_r (s.take (runE inW s 0)) _ (by simp only [List.length_drop, List.length_take]; omega)) ?_⟩
 rintro _ w13 ⟨rfl, F14⟩
 have HB4 := ((HB4.k F8).k F12).k F14
 have HA := ((HA.step0 F8).step0 F12).step0 F14
 refine ⟨_, rfl, trivial, ?_⟩
 rcases Bool.eq_false_or_eq_true (isWord (s.take (runE inW s 0))) with hK15 | hK15
 ·
  rw [hK15]
  refine Zr 1 <| Zdn <| Zq <| Zsg <| Zr 2 <| Zdn <| ZF <| Zk <| Zq ?_
  have hps : parseP s = afterP s (tagsP s 6 (runE inW s 0) []) := pp_tags hK15
  refine WE.region <| Zr 2 <| Zvs (hi := ((runE inW s 0 : Nat) : Int)) 29 (runE inW s 0) s (by rfl) (by omega) <| Zr 1 <| Zst g6 0 #[.string (str (s.take (runE inW s 0))), .slice none 0 0, J 0, J 0, J 0] ((HB9.k F12).k F14) ?_
  intro w16 HB18 F17 _
  refine Zdn <| WE.seqJ (α := Nat × List Nat × Option Addr × Nat × (List (L × L))) (E := fun ⟨p, FT, At, ct, acc⟩ => [(0, .string (str s)), (2, Pt g1 0), (3, J 0), (4, Pt g6 0), (5, J (p : Int))]) (I := fun ⟨p, FT, At, ct, acc⟩ wr => parseP s = restP s acc p ∧ p ≤ s.length ∧ Blk wr g1 #[.string (⟨#[]⟩), .slice none 0 0, J 0, J 0, J 0] 91 ∧ Blk wr g6 #[.string (str (s.take (runE inW s 0))), .slice At acc.length ct, J 0, J 0, J 0] 91 ∧ OwnX 143 2 wr FT (.slice At acc.length ct) (List.map cT acc) ∧ g1 ∉ FT ∧ g6 ∉ FT ∧ (∀ y ∈ FT, (World.heap w).size ≤ y) ∧ Fr [] w wr) ?_ ?_
  ·
   rintro ⟨p, FT, At, ct, acc⟩ wr ⟨hps, hp, HB4, HB18, HO_FT, nin_g1_FT, nin_g6_FT, ge_HA_FT, HA⟩
   refine Zq <| Zsg <| Zr 3 <| ZoP 107 (((p : Int) : Int) ≥ (s.length : Int)) ?_ ?_
   ·
    intro h19
    refine Zr 6 <| Zdn <| ZT <| Zq ?_
    have hps : parseP s = .inr p := hps.trans (rp_1 (fun h_ => by have a_ := h_.1; have b_ := h_.2; omega))
    refine WE.region <| Zr 2 <| Zst g1 0 #[.string (⟨#[]⟩), .slice none 0 0, J 0, J 0, J 0] HB4 ?_
    intro w20 HB22 F21 _
    refine Zr 1 <| Zdn <| WE.ret <| WQ.thenR <| WQ.ret2 (fn := Tryz.f77) (show Tryz.f77.results = #[.cell 2 91, .tmp 3] by kernel_rfl) (show resOk _ _ _ _ (.agg #[.string (⟨#[]⟩), .slice none 0 0, J 0, J 0, J 0]) from ⟨by kernel_rfl, ⟨g1, 0, none⟩, by kernel_rfl, ldVarB [.string (⟨#[]⟩), .slice none 0 0, J 0, J 0, J 0] (by kernel_rfl) (by kernel_rfl) (by kernel_rfl) HB22 (by kernel_rfl)⟩) (show resOk _ _ _ _ (J (p : Int)) from ⟨by kernel_rfl, by kernel_rfl⟩) ?_
    rw [hps]
    exact ResR.fail (HA.step F21 (inSR ge_HA_g1 inS0))
   intro h19
   refine Zr 3 <| Zis (i := (p : Int)) 111 p s (by rfl) (by omega) <| ZoN 112 ((((gB s p).toNat : Int) : Int) = (32 : Int)) ?_ ?_
   ·
    intro h23
    refine Zr 1 <| Zdn <| ZF <| Zk <| Zq ?_
    have hA32 : isAt s p 32 := ⟨by omega, by omega⟩
    refine WE.region <| Zr 1 <| Zw 117 ((p : Int) + 1) ((p + 1 : Nat) : Int) <| Zr 1 <| Zdn <| Zq <| Zsg <| Zr 3 <| ZoP 121 (((p + 1 : Int) : Int) ≥ (s.length : Int)) ?_ ?_
    ·
     intro h24
     refine Zdn <| ZT <| Zq ?_
     have hps : parseP s = .inr (p + 1) := hps.trans (rp_2 hA32 (by omega))
     refine WE.region <| Zr 2 <| Zst g1 0 #[.string (⟨#[]⟩), .slice none 0 0, J 0, J 0, J 0] HB4 ?_
     intro w25 HB27 F26 _
     refine Zr 1 <| Zdn <| WE.ret <| WQ.thenR <| WQ.ret2 (fn := Tryz.f77) (show Tryz.f77.results = #[.cell 2 91, .tmp 3] by kernel_rfl) (show resOk _ _ _ _ (.agg #[.string (⟨#[]⟩), .slice none 0 0, J 0, J 0, J 0]) from ⟨by kernel_rfl, ⟨g1, 0, none⟩, by kernel_rfl, ldVarB [.string (⟨#[]⟩), .slice none 0 0, J 0, J 0, J 0] (by kernel_rfl) (by kernel_rfl) (by kernel_rfl) HB27 (by kernel_rfl)⟩) (show resOk _ _ _ _ (J ((p + 1 : Nat) : Int)) from ⟨by kernel_rfl, by kernel_rfl⟩) ?_
     rw [hps]
     exact ResR.fail (HA.step F26 (inSR ge_HA_g1 inS0))
    intro h24
    refine Zdn <| ZF <| Zk <| WE.seqJ (α := Int) (E := fun kv => [(0, .string (str s)), (2, Pt g1 0), (3, J 0), (4, Pt g6 0), (5, J ((p + 1 : Nat) : Int))]) (I := fun kv wr => kindP (gB s (p + 1)) = kv ∧ kindP (gB s (p + 1)) ≠ 0 ∧ ¬ s.length ≤ p + 1 ∧ Blk wr g1 #[.string (⟨#[]⟩), .slice none 0 0, J 0, J 0, J 0] 91 ∧ Blk wr g6 #[.string (str (s.take (runE inW s 0))), .slice At acc.length ct, J kv, J 0, J 0] 91 ∧ OwnX 143 2 wr FT (.slice At acc.length ct) (List.map cT acc) ∧ Fr [] w wr) ?_ ?_
    ·
     rintro kv wr ⟨hk1, hk0, hl1, HB4, HB18, HO_FT, HA⟩
     refine Zsg <| Zr 1 <| Zw 139 (((p + 1 : Nat) : Int) + 1) ((p + 2 : Nat) : Int) <| Zr 1 <| Zdn <| Zq <| Zsg <| Zr 1 <| Zdn <| WE.block <| WE.unroll <| WL.go <| Zq <| Zsg <| Zr 2 <| Zdn <| ZT <| Zk <| Zq <| WE.block <| Zq <| Zsg <| Zr 3 <| ZoP 147 (((p + 2 : Int) : Int) ≥ (s.length : Int)) ?_ ?_
     ·
      intro h28
      refine Zr 6 <| Zdn <| ZT <| Zq ?_
      have hps : parseP s = .inr (p + 2) := hps.trans (rp_4 hA32 hl1 hk0 (fun h_ => by have a_ := h_.1; have b_ := h_.2; omega))
      refine WE.region <| Zr 2 <| Zst g1 0 #[.string (⟨#[]⟩), .slice none 0 0, J 0, J 0, J 0] HB4 ?_
      intro w29 HB31 F30 _
      refine Zr 1 <| Zdn <| WE.ret <| WQ.thenR <| WQ.blkR <| WQ.thenR <| WQ.thenR <| WQ.blkR <| WQ.thenR <| WQ.ret2 (fn := Tryz.f77) (show Tryz.f77.results = #[.cell 2 91, .tmp 3] by kernel_rfl) (show resOk _ _ _ _ (.agg #[.string (⟨#[]⟩), .slice none 0 0, J 0, J 0, J 0]) from ⟨by kernel_rfl, ⟨g1, 0, none⟩, by kernel_rfl, ldVarB [.string (⟨#[]⟩), .slice none 0 0, J 0, J 0, J 0] (by kernel_rfl) (by kernel_rfl) (by kernel_rfl) HB31 (by kernel_rfl)⟩) (show resOk _ _ _ _ (J ((p + 2 : Nat) : Int)) from ⟨by kernel_rfl, by kernel_rfl⟩) ?_
      rw [hps]
      exact ResR.fail (HA.step F30 (inSR ge_HA_g1 inS0))
     intro h28
     refine Zr 3 <| Zis (i := ((p + 2 : Nat) : Int)) 151 (p + 2) s (by rfl) (by omega) <| ZoN 152 ((((gB s (p + 2)).toNat : Int) : Int) = (32 : Int)) ?_ ?_
     ·
      intro h32
      refine Zr 1 <| Zdn <| ZF <| Zk <| Zq ?_
      have hB32 : isAt s (p + 2) 32 := ⟨by omega, by omega⟩
      have hps := hps.trans (rp_5 hA32 hl1 hk0 hB32)
      refine WE.region <| Zr 1 <| Zw 157 (((p + 2 : Nat) : Int) + 1) ((p + 3 : Nat) : Int) <| Zr 1 <| Zdn <| Zsg <| Zr 2 <| Zdn <| WE.seqJ (α := Nat) (E := fun Q => [(0, .string (str s)), (2, Pt g1 0), (3, J 0), (4, Pt g6 0), (5, J ((p + 2 : Nat) : Int)), (11, J 0), (12, J ((p + 3 : Nat) : Int)), (13, J (Q : Int)), (141, .bool true), (153, .bool false)]) (I := fun Q wr => numE s (p + 3) = runE isD s Q ∧ Q ≤ s.length ∧ p + 3 ≤ Q ∧ Blk wr g1 #[.string (⟨#[]⟩), .slice none 0 0, J 0, J 0, J 0] 91 ∧ Blk wr g6 #[.string (str (s.take (runE inW s 0))), .slice At acc.length ct, J kv, J 0, J 0] 91 ∧ OwnX 143 2 wr FT (.slice At acc.length ct) (List.map cT acc) ∧ Fr [] w wr) ?_ ?_
      ·
       rintro Q wr ⟨hnE, hQ, hPQ, HB4, HB18, HO_FT, HA⟩
       refine Zsg <| Zr 2 <| Zc 173 (rrun_d s Q _ (by omega) (by omega)) ?_
       rintro _ w33 ⟨rfl, F34⟩
       have he1 := runE_ge isD s Q
       have he2 := runE_le isD (show Q ≤ s.length by omega)
       rw [← hnE] at he1 he2
       rw [← hnE]
       refine ⟨_, rfl, trivial, Zr 1 <| Zdn <| Zsg <| Zr 1 <| Zdn <| Zsg <| Zr 1 <| Zdn <| Zq <| Zsg <| Zr 2 <| Zdn <| ZT <| Zsg <| Zr 1 <| Zdn <| WE.region <| Zr 1 <| Zdn <| Zsg <| Zr 3 <| Zvt (lo := ((p + 3 : Nat) : Int)) (hi := ((numE s (p + 3) : Nat) : Int)) 180 (p + 3) (numE s (p + 3)) s (by rfl) (by rfl) (by omega) (by omega) <| Zr 2 <| Zc 183 (value_part s (p + 3) _ (-9223372036854775808) 9223372036854775807 (by omega) (by omega)) ?_⟩
       rintro _ w35 ⟨v37, b38, rfl, hv39, F36⟩
       have HB4 := (HB4.k F34).k F36
       have HA := (HA.step0 F34).step0 F36
       refine ⟨_, rfl, trivial, ?_⟩
       cases b38
       ·
        have hv39 : numP s (p + 3) (-9223372036854775808) 9223372036854775807 = none := hv39.symm
        refine Zr 5 <| Zdn <| Zq <| Zsg <| Zr 2 <| Zdn <| ZT <| Zq ?_
        rw [hv39] at hps
        have hps : parseP s = .inr (p + 3) := hps
        refine WE.region <| Zr 2 <| Zst g1 0 #[.string (⟨#[]⟩), .slice none 0 0, J 0, J 0, J 0] HB4 ?_
        intro w40 HB42 F41 _
        refine Zr 1 <| Zdn <| WE.ret <| WQ.thenR <| WQ.blkR <| WQ.thenR <| WQ.thenR <| WQ.blkR <| WQ.thenR <| WQ.ret2 (fn := Tryz.f77) (show Tryz.f77.results = #[.cell 2 91, .tmp 3] by kernel_rfl) (show resOk _ _ _ _ (.agg #[.string (⟨#[]⟩), .slice none 0 0, J 0, J 0, J 0]) from ⟨by kernel_rfl, ⟨g1, 0, none⟩, by kernel_rfl, ldVarB [.string (⟨#[]⟩), .slice none 0 0, J 0, J 0, J 0] (by kernel_rfl) (by kernel_rfl) (by kernel_rfl) HB42 (by kernel_rfl)⟩) (show resOk _ _ _ _ (J ((p + 3 : Nat) : Int)) from ⟨by kernel_rfl, by kernel_rfl⟩) ?_
        rw [hps]
        exact ResR.fail (HA.step F41 (inSR ge_HA_g1 inS0))
       ·
        have hv39 : numP s (p + 3) (-9223372036854775808) 9223372036854775807 = some v37 := hv39.symm
        refine Zr 5 <| Zdn <| Zq <| Zsg <| Zr 2 <| Zdn <| ZF <| Zk <| Zq <| Zq ?_
        rw [hv39] at hps
        refine WE.region <| Zr 2 <| Zdn <| ZT <| WE.region <| Zr 2 <| Zst g6 3 #[.string (str (s.take (runE inW s 0))), .slice At acc.length ct, J kv, J v37, J 0] ((HB18.k F34).k F36) ?_
        intro w43 HB45 F44 _
        refine Zdn <| WE.region <| Zr 2 <| Zd <| WQ.blkN <| Zn <| WE.region <| Zr 3 <| Zd <| WQ.thenL <| WL.go <| Zq <| Zsg <| Zr 2 <| Zdn <| ZT <| Zk <| Zq <| WE.block <| Zq <| Zsg <| Zr 3 <| ZoP 147 (((numE s (p + 3) : Int) : Int) ≥ (s.length : Int)) ?_ ?_
        ·
         intro h46
         refine Zr 6 <| Zdn <| ZT <| Zq ?_
         have hps : parseP s = .inr (numE s (p + 3)) := hps.trans (vp_1 (fun h_ => by have a_ := h_.1; have b_ := h_.2; omega))
         refine WE.region <| Zr 2 <| Zst g1 0 #[.string (⟨#[]⟩), .slice none 0 0, J 0, J 0, J 0] (HB4.j F44 ne_g1_g6) ?_
         intro w47 HB49 F48 _
         refine Zr 1 <| Zdn <| WE.ret <| WQ.thenR <| WQ.blkR <| WQ.thenR <| WQ.thenR <| WQ.blkR <| WQ.thenR <| WQ.ret2 (fn := Tryz.f77) (show Tryz.f77.results = #[.cell 2 91, .tmp 3] by kernel_rfl) (show resOk _ _ _ _ (.agg #[.string (⟨#[]⟩), .slice none 0 0, J 0, J 0, J 0]) from ⟨by kernel_rfl, ⟨g1, 0, none⟩, by kernel_rfl, ldVarB [.string (⟨#[]⟩), .slice none 0 0, J 0, J 0, J 0] (by kernel_rfl) (by kernel_rfl) (by kernel_rfl) HB49 (by kernel_rfl)⟩) (show resOk _ _ _ _ (J ((numE s (p + 3) : Nat) : Int)) from ⟨by kernel_rfl, by kernel_rfl⟩) ?_
         rw [hps]
         exact ResR.fail ((HA.step F44 (inSR ge_HA_g6 inS0)).step F48 (inSR ge_HA_g1 inS0))
        intro h46
        refine Zr 3 <| Zis (i := ((numE s (p + 3) : Nat) : Int)) 151 (numE s (p + 3)) s (by rfl) (by omega) <| ZoN 152 ((((gB s (numE s (p + 3))).toNat : Int) : Int) = (32 : Int)) ?_ ?_
        ·
         intro h50
         refine Zr 1 <| Zdn <| ZF <| Zk <| Zq ?_
         have hB32 : isAt s (numE s (p + 3)) 32 := ⟨by omega, by omega⟩
         have hps := hps.trans (vp_2 hB32)
         refine WE.region <| Zr 1 <| Zw 157 (((numE s (p + 3) : Nat) : Int) + 1) ((numE s (p + 3) + 1 : Nat) : Int) <| Zr 1 <| Zdn <| Zsg <| Zr 2 <| Zdn <| WE.seqJ (α := Nat) (E := fun Q => [(0, .string (str s)), (2, Pt g1 0), (3, J 0), (4, Pt g6 0), (5, J ((numE s (p + 3) : Nat) : Int)), (11, J 1), (12, J ((numE s (p + 3) + 1 : Nat) : Int)), (13, J (Q : Int)), (14, J (-9223372036854775808)), (15, J 9223372036854775807), (16, J v37), (17, .bool true), (141, .bool true), (153, .bool false), (175, .bool true), (187, .bool false), (191, .bool true)]) (I := fun Q wr => numE s (numE s (p + 3) + 1) = runE isD s Q ∧ Q ≤ s.length ∧ numE s (p + 3) + 1 ≤ Q ∧ Blk wr g1 #[.string (⟨#[]⟩), .slice none 0 0, J 0, J 0, J 0] 91 ∧ Blk wr g6 #[.string (str (s.take (runE inW s 0))), .slice At acc.length ct, J kv, J v37, J 0] 91 ∧ OwnX 143 2 wr FT (.slice At acc.length ct) (List.map cT acc) ∧ Fr [] w wr) ?_ ?_
         ·
          rintro Q wr ⟨hnE, hQ, hPQ, HB4, HB45, HO_FT, HA⟩
          refine Zsg <| Zr 2 <| Zc 173 (rrun_d s Q _ (by omega) (by omega)) ?_
          rintro _ w51 ⟨rfl, F52⟩
          have he1 := runE_ge isD s Q
          have he2 := runE_le isD (show Q ≤ s.length by omega)
          rw [← hnE] at he1 he2
          rw [← hnE]
          refine ⟨_, rfl, trivial, Zr 1 <| Zdn <| Zsg <| Zr 1 <| Zdn <| Zsg <| Zr 1 <| Zdn <| Zq <| Zsg <| Zr 2 <| Zdn <| ZF <| Zk <| Zsg <| Zr 3 <| Zvt (lo := ((numE s (p + 3) + 1 : Nat) : Int)) (hi := ((numE s (numE s (p + 3) + 1) : Nat) : Int)) 180 (numE s (p + 3) + 1) (numE s (numE s (p + 3) + 1)) s (by rfl) (by rfl) (by omega) (by omega) <| Zr 2 <| Zc 183 (value_part s (numE s (p + 3) + 1) _ 0 1099511627776 (by omega) (by omega)) ?_⟩
          rintro _ w53 ⟨v55, b56, rfl, hv57, F54⟩
          have HB4 := (HB4.k F52).k F54
          have HA := (HA.step0 F52).step0 F54
          refine ⟨_, rfl, trivial, ?_⟩
          cases b56
          ·
           have hv57 : numP s (numE s (p + 3) + 1) 0 1099511627776 = none := hv57.symm
           refine Zr 5 <| Zdn <| Zq <| Zsg <| Zr 2 <| Zdn <| ZT <| Zq ?_
           rw [hv57] at hps
           have hps : parseP s = .inr (numE s (p + 3) + 1) := hps
           refine WE.region <| Zr 2 <| Zst g1 0 #[.string (⟨#[]⟩), .slice none 0 0, J 0, J 0, J 0] HB4 ?_
           intro w58 HB60 F59 _
           refine Zr 1 <| Zdn <| WE.ret <| WQ.thenR <| WQ.blkR <| WQ.thenR <| WQ.thenR <| WQ.blkR <| WQ.thenR <| WQ.ret2 (fn := Tryz.f77) (show Tryz.f77.results = #[.cell 2 91, .tmp 3] by kernel_rfl) (show resOk _ _ _ _ (.agg #[.string (⟨#[]⟩), .slice none 0 0, J 0, J 0, J 0]) from ⟨by kernel_rfl, ⟨g1, 0, none⟩, by kernel_rfl, ldVarB [.string (⟨#[]⟩), .slice none 0 0, J 0, J 0, J 0] (by kernel_rfl) (by kernel_rfl) (by kernel_rfl) HB60 (by kernel_rfl)⟩) (show resOk _ _ _ _ (J ((numE s (p + 3) + 1 : Nat) : Int)) from ⟨by kernel_rfl, by kernel_rfl⟩) ?_
           rw [hps]
           exact ResR.fail (HA.step F59 (inSR ge_HA_g1 inS0))
          ·
           have hv57 : numP s (numE s (p + 3) + 1) 0 1099511627776 = some v55 := hv57.symm
           refine Zr 5 <| Zdn <| Zq <| Zsg <| Zr 2 <| Zdn <| ZF <| Zk <| Zq <| Zq ?_
           rw [hv57] at hps
           refine WE.region <| Zr 2 <| Zdn <| ZF <| WE.region <| Zr 2 <| Zst g6 4 #[.string (str (s.take (runE inW s 0))), .slice At acc.length ct, J kv, J v37, J v55] ((HB45.k F52).k F54) ?_
           intro w61 HB63 F62 _
           refine Zdn <| WE.region <| Zr 2 <| Zd <| WQ.blkN <| Zn <| WE.region <| Zr 3 <| Zd <| WQ.thenL <| WL.go <| Zq <| Zsg <| Zr 2 <| Zdn <| ZF <| WE.exit <| WQ.thenE <| WQ.thenE <| WQ.blkE <| Zn <| Zq <| Zsg <| Zr 3 <| ZoP 200 (((numE s (numE s (p + 3) + 1) : Int) : Int) < (s.length : Int)) ?_ ?_
           ·
            intro h64
            refine Zdn <| ZT <| Zq ?_
            have hps : parseP s = .inr (numE s (numE s (p + 3) + 1)) := hps.trans (tp_1 (by omega))
            refine WE.region <| Zr 2 <| Zst g1 0 #[.string (⟨#[]⟩), .slice none 0 0, J 0, J 0, J 0] (HB4.j F62 ne_g1_g6) ?_
            intro w65 HB67 F66 _
            refine Zr 1 <| Zdn <| WE.ret <| WQ.thenR <| WQ.ret2 (fn := Tryz.f77) (show Tryz.f77.results = #[.cell 2 91, .tmp 3] by kernel_rfl) (show resOk _ _ _ _ (.agg #[.string (⟨#[]⟩), .slice none 0 0, J 0, J 0, J 0]) from ⟨by kernel_rfl, ⟨g1, 0, none⟩, by kernel_rfl, ldVarB [.string (⟨#[]⟩), .slice none 0 0, J 0, J 0, J 0] (by kernel_rfl) (by kernel_rfl) (by kernel_rfl) HB67 (by kernel_rfl)⟩) (show resOk _ _ _ _ (J ((numE s (numE s (p + 3) + 1) : Nat) : Int)) from ⟨by kernel_rfl, by kernel_rfl⟩) ?_
            rw [hps]
            exact ResR.fail ((HA.step F62 (inSR ge_HA_g6 inS0)).step F66 (inSR ge_HA_g1 inS0))
           intro h64
           refine Zdn <| ZF <| Zk <| Zq ?_
           have hps := hps.trans (tp_2 (by omega))
           refine WE.region <| Zlb 203 [.string (str (s.take (runE inW s 0))), .slice At acc.length ct, J kv, J v37, J v55] g6 0 (same HB63) <| Zst g1 0 #[.string (str (s.take (runE inW s 0))), .slice At acc.length ct, J kv, J v37, J v55] (HB4.j F62 ne_g1_g6) ?_
           intro w68 HB70 F69 _
           refine Zr 1 <| Zdn <| WE.ret <| WQ.ret2 (fn := Tryz.f77) (show Tryz.f77.results = #[.cell 2 91, .tmp 3] by kernel_rfl) (show resOk _ _ _ _ (.agg #[.string (str (s.take (runE inW s 0))), .slice At acc.length ct, J kv, J v37, J v55]) from ⟨by kernel_rfl, ⟨g1, 0, none⟩, by kernel_rfl, ldVarB [.string (str (s.take (runE inW s 0))), .slice At acc.length ct, J kv, J v37, J v55] (by kernel_rfl) (by kernel_rfl) (by kernel_rfl) HB70 (by kernel_rfl)⟩) (show resOk _ _ _ _ (J (-1)) from ⟨by kernel_rfl, by kernel_rfl⟩) ?_
           rw [hps]
           rw [hk1]
           have HO_FT := (((HO_FT.keep F52 dj0).keep F54 dj0).keep F62 (djB nin_g6_FT)).keep F69 (djB nin_g1_FT)
           exact ResR.ok (ev := ⟨part s 0, acc, kv, v37, v55⟩) rfl (own_cap HO_FT (List.length_map _)) (VX.of_own HO_FT) ge_HA_FT ((HA.step F62 (inSR ge_HA_g6 inS0)).step F69 (inSR ge_HA_g1 inS0))
         have HO_FT := ((HO_FT.keep F34 dj0).keep F36 dj0).keep F44 (djB nin_g6_FT)
         refine Zsg <| Zr 3 <| ZoP 162 (((numE s (p + 3) + 1 : Int) : Int) < (s.length : Int)) ?_ ?_
         ·
          intro h71
          refine Zr 3 <| Zis (i := ((numE s (p + 3) + 1 : Nat) : Int)) 166 (numE s (p + 3) + 1) s (by rfl) (by omega) <| ZoP 167 ((((gB s (numE s (p + 3) + 1)).toNat : Int) : Int) = (45 : Int)) ?_ ?_
          ·
           intro h72
           refine Zr 1 <| Zdn <| ZT ?_
           have hnB : numB s (numE s (p + 3) + 1) = numE s (p + 3) + 1 + 1 := if_pos ⟨by omega, by omega⟩
           refine WE.region <| Zr 1 <| Zw 170 (((numE s (p + 3) + 1 : Nat) : Int) + 1) (((numE s (p + 3) + 1) + 1 : Nat) : Int) <| Zr 1 <| Zd ?_
           have hnE : numE s (numE s (p + 3) + 1) = runE isD s (numE s (p + 3) + 1 + 1) := congrArg (runE isD s) hnB
           refine WQ.round ?_
           intro a_ ha_
           refine ⟨numE s (p + 3) + 1 + 1, ha_.keep [0, 2, 3, 4, 5, 11, 12, 13, 14, 15, 16, 17, 141, 153, 175, 187, 191] (by kernel_rfl), ?_⟩
           exact ⟨hnE, by omega, by omega, (HB4.j F44 ne_g1_g6), HB45, HO_FT, (HA.step F44 (inSR ge_HA_g6 inS0))⟩
          intro h72
          refine Zr 1 <| Zdn <| ZF <| WE.skip ?_
          have hnB : numB s (numE s (p + 3) + 1) = numE s (p + 3) + 1 := if_neg (fun h_ => by have a_ := h_.1; have b_ := h_.2; omega)
          have hnE : numE s (numE s (p + 3) + 1) = runE isD s (numE s (p + 3) + 1) := congrArg (runE isD s) hnB
          refine WQ.round ?_
          intro a_ ha_
          refine ⟨numE s (p + 3) + 1, ha_.keep [0, 2, 3, 4, 5, 11, 12, 13, 14, 15, 16, 17, 141, 153, 175, 187, 191] (by kernel_rfl), ?_⟩
          exact ⟨hnE, by omega, by omega, (HB4.j F44 ne_g1_g6), HB45, HO_FT, (HA.step F44 (inSR ge_HA_g6 inS0))⟩
         intro h71
         refine Zr 6 <| Zdn <| ZF <| WE.skip ?_
         have hnB : numB s (numE s (p + 3) + 1) = numE s (p + 3) + 1 := if_neg (fun h_ => by have a_ := h_.1; have b_ := h_.2; omega)
         have hnE : numE s (numE s (p + 3) + 1) = runE isD s (numE s (p + 3) + 1) := congrArg (runE isD s) hnB
         refine WQ.round ?_
         intro a_ ha_
         refine ⟨numE s (p + 3) + 1, ha_.keep [0, 2, 3, 4, 5, 11, 12, 13, 14, 15, 16, 17, 141, 153, 175, 187, 191] (by kernel_rfl), ?_⟩
         exact ⟨hnE, by omega, by omega, (HB4.j F44 ne_g1_g6), HB45, HO_FT, (HA.step F44 (inSR ge_HA_g6 inS0))⟩
        intro h50
        refine Zr 1 <| Zdn <| ZT <| Zq ?_
        have hps : parseP s = .inr (numE s (p + 3)) := hps.trans (vp_1 (fun h_ => by have a_ := h_.1; have b_ := h_.2; omega))
        refine WE.region <| Zr 2 <| Zst g1 0 #[.string (⟨#[]⟩), .slice none 0 0, J 0, J 0, J 0] (HB4.j F44 ne_g1_g6) ?_
        intro w73 HB75 F74 _
        refine Zr 1 <| Zdn <| WE.ret <| WQ.thenR <| WQ.blkR <| WQ.thenR <| WQ.thenR <| WQ.blkR <| WQ.thenR <| WQ.ret2 (fn := Tryz.f77) (show Tryz.f77.results = #[.cell 2 91, .tmp 3] by kernel_rfl) (show resOk _ _ _ _ (.agg #[.string (⟨#[]⟩), .slice none 0 0, J 0, J 0, J 0]) from ⟨by kernel_rfl, ⟨g1, 0, none⟩, by kernel_rfl, ldVarB [.string (⟨#[]⟩), .slice none 0 0, J 0, J 0, J 0] (by kernel_rfl) (by kernel_rfl) (by kernel_rfl) HB75 (by kernel_rfl)⟩) (show resOk _ _ _ _ (J ((numE s (p + 3) : Nat) : Int)) from ⟨by kernel_rfl, by kernel_rfl⟩) ?_
        rw [hps]
        exact ResR.fail ((HA.step F44 (inSR ge_HA_g6 inS0)).step F74 (inSR ge_HA_g1 inS0))
      refine Zsg <| Zr 3 <| ZoP 162 (((p + 3 : Int) : Int) < (s.length : Int)) ?_ ?_
      ·
       intro h76
       refine Zr 3 <| Zis (i := ((p + 3 : Nat) : Int)) 166 (p + 3) s (by rfl) (by omega) <| ZoP 167 ((((gB s (p + 3)).toNat : Int) : Int) = (45 : Int)) ?_ ?_
       ·
        intro h77
        refine Zr 1 <| Zdn <| ZT ?_
        have hnB : numB s (p + 3) = p + 3 + 1 := if_pos ⟨by omega, by omega⟩
        refine WE.region <| Zr 1 <| Zw 170 (((p + 3 : Nat) : Int) + 1) (((p + 3) + 1 : Nat) : Int) <| Zr 1 <| Zd ?_
        have hnE : numE s (p + 3) = runE isD s (p + 3 + 1) := congrArg (runE isD s) hnB
        refine WQ.round ?_
        intro a_ ha_
        refine ⟨p + 3 + 1, ha_.keep [0, 2, 3, 4, 5, 11, 12, 13, 141, 153] (by kernel_rfl), ?_⟩
        exact ⟨hnE, by omega, by omega, HB4, HB18, HO_FT, HA⟩
       intro h77
       refine Zr 1 <| Zdn <| ZF <| WE.skip ?_
       have hnB : numB s (p + 3) = p + 3 := if_neg (fun h_ => by have a_ := h_.1; have b_ := h_.2; omega)
       have hnE : numE s (p + 3) = runE isD s (p + 3) := congrArg (runE isD s) hnB
       refine WQ.round ?_
       intro a_ ha_
       refine ⟨p + 3, ha_.keep [0, 2, 3, 4, 5, 11, 12, 13, 141, 153] (by kernel_rfl), ?_⟩
       exact ⟨hnE, by omega, by omega, HB4, HB18, HO_FT, HA⟩
      intro h76
      refine Zr 6 <| Zdn <| ZF <| WE.skip ?_
      have hnB : numB s (p + 3) = p + 3 := if_neg (fun h_ => by have a_ := h_.1; have b_ := h_.2; omega)
      have hnE : numE s (p + 3) = runE isD s (p + 3) := congrArg (runE isD s) hnB
      refine WQ.round ?_
      intro a_ ha_
      refine ⟨p + 3, ha_.keep [0, 2, 3, 4, 5, 11, 12, 13, 141, 153] (by kernel_rfl), ?_⟩
      exact ⟨hnE, by omega, by omega, HB4, HB18, HO_FT, HA⟩
     intro h32
     refine Zr 1 <| Zdn <| ZT <| Zq ?_
     have hps : parseP s = .inr (p + 2) := hps.trans (rp_4 hA32 hl1 hk0 (fun h_ => by have a_ := h_.1; have b_ := h_.2; omega))
     refine WE.region <| Zr 2 <| Zst g1 0 #[.string (⟨#[]⟩), .slice none 0 0, J 0, J 0, J 0] HB4 ?_
     intro w78 HB80 F79 _
     refine Zr 1 <| Zdn <| WE.ret <| WQ.thenR <| WQ.blkR <| WQ.thenR <| WQ.thenR <| WQ.blkR <| WQ.thenR <| WQ.ret2 (fn := Tryz.f77) (show Tryz.f77.results = #[.cell 2 91, .tmp 3] by kernel_rfl) (show resOk _ _ _ _ (.agg #[.string (⟨#[]⟩), .slice none 0 0, J 0, J 0, J 0]) from ⟨by kernel_rfl, ⟨g1, 0, none⟩, by kernel_rfl, ldVarB [.string (⟨#[]⟩), .slice none 0 0, J 0, J 0, J 0] (by kernel_rfl) (by kernel_rfl) (by kernel_rfl) HB80 (by kernel_rfl)⟩) (show resOk _ _ _ _ (J ((p + 2 : Nat) : Int)) from ⟨by kernel_rfl, by kernel_rfl⟩) ?_
     rw [hps]
     exact ResR.fail (HA.step F79 (inSR ge_HA_g1 inS0))
    refine Zq ?_
    have hl1 : ¬ s.length ≤ p + 1 := by omega
    refine WE.region <| Zr 2 <| Zis (i := ((p + 1 : Nat) : Int)) 126 (p + 1) s (by rfl) (by omega) <| Zdn <| WE.block <| Zsg <| ZoP 130 ((((gB s (p + 1)).toNat : Int) : Int) = (99 : Int)) ?_ ?_
    ·
     intro h81
     refine Zr 1 <| Zdn <| ZT ?_
     have hk1 : kindP (gB s (p + 1)) = 1 := kind_99 (by omega)
     have hk0 : kindP (gB s (p + 1)) ≠ 0 := by omega
     refine WE.region <| Zr 1 <| Zst g6 2 #[.string (str (s.take (runE inW s 0))), .slice At acc.length ct, J 1, J 0, J 0] HB18 ?_
     intro w82 HB84 F83 _
     refine Zd <| WQ.blkN <| WQ.round ?_
     intro a_ ha_
     refine ⟨1, ha_.keep [0, 2, 3, 4, 5] (by kernel_rfl), ?_⟩
     exact ⟨hk1, hk0, hl1, (HB4.j F83 ne_g1_g6), HB84, (HO_FT.keep F83 (djB nin_g6_FT)), (HA.step F83 (inSR ge_HA_g6 inS0))⟩
    intro h81
    refine Zr 1 <| Zdn <| ZF <| Zsg <| ZoP 133 ((((gB s (p + 1)).toNat : Int) : Int) = (103 : Int)) ?_ ?_
    ·
     intro h85
     refine Zr 1 <| Zdn <| ZT ?_
     have hk1 : kindP (gB s (p + 1)) = 2 := kind_103 (by omega)
     have hk0 : kindP (gB s (p + 1)) ≠ 0 := by omega
     refine WE.region <| Zr 1 <| Zst g6 2 #[.string (str (s.take (runE inW s 0))), .slice At acc.length ct, J 2, J 0, J 0] HB18 ?_
     intro w86 HB88 F87 _
     refine Zd <| WQ.blkN <| WQ.round ?_
     intro a_ ha_
     refine ⟨2, ha_.keep [0, 2, 3, 4, 5] (by kernel_rfl), ?_⟩
     exact ⟨hk1, hk0, hl1, (HB4.j F87 ne_g1_g6), HB88, (HO_FT.keep F87 (djB nin_g6_FT)), (HA.step F87 (inSR ge_HA_g6 inS0))⟩
    intro h85
    refine Zr 1 <| Zdn <| ZF <| Zsg <| ZoP 136 ((((gB s (p + 1)).toNat : Int) : Int) = (104 : Int)) ?_ ?_
    ·
     intro h89
     refine Zr 1 <| Zdn <| ZT ?_
     have hk1 : kindP (gB s (p + 1)) = 3 := kind_104 (by omega)
     have hk0 : kindP (gB s (p + 1)) ≠ 0 := by omega
     refine WE.region <| Zr 1 <| Zst g6 2 #[.string (str (s.take (runE inW s 0))), .slice At acc.length ct, J 3, J 0, J 0] HB18 ?_
     intro w90 HB92 F91 _
     refine Zd <| WQ.blkN <| WQ.round ?_
     intro a_ ha_
     refine ⟨3, ha_.keep [0, 2, 3, 4, 5] (by kernel_rfl), ?_⟩
     exact ⟨hk1, hk0, hl1, (HB4.j F91 ne_g1_g6), HB92, (HO_FT.keep F91 (djB nin_g6_FT)), (HA.step F91 (inSR ge_HA_g6 inS0))⟩
    intro h89
    refine Zr 1 <| Zdn <| ZF <| Zq ?_
    have hps : parseP s = .inr (p + 1) := hps.trans (rp_3 hA32 hl1 (kind_0 (by omega) (by omega) (by omega)))
    refine WE.region <| Zr 2 <| Zst g1 0 #[.string (⟨#[]⟩), .slice none 0 0, J 0, J 0, J 0] HB4 ?_
    intro w93 HB95 F94 _
    refine Zr 1 <| Zdn <| WE.ret <| WQ.blkR <| WQ.thenR <| WQ.ret2 (fn := Tryz.f77) (show Tryz.f77.results = #[.cell 2 91, .tmp 3] by kernel_rfl) (show resOk _ _ _ _ (.agg #[.string (⟨#[]⟩), .slice none 0 0, J 0, J 0, J 0]) from ⟨by kernel_rfl, ⟨g1, 0, none⟩, by kernel_rfl, ldVarB [.string (⟨#[]⟩), .slice none 0 0, J 0, J 0, J 0] (by kernel_rfl) (by kernel_rfl) (by kernel_rfl) HB95 (by kernel_rfl)⟩) (show resOk _ _ _ _ (J ((p + 1 : Nat) : Int)) from ⟨by kernel_rfl, by kernel_rfl⟩) ?_
    rw [hps]
    exact ResR.fail (HA.step F94 (inSR ge_HA_g1 inS0))
   intro h23
   refine Zr 1 <| Zdn <| ZT <| Zq ?_
   have hps : parseP s = .inr p := hps.trans (rp_1 (fun h_ => by have a_ := h_.1; have b_ := h_.2; omega))
   refine WE.region <| Zr 2 <| Zst g1 0 #[.string (⟨#[]⟩), .slice none 0 0, J 0, J 0, J 0] HB4 ?_
   intro w96 HB98 F97 _
   refine Zr 1 <| Zdn <| WE.ret <| WQ.thenR <| WQ.ret2 (fn := Tryz.f77) (show Tryz.f77.results = #[.cell 2 91, .tmp 3] by kernel_rfl) (show resOk _ _ _ _ (.agg #[.string (⟨#[]⟩), .slice none 0 0, J 0, J 0, J 0]) from ⟨by kernel_rfl, ⟨g1, 0, none⟩, by kernel_rfl, ldVarB [.string (⟨#[]⟩), .slice none 0 0, J 0, J 0, J 0] (by kernel_rfl) (by kernel_rfl) (by kernel_rfl) HB98 (by kernel_rfl)⟩) (show resOk _ _ _ _ (J (p : Int)) from ⟨by kernel_rfl, by kernel_rfl⟩) ?_
   rw [hps]
   exact ResR.fail (HA.step F97 (inSR ge_HA_g1 inS0))
  refine WE.block <| WE.loop (α := Nat × Nat × List Nat × Option Addr × Nat × (List (L × L))) (E := fun ⟨k, p, FT, At, ct, acc⟩ => [(0, .string (str s)), (2, Pt g1 0), (3, J 0), (4, Pt g6 0), (5, J (p : Int))]) (I := fun ⟨k, p, FT, At, ct, acc⟩ wr => parseP s = afterP s (tagsP s k p acc) ∧ acc.length + k = 6 ∧ p ≤ s.length ∧ Blk wr g1 #[.string (⟨#[]⟩), .slice none 0 0, J 0, J 0, J 0] 91 ∧ Blk wr g6 #[.string (str (s.take (runE inW s 0))), .slice At acc.length ct, J 0, J 0, J 0] 91 ∧ OwnX 143 2 wr FT (.slice At acc.length ct) (List.map cT acc) ∧ g1 ∉ FT ∧ g6 ∉ FT ∧ (∀ y ∈ FT, (World.heap w).size ≤ y) ∧ Fr [] w wr) (m := fun ⟨k, p, FT, At, ct, acc⟩ => k) (6, runE inW s 0, [], none, 0, []) [0, 2, 3, 4, 5] (by kernel_rfl) ?_ ?_
  ·
   exact ⟨hps, rfl, by omega, (HB4.j F17 ne_g1_g6), HB18, OwnX.nil _ _ _, (by simp), (by simp), (by simp), (HA.step F17 (inSR ge_HA_g6 inS0))⟩
  rintro ⟨k, p, FT, At, ct, acc⟩ wr ⟨hps, hk, hp, HB4, HB18, HO_FT, nin_g1_FT, nin_g6_FT, ge_HA_FT, HA⟩
  refine Zq <| Zsg <| Zr 3 <| ZoP 34 (((p : Int) : Int) < (s.length : Int)) ?_ ?_
  ·
   intro h99
   refine Zr 3 <| Zis (i := (p : Int)) 38 p s (by rfl) (by omega) <| ZoP 39 ((((gB s p).toNat : Int) : Int) = (44 : Int)) ?_ ?_
   ·
    intro h100
    refine Zr 1 <| Zdn <| ZT <| Zk <| WE.block <| Zq <| Zq ?_
    have hA44 : isAt s p 44 := ⟨by omega, by omega⟩
    refine WE.region <| Zr 1 <| Zl 42 (.slice At acc.length ct) (HB18.s 1) <| Zr 1 <| ZoP 44 (((acc.length : Int) : Int) = (6 : Int)) ?_ ?_
    ·
     intro h101
     refine Zdn <| ZT <| Zq ?_
     obtain rfl : k = 0 := by omega
     have hps : parseP s = .inr p := hps.trans (congrArg (afterP s) (tags_many hA44))
     refine WE.region <| Zr 2 <| Zst g1 0 #[.string (⟨#[]⟩), .slice none 0 0, J 0, J 0, J 0] HB4 ?_
     intro w102 HB104 F103 _
     refine Zr 1 <| Zdn <| WE.ret <| WQ.thenR <| WQ.blkR <| WQ.thenR <| WQ.blkR <| WQ.thenR <| WQ.ret2 (fn := Tryz.f77) (show Tryz.f77.results = #[.cell 2 91, .tmp 3] by kernel_rfl) (show resOk _ _ _ _ (.agg #[.string (⟨#[]⟩), .slice none 0 0, J 0, J 0, J 0]) from ⟨by kernel_rfl, ⟨g1, 0, none⟩, by kernel_rfl, ldVarB [.string (⟨#[]⟩), .slice none 0 0, J 0, J 0, J 0] (by kernel_rfl) (by kernel_rfl) (by kernel_rfl) HB104 (by kernel_rfl)⟩) (show resOk _ _ _ _ (J (p : Int)) from ⟨by kernel_rfl, by kernel_rfl⟩) ?_
     rw [hps]
     exact ResR.fail (HA.step F103 (inSR ge_HA_g1 inS0))
    intro h101
    refine Zdn <| ZF <| Zk <| Zq ?_
    obtain ⟨k, rfl⟩ : ∃ k', k = k' + 1 := ⟨k - 1, by omega⟩
    refine WE.region <| Zr 1 <| Zw 48 ((p : Int) + 1) ((p + 1 : Nat) : Int) <| Zr 1 <| Zdn <| Zsg <| Zr 2 <| Zc 51 (rrun_w s (p + 1) _ (by omega) (by omega)) ?_
    rintro _ w105 ⟨rfl, F106⟩
    have he1 := runE_ge inW s (p + 1)
    have he2 := runE_le inW (show p + 1 ≤ s.length by omega)
    refine ⟨_, rfl, trivial, Zr 1 <| Zdn <| Zsg <| Zr 3 <| Zvt (lo := ((p + 1 : Nat) : Int)) (hi := ((runE inW s (p + 1) : Nat) : Int)) 55 (p + 1) (runE inW s (p + 1)) s (by rfl) (by rfl) (by omega) (by omega) <| Zc 56 (word_r ((s.take (runE inW s (p + 1))).drop (p + 1)) _ (by simp only [List.length_drop, List.length_take]; omega)) ?_⟩
    rintro _ w107 ⟨rfl, F108⟩
    have HB4 := (HB4.k F106).k F108
    have HA := (HA.step0 F106).step0 F108
    refine ⟨_, rfl, trivial, ?_⟩
    rcases Bool.eq_false_or_eq_true (isWord ((s.take (runE inW s (p + 1))).drop (p + 1))) with hK109 | hK109
    ·
     rw [hK109]
     refine Zr 1 <| Zdn <| Zq <| Zsg <| Zr 2 <| Zdn <| ZF <| Zk <| Zq <| Zq ?_
     have he3 := he1
     have he4 := he2
     refine WE.region <| Zr 3 <| ZoP 64 (((runE inW s (p + 1) : Int) : Int) ≥ (s.length : Int)) ?_ ?_
     ·
      intro h110
      refine Zr 6 <| Zdn <| ZT <| Zq ?_
      have hps : parseP s = .inr (runE inW s (p + 1)) := hps.trans (congrArg (afterP s) (tags_eq hA44 hK109 (fun h_ => by have a_ := h_.1; have b_ := h_.2; omega)))
      refine WE.region <| Zr 2 <| Zst g1 0 #[.string (⟨#[]⟩), .slice none 0 0, J 0, J 0, J 0] HB4 ?_
      intro w111 HB113 F112 _
      refine Zr 1 <| Zdn <| WE.ret <| WQ.thenR <| WQ.blkR <| WQ.thenR <| WQ.blkR <| WQ.thenR <| WQ.ret2 (fn := Tryz.f77) (show Tryz.f77.results = #[.cell 2 91, .tmp 3] by kernel_rfl) (show resOk _ _ _ _ (.agg #[.string (⟨#[]⟩), .slice none 0 0, J 0, J 0, J 0]) from ⟨by kernel_rfl, ⟨g1, 0, none⟩, by kernel_rfl, ldVarB [.string (⟨#[]⟩), .slice none 0 0, J 0, J 0, J 0] (by kernel_rfl) (by kernel_rfl) (by kernel_rfl) HB113 (by kernel_rfl)⟩) (show resOk _ _ _ _ (J ((runE inW s (p + 1) : Nat) : Int)) from ⟨by kernel_rfl, by kernel_rfl⟩) ?_
      rw [hps]
      exact ResR.fail (HA.step F112 (inSR ge_HA_g1 inS0))
     intro h110
     refine Zr 3 <| Zis (i := ((runE inW s (p + 1) : Nat) : Int)) 68 (runE inW s (p + 1)) s (by rfl) (by omega) <| ZoN 69 ((((gB s (runE inW s (p + 1))).toNat : Int) : Int) = (61 : Int)) ?_ ?_
     ·
      intro h114
      refine Zr 1 <| Zdn <| ZF <| Zk <| Zq ?_
      have hA61 : isAt s (runE inW s (p + 1)) 61 := ⟨by omega, by omega⟩
      refine WE.region <| Zr 2 <| Zw 75 (((runE inW s (p + 1) : Nat) : Int) + 1) (((runE inW s (p + 1)) + 1 : Nat) : Int) <| Zc 76 (rrun_w s ((runE inW s (p + 1)) + 1) _ (by omega) (by omega)) ?_
      rintro _ w115 ⟨rfl, F116⟩
      have he1 := runE_ge inW s ((runE inW s (p + 1)) + 1)
      have he2 := runE_le inW (show (runE inW s (p + 1)) + 1 ≤ s.length by omega)
      refine ⟨_, rfl, trivial, Zr 1 <| Zdn <| Zsg <| Zr 2 <| Zo 79 (J (IntKind.i64.wrap (((runE inW s (p + 1) : Nat) : Int) + 1))) <| WO.top (v' := J (((runE inW s (p + 1)) + 1 : Nat) : Int)) (wrap_i64 (by omega) (by omega)) <| Zr 1 <| Zvt (lo := (((runE inW s (p + 1)) + 1 : Nat) : Int)) (hi := ((runE inW s ((runE inW s (p + 1)) + 1) : Nat) : Int)) 81 ((runE inW s (p + 1)) + 1) (runE inW s ((runE inW s (p + 1)) + 1)) s (by rfl) (by rfl) (by omega) (by omega) <| Zc 82 (word_r ((s.take (runE inW s ((runE inW s (p + 1)) + 1))).drop ((runE inW s (p + 1)) + 1)) _ (by simp only [List.length_drop, List.length_take]; omega)) ?_⟩
      rintro _ w117 ⟨rfl, F118⟩
      have HB4 := (HB4.k F116).k F118
      have HA := (HA.step0 F116).step0 F118
      refine ⟨_, rfl, trivial, ?_⟩
      rcases Bool.eq_false_or_eq_true (isWord ((s.take (runE inW s ((runE inW s (p + 1)) + 1))).drop ((runE inW s (p + 1)) + 1))) with hK119 | hK119
      ·
       rw [hK119]
       refine Zr 1 <| Zdn <| Zq <| Zsg <| Zr 2 <| Zdn <| ZF <| Zk <| Zq ?_
       have hps := hps.trans (congrArg (afterP s) (tags_on hA44 hK109 hA61 hK119))
       have hz120 : (World.heap w117).size ≤ (World.heap w117).size := Nat.le_refl _
       have HB18 := (((HB18.k F106).k F108).k F116).k F118
       have ltz_g6 := HB18.lt
       refine ZER (FrB (World.heap w117).size) [1] [12] [13, 15] 16 ?_
       intro w121 F122 _
       have HB18 := HB18.k F122
       refine Yq 0 1 <| Yl 1 89 (.slice At acc.length ct) (fun _ k => (HB18.keepB k ltz_g6).at 1 (by kernel_rfl)) <| Yq 2 3 <| Yvt 5 (lo := ((p + 1 : Nat) : Int)) (hi := ((runE inW s (p + 1) : Nat) : Int)) 93 (p + 1) (runE inW s (p + 1)) s (by rfl) (by rfl) (by omega) (by omega) <| Yr0 [6, 7, 8] [(96, J (IntKind.i64.wrap (((runE inW s (p + 1) : Nat) : Int) + 1))), (95, J ((runE inW s (p + 1) : Nat) : Int)), (94, .string (str s))] <| WO.top (v' := J (((runE inW s (p + 1)) + 1 : Nat) : Int)) (wrap_i64 (by omega) (by omega)) <| Yq 9 1 <| Yvt 10 (lo := (((runE inW s (p + 1)) + 1 : Nat) : Int)) (hi := ((runE inW s ((runE inW s (p + 1)) + 1) : Nat) : Int)) 98 ((runE inW s (p + 1)) + 1) (runE inW s ((runE inW s (p + 1)) + 1)) s (by rfl) (by rfl) (by omega) (by omega) <| Yq 11 1 <| WO.bx (SA.ER _ 12 _ (by kernel_rfl) rfl) 100 #[.string (str ((s.take (runE inW s (p + 1))).drop (p + 1))), .string (str ((s.take (runE inW s ((runE inW s (p + 1)) + 1))).drop ((runE inW s (p + 1)) + 1)))] 143 (fun g => .slice (some ⟨g, 0, none⟩) 1 1) (by kernel_rfl) (frB_of (Nat.le_trans hz120 F122.size) (by simp)) ?_
       intro g123 w124 HB126 F125 le127 _
       refine Yax 13 (m := 1) (ys := List.map cT ([((((s.take (runE inW s (p + 1))).drop (p + 1)), ((s.take (runE inW s ((runE inW s (p + 1)) + 1))).drop ((runE inW s (p + 1)) + 1))) : L × L)])) 101 et_t ((((((HO_FT.keep F106 dj0).keep F108 dj0).keep F116 dj0).keep F118 dj0).keep F122 dj0).keep F125 dj0) (RowB.src (RowB.of_blk (n := 1) HB126 (List.map cT [((((s.take (runE inW s (p + 1))).drop (p + 1)), ((s.take (runE inW s ((runE inW s (p + 1)) + 1))).drop ((runE inW s (p + 1)) + 1))) : L × L)]) rfl rfl (cT_len _) (cT_one _) (by omega))) (cT_len _) (cT_one _) ?_
       intro v133 w134 G135 HO136 F137 hg138
       rw [← List.map_append] at HO136
       have HB4 := (HB4.k F122).k F125
       have nin_g1_G135 := grow_nin hg138 nin_g1_FT HB4.lt
       have HB18 := HB18.k F125
       have nin_g6_G135 := grow_nin hg138 nin_g6_FT HB18.lt
       have HA := (HA.step0 F122).step0 F125
       have ge_HA_G135 := grow_ge hg138 ge_HA_FT HA.size
       obtain ⟨A139, cap140, rfl⟩ := HO136.sliceN (List.length_map _)
       have := @List.length_append _ acc ([((((s.take (runE inW s (p + 1))).drop (p + 1)), ((s.take (runE inW s ((runE inW s (p + 1)) + 1))).drop ((runE inW s (p + 1)) + 1))) : L × L)])
       refine Yq 14 1 <| Ys 15 g6 1 [.slice A139 ((acc ++ [((((s.take (runE inW s (p + 1))).drop (p + 1)), ((s.take (runE inW s ((runE inW s (p + 1)) + 1))).drop ((runE inW s (p + 1)) + 1))) : L × L)]).length) cap140] #[.string (str (s.take (runE inW s 0))), .slice A139 ((acc ++ [((((s.take (runE inW s (p + 1))).drop (p + 1)), ((s.take (runE inW s ((runE inW s (p + 1)) + 1))).drop ((runE inW s (p + 1)) + 1))) : L × L)]).length) cap140, J 0, J 0, J 0] (HB18.keep F137 nin_g6_FT) ?_
       intro w141 HB143 F142 _
       refine Ydn <| WE.region <| Zr 2 <| Zd <| WQ.blkN <| WQ.round ?_
       intro a_ ha_
       refine ⟨(k, (runE inW s (runE inW s (p + 1) + 1)), G135, A139, cap140, (acc ++ [((((s.take (runE inW s (p + 1))).drop (p + 1)), ((s.take (runE inW s ((runE inW s (p + 1)) + 1))).drop ((runE inW s (p + 1)) + 1))) : L × L)])), ?_, ha_.keep [0, 2, 3, 4, 5] (by kernel_rfl), ?_⟩
       ·
        exact Nat.lt_succ_self _
       ·
        exact ⟨hps, by simp only [List.length_append, List.length_cons, List.length_nil]; omega, by omega, ((HB4.keep F137 nin_g1_FT).j F142 ne_g1_g6), HB143, (HO136.keep F142 (djB nin_g6_G135)), nin_g1_G135, nin_g6_G135, ge_HA_G135, ((HA.step F137 (inF ge_HA_FT)).step F142 (inSR ge_HA_g6 inS0))⟩
      rw [hK119]
      refine Zr 1 <| Zdn <| Zq <| Zsg <| Zr 2 <| Zdn <| ZT <| Zq ?_
      have hps : parseP s = .inr (runE inW s (p + 1) + 1) := hps.trans (congrArg (afterP s) (tags_val hA44 hK109 hA61 hK119))
      refine WE.region <| Zr 2 <| Zw 87 (((runE inW s (p + 1) : Nat) : Int) + 1) (((runE inW s (p + 1)) + 1 : Nat) : Int) <| Zst g1 0 #[.string (⟨#[]⟩), .slice none 0 0, J 0, J 0, J 0] HB4 ?_
      intro w144 HB146 F145 _
      refine Zr 1 <| Zdn <| WE.ret <| WQ.thenR <| WQ.blkR <| WQ.thenR <| WQ.blkR <| WQ.thenR <| WQ.ret2 (fn := Tryz.f77) (show Tryz.f77.results = #[.cell 2 91, .tmp 3] by kernel_rfl) (show resOk _ _ _ _ (.agg #[.string (⟨#[]⟩), .slice none 0 0, J 0, J 0, J 0]) from ⟨by kernel_rfl, ⟨g1, 0, none⟩, by kernel_rfl, ldVarB [.string (⟨#[]⟩), .slice none 0 0, J 0, J 0, J 0] (by kernel_rfl) (by kernel_rfl) (by kernel_rfl) HB146 (by kernel_rfl)⟩) (show resOk _ _ _ _ (J (((runE inW s (p + 1)) + 1 : Nat) : Int)) from ⟨by kernel_rfl, by kernel_rfl⟩) ?_
      rw [hps]
      exact ResR.fail (HA.step F145 (inSR ge_HA_g1 inS0))
     intro h114
     refine Zr 1 <| Zdn <| ZT <| Zq ?_
     have hps : parseP s = .inr (runE inW s (p + 1)) := hps.trans (congrArg (afterP s) (tags_eq hA44 hK109 (fun h_ => by have a_ := h_.1; have b_ := h_.2; omega)))
     refine WE.region <| Zr 2 <| Zst g1 0 #[.string (⟨#[]⟩), .slice none 0 0, J 0, J 0, J 0] HB4 ?_
     intro w147 HB149 F148 _
     refine Zr 1 <| Zdn <| WE.ret <| WQ.thenR <| WQ.blkR <| WQ.thenR <| WQ.blkR <| WQ.thenR <| WQ.ret2 (fn := Tryz.f77) (show Tryz.f77.results = #[.cell 2 91, .tmp 3] by kernel_rfl) (show resOk _ _ _ _ (.agg #[.string (⟨#[]⟩), .slice none 0 0, J 0, J 0, J 0]) from ⟨by kernel_rfl, ⟨g1, 0, none⟩, by kernel_rfl, ldVarB [.string (⟨#[]⟩), .slice none 0 0, J 0, J 0, J 0] (by kernel_rfl) (by kernel_rfl) (by kernel_rfl) HB149 (by kernel_rfl)⟩) (show resOk _ _ _ _ (J ((runE inW s (p + 1) : Nat) : Int)) from ⟨by kernel_rfl, by kernel_rfl⟩) ?_
     rw [hps]
     exact ResR.fail (HA.step F148 (inSR ge_HA_g1 inS0))
    rw [hK109]
    refine Zr 1 <| Zdn <| Zq <| Zsg <| Zr 2 <| Zdn <| ZT <| Zq ?_
    have hps : parseP s = .inr (p + 1) := hps.trans (congrArg (afterP s) (tags_key hA44 hK109))
    refine WE.region <| Zr 2 <| Zst g1 0 #[.string (⟨#[]⟩), .slice none 0 0, J 0, J 0, J 0] HB4 ?_
    intro w150 HB152 F151 _
    refine Zr 1 <| Zdn <| WE.ret <| WQ.thenR <| WQ.blkR <| WQ.thenR <| WQ.blkR <| WQ.thenR <| WQ.ret2 (fn := Tryz.f77) (show Tryz.f77.results = #[.cell 2 91, .tmp 3] by kernel_rfl) (show resOk _ _ _ _ (.agg #[.string (⟨#[]⟩), .slice none 0 0, J 0, J 0, J 0]) from ⟨by kernel_rfl, ⟨g1, 0, none⟩, by kernel_rfl, ldVarB [.string (⟨#[]⟩), .slice none 0 0, J 0, J 0, J 0] (by kernel_rfl) (by kernel_rfl) (by kernel_rfl) HB152 (by kernel_rfl)⟩) (show resOk _ _ _ _ (J ((p + 1 : Nat) : Int)) from ⟨by kernel_rfl, by kernel_rfl⟩) ?_
    rw [hps]
    exact ResR.fail (HA.step F151 (inSR ge_HA_g1 inS0))
   intro h100
   refine Zr 1 <| Zdn <| ZF <| WE.exit <| WQ.thenE <| WQ.thenE <| WQ.blkE ?_
   have hps : parseP s = restP s acc p := hps.trans (congrArg (afterP s) (tags_stop (fun h_ => by have a_ := h_.1; have b_ := h_.2; omega)))
   refine WQ.round ?_
   intro a_ ha_
   refine ⟨(p, FT, At, ct, acc), ha_.keep [0, 2, 3, 4, 5] (by kernel_rfl), ?_⟩
   exact ⟨hps, hp, HB4, HB18, HO_FT, nin_g1_FT, nin_g6_FT, ge_HA_FT, HA⟩
  intro h99
  refine Zr 6 <| Zdn <| ZF <| WE.exit <| WQ.thenE <| WQ.thenE <| WQ.blkE ?_
  have hps : parseP s = restP s acc p := hps.trans (congrArg (afterP s) (tags_stop (fun h_ => by have a_ := h_.1; have b_ := h_.2; omega)))
  refine WQ.round ?_
  intro a_ ha_
  refine ⟨(p, FT, At, ct, acc), ha_.keep [0, 2, 3, 4, 5] (by kernel_rfl), ?_⟩
  exact ⟨hps, hp, HB4, HB18, HO_FT, nin_g1_FT, nin_g6_FT, ge_HA_FT, HA⟩
 rw [hK15]
 refine Zr 1 <| Zdn <| Zq <| Zsg <| Zr 2 <| Zdn <| ZT <| Zq ?_
 have hps : parseP s = .inr 0 := pp_name hK15
 refine WE.region <| Zr 1 <| Zst g1 0 #[.string (⟨#[]⟩), .slice none 0 0, J 0, J 0, J 0] HB4 ?_
 intro w153 HB155 F154 _
 refine Zr 1 <| Zdn <| WE.ret <| WQ.thenR <| WQ.ret2 (fn := Tryz.f77) (show Tryz.f77.results = #[.cell 2 91, .tmp 3] by kernel_rfl) (show resOk _ _ _ _ (.agg #[.string (⟨#[]⟩), .slice none 0 0, J 0, J 0, J 0]) from ⟨by kernel_rfl, ⟨g1, 0, none⟩, by kernel_rfl, ldVarB [.string (⟨#[]⟩), .slice none 0 0, J 0, J 0, J 0] (by kernel_rfl) (by kernel_rfl) (by kernel_rfl) HB155 (by kernel_rfl)⟩) (show resOk _ _ _ _ (J 0) from ⟨by kernel_rfl, by kernel_rfl⟩) ?_
 rw [hps]
 exact ResR.fail (HA.step F154 (inSR ge_HA_g1 inS0))
end Go.Proofs.YtdhonbahpcmmnaaGreatDoor.Line
end
