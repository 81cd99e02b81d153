/- Layer 7's walks: Get. -/
import Derived.Test.YtdhonbahpcmmnaaGreatDoorBatG
import Derived.Test.YtdhonbahpcmmnaaGreatDoorEngC
import Derived.Test.YtdhonbahpcmmnaaGreatDoorLineH
import Derived.Shelf.SlGeneric
import Derived.Shelf.SortM.Plain
import Derived.Shelf.SortM.SortNone
import Derived.Shelf.SlSortCmp.WholeK
import Derived.Shelf.SlSortCmp.NoneTotal
import Derived.Ground.SlgmProg
import Derived.Ground.SlsfProg
import Derived.Test.YtdhonbahpcmmnaaGreatDoorProg
section
set_option linter.unusedVariables false
set_option linter.unusedSimpArgs false
namespace Go.Proofs.YtdhonbahpcmmnaaGreatDoor.Bat
open Go Go.RowKit Go.Proofs.YtdhonbahpcmmnaaGreatDoor Go.Proofs.YtdhonbahpcmmnaaGreatDoor.Eng Go.Proofs.YtdhonbahpcmmnaaGreatDoorW.PrintWords
open Go.Proofs
open Go.Proofs.YtdhonbahpcmmnaaGreatDoor.Line
open Go.Proofs.YtdhonbahpcmmnaaGreatDoor.Wire (enc zig unzig encT St rNum rWhole rText rEnd)
theorem EV.nil (w : World) : EV w [] [] := ⟨by simp, by simp⟩
theorem EV.snoc {w : World} {FE F : List Nat} {xs : List RX} {r : Rw} {A : Option Addr} {c : Nat} (h : EV w FE xs) (hv : VX cN 1 w F A r.bk) (hc : r.bk.length ≤ c) : EV w (FE ++ F) (xs ++ [(r, (A, c))]) := by
 refine ⟨fun y hy => (List.mem_append.1 hy).elim (h.1 y) (hv.lt y), fun x hx => ?_⟩
 rcases List.mem_append.1 hx with hx | hx
 ·
  obtain ⟨h1, G, h2, h3⟩ := h.2 x hx
  exact ⟨h1, G, fun y hy => List.mem_append_left _ (h2 y hy), h3⟩
 ·
  obtain rfl := List.mem_singleton.1 hx
  exact ⟨hc, F, fun y hy => List.mem_append_right _ hy, hv⟩
end Go.Proofs.YtdhonbahpcmmnaaGreatDoor.Bat
end
section
set_option linter.unusedVariables false
set_option linter.unusedSimpArgs false
namespace Go.Proofs.YtdhonbahpcmmnaaGreatDoor.Bat
open Go Go.RowKit Go.Proofs.YtdhonbahpcmmnaaGreatDoor Go.Proofs.YtdhonbahpcmmnaaGreatDoor.Eng Go.Proofs.YtdhonbahpcmmnaaGreatDoorW.PrintWords
open Go.Proofs
open Go.Proofs.YtdhonbahpcmmnaaGreatDoor.Line
open Go.Proofs.YtdhonbahpcmmnaaGreatDoor.Wire (enc zig unzig encT St rNum rWhole rText rEnd)
end Go.Proofs.YtdhonbahpcmmnaaGreatDoor.Bat
end
section
set_option linter.unusedVariables false
set_option linter.unusedSimpArgs false
namespace Go.Proofs.YtdhonbahpcmmnaaGreatDoor.Bat
open Go Go.RowKit Go.Proofs.YtdhonbahpcmmnaaGreatDoor Go.Proofs.YtdhonbahpcmmnaaGreatDoor.Eng Go.Proofs.YtdhonbahpcmmnaaGreatDoorW.PrintWords
open Go.Proofs
open Go.Proofs.YtdhonbahpcmmnaaGreatDoor.Line
open Go.Proofs.YtdhonbahpcmmnaaGreatDoor.Wire (enc zig unzig encT St rNum rWhole rText rEnd)
theorem wrap_in {n m : Int} (h : n = m) (h2 : -9223372036854775808 ≤ m ∧ m ≤ 9223372036854775807) : IntKind.i64.wrap n = m := by
  subst h
  exact IntWalk.i64_in n (by omega)
theorem wrap_hi {n m : Int} (h : n = m + 18446744073709551616) (h2 : -9223372036854775808 ≤ m ∧ m ≤ 9223372036854775807) : IntKind.i64.wrap n = m := by
  subst h
  simp [IntKind.wrap, IntKind.bits, IntKind.signed]
  omega
theorem wrap_lo {n m : Int} (h : n = m - 18446744073709551616) (h2 : -9223372036854775808 ≤ m ∧ m ≤ 9223372036854775807) : IntKind.i64.wrap n = m := by
  subst h
  simp [IntKind.wrap, IntKind.bits, IntKind.signed]
  omega
def mz (v : Int) : Nat := (if v < 0 then 0 else v).toNat
theorem mz_eq (v : Int) : (if v < 0 then 0 else v) = ((mz v : Nat) : Int) := by unfold mz; split <;> omega
theorem mz_le {v : Int} (h : I64 v) : mz v ≤ 9223372036854775807 := by
  have := h.2
  unfold mz
  split <;> omega
set_option maxRecDepth 100000 in
set_option maxHeartbeats 400000 in
theorem cnt_1 (x : Nat) (w : World) (h : x + 1 < 18446744073709551616) :
    Calls Tryz.prog 68 #[.int .u64 (x : Int), .int .u64 1] w fun e w' => e = .returned (.tuple #[.int .u64 ((x + 1 : Nat) : Int), .bool false]) ∧ Fr [] w w' := by
 have HA := Fr.refl [] w
 refine Ze Tryz.func68 _ <| Zsg <| Zr 2 <| Zdn <| Zq <| Zsg <| Zr 2 <| Zwu 9 ((x : Int) + 1) ((x + 1 : Nat) : Int) <| Zr 1 <| Zdn <| Zsg <| Zr 2 <| ZoPT 12 (((x + 1 : Int) : Int) ≥ (x : Int)) (by omega) <| Zdn <| ZT <| Zsg <| Zr 3 <| Zdn <| WE.ret <| WQ.thenR <| ZR (.tuple #[.int .u64 ((x + 1 : Nat) : Int), .bool false]) ?_
 exact ⟨rfl, HA⟩
set_option maxRecDepth 100000 in
set_option maxHeartbeats 400000 in
theorem cnt_2 (w : World) :
    Calls Tryz.prog 68 #[.int .u64 18446744073709551615, .int .u64 1] w fun e w' => e = .returned (.tuple #[.int .u64 18446744073709551615, .bool true]) ∧ Fr [] w w' := by
 have HA := Fr.refl [] w
 refine Ze Tryz.func68 _ <| Zsg <| Zr 2 <| Zdn <| Zq <| Zsg <| Zr 4 <| Zdn <| Zsg <| Zr 3 <| Zdn <| ZF <| Zk <| Zsg <| Zr 2 <| Zdn <| WE.ret <| ZR (.tuple #[.int .u64 18446744073709551615, .bool true]) ?_
 exact ⟨rfl, HA⟩
theorem cnt_f (x : Nat) (w : World) (h : x < 18446744073709551616) : Calls Tryz.prog 68 #[.int .u64 (x : Int), .int .u64 1] w fun e w' => ∃ b, e = .returned (.tuple #[.int .u64 ((scount x : Nat) : Int), .bool b]) ∧ Fr [] w w' := by
  by_cases h1 : x + 1 < 18446744073709551616
  · refine (cnt_1 x w h1).mono fun e w' hh => ⟨false, ?_⟩
    rw [show scount x = x + 1 from if_pos h1]
    exact hh
  · obtain rfl : x = 18446744073709551615 := by omega
    exact (cnt_2 w).mono fun e w' hh => ⟨true, hh⟩
set_option maxRecDepth 100000 in
set_option maxHeartbeats 400000 in
theorem sad_1 (a b : Int) (w : World) (ha : I64 a) (hb : I64 b) (hs : 9223372036854775807 < a + b) :
    Calls Tryz.prog 69 #[.int .i64 a, .int .i64 b] w fun e w' => e = .returned (.tuple #[.int .i64 (sadd a b).1, .bool (sadd a b).2]) ∧ Fr [] w w' := by
 have ha_ := ha
 have hb_ := hb
 unfold I64 at ha_ hb_
 have HA := Fr.refl [] w
 refine Ze Tryz.func69 _ <| Zsg <| Zr 2 <| Zdn <| Zsg <| Zr 2 <| Zo 9 (J (IntKind.i64.wrap (a + b))) <| WO.top (v' := J (a + b - 18446744073709551616)) (congrArg (Value.int .i64) (wrap_hi (by omega) (by omega))) <| Zr 1 <| Zdn <| Zq <| WE.block <| Zsg <| Zr 1 <| ZoPT 12 ((a : Int) > 0) (by omega) <| Zr 2 <| ZoPT 15 ((b : Int) > 0) (by omega) <| Zr 3 <| ZoPT 19 ((a + b - 18446744073709551616 : Int) < 0) (by omega) <| Zr 2 <| Zdn <| ZT <| Zsg <| Zr 2 <| Zdn <| WE.ret <| WQ.blkR <| WQ.thenR <| ZR (.tuple #[J 9223372036854775807, .bool true]) ?_
 exact ⟨by rw [sadd_1 hs], HA⟩
set_option maxRecDepth 100000 in
set_option maxHeartbeats 400000 in
theorem sad_2 (a b : Int) (w : World) (ha : I64 a) (hb : I64 b) (hs : a + b < -9223372036854775808) :
    Calls Tryz.prog 69 #[.int .i64 a, .int .i64 b] w fun e w' => e = .returned (.tuple #[.int .i64 (sadd a b).1, .bool (sadd a b).2]) ∧ Fr [] w w' := by
 have ha_ := ha
 have hb_ := hb
 unfold I64 at ha_ hb_
 have HA := Fr.refl [] w
 refine Ze Tryz.func69 _ <| Zsg <| Zr 2 <| Zdn <| Zsg <| Zr 2 <| Zo 9 (J (IntKind.i64.wrap (a + b))) <| WO.top (v' := J (a + b + 18446744073709551616)) (congrArg (Value.int .i64) (wrap_lo (by omega) (by omega))) <| Zr 1 <| Zdn <| Zq <| WE.block <| Zsg <| Zr 1 <| ZoPF 12 ((a : Int) > 0) (by omega) <| Zr 9 <| Zdn <| ZF <| Zsg <| Zr 1 <| ZoPT 23 ((a : Int) < 0) (by omega) <| Zr 2 <| ZoPT 26 ((b : Int) < 0) (by omega) <| Zr 3 <| ZoPT 30 ((a + b + 18446744073709551616 : Int) ≥ 0) (by omega) <| Zr 2 <| Zdn <| ZT <| Zsg <| Zr 2 <| Zdn <| WE.ret <| WQ.blkR <| WQ.thenR <| ZR (.tuple #[J (-9223372036854775808), .bool true]) ?_
 exact ⟨by rw [sadd_2 hs], HA⟩
set_option maxRecDepth 100000 in
set_option maxHeartbeats 400000 in
theorem sad_3 (a b : Int) (w : World) (ha : I64 a) (hb : I64 b) (hs : -9223372036854775808 ≤ a + b ∧ a + b ≤ 9223372036854775807) :
    Calls Tryz.prog 69 #[.int .i64 a, .int .i64 b] w fun e w' => e = .returned (.tuple #[.int .i64 (sadd a b).1, .bool (sadd a b).2]) ∧ Fr [] w w' := by
 have ha_ := ha
 have hb_ := hb
 unfold I64 at ha_ hb_
 have HA := Fr.refl [] w
 refine Ze Tryz.func69 _ <| Zsg <| Zr 2 <| Zdn <| Zsg <| Zr 2 <| Zo 9 (J (IntKind.i64.wrap (a + b))) <| WO.top (v' := J (a + b)) (congrArg (Value.int .i64) (wrap_in (by omega) (by omega))) <| Zr 1 <| Zdn <| Zq <| WE.block <| Zsg <| Zr 1 <| ZoP 12 ((a : Int) > 0) ?_ ?_
 ·
  intro h1
  refine Zr 2 <| ZoP 15 ((b : Int) > 0) ?_ ?_
  ·
   intro h2
   refine Zr 3 <| ZoPF 19 ((a + b : Int) < 0) (by omega) <| Zr 2 <| Zdn <| ZF <| Zsg <| Zr 1 <| ZoP 23 ((a : Int) < 0) ?_ ?_
   ·
    intro h3
    refine Zr 2 <| ZoP 26 ((b : Int) < 0) ?_ ?_
    ·
     intro h4
     refine Zr 3 <| ZoPF 30 ((a + b : Int) ≥ 0) (by omega) <| Zr 2 <| Zdn <| ZF <| WE.skip <| WQ.blkN <| Zn <| Zsg <| Zr 3 <| Zdn <| WE.ret <| ZR (.tuple #[J (a + b), .bool false]) ?_
     exact ⟨by rw [sadd_3 hs], HA⟩
    intro h4
    refine Zr 6 <| Zdn <| ZF <| WE.skip <| WQ.blkN <| Zn <| Zsg <| Zr 3 <| Zdn <| WE.ret <| ZR (.tuple #[J (a + b), .bool false]) ?_
    exact ⟨by rw [sadd_3 hs], HA⟩
   intro h3
   refine Zr 9 <| Zdn <| ZF <| WE.skip <| WQ.blkN <| Zn <| Zsg <| Zr 3 <| Zdn <| WE.ret <| ZR (.tuple #[J (a + b), .bool false]) ?_
   exact ⟨by rw [sadd_3 hs], HA⟩
  intro h2
  refine Zr 6 <| Zdn <| ZF <| Zsg <| Zr 1 <| ZoP 23 ((a : Int) < 0) ?_ ?_
  ·
   intro h5
   refine Zr 2 <| ZoP 26 ((b : Int) < 0) ?_ ?_
   ·
    intro h6
    refine Zr 3 <| ZoPF 30 ((a + b : Int) ≥ 0) (by omega) <| Zr 2 <| Zdn <| ZF <| WE.skip <| WQ.blkN <| Zn <| Zsg <| Zr 3 <| Zdn <| WE.ret <| ZR (.tuple #[J (a + b), .bool false]) ?_
    exact ⟨by rw [sadd_3 hs], HA⟩
   intro h6
   refine Zr 6 <| Zdn <| ZF <| WE.skip <| WQ.blkN <| Zn <| Zsg <| Zr 3 <| Zdn <| WE.ret <| ZR (.tuple #[J (a + b), .bool false]) ?_
   exact ⟨by rw [sadd_3 hs], HA⟩
  intro h5
  refine Zr 9 <| Zdn <| ZF <| WE.skip <| WQ.blkN <| Zn <| Zsg <| Zr 3 <| Zdn <| WE.ret <| ZR (.tuple #[J (a + b), .bool false]) ?_
  exact ⟨by rw [sadd_3 hs], HA⟩
 intro h1
 refine Zr 9 <| Zdn <| ZF <| Zsg <| Zr 1 <| ZoP 23 ((a : Int) < 0) ?_ ?_
 ·
  intro h7
  refine Zr 2 <| ZoP 26 ((b : Int) < 0) ?_ ?_
  ·
   intro h8
   refine Zr 3 <| ZoPF 30 ((a + b : Int) ≥ 0) (by omega) <| Zr 2 <| Zdn <| ZF <| WE.skip <| WQ.blkN <| Zn <| Zsg <| Zr 3 <| Zdn <| WE.ret <| ZR (.tuple #[J (a + b), .bool false]) ?_
   exact ⟨by rw [sadd_3 hs], HA⟩
  intro h8
  refine Zr 6 <| Zdn <| ZF <| WE.skip <| WQ.blkN <| Zn <| Zsg <| Zr 3 <| Zdn <| WE.ret <| ZR (.tuple #[J (a + b), .bool false]) ?_
  exact ⟨by rw [sadd_3 hs], HA⟩
 intro h7
 refine Zr 9 <| Zdn <| ZF <| WE.skip <| WQ.blkN <| Zn <| Zsg <| Zr 3 <| Zdn <| WE.ret <| ZR (.tuple #[J (a + b), .bool false]) ?_
 exact ⟨by rw [sadd_3 hs], HA⟩
theorem sad_f (a b : Int) (w : World) (ha : I64 a) (hb : I64 b) : Calls Tryz.prog 69 #[.int .i64 a, .int .i64 b] w fun e w' => e = .returned (.tuple #[.int .i64 (sadd a b).1, .bool (sadd a b).2]) ∧ Fr [] w w' := by
  by_cases h1 : 9223372036854775807 < a + b
  · exact sad_1 a b w ha hb h1
  · by_cases h2 : a + b < -9223372036854775808
    · exact sad_2 a b w ha hb h2
    · exact sad_3 a b w ha hb (by omega)
set_option maxRecDepth 100000 in
set_option maxHeartbeats 400000 in
theorem bkt_f (v : Int) (w : World) (hv : I64 v) :
    Calls Tryz.prog 89 #[.int .i64 v] w fun e w' => e = .returned (.int .i64 ((bl v : Nat) : Int)) ∧ Fr [] w w' := by
 have hmz_ := mz_le hv
 have HA := Fr.refl [] w
 refine Ze Tryz.func89 _ <| Zsg <| Zr 1 <| Zdn <| Zsg <| Zr 1 <| Zo 4 (J (if v < 0 then 0 else v)) <| WO.top (v' := J ((mz v : Nat) : Int)) (congrArg (Value.int .i64) (mz_eq v)) <| Zwur 5 ((mz v : Nat) : Int) ((mz v : Nat) : Int) ?_
 have hmz_ := mz_le hv
 refine Zcf 6 (Tryz.bits_Len64 ((mz v : Nat) : Int) _ (by omega) (by omega)) ?_
 intro w1 rfl
 refine Zr 1 <| Zdn <| WE.ret <| ZR (J (bl v : Int)) ?_
 exact ⟨rfl, HA⟩
set_option maxRecDepth 100000 in
set_option maxHeartbeats 400000 in
theorem clu_s (ad : Addr) (n cp : Nat) (q : List Nat) (F : List Nat) (w : World) (HV : VX cN 1 w F (some ad) q) (hn : q.length = n) (hl : n ≤ 1000000) :
    Calls Tryz.prog 54 #[.slice (some ad) n cp] w fun e w' => ∃ A' c' F', e = .returned (.slice A' n c') ∧ OwnX 46 1 w' F' (.slice A' n c') (q.map cN) ∧ (∀ y ∈ F', w.heap.size ≤ y) ∧ Fr [] w w' := by
 have HA := Fr.refl [] w
 refine Ze Tryz.func54 _ <| Zsg <| Zr 1 <| Zdn <| Zq <| Zsg <| Zr 2 <| Zdn <| ZF <| Zk <| Zsg <| Zb 5 #[] 46 (fun g => .slice (some ⟨g, 0, none⟩) 0 0) ?_
 intro g1 w2 HB4 F3 le5 _
 have ge_HA_g1 := Nat.le_trans HA.size le5
 refine Zr 1 ?_
 have HR11 := RowB.of_blk (n := 0) HB4 (List.map cN []) rfl rfl (cN_len _) (cN_one _) (by omega)
 refine Zar (n := 0) (m := n) (ys := List.map cN q) 7 et_n HR11 ((List.length_map _).trans ((rfl : List.length ([] : List Nat) = 0))) ((HV.keep F3 dj0).srcN hn (cN_len _) (cN_one _) cp) (cN_len _) (cN_one _) ?_
 intro b6 cap7 w8 HR9 F10 hb12
 have HA := HA.step0 F3
 have in_HA_b6 : b6 ∈ [] ∨ (World.heap w).size ≤ b6 := hb12.elim (fun h => Or.inr (h ▸ ge_HA_g1)) (fun h => Or.inr (Nat.le_trans HA.size h))
 have HR9 : RowB w8 b6 46 1 cap7 ((([] : List Nat) ++ q).map cN) := by rw [List.map_append]; exact HR9
 refine Zr 1 <| Zdn <| WE.ret <| ZR (.slice (some ⟨b6, 0, none⟩) (0 + n) cap7) ?_
 have h_ := HR9
 rw [List.nil_append] at h_
 exact ⟨some ⟨b6, 0, none⟩, cap7, [b6], by rw [Nat.zero_add], OwnX.row h_ ((List.length_map _).trans hn), fun y hy => by rw [List.mem_singleton.1 hy]; exact in_HA_b6.resolve_left (by simp), (HA.step F10 (inSR ge_HA_g1 inS0))⟩
set_option maxRecDepth 100000 in
set_option maxHeartbeats 400000 in
theorem clu_n (cp : Nat) (w : World) :
    Calls Tryz.prog 54 #[.slice none 0 cp] w fun e w' => e = .returned (.slice none 0 0) ∧ Fr [] w w' := by
 have HA := Fr.refl [] w
 refine Ze Tryz.func54 _ <| Zsg <| Zr 1 <| Zdn <| Zq <| Zsg <| Zr 2 <| Zdn <| ZT <| Zsg <| Zr 1 <| Zdn <| WE.ret <| WQ.thenR <| ZR (.slice none 0 0) ?_
 exact ⟨rfl, HA⟩
theorem clu_f (A : Option Addr) (n cp : Nat) (q : List Nat) (F : List Nat) (w : World) (HV : VX cN 1 w F A q) (hn : q.length = n) (hl : n ≤ 1000000) : Calls Tryz.prog 54 #[.slice A n cp] w fun e w' => ∃ A' c' F', e = .returned (.slice A' n c') ∧ OwnX 46 1 w' F' (.slice A' n c') (q.map cN) ∧ (∀ y ∈ F', w.heap.size ≤ y) ∧ Fr [] w w' := by
  cases A with
  | some ad => exact clu_s ad n cp q F w HV hn hl
  | none =>
    have h0 : q.length = 0 := by
      rcases Nat.eq_zero_or_pos q.length with h | h
      · exact h
      · obtain ⟨ad, h1, _⟩ := HV.get h
        cases h1
    obtain rfl := List.length_eq_zero_iff.1 h0
    obtain rfl : n = 0 := by rw [← hn]; rfl
    exact (clu_n cp w).mono fun e w' ⟨h1, h2⟩ => ⟨none, 0, [], h1, OwnX.nil _ _ _, by simp, h2⟩
end Go.Proofs.YtdhonbahpcmmnaaGreatDoor.Bat
end
section
set_option linter.unusedVariables false
set_option linter.unusedSimpArgs false
namespace Go.Proofs.YtdhonbahpcmmnaaGreatDoor.Bat
open Go Go.RowKit Go.Proofs.YtdhonbahpcmmnaaGreatDoor Go.Proofs.YtdhonbahpcmmnaaGreatDoor.Eng Go.Proofs.YtdhonbahpcmmnaaGreatDoorW.PrintWords
open Go.Proofs
open Go.Proofs.YtdhonbahpcmmnaaGreatDoor.Line
open Go.Proofs.YtdhonbahpcmmnaaGreatDoor.Wire (enc zig unzig encT St rNum rWhole rText rEnd)
set_option maxRecDepth 100000 in
set_option maxHeartbeats 400000 in
theorem buk_f (A : Option Addr) (cp : Nat) (q : List Nat) (F : List Nat) (v : Int) (w : World) (HV : VX cN 1 w F A q) (hl : q.length ≤ 65) (hv : I64 v) (hq : ∀ x ∈ q, x < 18446744073709551616) :
    Calls Tryz.prog 70 #[.slice A q.length cp, .int .i64 v] w fun e w' => ∃ A' c' F', e = .returned (.slice A' (bumpN q (bl v)).length c') ∧ OwnX 46 1 w' F' (.slice A' (bumpN q (bl v)).length c') ((bumpN q (bl v)).map cN) ∧ (∀ y ∈ F', w.heap.size ≤ y) ∧ Fr [] w w' := by
 have hble0_ := bl_le hv
 have HA := Fr.refl [] w
 refine Ze Tryz.func70 _ <| Zsg <| Zr 1 <| Zdn <| Zsg <| Zr 1 <| Zcf 10 (bkt_f v _ hv) ?_
 intro w1 F2
 refine Zr 1 <| Zdn <| Zsg <| Zr 1 <| Zc 12 (clu_f A q.length cp q F _ (HV.keep F2 dj0) rfl (by omega)) ?_
 rintro _ w3 ⟨A1, c1, G1, rfl, HO1, hg1, F4⟩
 refine ⟨_, rfl, trivial, ?_⟩
 have hg1r := fun y hy => Or.inr (a := y ∈ ([] : List Nat)) (hg1 y hy)
 have HA := HA.step0 F2
 have ge_HA_G1 := grow_ge hg1r (by simp) HA.size
 refine Zr 1 <| Zdn <| Zq <| WE.block <| WE.loop (α := List Nat × Option Addr × Nat × List Nat) (E := fun ⟨FO, AO, cO, q2⟩ => [(4, .slice none 0 0), (5, J (bl v : Int)), (6, .slice AO q2.length cO)]) (I := fun ⟨FO, AO, cO, q2⟩ wr => extN q2 (bl v) = extN q (bl v) ∧ q2.length ≤ 65 ∧ OwnX 46 1 wr FO (.slice AO q2.length cO) (List.map cN q2) ∧ (∀ y ∈ FO, (World.heap w).size ≤ y) ∧ Fr [] w wr) (m := fun ⟨FO, AO, cO, q2⟩ => 65 - q2.length) (G1, A1, c1, q) [4, 5, 6] (by kernel_rfl) ?_ ?_
 ·
  exact ⟨by rfl, by omega, HO1, ge_HA_G1, (HA.step0 F4)⟩
 rintro ⟨FO, AO, cO, q2⟩ wr ⟨hx2, hl2, HO_FO, ge_HA_FO, HA⟩
 refine Zq <| Zsg <| Zr 3 <| ZoP 16 (((q2.length : Int) : Int) ≤ (bl v : Int)) ?_ ?_
 ·
  intro h5
  refine Zdn <| ZT <| Zk <| WE.block <| WE.region <| Zr 1 <| Zb 18 #[.int .u64 0] 46 (fun g => .slice (some ⟨g, 0, none⟩) 1 1) ?_
  intro g6 w7 HB9 F8 le10 _
  refine Zax (m := 1) (ys := List.map cN ([0])) 19 et_n (HO_FO.keep F8 dj0) (RowB.src (RowB.of_blk (n := 1) HB9 (List.map cN [0]) rfl rfl (cN_len _) (cN_one _) (by omega))) (cN_len _) (cN_one _) ?_
  intro v16 w17 G18 HO19 F20 hg21
  rw [← List.map_append] at HO19
  have HA := HA.step0 F8
  have ge_HA_G18 := grow_ge hg21 ge_HA_FO HA.size
  obtain ⟨A22, cap23, rfl⟩ := HO19.sliceN (List.length_map _)
  have := @List.length_append _ q2 ([0])
  refine Zr 1 <| Zd <| WQ.blkN <| WQ.round ?_
  intro a_ ha_
  refine ⟨(G18, A22, cap23, (q2 ++ [0])), ?_, ha_.keep [4, 5, 6] (by kernel_rfl), ?_⟩
  ·
   show 65 - (q2 ++ [0]).length < 65 - q2.length; rw [List.length_append]; simp only [List.length_cons, List.length_nil]; omega
  ·
   exact ⟨by rw [extN_snoc (by omega), hx2], by rw [List.length_append]; simp only [List.length_cons, List.length_nil]; omega, HO19, ge_HA_G18, (HA.step F20 (inF ge_HA_FO))⟩
 intro h5
 refine Zdn <| ZF <| WE.exit <| WQ.thenE <| WQ.thenE <| WQ.blkE <| Zn <| Zq ?_
 have hble_ := bl_le hv
 obtain ⟨b24, hF26, hA27, HR25⟩ := HO_FO.pos (by rw [List.length_map]; omega)
 have ge_HA_b24 := ge_HA_FO _ (by rw [hF26]; exact List.mem_singleton.2 (rfl : b24 = b24))
 subst hA27
 refine WE.region <| Zr 2 <| Zib 23 (bl v) b24 0 q2.length 1 (bl v : Int) <| Zl 24 (.int .u64 ((gN q2 (bl v)) : Int)) (same (HR25.at (bl v) 0 (bl v) _ (by rw [List.length_map]; have := (rfl : List.length q2 = _); omega) (by omega) (by rw [(map_gN q2 (bl v) (by have := (rfl : List.length q2 = _); omega))]; rfl) (by omega))) <| Zc 25 (cnt_f (gN q2 (bl v)) _ (by rw [show q2 = extN q (bl v) by rw [← hx2, extN_of (by omega)]]; exact extN_lt hq _ (gN_mem (by rw [extN_len]; exact Nat.lt_of_lt_of_le (Nat.lt_succ_self _) (Nat.le_max_right _ _))))) ?_
 rintro _ w29 ⟨bo28, rfl, F30⟩
 refine ⟨_, rfl, trivial, Zr 5 <| Zdn <| Zsg <| Zr 3 <| Zib 31 (bl v) b24 0 q2.length 1 (bl v : Int) <| Zsr b24 (bl v) (bl v) [.int .u64 ((scount (gN q2 (bl v))) : Int)] (HR25.k F30) (by rw [List.length_map]; have := (rfl : List.length q2 = _); omega) ?_⟩
 intro w31 HR33 F32 _
 have HR33 : RowB w31 b24 46 1 cO ((q2.set (bl v) (scount (gN q2 (bl v)))).map cN) := by rw [List.map_set]; exact HR33
 refine Zdn <| Zsg <| Zr 2 <| Zdn <| WE.ret <| ZR (.slice (some ⟨b24, 0, none⟩) q2.length cO) ?_
 have he_ : q2 = extN q (bl v) := by rw [← hx2, extN_of (by omega)]
 exact ⟨some ⟨b24, 0, none⟩, cO, [b24], by rw [bumpN_len, ← extN_len, ← he_], by have h_ := OwnX.row HR33 (List.length_map _); unfold bumpN; rw [← he_]; rw [List.length_set] at h_ ⊢; exact h_, fun y hy => by rw [List.mem_singleton.1 hy]; exact ge_HA_b24, ((HA.step0 F30).step F32 (inSR ge_HA_b24 inS0))⟩
set_option maxRecDepth 100000 in
set_option maxHeartbeats 400000 in
theorem beg_f (key : L) (kind v : Int) (w : World) (hv : I64 v) :
    Calls Tryz.prog 52 #[.string (str key), .int .i64 kind, .int .i64 v] w fun e w' => ∃ A' c' F', e = .returned (.agg #[.string (str (begR key kind v).key), .int .i64 ((begR key kind v).kind), .int .u64 ((begR key kind v).many : Int), .int .i64 ((begR key kind v).sum), .int .i64 ((begR key kind v).least), .int .i64 ((begR key kind v).most), .bool ((begR key kind v).over), .slice A' ((begR key kind v).bk.length) c']) ∧ OwnX 46 1 w' F' (.slice A' (begR key kind v).bk.length c') ((begR key kind v).bk.map cN) ∧ (∀ y ∈ F', w.heap.size ≤ y) ∧ Fr [] w w' := by
 have hble0_ := bl_le hv
 have HA := Fr.refl [] w
 refine Ze Tryz.func52 _ <| Zsg <| Zb 6 #[.string (⟨#[]⟩), J 0, .int .u64 0, J 0, J 0, J 0, .bool false, .slice none 0 0] 54 (fun g => Pt g 0) ?_
 intro g1 w2 HB4 F3 le5 _
 have ge_HA_g1 := Nat.le_trans HA.size le5
 refine Zdn <| Zsg <| Zr 6 <| Zb 7 #[.string (⟨#[]⟩), J 0, .int .u64 0, J 0, J 0, J 0, .bool false, .slice none 0 0] 54 (fun g => Pt g 0) ?_
 intro g6 w7 HB9 F8 le10 _
 have ne_g1_g6 := ltn HB4.lt le10
 have HA := HA.step0 F3
 have ge_HA_g6 := Nat.le_trans HA.size le10
 refine Zst g6 0 #[.string (str key), J kind, .int .u64 1, J v, J v, J v, .bool false, .slice none 0 0] HB9 ?_
 intro w11 HB13 F12 _
 have HB4 := (HB4.k F8).j F12 ne_g1_g6
 have HA := (HA.step0 F8).step F12 (inSR ge_HA_g6 inS0)
 refine Zdn <| Zq <| Zsg <| Zr 1 <| ZoP 15 ((kind : Int) = 3) ?_ ?_
 ·
  intro h14
  refine Zdn <| ZT <| WE.region <| Zr 1 <| Zc 17 (buk_f none 0 [] [] v _ (VX.nil _ _) (by simp) hv (by simp)) ?_
  rintro _ w15 ⟨A1, c1, G1, rfl, HO1, hg1, F16⟩
  refine ⟨_, rfl, trivial, ?_⟩
  have hg1r := fun y hy => Or.inr (a := y ∈ ([] : List Nat)) (hg1 y hy)
  have nin_g1_G1 := grow_nin hg1r (nin0 _) HB4.lt
  have nin_g6_G1 := grow_nin hg1r (nin0 _) HB13.lt
  have ge_HA_G1 := grow_ge hg1r (by simp) HA.size
  refine Zr 1 <| Zst g6 7 #[.string (str key), J kind, .int .u64 1, J v, J v, J v, .bool false, .slice A1 ((bumpN [] (bl v)).length) c1] (HB13.k F16) ?_
  intro w17 HB19 F18 _
  refine Zdn <| Zsg <| Zlb 19 [.string (str key), J kind, .int .u64 1, J v, J v, J v, .bool false, .slice A1 ((bumpN [] (bl v)).length) c1] g6 0 (same HB19) <| Zst g1 0 #[.string (str key), J kind, .int .u64 1, J v, J v, J v, .bool false, .slice A1 ((bumpN [] (bl v)).length) c1] ((HB4.k F16).j F18 ne_g1_g6) ?_
  intro w20 HB22 F21 _
  refine Zdn <| WE.ret <| WQ.ret1 (fn := Tryz.f52) (show Tryz.f52.results = #[.cell 6 54] by kernel_rfl) (show resOk _ _ _ _ (.agg #[.string (str key), J kind, .int .u64 1, J v, J v, J v, .bool false, .slice A1 ((bumpN [] (bl v)).length) c1]) from ⟨by kernel_rfl, ⟨g1, 0, none⟩, by kernel_rfl, ldVarB [.string (str key), J kind, .int .u64 1, J v, J v, J v, .bool false, .slice A1 ((bumpN [] (bl v)).length) c1] (by kernel_rfl) (by kernel_rfl) (by kernel_rfl) HB22 (by kernel_rfl)⟩) ?_
  exact ⟨A1, c1, G1, by simp only [begR, if_pos h14] <;> rfl, by simp only [begR, if_pos h14]; exact ((HO1.keep F18 (djB nin_g6_G1)).keep F21 (djB nin_g1_G1)), ge_HA_G1, (((HA.step0 F16).step F18 (inSR ge_HA_g6 inS0)).step F21 (inSR ge_HA_g1 inS0))⟩
 intro h14
 refine Zdn <| ZF <| Zk <| Zsg <| Zlb 19 [.string (str key), J kind, .int .u64 1, J v, J v, J v, .bool false, .slice none 0 0] g6 0 (same HB13) <| Zst g1 0 #[.string (str key), J kind, .int .u64 1, J v, J v, J v, .bool false, .slice none 0 0] HB4 ?_
 intro w23 HB25 F24 _
 refine Zdn <| WE.ret <| WQ.ret1 (fn := Tryz.f52) (show Tryz.f52.results = #[.cell 6 54] by kernel_rfl) (show resOk _ _ _ _ (.agg #[.string (str key), J kind, .int .u64 1, J v, J v, J v, .bool false, .slice none 0 0]) from ⟨by kernel_rfl, ⟨g1, 0, none⟩, by kernel_rfl, ldVarB [.string (str key), J kind, .int .u64 1, J v, J v, J v, .bool false, .slice none 0 0] (by kernel_rfl) (by kernel_rfl) (by kernel_rfl) HB25 (by kernel_rfl)⟩) ?_
 exact ⟨none, 0, [], by simp only [begR, if_neg h14]; rfl, by simp only [begR, if_neg h14]; exact OwnX.nil _ _ _, by simp, (HA.step F24 (inSR ge_HA_g1 inS0))⟩
set_option maxRecDepth 100000 in
set_option maxHeartbeats 400000 in
theorem tad_f (r : Rw) (A : Option Addr) (cp : Nat) (F : List Nat) (v : Int) (w : World) (HV : VX cN 1 w F A r.bk) (hl : r.bk.length ≤ 65) (hv : I64 v) (hin : r.In) :
    Calls Tryz.prog 51 #[.agg #[.string (str r.key), .int .i64 r.kind, .int .u64 (r.many : Int), .int .i64 r.sum, .int .i64 r.least, .int .i64 r.most, .bool r.over, .slice A r.bk.length cp], .int .i64 v] w fun e w' => ∃ A' c' F', e = .returned (.agg #[.string (str (addR r v).key), .int .i64 ((addR r v).kind), .int .u64 ((addR r v).many : Int), .int .i64 ((addR r v).sum), .int .i64 ((addR r v).least), .int .i64 ((addR r v).most), .bool ((addR r v).over), .slice A' ((addR r v).bk.length) c']) ∧ OwnX 46 1 w' F' (.slice A' (addR r v).bk.length c') ((addR r v).bk.map cN) ∧ (∀ y ∈ F', w.heap.size ≤ y) ∧ Fr [] w w' := by
 have hble0_ := bl_le hv
 have HA := Fr.refl [] w
 refine Ze Tryz.func51 _ <| Zsg <| Zb 2 #[.string (str r.key), J r.kind, .int .u64 (r.many : Int), J r.sum, J r.least, J r.most, .bool r.over, .slice A r.bk.length cp] 54 (fun g => Pt g 0) ?_
 intro g1 w2 HB4 F3 le5 _
 have nin_g1_F := new_nin HV.lt le5
 have ge_HA_g1 := Nat.le_trans HA.size le5
 refine Zb 4 #[.string (⟨#[]⟩), J 0, .int .u64 0, J 0, J 0, J 0, .bool false, .slice none 0 0] 54 (fun g => Pt g 0) ?_
 intro g6 w7 HB9 F8 le10 _
 have ne_g1_g6 := ltn HB4.lt le10
 have HA := HA.step0 F3
 have ge_HA_g6 := Nat.le_trans HA.size le10
 have HB4 := HB4.k F8
 refine Zdn <| Zsg <| Zr 1 <| Zl 9 (.int .u64 (r.many : Int)) (HB4.s 2) <| Zc 10 (cnt_f r.many _ hin.1) ?_
 rintro _ w12 ⟨bo11, rfl, F13⟩
 refine ⟨_, rfl, trivial, Zr 4 <| Zst g1 2 #[.string (str r.key), J r.kind, .int .u64 ((scount r.many) : Int), J r.sum, J r.least, J r.most, .bool r.over, .slice A r.bk.length cp] (HB4.k F13) ?_⟩
 intro w14 HB16 F15 _
 have HV := (((HV.keep F3 dj0).keep F8 dj0).keep F13 dj0).keep F15 (djB nin_g1_F)
 have HA := ((HA.step0 F8).step0 F13).step F15 (inSR ge_HA_g1 inS0)
 have HB9 := (HB9.k F13).j F15 (Ne.symm ne_g1_g6)
 refine Zdn <| Zq <| Zsg <| Zr 1 <| Zl 15 (J r.kind) (HB16.s 1) <| ZoP 16 ((r.kind : Int) = 2) ?_ ?_
 ·
  intro h17
  refine Zdn <| ZT <| WE.region <| Zr 2 <| Zst g1 3 #[.string (str r.key), J r.kind, .int .u64 ((scount r.many) : Int), J v, J r.least, J r.most, .bool r.over, .slice A r.bk.length cp] HB16 ?_
  intro w18 HB20 F19 _
  refine Zdn <| Zsg <| Zr 1 <| Zl 35 (J r.least) (HB20.s 4) <| Zr 3 <| Zl 39 (J r.most) (HB20.s 5) <| Zr 3 <| Zst g1 4 #[.string (str r.key), J r.kind, .int .u64 ((scount r.many) : Int), J v, J (if v < r.least then v else r.least), J r.most, .bool r.over, .slice A r.bk.length cp] HB20 ?_
  intro w21 HB23 F22 _
  refine Zr 1 <| Zst g1 5 #[.string (str r.key), J r.kind, .int .u64 ((scount r.many) : Int), J v, J (if v < r.least then v else r.least), J (if r.most < v then v else r.most), .bool r.over, .slice A r.bk.length cp] HB23 ?_
  intro w24 HB26 F25 _
  refine Zdn <| Zq <| Zsg <| Zr 1 <| Zl 45 (J r.kind) (HB26.s 1) <| ZoPF 46 ((r.kind : Int) = 3) (by omega) <| Zdn <| ZF <| WE.region <| Zr 1 <| Zl 53 (.slice A r.bk.length cp) (HB26.s 7) <| Zc 54 (clu_f A r.bk.length cp r.bk F _ (((HV.keep F19 (djB nin_g1_F)).keep F22 (djB nin_g1_F)).keep F25 (djB nin_g1_F)) rfl (by omega)) ?_
  rintro _ w27 ⟨A1, c1, G1, rfl, HO1, hg1, F28⟩
  refine ⟨_, rfl, trivial, ?_⟩
  have hg1r := fun y hy => Or.inr (a := y ∈ ([] : List Nat)) (hg1 y hy)
  have HB9 := ((HB9.j F19 (Ne.symm ne_g1_g6)).j F22 (Ne.symm ne_g1_g6)).j F25 (Ne.symm ne_g1_g6)
  have nin_g6_G1 := grow_nin hg1r (nin0 _) HB9.lt
  have nin_g1_G1 := grow_nin hg1r (nin0 _) HB26.lt
  have HA := ((HA.step F19 (inSR ge_HA_g1 inS0)).step F22 (inSR ge_HA_g1 inS0)).step F25 (inSR ge_HA_g1 inS0)
  have ge_HA_G1 := grow_ge hg1r (by simp) HA.size
  refine Zr 1 <| Zst g1 7 #[.string (str r.key), J r.kind, .int .u64 ((scount r.many) : Int), J v, J (if v < r.least then v else r.least), J (if r.most < v then v else r.most), .bool r.over, .slice A1 r.bk.length c1] (HB26.k F28) ?_
  intro w29 HB31 F30 _
  refine Zdn <| Zsg <| Zlb 56 [.string (str r.key), J r.kind, .int .u64 ((scount r.many) : Int), J v, J (if v < r.least then v else r.least), J (if r.most < v then v else r.most), .bool r.over, .slice A1 r.bk.length c1] g1 0 (same HB31) <| Zst g6 0 #[.string (str r.key), J r.kind, .int .u64 ((scount r.many) : Int), J v, J (if v < r.least then v else r.least), J (if r.most < v then v else r.most), .bool r.over, .slice A1 r.bk.length c1] ((HB9.k F28).j F30 (Ne.symm ne_g1_g6)) ?_
  intro w32 HB34 F33 _
  refine Zdn <| WE.ret <| WQ.ret1 (fn := Tryz.f51) (show Tryz.f51.results = #[.cell 4 54] by kernel_rfl) (show resOk _ _ _ _ (.agg #[.string (str r.key), J r.kind, .int .u64 ((scount r.many) : Int), J v, J (if v < r.least then v else r.least), J (if r.most < v then v else r.most), .bool r.over, .slice A1 r.bk.length c1]) from ⟨by kernel_rfl, ⟨g6, 0, none⟩, by kernel_rfl, ldVarB [.string (str r.key), J r.kind, .int .u64 ((scount r.many) : Int), J v, J (if v < r.least then v else r.least), J (if r.most < v then v else r.most), .bool r.over, .slice A1 r.bk.length c1] (by kernel_rfl) (by kernel_rfl) (by kernel_rfl) HB34 (by kernel_rfl)⟩) ?_
  exact ⟨A1, c1, G1, by simp only [addR, if_pos h17, if_neg (show ¬ r.kind = 3 by omega)], by simp only [addR, if_pos h17, if_neg (show ¬ r.kind = 3 by omega)]; exact ((HO1.keep F30 (djB nin_g1_G1)).keep F33 (djB nin_g6_G1)), ge_HA_G1, (((HA.step0 F28).step F30 (inSR ge_HA_g1 inS0)).step F33 (inSR ge_HA_g6 inS0))⟩
 intro h17
 refine Zdn <| ZF <| Zsg <| Zr 1 <| Zl 21 (J r.sum) (HB16.s 3) <| Zr 1 <| Zc 23 (sad_f r.sum v _ hin.2.1 hv) ?_
 rintro _ w35 ⟨rfl, F36⟩
 have HB16 := HB16.k F36
 refine ⟨_, rfl, trivial, Zr 5 <| Zdn <| WE.region <| Zr 2 <| Zl 28 (.bool r.over) (HB16.s 6) ?_⟩
 refine WO.topB (r.over) ?_ ?_
 ·
  intro h37
  refine Zr 4 <| Zst g1 3 #[.string (str r.key), J r.kind, .int .u64 ((scount r.many) : Int), J ((sadd r.sum v).1), J r.least, J r.most, .bool r.over, .slice A r.bk.length cp] HB16 ?_
  intro w38 HB40 F39 _
  refine Zr 1 <| Zst g1 6 #[.string (str r.key), J r.kind, .int .u64 ((scount r.many) : Int), J ((sadd r.sum v).1), J r.least, J r.most, .bool true, .slice A r.bk.length cp] HB40 ?_
  intro w41 HB43 F42 _
  refine Zdn <| Zsg <| Zr 1 <| Zl 35 (J r.least) (HB43.s 4) <| Zr 3 <| Zl 39 (J r.most) (HB43.s 5) <| Zr 3 <| Zst g1 4 #[.string (str r.key), J r.kind, .int .u64 ((scount r.many) : Int), J ((sadd r.sum v).1), J (if v < r.least then v else r.least), J r.most, .bool true, .slice A r.bk.length cp] HB43 ?_
  intro w44 HB46 F45 _
  refine Zr 1 <| Zst g1 5 #[.string (str r.key), J r.kind, .int .u64 ((scount r.many) : Int), J ((sadd r.sum v).1), J (if v < r.least then v else r.least), J (if r.most < v then v else r.most), .bool true, .slice A r.bk.length cp] HB46 ?_
  intro w47 HB49 F48 _
  have HB9 := ((((HB9.k F36).j F39 (Ne.symm ne_g1_g6)).j F42 (Ne.symm ne_g1_g6)).j F45 (Ne.symm ne_g1_g6)).j F48 (Ne.symm ne_g1_g6)
  have HV := ((((HV.keep F36 dj0).keep F39 (djB nin_g1_F)).keep F42 (djB nin_g1_F)).keep F45 (djB nin_g1_F)).keep F48 (djB nin_g1_F)
  have HA := ((((HA.step0 F36).step F39 (inSR ge_HA_g1 inS0)).step F42 (inSR ge_HA_g1 inS0)).step F45 (inSR ge_HA_g1 inS0)).step F48 (inSR ge_HA_g1 inS0)
  refine Zdn <| Zq <| Zsg <| Zr 1 <| Zl 45 (J r.kind) (HB49.s 1) <| ZoP 46 ((r.kind : Int) = 3) ?_ ?_
  ·
   intro h50
   refine Zdn <| ZT <| WE.region <| Zr 1 <| Zl 48 (.slice A r.bk.length cp) (HB49.s 7) <| Zr 1 <| Zc 50 (buk_f A cp r.bk F v _ HV (by omega) hv hin.2.2.2.2) ?_
   rintro _ w51 ⟨A1, c1, G1, rfl, HO1, hg1, F52⟩
   refine ⟨_, rfl, trivial, ?_⟩
   have hg1r := fun y hy => Or.inr (a := y ∈ ([] : List Nat)) (hg1 y hy)
   have nin_g6_G1 := grow_nin hg1r (nin0 _) HB9.lt
   have nin_g1_G1 := grow_nin hg1r (nin0 _) HB49.lt
   have ge_HA_G1 := grow_ge hg1r (by simp) HA.size
   refine Zr 1 <| Zst g1 7 #[.string (str r.key), J r.kind, .int .u64 ((scount r.many) : Int), J ((sadd r.sum v).1), J (if v < r.least then v else r.least), J (if r.most < v then v else r.most), .bool true, .slice A1 ((bumpN r.bk (bl v)).length) c1] (HB49.k F52) ?_
   intro w53 HB55 F54 _
   refine Zdn <| Zsg <| Zlb 56 [.string (str r.key), J r.kind, .int .u64 ((scount r.many) : Int), J ((sadd r.sum v).1), J (if v < r.least then v else r.least), J (if r.most < v then v else r.most), .bool true, .slice A1 ((bumpN r.bk (bl v)).length) c1] g1 0 (same HB55) <| Zst g6 0 #[.string (str r.key), J r.kind, .int .u64 ((scount r.many) : Int), J ((sadd r.sum v).1), J (if v < r.least then v else r.least), J (if r.most < v then v else r.most), .bool true, .slice A1 ((bumpN r.bk (bl v)).length) c1] ((HB9.k F52).j F54 (Ne.symm ne_g1_g6)) ?_
   intro w56 HB58 F57 _
   refine Zdn <| WE.ret <| WQ.ret1 (fn := Tryz.f51) (show Tryz.f51.results = #[.cell 4 54] by kernel_rfl) (show resOk _ _ _ _ (.agg #[.string (str r.key), J r.kind, .int .u64 ((scount r.many) : Int), J ((sadd r.sum v).1), J (if v < r.least then v else r.least), J (if r.most < v then v else r.most), .bool true, .slice A1 ((bumpN r.bk (bl v)).length) c1]) from ⟨by kernel_rfl, ⟨g6, 0, none⟩, by kernel_rfl, ldVarB [.string (str r.key), J r.kind, .int .u64 ((scount r.many) : Int), J ((sadd r.sum v).1), J (if v < r.least then v else r.least), J (if r.most < v then v else r.most), .bool true, .slice A1 ((bumpN r.bk (bl v)).length) c1] (by kernel_rfl) (by kernel_rfl) (by kernel_rfl) HB58 (by kernel_rfl)⟩) ?_
   exact ⟨A1, c1, G1, by simp only [addR, if_neg h17, if_pos h50, h37, Bool.true_or], by simp only [addR, if_neg h17, if_pos h50, h37, Bool.true_or]; exact ((HO1.keep F54 (djB nin_g1_G1)).keep F57 (djB nin_g6_G1)), ge_HA_G1, (((HA.step0 F52).step F54 (inSR ge_HA_g1 inS0)).step F57 (inSR ge_HA_g6 inS0))⟩
  intro h50
  refine Zdn <| ZF <| WE.region <| Zr 1 <| Zl 53 (.slice A r.bk.length cp) (HB49.s 7) <| Zc 54 (clu_f A r.bk.length cp r.bk F _ HV rfl (by omega)) ?_
  rintro _ w59 ⟨A1, c1, G1, rfl, HO1, hg1, F60⟩
  refine ⟨_, rfl, trivial, ?_⟩
  have hg1r := fun y hy => Or.inr (a := y ∈ ([] : List Nat)) (hg1 y hy)
  have nin_g6_G1 := grow_nin hg1r (nin0 _) HB9.lt
  have nin_g1_G1 := grow_nin hg1r (nin0 _) HB49.lt
  have ge_HA_G1 := grow_ge hg1r (by simp) HA.size
  refine Zr 1 <| Zst g1 7 #[.string (str r.key), J r.kind, .int .u64 ((scount r.many) : Int), J ((sadd r.sum v).1), J (if v < r.least then v else r.least), J (if r.most < v then v else r.most), .bool true, .slice A1 r.bk.length c1] (HB49.k F60) ?_
  intro w61 HB63 F62 _
  refine Zdn <| Zsg <| Zlb 56 [.string (str r.key), J r.kind, .int .u64 ((scount r.many) : Int), J ((sadd r.sum v).1), J (if v < r.least then v else r.least), J (if r.most < v then v else r.most), .bool true, .slice A1 r.bk.length c1] g1 0 (same HB63) <| Zst g6 0 #[.string (str r.key), J r.kind, .int .u64 ((scount r.many) : Int), J ((sadd r.sum v).1), J (if v < r.least then v else r.least), J (if r.most < v then v else r.most), .bool true, .slice A1 r.bk.length c1] ((HB9.k F60).j F62 (Ne.symm ne_g1_g6)) ?_
  intro w64 HB66 F65 _
  refine Zdn <| WE.ret <| WQ.ret1 (fn := Tryz.f51) (show Tryz.f51.results = #[.cell 4 54] by kernel_rfl) (show resOk _ _ _ _ (.agg #[.string (str r.key), J r.kind, .int .u64 ((scount r.many) : Int), J ((sadd r.sum v).1), J (if v < r.least then v else r.least), J (if r.most < v then v else r.most), .bool true, .slice A1 r.bk.length c1]) from ⟨by kernel_rfl, ⟨g6, 0, none⟩, by kernel_rfl, ldVarB [.string (str r.key), J r.kind, .int .u64 ((scount r.many) : Int), J ((sadd r.sum v).1), J (if v < r.least then v else r.least), J (if r.most < v then v else r.most), .bool true, .slice A1 r.bk.length c1] (by kernel_rfl) (by kernel_rfl) (by kernel_rfl) HB66 (by kernel_rfl)⟩) ?_
  exact ⟨A1, c1, G1, by simp only [addR, if_neg h17, if_neg h50, h37, Bool.true_or], by simp only [addR, if_neg h17, if_neg h50, h37, Bool.true_or]; exact ((HO1.keep F62 (djB nin_g1_G1)).keep F65 (djB nin_g6_G1)), ge_HA_G1, (((HA.step0 F60).step F62 (inSR ge_HA_g1 inS0)).step F65 (inSR ge_HA_g6 inS0))⟩
 intro h37
 refine Zr 4 <| Zst g1 3 #[.string (str r.key), J r.kind, .int .u64 ((scount r.many) : Int), J ((sadd r.sum v).1), J r.least, J r.most, .bool r.over, .slice A r.bk.length cp] HB16 ?_
 intro w67 HB69 F68 _
 refine Zr 1 <| Zst g1 6 #[.string (str r.key), J r.kind, .int .u64 ((scount r.many) : Int), J ((sadd r.sum v).1), J r.least, J r.most, .bool ((sadd r.sum v).2), .slice A r.bk.length cp] HB69 ?_
 intro w70 HB72 F71 _
 refine Zdn <| Zsg <| Zr 1 <| Zl 35 (J r.least) (HB72.s 4) <| Zr 3 <| Zl 39 (J r.most) (HB72.s 5) <| Zr 3 <| Zst g1 4 #[.string (str r.key), J r.kind, .int .u64 ((scount r.many) : Int), J ((sadd r.sum v).1), J (if v < r.least then v else r.least), J r.most, .bool ((sadd r.sum v).2), .slice A r.bk.length cp] HB72 ?_
 intro w73 HB75 F74 _
 refine Zr 1 <| Zst g1 5 #[.string (str r.key), J r.kind, .int .u64 ((scount r.many) : Int), J ((sadd r.sum v).1), J (if v < r.least then v else r.least), J (if r.most < v then v else r.most), .bool ((sadd r.sum v).2), .slice A r.bk.length cp] HB75 ?_
 intro w76 HB78 F77 _
 have HB9 := ((((HB9.k F36).j F68 (Ne.symm ne_g1_g6)).j F71 (Ne.symm ne_g1_g6)).j F74 (Ne.symm ne_g1_g6)).j F77 (Ne.symm ne_g1_g6)
 have HV := ((((HV.keep F36 dj0).keep F68 (djB nin_g1_F)).keep F71 (djB nin_g1_F)).keep F74 (djB nin_g1_F)).keep F77 (djB nin_g1_F)
 have HA := ((((HA.step0 F36).step F68 (inSR ge_HA_g1 inS0)).step F71 (inSR ge_HA_g1 inS0)).step F74 (inSR ge_HA_g1 inS0)).step F77 (inSR ge_HA_g1 inS0)
 refine Zdn <| Zq <| Zsg <| Zr 1 <| Zl 45 (J r.kind) (HB78.s 1) <| ZoP 46 ((r.kind : Int) = 3) ?_ ?_
 ·
  intro h79
  refine Zdn <| ZT <| WE.region <| Zr 1 <| Zl 48 (.slice A r.bk.length cp) (HB78.s 7) <| Zr 1 <| Zc 50 (buk_f A cp r.bk F v _ HV (by omega) hv hin.2.2.2.2) ?_
  rintro _ w80 ⟨A1, c1, G1, rfl, HO1, hg1, F81⟩
  refine ⟨_, rfl, trivial, ?_⟩
  have hg1r := fun y hy => Or.inr (a := y ∈ ([] : List Nat)) (hg1 y hy)
  have nin_g6_G1 := grow_nin hg1r (nin0 _) HB9.lt
  have nin_g1_G1 := grow_nin hg1r (nin0 _) HB78.lt
  have ge_HA_G1 := grow_ge hg1r (by simp) HA.size
  refine Zr 1 <| Zst g1 7 #[.string (str r.key), J r.kind, .int .u64 ((scount r.many) : Int), J ((sadd r.sum v).1), J (if v < r.least then v else r.least), J (if r.most < v then v else r.most), .bool ((sadd r.sum v).2), .slice A1 ((bumpN r.bk (bl v)).length) c1] (HB78.k F81) ?_
  intro w82 HB84 F83 _
  refine Zdn <| Zsg <| Zlb 56 [.string (str r.key), J r.kind, .int .u64 ((scount r.many) : Int), J ((sadd r.sum v).1), J (if v < r.least then v else r.least), J (if r.most < v then v else r.most), .bool ((sadd r.sum v).2), .slice A1 ((bumpN r.bk (bl v)).length) c1] g1 0 (same HB84) <| Zst g6 0 #[.string (str r.key), J r.kind, .int .u64 ((scount r.many) : Int), J ((sadd r.sum v).1), J (if v < r.least then v else r.least), J (if r.most < v then v else r.most), .bool ((sadd r.sum v).2), .slice A1 ((bumpN r.bk (bl v)).length) c1] ((HB9.k F81).j F83 (Ne.symm ne_g1_g6)) ?_
  intro w85 HB87 F86 _
  refine Zdn <| WE.ret <| WQ.ret1 (fn := Tryz.f51) (show Tryz.f51.results = #[.cell 4 54] by kernel_rfl) (show resOk _ _ _ _ (.agg #[.string (str r.key), J r.kind, .int .u64 ((scount r.many) : Int), J ((sadd r.sum v).1), J (if v < r.least then v else r.least), J (if r.most < v then v else r.most), .bool ((sadd r.sum v).2), .slice A1 ((bumpN r.bk (bl v)).length) c1]) from ⟨by kernel_rfl, ⟨g6, 0, none⟩, by kernel_rfl, ldVarB [.string (str r.key), J r.kind, .int .u64 ((scount r.many) : Int), J ((sadd r.sum v).1), J (if v < r.least then v else r.least), J (if r.most < v then v else r.most), .bool ((sadd r.sum v).2), .slice A1 ((bumpN r.bk (bl v)).length) c1] (by kernel_rfl) (by kernel_rfl) (by kernel_rfl) HB87 (by kernel_rfl)⟩) ?_
  exact ⟨A1, c1, G1, by simp only [addR, if_neg h17, if_pos h79, h37, Bool.false_or], by simp only [addR, if_neg h17, if_pos h79, h37, Bool.false_or]; exact ((HO1.keep F83 (djB nin_g1_G1)).keep F86 (djB nin_g6_G1)), ge_HA_G1, (((HA.step0 F81).step F83 (inSR ge_HA_g1 inS0)).step F86 (inSR ge_HA_g6 inS0))⟩
 intro h79
 refine Zdn <| ZF <| WE.region <| Zr 1 <| Zl 53 (.slice A r.bk.length cp) (HB78.s 7) <| Zc 54 (clu_f A r.bk.length cp r.bk F _ HV rfl (by omega)) ?_
 rintro _ w88 ⟨A1, c1, G1, rfl, HO1, hg1, F89⟩
 refine ⟨_, rfl, trivial, ?_⟩
 have hg1r := fun y hy => Or.inr (a := y ∈ ([] : List Nat)) (hg1 y hy)
 have nin_g6_G1 := grow_nin hg1r (nin0 _) HB9.lt
 have nin_g1_G1 := grow_nin hg1r (nin0 _) HB78.lt
 have ge_HA_G1 := grow_ge hg1r (by simp) HA.size
 refine Zr 1 <| Zst g1 7 #[.string (str r.key), J r.kind, .int .u64 ((scount r.many) : Int), J ((sadd r.sum v).1), J (if v < r.least then v else r.least), J (if r.most < v then v else r.most), .bool ((sadd r.sum v).2), .slice A1 r.bk.length c1] (HB78.k F89) ?_
 intro w90 HB92 F91 _
 refine Zdn <| Zsg <| Zlb 56 [.string (str r.key), J r.kind, .int .u64 ((scount r.many) : Int), J ((sadd r.sum v).1), J (if v < r.least then v else r.least), J (if r.most < v then v else r.most), .bool ((sadd r.sum v).2), .slice A1 r.bk.length c1] g1 0 (same HB92) <| Zst g6 0 #[.string (str r.key), J r.kind, .int .u64 ((scount r.many) : Int), J ((sadd r.sum v).1), J (if v < r.least then v else r.least), J (if r.most < v then v else r.most), .bool ((sadd r.sum v).2), .slice A1 r.bk.length c1] ((HB9.k F89).j F91 (Ne.symm ne_g1_g6)) ?_
 intro w93 HB95 F94 _
 refine Zdn <| WE.ret <| WQ.ret1 (fn := Tryz.f51) (show Tryz.f51.results = #[.cell 4 54] by kernel_rfl) (show resOk _ _ _ _ (.agg #[.string (str r.key), J r.kind, .int .u64 ((scount r.many) : Int), J ((sadd r.sum v).1), J (if v < r.least then v else r.least), J (if r.most < v then v else r.most), .bool ((sadd r.sum v).2), .slice A1 r.bk.length c1]) from ⟨by kernel_rfl, ⟨g6, 0, none⟩, by kernel_rfl, ldVarB [.string (str r.key), J r.kind, .int .u64 ((scount r.many) : Int), J ((sadd r.sum v).1), J (if v < r.least then v else r.least), J (if r.most < v then v else r.most), .bool ((sadd r.sum v).2), .slice A1 r.bk.length c1] (by kernel_rfl) (by kernel_rfl) (by kernel_rfl) HB95 (by kernel_rfl)⟩) ?_
 exact ⟨A1, c1, G1, by simp only [addR, if_neg h17, if_neg h79, h37, Bool.false_or], by simp only [addR, if_neg h17, if_neg h79, h37, Bool.false_or]; exact ((HO1.keep F91 (djB nin_g1_G1)).keep F94 (djB nin_g6_G1)), ge_HA_G1, (((HA.step0 F89).step F91 (inSR ge_HA_g1 inS0)).step F94 (inSR ge_HA_g6 inS0))⟩
end Go.Proofs.YtdhonbahpcmmnaaGreatDoor.Bat
end
section
namespace Go.Proofs
open Go.Shelf
def Tryz.sortF_ren : Go.Shelf.Ren := ⟨fun | 6 => 55 | 15 => 73 | 14 => 72 | 28 => 99 | 29 => 100 | 20 => 91 | 21 => 92 | 22 => 93 | 23 => 94 | 24 => 95 | 25 => 96 | 26 => 97 | 27 => 98 | 46 => 132 | 47 => 133 | 48 => 134 | 49 => 135 | 50 => 136 | 57 => 152 | n => n, fun | 22 => 22 | 24 => 54 | 25 => 106 | 3 => 3 | 39 => 112 | 0 => 0 | 53 => 158 | 55 => 46 | 4 => 4 | 46 => 151 | 45 => 150 | 50 => 155 | 5 => 5 | 9 => 9 | 66 => 183 | 70 => 186 | 76 => 196 | 77 => 197 | n => n, fun | n => n⟩
theorem Tryz.sortF : Go.Proofs.SlLaysF0.n6 Tryz.prog Tryz.sortF_ren := {
 mixed := by kernel_rfl
 f6 := ⟨Tryz.f55.name, by decide, Tryz.func55.trans (congrArg some (by kernel_rfl))⟩
 f14 := ⟨Tryz.f72.name, by decide, Tryz.func72.trans (congrArg some (by kernel_rfl))⟩
 f15 := Tryz.func73.trans (congrArg some (by kernel_rfl))
 f20 := ⟨Tryz.f91.name, by decide, Tryz.func91.trans (congrArg some (by kernel_rfl))⟩
 f21 := ⟨Tryz.f92.name, by decide, Tryz.func92.trans (congrArg some (by kernel_rfl))⟩
 f22 := ⟨Tryz.f93.name, by decide, Tryz.func93.trans (congrArg some (by kernel_rfl))⟩
 f23 := ⟨Tryz.f94.name, by decide, Tryz.func94.trans (congrArg some (by kernel_rfl))⟩
 f24 := ⟨Tryz.f95.name, by decide, Tryz.func95.trans (congrArg some (by kernel_rfl))⟩
 f25 := ⟨Tryz.f96.name, by decide, Tryz.func96.trans (congrArg some (by kernel_rfl))⟩
 f26 := ⟨Tryz.f97.name, by decide, Tryz.func97.trans (congrArg some (by kernel_rfl))⟩
 f27 := ⟨Tryz.f98.name, by decide, Tryz.func98.trans (congrArg some (by kernel_rfl))⟩
 f28 := Tryz.func99.trans (congrArg some (by kernel_rfl))
 f29 := Tryz.func100.trans (congrArg some (by kernel_rfl))
 f46 := ⟨Tryz.f132.name, by decide, Tryz.func132.trans (congrArg some (by kernel_rfl))⟩
 f47 := Tryz.func133.trans (congrArg some (by kernel_rfl))
 f48 := Tryz.func134.trans (congrArg some (by kernel_rfl))
 f49 := ⟨Tryz.f135.name, by decide, Tryz.func135.trans (congrArg some (by kernel_rfl))⟩
 f50 := ⟨Tryz.f136.name, by decide, Tryz.func136.trans (congrArg some (by kernel_rfl))⟩
 f57 := ⟨Tryz.f152.name, by decide, Tryz.func152.trans (congrArg some (by kernel_rfl))⟩
 t0 := Tryz.underlying0
 a0 := Tryz.isAgg0
 z0 := Tryz.sizeOf0
 v0 := Tryz.zeroValue0
 t3 := Tryz.underlying3
 a3 := Tryz.isAgg3
 z3 := Tryz.sizeOf3
 v3 := Tryz.zeroValue3
 t4 := Tryz.underlying4
 a4 := Tryz.isAgg4
 z4 := Tryz.sizeOf4
 v4 := Tryz.zeroValue4
 t5 := Tryz.underlying5
 a5 := Tryz.isAgg5
 z5 := Tryz.sizeOf5
 v5 := Tryz.zeroValue5
 t9 := Tryz.underlying9
 a9 := Tryz.isAgg9
 z9 := Tryz.sizeOf9
 v9 := Tryz.zeroValue9
 t22 := Tryz.underlying22
 a22 := Tryz.isAgg22
 z22 := Tryz.sizeOf22
 v22 := Tryz.zeroValue22
 t25 := Tryz.underlying106
 a25 := Tryz.isAgg106
 z25 := Tryz.sizeOf106
 v25 := Tryz.zeroValue106
 t39 := Tryz.underlying112
 a39 := Tryz.isAgg112
 z39 := Tryz.sizeOf112
 v39 := Tryz.zeroValue112
 t45 := Tryz.underlying150
 a45 := Tryz.isAgg150
 z45 := Tryz.sizeOf150
 v45 := Tryz.zeroValue150
 t46 := Tryz.underlying151
 a46 := Tryz.isAgg151
 z46 := Tryz.sizeOf151
 v46 := Tryz.zeroValue151
 t50 := Tryz.underlying155
 a50 := Tryz.isAgg155
 z50 := Tryz.sizeOf155
 v50 := Tryz.zeroValue155
 t53 := Tryz.underlying158
 a53 := Tryz.isAgg158
 z53 := Tryz.sizeOf158
 v53 := Tryz.zeroValue158
 t55 := Tryz.underlying46
 a55 := Tryz.isAgg46
 z55 := Tryz.sizeOf46
 v55 := Tryz.zeroValue46
 t66 := Tryz.underlying183
 a66 := Tryz.isAgg183
 z66 := Tryz.sizeOf183
 v66 := Tryz.zeroValue183
 t70 := Tryz.underlying186
 a70 := Tryz.isAgg186
 z70 := Tryz.sizeOf186
 v70 := Tryz.zeroValue186
 t76 := Tryz.underlying196
 a76 := Tryz.isAgg196
 z76 := Tryz.sizeOf196
 v76 := Tryz.zeroValue196
 t77 := Tryz.underlying197
 a77 := Tryz.isAgg197
 z77 := Tryz.sizeOf197
 v77 := Tryz.zeroValue197 }
def Tryz.sortI_ren : Go.Shelf.Ren := ⟨fun | 5 => 71 | 8 => 73 | 7 => 90 | 19 => 99 | 20 => 100 | 10 => 123 | 11 => 124 | 12 => 125 | 13 => 126 | 14 => 127 | 15 => 128 | 16 => 129 | 17 => 130 | 18 => 131 | 30 => 148 | 31 => 133 | 32 => 134 | 33 => 149 | 34 => 150 | 35 => 151 | 40 => 173 | n => n, fun | 23 => 63 | 25 => 2 | 3 => 3 | 32 => 112 | 22 => 63 | 0 => 0 | 44 => 158 | 46 => 46 | 4 => 4 | 36 => 151 | 35 => 150 | 41 => 155 | 5 => 5 | 9 => 9 | 53 => 183 | 57 => 186 | 63 => 196 | 64 => 197 | n => n, fun | n => n⟩
theorem Tryz.sortI : Go.Proofs.SlLaysM.n5 Tryz.prog Tryz.sortI_ren := {
 mixed := by kernel_rfl
 f5 := ⟨Tryz.f71.name, by decide, Tryz.func71.trans (congrArg some (by kernel_rfl))⟩
 f7 := ⟨Tryz.f90.name, by decide, Tryz.func90.trans (congrArg some (by kernel_rfl))⟩
 f8 := Tryz.func73.trans (congrArg some (by kernel_rfl))
 f10 := ⟨Tryz.f123.name, by decide, Tryz.func123.trans (congrArg some (by kernel_rfl))⟩
 f11 := ⟨Tryz.f124.name, by decide, Tryz.func124.trans (congrArg some (by kernel_rfl))⟩
 f12 := ⟨Tryz.f125.name, by decide, Tryz.func125.trans (congrArg some (by kernel_rfl))⟩
 f13 := ⟨Tryz.f126.name, by decide, Tryz.func126.trans (congrArg some (by kernel_rfl))⟩
 f14 := ⟨Tryz.f127.name, by decide, Tryz.func127.trans (congrArg some (by kernel_rfl))⟩
 f15 := ⟨Tryz.f128.name, by decide, Tryz.func128.trans (congrArg some (by kernel_rfl))⟩
 f16 := ⟨Tryz.f129.name, by decide, Tryz.func129.trans (congrArg some (by kernel_rfl))⟩
 f17 := ⟨Tryz.f130.name, by decide, Tryz.func130.trans (congrArg some (by kernel_rfl))⟩
 f18 := ⟨Tryz.f131.name, by decide, Tryz.func131.trans (congrArg some (by kernel_rfl))⟩
 f19 := Tryz.func99.trans (congrArg some (by kernel_rfl))
 f20 := Tryz.func100.trans (congrArg some (by kernel_rfl))
 f30 := ⟨Tryz.f148.name, by decide, Tryz.func148.trans (congrArg some (by kernel_rfl))⟩
 f31 := Tryz.func133.trans (congrArg some (by kernel_rfl))
 f32 := Tryz.func134.trans (congrArg some (by kernel_rfl))
 f33 := ⟨Tryz.f149.name, by decide, Tryz.func149.trans (congrArg some (by kernel_rfl))⟩
 f34 := ⟨Tryz.f150.name, by decide, Tryz.func150.trans (congrArg some (by kernel_rfl))⟩
 f35 := ⟨Tryz.f151.name, by decide, Tryz.func151.trans (congrArg some (by kernel_rfl))⟩
 f40 := ⟨Tryz.f173.name, by decide, Tryz.func173.trans (congrArg some (by kernel_rfl))⟩
 t0 := Tryz.underlying0
 a0 := Tryz.isAgg0
 z0 := Tryz.sizeOf0
 v0 := Tryz.zeroValue0
 t3 := Tryz.underlying3
 a3 := Tryz.isAgg3
 z3 := Tryz.sizeOf3
 v3 := Tryz.zeroValue3
 t4 := Tryz.underlying4
 a4 := Tryz.isAgg4
 z4 := Tryz.sizeOf4
 v4 := Tryz.zeroValue4
 t5 := Tryz.underlying5
 a5 := Tryz.isAgg5
 z5 := Tryz.sizeOf5
 v5 := Tryz.zeroValue5
 t9 := Tryz.underlying9
 a9 := Tryz.isAgg9
 z9 := Tryz.sizeOf9
 v9 := Tryz.zeroValue9
 t22 := Tryz.underlying63
 a22 := Tryz.isAgg63
 z22 := Tryz.sizeOf63
 v22 := Tryz.zeroValue63
 t23 := Tryz.underlying63
 a23 := Tryz.isAgg63
 z23 := Tryz.sizeOf63
 v23 := Tryz.zeroValue63
 t25 := Tryz.underlying2
 a25 := Tryz.isAgg2
 z25 := Tryz.sizeOf2
 v25 := Tryz.zeroValue2
 t32 := Tryz.underlying112
 a32 := Tryz.isAgg112
 z32 := Tryz.sizeOf112
 v32 := Tryz.zeroValue112
 t35 := Tryz.underlying150
 a35 := Tryz.isAgg150
 z35 := Tryz.sizeOf150
 v35 := Tryz.zeroValue150
 t36 := Tryz.underlying151
 a36 := Tryz.isAgg151
 z36 := Tryz.sizeOf151
 v36 := Tryz.zeroValue151
 t41 := Tryz.underlying155
 a41 := Tryz.isAgg155
 z41 := Tryz.sizeOf155
 v41 := Tryz.zeroValue155
 t44 := Tryz.underlying158
 a44 := Tryz.isAgg158
 z44 := Tryz.sizeOf158
 v44 := Tryz.zeroValue158
 t46 := Tryz.underlying46
 a46 := Tryz.isAgg46
 z46 := Tryz.sizeOf46
 v46 := Tryz.zeroValue46
 t53 := Tryz.underlying183
 a53 := Tryz.isAgg183
 z53 := Tryz.sizeOf183
 v53 := Tryz.zeroValue183
 t57 := Tryz.underlying186
 a57 := Tryz.isAgg186
 z57 := Tryz.sizeOf186
 v57 := Tryz.zeroValue186
 t63 := Tryz.underlying196
 a63 := Tryz.isAgg196
 z63 := Tryz.sizeOf196
 v63 := Tryz.zeroValue196
 t64 := Tryz.underlying197
 a64 := Tryz.isAgg197
 z64 := Tryz.sizeOf197
 v64 := Tryz.zeroValue197 }
end Go.Proofs
end
