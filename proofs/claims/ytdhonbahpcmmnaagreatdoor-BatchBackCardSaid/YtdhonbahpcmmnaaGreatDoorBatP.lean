/- Layer 7's walks: Put, twice. -/
import Derived.Test.YtdhonbahpcmmnaaGreatDoorBatS
import Derived.Test.YtdhonbahpcmmnaaGreatDoorEngC
set_option linter.unusedVariables false
set_option linter.unusedSimpArgs false
namespace Go.Proofs.YtdhonbahpcmmnaaGreatDoor.Bat
open Go Go.RowKit Go.Proofs.YtdhonbahpcmmnaaGreatDoor Go.Proofs.YtdhonbahpcmmnaaGreatDoor.Eng Go.Proofs.YtdhonbahpcmmnaaGreatDoorW.PrintWords
open Go.Proofs
open Go.Proofs.YtdhonbahpcmmnaaGreatDoor.Line
open Go.Proofs.YtdhonbahpcmmnaaGreatDoor.Wire (enc zig unzig encT St rNum rWhole rText rEnd)
theorem textk_w (k : L) (A : Option Addr) (n c : Nat) (l : List UInt8) (FB : List Nat) (w : World) (HV : VX cB 1 w FB A l) (hn : l.length = n) (hlen : l.length ≤ 1000000000) (hs : k.length ≤ 1000000000) :
    Calls Tryz.prog 34 #[.slice A n c, .string (str k)] w fun e w' => ∃ b cap, e = .returned (.slice (some ⟨b, 0, none⟩) (l ++ encT k).length cap) ∧ RowB w' b 5 1 cap ((l ++ encT k).map cB) ∧ Fr [] w w' ∧ w.heap.size ≤ b :=
  Wire.text_w (str k) A n c l FB w HV hn hlen (by rw [str_size]; exact hs)
theorem textk_m (k : L) (w : World) (hs : k.length ≤ 1000000000) :
    Calls Tryz.prog 39 #[.string (str k)] w fun e w' => ∃ b cap, e = .returned (.slice (some ⟨b, 0, none⟩) (encT k).length cap) ∧ RowB w' b 5 1 cap ((encT k).map cB) ∧ Fr [] w w' ∧ w.heap.size ≤ b :=
  Wire.text_m (str k) w (by rw [str_size]; exact hs)
def preB (sq st n : Nat) (xs : List RX) (i : Nat) : L := enc sq ++ enc st ++ enc n ++ ((rws xs).take i).flatMap encR
theorem preB_snoc {sq st n : Nat} {xs : List RX} {i : Nat} (h : i < xs.length) : preB sq st n xs i ++ encR (gX xs i).1 = preB sq st n xs (i + 1) := by
  unfold preB
  rw [List.append_assoc, ← gW_rws, encR_snoc _ _ (by rw [rws_len]; exact h)]
theorem preB_all {sq st n : Nat} {xs : List RX} (h : xs.length = n) : preB sq st n xs n = encB ⟨(sq : Int), (st : Int), rws xs⟩ := by
  unfold preB encB
  rw [List.take_of_length_le (by rw [rws_len]; omega)]
  simp only [Int.toNat_natCast, rws_len, h, List.append_assoc]
theorem head_facts {sq st n : Nat} {xs : List RX} (h : mayB ⟨(sq : Int), (st : Int), rws xs⟩ = true) (hn : xs.length = n) : sq ≤ 2147483647 ∧ st ≤ 1099511627776 ∧ n ≤ 200 ∧ (enc sq).length ≤ 10 ∧ (enc st).length ≤ 10 ∧ (enc n).length ≤ 10 := by
  obtain ⟨h1, h2, h3, h4, h5, _⟩ := mayB_iff.1 h
  dsimp only at h1 h2 h3 h4 h5
  rw [rws_len] at h5
  have a1 := enc_len10 (n := sq) (by omega)
  have a2 := enc_len10 (n := st) (by omega)
  have a3 := enc_len10 (n := n) (by omega)
  omega
theorem in_rws {xs : List RX} (h : ∀ x ∈ xs, x.1.In) : ∀ r ∈ rws xs, r.In := fun r hr => by
  obtain ⟨x, hx, rfl⟩ := List.mem_map.1 hr
  exact h x hx
theorem row_facts {sq st : Nat} {xs : List RX} (h : mayB ⟨(sq : Int), (st : Int), rws xs⟩ = true) (hin : ∀ x ∈ xs, x.1.In) {i : Nat} (hi : i < xs.length) : (gX xs i).1.key.length ≤ 294 ∧ (1 ≤ (gX xs i).1.kind ∧ (gX xs i).1.kind ≤ 3) ∧ (gX xs i).1.bk.length ≤ 65 ∧ (encT (gX xs i).1.key).length ≤ 304 ∧ (enc (gX xs i).1.kind.toNat).length ≤ 10 ∧ (enc (gX xs i).1.many).length ≤ 10 ∧ (enc (zig (gX xs i).1.sum)).length ≤ 10 ∧ (enc (zig (gX xs i).1.least)).length ≤ 10 ∧ (enc (zig (gX xs i).1.most)).length ≤ 10 ∧ (enc (gX xs i).1.bk.length).length ≤ 10 ∧ ((enc 0).length ≤ 10 ∧ (enc 1).length ≤ 10) ∧ (∀ x ∈ (gX xs i).1.bk, x < 18446744073709551616) := by
  have hm := okAt_row ((mayB_iff.1 h).2.2.2.2.2 i (by dsimp only; rw [rws_len]; exact hi))
  rw [gW_rws] at hm
  obtain ⟨h1, h2, h3, h4, h5, h6, h7⟩ := rowOk_iff.1 hm
  obtain ⟨i1, i2, i3, i4, i5⟩ := hin _ (gX_mem hi)
  have hk := key_le h1
  have a1 := enc_len10 (n := (gX xs i).1.key.length) (by omega)
  have a2 := enc_len10 (n := (gX xs i).1.kind.toNat) (by omega)
  have a3 := enc_len10 i1
  have a4 := enc_len10 (Wire.zig_lt i2)
  have a5 := enc_len10 (Wire.zig_lt i3)
  have a6 := enc_len10 (Wire.zig_lt i4)
  have a7 := enc_len10 (n := (gX xs i).1.bk.length) (by omega)
  have a8 := enc_len10 (n := 0) (by omega)
  have a9 := enc_len10 (n := 1) (by omega)
  refine ⟨hk, ⟨h2, h3⟩, h6, ?_, a2, a3, a4, a5, a6, a7, ⟨a8, a9⟩, i5⟩
  unfold encT
  rw [List.length_append]
  omega
theorem preB_len {sq st n i : Nat} {xs : List RX} (h : mayB ⟨(sq : Int), (st : Int), rws xs⟩ = true) (hin : ∀ x ∈ xs, x.1.In) (hn : xs.length = n) (hi : i ≤ n) : (preB sq st n xs i).length ≤ 500000 := by
  have h1 := encB_len h (in_rws hin)
  have e2 : (rws xs).flatMap encR = ((rws xs).take i).flatMap encR ++ ((rws xs).drop i).flatMap encR := by rw [← List.flatMap_append, List.take_append_drop]
  have e : encB ⟨(sq : Int), (st : Int), rws xs⟩ = preB sq st n xs i ++ ((rws xs).drop i).flatMap encR := by
    rw [← preB_all hn]
    unfold preB
    rw [List.take_of_length_le (l := rws xs) (i := n) (by rw [rws_len]; omega), e2]
    simp only [List.append_assoc]
  rw [e, List.length_append] at h1
  omega
theorem gN_mem {q : List Nat} {i : Nat} (h : i < q.length) : gN q i ∈ q := List.mem_of_getElem? (gN_some q i h)
theorem encN_snocG {l : List Nat} {i : Nat} (h : i < l.length) : encN (l.take i) ++ enc (gN l i) = encN (l.take (i + 1)) := encN_snoc l i h
theorem enc_0 : enc 0 = [(0 : UInt8)] := by rw [Wire.enc_lo (by decide)]; rfl
theorem enc_1 : enc 1 = [(1 : UInt8)] := by rw [Wire.enc_lo (by decide)]; rfl
theorem encN_take {l : List Nat} (h : ∀ x ∈ l, x < 18446744073709551616) (j : Nat) : (encN (l.take j)).length ≤ 10 * l.length := by
  have h1 := encN_len (l := l.take j) (fun x hx => h x (List.mem_of_mem_take hx))
  rw [List.length_take] at h1
  omega
set_option maxRecDepth 100000 in
set_option maxHeartbeats 400000 in
theorem put_no (seq start : Int) (xs : List RX) (A : Option Addr) (n cp : Nat) (F FE : List Nat) (w : World) (HL : VX cW 8 w F A xs) (HE : EV w FE xs) (hn : xs.length = n) (hnn : n ≤ 9223372036854775807) (hkl : ∀ x ∈ xs, x.1.key.length ≤ 100000) (hbl : ∀ x ∈ xs, x.1.bk.length ≤ 9223372036854775807) (HS : VarI w "strconv.ErrSyntax") (HR : VarI w "strconv.ErrRange") (HTab : Lib.TabIs Tryz.prog w "internal/strconv.uint64pow10" .u64 Lib.pow10Tab) (HM : MaxI w) (hmay : mayB (⟨seq, start, rws xs⟩ : Bt) = false) :
    Calls Tryz.prog 10 #[.agg #[.int .i64 seq, .int .i64 start, .slice A n cp]] w fun e w' => e = .returned (.tuple #[.slice none 0 0, .iface 32 (.int .i64 1)]) ∧ Fr [] w w' := by
 have HA := Fr.refl [] w
 refine Zen (N := 95) Tryz.func10 (c := _) [(0, .agg #[J seq, J start, .slice A n cp])] <| Zsg <| Zb 1 #[J seq, J start, .slice A n cp] 24 (fun g => Pt g 0) ?_
 intro g1 w2 HB4 F3 le5 _
 have HL := HL.keep F3 dj0
 have HE := HE.keep F3 dj0
 have HS := HS.k F3
 have HR := HR.k F3
 have HTab := HTab.k F3
 have HM := HM.k F3
 refine Zr 2 [(3, .nilIface), (2, .slice none 0 0)] <| Zdn <| Zq <| Zsg <| Zlb 14 [J seq, J start, .slice A n cp] g1 0 (same HB4) <| Zc 15 (may_l seq start xs A n cp F FE _ HL HE hn hnn hkl hbl HS HR HTab HM) ?_
 rintro _ w6 ⟨rfl, F7⟩
 rw [hmay]
 have HA := (HA.step0 F3).step0 F7
 refine ⟨_, rfl, trivial, Zr 1 [(16, .bool true)] <| Zdn <| ZT <| Zsg <| Zr 3 [(3, .iface 32 (J 1)), (2, .slice none 0 0), (17, .iface 32 (J 1))] <| Zdn <| WE.ret <| WQ.thenR <| ZR (.tuple #[.slice none 0 0, .iface 32 (J 1)]) ?_⟩
 exact ⟨rfl, HA⟩
set_option maxRecDepth 100000 in
set_option maxHeartbeats 400000 in
theorem put_ok (sq st : Nat) (xs : List RX) (A : Option Addr) (n cp : Nat) (F FE : List Nat) (w : World) (HL : VX cW 8 w F A xs) (HE : EV w FE xs) (hn : xs.length = n) (hnn : n ≤ 9223372036854775807) (hkl : ∀ x ∈ xs, x.1.key.length ≤ 100000) (hbl : ∀ x ∈ xs, x.1.bk.length ≤ 9223372036854775807) (HS : VarI w "strconv.ErrSyntax") (HR : VarI w "strconv.ErrRange") (HTab : Lib.TabIs Tryz.prog w "internal/strconv.uint64pow10" .u64 Lib.pow10Tab) (HM : MaxI w) (hmay : mayB (⟨(sq : Int), (st : Int), rws xs⟩ : Bt) = true) (hin : ∀ x ∈ xs, x.1.In) :
    Calls Tryz.prog 10 #[.agg #[.int .i64 (sq : Int), .int .i64 (st : Int), .slice A n cp]] w fun e w' => ∃ A' c' F', e = .returned (.tuple #[.slice A' (encB (⟨(sq : Int), (st : Int), rws xs⟩ : Bt)).length c', .nilIface]) ∧ OwnX 5 1 w' F' (.slice A' (encB (⟨(sq : Int), (st : Int), rws xs⟩ : Bt)).length c') ((encB (⟨(sq : Int), (st : Int), rws xs⟩ : Bt)).map cB) ∧ (∀ y ∈ F', w.heap.size ≤ y) ∧ Fr [] w w' := by
 have hhd_ := head_facts hmay hn
 have HA := Fr.refl [] w
 refine Zen (N := 95) Tryz.func10 (c := _) [(0, .agg #[J (sq : Int), J (st : Int), .slice A n cp])] <| Zsg <| Zb 1 #[J (sq : Int), J (st : Int), .slice A n cp] 24 (fun g => Pt g 0) ?_
 intro g1 w2 HB4 F3 le5 _
 have HL := HL.keep F3 dj0
 have HE := HE.keep F3 dj0
 have HS := HS.k F3
 have HR := HR.k F3
 have HTab := HTab.k F3
 have HM := HM.k F3
 refine Zr 2 [(3, .nilIface), (2, .slice none 0 0)] <| Zdn <| Zq <| Zsg <| Zlb 14 [J (sq : Int), J (st : Int), .slice A n cp] g1 0 (same HB4) <| Zc 15 (may_l (sq : Int) (st : Int) xs A n cp F FE _ HL HE hn hnn hkl hbl HS HR HTab HM) ?_
 rintro _ w6 ⟨rfl, F7⟩
 rw [hmay]
 have HB4 := HB4.k F7
 refine ⟨_, rfl, trivial, Zr 1 [(16, .bool false)] <| Zdn <| ZF <| Zk <| Zsg <| Zr 1 [(4, .slice none 0 0)] <| Zdn <| Zq <| Zsg <| Zr 1 [(18, Pt g1 0)] <| Zl 19 (J (sq : Int)) (HB4.s 0) <| Zo 20 (.int .u64 (IntKind.u64.wrap (sq : Int))) <| WO.top (v' := .int .u64 (sq : Int)) (wrap_u64 rfl (by omega)) <| Zr 1 [(21, Pt g1 1)] <| Zl 22 (J (st : Int)) (HB4.s 1) <| Zo 23 (.int .u64 (IntKind.u64.wrap (st : Int))) <| WO.top (v' := .int .u64 (st : Int)) (wrap_u64 rfl (by omega)) <| Zr 1 [(24, Pt g1 2)] <| Zl 25 (.slice A n cp) (HB4.s 2) <| Zr 1 [(26, J (n : Int))] <| Zo 27 (.int .u64 (IntKind.u64.wrap (n : Int))) <| WO.top (v' := .int .u64 (n : Int)) (wrap_u64 rfl (by omega)) <| Zb 28 #[.int .u64 (sq : Int), .int .u64 (st : Int), .int .u64 (n : Int)] 46 (fun g => .slice (some ⟨g, 0, none⟩) 3 3) ?_⟩
 intro g8 w9 HB11 F10 le12 _
 refine Zr 2 [(30, J 0), (29, J 3)] <| Zdn <| WE.block <| WE.unroll <| WL.go <| Zsg <| Zr 1 [(31, .bool true)] <| Zdn <| Zq <| ZT <| Zk <| Zq <| WE.block <| Zsg <| Zib 32 0 g8 0 3 1 0 (by omega) (by omega) (by omega) <| Zl 33 (.int .u64 (sq : Int)) (HB11.s 0) <| Zr 1 [(6, .int .u64 (sq : Int))] <| Zdn <| WE.region <| Zr 2 [(35, .int .u64 (sq : Int)), (34, .slice none 0 0)] <| Zc 36 (Wire.num_w sq none 0 0 [] [] _ (VX.nil _ _) rfl (by simp) (by omega)) ?_
 rintro _ w13 ⟨b15, cap16, rfl, HR17, F14, le18⟩
 have HB11 := HB11.k F14
 refine ⟨_, rfl, trivial, Zr 1 [(4, .slice (some ⟨b15, 0, none⟩) (([] ++ enc sq).length) cap16)] <| Zd <| WQ.blkN <| Zn <| WE.region <| Zr 2 [(30, J 1), (37, J 1)] <| Zd <| WQ.thenL <| WL.go <| Zsg <| Zr 1 [(31, .bool true)] <| Zdn <| Zq <| ZT <| Zk <| Zq <| WE.block <| Zsg <| Zib 32 1 g8 0 3 1 1 (by omega) (by omega) (by omega) <| Zl 33 (.int .u64 (st : Int)) (HB11.s 1) <| Zr 1 [(6, .int .u64 (st : Int))] <| Zdn <| WE.region <| Zr 2 [(35, .int .u64 (st : Int)), (34, .slice (some ⟨b15, 0, none⟩) (([] ++ enc sq).length) cap16)] <| Zc 36 (Wire.num_w st (some ⟨b15, 0, none⟩) (([] ++ enc sq).length) cap16 ([] ++ enc sq) [b15] _ (VX.of_row HR17) (rfl : List.length ([] ++ enc sq) = _) (by first | omega | (simp only [List.length_append, List.length_nil]; omega)) (by omega)) ?_⟩
 rintro _ w19 ⟨b21, cap22, rfl, HR23, F20, le24⟩
 have HB11 := HB11.k F20
 refine ⟨_, rfl, trivial, Zr 1 [(4, .slice (some ⟨b21, 0, none⟩) ((([] ++ enc sq) ++ enc st).length) cap22)] <| Zd <| WQ.blkN <| Zn <| WE.region <| Zr 2 [(30, J 2), (37, J 2)] <| Zd <| WQ.thenL <| WL.go <| Zsg <| Zr 1 [(31, .bool true)] <| Zdn <| Zq <| ZT <| Zk <| Zq <| WE.block <| Zsg <| Zib 32 2 g8 0 3 1 2 (by omega) (by omega) (by omega) <| Zl 33 (.int .u64 (n : Int)) (HB11.s 2) <| Zr 1 [(6, .int .u64 (n : Int))] <| Zdn <| WE.region <| Zr 2 [(35, .int .u64 (n : Int)), (34, .slice (some ⟨b21, 0, none⟩) ((([] ++ enc sq) ++ enc st).length) cap22)] <| Zc 36 (Wire.num_w n (some ⟨b21, 0, none⟩) ((([] ++ enc sq) ++ enc st).length) cap22 (([] ++ enc sq) ++ enc st) [b21] _ (VX.of_row HR23) (rfl : List.length (([] ++ enc sq) ++ enc st) = _) (by first | omega | (simp only [List.length_append, List.length_nil]; omega)) (by omega)) ?_⟩
 rintro _ w25 ⟨b27, cap28, rfl, HR29, F26, le30⟩
 have HB4 := ((HB4.k F10).k F14).k F20
 refine ⟨_, rfl, trivial, ?_⟩
 have ne_g1_b27 := ltn HB4.lt le30
 have ne_g8_b27 := ltn HB11.lt le30
 have HL := (((HL.keep F7 dj0).keep F10 dj0).keep F14 dj0).keep F20 dj0
 have nin_b27_F := new_nin HL.lt le30
 have HE := (((HE.keep F7 dj0).keep F10 dj0).keep F14 dj0).keep F20 dj0
 have nin_b27_FE := new_nin HE.lt le30
 have HS := (((HS.k F7).k F10).k F14).k F20
 have ne_1_b27 : 1 ≠ b27 := Nat.ne_of_lt (Nat.lt_of_lt_of_le (var_lt 1 (by kernel_rfl) HS) le30)
 have HR := (((HR.k F7).k F10).k F14).k F20
 have ne_2_b27 : 2 ≠ b27 := Nat.ne_of_lt (Nat.lt_of_lt_of_le (var_lt 2 (by kernel_rfl) HR) le30)
 have HTab := (((HTab.k F7).k F10).k F14).k F20
 have ne_3_b27 : 3 ≠ b27 := Nat.ne_of_lt (Nat.lt_of_lt_of_le (tab_lt HTab) le30)
 have HM := (((HM.k F7).k F10).k F14).k F20
 have ne_0_b27 : 0 ≠ b27 := Nat.ne_of_lt (Nat.lt_of_lt_of_le (max_lt HM) le30)
 have HA := ((((HA.step0 F3).step0 F7).step0 F10).step0 F14).step0 F20
 have ge_HA_b27 := Nat.le_trans HA.size le30
 have HB4 := HB4.k F26
 refine Zr 1 [(4, .slice (some ⟨b27, 0, none⟩) (((([] ++ enc sq) ++ enc st) ++ enc n).length) cap28)] <| Zd <| WQ.blkN <| Zn <| WE.region <| Zr 2 [(30, J 3), (37, J 3)] <| Zd <| WQ.thenL <| WL.go <| Zsg <| Zr 1 [(31, .bool false)] <| Zdn <| Zq <| ZF <| WE.exit <| WQ.thenE <| WQ.thenE <| WQ.blkE <| Zn <| Zq <| Zsg <| Zr 1 [(38, Pt g1 2)] <| Zl 39 (.slice A n cp) (HB4.s 2) <| Zr 2 [(41, J 0), (40, J (n : Int))] <| Zdn <| WE.block ?_
 obtain ⟨F31, hF31⟩ : ∃ F_, F_ = [b27] := ⟨_, rfl⟩
 have HO32 : OwnX 5 1 w25 F31 (.slice (some ⟨b27, 0, none⟩) (((([] ++ enc sq) ++ enc st) ++ enc n).length) cap28) (((([] ++ enc sq) ++ enc st) ++ enc n).map cB) := by rw [hF31]; exact OwnX.row HR29 ((List.length_map _).trans ((rfl : List.length ((([] ++ enc sq) ++ enc st) ++ enc n) = _)))
 have nin_g1_F31 := sgN hF31 ne_g1_b27
 have nin_g8_F31 := sgN hF31 ne_g8_b27
 have nin_1_F31 := sgN hF31 ne_1_b27
 have nin_2_F31 := sgN hF31 ne_2_b27
 have nin_3_F31 := sgN hF31 ne_3_b27
 have nin_0_F31 := sgN hF31 ne_0_b27
 have dj_F31_F := sgD hF31 nin_b27_F
 have dj_F31_FE := sgD hF31 nin_b27_FE
 have ge_HA_F31 := sgG hF31 ge_HA_b27
 refine WE.loop (α := Nat × List Nat × Option Addr × Nat × List UInt8) (E := fun ⟨i, FO, Ao, co, q⟩ => [(2, .slice none 0 0), (3, .nilIface), (4, .slice Ao q.length co), (39, .slice A n cp), (40, J (n : Int)), (41, J (i : Int))]) (I := fun ⟨i, FO, Ao, co, q⟩ wr => i ≤ n ∧ q = preB sq st n xs i ∧ Blk wr g1 #[J (sq : Int), J (st : Int), .slice A n cp] 24 ∧ Blk wr g8 #[.int .u64 (sq : Int), .int .u64 (st : Int), .int .u64 (n : Int)] 46 ∧ VX cW 8 wr F A xs ∧ EV wr FE xs ∧ VarI wr "strconv.ErrSyntax" ∧ VarI wr "strconv.ErrRange" ∧ Lib.TabIs Tryz.prog wr "internal/strconv.uint64pow10" .u64 Lib.pow10Tab ∧ MaxI wr ∧ OwnX 5 1 wr FO (.slice Ao q.length co) (List.map cB q) ∧ g1 ∉ FO ∧ g8 ∉ FO ∧ 1 ∉ FO ∧ 2 ∉ FO ∧ 3 ∉ FO ∧ 0 ∉ FO ∧ (∀ y ∈ FO, y ∉ F) ∧ (∀ y ∈ FO, y ∉ FE) ∧ (∀ y ∈ FO, (World.heap w).size ≤ y) ∧ Fr [] w wr) (m := fun ⟨i, FO, Ao, co, q⟩ => n - i) (0, F31, (some ⟨b27, 0, none⟩), cap28, ((([] ++ enc sq) ++ enc st) ++ enc n)) [2, 3, 4, 39, 40, 41] (by kernel_rfl) ?_ ?_
 ·
  have HB11 := HB11.k F26
  have HL := HL.keep F26 dj0
  have HE := HE.keep F26 dj0
  have HS := HS.k F26
  have HR := HR.k F26
  have HTab := HTab.k F26
  have HM := HM.k F26
  have HA := HA.step0 F26
  exact ⟨by omega, by simp [preB], HB4, HB11, HL, HE, HS, HR, HTab, HM, HO32, nin_g1_F31, nin_g8_F31, nin_1_F31, nin_2_F31, nin_3_F31, nin_0_F31, dj_F31_F, dj_F31_FE, ge_HA_F31, HA⟩
 rintro ⟨i, FO, Ao, co, q⟩ wr ⟨hi, hq, HB4, HB11, HL, HE, HS, HR, HTab, HM, HO_FO, nin_g1_FO, nin_g8_FO, nin_1_FO, nin_2_FO, nin_3_FO, nin_0_FO, dj_FO_F, dj_FO_FE, ge_HA_FO, HA⟩
 have hil_ : i < xs.length ∨ i = n := by omega
 have hpl_ := preB_len (sq := sq) (st := st) (n := n) (i := i) hmay hin hn hi
 have hqlen := congrArg List.length hq
 refine Zsg <| ZoP 42 (((i : Int) : Int) < (n : Int)) ?_ ?_
 ·
  intro h33
  refine Zdn <| Zq <| ZT <| Zk <| Zq <| WE.block <| Zq ?_
  have hin_ := hin _ (gX_mem (q := xs) (i := i) (by omega))
  obtain ⟨hi1_, hi2_, hi3_, hi4_, _⟩ := hin_
  have hrf_ := row_facts hmay hin (i := i) (by omega)
  obtain ⟨hr1, hr2, hr3, hr4, hr5, hr6, hr7, hr8, hr9, hr10, hr11, hr12⟩ := hrf_
  obtain ⟨hcp_, FR, hFR_, HVR⟩ := HE.at (i := i) (by omega)
  refine WE.region ?_
  obtain ⟨ad34, hA35⟩ := HL.addr (i := i) (by have := hn; omega)
  refine Zio 43 n 8 i (i : Int) hA35 rfl (by omega) <| Zla (ad := (ad34.add (i * 8))) 44 [.string (str (gX xs i).1.key), J ((gX xs i).1.kind), .int .u64 ((gX xs i).1.many : Int), J ((gX xs i).1.sum), J ((gX xs i).1.least), J ((gX xs i).1.most), .bool ((gX xs i).1.over), .slice ((gX xs i).2.1) ((gX xs i).1.bk.length) ((gX xs i).2.2)] (fun _ hw_ _ hj_ => by subst hw_; exact HL.part0 hA35 (gX_some xs i (by have := hn; omega)) [.string (str (gX xs i).1.key), J ((gX xs i).1.kind), .int .u64 ((gX xs i).1.many : Int), J ((gX xs i).1.sum), J ((gX xs i).1.least), J ((gX xs i).1.most), .bool ((gX xs i).1.over), .slice ((gX xs i).2.1) ((gX xs i).1.bk.length) ((gX xs i).2.2)] (by kernel_rfl) _ hj_) <| Zb 8 #[.string (⟨#[]⟩), J 0, .int .u64 0, J 0, J 0, J 0, .bool false, .slice none 0 0] 54 (fun g => Pt g 0) ?_
  intro g36 w37 HB39 F38 le40 _
  have ne_g1_g36 := ltn HB4.lt le40
  have ne_g8_g36 := ltn HB11.lt le40
  have nin_g36_F := new_nin HL.lt le40
  have nin_g36_FE := new_nin HE.lt le40
  have nin_g36_FO := new_nin HO_FO.lt le40
  have nin_g36_FR := new_nin HVR.lt le40
  have ne_1_g36 : 1 ≠ g36 := Nat.ne_of_lt (Nat.lt_of_lt_of_le (var_lt 1 (by kernel_rfl) HS) le40)
  have ne_2_g36 : 2 ≠ g36 := Nat.ne_of_lt (Nat.lt_of_lt_of_le (var_lt 2 (by kernel_rfl) HR) le40)
  have ne_3_g36 : 3 ≠ g36 := Nat.ne_of_lt (Nat.lt_of_lt_of_le (tab_lt HTab) le40)
  have ne_0_g36 : 0 ≠ g36 := Nat.ne_of_lt (Nat.lt_of_lt_of_le (max_lt HM) le40)
  have ge_HA_g36 := Nat.le_trans HA.size le40
  refine Zs g36 0 [.string (str (gX xs i).1.key), J ((gX xs i).1.kind), .int .u64 ((gX xs i).1.many : Int), J ((gX xs i).1.sum), J ((gX xs i).1.least), J ((gX xs i).1.most), .bool ((gX xs i).1.over), .slice ((gX xs i).2.1) ((gX xs i).1.bk.length) ((gX xs i).2.2)] #[.string (str (gX xs i).1.key), J ((gX xs i).1.kind), .int .u64 ((gX xs i).1.many : Int), J ((gX xs i).1.sum), J ((gX xs i).1.least), J ((gX xs i).1.most), .bool ((gX xs i).1.over), .slice ((gX xs i).2.1) ((gX xs i).1.bk.length) ((gX xs i).2.2)] HB39 ?_
  intro w41 HB43 F42 _
  refine Zdn <| Zq ?_
  have hz44 : (World.heap w41).size ≤ (World.heap w41).size := Nat.le_refl _
  have ltz_g36 := HB43.lt
  refine WE.draw [.free, .free, .still, .effR, .free, .still, .free, .effR, .free, .still, .eff, .free] (FrB (World.heap w41).size) (frBR _) (by kernel_rfl) 12 (Array.replicate 12 false) (by kernel_rfl) rfl ?_
  intro w45 F46 _
  have HB43 := HB43.k F46
  have HO_FO := ((HO_FO.keep F38 dj0).keep F42 (djB nin_g36_FO)).keep F46 dj0
  refine WO.one (SA.F (frBR _) (frBT _) _ 0 _ (by kernel_rfl)) 45 (.slice Ao q.length co) (by kernel_rfl) <| WO.one (SA.F (frBR _) (frBT _) _ 1 _ (by kernel_rfl)) 46 (Pt g36 0) (by kernel_rfl) <| WO.ld (SA.S (frBR _) (frBT _) _ 2 _ (by kernel_rfl)) 47 (.string (str (gX xs i).1.key)) (by kernel_rfl) (fun _ k => (HB43.keepB k ltz_g36).at 0 (by kernel_rfl)) <| WO.one (SA.F (frBR _) (frBT _) _ 4 _ (by kernel_rfl)) 49 (Pt g36 1) (by kernel_rfl) <| WO.ld (SA.S (frBR _) (frBT _) _ 5 _ (by kernel_rfl)) 50 (J ((gX xs i).1.kind)) (by kernel_rfl) (fun _ k => (HB43.keepB k ltz_g36).at 1 (by kernel_rfl)) <| WO.one (SA.F (frBR _) (frBT _) _ 6 _ (by kernel_rfl)) 51 (.int .u64 (IntKind.u64.wrap ((gX xs i).1.kind))) (by kernel_rfl) <| WO.top (v' := .int .u64 ((gX xs i).1.kind.toNat : Int)) (wrap_u64 (by omega) (by omega)) <| WO.one (SA.F (frBR _) (frBT _) _ 8 _ (by kernel_rfl)) 53 (Pt g36 2) (by kernel_rfl) <| WO.ld (SA.S (frBR _) (frBT _) _ 9 _ (by kernel_rfl)) 54 (.int .u64 ((gX xs i).1.many : Int)) (by kernel_rfl) (fun _ k => (HB43.keepB k ltz_g36).at 2 (by kernel_rfl)) <| WO.call (SA.ER _ 3 _ (by kernel_rfl) rfl) 48 (by kernel_rfl) (textk_w ((gX xs i).1.key) Ao q.length co q FO _ (VX.of_own HO_FO) rfl (by first | omega | (simp only [List.length_append, List.length_nil]; omega)) (by omega)) ?_
  rintro _ w47 ⟨b49, cap50, rfl, HR51, F48, le52⟩
  have hz44 := Nat.le_trans hz44 F46.size
  refine ⟨_, rfl, (frB_of hz44 (by simp)) _ F48, WO.call (SA.ER _ 7 _ (by kernel_rfl) rfl) 52 (by kernel_rfl) (Wire.num_w ((gX xs i).1.kind.toNat) (some ⟨b49, 0, none⟩) ((q ++ encT ((gX xs i).1.key)).length) cap50 (q ++ encT ((gX xs i).1.key)) [b49] _ (VX.of_row HR51) (rfl : List.length (q ++ encT ((gX xs i).1.key)) = _) (by first | omega | (simp only [List.length_append, List.length_nil]; omega)) (by omega)) ?_⟩
  rintro _ w53 ⟨b55, cap56, rfl, HR57, F54, le58⟩
  have hz44 := Nat.le_trans hz44 F48.size
  refine ⟨_, rfl, (frB_of hz44 (by simp)) _ F54, Yc 10 55 (Wire.num_w ((gX xs i).1.many) (some ⟨b55, 0, none⟩) (((q ++ encT ((gX xs i).1.key)) ++ enc ((gX xs i).1.kind.toNat)).length) cap56 ((q ++ encT ((gX xs i).1.key)) ++ enc ((gX xs i).1.kind.toNat)) [b55] _ (VX.of_row HR57) (rfl : List.length ((q ++ encT ((gX xs i).1.key)) ++ enc ((gX xs i).1.kind.toNat)) = _) (by first | omega | (simp only [List.length_append, List.length_nil]; omega)) (by omega)) ?_⟩
  rintro _ w59 ⟨b61, cap62, rfl, HR63, F60, le64⟩
  have HB43 := ((HB43.k F48).k F54).k F60
  refine ⟨_, rfl, trivial, WO.one (SA.F (frBR _) (frBT _) _ 11 _ (by kernel_rfl)) 4 (.slice (some ⟨b61, 0, none⟩) ((((q ++ encT ((gX xs i).1.key)) ++ enc ((gX xs i).1.kind.toNat)) ++ enc ((gX xs i).1.many)).length) cap62) (by kernel_rfl) <| Ydn <| Zq <| Zsg <| Zr 1 [(56, Pt g36 3)] <| Zl 57 (J ((gX xs i).1.sum)) (HB43.s 3) <| Zr 1 [(58, Pt g36 4)] <| Zl 59 (J ((gX xs i).1.least)) (HB43.s 4) <| Zr 1 [(60, Pt g36 5)] <| Zl 61 (J ((gX xs i).1.most)) (HB43.s 5) <| Zb 62 #[J ((gX xs i).1.sum), J ((gX xs i).1.least), J ((gX xs i).1.most)] 2 (fun g => .slice (some ⟨g, 0, none⟩) 3 3) ?_⟩
  intro g65 w66 HB68 F67 le69 _
  have HR63 := HR63.k F67
  refine Zr 2 [(64, J 0), (63, J 3)] <| Zdn <| WE.block <| WE.unroll <| WL.go <| Zsg <| Zr 1 [(65, .bool true)] <| Zdn <| Zq <| ZT <| Zk <| Zq <| WE.block <| Zsg <| Zib 66 0 g65 0 3 1 0 (by omega) (by omega) (by omega) <| Zl 67 (J ((gX xs i).1.sum)) (HB68.s 0) <| Zr 1 [(10, J ((gX xs i).1.sum))] <| Zdn <| WE.region <| Zr 2 [(69, J ((gX xs i).1.sum)), (68, .slice (some ⟨b61, 0, none⟩) ((((q ++ encT ((gX xs i).1.key)) ++ enc ((gX xs i).1.kind.toNat)) ++ enc ((gX xs i).1.many)).length) cap62)] <| Zc 70 (Wire.whole_w ((gX xs i).1.sum) (some ⟨b61, 0, none⟩) ((((q ++ encT ((gX xs i).1.key)) ++ enc ((gX xs i).1.kind.toNat)) ++ enc ((gX xs i).1.many)).length) cap62 (((q ++ encT ((gX xs i).1.key)) ++ enc ((gX xs i).1.kind.toNat)) ++ enc ((gX xs i).1.many)) [b61] _ (VX.of_row HR63) (rfl : List.length (((q ++ encT ((gX xs i).1.key)) ++ enc ((gX xs i).1.kind.toNat)) ++ enc ((gX xs i).1.many)) = _) (by first | omega | (simp only [List.length_append, List.length_nil]; omega)) (by omega)) ?_
  rintro _ w70 ⟨b72, cap73, rfl, HR74, F71, le75⟩
  have HB68 := HB68.k F71
  refine ⟨_, rfl, trivial, Zr 1 [(4, .slice (some ⟨b72, 0, none⟩) (((((q ++ encT ((gX xs i).1.key)) ++ enc ((gX xs i).1.kind.toNat)) ++ enc ((gX xs i).1.many)) ++ enc (zig ((gX xs i).1.sum))).length) cap73)] <| Zd <| WQ.blkN <| Zn <| WE.region <| Zr 2 [(64, J 1), (71, J 1)] <| Zd <| WQ.thenL <| WL.go <| Zsg <| Zr 1 [(65, .bool true)] <| Zdn <| Zq <| ZT <| Zk <| Zq <| WE.block <| Zsg <| Zib 66 1 g65 0 3 1 1 (by omega) (by omega) (by omega) <| Zl 67 (J ((gX xs i).1.least)) (HB68.s 1) <| Zr 1 [(10, J ((gX xs i).1.least))] <| Zdn <| WE.region <| Zr 2 [(69, J ((gX xs i).1.least)), (68, .slice (some ⟨b72, 0, none⟩) (((((q ++ encT ((gX xs i).1.key)) ++ enc ((gX xs i).1.kind.toNat)) ++ enc ((gX xs i).1.many)) ++ enc (zig ((gX xs i).1.sum))).length) cap73)] <| Zc 70 (Wire.whole_w ((gX xs i).1.least) (some ⟨b72, 0, none⟩) (((((q ++ encT ((gX xs i).1.key)) ++ enc ((gX xs i).1.kind.toNat)) ++ enc ((gX xs i).1.many)) ++ enc (zig ((gX xs i).1.sum))).length) cap73 ((((q ++ encT ((gX xs i).1.key)) ++ enc ((gX xs i).1.kind.toNat)) ++ enc ((gX xs i).1.many)) ++ enc (zig ((gX xs i).1.sum))) [b72] _ (VX.of_row HR74) (rfl : List.length ((((q ++ encT ((gX xs i).1.key)) ++ enc ((gX xs i).1.kind.toNat)) ++ enc ((gX xs i).1.many)) ++ enc (zig ((gX xs i).1.sum))) = _) (by first | omega | (simp only [List.length_append, List.length_nil]; omega)) (by omega)) ?_⟩
  rintro _ w76 ⟨b78, cap79, rfl, HR80, F77, le81⟩
  have HB68 := HB68.k F77
  refine ⟨_, rfl, trivial, Zr 1 [(4, .slice (some ⟨b78, 0, none⟩) ((((((q ++ encT ((gX xs i).1.key)) ++ enc ((gX xs i).1.kind.toNat)) ++ enc ((gX xs i).1.many)) ++ enc (zig ((gX xs i).1.sum))) ++ enc (zig ((gX xs i).1.least))).length) cap79)] <| Zd <| WQ.blkN <| Zn <| WE.region <| Zr 2 [(64, J 2), (71, J 2)] <| Zd <| WQ.thenL <| WL.go <| Zsg <| Zr 1 [(65, .bool true)] <| Zdn <| Zq <| ZT <| Zk <| Zq <| WE.block <| Zsg <| Zib 66 2 g65 0 3 1 2 (by omega) (by omega) (by omega) <| Zl 67 (J ((gX xs i).1.most)) (HB68.s 2) <| Zr 1 [(10, J ((gX xs i).1.most))] <| Zdn <| WE.region <| Zr 2 [(69, J ((gX xs i).1.most)), (68, .slice (some ⟨b78, 0, none⟩) ((((((q ++ encT ((gX xs i).1.key)) ++ enc ((gX xs i).1.kind.toNat)) ++ enc ((gX xs i).1.many)) ++ enc (zig ((gX xs i).1.sum))) ++ enc (zig ((gX xs i).1.least))).length) cap79)] <| Zc 70 (Wire.whole_w ((gX xs i).1.most) (some ⟨b78, 0, none⟩) ((((((q ++ encT ((gX xs i).1.key)) ++ enc ((gX xs i).1.kind.toNat)) ++ enc ((gX xs i).1.many)) ++ enc (zig ((gX xs i).1.sum))) ++ enc (zig ((gX xs i).1.least))).length) cap79 (((((q ++ encT ((gX xs i).1.key)) ++ enc ((gX xs i).1.kind.toNat)) ++ enc ((gX xs i).1.many)) ++ enc (zig ((gX xs i).1.sum))) ++ enc (zig ((gX xs i).1.least))) [b78] _ (VX.of_row HR80) (rfl : List.length (((((q ++ encT ((gX xs i).1.key)) ++ enc ((gX xs i).1.kind.toNat)) ++ enc ((gX xs i).1.many)) ++ enc (zig ((gX xs i).1.sum))) ++ enc (zig ((gX xs i).1.least))) = _) (by first | omega | (simp only [List.length_append, List.length_nil]; omega)) (by omega)) ?_⟩
  rintro _ w82 ⟨b84, cap85, rfl, HR86, F83, le87⟩
  have HB43 := (((HB43.k F67).k F71).k F77).k F83
  have HB4 := (((((((((HB4.k F38).j F42 ne_g1_g36).k F46).k F48).k F54).k F60).k F67).k F71).k F77).k F83
  have HB11 := (((((((((HB11.k F38).j F42 ne_g8_g36).k F46).k F48).k F54).k F60).k F67).k F71).k F77).k F83
  have HL := (((((((((HL.keep F38 dj0).keep F42 (djB nin_g36_F)).keep F46 dj0).keep F48 dj0).keep F54 dj0).keep F60 dj0).keep F67 dj0).keep F71 dj0).keep F77 dj0).keep F83 dj0
  have HE := (((((((((HE.keep F38 dj0).keep F42 (djB nin_g36_FE)).keep F46 dj0).keep F48 dj0).keep F54 dj0).keep F60 dj0).keep F67 dj0).keep F71 dj0).keep F77 dj0).keep F83 dj0
  have HVR := (((((((((HVR.keep F38 dj0).keep F42 (djB nin_g36_FR)).keep F46 dj0).keep F48 dj0).keep F54 dj0).keep F60 dj0).keep F67 dj0).keep F71 dj0).keep F77 dj0).keep F83 dj0
  have HS := ((((((((var_keep 1 (by kernel_rfl) (HS.k F38) F42 (ninC ne_1_g36 (nin0 _))).k F46).k F48).k F54).k F60).k F67).k F71).k F77).k F83
  have HR := ((((((((var_keep 2 (by kernel_rfl) (HR.k F38) F42 (ninC ne_2_g36 (nin0 _))).k F46).k F48).k F54).k F60).k F67).k F71).k F77).k F83
  have HTab := ((((((((tab_keep (HTab.k F38) F42 (ninC ne_3_g36 (nin0 _))).k F46).k F48).k F54).k F60).k F67).k F71).k F77).k F83
  have HM := ((((((((max_keep (HM.k F38) F42 (ninC ne_0_g36 (nin0 _))).k F46).k F48).k F54).k F60).k F67).k F71).k F77).k F83
  have HA := (((((((((HA.step0 F38).step F42 (inSR ge_HA_g36 inS0)).step0 F46).step0 F48).step0 F54).step0 F60).step0 F67).step0 F71).step0 F77).step0 F83
  refine ⟨_, rfl, trivial, Zr 1 [(4, .slice (some ⟨b84, 0, none⟩) (((((((q ++ encT ((gX xs i).1.key)) ++ enc ((gX xs i).1.kind.toNat)) ++ enc ((gX xs i).1.many)) ++ enc (zig ((gX xs i).1.sum))) ++ enc (zig ((gX xs i).1.least))) ++ enc (zig ((gX xs i).1.most))).length) cap85)] <| Zd <| WQ.blkN <| Zn <| WE.region <| Zr 2 [(64, J 3), (71, J 3)] <| Zd <| WQ.thenL <| WL.go <| Zsg <| Zr 1 [(65, .bool false)] <| Zdn <| Zq <| ZF <| WE.exit <| WQ.thenE <| WQ.thenE <| WQ.blkE <| Zn <| Zsg <| Zr 1 [(11, .int .u64 0)] <| Zdn <| Zq <| Zsg <| Zr 1 [(72, Pt g36 6)] <| Zl 73 (.bool ((gX xs i).1.over)) (HB43.s 6) ?_⟩
  refine WO.topB ((gX xs i).1.over) ?_ ?_
  ·
   intro h88
   refine Zdn <| ZT <| WE.region <| Zr 1 [(11, .int .u64 1)] <| Zdn <| Zq ?_
   have hz89 : (World.heap w82).size ≤ (World.heap w82).size := Nat.le_refl _
   have ltz_g36 := HB43.lt
   refine WE.draw [.free, .free, .effR, .free, .still, .free, .free, .eff, .free] (FrB (World.heap w82).size) (frBR _) (by kernel_rfl) 9 (Array.replicate 9 false) (by kernel_rfl) rfl ?_
   intro w90 F91 _
   have HB43 := HB43.k F91
   have HR86 := HR86.k F91
   refine WO.one (SA.F (frBR _) (frBT _) _ 0 _ (by kernel_rfl)) 74 (.slice (some ⟨b84, 0, none⟩) (((((((q ++ encT ((gX xs i).1.key)) ++ enc ((gX xs i).1.kind.toNat)) ++ enc ((gX xs i).1.many)) ++ enc (zig ((gX xs i).1.sum))) ++ enc (zig ((gX xs i).1.least))) ++ enc (zig ((gX xs i).1.most))).length) cap85) (by kernel_rfl) <| WO.one (SA.F (frBR _) (frBT _) _ 1 _ (by kernel_rfl)) 75 (.int .u64 1) (by kernel_rfl) <| WO.one (SA.F (frBR _) (frBT _) _ 3 _ (by kernel_rfl)) 77 (Pt g36 7) (by kernel_rfl) <| WO.ld (SA.S (frBR _) (frBT _) _ 4 _ (by kernel_rfl)) 78 (.slice ((gX xs i).2.1) ((gX xs i).1.bk.length) ((gX xs i).2.2)) (by kernel_rfl) (fun _ k => (HB43.keepB k ltz_g36).at 7 (by kernel_rfl)) <| WO.one (SA.F (frBR _) (frBT _) _ 5 _ (by kernel_rfl)) 79 (J ((gX xs i).1.bk.length : Int)) (by kernel_rfl) <| WO.one (SA.F (frBR _) (frBT _) _ 6 _ (by kernel_rfl)) 80 (.int .u64 (IntKind.u64.wrap ((gX xs i).1.bk.length : Int))) (by kernel_rfl) <| WO.top (v' := .int .u64 ((gX xs i).1.bk.length : Int)) (wrap_u64 rfl (by omega)) <| WO.call (SA.ER _ 2 _ (by kernel_rfl) rfl) 76 (by kernel_rfl) (Wire.num_w 1 (some ⟨b84, 0, none⟩) (((((((q ++ encT ((gX xs i).1.key)) ++ enc ((gX xs i).1.kind.toNat)) ++ enc ((gX xs i).1.many)) ++ enc (zig ((gX xs i).1.sum))) ++ enc (zig ((gX xs i).1.least))) ++ enc (zig ((gX xs i).1.most))).length) cap85 ((((((q ++ encT ((gX xs i).1.key)) ++ enc ((gX xs i).1.kind.toNat)) ++ enc ((gX xs i).1.many)) ++ enc (zig ((gX xs i).1.sum))) ++ enc (zig ((gX xs i).1.least))) ++ enc (zig ((gX xs i).1.most))) [b84] _ (VX.of_row HR86) (rfl : List.length ((((((q ++ encT ((gX xs i).1.key)) ++ enc ((gX xs i).1.kind.toNat)) ++ enc ((gX xs i).1.many)) ++ enc (zig ((gX xs i).1.sum))) ++ enc (zig ((gX xs i).1.least))) ++ enc (zig ((gX xs i).1.most))) = _) (by first | omega | (simp only [List.length_append, List.length_nil]; omega)) (by omega)) ?_
   rintro _ w92 ⟨b94, cap95, rfl, HR96, F93, le97⟩
   have hz89 := Nat.le_trans hz89 F91.size
   refine ⟨_, rfl, (frB_of hz89 (by simp)) _ F93, Yc 7 81 (Wire.num_w ((gX xs i).1.bk.length) (some ⟨b94, 0, none⟩) ((((((((q ++ encT ((gX xs i).1.key)) ++ enc ((gX xs i).1.kind.toNat)) ++ enc ((gX xs i).1.many)) ++ enc (zig ((gX xs i).1.sum))) ++ enc (zig ((gX xs i).1.least))) ++ enc (zig ((gX xs i).1.most))) ++ enc 1).length) cap95 (((((((q ++ encT ((gX xs i).1.key)) ++ enc ((gX xs i).1.kind.toNat)) ++ enc ((gX xs i).1.many)) ++ enc (zig ((gX xs i).1.sum))) ++ enc (zig ((gX xs i).1.least))) ++ enc (zig ((gX xs i).1.most))) ++ enc 1) [b94] _ (VX.of_row HR96) (rfl : List.length (((((((q ++ encT ((gX xs i).1.key)) ++ enc ((gX xs i).1.kind.toNat)) ++ enc ((gX xs i).1.many)) ++ enc (zig ((gX xs i).1.sum))) ++ enc (zig ((gX xs i).1.least))) ++ enc (zig ((gX xs i).1.most))) ++ enc 1) = _) (by first | omega | (simp only [List.length_append, List.length_nil]; omega)) (by omega)) ?_⟩
   rintro _ w98 ⟨b100, cap101, rfl, HR102, F99, le103⟩
   have HB4 := (HB4.k F91).k F93
   refine ⟨_, rfl, trivial, ?_⟩
   have ne_g1_b100 := ltn HB4.lt le103
   have HB11 := (HB11.k F91).k F93
   have ne_g8_b100 := ltn HB11.lt le103
   have HB43 := HB43.k F93
   have ne_g36_b100 := ltn HB43.lt le103
   have HB68 := ((HB68.k F83).k F91).k F93
   have ne_g65_b100 := ltn HB68.lt le103
   have HL := (HL.keep F91 dj0).keep F93 dj0
   have nin_b100_F := new_nin HL.lt le103
   have HE := (HE.keep F91 dj0).keep F93 dj0
   have nin_b100_FE := new_nin HE.lt le103
   have HVR := (HVR.keep F91 dj0).keep F93 dj0
   have nin_b100_FR := new_nin HVR.lt le103
   have HS := (HS.k F91).k F93
   have ne_1_b100 : 1 ≠ b100 := Nat.ne_of_lt (Nat.lt_of_lt_of_le (var_lt 1 (by kernel_rfl) HS) le103)
   have HR := (HR.k F91).k F93
   have ne_2_b100 : 2 ≠ b100 := Nat.ne_of_lt (Nat.lt_of_lt_of_le (var_lt 2 (by kernel_rfl) HR) le103)
   have HTab := (HTab.k F91).k F93
   have ne_3_b100 : 3 ≠ b100 := Nat.ne_of_lt (Nat.lt_of_lt_of_le (tab_lt HTab) le103)
   have HM := (HM.k F91).k F93
   have ne_0_b100 : 0 ≠ b100 := Nat.ne_of_lt (Nat.lt_of_lt_of_le (max_lt HM) le103)
   have HA := (HA.step0 F91).step0 F93
   have ge_HA_b100 := Nat.le_trans HA.size le103
   have HB43 := HB43.k F99
   refine WO.one (SA.F (frBR _) (frBT _) _ 8 _ (by kernel_rfl)) 4 (.slice (some ⟨b100, 0, none⟩) (((((((((q ++ encT ((gX xs i).1.key)) ++ enc ((gX xs i).1.kind.toNat)) ++ enc ((gX xs i).1.many)) ++ enc (zig ((gX xs i).1.sum))) ++ enc (zig ((gX xs i).1.least))) ++ enc (zig ((gX xs i).1.most))) ++ enc 1) ++ enc ((gX xs i).1.bk.length)).length) cap101) (by kernel_rfl) <| Ydn <| Zsg <| Zr 1 [(82, Pt g36 7)] <| Zl 83 (.slice ((gX xs i).2.1) ((gX xs i).1.bk.length) ((gX xs i).2.2)) (HB43.s 7) <| Zr 2 [(85, J 0), (84, J ((gX xs i).1.bk.length : Int))] <| Zdn <| WE.block ?_
   obtain ⟨F104, hF104⟩ : ∃ F_, F_ = [b100] := ⟨_, rfl⟩
   have HO105 : OwnX 5 1 w98 F104 (.slice (some ⟨b100, 0, none⟩) (((((((((q ++ encT ((gX xs i).1.key)) ++ enc ((gX xs i).1.kind.toNat)) ++ enc ((gX xs i).1.many)) ++ enc (zig ((gX xs i).1.sum))) ++ enc (zig ((gX xs i).1.least))) ++ enc (zig ((gX xs i).1.most))) ++ enc 1) ++ enc ((gX xs i).1.bk.length)).length) cap101) (((((((((q ++ encT ((gX xs i).1.key)) ++ enc ((gX xs i).1.kind.toNat)) ++ enc ((gX xs i).1.many)) ++ enc (zig ((gX xs i).1.sum))) ++ enc (zig ((gX xs i).1.least))) ++ enc (zig ((gX xs i).1.most))) ++ enc 1) ++ enc ((gX xs i).1.bk.length)).map cB) := by rw [hF104]; exact OwnX.row HR102 ((List.length_map _).trans ((rfl : List.length ((((((((q ++ encT ((gX xs i).1.key)) ++ enc ((gX xs i).1.kind.toNat)) ++ enc ((gX xs i).1.many)) ++ enc (zig ((gX xs i).1.sum))) ++ enc (zig ((gX xs i).1.least))) ++ enc (zig ((gX xs i).1.most))) ++ enc 1) ++ enc ((gX xs i).1.bk.length)) = _)))
   have nin_g1_F104 := sgN hF104 ne_g1_b100
   have nin_g8_F104 := sgN hF104 ne_g8_b100
   have nin_g36_F104 := sgN hF104 ne_g36_b100
   have nin_g65_F104 := sgN hF104 ne_g65_b100
   have nin_1_F104 := sgN hF104 ne_1_b100
   have nin_2_F104 := sgN hF104 ne_2_b100
   have nin_3_F104 := sgN hF104 ne_3_b100
   have nin_0_F104 := sgN hF104 ne_0_b100
   have dj_F104_F := sgD hF104 nin_b100_F
   have dj_F104_FE := sgD hF104 nin_b100_FE
   have dj_F104_FR := sgD hF104 nin_b100_FR
   have ge_HA_F104 := sgG hF104 ge_HA_b100
   refine WE.loop (α := Nat × List Nat × Option Addr × Nat × List UInt8) (E := fun ⟨j, FP, Ap, cp2, q2⟩ => [(2, .slice none 0 0), (3, .nilIface), (4, .slice Ap q2.length cp2), (39, .slice A n cp), (40, J (n : Int)), (41, J (i : Int)), (83, .slice ((gX xs i).2.1) ((gX xs i).1.bk.length) ((gX xs i).2.2)), (84, J ((gX xs i).1.bk.length : Int)), (85, J (j : Int))]) (I := fun ⟨j, FP, Ap, cp2, q2⟩ wr => j ≤ (gX xs i).1.bk.length ∧ q2 = ((((((((q ++ encT ((gX xs i).1.key)) ++ enc ((gX xs i).1.kind.toNat)) ++ enc ((gX xs i).1.many)) ++ enc (zig ((gX xs i).1.sum))) ++ enc (zig ((gX xs i).1.least))) ++ enc (zig ((gX xs i).1.most))) ++ enc 1) ++ enc ((gX xs i).1.bk.length)) ++ encN ((gX xs i).1.bk.take j) ∧ Blk wr g1 #[J (sq : Int), J (st : Int), .slice A n cp] 24 ∧ Blk wr g8 #[.int .u64 (sq : Int), .int .u64 (st : Int), .int .u64 (n : Int)] 46 ∧ Blk wr g36 #[.string (str (gX xs i).1.key), J ((gX xs i).1.kind), .int .u64 ((gX xs i).1.many : Int), J ((gX xs i).1.sum), J ((gX xs i).1.least), J ((gX xs i).1.most), .bool ((gX xs i).1.over), .slice ((gX xs i).2.1) ((gX xs i).1.bk.length) ((gX xs i).2.2)] 54 ∧ Blk wr g65 #[J ((gX xs i).1.sum), J ((gX xs i).1.least), J ((gX xs i).1.most)] 2 ∧ VX cW 8 wr F A xs ∧ EV wr FE xs ∧ VX cN 1 wr FR ((gX xs i).2.1) ((gX xs i).1.bk) ∧ VarI wr "strconv.ErrSyntax" ∧ VarI wr "strconv.ErrRange" ∧ Lib.TabIs Tryz.prog wr "internal/strconv.uint64pow10" .u64 Lib.pow10Tab ∧ MaxI wr ∧ OwnX 5 1 wr FP (.slice Ap q2.length cp2) (List.map cB q2) ∧ g1 ∉ FP ∧ g8 ∉ FP ∧ g36 ∉ FP ∧ g65 ∉ FP ∧ 1 ∉ FP ∧ 2 ∉ FP ∧ 3 ∉ FP ∧ 0 ∉ FP ∧ (∀ y ∈ FP, y ∉ F) ∧ (∀ y ∈ FP, y ∉ FE) ∧ (∀ y ∈ FP, y ∉ FR) ∧ (∀ y ∈ FP, (World.heap w).size ≤ y) ∧ Fr [] w wr) (m := fun ⟨j, FP, Ap, cp2, q2⟩ => (gX xs i).1.bk.length - j) (0, F104, (some ⟨b100, 0, none⟩), cap101, ((((((((q ++ encT ((gX xs i).1.key)) ++ enc ((gX xs i).1.kind.toNat)) ++ enc ((gX xs i).1.many)) ++ enc (zig ((gX xs i).1.sum))) ++ enc (zig ((gX xs i).1.least))) ++ enc (zig ((gX xs i).1.most))) ++ enc 1) ++ enc ((gX xs i).1.bk.length))) [2, 3, 4, 39, 40, 41, 83, 84, 85] (by kernel_rfl) ?_ ?_
   ·
    have HB4 := HB4.k F99
    have HB11 := HB11.k F99
    have HB68 := HB68.k F99
    have HL := HL.keep F99 dj0
    have HE := HE.keep F99 dj0
    have HVR := HVR.keep F99 dj0
    have HS := HS.k F99
    have HR := HR.k F99
    have HTab := HTab.k F99
    have HM := HM.k F99
    have HA := HA.step0 F99
    exact ⟨by omega, by simp [encN], HB4, HB11, HB43, HB68, HL, HE, HVR, HS, HR, HTab, HM, HO105, nin_g1_F104, nin_g8_F104, nin_g36_F104, nin_g65_F104, nin_1_F104, nin_2_F104, nin_3_F104, nin_0_F104, dj_F104_F, dj_F104_FE, dj_F104_FR, ge_HA_F104, HA⟩
   rintro ⟨j, FP, Ap, cp2, q2⟩ wr ⟨hj, hq2, HB4, HB11, HB43, HB68, HL, HE, HVR, HS, HR, HTab, HM, HO_FP, nin_g1_FP, nin_g8_FP, nin_g36_FP, nin_g65_FP, nin_1_FP, nin_2_FP, nin_3_FP, nin_0_FP, dj_FP_F, dj_FP_FE, dj_FP_FR, ge_HA_FP, HA⟩
   have hcl_ := encN_take hr12 j
   have hqlen2 := congrArg List.length hq2
   simp only [List.length_append, List.length_cons, List.length_nil] at hqlen2
   refine Zsg <| ZoP 86 (((j : Int) : Int) < ((gX xs i).1.bk.length : Int)) ?_ ?_
   ·
    intro h106
    refine Zdn <| Zq <| ZT <| Zk <| Zq <| WE.block <| Zq ?_
    have hbj_ := hr12 _ (gN_mem (q := (gX xs i).1.bk) (i := j) (by omega))
    refine WE.region ?_
    obtain ⟨ad107, hA108⟩ := HVR.addr (i := j) (by have := (rfl : List.length (gX xs i).1.bk = _); omega)
    refine Zio 87 ((gX xs i).1.bk.length) 1 j (j : Int) hA108 rfl (by omega) <| Zl 88 (.int .u64 ((gN ((gX xs i).1.bk) j) : Int)) (same (HVR.at0 hA108 (gN_some ((gX xs i).1.bk) j (by have := (rfl : List.length (gX xs i).1.bk = _); omega)) (by kernel_rfl))) <| Zr 1 [(13, .int .u64 ((gN ((gX xs i).1.bk) j) : Int))] <| Zdn <| WE.region <| Zr 2 [(90, .int .u64 ((gN ((gX xs i).1.bk) j) : Int)), (89, .slice Ap q2.length cp2)] <| Zc 91 (Wire.num_w (gN ((gX xs i).1.bk) j) Ap q2.length cp2 q2 FP _ (VX.of_own HO_FP) rfl (by first | omega | (simp only [List.length_append, List.length_nil]; omega)) (by omega)) ?_
    rintro _ w109 ⟨b111, cap112, rfl, HR113, F110, le114⟩
    refine ⟨_, rfl, trivial, ?_⟩
    have ne_g1_b111 := ltn HB4.lt le114
    have ne_g8_b111 := ltn HB11.lt le114
    have ne_g36_b111 := ltn HB43.lt le114
    have ne_g65_b111 := ltn HB68.lt le114
    have nin_b111_F := new_nin HL.lt le114
    have nin_b111_FE := new_nin HE.lt le114
    have nin_b111_FR := new_nin HVR.lt le114
    have ne_1_b111 : 1 ≠ b111 := Nat.ne_of_lt (Nat.lt_of_lt_of_le (var_lt 1 (by kernel_rfl) HS) le114)
    have ne_2_b111 : 2 ≠ b111 := Nat.ne_of_lt (Nat.lt_of_lt_of_le (var_lt 2 (by kernel_rfl) HR) le114)
    have ne_3_b111 : 3 ≠ b111 := Nat.ne_of_lt (Nat.lt_of_lt_of_le (tab_lt HTab) le114)
    have ne_0_b111 : 0 ≠ b111 := Nat.ne_of_lt (Nat.lt_of_lt_of_le (max_lt HM) le114)
    have ge_HA_b111 := Nat.le_trans HA.size le114
    refine Zr 1 [(4, .slice (some ⟨b111, 0, none⟩) ((q2 ++ enc (gN ((gX xs i).1.bk) j)).length) cap112)] <| Zd <| WQ.blkN <| Zn <| WE.region <| Zw 92 ((j : Int) + 1) ((j + 1 : Nat) : Int) <| Zr 1 [(85, J ((j + 1 : Nat) : Int))] <| Zd ?_
    obtain ⟨F115, hF115⟩ : ∃ F_, F_ = [b111] := ⟨_, rfl⟩
    have HO116 : OwnX 5 1 w109 F115 (.slice (some ⟨b111, 0, none⟩) ((q2 ++ enc (gN ((gX xs i).1.bk) j)).length) cap112) ((q2 ++ enc (gN ((gX xs i).1.bk) j)).map cB) := by rw [hF115]; exact OwnX.row HR113 ((List.length_map _).trans ((rfl : List.length (q2 ++ enc (gN ((gX xs i).1.bk) j)) = _)))
    have nin_g1_F115 := sgN hF115 ne_g1_b111
    have nin_g8_F115 := sgN hF115 ne_g8_b111
    have nin_g36_F115 := sgN hF115 ne_g36_b111
    have nin_g65_F115 := sgN hF115 ne_g65_b111
    have nin_1_F115 := sgN hF115 ne_1_b111
    have nin_2_F115 := sgN hF115 ne_2_b111
    have nin_3_F115 := sgN hF115 ne_3_b111
    have nin_0_F115 := sgN hF115 ne_0_b111
    have dj_F115_F := sgD hF115 nin_b111_F
    have dj_F115_FE := sgD hF115 nin_b111_FE
    have dj_F115_FR := sgD hF115 nin_b111_FR
    have ge_HA_F115 := sgG hF115 ge_HA_b111
    refine WQ.round ?_
    intro a_ ha_
    refine ⟨(j + 1, F115, (some ⟨b111, 0, none⟩), cap112, (q2 ++ enc (gN ((gX xs i).1.bk) j))), ?_, ha_.keep [2, 3, 4, 39, 40, 41, 83, 84, 85] (by kernel_rfl), ?_⟩
    ·
     show (gX xs i).1.bk.length - (j + 1) < (gX xs i).1.bk.length - j; omega
    ·
     have HB4 := HB4.k F110
     have HB11 := HB11.k F110
     have HB43 := HB43.k F110
     have HB68 := HB68.k F110
     have HL := HL.keep F110 dj0
     have HE := HE.keep F110 dj0
     have HVR := HVR.keep F110 dj0
     have HS := HS.k F110
     have HR := HR.k F110
     have HTab := HTab.k F110
     have HM := HM.k F110
     have HA := HA.step0 F110
     exact ⟨by omega, by rw [hq2, List.append_assoc, encN_snocG (by omega)], HB4, HB11, HB43, HB68, HL, HE, HVR, HS, HR, HTab, HM, HO116, nin_g1_F115, nin_g8_F115, nin_g36_F115, nin_g65_F115, nin_1_F115, nin_2_F115, nin_3_F115, nin_0_F115, dj_F115_F, dj_F115_FE, dj_F115_FR, ge_HA_F115, HA⟩
   intro h106
   refine Zdn <| Zq <| ZF <| WE.exit <| WQ.thenE <| WQ.thenE <| WQ.blkE <| WQ.blkN <| Zn ?_
   have hq2_ : q2 = preB sq st n xs (i + 1) := by rw [hq2, List.take_of_length_le (by omega), hq, ← preB_snoc (by omega)]; unfold encR ob; rw [h88]; simp only [List.append_assoc]; rfl
   refine WE.region <| Zw 93 ((i : Int) + 1) ((i + 1 : Nat) : Int) <| Zr 1 [(41, J ((i + 1 : Nat) : Int))] <| Zd <| WQ.round ?_
   intro a_ ha_
   refine ⟨(i + 1, FP, Ap, cp2, q2), ?_, ha_.keep [2, 3, 4, 39, 40, 41] (by kernel_rfl), ?_⟩
   ·
    show n - (i + 1) < n - i; omega
   ·
    exact ⟨by omega, hq2_, HB4, HB11, HL, HE, HS, HR, HTab, HM, HO_FP, nin_g1_FP, nin_g8_FP, nin_1_FP, nin_2_FP, nin_3_FP, nin_0_FP, dj_FP_F, dj_FP_FE, ge_HA_FP, HA⟩
  intro h88
  refine Zdn <| ZF <| Zk <| Zq ?_
  have hz117 : (World.heap w82).size ≤ (World.heap w82).size := Nat.le_refl _
  have ltz_g36 := HB43.lt
  refine WE.draw [.free, .free, .effR, .free, .still, .free, .free, .eff, .free] (FrB (World.heap w82).size) (frBR _) (by kernel_rfl) 9 (Array.replicate 9 false) (by kernel_rfl) rfl ?_
  intro w118 F119 _
  have HB43 := HB43.k F119
  have HR86 := HR86.k F119
  refine WO.one (SA.F (frBR _) (frBT _) _ 0 _ (by kernel_rfl)) 74 (.slice (some ⟨b84, 0, none⟩) (((((((q ++ encT ((gX xs i).1.key)) ++ enc ((gX xs i).1.kind.toNat)) ++ enc ((gX xs i).1.many)) ++ enc (zig ((gX xs i).1.sum))) ++ enc (zig ((gX xs i).1.least))) ++ enc (zig ((gX xs i).1.most))).length) cap85) (by kernel_rfl) <| WO.one (SA.F (frBR _) (frBT _) _ 1 _ (by kernel_rfl)) 75 (.int .u64 0) (by kernel_rfl) <| WO.one (SA.F (frBR _) (frBT _) _ 3 _ (by kernel_rfl)) 77 (Pt g36 7) (by kernel_rfl) <| WO.ld (SA.S (frBR _) (frBT _) _ 4 _ (by kernel_rfl)) 78 (.slice ((gX xs i).2.1) ((gX xs i).1.bk.length) ((gX xs i).2.2)) (by kernel_rfl) (fun _ k => (HB43.keepB k ltz_g36).at 7 (by kernel_rfl)) <| WO.one (SA.F (frBR _) (frBT _) _ 5 _ (by kernel_rfl)) 79 (J ((gX xs i).1.bk.length : Int)) (by kernel_rfl) <| WO.one (SA.F (frBR _) (frBT _) _ 6 _ (by kernel_rfl)) 80 (.int .u64 (IntKind.u64.wrap ((gX xs i).1.bk.length : Int))) (by kernel_rfl) <| WO.top (v' := .int .u64 ((gX xs i).1.bk.length : Int)) (wrap_u64 rfl (by omega)) <| WO.call (SA.ER _ 2 _ (by kernel_rfl) rfl) 76 (by kernel_rfl) (Wire.num_w 0 (some ⟨b84, 0, none⟩) (((((((q ++ encT ((gX xs i).1.key)) ++ enc ((gX xs i).1.kind.toNat)) ++ enc ((gX xs i).1.many)) ++ enc (zig ((gX xs i).1.sum))) ++ enc (zig ((gX xs i).1.least))) ++ enc (zig ((gX xs i).1.most))).length) cap85 ((((((q ++ encT ((gX xs i).1.key)) ++ enc ((gX xs i).1.kind.toNat)) ++ enc ((gX xs i).1.many)) ++ enc (zig ((gX xs i).1.sum))) ++ enc (zig ((gX xs i).1.least))) ++ enc (zig ((gX xs i).1.most))) [b84] _ (VX.of_row HR86) (rfl : List.length ((((((q ++ encT ((gX xs i).1.key)) ++ enc ((gX xs i).1.kind.toNat)) ++ enc ((gX xs i).1.many)) ++ enc (zig ((gX xs i).1.sum))) ++ enc (zig ((gX xs i).1.least))) ++ enc (zig ((gX xs i).1.most))) = _) (by first | omega | (simp only [List.length_append, List.length_nil]; omega)) (by omega)) ?_
  rintro _ w120 ⟨b122, cap123, rfl, HR124, F121, le125⟩
  have hz117 := Nat.le_trans hz117 F119.size
  refine ⟨_, rfl, (frB_of hz117 (by simp)) _ F121, Yc 7 81 (Wire.num_w ((gX xs i).1.bk.length) (some ⟨b122, 0, none⟩) ((((((((q ++ encT ((gX xs i).1.key)) ++ enc ((gX xs i).1.kind.toNat)) ++ enc ((gX xs i).1.many)) ++ enc (zig ((gX xs i).1.sum))) ++ enc (zig ((gX xs i).1.least))) ++ enc (zig ((gX xs i).1.most))) ++ enc 0).length) cap123 (((((((q ++ encT ((gX xs i).1.key)) ++ enc ((gX xs i).1.kind.toNat)) ++ enc ((gX xs i).1.many)) ++ enc (zig ((gX xs i).1.sum))) ++ enc (zig ((gX xs i).1.least))) ++ enc (zig ((gX xs i).1.most))) ++ enc 0) [b122] _ (VX.of_row HR124) (rfl : List.length (((((((q ++ encT ((gX xs i).1.key)) ++ enc ((gX xs i).1.kind.toNat)) ++ enc ((gX xs i).1.many)) ++ enc (zig ((gX xs i).1.sum))) ++ enc (zig ((gX xs i).1.least))) ++ enc (zig ((gX xs i).1.most))) ++ enc 0) = _) (by first | omega | (simp only [List.length_append, List.length_nil]; omega)) (by omega)) ?_⟩
  rintro _ w126 ⟨b128, cap129, rfl, HR130, F127, le131⟩
  have HB4 := (HB4.k F119).k F121
  refine ⟨_, rfl, trivial, ?_⟩
  have ne_g1_b128 := ltn HB4.lt le131
  have HB11 := (HB11.k F119).k F121
  have ne_g8_b128 := ltn HB11.lt le131
  have HB43 := HB43.k F121
  have ne_g36_b128 := ltn HB43.lt le131
  have HB68 := ((HB68.k F83).k F119).k F121
  have ne_g65_b128 := ltn HB68.lt le131
  have HL := (HL.keep F119 dj0).keep F121 dj0
  have nin_b128_F := new_nin HL.lt le131
  have HE := (HE.keep F119 dj0).keep F121 dj0
  have nin_b128_FE := new_nin HE.lt le131
  have HVR := (HVR.keep F119 dj0).keep F121 dj0
  have nin_b128_FR := new_nin HVR.lt le131
  have HS := (HS.k F119).k F121
  have ne_1_b128 : 1 ≠ b128 := Nat.ne_of_lt (Nat.lt_of_lt_of_le (var_lt 1 (by kernel_rfl) HS) le131)
  have HR := (HR.k F119).k F121
  have ne_2_b128 : 2 ≠ b128 := Nat.ne_of_lt (Nat.lt_of_lt_of_le (var_lt 2 (by kernel_rfl) HR) le131)
  have HTab := (HTab.k F119).k F121
  have ne_3_b128 : 3 ≠ b128 := Nat.ne_of_lt (Nat.lt_of_lt_of_le (tab_lt HTab) le131)
  have HM := (HM.k F119).k F121
  have ne_0_b128 : 0 ≠ b128 := Nat.ne_of_lt (Nat.lt_of_lt_of_le (max_lt HM) le131)
  have HA := (HA.step0 F119).step0 F121
  have ge_HA_b128 := Nat.le_trans HA.size le131
  have HB43 := HB43.k F127
  refine WO.one (SA.F (frBR _) (frBT _) _ 8 _ (by kernel_rfl)) 4 (.slice (some ⟨b128, 0, none⟩) (((((((((q ++ encT ((gX xs i).1.key)) ++ enc ((gX xs i).1.kind.toNat)) ++ enc ((gX xs i).1.many)) ++ enc (zig ((gX xs i).1.sum))) ++ enc (zig ((gX xs i).1.least))) ++ enc (zig ((gX xs i).1.most))) ++ enc 0) ++ enc ((gX xs i).1.bk.length)).length) cap129) (by kernel_rfl) <| Ydn <| Zsg <| Zr 1 [(82, Pt g36 7)] <| Zl 83 (.slice ((gX xs i).2.1) ((gX xs i).1.bk.length) ((gX xs i).2.2)) (HB43.s 7) <| Zr 2 [(85, J 0), (84, J ((gX xs i).1.bk.length : Int))] <| Zdn <| WE.block ?_
  obtain ⟨F132, hF132⟩ : ∃ F_, F_ = [b128] := ⟨_, rfl⟩
  have HO133 : OwnX 5 1 w126 F132 (.slice (some ⟨b128, 0, none⟩) (((((((((q ++ encT ((gX xs i).1.key)) ++ enc ((gX xs i).1.kind.toNat)) ++ enc ((gX xs i).1.many)) ++ enc (zig ((gX xs i).1.sum))) ++ enc (zig ((gX xs i).1.least))) ++ enc (zig ((gX xs i).1.most))) ++ enc 0) ++ enc ((gX xs i).1.bk.length)).length) cap129) (((((((((q ++ encT ((gX xs i).1.key)) ++ enc ((gX xs i).1.kind.toNat)) ++ enc ((gX xs i).1.many)) ++ enc (zig ((gX xs i).1.sum))) ++ enc (zig ((gX xs i).1.least))) ++ enc (zig ((gX xs i).1.most))) ++ enc 0) ++ enc ((gX xs i).1.bk.length)).map cB) := by rw [hF132]; exact OwnX.row HR130 ((List.length_map _).trans ((rfl : List.length ((((((((q ++ encT ((gX xs i).1.key)) ++ enc ((gX xs i).1.kind.toNat)) ++ enc ((gX xs i).1.many)) ++ enc (zig ((gX xs i).1.sum))) ++ enc (zig ((gX xs i).1.least))) ++ enc (zig ((gX xs i).1.most))) ++ enc 0) ++ enc ((gX xs i).1.bk.length)) = _)))
  have nin_g1_F132 := sgN hF132 ne_g1_b128
  have nin_g8_F132 := sgN hF132 ne_g8_b128
  have nin_g36_F132 := sgN hF132 ne_g36_b128
  have nin_g65_F132 := sgN hF132 ne_g65_b128
  have nin_1_F132 := sgN hF132 ne_1_b128
  have nin_2_F132 := sgN hF132 ne_2_b128
  have nin_3_F132 := sgN hF132 ne_3_b128
  have nin_0_F132 := sgN hF132 ne_0_b128
  have dj_F132_F := sgD hF132 nin_b128_F
  have dj_F132_FE := sgD hF132 nin_b128_FE
  have dj_F132_FR := sgD hF132 nin_b128_FR
  have ge_HA_F132 := sgG hF132 ge_HA_b128
  refine WE.loop (α := Nat × List Nat × Option Addr × Nat × List UInt8) (E := fun ⟨j, FP, Ap, cp2, q2⟩ => [(2, .slice none 0 0), (3, .nilIface), (4, .slice Ap q2.length cp2), (39, .slice A n cp), (40, J (n : Int)), (41, J (i : Int)), (83, .slice ((gX xs i).2.1) ((gX xs i).1.bk.length) ((gX xs i).2.2)), (84, J ((gX xs i).1.bk.length : Int)), (85, J (j : Int))]) (I := fun ⟨j, FP, Ap, cp2, q2⟩ wr => j ≤ (gX xs i).1.bk.length ∧ q2 = ((((((((q ++ encT ((gX xs i).1.key)) ++ enc ((gX xs i).1.kind.toNat)) ++ enc ((gX xs i).1.many)) ++ enc (zig ((gX xs i).1.sum))) ++ enc (zig ((gX xs i).1.least))) ++ enc (zig ((gX xs i).1.most))) ++ enc 0) ++ enc ((gX xs i).1.bk.length)) ++ encN ((gX xs i).1.bk.take j) ∧ Blk wr g1 #[J (sq : Int), J (st : Int), .slice A n cp] 24 ∧ Blk wr g8 #[.int .u64 (sq : Int), .int .u64 (st : Int), .int .u64 (n : Int)] 46 ∧ Blk wr g36 #[.string (str (gX xs i).1.key), J ((gX xs i).1.kind), .int .u64 ((gX xs i).1.many : Int), J ((gX xs i).1.sum), J ((gX xs i).1.least), J ((gX xs i).1.most), .bool ((gX xs i).1.over), .slice ((gX xs i).2.1) ((gX xs i).1.bk.length) ((gX xs i).2.2)] 54 ∧ Blk wr g65 #[J ((gX xs i).1.sum), J ((gX xs i).1.least), J ((gX xs i).1.most)] 2 ∧ VX cW 8 wr F A xs ∧ EV wr FE xs ∧ VX cN 1 wr FR ((gX xs i).2.1) ((gX xs i).1.bk) ∧ VarI wr "strconv.ErrSyntax" ∧ VarI wr "strconv.ErrRange" ∧ Lib.TabIs Tryz.prog wr "internal/strconv.uint64pow10" .u64 Lib.pow10Tab ∧ MaxI wr ∧ OwnX 5 1 wr FP (.slice Ap q2.length cp2) (List.map cB q2) ∧ g1 ∉ FP ∧ g8 ∉ FP ∧ g36 ∉ FP ∧ g65 ∉ FP ∧ 1 ∉ FP ∧ 2 ∉ FP ∧ 3 ∉ FP ∧ 0 ∉ FP ∧ (∀ y ∈ FP, y ∉ F) ∧ (∀ y ∈ FP, y ∉ FE) ∧ (∀ y ∈ FP, y ∉ FR) ∧ (∀ y ∈ FP, (World.heap w).size ≤ y) ∧ Fr [] w wr) (m := fun ⟨j, FP, Ap, cp2, q2⟩ => (gX xs i).1.bk.length - j) (0, F132, (some ⟨b128, 0, none⟩), cap129, ((((((((q ++ encT ((gX xs i).1.key)) ++ enc ((gX xs i).1.kind.toNat)) ++ enc ((gX xs i).1.many)) ++ enc (zig ((gX xs i).1.sum))) ++ enc (zig ((gX xs i).1.least))) ++ enc (zig ((gX xs i).1.most))) ++ enc 0) ++ enc ((gX xs i).1.bk.length))) [2, 3, 4, 39, 40, 41, 83, 84, 85] (by kernel_rfl) ?_ ?_
  ·
   have HB4 := HB4.k F127
   have HB11 := HB11.k F127
   have HB68 := HB68.k F127
   have HL := HL.keep F127 dj0
   have HE := HE.keep F127 dj0
   have HVR := HVR.keep F127 dj0
   have HS := HS.k F127
   have HR := HR.k F127
   have HTab := HTab.k F127
   have HM := HM.k F127
   have HA := HA.step0 F127
   exact ⟨by omega, by simp [encN], HB4, HB11, HB43, HB68, HL, HE, HVR, HS, HR, HTab, HM, HO133, nin_g1_F132, nin_g8_F132, nin_g36_F132, nin_g65_F132, nin_1_F132, nin_2_F132, nin_3_F132, nin_0_F132, dj_F132_F, dj_F132_FE, dj_F132_FR, ge_HA_F132, HA⟩
  rintro ⟨j, FP, Ap, cp2, q2⟩ wr ⟨hj, hq2, HB4, HB11, HB43, HB68, HL, HE, HVR, HS, HR, HTab, HM, HO_FP, nin_g1_FP, nin_g8_FP, nin_g36_FP, nin_g65_FP, nin_1_FP, nin_2_FP, nin_3_FP, nin_0_FP, dj_FP_F, dj_FP_FE, dj_FP_FR, ge_HA_FP, HA⟩
  have hcl_ := encN_take hr12 j
  have hqlen2 := congrArg List.length hq2
  simp only [List.length_append, List.length_cons, List.length_nil] at hqlen2
  refine Zsg <| ZoP 86 (((j : Int) : Int) < ((gX xs i).1.bk.length : Int)) ?_ ?_
  ·
   intro h134
   refine Zdn <| Zq <| ZT <| Zk <| Zq <| WE.block <| Zq ?_
   have hbj_ := hr12 _ (gN_mem (q := (gX xs i).1.bk) (i := j) (by omega))
   refine WE.region ?_
   obtain ⟨ad135, hA136⟩ := HVR.addr (i := j) (by have := (rfl : List.length (gX xs i).1.bk = _); omega)
   refine Zio 87 ((gX xs i).1.bk.length) 1 j (j : Int) hA136 rfl (by omega) <| Zl 88 (.int .u64 ((gN ((gX xs i).1.bk) j) : Int)) (same (HVR.at0 hA136 (gN_some ((gX xs i).1.bk) j (by have := (rfl : List.length (gX xs i).1.bk = _); omega)) (by kernel_rfl))) <| Zr 1 [(13, .int .u64 ((gN ((gX xs i).1.bk) j) : Int))] <| Zdn <| WE.region <| Zr 2 [(90, .int .u64 ((gN ((gX xs i).1.bk) j) : Int)), (89, .slice Ap q2.length cp2)] <| Zc 91 (Wire.num_w (gN ((gX xs i).1.bk) j) Ap q2.length cp2 q2 FP _ (VX.of_own HO_FP) rfl (by first | omega | (simp only [List.length_append, List.length_nil]; omega)) (by omega)) ?_
   rintro _ w137 ⟨b139, cap140, rfl, HR141, F138, le142⟩
   refine ⟨_, rfl, trivial, ?_⟩
   have ne_g1_b139 := ltn HB4.lt le142
   have ne_g8_b139 := ltn HB11.lt le142
   have ne_g36_b139 := ltn HB43.lt le142
   have ne_g65_b139 := ltn HB68.lt le142
   have nin_b139_F := new_nin HL.lt le142
   have nin_b139_FE := new_nin HE.lt le142
   have nin_b139_FR := new_nin HVR.lt le142
   have ne_1_b139 : 1 ≠ b139 := Nat.ne_of_lt (Nat.lt_of_lt_of_le (var_lt 1 (by kernel_rfl) HS) le142)
   have ne_2_b139 : 2 ≠ b139 := Nat.ne_of_lt (Nat.lt_of_lt_of_le (var_lt 2 (by kernel_rfl) HR) le142)
   have ne_3_b139 : 3 ≠ b139 := Nat.ne_of_lt (Nat.lt_of_lt_of_le (tab_lt HTab) le142)
   have ne_0_b139 : 0 ≠ b139 := Nat.ne_of_lt (Nat.lt_of_lt_of_le (max_lt HM) le142)
   have ge_HA_b139 := Nat.le_trans HA.size le142
   refine Zr 1 [(4, .slice (some ⟨b139, 0, none⟩) ((q2 ++ enc (gN ((gX xs i).1.bk) j)).length) cap140)] <| Zd <| WQ.blkN <| Zn <| WE.region <| Zw 92 ((j : Int) + 1) ((j + 1 : Nat) : Int) <| Zr 1 [(85, J ((j + 1 : Nat) : Int))] <| Zd ?_
   obtain ⟨F143, hF143⟩ : ∃ F_, F_ = [b139] := ⟨_, rfl⟩
   have HO144 : OwnX 5 1 w137 F143 (.slice (some ⟨b139, 0, none⟩) ((q2 ++ enc (gN ((gX xs i).1.bk) j)).length) cap140) ((q2 ++ enc (gN ((gX xs i).1.bk) j)).map cB) := by rw [hF143]; exact OwnX.row HR141 ((List.length_map _).trans ((rfl : List.length (q2 ++ enc (gN ((gX xs i).1.bk) j)) = _)))
   have nin_g1_F143 := sgN hF143 ne_g1_b139
   have nin_g8_F143 := sgN hF143 ne_g8_b139
   have nin_g36_F143 := sgN hF143 ne_g36_b139
   have nin_g65_F143 := sgN hF143 ne_g65_b139
   have nin_1_F143 := sgN hF143 ne_1_b139
   have nin_2_F143 := sgN hF143 ne_2_b139
   have nin_3_F143 := sgN hF143 ne_3_b139
   have nin_0_F143 := sgN hF143 ne_0_b139
   have dj_F143_F := sgD hF143 nin_b139_F
   have dj_F143_FE := sgD hF143 nin_b139_FE
   have dj_F143_FR := sgD hF143 nin_b139_FR
   have ge_HA_F143 := sgG hF143 ge_HA_b139
   refine WQ.round ?_
   intro a_ ha_
   refine ⟨(j + 1, F143, (some ⟨b139, 0, none⟩), cap140, (q2 ++ enc (gN ((gX xs i).1.bk) j))), ?_, ha_.keep [2, 3, 4, 39, 40, 41, 83, 84, 85] (by kernel_rfl), ?_⟩
   ·
    show (gX xs i).1.bk.length - (j + 1) < (gX xs i).1.bk.length - j; omega
   ·
    have HB4 := HB4.k F138
    have HB11 := HB11.k F138
    have HB43 := HB43.k F138
    have HB68 := HB68.k F138
    have HL := HL.keep F138 dj0
    have HE := HE.keep F138 dj0
    have HVR := HVR.keep F138 dj0
    have HS := HS.k F138
    have HR := HR.k F138
    have HTab := HTab.k F138
    have HM := HM.k F138
    have HA := HA.step0 F138
    exact ⟨by omega, by rw [hq2, List.append_assoc, encN_snocG (by omega)], HB4, HB11, HB43, HB68, HL, HE, HVR, HS, HR, HTab, HM, HO144, nin_g1_F143, nin_g8_F143, nin_g36_F143, nin_g65_F143, nin_1_F143, nin_2_F143, nin_3_F143, nin_0_F143, dj_F143_F, dj_F143_FE, dj_F143_FR, ge_HA_F143, HA⟩
  intro h134
  refine Zdn <| Zq <| ZF <| WE.exit <| WQ.thenE <| WQ.thenE <| WQ.blkE <| WQ.blkN <| Zn ?_
  have hq2_ : q2 = preB sq st n xs (i + 1) := by rw [hq2, List.take_of_length_le (by omega), hq, ← preB_snoc (by omega)]; unfold encR ob; rw [h88]; simp only [List.append_assoc]; rfl
  refine WE.region <| Zw 93 ((i : Int) + 1) ((i + 1 : Nat) : Int) <| Zr 1 [(41, J ((i + 1 : Nat) : Int))] <| Zd <| WQ.round ?_
  intro a_ ha_
  refine ⟨(i + 1, FP, Ap, cp2, q2), ?_, ha_.keep [2, 3, 4, 39, 40, 41] (by kernel_rfl), ?_⟩
  ·
   show n - (i + 1) < n - i; omega
  ·
   exact ⟨by omega, hq2_, HB4, HB11, HL, HE, HS, HR, HTab, HM, HO_FP, nin_g1_FP, nin_g8_FP, nin_1_FP, nin_2_FP, nin_3_FP, nin_0_FP, dj_FP_F, dj_FP_FE, ge_HA_FP, HA⟩
 intro h33
 refine Zdn <| Zq <| ZF <| WE.exit <| WQ.thenE <| WQ.thenE <| WQ.blkE <| Zn <| Zsg <| Zr 3 [(3, .nilIface), (2, .slice Ao q.length co), (94, .slice Ao q.length co)] <| Zdn <| WE.ret <| ZR (.tuple #[.slice Ao q.length co, .nilIface]) ?_
 exact ⟨Ao, co, FO, by rw [show i = n by omega, preB_all hn] at hq; subst hq; exact ⟨rfl, HO_FO, ge_HA_FO, HA⟩⟩
set_option maxRecDepth 100000 in
set_option maxHeartbeats 400000 in
theorem mput_f (sq st : Nat) (xs : List RX) (A : Option Addr) (n cp : Nat) (F FE : List Nat) (w : World) (HL : VX cW 8 w F A xs) (HE : EV w FE xs) (hn : xs.length = n) (hnn : n ≤ 9223372036854775807) (hkl : ∀ x ∈ xs, x.1.key.length ≤ 100000) (hbl : ∀ x ∈ xs, x.1.bk.length ≤ 9223372036854775807) (hmay : mayB (⟨(sq : Int), (st : Int), rws xs⟩ : Bt) = true) (hin : ∀ x ∈ xs, x.1.In) :
    Calls Tryz.prog 13 #[.agg #[.int .i64 (sq : Int), .int .i64 (st : Int), .slice A n cp]] w fun e w' => ∃ A' c' F', e = .returned (.slice A' (encB (⟨(sq : Int), (st : Int), rws xs⟩ : Bt)).length c') ∧ OwnX 5 1 w' F' (.slice A' (encB (⟨(sq : Int), (st : Int), rws xs⟩ : Bt)).length c') ((encB (⟨(sq : Int), (st : Int), rws xs⟩ : Bt)).map cB) ∧ (∀ y ∈ F', w.heap.size ≤ y) ∧ Fr [] w w' := by
 have hhd_ := head_facts hmay hn
 have HA := Fr.refl [] w
 refine Zen (N := 97) Tryz.func13 (c := _) [(0, .agg #[J (sq : Int), J (st : Int), .slice A n cp])] <| Zsg <| Zb 1 #[J (sq : Int), J (st : Int), .slice A n cp] 24 (fun g => Pt g 0) ?_
 intro g1 w2 HB4 F3 le5 _
 refine Zr 1 [(2, .slice none 0 0)] <| Zdn <| Zq ?_
 have hz6 : (World.heap w2).size ≤ (World.heap w2).size := Nat.le_refl _
 have ltz_g1 := HB4.lt
 refine WE.draw [.free, .still, .free, .effR, .free, .still, .free, .eff, .eff, .free] (FrB (World.heap w2).size) (frBR _) (by kernel_rfl) 10 (Array.replicate 10 false) (by kernel_rfl) rfl ?_
 intro w7 F8 _
 have HB4 := HB4.k F8
 refine WO.one (SA.F (frBR _) (frBT _) _ 0 _ (by kernel_rfl)) 7 (Pt g1 0) (by kernel_rfl) <| WO.ld (SA.S (frBR _) (frBT _) _ 1 _ (by kernel_rfl)) 8 (J (sq : Int)) (by kernel_rfl) (fun _ k => (HB4.keepB k ltz_g1).at 0 (by kernel_rfl)) <| WO.one (SA.F (frBR _) (frBT _) _ 2 _ (by kernel_rfl)) 9 (.int .u64 (IntKind.u64.wrap (sq : Int))) (by kernel_rfl) <| WO.top (v' := .int .u64 (sq : Int)) (wrap_u64 rfl (by omega)) <| WO.one (SA.F (frBR _) (frBT _) _ 4 _ (by kernel_rfl)) 11 (Pt g1 1) (by kernel_rfl) <| WO.ld (SA.S (frBR _) (frBT _) _ 5 _ (by kernel_rfl)) 12 (J (st : Int)) (by kernel_rfl) (fun _ k => (HB4.keepB k ltz_g1).at 1 (by kernel_rfl)) <| WO.one (SA.F (frBR _) (frBT _) _ 6 _ (by kernel_rfl)) 13 (.int .u64 (IntKind.u64.wrap (st : Int))) (by kernel_rfl) <| WO.top (v' := .int .u64 (st : Int)) (wrap_u64 rfl (by omega)) <| WO.call (SA.ER _ 3 _ (by kernel_rfl) rfl) 10 (by kernel_rfl) (Wire.num_m sq _ (by omega)) ?_
 rintro _ w9 ⟨b11, cap12, rfl, HR13, F10, le14⟩
 have hz6 := Nat.le_trans hz6 F8.size
 refine ⟨_, rfl, (frB_of hz6 (by simp)) _ F10, ?_⟩
 have ne_g1_b11 := ltn HB4.lt le14
 have HL := (HL.keep F3 dj0).keep F8 dj0
 have nin_b11_F := new_nin HL.lt le14
 have HE := (HE.keep F3 dj0).keep F8 dj0
 have nin_b11_FE := new_nin HE.lt le14
 have HA := (HA.step0 F3).step0 F8
 have ge_HA_b11 := Nat.le_trans HA.size le14
 refine Yc 7 14 (Wire.num_m st _ (by omega)) ?_
 rintro _ w15 ⟨b17, cap18, rfl, HR19, F16, le20⟩
 have HR13 := HR13.k F16
 refine ⟨_, rfl, trivial, Yar 8 (n := ((enc sq).length)) (m := ((enc st).length)) (ys := List.map cB (enc st)) 15 Wire.et_b HR13 ((List.length_map _).trans ((rfl : List.length (enc sq) = _))) (by rw [List.length_map] <;> first | rfl | omega | (simp <;> omega)) (by have := HR19.src; rw [List.length_map, (rfl : List.length (enc st) = _)] at this; exact this) (cB_len _) (cB_one _) (by omega) (by omega) ?_⟩
 intro b21 cap22 w23 HR24 F25 hb26
 have HB4 := (HB4.k F10).k F16
 have ne_g1_b21 : g1 ≠ b21 := hb26.elim (fun h => h ▸ ne_g1_b11) (fun h => Nat.ne_of_lt (Nat.lt_of_lt_of_le HB4.lt h))
 have HL := (HL.keep F10 dj0).keep F16 dj0
 have nin_b21_F : b21 ∉ F := hb26.elim (fun h => h ▸ nin_b11_F) (fun h => new_nin HL.lt h)
 have HE := (HE.keep F10 dj0).keep F16 dj0
 have nin_b21_FE : b21 ∉ FE := hb26.elim (fun h => h ▸ nin_b11_FE) (fun h => new_nin HE.lt h)
 have HA := (HA.step0 F10).step0 F16
 have in_HA_b21 : b21 ∈ [] ∨ (World.heap w).size ≤ b21 := hb26.elim (fun h => Or.inr (h ▸ ge_HA_b11)) (fun h => Or.inr (Nat.le_trans HA.size h))
 have HR24 : RowB w23 b21 5 1 cap22 (((enc sq) ++ (enc st)).map cB) := by rw [List.map_append]; exact HR24
 have HB4 := HB4.j F25 ne_g1_b11
 refine WO.one (SA.F (frBR _) (frBT _) _ 9 _ (by kernel_rfl)) 3 (.slice (some ⟨b21, 0, none⟩) ((enc sq).length + ((enc st).length)) cap22) (by kernel_rfl) <| Ydn <| Zsg <| Zr 2 [(17, Pt g1 2), (16, .slice (some ⟨b21, 0, none⟩) ((enc sq).length + ((enc st).length)) cap22)] <| Zl 18 (.slice A n cp) (HB4.s 2) <| Zr 1 [(19, J (n : Int))] <| Zwur 20 (n : Int) (n : Int) <| Zc 21 (Wire.num_m n _ (by omega)) ?_
 rintro _ w27 ⟨b29, cap30, rfl, HR31, F28, le32⟩
 have HR24 := HR24.k F28
 refine ⟨_, rfl, trivial, Zar (n := ((enc sq).length + ((enc st).length))) (m := ((enc n).length)) (ys := List.map cB (enc n)) 22 Wire.et_b HR24 ((List.length_map _).trans ((show ((enc sq) ++ (enc st)).length = (enc sq).length + ((enc st).length) by rw [List.length_append, (rfl : List.length (enc sq) = _)] <;> first | rfl | (have := (rfl : List.length (enc sq) = _); simp <;> omega)))) (by rw [List.length_map] <;> first | rfl | omega | (simp <;> omega)) (by have := HR31.src; rw [List.length_map, (rfl : List.length (enc n) = _)] at this; exact this) (cB_len _) (cB_one _) (by omega) (by omega) ?_⟩
 intro b33 cap34 w35 HR36 F37 hb38
 have HB4 := HB4.k F28
 have ne_g1_b33 : g1 ≠ b33 := hb38.elim (fun h => h ▸ ne_g1_b21) (fun h => Nat.ne_of_lt (Nat.lt_of_lt_of_le HB4.lt h))
 have HL := (HL.keep F25 (djB nin_b11_F)).keep F28 dj0
 have nin_b33_F : b33 ∉ F := hb38.elim (fun h => h ▸ nin_b21_F) (fun h => new_nin HL.lt h)
 have HE := (HE.keep F25 (djB nin_b11_FE)).keep F28 dj0
 have nin_b33_FE : b33 ∉ FE := hb38.elim (fun h => h ▸ nin_b21_FE) (fun h => new_nin HE.lt h)
 have HA := (HA.step F25 (inSR ge_HA_b11 inS0)).step0 F28
 have in_HA_b33 : b33 ∈ [] ∨ (World.heap w).size ≤ b33 := hb38.elim (fun h => (h ▸ in_HA_b21)) (fun h => Or.inr (Nat.le_trans HA.size h))
 have HR36 : RowB w35 b33 5 1 cap34 ((((enc sq) ++ (enc st)) ++ (enc n)).map cB) := by rw [List.map_append]; exact HR36
 refine Zr 1 [(3, .slice (some ⟨b33, 0, none⟩) ((enc sq).length + ((enc st).length) + ((enc n).length)) cap34)] <| Zdn <| Zq <| Zsg <| Zr 1 [(4, J 0)] <| Zd <| WQ.keep [1, 2, 3, 4] (e' := [(1, Pt g1 0), (2, .slice none 0 0), (3, .slice (some ⟨b33, 0, none⟩) ((enc sq).length + ((enc st).length) + ((enc n).length)) cap34), (4, J 0)]) (by kernel_rfl) <| Zn <| WE.block ?_
 obtain ⟨F39, hF39⟩ : ∃ F_, F_ = [b33] := ⟨_, rfl⟩
 have HO40 : OwnX 5 1 w35 F39 (.slice (some ⟨b33, 0, none⟩) ((enc sq).length + ((enc st).length) + ((enc n).length)) cap34) ((((enc sq) ++ (enc st)) ++ (enc n)).map cB) := by rw [hF39]; exact OwnX.row HR36 ((List.length_map _).trans ((show (((enc sq) ++ (enc st)) ++ (enc n)).length = (enc sq).length + ((enc st).length) + ((enc n).length) by rw [List.length_append, (show ((enc sq) ++ (enc st)).length = (enc sq).length + ((enc st).length) by rw [List.length_append, (rfl : List.length (enc sq) = _)] <;> first | rfl | (have := (rfl : List.length (enc sq) = _); simp <;> omega))] <;> first | rfl | (have := (show ((enc sq) ++ (enc st)).length = (enc sq).length + ((enc st).length) by rw [List.length_append, (rfl : List.length (enc sq) = _)] <;> first | rfl | (have := (rfl : List.length (enc sq) = _); simp <;> omega)); simp <;> omega))))
 have nin_g1_F39 := sgN hF39 ne_g1_b33
 have dj_F39_F := sgD hF39 nin_b33_F
 have dj_F39_FE := sgD hF39 nin_b33_FE
 have ge_HA_F39 := sgG hF39 (in_HA_b33.resolve_left (by simp))
 have hnq41 : (((enc sq) ++ (enc st)) ++ (enc n)).length = (enc sq).length + ((enc st).length) + ((enc n).length) := by simp only [List.length_append, List.length_cons, List.length_nil, List.length_take, List.length_drop] <;> omega
 have HO42 : OwnX 5 1 w35 F39 (.slice (some ⟨b33, 0, none⟩) ((((enc sq) ++ (enc st)) ++ (enc n)).length) cap34) (List.map cB (((enc sq) ++ (enc st)) ++ (enc n))) := by rw [hnq41]; exact HO40
 refine WE.env (e' := [(1, Pt g1 0), (2, .slice none 0 0), (3, .slice (some ⟨b33, 0, none⟩) ((((enc sq) ++ (enc st)) ++ (enc n)).length) cap34), (4, J 0)]) (by rw [hnq41]) <| WE.loop (α := Nat × List Nat × Option Addr × Nat × List UInt8) (E := fun ⟨i, FO, Ao, co, q⟩ => [(1, Pt g1 0), (2, .slice none 0 0), (3, .slice Ao q.length co), (4, J (i : Int))]) (I := fun ⟨i, FO, Ao, co, q⟩ wr => i ≤ n ∧ q = preB sq st n xs i ∧ Blk wr g1 #[J (sq : Int), J (st : Int), .slice A n cp] 24 ∧ VX cW 8 wr F A xs ∧ EV wr FE xs ∧ OwnX 5 1 wr FO (.slice Ao q.length co) (List.map cB q) ∧ g1 ∉ FO ∧ (∀ y ∈ FO, y ∉ F) ∧ (∀ y ∈ FO, y ∉ FE) ∧ (∀ y ∈ FO, (World.heap w).size ≤ y) ∧ Fr [] w wr) (m := fun ⟨i, FO, Ao, co, q⟩ => n - i) (0, F39, (some ⟨b33, 0, none⟩), cap34, (((enc sq) ++ (enc st)) ++ (enc n))) [1, 2, 3, 4] (by kernel_rfl) ?_ ?_
 ·
  have HB4 := HB4.j F37 ne_g1_b21
  have HL := HL.keep F37 (djB nin_b21_F)
  have HE := HE.keep F37 (djB nin_b21_FE)
  have HA := HA.step F37 (inSD in_HA_b21 inS0)
  exact ⟨by omega, by simp [preB], HB4, HL, HE, HO42, nin_g1_F39, dj_F39_F, dj_F39_FE, ge_HA_F39, HA⟩
 rintro ⟨i, FO, Ao, co, q⟩ wr ⟨hi, hq, HB4, HL, HE, HO_FO, nin_g1_FO, dj_FO_F, dj_FO_FE, ge_HA_FO, HA⟩
 have hil_ : i < xs.length ∨ i = n := by omega
 have hpl_ := preB_len (sq := sq) (st := st) (n := n) (i := i) hmay hin hn hi
 have hqlen := congrArg List.length hq
 refine Zq <| Zsg <| Zr 2 [(24, Pt g1 2), (23, J (i : Int))] <| Zl 25 (.slice A n cp) (HB4.s 2) <| Zr 1 [(26, J (n : Int))] <| ZoP 27 (((i : Int) : Int) < (n : Int)) ?_ ?_
 ·
  intro h43
  refine Zdn <| ZT <| Zk <| Zq <| WE.block <| Zq ?_
  have hin_ := hin _ (gX_mem (q := xs) (i := i) (by omega))
  obtain ⟨hi1_, hi2_, hi3_, hi4_, _⟩ := hin_
  have hrf_ := row_facts hmay hin (i := i) (by omega)
  obtain ⟨hr1, hr2, hr3, hr4, hr5, hr6, hr7, hr8, hr9, hr10, hr11, hr12⟩ := hrf_
  obtain ⟨hcp_, FR, hFR_, HVR⟩ := HE.at (i := i) (by omega)
  have dj_FO_FR : ∀ y ∈ FO, y ∉ FR := fun y hy h_ => dj_FO_FE y hy (hFR_ _ h_)
  refine WE.region <| Zr 1 [(30, Pt g1 2)] <| Zl 31 (.slice A n cp) (HB4.s 2) <| Zr 1 [(32, J (i : Int))] ?_
  obtain ⟨ad44, hA45⟩ := HL.addr (i := i) (by have := hn; omega)
  refine Zio 33 n 8 i (i : Int) hA45 rfl (by omega) <| Zla (ad := (ad44.add (i * 8))) 34 [.string (str (gX xs i).1.key), J ((gX xs i).1.kind), .int .u64 ((gX xs i).1.many : Int), J ((gX xs i).1.sum), J ((gX xs i).1.least), J ((gX xs i).1.most), .bool ((gX xs i).1.over), .slice ((gX xs i).2.1) ((gX xs i).1.bk.length) ((gX xs i).2.2)] (fun _ hw_ _ hj_ => by subst hw_; exact HL.part0 hA45 (gX_some xs i (by have := hn; omega)) [.string (str (gX xs i).1.key), J ((gX xs i).1.kind), .int .u64 ((gX xs i).1.many : Int), J ((gX xs i).1.sum), J ((gX xs i).1.least), J ((gX xs i).1.most), .bool ((gX xs i).1.over), .slice ((gX xs i).2.1) ((gX xs i).1.bk.length) ((gX xs i).2.2)] (by kernel_rfl) _ hj_) <| Zb 5 #[.string (⟨#[]⟩), J 0, .int .u64 0, J 0, J 0, J 0, .bool false, .slice none 0 0] 54 (fun g => Pt g 0) ?_
  intro g46 w47 HB49 F48 le50 _
  have ne_g1_g46 := ltn HB4.lt le50
  have nin_g46_F := new_nin HL.lt le50
  have nin_g46_FE := new_nin HE.lt le50
  have nin_g46_FO := new_nin HO_FO.lt le50
  have nin_g46_FR := new_nin HVR.lt le50
  have ge_HA_g46 := Nat.le_trans HA.size le50
  refine Zs g46 0 [.string (str (gX xs i).1.key), J ((gX xs i).1.kind), .int .u64 ((gX xs i).1.many : Int), J ((gX xs i).1.sum), J ((gX xs i).1.least), J ((gX xs i).1.most), .bool ((gX xs i).1.over), .slice ((gX xs i).2.1) ((gX xs i).1.bk.length) ((gX xs i).2.2)] #[.string (str (gX xs i).1.key), J ((gX xs i).1.kind), .int .u64 ((gX xs i).1.many : Int), J ((gX xs i).1.sum), J ((gX xs i).1.least), J ((gX xs i).1.most), .bool ((gX xs i).1.over), .slice ((gX xs i).2.1) ((gX xs i).1.bk.length) ((gX xs i).2.2)] HB49 ?_
  intro w51 HB53 F52 _
  refine Zdn <| Zsg <| Zr 2 [(36, Pt g46 0), (35, .slice Ao q.length co)] <| Zl 37 (.string (str (gX xs i).1.key)) (HB53.s 0) <| Zc 38 (textk_m ((gX xs i).1.key) _ (by omega)) ?_
  rintro _ w54 ⟨b56, cap57, rfl, HR58, F55, le59⟩
  have HO_FO := ((HO_FO.keep F48 dj0).keep F52 (djB nin_g46_FO)).keep F55 dj0
  refine ⟨_, rfl, trivial, Zax (m := ((encT ((gX xs i).1.key)).length)) (ys := List.map cB (encT ((gX xs i).1.key))) 39 Wire.et_b HO_FO (by rw [List.length_map] <;> first | rfl | omega | (simp <;> omega)) (by have := HR58.src; rw [List.length_map, (rfl : List.length (encT ((gX xs i).1.key)) = _)] at this; exact this) (cB_len _) (cB_one _) (by rw [List.length_map]; first | omega | (simp only [List.length_nil]; omega) | (simp only [List.length_append, List.length_cons, List.length_nil]; omega)) (by rw [List.length_map]; first | omega | (simp only [List.length_nil]; omega) | (simp only [List.length_append, List.length_cons, List.length_nil]; omega)) ?_⟩
  intro v65 w66 G67 HO68 F69 hg70
  rw [← List.map_append] at HO68
  have HB4 := ((HB4.k F48).j F52 ne_g1_g46).k F55
  have nin_g1_G67 := grow_nin hg70 nin_g1_FO HB4.lt
  have HB53 := HB53.k F55
  have nin_g46_G67 := grow_nin hg70 nin_g46_FO HB53.lt
  have HL := ((HL.keep F48 dj0).keep F52 (djB nin_g46_F)).keep F55 dj0
  have dj_G67_F := grow_dj hg70 dj_FO_F HL.lt
  have HE := ((HE.keep F48 dj0).keep F52 (djB nin_g46_FE)).keep F55 dj0
  have dj_G67_FE := grow_dj hg70 dj_FO_FE HE.lt
  have HVR := ((HVR.keep F48 dj0).keep F52 (djB nin_g46_FR)).keep F55 dj0
  have dj_G67_FR := grow_dj hg70 dj_FO_FR HVR.lt
  have HA := ((HA.step0 F48).step F52 (inSR ge_HA_g46 inS0)).step0 F55
  have ge_HA_G67 := grow_ge hg70 ge_HA_FO HA.size
  obtain ⟨A71, cap72, rfl⟩ := HO68.sliceN (List.length_map _)
  have := @List.length_append _ q (encT ((gX xs i).1.key))
  have HB53 := HB53.keep F69 nin_g46_FO
  refine Zr 1 [(3, .slice A71 ((q ++ (encT ((gX xs i).1.key))).length) cap72)] <| Zdn <| Zsg <| Zr 2 [(41, Pt g46 1), (40, .slice A71 ((q ++ (encT ((gX xs i).1.key))).length) cap72)] <| Zl 42 (J ((gX xs i).1.kind)) (HB53.s 1) <| Zwu 43 ((gX xs i).1.kind) ((gX xs i).1.kind.toNat : Int) <| Zc 44 (Wire.num_m ((gX xs i).1.kind.toNat) _ (by omega)) ?_
  rintro _ w73 ⟨b75, cap76, rfl, HR77, F74, le78⟩
  have HO68 := HO68.keep F74 dj0
  refine ⟨_, rfl, trivial, Zax (m := ((enc ((gX xs i).1.kind.toNat)).length)) (ys := List.map cB (enc ((gX xs i).1.kind.toNat))) 45 Wire.et_b HO68 (by rw [List.length_map] <;> first | rfl | omega | (simp <;> omega)) (by have := HR77.src; rw [List.length_map, (rfl : List.length (enc ((gX xs i).1.kind.toNat)) = _)] at this; exact this) (cB_len _) (cB_one _) (by rw [List.length_map]; first | omega | (simp only [List.length_nil]; omega) | (simp only [List.length_append, List.length_cons, List.length_nil]; omega)) (by rw [List.length_map]; first | omega | (simp only [List.length_nil]; omega) | (simp only [List.length_append, List.length_cons, List.length_nil]; omega)) ?_⟩
  intro v84 w85 G86 HO87 F88 hg89
  rw [← List.map_append] at HO87
  have HB4 := (HB4.keep F69 nin_g1_FO).k F74
  have nin_g1_G86 := grow_nin hg89 nin_g1_G67 HB4.lt
  have HB53 := HB53.k F74
  have nin_g46_G86 := grow_nin hg89 nin_g46_G67 HB53.lt
  have HL := (HL.keep F69 (dj_symm dj_FO_F)).keep F74 dj0
  have dj_G86_F := grow_dj hg89 dj_G67_F HL.lt
  have HE := (HE.keep F69 (dj_symm dj_FO_FE)).keep F74 dj0
  have dj_G86_FE := grow_dj hg89 dj_G67_FE HE.lt
  have HVR := (HVR.keep F69 (dj_symm dj_FO_FR)).keep F74 dj0
  have dj_G86_FR := grow_dj hg89 dj_G67_FR HVR.lt
  have HA := (HA.step F69 (inF ge_HA_FO)).step0 F74
  have ge_HA_G86 := grow_ge hg89 ge_HA_G67 HA.size
  obtain ⟨A90, cap91, rfl⟩ := HO87.sliceN (List.length_map _)
  have := @List.length_append _ (q ++ (encT ((gX xs i).1.key))) (enc ((gX xs i).1.kind.toNat))
  have HB53 := HB53.keep F88 nin_g46_G67
  refine Zr 1 [(3, .slice A90 (((q ++ (encT ((gX xs i).1.key))) ++ (enc ((gX xs i).1.kind.toNat))).length) cap91)] <| Zdn <| Zsg <| Zr 2 [(47, Pt g46 2), (46, .slice A90 (((q ++ (encT ((gX xs i).1.key))) ++ (enc ((gX xs i).1.kind.toNat))).length) cap91)] <| Zl 48 (.int .u64 ((gX xs i).1.many : Int)) (HB53.s 2) <| Zc 49 (Wire.num_m ((gX xs i).1.many) _ (by omega)) ?_
  rintro _ w92 ⟨b94, cap95, rfl, HR96, F93, le97⟩
  have HO87 := HO87.keep F93 dj0
  refine ⟨_, rfl, trivial, Zax (m := ((enc ((gX xs i).1.many)).length)) (ys := List.map cB (enc ((gX xs i).1.many))) 50 Wire.et_b HO87 (by rw [List.length_map] <;> first | rfl | omega | (simp <;> omega)) (by have := HR96.src; rw [List.length_map, (rfl : List.length (enc ((gX xs i).1.many)) = _)] at this; exact this) (cB_len _) (cB_one _) (by rw [List.length_map]; first | omega | (simp only [List.length_nil]; omega) | (simp only [List.length_append, List.length_cons, List.length_nil]; omega)) (by rw [List.length_map]; first | omega | (simp only [List.length_nil]; omega) | (simp only [List.length_append, List.length_cons, List.length_nil]; omega)) ?_⟩
  intro v103 w104 G105 HO106 F107 hg108
  rw [← List.map_append] at HO106
  have HB4 := (HB4.keep F88 nin_g1_G67).k F93
  have nin_g1_G105 := grow_nin hg108 nin_g1_G86 HB4.lt
  have HB53 := HB53.k F93
  have nin_g46_G105 := grow_nin hg108 nin_g46_G86 HB53.lt
  have HL := (HL.keep F88 (dj_symm dj_G67_F)).keep F93 dj0
  have dj_G105_F := grow_dj hg108 dj_G86_F HL.lt
  have HE := (HE.keep F88 (dj_symm dj_G67_FE)).keep F93 dj0
  have dj_G105_FE := grow_dj hg108 dj_G86_FE HE.lt
  have HVR := (HVR.keep F88 (dj_symm dj_G67_FR)).keep F93 dj0
  have dj_G105_FR := grow_dj hg108 dj_G86_FR HVR.lt
  have HA := (HA.step F88 (inF ge_HA_G67)).step0 F93
  have ge_HA_G105 := grow_ge hg108 ge_HA_G86 HA.size
  obtain ⟨A109, cap110, rfl⟩ := HO106.sliceN (List.length_map _)
  have := @List.length_append _ ((q ++ (encT ((gX xs i).1.key))) ++ (enc ((gX xs i).1.kind.toNat))) (enc ((gX xs i).1.many))
  have HB53 := HB53.keep F107 nin_g46_G86
  refine Zr 1 [(3, .slice A109 ((((q ++ (encT ((gX xs i).1.key))) ++ (enc ((gX xs i).1.kind.toNat))) ++ (enc ((gX xs i).1.many))).length) cap110)] <| Zdn <| Zsg <| Zr 2 [(52, Pt g46 3), (51, .slice A109 ((((q ++ (encT ((gX xs i).1.key))) ++ (enc ((gX xs i).1.kind.toNat))) ++ (enc ((gX xs i).1.many))).length) cap110)] <| Zl 53 (J ((gX xs i).1.sum)) (HB53.s 3) <| Zc 54 (Wire.whole_m ((gX xs i).1.sum) _ (by omega)) ?_
  rintro _ w111 ⟨b113, cap114, rfl, HR115, F112, le116⟩
  have HO106 := HO106.keep F112 dj0
  refine ⟨_, rfl, trivial, Zax (m := ((enc (zig ((gX xs i).1.sum))).length)) (ys := List.map cB (enc (zig ((gX xs i).1.sum)))) 55 Wire.et_b HO106 (by rw [List.length_map] <;> first | rfl | omega | (simp <;> omega)) (by have := HR115.src; rw [List.length_map, (rfl : List.length (enc (zig ((gX xs i).1.sum))) = _)] at this; exact this) (cB_len _) (cB_one _) (by rw [List.length_map]; first | omega | (simp only [List.length_nil]; omega) | (simp only [List.length_append, List.length_cons, List.length_nil]; omega)) (by rw [List.length_map]; first | omega | (simp only [List.length_nil]; omega) | (simp only [List.length_append, List.length_cons, List.length_nil]; omega)) ?_⟩
  intro v122 w123 G124 HO125 F126 hg127
  rw [← List.map_append] at HO125
  have HB4 := (HB4.keep F107 nin_g1_G86).k F112
  have nin_g1_G124 := grow_nin hg127 nin_g1_G105 HB4.lt
  have HB53 := HB53.k F112
  have nin_g46_G124 := grow_nin hg127 nin_g46_G105 HB53.lt
  have HL := (HL.keep F107 (dj_symm dj_G86_F)).keep F112 dj0
  have dj_G124_F := grow_dj hg127 dj_G105_F HL.lt
  have HE := (HE.keep F107 (dj_symm dj_G86_FE)).keep F112 dj0
  have dj_G124_FE := grow_dj hg127 dj_G105_FE HE.lt
  have HVR := (HVR.keep F107 (dj_symm dj_G86_FR)).keep F112 dj0
  have dj_G124_FR := grow_dj hg127 dj_G105_FR HVR.lt
  have HA := (HA.step F107 (inF ge_HA_G86)).step0 F112
  have ge_HA_G124 := grow_ge hg127 ge_HA_G105 HA.size
  obtain ⟨A128, cap129, rfl⟩ := HO125.sliceN (List.length_map _)
  have := @List.length_append _ (((q ++ (encT ((gX xs i).1.key))) ++ (enc ((gX xs i).1.kind.toNat))) ++ (enc ((gX xs i).1.many))) (enc (zig ((gX xs i).1.sum)))
  have HB53 := HB53.keep F126 nin_g46_G105
  refine Zr 1 [(3, .slice A128 (((((q ++ (encT ((gX xs i).1.key))) ++ (enc ((gX xs i).1.kind.toNat))) ++ (enc ((gX xs i).1.many))) ++ (enc (zig ((gX xs i).1.sum)))).length) cap129)] <| Zdn <| Zsg <| Zr 2 [(57, Pt g46 4), (56, .slice A128 (((((q ++ (encT ((gX xs i).1.key))) ++ (enc ((gX xs i).1.kind.toNat))) ++ (enc ((gX xs i).1.many))) ++ (enc (zig ((gX xs i).1.sum)))).length) cap129)] <| Zl 58 (J ((gX xs i).1.least)) (HB53.s 4) <| Zc 59 (Wire.whole_m ((gX xs i).1.least) _ (by omega)) ?_
  rintro _ w130 ⟨b132, cap133, rfl, HR134, F131, le135⟩
  have HO125 := HO125.keep F131 dj0
  refine ⟨_, rfl, trivial, Zax (m := ((enc (zig ((gX xs i).1.least))).length)) (ys := List.map cB (enc (zig ((gX xs i).1.least)))) 60 Wire.et_b HO125 (by rw [List.length_map] <;> first | rfl | omega | (simp <;> omega)) (by have := HR134.src; rw [List.length_map, (rfl : List.length (enc (zig ((gX xs i).1.least))) = _)] at this; exact this) (cB_len _) (cB_one _) (by rw [List.length_map]; first | omega | (simp only [List.length_nil]; omega) | (simp only [List.length_append, List.length_cons, List.length_nil]; omega)) (by rw [List.length_map]; first | omega | (simp only [List.length_nil]; omega) | (simp only [List.length_append, List.length_cons, List.length_nil]; omega)) ?_⟩
  intro v141 w142 G143 HO144 F145 hg146
  rw [← List.map_append] at HO144
  have HB4 := (HB4.keep F126 nin_g1_G105).k F131
  have nin_g1_G143 := grow_nin hg146 nin_g1_G124 HB4.lt
  have HB53 := HB53.k F131
  have nin_g46_G143 := grow_nin hg146 nin_g46_G124 HB53.lt
  have HL := (HL.keep F126 (dj_symm dj_G105_F)).keep F131 dj0
  have dj_G143_F := grow_dj hg146 dj_G124_F HL.lt
  have HE := (HE.keep F126 (dj_symm dj_G105_FE)).keep F131 dj0
  have dj_G143_FE := grow_dj hg146 dj_G124_FE HE.lt
  have HVR := (HVR.keep F126 (dj_symm dj_G105_FR)).keep F131 dj0
  have dj_G143_FR := grow_dj hg146 dj_G124_FR HVR.lt
  have HA := (HA.step F126 (inF ge_HA_G105)).step0 F131
  have ge_HA_G143 := grow_ge hg146 ge_HA_G124 HA.size
  obtain ⟨A147, cap148, rfl⟩ := HO144.sliceN (List.length_map _)
  have := @List.length_append _ ((((q ++ (encT ((gX xs i).1.key))) ++ (enc ((gX xs i).1.kind.toNat))) ++ (enc ((gX xs i).1.many))) ++ (enc (zig ((gX xs i).1.sum)))) (enc (zig ((gX xs i).1.least)))
  have HB53 := HB53.keep F145 nin_g46_G124
  refine Zr 1 [(3, .slice A147 ((((((q ++ (encT ((gX xs i).1.key))) ++ (enc ((gX xs i).1.kind.toNat))) ++ (enc ((gX xs i).1.many))) ++ (enc (zig ((gX xs i).1.sum)))) ++ (enc (zig ((gX xs i).1.least)))).length) cap148)] <| Zdn <| Zsg <| Zr 2 [(62, Pt g46 5), (61, .slice A147 ((((((q ++ (encT ((gX xs i).1.key))) ++ (enc ((gX xs i).1.kind.toNat))) ++ (enc ((gX xs i).1.many))) ++ (enc (zig ((gX xs i).1.sum)))) ++ (enc (zig ((gX xs i).1.least)))).length) cap148)] <| Zl 63 (J ((gX xs i).1.most)) (HB53.s 5) <| Zc 64 (Wire.whole_m ((gX xs i).1.most) _ (by omega)) ?_
  rintro _ w149 ⟨b151, cap152, rfl, HR153, F150, le154⟩
  have HO144 := HO144.keep F150 dj0
  refine ⟨_, rfl, trivial, Zax (m := ((enc (zig ((gX xs i).1.most))).length)) (ys := List.map cB (enc (zig ((gX xs i).1.most)))) 65 Wire.et_b HO144 (by rw [List.length_map] <;> first | rfl | omega | (simp <;> omega)) (by have := HR153.src; rw [List.length_map, (rfl : List.length (enc (zig ((gX xs i).1.most))) = _)] at this; exact this) (cB_len _) (cB_one _) (by rw [List.length_map]; first | omega | (simp only [List.length_nil]; omega) | (simp only [List.length_append, List.length_cons, List.length_nil]; omega)) (by rw [List.length_map]; first | omega | (simp only [List.length_nil]; omega) | (simp only [List.length_append, List.length_cons, List.length_nil]; omega)) ?_⟩
  intro v160 w161 G162 HO163 F164 hg165
  rw [← List.map_append] at HO163
  have HB4 := (HB4.keep F145 nin_g1_G124).k F150
  have nin_g1_G162 := grow_nin hg165 nin_g1_G143 HB4.lt
  have HB53 := HB53.k F150
  have nin_g46_G162 := grow_nin hg165 nin_g46_G143 HB53.lt
  have HL := (HL.keep F145 (dj_symm dj_G124_F)).keep F150 dj0
  have dj_G162_F := grow_dj hg165 dj_G143_F HL.lt
  have HE := (HE.keep F145 (dj_symm dj_G124_FE)).keep F150 dj0
  have dj_G162_FE := grow_dj hg165 dj_G143_FE HE.lt
  have HVR := (HVR.keep F145 (dj_symm dj_G124_FR)).keep F150 dj0
  have dj_G162_FR := grow_dj hg165 dj_G143_FR HVR.lt
  have HA := (HA.step F145 (inF ge_HA_G124)).step0 F150
  have ge_HA_G162 := grow_ge hg165 ge_HA_G143 HA.size
  obtain ⟨A166, cap167, rfl⟩ := HO163.sliceN (List.length_map _)
  have := @List.length_append _ (((((q ++ (encT ((gX xs i).1.key))) ++ (enc ((gX xs i).1.kind.toNat))) ++ (enc ((gX xs i).1.many))) ++ (enc (zig ((gX xs i).1.sum)))) ++ (enc (zig ((gX xs i).1.least)))) (enc (zig ((gX xs i).1.most)))
  have HB53 := HB53.keep F164 nin_g46_G143
  refine Zr 1 [(3, .slice A166 (((((((q ++ (encT ((gX xs i).1.key))) ++ (enc ((gX xs i).1.kind.toNat))) ++ (enc ((gX xs i).1.many))) ++ (enc (zig ((gX xs i).1.sum)))) ++ (enc (zig ((gX xs i).1.least)))) ++ (enc (zig ((gX xs i).1.most)))).length) cap167)] <| Zdn <| Zq <| Zsg <| Zr 1 [(66, Pt g46 6)] <| Zl 67 (.bool ((gX xs i).1.over)) (HB53.s 6) <| WO.topB ((gX xs i).1.over) ?_ ?_
  ·
   intro h168
   refine Zdn <| ZT <| WE.region <| Zr 1 [(68, .slice A166 (((((((q ++ (encT ((gX xs i).1.key))) ++ (enc ((gX xs i).1.kind.toNat))) ++ (enc ((gX xs i).1.many))) ++ (enc (zig ((gX xs i).1.sum)))) ++ (enc (zig ((gX xs i).1.least)))) ++ (enc (zig ((gX xs i).1.most)))).length) cap167)] <| Zb 69 #[.int .u8 1] 5 (fun g => .slice (some ⟨g, 0, none⟩) 1 1) ?_
   intro g169 w170 HB172 F171 le173 _
   have nin_g169_G162 := new_nin HO163.lt le173
   have HO163 := HO163.keep F171 dj0
   refine Zax (m := 1) (ys := List.map cB ([(1 : UInt8)])) 70 Wire.et_b HO163 (by rw [List.length_map] <;> first | rfl | omega | (simp <;> omega)) (RowB.src (RowB.of_blk (n := 1) HB172 (List.map cB [(1 : UInt8)]) rfl rfl (cB_len _) (cB_one _) (by omega))) (cB_len _) (cB_one _) (by rw [List.length_map]; first | omega | (simp only [List.length_nil]; omega) | (simp only [List.length_append, List.length_cons, List.length_nil]; omega)) (by rw [List.length_map]; first | omega | (simp only [List.length_nil]; omega) | (simp only [List.length_append, List.length_cons, List.length_nil]; omega)) ?_
   intro v179 w180 G181 HO182 F183 hg184
   rw [← List.map_append] at HO182
   have HB4 := (HB4.keep F164 nin_g1_G143).k F171
   have nin_g1_G181 := grow_nin hg184 nin_g1_G162 HB4.lt
   have HB53 := HB53.k F171
   have nin_g46_G181 := grow_nin hg184 nin_g46_G162 HB53.lt
   have nin_g169_G181 := grow_nin hg184 nin_g169_G162 HB172.lt
   have HL := (HL.keep F164 (dj_symm dj_G143_F)).keep F171 dj0
   have dj_G181_F := grow_dj hg184 dj_G162_F HL.lt
   have HE := (HE.keep F164 (dj_symm dj_G143_FE)).keep F171 dj0
   have dj_G181_FE := grow_dj hg184 dj_G162_FE HE.lt
   have HVR := (HVR.keep F164 (dj_symm dj_G143_FR)).keep F171 dj0
   have dj_G181_FR := grow_dj hg184 dj_G162_FR HVR.lt
   have HA := (HA.step F164 (inF ge_HA_G143)).step0 F171
   have ge_HA_G181 := grow_ge hg184 ge_HA_G162 HA.size
   obtain ⟨A185, cap186, rfl⟩ := HO182.sliceN (List.length_map _)
   have := @List.length_append _ ((((((q ++ (encT ((gX xs i).1.key))) ++ (enc ((gX xs i).1.kind.toNat))) ++ (enc ((gX xs i).1.many))) ++ (enc (zig ((gX xs i).1.sum)))) ++ (enc (zig ((gX xs i).1.least)))) ++ (enc (zig ((gX xs i).1.most)))) ([(1 : UInt8)])
   have HB53 := HB53.keep F183 nin_g46_G162
   refine Zr 1 [(3, .slice A185 ((((((((q ++ (encT ((gX xs i).1.key))) ++ (enc ((gX xs i).1.kind.toNat))) ++ (enc ((gX xs i).1.many))) ++ (enc (zig ((gX xs i).1.sum)))) ++ (enc (zig ((gX xs i).1.least)))) ++ (enc (zig ((gX xs i).1.most)))) ++ [(1 : UInt8)]).length) cap186)] <| Zdn <| Zsg <| Zr 2 [(75, Pt g46 7), (74, .slice A185 ((((((((q ++ (encT ((gX xs i).1.key))) ++ (enc ((gX xs i).1.kind.toNat))) ++ (enc ((gX xs i).1.many))) ++ (enc (zig ((gX xs i).1.sum)))) ++ (enc (zig ((gX xs i).1.least)))) ++ (enc (zig ((gX xs i).1.most)))) ++ [(1 : UInt8)]).length) cap186)] <| Zl 76 (.slice ((gX xs i).2.1) ((gX xs i).1.bk.length) ((gX xs i).2.2)) (HB53.s 7) <| Zr 1 [(77, J ((gX xs i).1.bk.length : Int))] <| Zwur 78 ((gX xs i).1.bk.length : Int) ((gX xs i).1.bk.length : Int) <| Zc 79 (Wire.num_m ((gX xs i).1.bk.length) _ (by omega)) ?_
   rintro _ w187 ⟨b189, cap190, rfl, HR191, F188, le192⟩
   have HO182 := HO182.keep F188 dj0
   refine ⟨_, rfl, trivial, Zax (m := ((enc ((gX xs i).1.bk.length)).length)) (ys := List.map cB (enc ((gX xs i).1.bk.length))) 80 Wire.et_b HO182 (by rw [List.length_map] <;> first | rfl | omega | (simp <;> omega)) (by have := HR191.src; rw [List.length_map, (rfl : List.length (enc ((gX xs i).1.bk.length)) = _)] at this; exact this) (cB_len _) (cB_one _) (by rw [List.length_map]; first | omega | (simp only [List.length_nil]; omega) | (simp only [List.length_append, List.length_cons, List.length_nil]; omega)) (by rw [List.length_map]; first | omega | (simp only [List.length_nil]; omega) | (simp only [List.length_append, List.length_cons, List.length_nil]; omega)) ?_⟩
   intro v198 w199 G200 HO201 F202 hg203
   rw [← List.map_append] at HO201
   have HB4 := (HB4.keep F183 nin_g1_G162).k F188
   have nin_g1_G200 := grow_nin hg203 nin_g1_G181 HB4.lt
   have HB53 := HB53.k F188
   have nin_g46_G200 := grow_nin hg203 nin_g46_G181 HB53.lt
   have HB172 := (HB172.keep F183 nin_g169_G162).k F188
   have nin_g169_G200 := grow_nin hg203 nin_g169_G181 HB172.lt
   have HL := (HL.keep F183 (dj_symm dj_G162_F)).keep F188 dj0
   have dj_G200_F := grow_dj hg203 dj_G181_F HL.lt
   have HE := (HE.keep F183 (dj_symm dj_G162_FE)).keep F188 dj0
   have dj_G200_FE := grow_dj hg203 dj_G181_FE HE.lt
   have HVR := (HVR.keep F183 (dj_symm dj_G162_FR)).keep F188 dj0
   have dj_G200_FR := grow_dj hg203 dj_G181_FR HVR.lt
   have HA := (HA.step F183 (inF ge_HA_G162)).step0 F188
   have ge_HA_G200 := grow_ge hg203 ge_HA_G181 HA.size
   obtain ⟨A204, cap205, rfl⟩ := HO201.sliceN (List.length_map _)
   have := @List.length_append _ (((((((q ++ (encT ((gX xs i).1.key))) ++ (enc ((gX xs i).1.kind.toNat))) ++ (enc ((gX xs i).1.many))) ++ (enc (zig ((gX xs i).1.sum)))) ++ (enc (zig ((gX xs i).1.least)))) ++ (enc (zig ((gX xs i).1.most)))) ++ [(1 : UInt8)]) (enc ((gX xs i).1.bk.length))
   refine Zr 1 [(3, .slice A204 (((((((((q ++ (encT ((gX xs i).1.key))) ++ (enc ((gX xs i).1.kind.toNat))) ++ (enc ((gX xs i).1.many))) ++ (enc (zig ((gX xs i).1.sum)))) ++ (enc (zig ((gX xs i).1.least)))) ++ (enc (zig ((gX xs i).1.most)))) ++ [(1 : UInt8)]) ++ (enc ((gX xs i).1.bk.length))).length) cap205)] <| Zdn <| Zsg <| Zr 1 [(6, J 0)] <| Zdn <| WE.block <| WE.loop (α := Nat × List Nat × Option Addr × Nat × List UInt8) (E := fun ⟨j, FP, Ap, cp2, q2⟩ => [(1, Pt g1 0), (2, .slice none 0 0), (3, .slice Ap q2.length cp2), (4, J (i : Int)), (5, Pt g46 0), (6, J (j : Int))]) (I := fun ⟨j, FP, Ap, cp2, q2⟩ wr => j ≤ (gX xs i).1.bk.length ∧ q2 = ((((((((q ++ (encT ((gX xs i).1.key))) ++ (enc ((gX xs i).1.kind.toNat))) ++ (enc ((gX xs i).1.many))) ++ (enc (zig ((gX xs i).1.sum)))) ++ (enc (zig ((gX xs i).1.least)))) ++ (enc (zig ((gX xs i).1.most)))) ++ [(1 : UInt8)]) ++ (enc ((gX xs i).1.bk.length))) ++ encN ((gX xs i).1.bk.take j) ∧ Blk wr g1 #[J (sq : Int), J (st : Int), .slice A n cp] 24 ∧ Blk wr g46 #[.string (str (gX xs i).1.key), J ((gX xs i).1.kind), .int .u64 ((gX xs i).1.many : Int), J ((gX xs i).1.sum), J ((gX xs i).1.least), J ((gX xs i).1.most), .bool ((gX xs i).1.over), .slice ((gX xs i).2.1) ((gX xs i).1.bk.length) ((gX xs i).2.2)] 54 ∧ Blk wr g169 #[.int .u8 1] 5 ∧ VX cW 8 wr F A xs ∧ EV wr FE xs ∧ VX cN 1 wr FR ((gX xs i).2.1) ((gX xs i).1.bk) ∧ OwnX 5 1 wr FP (.slice Ap q2.length cp2) (List.map cB q2) ∧ g1 ∉ FP ∧ g46 ∉ FP ∧ g169 ∉ FP ∧ (∀ y ∈ FP, y ∉ F) ∧ (∀ y ∈ FP, y ∉ FE) ∧ (∀ y ∈ FP, y ∉ FR) ∧ (∀ y ∈ FP, (World.heap w).size ≤ y) ∧ Fr [] w wr) (m := fun ⟨j, FP, Ap, cp2, q2⟩ => (gX xs i).1.bk.length - j) (0, G200, A204, cap205, ((((((((q ++ (encT ((gX xs i).1.key))) ++ (enc ((gX xs i).1.kind.toNat))) ++ (enc ((gX xs i).1.many))) ++ (enc (zig ((gX xs i).1.sum)))) ++ (enc (zig ((gX xs i).1.least)))) ++ (enc (zig ((gX xs i).1.most)))) ++ [(1 : UInt8)]) ++ (enc ((gX xs i).1.bk.length)))) [1, 2, 3, 4, 5, 6] (by kernel_rfl) ?_ ?_
   ·
    have HB4 := HB4.keep F202 nin_g1_G181
    have HB53 := HB53.keep F202 nin_g46_G181
    have HB172 := HB172.keep F202 nin_g169_G181
    have HL := HL.keep F202 (dj_symm dj_G181_F)
    have HE := HE.keep F202 (dj_symm dj_G181_FE)
    have HVR := HVR.keep F202 (dj_symm dj_G181_FR)
    have HA := HA.step F202 (inF ge_HA_G181)
    exact ⟨by omega, by simp [encN], HB4, HB53, HB172, HL, HE, HVR, HO201, nin_g1_G200, nin_g46_G200, nin_g169_G200, dj_G200_F, dj_G200_FE, dj_G200_FR, ge_HA_G200, HA⟩
   rintro ⟨j, FP, Ap, cp2, q2⟩ wr ⟨hj, hq2, HB4, HB53, HB172, HL, HE, HVR, HO_FP, nin_g1_FP, nin_g46_FP, nin_g169_FP, dj_FP_F, dj_FP_FE, dj_FP_FR, ge_HA_FP, HA⟩
   have hcl_ := encN_take hr12 j
   have hqlen2 := congrArg List.length hq2
   simp only [List.length_append, List.length_cons, List.length_nil] at hqlen2
   refine Zq <| Zsg <| Zr 2 [(82, Pt g46 7), (81, J (j : Int))] <| Zl 83 (.slice ((gX xs i).2.1) ((gX xs i).1.bk.length) ((gX xs i).2.2)) (HB53.s 7) <| Zr 1 [(84, J ((gX xs i).1.bk.length : Int))] <| ZoP 85 (((j : Int) : Int) < ((gX xs i).1.bk.length : Int)) ?_ ?_
   ·
    intro h206
    refine Zdn <| ZT <| Zk <| Zq <| WE.block ?_
    have hbj_ := hr12 _ (gN_mem (q := (gX xs i).1.bk) (i := j) (by omega))
    have hbl2_ := enc_len10 hbj_
    refine WE.region <| Zr 2 [(89, Pt g46 7), (88, .slice Ap q2.length cp2)] <| Zl 90 (.slice ((gX xs i).2.1) ((gX xs i).1.bk.length) ((gX xs i).2.2)) (HB53.s 7) <| Zr 1 [(91, J (j : Int))] ?_
    obtain ⟨ad207, hA208⟩ := HVR.addr (i := j) (by have := (rfl : List.length (gX xs i).1.bk = _); omega)
    refine Zio 92 ((gX xs i).1.bk.length) 1 j (j : Int) hA208 rfl (by omega) <| Zl 93 (.int .u64 ((gN ((gX xs i).1.bk) j) : Int)) (same (HVR.at0 hA208 (gN_some ((gX xs i).1.bk) j (by have := (rfl : List.length (gX xs i).1.bk = _); omega)) (by kernel_rfl))) <| Zc 94 (Wire.num_m (gN ((gX xs i).1.bk) j) _ (by omega)) ?_
    rintro _ w209 ⟨b211, cap212, rfl, HR213, F210, le214⟩
    have HO_FP := HO_FP.keep F210 dj0
    refine ⟨_, rfl, trivial, Zax (m := ((enc (gN ((gX xs i).1.bk) j)).length)) (ys := List.map cB (enc (gN ((gX xs i).1.bk) j))) 95 Wire.et_b HO_FP (by rw [List.length_map] <;> first | rfl | omega | (simp <;> omega)) (by have := HR213.src; rw [List.length_map, (rfl : List.length (enc (gN ((gX xs i).1.bk) j)) = _)] at this; exact this) (cB_len _) (cB_one _) (by rw [List.length_map]; first | omega | (simp only [List.length_nil]; omega) | (simp only [List.length_append, List.length_cons, List.length_nil]; omega)) (by rw [List.length_map]; first | omega | (simp only [List.length_nil]; omega) | (simp only [List.length_append, List.length_cons, List.length_nil]; omega)) ?_⟩
    intro v220 w221 G222 HO223 F224 hg225
    rw [← List.map_append] at HO223
    have HB4 := HB4.k F210
    have nin_g1_G222 := grow_nin hg225 nin_g1_FP HB4.lt
    have HB53 := HB53.k F210
    have nin_g46_G222 := grow_nin hg225 nin_g46_FP HB53.lt
    have HB172 := HB172.k F210
    have nin_g169_G222 := grow_nin hg225 nin_g169_FP HB172.lt
    have HL := HL.keep F210 dj0
    have dj_G222_F := grow_dj hg225 dj_FP_F HL.lt
    have HE := HE.keep F210 dj0
    have dj_G222_FE := grow_dj hg225 dj_FP_FE HE.lt
    have HVR := HVR.keep F210 dj0
    have dj_G222_FR := grow_dj hg225 dj_FP_FR HVR.lt
    have HA := HA.step0 F210
    have ge_HA_G222 := grow_ge hg225 ge_HA_FP HA.size
    obtain ⟨A226, cap227, rfl⟩ := HO223.sliceN (List.length_map _)
    have := @List.length_append _ q2 (enc (gN ((gX xs i).1.bk) j))
    refine Zr 1 [(3, .slice A226 ((q2 ++ (enc (gN ((gX xs i).1.bk) j))).length) cap227)] <| Zd <| WQ.blkN <| Zn <| WE.region <| Zr 1 [(86, J (j : Int))] <| Zw 87 ((j : Int) + 1) ((j + 1 : Nat) : Int) <| Zr 1 [(6, J ((j + 1 : Nat) : Int))] <| Zd <| WQ.round ?_
    intro a_ ha_
    refine ⟨(j + 1, G222, A226, cap227, (q2 ++ (enc (gN ((gX xs i).1.bk) j)))), ?_, ha_.keep [1, 2, 3, 4, 5, 6] (by kernel_rfl), ?_⟩
    ·
     show (gX xs i).1.bk.length - (j + 1) < (gX xs i).1.bk.length - j; omega
    ·
     have HB4 := HB4.keep F224 nin_g1_FP
     have HB53 := HB53.keep F224 nin_g46_FP
     have HB172 := HB172.keep F224 nin_g169_FP
     have HL := HL.keep F224 (dj_symm dj_FP_F)
     have HE := HE.keep F224 (dj_symm dj_FP_FE)
     have HVR := HVR.keep F224 (dj_symm dj_FP_FR)
     have HA := HA.step F224 (inF ge_HA_FP)
     exact ⟨by omega, by rw [hq2, List.append_assoc, encN_snocG (by omega)], HB4, HB53, HB172, HL, HE, HVR, HO223, nin_g1_G222, nin_g46_G222, nin_g169_G222, dj_G222_F, dj_G222_FE, dj_G222_FR, ge_HA_G222, HA⟩
   intro h206
   refine Zdn <| ZF <| WE.exit <| WQ.thenE <| WQ.thenE <| WQ.blkE <| WQ.blkN <| Zn ?_
   have hq2_ : q2 = preB sq st n xs (i + 1) := by rw [hq2, List.take_of_length_le (by omega), hq, ← preB_snoc (by omega)]; unfold encR ob; rw [h168]; simp only [List.append_assoc, enc_0, enc_1, if_true, Bool.false_eq_true, if_false]
   refine WE.region <| Zr 1 [(28, J (i : Int))] <| Zw 29 ((i : Int) + 1) ((i + 1 : Nat) : Int) <| Zr 1 [(4, J ((i + 1 : Nat) : Int))] <| Zd <| WQ.round ?_
   intro a_ ha_
   refine ⟨(i + 1, FP, Ap, cp2, q2), ?_, ha_.keep [1, 2, 3, 4] (by kernel_rfl), ?_⟩
   ·
    show n - (i + 1) < n - i; omega
   ·
    exact ⟨by omega, hq2_, HB4, HL, HE, HO_FP, nin_g1_FP, dj_FP_F, dj_FP_FE, ge_HA_FP, HA⟩
  intro h168
  refine Zdn <| ZF <| WE.region <| Zr 1 [(71, .slice A166 (((((((q ++ (encT ((gX xs i).1.key))) ++ (enc ((gX xs i).1.kind.toNat))) ++ (enc ((gX xs i).1.many))) ++ (enc (zig ((gX xs i).1.sum)))) ++ (enc (zig ((gX xs i).1.least)))) ++ (enc (zig ((gX xs i).1.most)))).length) cap167)] <| Zb 72 #[.int .u8 0] 5 (fun g => .slice (some ⟨g, 0, none⟩) 1 1) ?_
  intro g228 w229 HB231 F230 le232 _
  have nin_g228_G162 := new_nin HO163.lt le232
  have HO163 := HO163.keep F230 dj0
  refine Zax (m := 1) (ys := List.map cB ([(0 : UInt8)])) 73 Wire.et_b HO163 (by rw [List.length_map] <;> first | rfl | omega | (simp <;> omega)) (RowB.src (RowB.of_blk (n := 1) HB231 (List.map cB [(0 : UInt8)]) rfl rfl (cB_len _) (cB_one _) (by omega))) (cB_len _) (cB_one _) (by rw [List.length_map]; first | omega | (simp only [List.length_nil]; omega) | (simp only [List.length_append, List.length_cons, List.length_nil]; omega)) (by rw [List.length_map]; first | omega | (simp only [List.length_nil]; omega) | (simp only [List.length_append, List.length_cons, List.length_nil]; omega)) ?_
  intro v238 w239 G240 HO241 F242 hg243
  rw [← List.map_append] at HO241
  have HB4 := (HB4.keep F164 nin_g1_G143).k F230
  have nin_g1_G240 := grow_nin hg243 nin_g1_G162 HB4.lt
  have HB53 := HB53.k F230
  have nin_g46_G240 := grow_nin hg243 nin_g46_G162 HB53.lt
  have nin_g228_G240 := grow_nin hg243 nin_g228_G162 HB231.lt
  have HL := (HL.keep F164 (dj_symm dj_G143_F)).keep F230 dj0
  have dj_G240_F := grow_dj hg243 dj_G162_F HL.lt
  have HE := (HE.keep F164 (dj_symm dj_G143_FE)).keep F230 dj0
  have dj_G240_FE := grow_dj hg243 dj_G162_FE HE.lt
  have HVR := (HVR.keep F164 (dj_symm dj_G143_FR)).keep F230 dj0
  have dj_G240_FR := grow_dj hg243 dj_G162_FR HVR.lt
  have HA := (HA.step F164 (inF ge_HA_G143)).step0 F230
  have ge_HA_G240 := grow_ge hg243 ge_HA_G162 HA.size
  obtain ⟨A244, cap245, rfl⟩ := HO241.sliceN (List.length_map _)
  have := @List.length_append _ ((((((q ++ (encT ((gX xs i).1.key))) ++ (enc ((gX xs i).1.kind.toNat))) ++ (enc ((gX xs i).1.many))) ++ (enc (zig ((gX xs i).1.sum)))) ++ (enc (zig ((gX xs i).1.least)))) ++ (enc (zig ((gX xs i).1.most)))) ([(0 : UInt8)])
  have HB53 := HB53.keep F242 nin_g46_G162
  refine Zr 1 [(3, .slice A244 ((((((((q ++ (encT ((gX xs i).1.key))) ++ (enc ((gX xs i).1.kind.toNat))) ++ (enc ((gX xs i).1.many))) ++ (enc (zig ((gX xs i).1.sum)))) ++ (enc (zig ((gX xs i).1.least)))) ++ (enc (zig ((gX xs i).1.most)))) ++ [(0 : UInt8)]).length) cap245)] <| Zdn <| Zsg <| Zr 2 [(75, Pt g46 7), (74, .slice A244 ((((((((q ++ (encT ((gX xs i).1.key))) ++ (enc ((gX xs i).1.kind.toNat))) ++ (enc ((gX xs i).1.many))) ++ (enc (zig ((gX xs i).1.sum)))) ++ (enc (zig ((gX xs i).1.least)))) ++ (enc (zig ((gX xs i).1.most)))) ++ [(0 : UInt8)]).length) cap245)] <| Zl 76 (.slice ((gX xs i).2.1) ((gX xs i).1.bk.length) ((gX xs i).2.2)) (HB53.s 7) <| Zr 1 [(77, J ((gX xs i).1.bk.length : Int))] <| Zwur 78 ((gX xs i).1.bk.length : Int) ((gX xs i).1.bk.length : Int) <| Zc 79 (Wire.num_m ((gX xs i).1.bk.length) _ (by omega)) ?_
  rintro _ w246 ⟨b248, cap249, rfl, HR250, F247, le251⟩
  have HO241 := HO241.keep F247 dj0
  refine ⟨_, rfl, trivial, Zax (m := ((enc ((gX xs i).1.bk.length)).length)) (ys := List.map cB (enc ((gX xs i).1.bk.length))) 80 Wire.et_b HO241 (by rw [List.length_map] <;> first | rfl | omega | (simp <;> omega)) (by have := HR250.src; rw [List.length_map, (rfl : List.length (enc ((gX xs i).1.bk.length)) = _)] at this; exact this) (cB_len _) (cB_one _) (by rw [List.length_map]; first | omega | (simp only [List.length_nil]; omega) | (simp only [List.length_append, List.length_cons, List.length_nil]; omega)) (by rw [List.length_map]; first | omega | (simp only [List.length_nil]; omega) | (simp only [List.length_append, List.length_cons, List.length_nil]; omega)) ?_⟩
  intro v257 w258 G259 HO260 F261 hg262
  rw [← List.map_append] at HO260
  have HB4 := (HB4.keep F242 nin_g1_G162).k F247
  have nin_g1_G259 := grow_nin hg262 nin_g1_G240 HB4.lt
  have HB53 := HB53.k F247
  have nin_g46_G259 := grow_nin hg262 nin_g46_G240 HB53.lt
  have HB231 := (HB231.keep F242 nin_g228_G162).k F247
  have nin_g228_G259 := grow_nin hg262 nin_g228_G240 HB231.lt
  have HL := (HL.keep F242 (dj_symm dj_G162_F)).keep F247 dj0
  have dj_G259_F := grow_dj hg262 dj_G240_F HL.lt
  have HE := (HE.keep F242 (dj_symm dj_G162_FE)).keep F247 dj0
  have dj_G259_FE := grow_dj hg262 dj_G240_FE HE.lt
  have HVR := (HVR.keep F242 (dj_symm dj_G162_FR)).keep F247 dj0
  have dj_G259_FR := grow_dj hg262 dj_G240_FR HVR.lt
  have HA := (HA.step F242 (inF ge_HA_G162)).step0 F247
  have ge_HA_G259 := grow_ge hg262 ge_HA_G240 HA.size
  obtain ⟨A263, cap264, rfl⟩ := HO260.sliceN (List.length_map _)
  have := @List.length_append _ (((((((q ++ (encT ((gX xs i).1.key))) ++ (enc ((gX xs i).1.kind.toNat))) ++ (enc ((gX xs i).1.many))) ++ (enc (zig ((gX xs i).1.sum)))) ++ (enc (zig ((gX xs i).1.least)))) ++ (enc (zig ((gX xs i).1.most)))) ++ [(0 : UInt8)]) (enc ((gX xs i).1.bk.length))
  refine Zr 1 [(3, .slice A263 (((((((((q ++ (encT ((gX xs i).1.key))) ++ (enc ((gX xs i).1.kind.toNat))) ++ (enc ((gX xs i).1.many))) ++ (enc (zig ((gX xs i).1.sum)))) ++ (enc (zig ((gX xs i).1.least)))) ++ (enc (zig ((gX xs i).1.most)))) ++ [(0 : UInt8)]) ++ (enc ((gX xs i).1.bk.length))).length) cap264)] <| Zdn <| Zsg <| Zr 1 [(6, J 0)] <| Zdn <| WE.block <| WE.loop (α := Nat × List Nat × Option Addr × Nat × List UInt8) (E := fun ⟨j, FP, Ap, cp2, q2⟩ => [(1, Pt g1 0), (2, .slice none 0 0), (3, .slice Ap q2.length cp2), (4, J (i : Int)), (5, Pt g46 0), (6, J (j : Int))]) (I := fun ⟨j, FP, Ap, cp2, q2⟩ wr => j ≤ (gX xs i).1.bk.length ∧ q2 = ((((((((q ++ (encT ((gX xs i).1.key))) ++ (enc ((gX xs i).1.kind.toNat))) ++ (enc ((gX xs i).1.many))) ++ (enc (zig ((gX xs i).1.sum)))) ++ (enc (zig ((gX xs i).1.least)))) ++ (enc (zig ((gX xs i).1.most)))) ++ [(0 : UInt8)]) ++ (enc ((gX xs i).1.bk.length))) ++ encN ((gX xs i).1.bk.take j) ∧ Blk wr g1 #[J (sq : Int), J (st : Int), .slice A n cp] 24 ∧ Blk wr g46 #[.string (str (gX xs i).1.key), J ((gX xs i).1.kind), .int .u64 ((gX xs i).1.many : Int), J ((gX xs i).1.sum), J ((gX xs i).1.least), J ((gX xs i).1.most), .bool ((gX xs i).1.over), .slice ((gX xs i).2.1) ((gX xs i).1.bk.length) ((gX xs i).2.2)] 54 ∧ Blk wr g228 #[.int .u8 0] 5 ∧ VX cW 8 wr F A xs ∧ EV wr FE xs ∧ VX cN 1 wr FR ((gX xs i).2.1) ((gX xs i).1.bk) ∧ OwnX 5 1 wr FP (.slice Ap q2.length cp2) (List.map cB q2) ∧ g1 ∉ FP ∧ g46 ∉ FP ∧ g228 ∉ FP ∧ (∀ y ∈ FP, y ∉ F) ∧ (∀ y ∈ FP, y ∉ FE) ∧ (∀ y ∈ FP, y ∉ FR) ∧ (∀ y ∈ FP, (World.heap w).size ≤ y) ∧ Fr [] w wr) (m := fun ⟨j, FP, Ap, cp2, q2⟩ => (gX xs i).1.bk.length - j) (0, G259, A263, cap264, ((((((((q ++ (encT ((gX xs i).1.key))) ++ (enc ((gX xs i).1.kind.toNat))) ++ (enc ((gX xs i).1.many))) ++ (enc (zig ((gX xs i).1.sum)))) ++ (enc (zig ((gX xs i).1.least)))) ++ (enc (zig ((gX xs i).1.most)))) ++ [(0 : UInt8)]) ++ (enc ((gX xs i).1.bk.length)))) [1, 2, 3, 4, 5, 6] (by kernel_rfl) ?_ ?_
  ·
   have HB4 := HB4.keep F261 nin_g1_G240
   have HB53 := HB53.keep F261 nin_g46_G240
   have HB231 := HB231.keep F261 nin_g228_G240
   have HL := HL.keep F261 (dj_symm dj_G240_F)
   have HE := HE.keep F261 (dj_symm dj_G240_FE)
   have HVR := HVR.keep F261 (dj_symm dj_G240_FR)
   have HA := HA.step F261 (inF ge_HA_G240)
   exact ⟨by omega, by simp [encN], HB4, HB53, HB231, HL, HE, HVR, HO260, nin_g1_G259, nin_g46_G259, nin_g228_G259, dj_G259_F, dj_G259_FE, dj_G259_FR, ge_HA_G259, HA⟩
  rintro ⟨j, FP, Ap, cp2, q2⟩ wr ⟨hj, hq2, HB4, HB53, HB231, HL, HE, HVR, HO_FP, nin_g1_FP, nin_g46_FP, nin_g228_FP, dj_FP_F, dj_FP_FE, dj_FP_FR, ge_HA_FP, HA⟩
  have hcl_ := encN_take hr12 j
  have hqlen2 := congrArg List.length hq2
  simp only [List.length_append, List.length_cons, List.length_nil] at hqlen2
  refine Zq <| Zsg <| Zr 2 [(82, Pt g46 7), (81, J (j : Int))] <| Zl 83 (.slice ((gX xs i).2.1) ((gX xs i).1.bk.length) ((gX xs i).2.2)) (HB53.s 7) <| Zr 1 [(84, J ((gX xs i).1.bk.length : Int))] <| ZoP 85 (((j : Int) : Int) < ((gX xs i).1.bk.length : Int)) ?_ ?_
  ·
   intro h265
   refine Zdn <| ZT <| Zk <| Zq <| WE.block ?_
   have hbj_ := hr12 _ (gN_mem (q := (gX xs i).1.bk) (i := j) (by omega))
   have hbl2_ := enc_len10 hbj_
   refine WE.region <| Zr 2 [(89, Pt g46 7), (88, .slice Ap q2.length cp2)] <| Zl 90 (.slice ((gX xs i).2.1) ((gX xs i).1.bk.length) ((gX xs i).2.2)) (HB53.s 7) <| Zr 1 [(91, J (j : Int))] ?_
   obtain ⟨ad266, hA267⟩ := HVR.addr (i := j) (by have := (rfl : List.length (gX xs i).1.bk = _); omega)
   refine Zio 92 ((gX xs i).1.bk.length) 1 j (j : Int) hA267 rfl (by omega) <| Zl 93 (.int .u64 ((gN ((gX xs i).1.bk) j) : Int)) (same (HVR.at0 hA267 (gN_some ((gX xs i).1.bk) j (by have := (rfl : List.length (gX xs i).1.bk = _); omega)) (by kernel_rfl))) <| Zc 94 (Wire.num_m (gN ((gX xs i).1.bk) j) _ (by omega)) ?_
   rintro _ w268 ⟨b270, cap271, rfl, HR272, F269, le273⟩
   have HO_FP := HO_FP.keep F269 dj0
   refine ⟨_, rfl, trivial, Zax (m := ((enc (gN ((gX xs i).1.bk) j)).length)) (ys := List.map cB (enc (gN ((gX xs i).1.bk) j))) 95 Wire.et_b HO_FP (by rw [List.length_map] <;> first | rfl | omega | (simp <;> omega)) (by have := HR272.src; rw [List.length_map, (rfl : List.length (enc (gN ((gX xs i).1.bk) j)) = _)] at this; exact this) (cB_len _) (cB_one _) (by rw [List.length_map]; first | omega | (simp only [List.length_nil]; omega) | (simp only [List.length_append, List.length_cons, List.length_nil]; omega)) (by rw [List.length_map]; first | omega | (simp only [List.length_nil]; omega) | (simp only [List.length_append, List.length_cons, List.length_nil]; omega)) ?_⟩
   intro v279 w280 G281 HO282 F283 hg284
   rw [← List.map_append] at HO282
   have HB4 := HB4.k F269
   have nin_g1_G281 := grow_nin hg284 nin_g1_FP HB4.lt
   have HB53 := HB53.k F269
   have nin_g46_G281 := grow_nin hg284 nin_g46_FP HB53.lt
   have HB231 := HB231.k F269
   have nin_g228_G281 := grow_nin hg284 nin_g228_FP HB231.lt
   have HL := HL.keep F269 dj0
   have dj_G281_F := grow_dj hg284 dj_FP_F HL.lt
   have HE := HE.keep F269 dj0
   have dj_G281_FE := grow_dj hg284 dj_FP_FE HE.lt
   have HVR := HVR.keep F269 dj0
   have dj_G281_FR := grow_dj hg284 dj_FP_FR HVR.lt
   have HA := HA.step0 F269
   have ge_HA_G281 := grow_ge hg284 ge_HA_FP HA.size
   obtain ⟨A285, cap286, rfl⟩ := HO282.sliceN (List.length_map _)
   have := @List.length_append _ q2 (enc (gN ((gX xs i).1.bk) j))
   refine Zr 1 [(3, .slice A285 ((q2 ++ (enc (gN ((gX xs i).1.bk) j))).length) cap286)] <| Zd <| WQ.blkN <| Zn <| WE.region <| Zr 1 [(86, J (j : Int))] <| Zw 87 ((j : Int) + 1) ((j + 1 : Nat) : Int) <| Zr 1 [(6, J ((j + 1 : Nat) : Int))] <| Zd <| WQ.round ?_
   intro a_ ha_
   refine ⟨(j + 1, G281, A285, cap286, (q2 ++ (enc (gN ((gX xs i).1.bk) j)))), ?_, ha_.keep [1, 2, 3, 4, 5, 6] (by kernel_rfl), ?_⟩
   ·
    show (gX xs i).1.bk.length - (j + 1) < (gX xs i).1.bk.length - j; omega
   ·
    have HB4 := HB4.keep F283 nin_g1_FP
    have HB53 := HB53.keep F283 nin_g46_FP
    have HB231 := HB231.keep F283 nin_g228_FP
    have HL := HL.keep F283 (dj_symm dj_FP_F)
    have HE := HE.keep F283 (dj_symm dj_FP_FE)
    have HVR := HVR.keep F283 (dj_symm dj_FP_FR)
    have HA := HA.step F283 (inF ge_HA_FP)
    exact ⟨by omega, by rw [hq2, List.append_assoc, encN_snocG (by omega)], HB4, HB53, HB231, HL, HE, HVR, HO282, nin_g1_G281, nin_g46_G281, nin_g228_G281, dj_G281_F, dj_G281_FE, dj_G281_FR, ge_HA_G281, HA⟩
  intro h265
  refine Zdn <| ZF <| WE.exit <| WQ.thenE <| WQ.thenE <| WQ.blkE <| WQ.blkN <| Zn ?_
  have hq2_ : q2 = preB sq st n xs (i + 1) := by rw [hq2, List.take_of_length_le (by omega), hq, ← preB_snoc (by omega)]; unfold encR ob; rw [h168]; simp only [List.append_assoc, enc_0, enc_1, if_true, Bool.false_eq_true, if_false]
  refine WE.region <| Zr 1 [(28, J (i : Int))] <| Zw 29 ((i : Int) + 1) ((i + 1 : Nat) : Int) <| Zr 1 [(4, J ((i + 1 : Nat) : Int))] <| Zd <| WQ.round ?_
  intro a_ ha_
  refine ⟨(i + 1, FP, Ap, cp2, q2), ?_, ha_.keep [1, 2, 3, 4] (by kernel_rfl), ?_⟩
  ·
   show n - (i + 1) < n - i; omega
  ·
   exact ⟨by omega, hq2_, HB4, HL, HE, HO_FP, nin_g1_FP, dj_FP_F, dj_FP_FE, ge_HA_FP, HA⟩
 intro h43
 refine Zdn <| ZF <| WE.exit <| WQ.thenE <| WQ.thenE <| WQ.blkE <| Zn <| Zsg <| Zr 2 [(2, .slice Ao q.length co), (96, .slice Ao q.length co)] <| Zdn <| WE.ret <| ZR (.slice Ao q.length co) ?_
 exact ⟨Ao, co, FO, by rw [show i = n by omega, preB_all hn] at hq; subst hq; exact ⟨rfl, HO_FO, ge_HA_FO, HA⟩⟩
end Go.Proofs.YtdhonbahpcmmnaaGreatDoor.Bat
