/- strings.Builder's writes and its text. -/
import Derived.Test.YtdhonbahpcmmnaaGreatDoorLinePure
import Derived.Test.YtdhonbahpcmmnaaGreatDoorShelf
import Derived.Lib.UnsafeStr
import Derived.Lib.Builder
import Derived.WalkKit
import Derived.Laws.Externs
import Derived.Test.YtdhonbahpcmmnaaGreatDoorEngC
import Derived.Test.YtdhonbahpcmmnaaGreatDoorBatPure
import Derived.Test.YtdhonbahpcmmnaaGreatDoorLineI
section
set_option linter.unusedVariables false
set_option linter.unusedSimpArgs false
namespace Go.Proofs.YtdhonbahpcmmnaaGreatDoor.Build
open Go Go.RowKit Go.Proofs Go.Proofs.YtdhonbahpcmmnaaGreatDoor Go.Proofs.YtdhonbahpcmmnaaGreatDoor.Eng Go.Proofs.YtdhonbahpcmmnaaGreatDoorW.PrintWords
theorem byt : BT Tryz.prog 27 5 9 := ⟨by kernel_rfl, by kernel_rfl, by kernel_rfl⟩
theorem et_b : ET Tryz.prog 27 5 1 1 := by
  obtain ⟨i, h1, h2, h3, h4⟩ := info_parts (P := Tryz.prog) (e := 5) (z := .int .u8 0) (size := 1) (bytes := 1) (by kernel_rfl)
  exact ⟨by kernel_rfl, ⟨i, _, h1, h2, h3, h4, rfl⟩, by decide⟩
theorem hz_b : ∃ i, Tryz.prog.info? 5 = some i ∧ i.zero = some (.int .u8 0) := by
  obtain ⟨i, h1, h2, h3, h4⟩ := info_parts (P := Tryz.prog) (e := 5) (z := .int .u8 0) (size := 1) (bytes := 1) (by kernel_rfl)
  exact ⟨i, h1, h2⟩
set_option maxHeartbeats 1000000 in
set_option maxRecDepth 100000 in
theorem cc_used (b : Nat) (w : World) (h0 : w.cell? ⟨b, 0, none⟩ = some (.pointer (some ⟨b, 0, none⟩))) :
    Calls Tryz.prog 146 #[.pointer (some ⟨b, 0, none⟩)] w fun e w' => e = .returned (.tuple #[]) ∧ w' = w := by
  obtain ⟨j, hj, _⟩ := Option.map_eq_some_iff.1 (show (Tryz.prog.info? 173).map (·.size) = some 2 by kernel_rfl)
  go_enter Tryz.func146, Tryz.ntmps146
  go_wp2
  rw [Lib.run_neq_ptr_same w _ Tryz.underlying171 hj]
  go_wp2
  go_end0
  exact ⟨rfl, rfl⟩
set_option maxHeartbeats 1000000 in
set_option maxRecDepth 100000 in
theorem cc_fresh (b : Nat) (w : World) (h0 : w.cell? ⟨b, 0, none⟩ = some (.pointer none)) (hsh : w.shape? b = some (173, 2)) (hfz : w.frozen? ⟨b, 0, none⟩ = false) :
    Calls Tryz.prog 146 #[.pointer (some ⟨b, 0, none⟩)] w fun e w' => e = .returned (.tuple #[]) ∧ w' = w.setCell ⟨b, 0, none⟩ (.pointer (some ⟨b, 0, none⟩)) := by
  obtain ⟨j, hj, hjs⟩ := Option.map_eq_some_iff.1 (show (Tryz.prog.info? 173).map (·.size) = some 2 by kernel_rfl)
  go_enter Tryz.func146, Tryz.ntmps146
  go_wp2
  rw [Lib.run_to_unsafe w ⟨b, 0, none⟩ Tryz.underlying171 Tryz.underlying212 hj (by rw [hjs]; decide) hsh (Nat.zero_lt_succ 1)]
  simp only [Result.andThen]
  rw [Oper.upon_value]
  go_wp2
  rw [run_callFunc_extern Tryz.func168 (by kernel_rfl) (by kernel_rfl) (by kernel_rfl) (e := Extern.AbiNoEscape.same) (by kernel_rfl)]
  rw [Lib.run_noEscape]
  simp only [Result.andThen]
  rw [Oper.upon_value]
  go_wp2
  rw [Lib.run_from_unsafe w ⟨b, 0, none⟩ Tryz.underlying212 Tryz.underlying171 hj hsh (by kernel_rfl)]
  simp only [Result.andThen]
  rw [Oper.upon_value]
  go_wp2
  go_end0
  exact ⟨rfl, rfl⟩
theorem copyCheck_f (g : Nat) (pa v : Value) (w : World) (HB : Blk w g #[pa, v] 173) (hpa : pa = .pointer none ∨ pa = .pointer (some ⟨g, 0, none⟩)) :
    Calls Tryz.prog 146 #[.pointer (some ⟨g, 0, none⟩)] w fun e w' => e = .returned (.tuple #[]) ∧ Blk w' g #[.pointer (some ⟨g, 0, none⟩), v] 173 ∧ Fr [g] w w' := by
  rcases hpa with rfl | rfl
  · refine (cc_fresh g w (HB.cell 0) (by unfold World.shape?; rw [show w.heap[g]? = _ from HB]; rfl) (HB.frozen 0)).mono fun e w' h => ?_
    obtain ⟨rfl, rfl⟩ := h
    exact ⟨rfl, HB.put 0 _ rfl, (Fr.refl [g] w).set (.inl (by simp)) 0 _⟩
  · refine (cc_used g w (HB.cell 0)).mono fun e w' h => ?_
    obtain ⟨rfl, rfl⟩ := h
    exact ⟨rfl, HB, Fr.refl [g] _⟩
set_option maxRecDepth 100000 in
set_option maxHeartbeats 400000 in
theorem writeString_f (g : Nat) (pa : Value) (A : Option Addr) (cap : Nat) (q s : List UInt8) (F : List Nat) (w : World) (HB : Blk w g #[pa, .slice A q.length cap] 173) (hpa : pa = .pointer none ∨ pa = .pointer (some ⟨g, 0, none⟩)) (HO : OwnX 5 1 w F (.slice A q.length cap) (q.map cB)) (hgF : g ∉ F) (hl : q.length + s.length ≤ 1000000000) :
    Calls Tryz.prog 119 #[.pointer (some ⟨g, 0, none⟩), .string (str s)] w fun e w' => ∃ A' cap' F', e = .returned (.tuple #[.int .i64 (s.length : Int), .nilIface]) ∧ Blk w' g #[.pointer (some ⟨g, 0, none⟩), .slice A' (q ++ s).length cap'] 173 ∧ OwnX 5 1 w' F' (.slice A' (q ++ s).length cap') ((q ++ s).map cB) ∧ Fr (g :: F) w w' ∧ (∀ y ∈ F', y ∈ F ∨ w.heap.size ≤ y) ∧ g ∉ F' := by
 have HA := Fr.refl (g :: F) w
 refine Ze Tryz.func119 _ <| Zsg <| Zr 2 <| Zdn <| Zsg <| Zr 1 <| Zc 7 (copyCheck_f g _ _ _ HB hpa) ?_
 rintro _ w1 ⟨rfl, HB3, F2⟩
 refine ⟨_, rfl, trivial, Zdn <| Zsg <| Zr 4 <| Zl 12 (.slice A q.length cap) (HB3.s 1) <| Zr 1 <| Zas (s := (str s)) (q := q) 14 byt et_b hz_b (HO.keep F2 (djB hgF)) (by simp only [str_size, List.length_append] at *; omega) ?_⟩
 intro v4 w5 G6 HO7 F8 hg9
 have HA := HA.step F2 (inSL (by simp) inS0)
 have hgF_ := fun y hy => (hg9 y hy).imp id (Nat.le_trans HA.size)
 have nin_g_G6 := grow_nin hg9 hgF HB3.lt
 obtain ⟨A10, cap11, rfl⟩ := HO7.sliceN (List.length_map _)
 refine Zr 2 <| Zst g 1 #[Pt g 0, .slice A10 ((q ++ s).length) cap11] (HB3.keep F8 hgF) ?_
 intro w12 HB14 F13 _
 refine Zdn <| Zsg <| Zr 4 <| Zdn <| WE.ret <| ZR (.tuple #[J (s.length : Int), .nilIface]) ?_
 exact ⟨A10, cap11, G6, rfl, HB14, (HO7.keep F13 (djB nin_g_G6)), ((HA.step F8 (fun y hy => .inl (List.mem_cons_of_mem _ hy))).step F13 (inSL (by simp) inS0)), hgF_, nin_g_G6⟩
theorem string_f (g : Nat) (A : Option Addr) (cap : Nat) (q : List UInt8) (F : List Nat) (B0 : Nat) (pa : Value) (w : World) (HB : Blk w g #[pa, .slice A q.length cap] 173) (hpa : pa = .pointer none ∨ pa = .pointer (some ⟨g, 0, none⟩)) (HO : OwnX 5 1 w F (.slice A q.length cap) (q.map cB)) (hgF : g ∉ F) (hB : B0 ≤ w.heap.size) (hg : B0 ≤ g) (hF : ∀ y ∈ F, B0 ≤ y) :
    Calls Tryz.prog 121 #[.pointer (some ⟨g, 0, none⟩)] w fun e w' => e = .returned (.string (str q)) ∧ Below B0 w w' := by
  have hb : Lib.IsBuilder 173 5 B0 g (Lib.byteCells q) w := by
    have hlen : (Lib.byteCells q).length = q.length := by simp [Lib.byteCells]
    have hcs : (q.map cB).flatten = Lib.byteCells q := by
      rw [cB_flat]
      rfl
    have hat : Lib.BuilderAt 173 5 B0 g pa (Lib.byteCells q) w := by
      refine ⟨hg, _, HB, ?_, ?_⟩
      · rw [hlen]
        rcases HO with ⟨_, hv, hq⟩ | ⟨b, cap', hFb, hv, hrow⟩
        · have hq0 : q = [] := List.map_eq_nil_iff.1 hq
          rw [hv, hq0]
          exact ⟨rfl, .inl ⟨rfl, rfl⟩⟩
        · obtain ⟨cur, h2, h3, h4⟩ := hrow.cur
          rw [List.length_map] at hv h4
          rw [hv]
          rw [hcs] at h4
          have hle := hrow.le
          rw [List.length_map] at hle
          exact ⟨by rw [hlen]; omega, .inr ⟨b, cap', cur, rfl, hF b (by rw [hFb]; simp), h2, hle, hrow.cap, h3, h4⟩⟩
      · rcases HO with ⟨_, hv, hq⟩ | ⟨b, cap', hFb, hv, hrow⟩
        · rw [hv]
          simp [Value.ownBlock]
        · rw [hv]
          simp only [Value.ownBlock, ne_eq, Option.some.injEq]
          intro h
          exact hgF (by rw [hFb, h]; simp)
    rcases hpa with rfl | rfl
    · exact .inl hat
    · exact .inr hat
  exact Tryz.Builder_String_any B0 g q w hb hB
end Go.Proofs.YtdhonbahpcmmnaaGreatDoor.Build
end
section
set_option linter.unusedVariables false
set_option linter.unusedSimpArgs false
namespace Go.Proofs.YtdhonbahpcmmnaaGreatDoor.Line
open Go Go.RowKit Go.Proofs.YtdhonbahpcmmnaaGreatDoor Go.Proofs.YtdhonbahpcmmnaaGreatDoor.Eng Go.Proofs.YtdhonbahpcmmnaaGreatDoorW.PrintWords
theorem tab_keep {w w1 : World} {S : List Nat} (h : Lib.TabIs Tryz.prog w "internal/strconv.uint64pow10" .u64 Lib.pow10Tab) (k : Fr S w w1) (hn : 3 ∉ S) : Lib.TabIs Tryz.prog w1 "internal/strconv.uint64pow10" .u64 Lib.pow10Tab := by
  unfold Lib.TabIs World.var? at h ⊢
  rw [show Tryz.prog.globalNamed "internal/strconv.uint64pow10" = some 3 by kernel_rfl] at h ⊢
  simp only [Option.bind_some] at h ⊢
  have hlt : 3 < w.heap.size := by
    rcases Nat.lt_or_ge 3 w.heap.size with h1 | h1
    · exact h1
    · rw [Array.getElem?_eq_none h1] at h
      cases h
  rw [k.block 3 hlt hn]
  exact h
theorem _root_.Go.Lib.TabIs.k {w w1 : World} (h : Lib.TabIs Tryz.prog w "internal/strconv.uint64pow10" .u64 Lib.pow10Tab) (k : Fr [] w w1) : Lib.TabIs Tryz.prog w1 "internal/strconv.uint64pow10" .u64 Lib.pow10Tab := tab_keep h k (by simp)
theorem tab_lt {w : World} (h : Lib.TabIs Tryz.prog w "internal/strconv.uint64pow10" .u64 Lib.pow10Tab) : 3 < w.heap.size := by
  unfold Lib.TabIs World.var? at h
  rw [show Tryz.prog.globalNamed "internal/strconv.uint64pow10" = some 3 by kernel_rfl] at h
  simp only [Option.bind_some] at h
  rcases Nat.lt_or_ge 3 w.heap.size with h1 | h1
  · exact h1
  · rw [Array.getElem?_eq_none h1] at h
    cases h
theorem fr_grow {w w1 : World} {k : Nat} {os : Array Obj} (h : w1 = Go.Sort.grow (w.drewN k) os) : Fr [] w w1 := by
  subst h
  refine ⟨rfl, rfl, rfl, ?_, fun i hi _ => ?_⟩
  · show w.heap.size ≤ (w.heap ++ os).size
    simp
  · show (w.heap ++ os)[i]? = w.heap[i]?
    rw [Array.getElem?_append_left hi]
theorem fr_below {w w1 w2 : World} (h : Fr [] w w1) (k : Below w.heap.size w1 w2) : Fr [] w w2 := by
  have h1 := h.below0
  exact Fr.of_below (h1.trans k)
theorem digs_eq : ∀ n, Lib.decDigits n = digs n := fun n => by
  induction n using Nat.strongRecOn with
  | _ n ih =>
    rw [Lib.decDigits, digs]
    by_cases h : n < 10
    · rw [dif_pos h, dif_pos h]
    · rw [dif_neg h, dif_neg h, ih (n / 10) (by omega)]
theorem itoa_str (z : Int) : (⟨(Lib.itoa z).toArray⟩ : ByteArray) = str (numT z) := by
  unfold Lib.itoa numT str
  rw [digs_eq, digs_eq]
theorem hd_s' (ev : Ev) (i : Nat) (h : i < ev.tags.length) : hd ev i ++ (([44] : List UInt8) ++ (gT ev.tags i).1 ++ ([61] : List UInt8) ++ (gT ev.tags i).2) = hd ev (i + 1) := by
  rw [hd_s ev i h]
  simp only [List.append_assoc, List.cons_append, List.nil_append, List.singleton_append]
theorem print_eq {ev : Ev} (hk : 1 ≤ ev.kind ∧ ev.kind ≤ 3) {i : Nat} (hi : i = ev.tags.length) : hd ev i ++ (([32] : List UInt8) ++ (([99, 103, 104] : List UInt8).take ev.kind.toNat).drop (ev.kind - 1).toNat ++ ([32] : List UInt8) ++ numT ev.value ++ ([32] : List UInt8) ++ numT ev.time) = printT ev := by
  subst hi
  rw [letter_eq hk, hd_all]
  unfold printT
  simp only [List.append_assoc, List.cons_append, List.nil_append, List.singleton_append]
set_option maxRecDepth 100000 in
set_option maxHeartbeats 1000000 in
theorem print_l (ev : Ev) (A : Option Addr) (n cp : Nat) (F : List Nat) (w : World) (HT : VX cT 2 w F A ev.tags) (hn : ev.tags.length = n) (hnn : n ≤ 9223372036854775807) (hln : ev.name.length ≤ 9223372036854775807) (hlt : ∀ t ∈ ev.tags, t.1.length ≤ 9223372036854775807 ∧ t.2.length ≤ 9223372036854775807) (hmay : mayE ev = true) (hfew : fewE ev = true) (hk : 1 ≤ ev.kind ∧ ev.kind ≤ 3) (hv : -9223372036854775808 ≤ ev.value ∧ ev.value ≤ 9223372036854775807) (ht : -9223372036854775808 ≤ ev.time ∧ ev.time ≤ 9223372036854775807) (HTab : Lib.TabIs Tryz.prog w "internal/strconv.uint64pow10" .u64 Lib.pow10Tab) (hPF : 3 ∉ F) :
    Calls Tryz.prog 87 #[.agg #[.string (str ev.name), .slice A n cp, .int .i64 ev.kind, .int .i64 ev.value, .int .i64 ev.time]] w fun e w' => e = .returned (.tuple #[.string (str (printT ev)), .nilIface]) ∧ Fr [] w w' := by
 have hnl1 := num_len ev.value hv
 have hnl2 := num_len ev.time ht
 have hn20 := few_n hfew
 have HA := Fr.refl [] w
 refine Ze Tryz.func87 _ <| Zsg <| Zb 1 #[.string (str ev.name), .slice A n cp, J ev.kind, J ev.value, J ev.time] 91 (fun g => Pt g 0) ?_
 intro g1 w2 HB4 F3 le5 _
 have HT := HT.keep F3 dj0
 refine Zr 2 <| Zdn <| Zq <| Zsg <| Zlb 7 [.string (str ev.name), .slice A n cp, J ev.kind, J ev.value, J ev.time] g1 0 (same HB4) <| Zc 8 (may_l ev A n cp F _ HT hn hnn hln hlt) ?_
 rintro _ w6 ⟨rfl, F7⟩
 rw [hmay]
 refine ⟨_, rfl, trivial, Zr 1 <| Zdn <| ZF <| Zk <| Zsg <| Zb 4 #[.pointer none, .slice none 0 0] 173 (fun g => Pt g 0) ?_⟩
 intro g8 w9 HB11 F10 le12 _
 have HB4 := HB4.k F7
 have ne_g1_g8 := ltn HB4.lt le12
 have HT := HT.keep F7 dj0
 have nin_g8_F := new_nin HT.lt le12
 have HTab := (HTab.k F3).k F7
 have ne_3_g8 : 3 ≠ g8 := Nat.ne_of_lt (Nat.lt_of_lt_of_le (tab_lt HTab) le12)
 have HA := (HA.step0 F3).step0 F7
 have ge_HA_g8 := Nat.le_trans HA.size le12
 have HB4 := HB4.k F10
 refine Zdn <| Zsg <| Zr 1 <| Zl 12 (.string (str ev.name)) (HB4.s 0) <| Zc 13 (Build.writeString_f g8 (.pointer none) none 0 [] ev.name [] _ HB11 (.inl rfl) (OwnX.nil _ _ _) (by simp) (by simp only [List.length_append, List.length_cons, List.length_nil]; omega)) ?_
 rintro _ w13 ⟨A15, cap16, F17, rfl, HB18, HO19, F14, hg20, nin21⟩
 refine ⟨_, rfl, trivial, ?_⟩
 rw [List.nil_append] at HB18 HO19
 have nin_g1_F17 := grow_nin hg20 (nin0 _) HB4.lt
 have HTab := HTab.k F10
 have nin_3_F17 := grow_nin hg20 (nin0 _) ((tab_lt HTab))
 have HT := HT.keep F10 dj0
 have dj_F17_F := grow_dj hg20 (by simp) HT.lt
 have HA := HA.step0 F10
 have ge_HA_F17 := grow_ge hg20 (by simp) HA.size
 rw [show ev.name = hd ev 0 from (hd_0 ev).symm] at HB18 HO19
 have HB4 := HB4.j F14 ne_g1_g8
 refine Zdn <| Zq <| Zsg <| Zr 1 <| Zl 15 (.slice A n cp) (HB4.s 1) <| Zr 2 <| Zdn <| WE.block <| WE.loop (α := Nat × Option Addr × Nat × List Nat) (E := fun ⟨i, Ab, cb, FO⟩ => [(0, .agg #[.string (str ev.name), .slice A n cp, J ev.kind, J ev.value, J ev.time]), (1, Pt g1 0), (2, .string (⟨#[]⟩)), (3, .nilIface), (4, Pt g8 0), (9, .bool false), (15, .slice A n cp), (16, J (n : Int)), (17, J (i : Int))]) (I := fun ⟨i, Ab, cb, FO⟩ wr => i ≤ n ∧ Blk wr g1 #[.string (str ev.name), .slice A n cp, J ev.kind, J ev.value, J ev.time] 91 ∧ Blk wr g8 #[Pt g8 0, .slice Ab ((hd ev i).length) cb] 173 ∧ OwnX 5 1 wr FO (.slice Ab ((hd ev i).length) cb) ((hd ev i).map cB) ∧ VX cT 2 wr F A ev.tags ∧ Lib.TabIs Tryz.prog wr "internal/strconv.uint64pow10" .u64 Lib.pow10Tab ∧ g8 ∉ FO ∧ g1 ∉ FO ∧ 3 ∉ FO ∧ (∀ y ∈ FO, w.heap.size ≤ y) ∧ (∀ y ∈ FO, y ∉ F) ∧ Fr [] w wr) (m := fun ⟨i, Ab, cb, FO⟩ => n - i) (0, A15, cap16, F17) [0, 1, 2, 3, 4, 9, 15, 16, 17] (by kernel_rfl) ?_ ?_
 ·
  exact ⟨Nat.zero_le _, HB4, HB18, HO19, (HT.keep F14 (djB nin_g8_F)), (tab_keep HTab F14 (ninC ne_3_g8 (nin0 _))), nin21, nin_g1_F17, nin_3_F17, ge_HA_F17, dj_F17_F, (HA.step F14 (inSR ge_HA_g8 inS0))⟩
 rintro ⟨i, Ab, cb, FO⟩ wr ⟨hi, HE, HB, HO, HT, HTab, n1_, n2_, n3_, hgO, hdO, HA⟩
 dsimp only at hi HB HO n1_ n2_ n3_ hgO hdO ⊢
 have hhl := hd_len hfew i (by omega)
 have hn20 := few_n hfew
 refine Zsg <| ZoP 18 (((i : Int) : Int) < (n : Int)) ?_ ?_
 ·
  intro h22
  refine Zdn <| Zq <| ZT <| Zk <| Zq <| WE.block <| Zq <| WE.region ?_
  obtain ⟨ad23, hA24⟩ := HT.addr (i := i) (by have := hn; omega)
  refine Zio 19 n 2 i (i : Int) hA24 <| Zla (ad := (ad23.add (i * 2))) 20 [.string (str (gT ev.tags i).1), .string (str (gT ev.tags i).2)] (fun _ hw_ _ hj_ => by subst hw_; exact HT.part0 hA24 (gT_some ev.tags i (by have := hn; omega)) [.string (str (gT ev.tags i).1), .string (str (gT ev.tags i).2)] (by kernel_rfl) _ hj_) <| Zb 6 #[.string (⟨#[]⟩), .string (⟨#[]⟩)] 143 (fun g => Pt g 0) ?_
  intro g25 w26 HB28 F27 le29 _
  have ne_g1_g25 := ltn HE.lt le29
  have ne_g8_g25 := ltn HB.lt le29
  have nin_g25_F := new_nin HT.lt le29
  have nin_g25_FO := new_nin HO.lt le29
  have ne_3_g25 : 3 ≠ g25 := Nat.ne_of_lt (Nat.lt_of_lt_of_le (tab_lt HTab) le29)
  have ge_HA_g25 := Nat.le_trans HA.size le29
  refine Zst g25 0 #[.string (str (gT ev.tags i).1), .string (str (gT ev.tags i).2)] HB28 ?_
  intro w30 HB32 F31 _
  refine Zd <| Zn ?_
  obtain ⟨ht1, ht2⟩ := few_tag hfew i (by omega)
  refine WE.region <| Zr 1 <| Zl 22 (.string (str (gT ev.tags i).1)) (HB32.s 0) <| Zct 23 (str ([44] : List UInt8)) (str (gT ev.tags i).1) (by simp only [str_size, List.length_append, List.length_cons, List.length_nil, List.length_drop, List.length_take]; omega) <| WO.top (v' := .string (str (([44] : List UInt8) ++ (gT ev.tags i).1))) (congrArg Value.string (str_app _ _)) <| Zct 24 (str (([44] : List UInt8) ++ (gT ev.tags i).1)) (str ([61] : List UInt8)) (by simp only [str_size, List.length_append, List.length_cons, List.length_nil, List.length_drop, List.length_take]; omega) <| WO.top (v' := .string (str ((([44] : List UInt8) ++ (gT ev.tags i).1) ++ ([61] : List UInt8)))) (congrArg Value.string (str_app _ _)) <| Zr 1 <| Zl 26 (.string (str (gT ev.tags i).2)) (HB32.s 1) <| Zct 27 (str ((([44] : List UInt8) ++ (gT ev.tags i).1) ++ ([61] : List UInt8))) (str (gT ev.tags i).2) (by simp only [str_size, List.length_append, List.length_cons, List.length_nil, List.length_drop, List.length_take]; omega) <| WO.top (v' := .string (str (((([44] : List UInt8) ++ (gT ev.tags i).1) ++ ([61] : List UInt8)) ++ (gT ev.tags i).2))) (congrArg Value.string (str_app _ _)) <| Zc 28 (Build.writeString_f g8 (Pt g8 0) Ab cb (hd ev i) (((([44] : List UInt8) ++ (gT ev.tags i).1) ++ ([61] : List UInt8)) ++ (gT ev.tags i).2) FO _ ((HB.k F27).j F31 ne_g8_g25) (.inr rfl) ((HO.keep F27 dj0).keep F31 (djB nin_g25_FO)) n1_ (by simp only [List.length_append, List.length_cons, List.length_nil, List.length_drop, List.length_take]; omega)) ?_
  rintro _ w33 ⟨A35, cap36, F37, rfl, HB38, HO39, F34, hg40, nin41⟩
  refine ⟨_, rfl, trivial, ?_⟩
  obtain ⟨U42, hU42⟩ : ∃ U_, U_ = g8 :: FO := ⟨_, rfl⟩
  have dj_U42_F : ∀ y ∈ U42, y ∉ F := by rw [hU42]; exact fun y hy h_ => (List.mem_cons.1 hy).elim (fun e_ => nin_g8_F (e_ ▸ h_)) (fun e_ => hdO y e_ h_)
  have nin_g1_U42 : g1 ∉ U42 := by rw [hU42]; exact fun h_ => (List.mem_cons.1 h_).elim (fun e_ => ne_g1_g8 e_) n2_
  have nin_3_U42 : 3 ∉ U42 := by rw [hU42]; exact fun h_ => (List.mem_cons.1 h_).elim (fun e_ => ne_3_g8 e_) n3_
  have ge_HA_U42 : ∀ y ∈ U42, (World.heap w).size ≤ y := by rw [hU42]; exact fun y hy => (List.mem_cons.1 hy).elim (fun e_ => by rw [e_]; exact ge_HA_g8) (hgO y)
  rw [← hU42] at F34
  have HE := (HE.k F27).j F31 ne_g1_g25
  have nin_g1_F37 := grow_nin hg40 n2_ HE.lt
  have HTab := tab_keep (HTab.k F27) F31 (ninC ne_3_g25 (nin0 _))
  have nin_3_F37 := grow_nin hg40 n3_ ((tab_lt HTab))
  have HT := (HT.keep F27 dj0).keep F31 (djB nin_g25_F)
  have dj_F37_F := grow_dj hg40 hdO HT.lt
  have HA := (HA.step0 F27).step F31 (inSR ge_HA_g25 inS0)
  have ge_HA_F37 := grow_ge hg40 hgO HA.size
  rw [show ((hd ev i) ++ (((([44] : List UInt8) ++ (gT ev.tags i).1) ++ ([61] : List UInt8)) ++ (gT ev.tags i).2)) = hd ev (i + 1) from hd_s' ev i (by omega)] at HB38 HO39
  refine Zd <| WQ.blkN <| Zn <| WE.region <| Zw 29 ((i : Int) + 1) ((i + 1 : Nat) : Int) <| Zr 1 <| Zd <| WQ.round ?_
  intro a_ ha_
  refine ⟨(i + 1, A35, cap36, F37), ?_, ha_.keep [0, 1, 2, 3, 4, 9, 15, 16, 17] (by kernel_rfl), ?_⟩
  ·
   show n - (i + 1) < n - i; omega
  ·
   exact ⟨by show i + 1 ≤ n; omega, (HE.keep F34 nin_g1_U42), HB38, HO39, (HT.keep F34 (dj_symm dj_U42_F)), (tab_keep HTab F34 nin_3_U42), nin41, nin_g1_F37, nin_3_F37, ge_HA_F37, dj_F37_F, (HA.step F34 (inF ge_HA_U42))⟩
 intro h22
 refine Zdn <| Zq <| ZF <| WE.exit <| WQ.thenE <| WQ.thenE <| WQ.blkE <| Zn <| Zq ?_
 have hz43 : (World.heap wr).size ≤ (World.heap wr).size := Nat.le_refl _
 have ltz_g1 := HE.lt
 refine ZER (FrB (World.heap wr).size) [1, 4, 9, 14] [10, 15] [17] 18 ?_
 intro w44 F45 _
 have HE := HE.k F45
 have HTab := HTab.k F45
 refine Yq 0 1 <| Yl 1 31 (J ev.kind) (fun _ k => (HE.keepB k ltz_g1).at 2 (by kernel_rfl)) <| Yr0 [2] [(32, J (IntKind.i64.wrap (ev.kind - 1)))] <| WO.top (v' := J (ev.kind - 1)) (wrap_i64 (by omega) (by omega)) <| Yq 3 1 <| Yl 4 34 (J ev.kind) (fun _ k => (HE.keepB k ltz_g1).at 2 (by kernel_rfl)) <| Yvt 5 (lo := ev.kind - 1) (hi := ev.kind) 35 ((ev.kind - 1).toNat) ev.kind.toNat ([99, 103, 104] : List UInt8) (by omega) (by omega) (by omega) (by simp only [List.length_cons, List.length_nil]; omega) <| Yct 6 36 (str ([32] : List UInt8)) (str ((([99, 103, 104] : List UInt8).take ev.kind.toNat).drop ((ev.kind - 1).toNat))) (by simp only [str_size, List.length_append, List.length_cons, List.length_nil, List.length_drop, List.length_take]; omega) <| WO.top (v' := .string (str (([32] : List UInt8) ++ ((([99, 103, 104] : List UInt8).take ev.kind.toNat).drop ((ev.kind - 1).toNat))))) (congrArg Value.string (str_app _ _)) <| Yct 7 37 (str (([32] : List UInt8) ++ ((([99, 103, 104] : List UInt8).take ev.kind.toNat).drop ((ev.kind - 1).toNat)))) (str ([32] : List UInt8)) (by simp only [str_size, List.length_append, List.length_cons, List.length_nil, List.length_drop, List.length_take]; omega) <| WO.top (v' := .string (str ((([32] : List UInt8) ++ ((([99, 103, 104] : List UInt8).take ev.kind.toNat).drop ((ev.kind - 1).toNat))) ++ ([32] : List UInt8)))) (congrArg Value.string (str_app _ _)) <| Yq 8 1 <| Yl 9 39 (J ev.value) (fun _ k => (HE.keepB k ltz_g1).at 3 (by kernel_rfl)) <| Yq 13 1 <| Yl 14 44 (J ev.time) (fun _ k => (HE.keepB k ltz_g1).at 4 (by kernel_rfl)) <| WO.call (SA.ER _ 10 _ (by kernel_rfl) rfl) 40 (by kernel_rfl) (Tryz.strconv_FormatInt_10 ev.value (by omega) (by omega) _ HTab) ?_
 rintro _ w46 ⟨rfl, k48, os49, hg50⟩
 have F47 := fr_grow hg50
 rw [itoa_str ev.value]
 have hz43 := Nat.le_trans hz43 F45.size
 refine ⟨_, rfl, (frB_of hz43 (by simp)) _ F47, Yct 11 41 (str ((([32] : List UInt8) ++ ((([99, 103, 104] : List UInt8).take ev.kind.toNat).drop ((ev.kind - 1).toNat))) ++ ([32] : List UInt8))) (str (numT ev.value)) (by simp only [str_size, List.length_append, List.length_cons, List.length_nil, List.length_drop, List.length_take]; omega) <| WO.top (v' := .string (str (((([32] : List UInt8) ++ ((([99, 103, 104] : List UInt8).take ev.kind.toNat).drop ((ev.kind - 1).toNat))) ++ ([32] : List UInt8)) ++ (numT ev.value)))) (congrArg Value.string (str_app _ _)) <| Yct 12 42 (str (((([32] : List UInt8) ++ ((([99, 103, 104] : List UInt8).take ev.kind.toNat).drop ((ev.kind - 1).toNat))) ++ ([32] : List UInt8)) ++ (numT ev.value))) (str ([32] : List UInt8)) (by simp only [str_size, List.length_append, List.length_cons, List.length_nil, List.length_drop, List.length_take]; omega) <| WO.top (v' := .string (str ((((([32] : List UInt8) ++ ((([99, 103, 104] : List UInt8).take ev.kind.toNat).drop ((ev.kind - 1).toNat))) ++ ([32] : List UInt8)) ++ (numT ev.value)) ++ ([32] : List UInt8)))) (congrArg Value.string (str_app _ _)) <| WO.call (SA.ER _ 15 _ (by kernel_rfl) rfl) 45 (by kernel_rfl) (Tryz.strconv_FormatInt_10 ev.time (by omega) (by omega) _ (HTab.k F47)) ?_⟩
 rintro _ w51 ⟨rfl, k53, os54, hg55⟩
 have F52 := fr_grow hg55
 rw [itoa_str ev.time]
 refine ⟨_, rfl, (frB_of (Nat.le_trans hz43 F47.size) (by simp)) _ F52, Yct 16 46 (str ((((([32] : List UInt8) ++ ((([99, 103, 104] : List UInt8).take ev.kind.toNat).drop ((ev.kind - 1).toNat))) ++ ([32] : List UInt8)) ++ (numT ev.value)) ++ ([32] : List UInt8))) (str (numT ev.time)) (by simp only [str_size, List.length_append, List.length_cons, List.length_nil, List.length_drop, List.length_take]; omega) <| WO.top (v' := .string (str (((((([32] : List UInt8) ++ ((([99, 103, 104] : List UInt8).take ev.kind.toNat).drop ((ev.kind - 1).toNat))) ++ ([32] : List UInt8)) ++ (numT ev.value)) ++ ([32] : List UInt8)) ++ (numT ev.time)))) (congrArg Value.string (str_app _ _)) <| Yc 17 47 (Build.writeString_f g8 (Pt g8 0) Ab cb (hd ev i) (((((([32] : List UInt8) ++ ((([99, 103, 104] : List UInt8).take ev.kind.toNat).drop ((ev.kind - 1).toNat))) ++ ([32] : List UInt8)) ++ (numT ev.value)) ++ ([32] : List UInt8)) ++ (numT ev.time)) FO _ (((HB.k F45).k F47).k F52) (.inr rfl) (((HO.keep F45 dj0).keep F47 dj0).keep F52 dj0) n1_ (by simp only [List.length_append, List.length_cons, List.length_nil, List.length_drop, List.length_take]; omega)) ?_⟩
 rintro _ w56 ⟨A58, cap59, F60, rfl, HB61, HO62, F57, hg63, nin64⟩
 refine ⟨_, rfl, trivial, ?_⟩
 obtain ⟨U65, hU65⟩ : ∃ U_, U_ = g8 :: FO := ⟨_, rfl⟩
 have ge_HA_U65 : ∀ y ∈ U65, (World.heap w).size ≤ y := by rw [hU65]; exact fun y hy => (List.mem_cons.1 hy).elim (fun e_ => by rw [e_]; exact ge_HA_g8) (hgO y)
 rw [← hU65] at F57
 have HA := ((HA.step0 F45).step0 F47).step0 F52
 have ge_HA_F60 := grow_ge hg63 hgO HA.size
 rw [show ((hd ev i) ++ (((((([32] : List UInt8) ++ ((([99, 103, 104] : List UInt8).take ev.kind.toNat).drop ((ev.kind - 1).toNat))) ++ ([32] : List UInt8)) ++ (numT ev.value)) ++ ([32] : List UInt8)) ++ (numT ev.time))) = printT ev from print_eq hk (by omega)] at HB61 HO62
 have HA := HA.step F57 (inF ge_HA_U65)
 refine Ydn <| Zsg <| Zcf 48 (Build.string_f g8 A58 cap59 (printT ev) F60 (World.heap w).size _ _ HB61 (.inr rfl) HO62 nin64 HA.size ge_HA_g8 ge_HA_F60) ?_
 intro w66 bl68
 have HA := fr_below HA bl68
 refine Zr 2 <| Zdn <| WE.ret <| ZR (.tuple #[.string (str (printT ev)), .nilIface]) ?_
 exact ⟨rfl, HA⟩
end Go.Proofs.YtdhonbahpcmmnaaGreatDoor.Line
end
section
set_option linter.unusedVariables false
set_option linter.unusedSimpArgs false
namespace Go.Proofs.YtdhonbahpcmmnaaGreatDoor.Line
open Go Go.RowKit Go.Proofs.YtdhonbahpcmmnaaGreatDoor Go.Proofs.YtdhonbahpcmmnaaGreatDoor.Eng Go.Proofs.YtdhonbahpcmmnaaGreatDoorW.PrintWords
theorem few_of {e : Ev} (h : mayE e = true) : fewE e = true := by
 obtain ⟨h1, h2, h3, _⟩ := may_parts h
 unfold fewE
 simp only [Bool.and_eq_true, decide_eq_true_eq]
 refine ⟨⟨List.all_eq_true.2 fun t ht => ?_, ?_⟩, ?_⟩
 ·
  have a := word_len (h1 t ht).1
  have b := word_len (h1 t ht).2
  simp only [Bool.and_eq_true, decide_eq_true_eq]
  omega
 ·
  have := word_len h2
  omega
 ·
  omega
end Go.Proofs.YtdhonbahpcmmnaaGreatDoor.Line
end
section
set_option linter.unusedVariables false
set_option linter.unusedSimpArgs false
namespace Go.Proofs.YtdhonbahpcmmnaaGreatDoor.Line
open Go Go.RowKit Go.Proofs.YtdhonbahpcmmnaaGreatDoor Go.Proofs.YtdhonbahpcmmnaaGreatDoor.Eng Go.Proofs.YtdhonbahpcmmnaaGreatDoorW.PrintWords
open Go.Proofs
def cmpS (a b : L) : Int := if ltS a b = true then -1 else if ltS b a = true then 1 else 0
theorem cmpS_neg {a b : L} : cmpS a b < 0 ↔ ltS a b = true := by
  unfold cmpS
  cases h : ltS a b with
  | true => simp
  | false =>
    cases h2 : ltS b a with
    | true => simp
    | false => simp
theorem cmpS_not {a b : L} (h : ¬ cmpS a b < 0) : ltS a b = false := by
  cases h2 : ltS a b with
  | true => exact absurd (cmpS_neg.2 h2) h
  | false => rfl
theorem asc_one (q : Tgs) : Asc (q.take 1) := by
  cases q with
  | nil => exact List.Pairwise.nil
  | cons a q => simp [Asc]
theorem gT_mid {A B : Tgs} {x : L × L} {j : Nat} (h : A.length = j) : gT (A ++ x :: B) j = x := by
  unfold gT
  rw [List.getD_eq_getElem?_getD, List.getElem?_append_right (by omega), h, Nat.sub_self]
  rfl
theorem set_swap : ∀ (A B : Tgs) (x y : L × L), ((A ++ y :: x :: B).set (A.length + 1) y).set A.length x = A ++ x :: y :: B
  | [], B, x, y => rfl
  | a :: A, B, x, y => by
    simp only [List.cons_append, List.length_cons, List.set_cons_succ, set_swap A B x y]
variable {s q0 p q : Tgs} {i j n : Nat}
theorem split_s (h : s.length = i) (hj : 0 < j) (hji : j ≤ i) : ∃ y, s.take j = s.take (j - 1) ++ [y] ∧ s.drop (j - 1) = y :: s.drop j ∧ (s.take (j - 1)).length = j - 1 := by
  have hlt : j - 1 < s.length := by omega
  refine ⟨s[j - 1], ?_, ?_, by rw [List.length_take]; omega⟩
  · have e := List.take_add_one (l := s) (i := j - 1)
    rw [show j - 1 + 1 = j by omega, List.getElem?_eq_getElem hlt] at e
    exact e
  · rw [List.drop_eq_getElem_cons hlt, show j - 1 + 1 = j by omega]
theorem ins_start (h : s.length = i) (hq : q = s ++ q0.drop i) (hi : i < q0.length) : q = s.take i ++ gT q0 i :: (s.drop i ++ q0.drop (i + 1)) := by
  rw [hq, List.take_of_length_le (by omega), show s.drop i = [] from List.drop_of_length_le (by omega), List.nil_append, List.drop_eq_getElem_cons hi]
  have : gT q0 i = q0[i] := by
    unfold gT
    rw [List.getD_eq_getElem?_getD, List.getElem?_eq_getElem hi]
    rfl
  rw [this]
theorem ins_step (h : s.length = i) (hq : p = s.take j ++ gT q0 i :: (s.drop j ++ q0.drop (i + 1))) (hj : 0 < j ∧ j ≤ i) : (p.set j (gT p (j - 1))).set (j - 1) (gT p j) = s.take (j - 1) ++ gT q0 i :: (s.drop (j - 1) ++ q0.drop (i + 1)) := by
  obtain ⟨y, h1, h2, h3⟩ := split_s h hj.1 hj.2
  rw [h1, List.append_assoc, List.singleton_append] at hq
  have e1 : gT p (j - 1) = y := by rw [hq]; exact gT_mid h3
  have e2 : gT p j = gT q0 i := by
    rw [hq, ← List.singleton_append (x := y), ← List.append_assoc]
    exact gT_mid (by rw [List.length_append, h3]; simp; omega)
  have := set_swap (s.take (j - 1)) (s.drop j ++ q0.drop (i + 1)) (gT q0 i) y
  rw [h3, show j - 1 + 1 = j by omega] at this
  rw [e1, e2, h2, List.cons_append, hq]
  exact this
theorem ins_at (h : s.length = i) (hq : p = s.take j ++ gT q0 i :: (s.drop j ++ q0.drop (i + 1))) (hj : 0 < j ∧ j ≤ i) : ∃ y, s.take j = s.take (j - 1) ++ [y] ∧ s.drop (j - 1) = y :: s.drop j ∧ gT p (j - 1) = y ∧ gT p j = gT q0 i := by
  obtain ⟨y, h1, h2, h3⟩ := split_s h hj.1 hj.2
  refine ⟨y, h1, h2, ?_, ?_⟩
  · rw [hq, h1, List.append_assoc, List.singleton_append]
    exact gT_mid h3
  · rw [hq]
    exact gT_mid (by rw [List.length_take]; omega)
theorem ins_gt (h : s.length = i) (hq : p = s.take j ++ gT q0 i :: (s.drop j ++ q0.drop (i + 1))) (hj : 0 < j ∧ j ≤ i) (hg : ∀ z ∈ s.drop j, ltS (gT q0 i).1 z.1 = true) (hl : ltS (gT p j).1 (gT p (j - 1)).1 = true) : ∀ z ∈ s.drop (j - 1), ltS (gT q0 i).1 z.1 = true := by
  obtain ⟨y, h1, h2, h3, h4⟩ := ins_at h hq hj
  rw [h3, h4] at hl
  rw [h2]
  intro z hz
  rcases List.mem_cons.1 hz with rfl | hz
  · exact hl
  · exact hg z hz
theorem ins_no (h : s.length = i) (hq : p = s.take j ++ gT q0 i :: (s.drop j ++ q0.drop (i + 1))) (hj : 0 < j ∧ j ≤ i) (hl : ltS (gT p j).1 (gT p (j - 1)).1 = false) : ∃ y, s.take j = s.take (j - 1) ++ [y] ∧ ltS (gT q0 i).1 y.1 = false := by
  obtain ⟨y, h1, h2, h3, h4⟩ := ins_at h hq hj
  rw [h3, h4] at hl
  exact ⟨y, h1, hl⟩
theorem ins_done (h : s.length = i) (hq : p = s.take j ++ gT q0 i :: (s.drop j ++ q0.drop (i + 1))) (hps : s.Perm (q0.take i)) (has : Asc s) (hg : ∀ z ∈ s.drop j, ltS (gT q0 i).1 z.1 = true)
    (hst : j = 0 ∨ ∃ y, s.take j = s.take (j - 1) ++ [y] ∧ ltS (gT q0 i).1 y.1 = false) (hi : i < q0.length) : ∃ s', p = s' ++ q0.drop (i + 1) ∧ s'.Perm (q0.take (i + 1)) ∧ Asc s' := by
  refine ⟨s.take j ++ gT q0 i :: s.drop j, by rw [hq]; simp, ?_, ?_⟩
  · have e : q0.take (i + 1) = q0.take i ++ [gT q0 i] := by
      rw [List.take_add_one, gT_some q0 i hi]
      rfl
    rw [e]
    refine List.perm_middle.trans ?_
    rw [List.take_append_drop]
    exact ((hps.cons _).trans (List.perm_append_comm (l₁ := [gT q0 i]) (l₂ := q0.take i)))
  · have hs2 : Asc (s.take j ++ s.drop j) := by rw [List.take_append_drop]; exact has
    obtain ⟨a1, a2, a3⟩ := List.pairwise_append.1 hs2
    refine List.pairwise_append.2 ⟨a1, List.pairwise_cons.2 ⟨fun z hz => ltS_asymm (hg z hz), a2⟩, fun z hz u hu => ?_⟩
    rcases List.mem_cons.1 hu with rfl | hu
    · rcases hst with rfl | ⟨y, hy, hl⟩
      · simp at hz
      · rw [hy] at hz a1
        rcases List.mem_append.1 hz with hz2 | hz2
        · have hzy := (List.pairwise_append.1 a1).2.2 z hz2 y (by simp)
          rw [Bool.eq_false_iff]
          intro hxz
          by_cases hyx : ltS y.1 (gT q0 i).1 = true
          · rw [ltS_trans _ _ _ hyx hxz] at hzy
            cases hzy
          · rw [ltS_tri _ _ (by simpa using hyx) hl] at hzy
            rw [hzy] at hxz
            cases hxz
        · rw [List.mem_singleton.1 hz2]
          exact hl
    · exact a3 z hz u hu
set_option maxRecDepth 100000 in
set_option maxHeartbeats 400000 in
theorem nan_s (a : L) (w : World) :
    Calls Tryz.prog 74 #[.string (str a)] w fun e w' => e = .returned (.bool false) ∧ Fr [] w w' := by
 have HA := Fr.refl [] w
 refine Ze Tryz.func74 _ <| Zsg <| Zr 1 <| Zdn <| Zsg <| Zr 2 <| Zo 5 (.bool (!((str a).toList == (str a).toList))) <| WO.top (v' := .bool (!decide ((str a) = (str a)))) (congrArg Value.bool (congrArg not (streq (str a) (str a)))) <| Zr 1 <| Zdn <| WE.ret <| ZR (.bool (!decide ((str a) = (str a)))) ?_
 exact ⟨by simp, HA⟩
set_option maxRecDepth 100000 in
set_option maxHeartbeats 400000 in
theorem cmp_s (a b : L) (w : World) :
    Calls Tryz.prog 58 #[.string (str a), .string (str b)] w fun e w' => e = .returned (.int .i64 (cmpS a b)) ∧ Fr [] w w' := by
 have HA := Fr.refl [] w
 refine Ze Tryz.func58 _ <| Zsg <| Zr 1 <| Zdn <| Zsg <| Zr 1 <| Zcf 8 (nan_s a _) ?_
 intro w1 F2
 refine Zr 1 <| Zdn <| Zsg <| Zr 1 <| Zc 10 (nan_s b _) ?_
 rintro _ w3 ⟨rfl, F4⟩
 have HA := (HA.step0 F2).step0 F4
 refine ⟨_, rfl, trivial, Zr 1 <| Zdn <| Zq <| Zsg <| Zr 1 <| Zdn <| ZF <| Zk <| Zq <| Zsg <| Zr 1 <| Zdn <| ZF <| Zk <| Zq <| Zsg <| Zr 2 <| Zo 16 (.bool (Go.Op.bytesLess ((str a)).toList ((str b)).toList)) <| WO.top (v' := .bool (ltS a b)) (congrArg Value.bool (lss_str a b)) ?_⟩
 refine WO.topB (ltS a b) ?_ ?_
 ·
  intro h5
  refine Zdn <| ZT <| Zsg <| Zr 1 <| Zdn <| WE.ret <| WQ.thenR <| ZR (J (-1)) ?_
  exact ⟨congrArg (fun z => Ending.returned (Value.int .i64 z)) (by simp [cmpS, h5]), HA⟩
 intro h5
 refine Zdn <| ZF <| Zk <| Zq <| Zsg <| Zr 2 <| Zo 19 (.bool (!(Go.Op.bytesLess ((str a)).toList ((str b)).toList || ((str a)).toList == ((str b)).toList))) <| WO.top (v' := .bool (ltS b a)) (congrArg Value.bool (gtr_str a b)) <| WO.topB (ltS b a) ?_ ?_
 ·
  intro h6
  refine Zdn <| ZT <| Zsg <| Zr 1 <| Zdn <| WE.ret <| WQ.thenR <| ZR (J 1) ?_
  exact ⟨congrArg (fun z => Ending.returned (Value.int .i64 z)) (by simp [cmpS, h5, h6]), HA⟩
 intro h6
 refine Zdn <| ZF <| Zk <| Zsg <| Zr 1 <| Zdn <| WE.ret <| ZR (J 0) ?_
 exact ⟨congrArg (fun z => Ending.returned (Value.int .i64 z)) (by simp [cmpS, h5, h6]), HA⟩
set_option maxRecDepth 100000 in
set_option maxHeartbeats 400000 in
theorem less_t (a b : L × L) (w : World) :
    Calls Tryz.prog 118 #[.agg #[.string (str a.1), .string (str a.2)], .agg #[.string (str b.1), .string (str b.2)]] w fun e w' => e = .returned (.int .i64 (cmpS a.1 b.1)) ∧ Fr [] w w' := by
 have HA := Fr.refl [] w
 refine Ze Tryz.func118 _ <| Zsg <| Zb 2 #[.string (str a.1), .string (str a.2)] 143 (fun g => Pt g 0) ?_
 intro g1 w2 HB4 F3 le5 _
 refine Zb 3 #[.string (str b.1), .string (str b.2)] 143 (fun g => Pt g 0) ?_
 intro g6 w7 HB9 F8 le10 _
 refine Zr 1 <| Zdn <| Zsg <| Zr 1 <| Zl 6 (.string (str a.1)) (same ((HB4.k F8).at 0 (by kernel_rfl))) <| Zr 1 <| Zl 8 (.string (str b.1)) (HB9.s 0) <| Zcf 9 (cmp_s a.1 b.1 _) ?_
 intro w11 F12
 refine Zr 1 <| Zdn <| WE.ret <| ZR (J (cmpS a.1 b.1)) ?_
 exact ⟨rfl, (((HA.step0 F3).step0 F8).step0 F12)⟩
set_option maxRecDepth 100000 in
set_option maxHeartbeats 1000000 in
theorem isort_t (gb n cap : Nat) (q0 : List (L × L)) (w : World) (HR : RowB w gb 143 2 cap (q0.map cT)) (hn : q0.length = n) (h0 : 0 < n) (hm : n ≤ 1000000) :
    Calls Tryz.prog 160 #[.slice (some ⟨gb, 0, none⟩) n cap, .int .i64 0, .int .i64 (n : Int), .func (.func 118) #[] #[]] w fun e w' => e = .returned (.tuple #[]) ∧ ∃ q, q.Perm q0 ∧ Asc q ∧ RowB w' gb 143 2 cap (q.map cT) ∧ Fr [gb] w w' := by
 have HA := Fr.refl [gb] w
 refine Ze Tryz.func160 _ <| Zsg <| Zr 3 <| Zdn <| WE.block <| WE.loop (α := Nat × (List (L × L))) (E := fun ⟨i, q⟩ => [(0, .slice (some ⟨gb, 0, none⟩) n cap), (1, J 0), (2, J (n : Int)), (3, .func (.func 118) #[] #[]), (8, J (i : Int))]) (I := fun ⟨i, q⟩ wr => (0 < i ∧ i ≤ n) ∧ q.length = n ∧ (∃ s, q = s ++ q0.drop i ∧ s.Perm (q0.take i) ∧ Asc s) ∧ RowB wr gb 143 2 cap (q.map cT) ∧ Fr [gb] w wr) (m := fun ⟨i, q⟩ => n - i) (1, q0) [0, 1, 2, 3, 8] (by kernel_rfl) ?_ ?_
 ·
  exact ⟨by omega, hn, ⟨q0.take 1, (List.take_append_drop 1 q0).symm, List.Perm.refl _, asc_one q0⟩, HR, HA⟩
 rintro ⟨i, q⟩ wr ⟨hi, hql, hs, HR, HA⟩
 obtain ⟨s, hq, hps, has⟩ := hs
 refine Zq <| Zsg <| Zr 2 <| ZoP 14 (((i : Int) : Int) < (n : Int)) ?_ ?_
 ·
  intro h1
  refine Zdn <| ZT <| Zk <| Zq <| WE.block <| Zsg <| Zr 2 <| Zdn <| WE.block ?_
  have hsl : s.length = i := by rw [hps.length_eq, List.length_take]; omega
  refine WE.loop (α := Nat × (List (L × L))) (E := fun ⟨j, p⟩ => [(0, .slice (some ⟨gb, 0, none⟩) n cap), (1, J 0), (2, J (n : Int)), (3, .func (.func 118) #[] #[]), (8, J (i : Int)), (9, J (j : Int))]) (I := fun ⟨j, p⟩ wr => j ≤ i ∧ p.length = n ∧ p = s.take j ++ gT q0 i :: (s.drop j ++ q0.drop (i + 1)) ∧ (∀ z ∈ s.drop j, ltS (gT q0 i).1 z.1 = true) ∧ RowB wr gb 143 2 cap (p.map cT) ∧ Fr [gb] w wr) (m := fun ⟨j, p⟩ => j) (i, q) [0, 1, 2, 3, 8, 9] (by kernel_rfl) ?_ ?_
  ·
   exact ⟨by omega, hql, ins_start hsl hq (by omega), by rw [List.drop_of_length_le (by omega)]; simp, HR, HA⟩
  rintro ⟨j, p⟩ wr ⟨hj, hpl, hq2, hgt, HR, HA⟩
  refine Zq <| Zq <| ZE [8, 13] [] [14] 17 ?_
  intro w2 F3 _
  refine Yr0 [0, 1, 2] [(20, .bool (decide (((j : Int) : Int) > (0 : Int)))), (19, J 0), (18, J (j : Int))] <| WO.topP (((j : Int) : Int) > (0 : Int)) ?_ ?_
  ·
   intro h4
   have HR := HR.k F3
   refine Yq 3 4 <| Yib 7 25 (j * 2) gb 0 n 2 (j : Int) <| Ylr 8 26 [.string (str (gT p j).1), .string (str (gT p j).2)] gb j 2 (j * 2) (same HR) (by rw [List.length_map]; have := hpl; omega) (map_gT p j (by have := hpl; omega)) (by kernel_rfl) <| Yr0 [9, 10, 11] [(29, J (IntKind.i64.wrap ((j : Int) - 1))), (28, J (j : Int)), (27, .slice (some ⟨gb, 0, none⟩) n cap)] <| WO.top (v' := J ((j - 1 : Nat) : Int)) (wrap_i64 (by omega) (by omega)) <| Yib 12 30 ((j - 1) * 2) gb 0 n 2 ((j - 1 : Nat) : Int) <| Ylr 13 31 [.string (str (gT p (j - 1)).1), .string (str (gT p (j - 1)).2)] gb (j - 1) 2 ((j - 1) * 2) (same HR) (by rw [List.length_map]; have := hpl; omega) (map_gT p (j - 1) (by have := hpl; omega)) (by kernel_rfl) <| Yc 14 32 (less_t (gT p j) (gT p (j - 1)) _) ?_
   rintro _ w5 ⟨rfl, F6⟩
   have HA := (HA.step0 F3).step0 F6
   refine ⟨_, rfl, trivial, Yr0 [15] [(33, .bool (decide ((cmpS (gT p j).1 (gT p (j - 1)).1 : Int) < 0)))] ?_⟩
   refine WO.topP ((cmpS (gT p j).1 (gT p (j - 1)).1 : Int) < 0) ?_ ?_
   ·
    intro h7
    refine Yq 16 1 <| Ydn <| ZT <| Zk <| Zq <| WE.block <| ZE [9, 13] [] [15, 17] 18 ?_
    intro w8 F9 _
    have HR := (HR.k F6).k F9
    refine Yr0 [0, 1, 2, 3, 4] [(41, J (IntKind.i64.wrap ((j : Int) - 1))), (40, J (j : Int)), (39, .slice (some ⟨gb, 0, none⟩) n cap), (38, J (j : Int)), (37, .slice (some ⟨gb, 0, none⟩) n cap)] <| WO.top (v' := J ((j - 1 : Nat) : Int)) (wrap_i64 (by omega) (by omega)) <| Yr0 [5, 6, 7] [(44, J (IntKind.i64.wrap ((j : Int) - 1))), (43, J (j : Int)), (42, .slice (some ⟨gb, 0, none⟩) n cap)] <| WO.top (v' := J ((j - 1 : Nat) : Int)) (wrap_i64 (by omega) (by omega)) <| Yib 8 45 ((j - 1) * 2) gb 0 n 2 ((j - 1 : Nat) : Int) <| Ylr 9 46 [.string (str (gT p (j - 1)).1), .string (str (gT p (j - 1)).2)] gb (j - 1) 2 ((j - 1) * 2) (same HR) (by rw [List.length_map]; have := hpl; omega) (map_gT p (j - 1) (by have := hpl; omega)) (by kernel_rfl) <| Yq 10 2 <| Yib 12 49 (j * 2) gb 0 n 2 (j : Int) <| Ylr 13 50 [.string (str (gT p j).1), .string (str (gT p j).2)] gb j 2 (j * 2) (same HR) (by rw [List.length_map]; have := hpl; omega) (map_gT p j (by have := hpl; omega)) (by kernel_rfl) <| Yib 14 51 (j * 2) gb 0 n 2 (j : Int) <| Ysr 15 gb j (j * 2) [.string (str (gT p (j - 1)).1), .string (str (gT p (j - 1)).2)] HR (by rw [List.length_map]; have := hpl; omega) ?_
    intro w10 HR12 F11 _
    have HR12 : RowB w10 gb 143 2 cap ((p.set j (gT p (j - 1))).map cT) := by rw [List.map_set]; exact HR12
    refine Yib 16 52 ((j - 1) * 2) gb 0 n 2 ((j - 1 : Nat) : Int) <| Ysr 17 gb (j - 1) ((j - 1) * 2) [.string (str (gT p j).1), .string (str (gT p j).2)] HR12 (by rw [List.length_map]; have := (show (p.set j (gT p (j - 1))).length = p.length from List.length_set).trans (hpl); omega) ?_
    intro w13 HR15 F14 _
    have HR15 : RowB w13 gb 143 2 cap (((p.set j (gT p (j - 1))).set (j - 1) (gT p j)).map cT) := by rw [List.map_set]; exact HR15
    refine Yd <| WQ.blkN <| Zn <| WE.region <| Zr 1 <| Zw 36 ((j : Int) - 1) ((j - 1 : Nat) : Int) <| Zr 1 <| Zd ?_
    have hstep := ins_step hsl hq2 (by omega)
    have hgt2 := ins_gt hsl hq2 (by omega) hgt (cmpS_neg.1 h7)
    refine WQ.round ?_
    intro a_ ha_
    refine ⟨(j - 1, ((p.set j (gT p (j - 1))).set (j - 1) (gT p j))), ?_, ha_.keep [0, 1, 2, 3, 8, 9] (by kernel_rfl), ?_⟩
    ·
     show j - 1 < j; omega
    ·
     exact ⟨by omega, (show ((p.set j (gT p (j - 1))).set (j - 1) (gT p j)).length = (p.set j (gT p (j - 1))).length from List.length_set).trans ((show (p.set j (gT p (j - 1))).length = p.length from List.length_set).trans (hpl)), hstep, hgt2, HR15, (((HA.step0 F9).step F11 (inSL (by simp) inS0)).step F14 (inSL (by simp) inS0))⟩
   intro h7
   refine Yq 16 1 <| Ydn <| ZF <| WE.exit <| WQ.thenE <| WQ.thenE <| WQ.blkE <| WQ.blkN <| Zn ?_
   have hno_ := ins_no hsl hq2 (by omega) (cmpS_not h7)
   refine WE.region <| Zr 1 <| Zw 16 ((i : Int) + 1) ((i + 1 : Nat) : Int) <| Zr 1 <| Zd ?_
   have hfin := ins_done hsl hq2 hps has hgt (.inr hno_) (by omega)
   refine WQ.round ?_
   intro a_ ha_
   refine ⟨(i + 1, p), ?_, ha_.keep [0, 1, 2, 3, 8] (by kernel_rfl), ?_⟩
   ·
    show n - (i + 1) < n - i; omega
   ·
    exact ⟨by omega, hpl, hfin, (HR.k F6), HA⟩
  intro h4
  refine Yq 3 14 <| Ydn <| ZF <| WE.exit <| WQ.thenE <| WQ.thenE <| WQ.blkE <| WQ.blkN <| Zn <| WE.region <| Zr 1 <| Zw 16 ((i : Int) + 1) ((i + 1 : Nat) : Int) <| Zr 1 <| Zd ?_
  have hfin := ins_done hsl hq2 hps has hgt (.inl (by omega)) (by omega)
  refine WQ.round ?_
  intro a_ ha_
  refine ⟨(i + 1, p), ?_, ha_.keep [0, 1, 2, 3, 8] (by kernel_rfl), ?_⟩
  ·
   show n - (i + 1) < n - i; omega
  ·
   exact ⟨by omega, hpl, hfin, (HR.k F3), (HA.step0 F3)⟩
 intro h1
 refine Zdn <| ZF <| WE.exit <| WQ.thenE <| WQ.thenE <| WQ.blkE <| ZV (.tuple #[]) ?_
 obtain rfl : i = n := by omega
 rw [List.drop_of_length_le (by omega), List.append_nil] at hq
 rw [List.take_of_length_le (by omega)] at hps
 exact ⟨rfl, s, hps, has, hq ▸ HR, HA⟩
set_option maxRecDepth 100000 in
set_option maxHeartbeats 400000 in
theorem isort_0 (A : Option Addr) (cap : Nat) (w : World) :
    Calls Tryz.prog 160 #[.slice A 0 cap, .int .i64 0, .int .i64 0, .func (.func 118) #[] #[]] w fun e w' => e = .returned (.tuple #[]) ∧ Fr [] w w' := by
 have HA := Fr.refl [] w
 refine Ze Tryz.func160 _ <| Zsg <| Zr 3 <| Zdn <| WE.block <| WE.unroll <| WL.go <| Zq <| Zsg <| Zr 3 <| Zdn <| ZF <| WE.exit <| WQ.thenE <| WQ.thenE <| WQ.blkE <| ZV (.tuple #[]) ?_
 exact ⟨rfl, HA⟩
set_option maxRecDepth 100000 in
set_option maxHeartbeats 400000 in
theorem pdq_t (gb n cap : Nat) (lim : Int) (q0 : List (L × L)) (w : World) (HR : RowB w gb 143 2 cap (q0.map cT)) (hn : q0.length = n) (h0 : 0 < n) (hm : n ≤ 12) :
    Calls Tryz.prog 145 #[.slice (some ⟨gb, 0, none⟩) n cap, .int .i64 0, .int .i64 (n : Int), .int .i64 lim, .func (.func 118) #[] #[]] w fun e w' => e = .returned (.tuple #[]) ∧ ∃ q, q.Perm q0 ∧ Asc q ∧ RowB w' gb 143 2 cap (q.map cT) ∧ Fr [gb] w w' := by
 have HA := Fr.refl [gb] w
 refine Ze Tryz.func145 _ <| Zsg <| Zr 1 <| Zdn <| Zsg <| Zr 1 <| Zdn <| WE.block <| WE.unroll <| WL.go <| WE.block <| Zsg <| Zr 2 <| Zw 23 ((n : Int) - 0) (n : Int) <| Zr 1 <| Zdn <| Zq <| Zsg <| Zr 1 <| ZoPT 25 (((n : Int) : Int) ≤ (12 : Int)) (by omega) <| Zdn <| ZT <| Zsg <| Zr 4 <| Zc 30 (isort_t gb n cap q0 _ HR hn h0 (by omega)) ?_
 rintro _ w1 ⟨rfl, q, hp, ha, HRn, F2⟩
 refine ⟨_, rfl, trivial, Zdn <| WE.ret <| WQ.thenR <| WQ.blkR <| WQ.thenR <| WQ.blkR <| ZR (.tuple #[]) ?_⟩
 exact ⟨rfl, q, hp, ha, HRn, (HA.step F2 (inSL (by simp) inS0))⟩
set_option maxRecDepth 100000 in
set_option maxHeartbeats 400000 in
theorem pdq_0 (A : Option Addr) (cap : Nat) (lim : Int) (w : World) :
    Calls Tryz.prog 145 #[.slice A 0 cap, .int .i64 0, .int .i64 0, .int .i64 lim, .func (.func 118) #[] #[]] w fun e w' => e = .returned (.tuple #[]) ∧ Fr [] w w' := by
 have HA := Fr.refl [] w
 refine Ze Tryz.func145 _ <| Zsg <| Zr 1 <| Zdn <| Zsg <| Zr 1 <| Zdn <| WE.block <| WE.unroll <| WL.go <| WE.block <| Zsg <| Zr 4 <| Zdn <| Zq <| Zsg <| Zr 2 <| Zdn <| ZT <| Zsg <| Zr 4 <| Zcf 30 (isort_0 A cap _) ?_
 intro w1 F2
 refine Zdn <| WE.ret <| WQ.thenR <| WQ.blkR <| WQ.thenR <| WQ.blkR <| ZR (.tuple #[]) ?_
 exact ⟨rfl, (HA.step0 F2)⟩
set_option maxRecDepth 100000 in
set_option maxHeartbeats 400000 in
theorem sortf_t (gb n cap : Nat) (q0 : List (L × L)) (w : World) (HR : RowB w gb 143 2 cap (q0.map cT)) (hn : q0.length = n) (h0 : 0 < n) (hm : n ≤ 12) :
    Calls Tryz.prog 117 #[.slice (some ⟨gb, 0, none⟩) n cap, .func (.func 118) #[] #[]] w fun e w' => e = .returned (.tuple #[]) ∧ ∃ q, q.Perm q0 ∧ Asc q ∧ RowB w' gb 143 2 cap (q.map cT) ∧ Fr [gb] w w' := by
 have HA := Fr.refl [gb] w
 refine Ze Tryz.func117 _ <| Zsg <| Zr 3 <| Zdn <| WE.region <| Zr 3 <| Zwur 10 (n : Int) (n : Int) <| Zc 11 (Tryz.bits_Len (n : Int) _ (by omega) (by omega)) ?_
 rintro _ w1 ⟨rfl, hw_⟩
 have F2 : Fr [] w w1 := by rw [hw_]; exact Fr.refl [] _
 refine ⟨_, rfl, trivial, Zr 1 <| Zc 13 (pdq_t gb n cap ((Lib.bitLen ((n : Int)).toNat : Nat) : Int) q0 _ (HR.k F2) hn h0 hm) ?_⟩
 rintro _ w3 ⟨rfl, q, hp, ha, HRn, F4⟩
 refine ⟨_, rfl, trivial, Zd <| ZV (.tuple #[]) ?_⟩
 exact ⟨rfl, q, hp, ha, HRn, ((HA.step0 F2).step F4 (inSL (by simp) inS0))⟩
set_option maxRecDepth 100000 in
set_option maxHeartbeats 400000 in
theorem sortf_0 (A : Option Addr) (cap : Nat) (w : World) :
    Calls Tryz.prog 117 #[.slice A 0 cap, .func (.func 118) #[] #[]] w fun e w' => e = .returned (.tuple #[]) ∧ Fr [] w w' := by
 have HA := Fr.refl [] w
 refine Ze Tryz.func117 _ <| Zsg <| Zr 3 <| Zdn <| WE.region <| Zr 3 <| Zo 10 (.int .u64 0) <| Zc 11 (Tryz.bits_Len (0 : Int) _ (by omega) (by omega)) ?_
 rintro _ w1 ⟨rfl, hw_⟩
 have F2 : Fr [] w w1 := by rw [hw_]; exact Fr.refl [] _
 refine ⟨_, rfl, trivial, Zr 1 <| Zcf 13 (pdq_0 A cap ((Lib.bitLen ((0 : Int)).toNat : Nat) : Int) _) ?_⟩
 intro w3 F4
 refine Zd <| ZV (.tuple #[]) ?_
 exact ⟨rfl, ((HA.step0 F2).step0 F4)⟩
end Go.Proofs.YtdhonbahpcmmnaaGreatDoor.Line
end
