/- Layer 14 in full: the class of any key, and of any event. -/
import Derived.Test.YtdhonbahpcmmnaaGreatDoorSerL
import Derived.Test.YtdhonbahpcmmnaaGreatDoorEngC
import Derived.Test.YtdhonbahpcmmnaaGreatDoorLinePure
import Derived.Test.YtdhonbahpcmmnaaGreatDoorWMore
import Derived.Test.YtdhonbahpcmmnaaGreatDoorProg
section
set_option linter.unusedVariables false
set_option linter.unusedSimpArgs false
namespace Go.Proofs.YtdhonbahpcmmnaaGreatDoor.Line
open Go Go.RowKit Go.Proofs.YtdhonbahpcmmnaaGreatDoor Go.Proofs.YtdhonbahpcmmnaaGreatDoor.Eng Go.Proofs.YtdhonbahpcmmnaaGreatDoorW.PrintWords
open Go.Proofs
def okR (cl : Int) (r : L × Int) : Bool := decide (r.1.length ≤ 300 ∧ 0 ≤ r.2 ∧ r.2 < cl)
theorem canon_code {e : Ev} {c : Int} (h : canonE e = .inr c) : c = 1 ∨ c = 5 := by
  unfold canonE at h
  split at h
  · injection h with h; exact .inl h.symm
  · split at h
    · injection h with h; exact .inr h.symm
    · cases h
theorem key_cases (e : Ev) : (∃ k, keyE e = .inl k) ∨ keyE e = .inr 1 ∨ keyE e = .inr 5 := by
  unfold keyE
  cases h : canonE e with
  | inl c => exact .inl ⟨_, rfl⟩
  | inr c => rcases canon_code h with rfl | rfl <;> simp
def ResD (w w' : World) (e : Ending) : Sum Ev Int → Prop
  | .inr c => e = .returned (.tuple #[.agg #[.string (⟨#[]⟩), .slice none 0 0, .int .i64 0, .int .i64 0, .int .i64 0], .int .i64 c]) ∧ Fr [] w w'
  | .inl ev => ∃ A n cp F, e = .returned (.tuple #[.agg #[.string (str ev.name), .slice A n cp, .int .i64 ev.kind, .int .i64 ev.value, .int .i64 ev.time], .int .i64 0]) ∧ VX cT 2 w' F A ev.tags ∧ ev.tags.length = n ∧ n ≤ cp ∧ (∀ y ∈ F, w.heap.size ≤ y) ∧ Fr [] w w'
def ResKR (w w' : World) (e : Ending) : Sum L Int → Prop
  | .inr c => e = .returned (.tuple #[.string ⟨#[]⟩, .int .i64 c]) ∧ Fr [] w w'
  | .inl k => e = .returned (.tuple #[.string (str k), .int .i64 0]) ∧ Fr [] w w'
theorem ins_at_k {x : L × L} : ∀ {s : Tgs} {j : Nat}, j ≤ s.length → (∀ m, m < j → ltS (gT s m).1 x.1 = true) → (s.length ≤ j ∨ (j < s.length ∧ ltS (gT s j).1 x.1 = false)) → s.take j ++ x :: s.drop j = insK x s
  | [], j, _, _, _ => by simp [insK]
  | y :: s, 0, _, _, h => by
    have hy : ltS y.1 x.1 = false := by
      rcases h with h | h
      · simp at h
      · exact h.2
    unfold insK
    rw [if_neg (by rw [hy]; simp)]
    rfl
  | y :: s, j + 1, hj, hl, h => by
    have hy : ltS y.1 x.1 = true := hl 0 (by omega)
    unfold insK
    rw [if_pos hy]
    have := ins_at_k (x := x) (s := s) (j := j) (by simp at hj; omega) (fun m hm => hl (m + 1) (by omega)) (h.imp (fun h => by simp at h; omega) (fun h => ⟨by have := h.1; simp at this; omega, h.2⟩))
    simp only [List.take_succ_cons, List.drop_succ_cons, List.cons_append, this]
theorem sort_next {q : Tgs} {i : Nat} (h : i < q.length) : sortK (q.take (i + 1)) = insK (gT q i) (sortK (q.take i)) := by
  unfold sortK
  rw [List.take_add_one, gT_some q i h, List.foldl_append]
  rfl
theorem ins_strA {x : L × L} {s : Tgs} {j : Nat} (hs : StrA s) (hj : j ≤ s.length) (hl : ∀ m, m < j → ltS (gT s m).1 x.1 = true) (hg : s.length ≤ j ∨ (j < s.length ∧ ltS (gT s j).1 x.1 = false ∧ (gT s j).1 ≠ x.1)) : StrA (insK x s) := by
  rw [← ins_at_k hj hl (hg.imp id fun h => ⟨h.1, h.2.1⟩)]
  have hs2 : StrA (s.take j ++ s.drop j) := by rw [List.take_append_drop]; exact hs
  obtain ⟨a1, a2, a3⟩ := List.pairwise_append.1 hs2
  have hx : ∀ z ∈ s.drop j, ltS x.1 z.1 = true := by
    rcases hg with hg | ⟨hlt, hg1, hg2⟩
    · intro z hz
      rw [List.drop_of_length_le hg] at hz
      cases hz
    · have hd : s.drop j = gT s j :: s.drop (j + 1) := by
        have e : s[j] = gT s j := by
          have := gT_some s j hlt
          rw [List.getElem?_eq_getElem hlt] at this
          exact Option.some.inj this
        rw [List.drop_eq_getElem_cons hlt, e]
      have hxj : ltS x.1 (gT s j).1 = true := by
        cases h : ltS x.1 (gT s j).1 with
        | true => rfl
        | false => exact absurd (ltS_tri _ _ hg1 h) hg2
      rw [hd] at a2 ⊢
      intro z hz
      rcases List.mem_cons.1 hz with rfl | hz
      · exact hxj
      · exact ltS_trans _ _ _ hxj ((List.pairwise_cons.1 a2).1 z hz)
  refine List.pairwise_append.2 ⟨a1, List.pairwise_cons.2 ⟨hx, a2⟩, fun z hz u hu => ?_⟩
  rcases List.mem_cons.1 hu with rfl | hu
  · obtain ⟨m, hm, rfl⟩ := List.getElem_of_mem hz
    rw [List.length_take] at hm
    have := hl m (by omega)
    have e : (s.take j)[m] = gT s m := by
      have h1 := gT_some s m (by omega)
      rw [List.getElem_take]
      rw [List.getElem?_eq_getElem (by omega)] at h1
      exact Option.some.inj h1
    rw [e]
    exact this
  · exact a3 z hz u hu
theorem canon_dup {ev : Ev} {acc : Tgs} {i j : Nat} (hm : mayE ev = true) (ha : acc = sortK (ev.tags.take i)) (hi : i < ev.tags.length) (hj : j < acc.length) (he : (gT acc j).1 = (gT ev.tags i).1) : canonE ev = .inr 5 := by
  rw [canon_of (sortK_perm _) (sortK_asc _) hm]
  cases hd : dupA (sortK ev.tags) with
  | true => rfl
  | false =>
    exfalso
    have hn := (asc_nodup (sortK_asc ev.tags)).1 hd
    rw [((sortK_perm ev.tags).map Prod.fst).nodup_iff] at hn
    have hp : ev.tags.Perm (acc ++ ev.tags.drop i) := by
      have h1 := (sortK_perm (ev.tags.take i)).append_right (ev.tags.drop i)
      rw [List.take_append_drop, ← ha] at h1
      exact h1.symm
    rw [(hp.map Prod.fst).nodup_iff, List.map_append, List.nodup_append] at hn
    refine hn.2.2 (gT acc j).1 (List.mem_map.2 ⟨_, gT_mem hj, rfl⟩) (gT ev.tags i).1 ?_ he
    refine List.mem_map.2 ⟨gT ev.tags i, ?_, rfl⟩
    have e : ev.tags[i] = gT ev.tags i := by
      have := gT_some ev.tags i hi
      rw [List.getElem?_eq_getElem hi] at this
      exact Option.some.inj this
    rw [List.drop_eq_getElem_cons hi, e]
    simp
set_option maxRecDepth 100000 in
set_option maxHeartbeats 400000 in
theorem rcanon_bad (ev : Ev) (A : Option Addr) (n cp : Nat) (F : List Nat) (w : World) (HT : VX cT 2 w F A ev.tags) (hn : ev.tags.length = n) (hnn : n ≤ 9223372036854775807) (hln : ev.name.length ≤ 9223372036854775807) (hlt : ∀ t ∈ ev.tags, t.1.length ≤ 9223372036854775807 ∧ t.2.length ≤ 9223372036854775807) (hmay : mayE ev = false) :
    Calls Tryz.prog 107 #[.agg #[.string (str ev.name), .slice A n cp, .int .i64 ev.kind, .int .i64 ev.value, .int .i64 ev.time]] w fun e w' => e = .returned (.tuple #[.agg #[.string (⟨#[]⟩), .slice none 0 0, .int .i64 0, .int .i64 0, .int .i64 0], .int .i64 1]) ∧ Fr [] w w' := by
 have HA := Fr.refl [] w
 refine Ze Tryz.func107 _ <| Zsg <| Zb 1 #[.string (str ev.name), .slice A n cp, J ev.kind, J ev.value, J ev.time] 91 (fun g => Pt g 0) ?_
 intro g1 w2 HB4 F3 le5 _
 refine Zb 2 #[.string (⟨#[]⟩), .slice none 0 0, J 0, J 0, J 0] 91 (fun g => Pt g 0) ?_
 intro g6 w7 HB9 F8 le10 _
 have HA := HA.step0 F3
 have ge_HA_g6 := Nat.le_trans HA.size le10
 refine Zr 1 <| Zdn <| Zsg <| Zlb 9 [.string (str ev.name), .slice A n cp, J ev.kind, J ev.value, J ev.time] g1 0 (same (HB4.k F8)) <| Zc 10 (may_r ev A n cp F _ ((HT.keep F3 dj0).keep F8 dj0) hn hnn hln hlt) ?_
 rintro _ w11 ⟨rfl, F12⟩
 rw [hmay]
 refine ⟨_, rfl, trivial, Zr 1 <| Zdn <| Zq <| Zsg <| Zr 2 <| Zdn <| ZT <| Zsg <| Zr 1 <| Zst g6 0 #[.string (⟨#[]⟩), .slice none 0 0, J 0, J 0, J 0] (HB9.k F12) ?_⟩
 intro w13 HB15 F14 _
 refine Zr 1 <| Zdn <| WE.ret <| WQ.thenR <| WQ.ret2 (fn := Tryz.f107) (show Tryz.f107.results = #[.cell 2 91, .tmp 3] by kernel_rfl) (show resOk _ _ _ _ (.agg #[.string (⟨#[]⟩), .slice none 0 0, J 0, J 0, J 0]) from ⟨by kernel_rfl, ⟨g6, 0, none⟩, by kernel_rfl, ldVarB [.string (⟨#[]⟩), .slice none 0 0, J 0, J 0, J 0] (by kernel_rfl) (by kernel_rfl) (by kernel_rfl) HB15 (by kernel_rfl)⟩) (show resOk _ _ _ _ (J 1) from ⟨by kernel_rfl, by kernel_rfl⟩) ?_
 exact ⟨rfl, (((HA.step0 F8).step0 F12).step F14 (inSR ge_HA_g6 inS0))⟩
set_option maxRecDepth 100000 in
set_option maxHeartbeats 1000000 in
theorem rcanon_ok (ev : Ev) (A : Option Addr) (n cp : Nat) (F : List Nat) (w : World) (HT : VX cT 2 w F A ev.tags) (hn : ev.tags.length = n) (hnn : n ≤ 9223372036854775807) (hln : ev.name.length ≤ 9223372036854775807) (hlt : ∀ t ∈ ev.tags, t.1.length ≤ 9223372036854775807 ∧ t.2.length ≤ 9223372036854775807) (hmay : mayE ev = true) :
    Calls Tryz.prog 107 #[.agg #[.string (str ev.name), .slice A n cp, .int .i64 ev.kind, .int .i64 ev.value, .int .i64 ev.time]] w fun e w' => ResD w w' e (canonE ev) := by
 have h6_ := (may_parts hmay).2.2.1
 have HA := Fr.refl [] w
 refine Ze Tryz.func107 _ <| Zsg <| Zb 1 #[.string (str ev.name), .slice A n cp, J ev.kind, J ev.value, J ev.time] 91 (fun g => Pt g 0) ?_
 intro g1 w2 HB4 F3 le5 _
 have ge_HA_g1 := Nat.le_trans HA.size le5
 refine Zb 2 #[.string (⟨#[]⟩), .slice none 0 0, J 0, J 0, J 0] 91 (fun g => Pt g 0) ?_
 intro g6 w7 HB9 F8 le10 _
 have ne_g1_g6 := ltn HB4.lt le10
 have HA := HA.step0 F3
 have ge_HA_g6 := Nat.le_trans HA.size le10
 have HB4 := HB4.k F8
 have HT := (HT.keep F3 dj0).keep F8 dj0
 refine Zr 1 <| Zdn <| Zsg <| Zlb 9 [.string (str ev.name), .slice A n cp, J ev.kind, J ev.value, J ev.time] g1 0 (same HB4) <| Zc 10 (may_r ev A n cp F _ HT hn hnn hln hlt) ?_
 rintro _ w11 ⟨rfl, F12⟩
 rw [hmay]
 refine ⟨_, rfl, trivial, Zr 1 <| Zdn <| Zq <| Zsg <| Zr 2 <| Zdn <| ZF <| Zk <| Zsg <| Zr 1 <| Zdn <| Zq <| Zsg <| Zr 1 <| Zdn <| WE.block ?_⟩
 refine WE.loop (α := Nat × List Nat × Option Addr × Nat × (List (L × L))) (E := fun ⟨i, FT, At, ct, acc⟩ => [(1, Pt g1 0), (2, Pt g6 0), (3, J 0), (5, .slice At acc.length ct), (6, J (i : Int))]) (I := fun ⟨i, FT, At, ct, acc⟩ wr => i ≤ n ∧ acc = sortK (ev.tags.take i) ∧ StrA acc ∧ Blk wr g1 #[.string (str ev.name), .slice A n cp, J ev.kind, J ev.value, J ev.time] 91 ∧ Blk wr g6 #[.string (⟨#[]⟩), .slice none 0 0, J 0, J 0, J 0] 91 ∧ VX cT 2 wr F A ev.tags ∧ OwnX 143 2 wr FT (.slice At acc.length ct) (List.map cT acc) ∧ g1 ∉ FT ∧ g6 ∉ FT ∧ (∀ y ∈ FT, y ∉ F) ∧ (∀ y ∈ FT, (World.heap w).size ≤ y) ∧ Fr [] w wr) (m := fun ⟨i, FT, At, ct, acc⟩ => n - i) (0, [], none, 0, []) [1, 2, 3, 5, 6] (by kernel_rfl) ?_ ?_
 ·
  exact ⟨by omega, rfl, List.Pairwise.nil, (HB4.k F12), (HB9.k F12), (HT.keep F12 dj0), OwnX.nil _ _ _, (by simp), (by simp), (by simp), (by simp), ((HA.step0 F8).step0 F12)⟩
 rintro ⟨i, FT, At, ct, acc⟩ wr ⟨hi, hacc, hstr, HB4, HB9, HT, HO_FT, nin_g1_FT, nin_g6_FT, dj_FT_F, ge_HA_FT, HA⟩
 have hcap_ := own_cap HO_FT (List.length_map _)
 have haccl : acc.length = i := by rw [hacc, (sortK_perm _).length_eq, List.length_take]; omega
 refine Zq <| Zsg <| Zr 2 <| Zl 16 (.slice A n cp) (HB4.s 1) <| Zr 1 <| ZoP 18 (((i : Int) : Int) < (n : Int)) ?_ ?_
 ·
  intro h13
  refine Zdn <| ZT <| Zk <| Zq <| WE.block <| Zq ?_
  have HV14 := VX.of_own HO_FT
  refine WE.region <| Zr 1 <| Zdn <| WE.seqJ (α := Nat) (E := fun j => [(1, Pt g1 0), (2, Pt g6 0), (3, J 0), (5, .slice At acc.length ct), (6, J (i : Int)), (7, J (j : Int))]) (I := fun j wr => j ≤ acc.length ∧ (∀ m, m < j → ltS (gT acc m).1 (gT ev.tags i).1 = true) ∧ (acc.length ≤ j ∨ (j < acc.length ∧ ltS (gT acc j).1 (gT ev.tags i).1 = false)) ∧ Blk wr g1 #[.string (str ev.name), .slice A n cp, J ev.kind, J ev.value, J ev.time] 91 ∧ Blk wr g6 #[.string (⟨#[]⟩), .slice none 0 0, J 0, J 0, J 0] 91 ∧ VX cT 2 wr F A ev.tags ∧ OwnX 143 2 wr FT (.slice At acc.length ct) (List.map cT acc) ∧ VX cT 2 wr FT At acc ∧ Fr [] w wr) ?_ ?_
  ·
   rintro j wr ⟨hj, hlt2, hge2, HB4, HB9, HT, HO_FT, HV14, HA⟩
   refine WE.seqJ (α := Unit) (E := fun _ => [(1, Pt g1 0), (2, Pt g6 0), (3, J 0), (5, .slice At acc.length ct), (6, J (i : Int)), (7, J (j : Int))]) (I := fun _ wr => (acc.length ≤ j ∨ (j < acc.length ∧ ltS (gT acc j).1 (gT ev.tags i).1 = false ∧ (gT acc j).1 ≠ (gT ev.tags i).1)) ∧ Blk wr g1 #[.string (str ev.name), .slice A n cp, J ev.kind, J ev.value, J ev.time] 91 ∧ Blk wr g6 #[.string (⟨#[]⟩), .slice none 0 0, J 0, J 0, J 0] 91 ∧ VX cT 2 wr F A ev.tags ∧ OwnX 143 2 wr FT (.slice At acc.length ct) (List.map cT acc) ∧ VX cT 2 wr FT At acc ∧ Fr [] w wr) ?_ ?_
   ·
    rintro _ wr ⟨hne2, HB4, HB9, HT, HO_FT, HV14, HA⟩
    refine Zsg <| Zb 60 #[] 143 (fun g => .slice (some ⟨g, 0, none⟩) 0 0) ?_
    intro g15 w16 HB18 F17 le19 _
    have ne_g1_g15 := ltn HB4.lt le19
    have ne_g6_g15 := ltn HB9.lt le19
    have nin_g15_F := new_nin HT.lt le19
    have nin_g15_FT := new_nin HV14.lt le19
    have ge_HA_g15 := Nat.le_trans HA.size le19
    refine Zr 2 <| Zv 63 0 j At acc.length ct 2 none (some (j : Int)) <| WO.top (sl0 _ _ _ _) ?_
    have HR25 := RowB.of_blk (n := 0) HB18 (List.map cT []) rfl rfl (cT_len _) (cT_one _) (by omega)
    have HV14 := HV14.keep F17 dj0
    refine Zar (n := 0) (m := j) (ys := List.map cT (acc.take j)) 64 et_t HR25 ((List.length_map _).trans ((rfl : List.length ([] : List (L × L)) = 0))) ((HV14.take j).srcN (show (acc.take j).length = j by rw [List.length_take]; have := (rfl : acc.length = _); omega) (cT_len _) (cT_one _) ct) (cT_len _) (cT_one _) ?_
    intro b20 cap21 w22 HR23 F24 hb26
    have HB4 := HB4.k F17
    have ne_g1_b20 : g1 ≠ b20 := hb26.elim (fun h => h ▸ ne_g1_g15) (fun h => Nat.ne_of_lt (Nat.lt_of_lt_of_le HB4.lt h))
    have HB9 := HB9.k F17
    have ne_g6_b20 : g6 ≠ b20 := hb26.elim (fun h => h ▸ ne_g6_g15) (fun h => Nat.ne_of_lt (Nat.lt_of_lt_of_le HB9.lt h))
    have HT := HT.keep F17 dj0
    have nin_b20_F : b20 ∉ F := hb26.elim (fun h => h ▸ nin_g15_F) (fun h => new_nin HT.lt h)
    have nin_b20_FT : b20 ∉ FT := hb26.elim (fun h => h ▸ nin_g15_FT) (fun h => new_nin HV14.lt h)
    have HA := HA.step0 F17
    have in_HA_b20 : b20 ∈ [] ∨ (World.heap w).size ≤ b20 := hb26.elim (fun h => Or.inr (h ▸ ge_HA_g15)) (fun h => Or.inr (Nat.le_trans HA.size h))
    have HR23 : RowB w22 b20 143 2 cap21 ((([] : List (L × L)) ++ (acc.take j)).map cT) := by rw [List.map_append]; exact HR23
    have HB4 := HB4.j F24 ne_g1_g15
    have HT := HT.keep F24 (djB nin_g15_F)
    refine Zr 1 <| Zdn <| Zsg <| Zr 2 <| Zl 67 (.slice A n cp) (HB4.s 1) <| Zr 1 ?_
    obtain ⟨ad27, hA28⟩ := HT.addr (i := i) (by have := hn; omega)
    refine Zio 69 n 2 i (i : Int) hA28 <| Zla (ad := (ad27.add (i * 2))) 70 [.string (str (gT ev.tags i).1), .string (str (gT ev.tags i).2)] (fun _ hw_ _ hj_ => by subst hw_; exact HT.part0 hA28 (gT_some ev.tags i (by have := hn; omega)) [.string (str (gT ev.tags i).1), .string (str (gT ev.tags i).2)] (by kernel_rfl) _ hj_) <| Zb 71 #[.string (str (gT ev.tags i).1), .string (str (gT ev.tags i).2)] 143 (fun g => .slice (some ⟨g, 0, none⟩) 1 1) ?_
    intro g29 w30 HB32 F31 le33 _
    refine Zar (n := (0 + j)) (m := 1) (ys := List.map cT ([(gT ev.tags i)])) 72 et_t (HR23.k F31) ((List.length_map _).trans ((show (([] : List (L × L)) ++ (acc.take j)).length = 0 + j by rw [List.length_append, (rfl : List.length ([] : List (L × L)) = 0)] <;> first | rfl | (have := (rfl : List.length ([] : List (L × L)) = 0); simp <;> omega)))) (RowB.src (RowB.of_blk (n := 1) HB32 (List.map cT [(gT ev.tags i)]) rfl rfl (cT_len _) (cT_one _) (by omega))) (cT_len _) (cT_one _) ?_
    intro b34 cap35 w36 HR37 F38 hb39
    have HB4 := HB4.k F31
    have ne_g1_b34 : g1 ≠ b34 := hb39.elim (fun h => h ▸ ne_g1_b20) (fun h => Nat.ne_of_lt (Nat.lt_of_lt_of_le HB4.lt h))
    have HB9 := (HB9.j F24 ne_g6_g15).k F31
    have ne_g6_b34 : g6 ≠ b34 := hb39.elim (fun h => h ▸ ne_g6_b20) (fun h => Nat.ne_of_lt (Nat.lt_of_lt_of_le HB9.lt h))
    have HT := HT.keep F31 dj0
    have nin_b34_F : b34 ∉ F := hb39.elim (fun h => h ▸ nin_b20_F) (fun h => new_nin HT.lt h)
    have HA := (HA.step F24 (inSR ge_HA_g15 inS0)).step0 F31
    have in_HA_b34 : b34 ∈ [] ∨ (World.heap w).size ≤ b34 := hb39.elim (fun h => (h ▸ in_HA_b20)) (fun h => Or.inr (Nat.le_trans HA.size h))
    have HR37 : RowB w36 b34 143 2 cap35 (((([] : List (L × L)) ++ (acc.take j)) ++ [(gT ev.tags i)]).map cT) := by rw [List.map_append]; exact HR37
    refine Zr 1 <| Zdn <| WE.region <| Zr 3 <| Zv 76 j acc.length At acc.length ct 2 (some (j : Int)) none <| Zar (n := (0 + j + 1)) (m := (acc.length - j)) (ys := List.map cT ((acc.drop j).take (acc.length - j))) 77 et_t HR37 ((List.length_map _).trans ((show ((([] : List (L × L)) ++ (acc.take j)) ++ [(gT ev.tags i)]).length = 0 + j + 1 by rw [List.length_append, (show (([] : List (L × L)) ++ (acc.take j)).length = 0 + j by rw [List.length_append, (rfl : List.length ([] : List (L × L)) = 0)] <;> first | rfl | (have := (rfl : List.length ([] : List (L × L)) = 0); simp <;> omega))] <;> first | rfl | (have := (show (([] : List (L × L)) ++ (acc.take j)).length = 0 + j by rw [List.length_append, (rfl : List.length ([] : List (L × L)) = 0)] <;> first | rfl | (have := (rfl : List.length ([] : List (L × L)) = 0); simp <;> omega)); simp <;> omega)))) ((((((HV14.keep F24 (djB nin_g15_FT)).keep F31 dj0).keep F38 (djB nin_b20_FT)).drop j ct (by have := (rfl : acc.length = _); omega) (by have := (rfl : acc.length = _); omega)).take (acc.length - j)).srcN (show ((acc.drop j).take (acc.length - j)).length = acc.length - j by rw [List.length_take, List.length_drop]; have := (rfl : acc.length = _); omega) (cT_len _) (cT_one _) (ct - j)) (cT_len _) (cT_one _) ?_
    intro b40 cap41 w42 HR43 F44 hb45
    have HB4 := HB4.j F38 ne_g1_b20
    have ne_g1_b40 : g1 ≠ b40 := hb45.elim (fun h => h ▸ ne_g1_b34) (fun h => Nat.ne_of_lt (Nat.lt_of_lt_of_le HB4.lt h))
    have HB9 := HB9.j F38 ne_g6_b20
    have ne_g6_b40 : g6 ≠ b40 := hb45.elim (fun h => h ▸ ne_g6_b34) (fun h => Nat.ne_of_lt (Nat.lt_of_lt_of_le HB9.lt h))
    have HT := HT.keep F38 (djB nin_b20_F)
    have nin_b40_F : b40 ∉ F := hb45.elim (fun h => h ▸ nin_b34_F) (fun h => new_nin HT.lt h)
    have HA := HA.step F38 (inSD in_HA_b20 inS0)
    have in_HA_b40 : b40 ∈ [] ∨ (World.heap w).size ≤ b40 := hb45.elim (fun h => (h ▸ in_HA_b34)) (fun h => Or.inr (Nat.le_trans HA.size h))
    have HR43 : RowB w42 b40 143 2 cap41 ((((([] : List (L × L)) ++ (acc.take j)) ++ [(gT ev.tags i)]) ++ ((acc.drop j).take (acc.length - j))).map cT) := by rw [List.map_append]; exact HR43
    refine Zr 1 <| Zd <| WQ.blkN <| Zn ?_
    have hins_ := ins_at_k hj hlt2 (hne2.imp id (fun h_ => ⟨h_.1, h_.2.1⟩))
    have heq_ : (((([] : List (L × L)) ++ (acc.take j)) ++ [(gT ev.tags i)]) ++ ((acc.drop j).take (acc.length - j))) = insK (gT ev.tags i) acc := by rw [← hins_]; simp [List.take_of_length_le]
    have hac2 : (((([] : List (L × L)) ++ (acc.take j)) ++ [(gT ev.tags i)]) ++ ((acc.drop j).take (acc.length - j))) = sortK (ev.tags.take (i + 1)) := heq_.trans (by rw [sort_next (by omega), ← hacc])
    have hst2 : StrA (((([] : List (L × L)) ++ (acc.take j)) ++ [(gT ev.tags i)]) ++ ((acc.drop j).take (acc.length - j))) := by rw [heq_]; exact ins_strA hstr hj hlt2 hne2
    refine WE.region <| Zr 1 <| Zw 20 ((i : Int) + 1) ((i + 1 : Nat) : Int) <| Zr 1 <| Zd <| WQ.keep [1, 2, 3, 5, 6] (e' := [(1, Pt g1 0), (2, Pt g6 0), (3, J 0), (5, .slice (some ⟨b40, 0, none⟩) (0 + j + 1 + (acc.length - j)) cap41), (6, J ((i + 1 : Nat) : Int))]) (by kernel_rfl) ?_
    obtain ⟨F46, hF46⟩ : ∃ F_, F_ = [b40] := ⟨_, rfl⟩
    have HO47 : OwnX 143 2 w42 F46 (.slice (some ⟨b40, 0, none⟩) (0 + j + 1 + (acc.length - j)) cap41) ((((([] : List (L × L)) ++ (acc.take j)) ++ [(gT ev.tags i)]) ++ ((acc.drop j).take (acc.length - j))).map cT) := by rw [hF46]; exact OwnX.row HR43 ((List.length_map _).trans ((show (((([] : List (L × L)) ++ (acc.take j)) ++ [(gT ev.tags i)]) ++ ((acc.drop j).take (acc.length - j))).length = 0 + j + 1 + (acc.length - j) by rw [List.length_append, (show ((([] : List (L × L)) ++ (acc.take j)) ++ [(gT ev.tags i)]).length = 0 + j + 1 by rw [List.length_append, (show (([] : List (L × L)) ++ (acc.take j)).length = 0 + j by rw [List.length_append, (rfl : List.length ([] : List (L × L)) = 0)] <;> first | rfl | (have := (rfl : List.length ([] : List (L × L)) = 0); simp <;> omega))] <;> first | rfl | (have := (show (([] : List (L × L)) ++ (acc.take j)).length = 0 + j by rw [List.length_append, (rfl : List.length ([] : List (L × L)) = 0)] <;> first | rfl | (have := (rfl : List.length ([] : List (L × L)) = 0); simp <;> omega)); simp <;> omega))] <;> first | rfl | (have := (show ((([] : List (L × L)) ++ (acc.take j)) ++ [(gT ev.tags i)]).length = 0 + j + 1 by rw [List.length_append, (show (([] : List (L × L)) ++ (acc.take j)).length = 0 + j by rw [List.length_append, (rfl : List.length ([] : List (L × L)) = 0)] <;> first | rfl | (have := (rfl : List.length ([] : List (L × L)) = 0); simp <;> omega))] <;> first | rfl | (have := (show (([] : List (L × L)) ++ (acc.take j)).length = 0 + j by rw [List.length_append, (rfl : List.length ([] : List (L × L)) = 0)] <;> first | rfl | (have := (rfl : List.length ([] : List (L × L)) = 0); simp <;> omega)); simp <;> omega)); simp <;> omega))))
    have nin_g1_F46 := sgN hF46 ne_g1_b40
    have nin_g6_F46 := sgN hF46 ne_g6_b40
    have dj_F46_F := sgD hF46 nin_b40_F
    have ge_HA_F46 := sgG hF46 (in_HA_b40.resolve_left (by simp))
    have hnq48 : (((([] : List (L × L)) ++ (acc.take j)) ++ [(gT ev.tags i)]) ++ ((acc.drop j).take (acc.length - j))).length = 0 + j + 1 + (acc.length - j) := by simp only [List.length_set, List.length_append, List.length_cons, List.length_nil, List.length_take, List.length_drop] <;> omega
    have HO49 : OwnX 143 2 w42 F46 (.slice (some ⟨b40, 0, none⟩) ((((([] : List (L × L)) ++ (acc.take j)) ++ [(gT ev.tags i)]) ++ ((acc.drop j).take (acc.length - j))).length) cap41) (List.map cT (((([] : List (L × L)) ++ (acc.take j)) ++ [(gT ev.tags i)]) ++ ((acc.drop j).take (acc.length - j)))) := by rw [hnq48]; exact HO47
    refine WQ.env (e' := [(1, Pt g1 0), (2, Pt g6 0), (3, J 0), (5, .slice (some ⟨b40, 0, none⟩) ((((([] : List (L × L)) ++ (acc.take j)) ++ [(gT ev.tags i)]) ++ ((acc.drop j).take (acc.length - j))).length) cap41), (6, J ((i + 1 : Nat) : Int))]) (by rw [hnq48]) <| WQ.round ?_
    intro a_ ha_
    refine ⟨(i + 1, F46, (some ⟨b40, 0, none⟩), cap41, (((([] : List (L × L)) ++ (acc.take j)) ++ [(gT ev.tags i)]) ++ ((acc.drop j).take (acc.length - j)))), ?_, ha_.keep [1, 2, 3, 5, 6] (by kernel_rfl), ?_⟩
    ·
     show n - (i + 1) < n - i; omega
    ·
     exact ⟨by omega, hac2, hst2, (HB4.j F44 ne_g1_b34), (HB9.j F44 ne_g6_b34), (HT.keep F44 (djB nin_b34_F)), HO49, nin_g1_F46, nin_g6_F46, dj_F46_F, ge_HA_F46, (HA.step F44 (inSD in_HA_b34 inS0))⟩
   refine Zq <| ZE [9, 11, 15] [] [] 18 ?_
   intro w50 F51 _
   refine Yr0 [0, 1, 2, 3] [(44, .bool (decide (((j : Int) : Int) < (acc.length : Int)))), (43, J (acc.length : Int)), (42, .slice At acc.length ct), (41, J (j : Int))] <| WO.topP (((j : Int) : Int) < (acc.length : Int)) ?_ ?_
   ·
    intro h52
    have HV14 := HV14.keep F51 dj0
    refine Yq 4 3 ?_
    obtain ⟨ad53, hA54⟩ := HV14.addr (i := j) (by have := (rfl : acc.length = _); omega)
    have HB4 := HB4.k F51
    have HT := HT.keep F51 dj0
    refine Yio 7 48 acc.length 2 j (j : Int) hA54 <| Yq 8 1 <| Yl 9 50 (.string (str (gT acc j).1)) (same (HV14.at0 hA54 (gT_some acc j (by have := (rfl : acc.length = _); omega)) (by kernel_rfl))) <| Yq 10 1 <| Yl 11 52 (.slice A n cp) (HB4.s 1) <| Yq 12 1 ?_
    obtain ⟨ad55, hA56⟩ := HT.addr (i := i) (by have := hn; omega)
    refine Yio 13 54 n 2 i (i : Int) hA56 <| Yq 14 1 <| Yl 15 56 (.string (str (gT ev.tags i).1)) (same (HT.at0 hA56 (gT_some ev.tags i (by have := hn; omega)) (by kernel_rfl))) <| Yr0 [16] [(57, .bool ((str (gT acc j).1).toList == (str (gT ev.tags i).1).toList))] <| WO.top (v' := .bool (decide ((str (gT acc j).1) = (str (gT ev.tags i).1)))) (congrArg Value.bool (streq (str (gT acc j).1) (str (gT ev.tags i).1))) <| WO.topP ((str (gT acc j).1) = (str (gT ev.tags i).1)) ?_ ?_
    ·
     intro h57
     refine Yq 17 1 <| Ydn <| ZT <| Zq ?_
     have hdup_ : canonE ev = .inr 5 := canon_dup hmay hacc (by omega) (i := i) (j := j) (by omega) (str_inj.1 (by assumption))
     refine WE.region <| Zr 1 <| Zst g6 0 #[.string (⟨#[]⟩), .slice none 0 0, J 0, J 0, J 0] (HB9.k F51) ?_
     intro w58 HB60 F59 _
     refine Zr 1 <| Zdn <| WE.ret <| WQ.thenR <| WQ.blkR <| WQ.thenR <| WQ.thenR <| WQ.blkR <| WQ.thenR <| WQ.ret2 (fn := Tryz.f107) (show Tryz.f107.results = #[.cell 2 91, .tmp 3] by kernel_rfl) (show resOk _ _ _ _ (.agg #[.string (⟨#[]⟩), .slice none 0 0, J 0, J 0, J 0]) from ⟨by kernel_rfl, ⟨g6, 0, none⟩, by kernel_rfl, ldVarB [.string (⟨#[]⟩), .slice none 0 0, J 0, J 0, J 0] (by kernel_rfl) (by kernel_rfl) (by kernel_rfl) HB60 (by kernel_rfl)⟩) (show resOk _ _ _ _ (J 5) from ⟨by kernel_rfl, by kernel_rfl⟩) ?_
     rw [hdup_]
     exact ⟨rfl, ((HA.step0 F51).step F59 (inSR ge_HA_g6 inS0))⟩
    intro h57
    refine Yq 17 1 <| Ydn <| ZF <| WE.skip <| WQ.round ?_
    intro a_ ha_
    refine ⟨(), ha_.keep [1, 2, 3, 5, 6, 7] (by kernel_rfl), ?_⟩
    exact ⟨by first | exact .inl (by omega) | exact .inr ⟨by omega, hge2.elim (fun h_ => absurd h_ (by omega)) (·.2), fun e_ => absurd (congrArg str e_) (by assumption)⟩, HB4, (HB9.k F51), HT, (HO_FT.keep F51 dj0), HV14, (HA.step0 F51)⟩
   intro h52
   refine Yq 4 14 <| Ydn <| ZF <| WE.skip <| WQ.round ?_
   intro a_ ha_
   refine ⟨(), ha_.keep [1, 2, 3, 5, 6, 7] (by kernel_rfl), ?_⟩
   exact ⟨by first | exact .inl (by omega) | exact .inr ⟨by omega, hge2.elim (fun h_ => absurd h_ (by omega)) (·.2), fun e_ => absurd (congrArg str e_) (by assumption)⟩, (HB4.k F51), (HB9.k F51), (HT.keep F51 dj0), (HO_FT.keep F51 dj0), (HV14.keep F51 dj0), (HA.step0 F51)⟩
  refine WE.block <| WE.loop (α := Nat) (E := fun j => [(1, Pt g1 0), (2, Pt g6 0), (3, J 0), (5, .slice At acc.length ct), (6, J (i : Int)), (7, J (j : Int))]) (I := fun j wr => j ≤ acc.length ∧ (∀ m, m < j → ltS (gT acc m).1 (gT ev.tags i).1 = true) ∧ Blk wr g1 #[.string (str ev.name), .slice A n cp, J ev.kind, J ev.value, J ev.time] 91 ∧ Blk wr g6 #[.string (⟨#[]⟩), .slice none 0 0, J 0, J 0, J 0] 91 ∧ VX cT 2 wr F A ev.tags ∧ OwnX 143 2 wr FT (.slice At acc.length ct) (List.map cT acc) ∧ VX cT 2 wr FT At acc ∧ Fr [] w wr) (m := fun j => acc.length - j) 0 [1, 2, 3, 5, 6, 7] (by kernel_rfl) ?_ ?_
  ·
   exact ⟨by omega, by omega, HB4, HB9, HT, HO_FT, HV14, HA⟩
  rintro j wr ⟨hj, hlt2, HB4, HB9, HT, HO_FT, HV14, HA⟩
  refine Zq <| Zq <| ZE [9, 11, 15] [] [] 18 ?_
  intro w61 F62 _
  refine Yr0 [0, 1, 2, 3] [(24, .bool (decide (((j : Int) : Int) < (acc.length : Int)))), (23, J (acc.length : Int)), (22, .slice At acc.length ct), (21, J (j : Int))] <| WO.topP (((j : Int) : Int) < (acc.length : Int)) ?_ ?_
  ·
   intro h63
   have HV14 := HV14.keep F62 dj0
   refine Yq 4 3 ?_
   obtain ⟨ad64, hA65⟩ := HV14.addr (i := j) (by have := (rfl : acc.length = _); omega)
   have HB4 := HB4.k F62
   have HT := HT.keep F62 dj0
   refine Yio 7 28 acc.length 2 j (j : Int) hA65 <| Yq 8 1 <| Yl 9 30 (.string (str (gT acc j).1)) (same (HV14.at0 hA65 (gT_some acc j (by have := (rfl : acc.length = _); omega)) (by kernel_rfl))) <| Yq 10 1 <| Yl 11 32 (.slice A n cp) (HB4.s 1) <| Yq 12 1 ?_
   obtain ⟨ad66, hA67⟩ := HT.addr (i := i) (by have := hn; omega)
   refine Yio 13 34 n 2 i (i : Int) hA67 <| Yq 14 1 <| Yl 15 36 (.string (str (gT ev.tags i).1)) (same (HT.at0 hA67 (gT_some ev.tags i (by have := hn; omega)) (by kernel_rfl))) <| Yr0 [16] [(37, .bool (Go.Op.bytesLess ((str (gT acc j).1)).toList ((str (gT ev.tags i).1)).toList))] <| WO.top (v' := .bool (ltS ((gT acc j).1) ((gT ev.tags i).1))) (congrArg Value.bool (lss_str ((gT acc j).1) ((gT ev.tags i).1))) <| WO.topB (ltS ((gT acc j).1) ((gT ev.tags i).1)) ?_ ?_
   ·
    intro h68
    refine Yq 17 1 <| Ydn <| ZT <| Zk <| WE.block <| WE.region <| Zr 1 <| Zw 40 ((j : Int) + 1) ((j + 1 : Nat) : Int) <| Zr 1 <| Zd <| WQ.blkN <| WQ.round ?_
    intro a_ ha_
    refine ⟨j + 1, ?_, ha_.keep [1, 2, 3, 5, 6, 7] (by kernel_rfl), ?_⟩
    ·
     show acc.length - (j + 1) < acc.length - j; omega
    ·
     exact ⟨by omega, fun m h_ => (Nat.lt_succ_iff_lt_or_eq.1 h_).elim (hlt2 m) (fun e_ => by rw [e_]; assumption), HB4, (HB9.k F62), HT, (HO_FT.keep F62 dj0), HV14, (HA.step0 F62)⟩
   intro h68
   refine Yq 17 1 <| Ydn <| ZF <| WE.exit <| WQ.thenE <| WQ.thenE <| WQ.blkE <| WQ.round ?_
   intro a_ ha_
   refine ⟨j, ha_.keep [1, 2, 3, 5, 6, 7] (by kernel_rfl), ?_⟩
   exact ⟨hj, hlt2, by first | exact .inl (by omega) | exact .inr ⟨by omega, by assumption⟩, HB4, (HB9.k F62), HT, (HO_FT.keep F62 dj0), HV14, (HA.step0 F62)⟩
  intro h63
  refine Yq 4 14 <| Ydn <| ZF <| WE.exit <| WQ.thenE <| WQ.thenE <| WQ.blkE <| WQ.round ?_
  intro a_ ha_
  refine ⟨j, ha_.keep [1, 2, 3, 5, 6, 7] (by kernel_rfl), ?_⟩
  exact ⟨hj, hlt2, by first | exact .inl (by omega) | exact .inr ⟨by omega, by assumption⟩, (HB4.k F62), (HB9.k F62), (HT.keep F62 dj0), (HO_FT.keep F62 dj0), (HV14.keep F62 dj0), (HA.step0 F62)⟩
 intro h13
 refine Zdn <| ZF <| WE.exit <| WQ.thenE <| WQ.thenE <| WQ.blkE <| Zn <| Zsg <| Zr 2 <| Zst g1 1 #[.string (str ev.name), .slice At acc.length ct, J ev.kind, J ev.value, J ev.time] HB4 ?_
 intro w69 HB71 F70 _
 refine Zdn <| Zsg <| Zlb 80 [.string (str ev.name), .slice At acc.length ct, J ev.kind, J ev.value, J ev.time] g1 0 (same HB71) <| Zst g6 0 #[.string (str ev.name), .slice At acc.length ct, J ev.kind, J ev.value, J ev.time] (HB9.j F70 (Ne.symm ne_g1_g6)) ?_
 intro w72 HB74 F73 _
 refine Zr 1 <| Zdn <| WE.ret <| WQ.ret2 (fn := Tryz.f107) (show Tryz.f107.results = #[.cell 2 91, .tmp 3] by kernel_rfl) (show resOk _ _ _ _ (.agg #[.string (str ev.name), .slice At acc.length ct, J ev.kind, J ev.value, J ev.time]) from ⟨by kernel_rfl, ⟨g6, 0, none⟩, by kernel_rfl, ldVarB [.string (str ev.name), .slice At acc.length ct, J ev.kind, J ev.value, J ev.time] (by kernel_rfl) (by kernel_rfl) (by kernel_rfl) HB74 (by kernel_rfl)⟩) (show resOk _ _ _ _ (J 0) from ⟨by kernel_rfl, by kernel_rfl⟩) ?_
 have hie_ : i = n := by omega
 rw [hie_, List.take_of_length_le (by omega)] at hacc
 rw [show canonE ev = .inl { ev with tags := acc } from by rw [hacc, canon_of (sortK_perm _) (sortK_asc _) hmay, if_neg (by rw [str_dup (by rw [← hacc]; exact hstr)]; simp)]]
 have HO_FT := (HO_FT.keep F70 (djB nin_g1_FT)).keep F73 (djB nin_g6_FT)
 exact ⟨_, _, _, _, rfl, VX.of_own HO_FT, rfl, own_cap HO_FT (List.length_map _), ge_HA_FT, ((HA.step F70 (inSR ge_HA_g1 inS0)).step F73 (inSR ge_HA_g6 inS0))⟩
theorem rcanon_f (ev : Ev) (A : Option Addr) (n cp : Nat) (F : List Nat) (w : World) (HT : VX cT 2 w F A ev.tags) (hn : ev.tags.length = n) (hnn : n ≤ 9223372036854775807) (hln : ev.name.length ≤ 9223372036854775807) (hlt : ∀ t ∈ ev.tags, t.1.length ≤ 9223372036854775807 ∧ t.2.length ≤ 9223372036854775807) :
    Calls Tryz.prog 107 #[.agg #[.string (str ev.name), .slice A n cp, .int .i64 ev.kind, .int .i64 ev.value, .int .i64 ev.time]] w fun e w' => ResD w w' e (canonE ev) := by
  cases hmay : mayE ev with
  | false =>
    rw [canon_no hmay]
    exact (rcanon_bad ev A n cp F w HT hn hnn hln hlt hmay).mono fun e w' h => h
  | true => exact rcanon_ok ev A n cp F w HT hn hnn hln hlt hmay
set_option maxRecDepth 100000 in
set_option maxHeartbeats 400000 in
theorem rkey_f (ev : Ev) (A : Option Addr) (n cp : Nat) (F : List Nat) (w : World) (HT : VX cT 2 w F A ev.tags) (hn : ev.tags.length = n) (hnn : n ≤ 9223372036854775807) (hln : ev.name.length ≤ 9223372036854775807) (hlt : ∀ t ∈ ev.tags, t.1.length ≤ 9223372036854775807 ∧ t.2.length ≤ 9223372036854775807) :
    Calls Tryz.prog 78 #[.agg #[.string (str ev.name), .slice A n cp, .int .i64 ev.kind, .int .i64 ev.value, .int .i64 ev.time]] w fun e w' => ResKR w w' e (keyE ev) := by
 have HA := Fr.refl [] w
 refine Ze Tryz.func78 _ <| Zsg <| Zb 1 #[.string (str ev.name), .slice A n cp, J ev.kind, J ev.value, J ev.time] 91 (fun g => Pt g 0) ?_
 intro g1 w2 HB4 F3 le5 _
 refine Zr 2 <| Zdn <| Zsg <| Zlb 7 [.string (str ev.name), .slice A n cp, J ev.kind, J ev.value, J ev.time] g1 0 (same HB4) <| Zc 8 (rcanon_f ev A n cp F _ (HT.keep F3 dj0) hn hnn hln hlt) ?_
 intro e_ w6 hr_
 cases hc_ : canonE ev
 rotate_left
 ·
  rename_i co
  have hco_ := canon_code hc_
  rw [hc_] at hr_
  obtain ⟨rfl, F7⟩ := hr_
  refine ⟨_, rfl, trivial, Zr 3 <| Zb 4 #[.string (⟨#[]⟩), .slice none 0 0, J 0, J 0, J 0] 91 (fun g => Pt g 0) ?_⟩
  intro g8 w9 HB11 F10 le12 _
  have HA := (HA.step0 F3).step0 F7
  have ge_HA_g8 := Nat.le_trans HA.size le12
  refine Zst g8 0 #[.string (⟨#[]⟩), .slice none 0 0, J 0, J 0, J 0] HB11 ?_
  intro w13 HB15 F14 _
  refine Zr 1 <| Zdn <| Zq <| Zsg <| Zr 1 <| ZoNF 12 ((co : Int) = 0) (by omega) <| Zdn <| ZT <| Zsg <| Zr 3 <| Zdn <| WE.ret <| WQ.thenR <| ZR (.tuple #[.string (⟨#[]⟩), J co]) ?_
  rw [show keyE ev = .inr co from by unfold keyE; rw [hc_]]
  exact ⟨rfl, ((HA.step0 F10).step F14 (inSR ge_HA_g8 inS0))⟩
 ·
  rename_i cn
  rw [hc_] at hr_
  obtain ⟨A2_, n2_, c2_, F2_, rfl, HT2_, hn2_, hc2_, hg2_, F7⟩ := hr_
  obtain ⟨hmy, hce, hnd, hmc⟩ := canon_may hc_
  have h62_ := (may_parts hmc).2.2.1
  refine ⟨_, rfl, trivial, ?_⟩
  have hg2r_ := fun y hy => Or.inr (a := y ∈ ([] : List Nat)) (hg2_ y hy)
  refine Zr 3 <| Zb 4 #[.string (⟨#[]⟩), .slice none 0 0, J 0, J 0, J 0] 91 (fun g => Pt g 0) ?_
  intro g16 w17 HB19 F18 le20 _
  have nin_g16_F2_ := new_nin HT2_.lt le20
  have HA := (HA.step0 F3).step0 F7
  have ge_HA_g16 := Nat.le_trans HA.size le20
  refine Zst g16 0 #[.string (str cn.name), .slice A2_ n2_ c2_, J cn.kind, J cn.value, J cn.time] HB19 ?_
  intro w21 HB23 F22 _
  refine Zr 1 <| Zdn <| Zq <| Zsg <| Zr 2 <| Zdn <| ZF <| Zk <| Zsg <| Zlb 14 [.string (str cn.name), .slice A2_ n2_ c2_, J cn.kind, J cn.value, J cn.time] g16 0 (same HB23) <| Zcf 15 (head_f cn A2_ n2_ c2_ F2_ _ ((HT2_.keep F18 dj0).keep F22 (djB nin_g16_F2_)) hn2_ (by omega) (few_of hmc)) ?_
  intro w24 F25
  refine Zr 2 <| Zdn <| WE.ret <| ZR (.tuple #[.string (str (headT cn)), J 0]) ?_
  rw [show keyE ev = .inl (headT cn) from by unfold keyE; rw [hc_]]
  exact ⟨rfl, (((HA.step0 F18).step F22 (inSR ge_HA_g16 inS0)).step0 F25)⟩
end Go.Proofs.YtdhonbahpcmmnaaGreatDoor.Line
end
section
set_option linter.unusedVariables false
set_option linter.unusedSimpArgs false
namespace Go.Proofs.YtdhonbahpcmmnaaGreatDoor.Wire
open Go Go.RowKit Go.Proofs.YtdhonbahpcmmnaaGreatDoor Go.Proofs.YtdhonbahpcmmnaaGreatDoor.Eng
end Go.Proofs.YtdhonbahpcmmnaaGreatDoor.Wire
end
section
set_option linter.unusedVariables false
set_option linter.unusedSimpArgs false
namespace Go.Proofs.YtdhonbahpcmmnaaGreatDoor.Wire
open Go Go.RowKit Go.Proofs.YtdhonbahpcmmnaaGreatDoor Go.Proofs.YtdhonbahpcmmnaaGreatDoor.Eng Go.Proofs.YtdhonbahpcmmnaaGreatDoorW.PrintWords
theorem byt : BT Tryz.prog 27 5 9 := ⟨by kernel_rfl, by kernel_rfl, by kernel_rfl⟩
theorem et_b : ET Tryz.prog 27 5 1 1 := by
 obtain ⟨i, h1, h2, h3, h4⟩ := info_parts (P := Tryz.prog) (e := 5) (z := .int .u8 0) (size := 1) (bytes := 1) (by kernel_rfl)
 exact ⟨by kernel_rfl, ⟨i, _, h1, h2, h3, h4, rfl⟩, by decide⟩
theorem hz_b : ∃ i, Tryz.prog.info? 5 = some i ∧ i.zero = some (.int .u8 0) := by
 obtain ⟨i, h1, h2, h3, h4⟩ := info_parts (P := Tryz.prog) (e := 5) (z := .int .u8 0) (size := 1) (bytes := 1) (by kernel_rfl)
 exact ⟨i, h1, h2⟩
end Go.Proofs.YtdhonbahpcmmnaaGreatDoor.Wire
end
section
set_option linter.unusedVariables false
set_option linter.unusedSimpArgs false
namespace Go.Proofs.YtdhonbahpcmmnaaGreatDoor.Wire
open Go Go.RowKit Go.Proofs.YtdhonbahpcmmnaaGreatDoor Go.Proofs.YtdhonbahpcmmnaaGreatDoor.Eng Go.Proofs.YtdhonbahpcmmnaaGreatDoorW.PrintWords
def Rd (T : TypeId) (w : World) (g : Nat) (v : Value) (s : St) : Prop := ∃ a p : Int, Blk w g #[v, .int .i64 a, .bool s.bad, .int .i64 p] T ∧ (s.bad = false → a = (s.p : Int)) ∧ (s.bad = true → p = (s.p : Int))
theorem Rd.keep {T : TypeId} {w w1 : World} {S : List Nat} {g : Nat} {v : Value} {s : St} (h : Rd T w g v s) (k : Fr S w w1) (hn : g ∉ S) : Rd T w1 g v s := by
 obtain ⟨a, p, h1, h2⟩ := h
 exact ⟨a, p, h1.keep k hn, h2⟩
theorem Rd.lt {T : TypeId} {w : World} {g : Nat} {v : Value} {s : St} (h : Rd T w g v s) : g < w.heap.size := by
 obtain ⟨a, p, h1, h2⟩ := h
 exact h1.lt
theorem Rd.ok {T : TypeId} {w : World} {g p : Nat} {v : Value} {q : Int} (h : Blk w g #[v, .int .i64 (p : Int), .bool false, .int .i64 q] T) : Rd T w g v ⟨p, false⟩ := ⟨_, _, h, fun _ => rfl, fun h => by cases h⟩
theorem Rd.no {T : TypeId} {w : World} {g p : Nat} {v : Value} {q : Int} (h : Blk w g #[v, .int .i64 q, .bool true, .int .i64 (p : Int)] T) : Rd T w g v ⟨p, true⟩ := ⟨_, _, h, (fun h => by cases h), fun _ => rfl⟩
theorem Rd.split {T : TypeId} {w : World} {g : Nat} {v : Value} {s : St} (h : Rd T w g v s) : (∃ p q, s = ⟨p, false⟩ ∧ Blk w g #[v, .int .i64 (p : Int), .bool false, .int .i64 q] T) ∨ ∃ p q, s = ⟨p, true⟩ ∧ Blk w g #[v, .int .i64 q, .bool true, .int .i64 (p : Int)] T := by
 obtain ⟨a, p, h1, h2, h3⟩ := h
 obtain ⟨sp, sb⟩ := s
 cases sb
 ·
  have := h2 rfl
  subst this
  exact .inl ⟨_, _, rfl, h1⟩
 ·
  have := h3 rfl
  subst this
  exact .inr ⟨_, _, rfl, h1⟩
end Go.Proofs.YtdhonbahpcmmnaaGreatDoor.Wire
end
section
set_option linter.unusedVariables false
set_option linter.unusedSimpArgs false
namespace Go.Proofs.YtdhonbahpcmmnaaGreatDoor.Wire
open Go Go.RowKit Go.Proofs.YtdhonbahpcmmnaaGreatDoor Go.Proofs.YtdhonbahpcmmnaaGreatDoor.Eng Go.Proofs.YtdhonbahpcmmnaaGreatDoorW.PrintWords
end Go.Proofs.YtdhonbahpcmmnaaGreatDoor.Wire
end
