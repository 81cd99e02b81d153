/- Layer 4's walks: the reader's word and number. -/
import Derived.Test.YtdhonbahpcmmnaaGreatDoorLineS
import Derived.Test.YtdhonbahpcmmnaaGreatDoorShelf
import Derived.Test.YtdhonbahpcmmnaaGreatDoorEngC
set_option linter.unusedVariables false
set_option linter.unusedSimpArgs false
namespace Go.Proofs.YtdhonbahpcmmnaaGreatDoor.Line
open Go Go.RowKit Go.Proofs.YtdhonbahpcmmnaaGreatDoor Go.Proofs.YtdhonbahpcmmnaaGreatDoor.Eng Go.Proofs.YtdhonbahpcmmnaaGreatDoorW.PrintWords
open Go.Proofs
theorem runE_ge (pr : UInt8 → Bool) (s : L) (p : Nat) : p ≤ runE pr s p := Nat.le_add_right _ _
theorem takeWhile_le {pr : UInt8 → Bool} : ∀ l : L, (l.takeWhile pr).length ≤ l.length
  | [] => Nat.le_refl _
  | a :: l => by
    rw [List.takeWhile_cons]
    split
    · have := takeWhile_le (pr := pr) l
      simp only [List.length_cons]
      omega
    · simp
theorem runE_le (pr : UInt8 → Bool) {s : L} {p : Nat} (h : p ≤ s.length) : runE pr s p ≤ s.length := by
  have := takeWhile_le (pr := pr) (s.drop p)
  rw [List.length_drop] at this
  unfold runE
  omega
def VarI (w : World) (name : String) : Prop := ∃ tp p, w.var? Tryz.prog name = some #[.iface tp p]
theorem var_lt {w : World} {name : String} (g : Nat) (hg : Tryz.prog.globalNamed name = some g) (h : VarI w name) : g < w.heap.size := by
  obtain ⟨tp, p, h⟩ := h
  unfold World.var? at h
  rw [hg] at h
  simp only [Option.bind_some] at h
  rcases Nat.lt_or_ge g w.heap.size with h1 | h1
  · exact h1
  · rw [Array.getElem?_eq_none h1] at h
    cases h
theorem var_keep {w w1 : World} {S : List Nat} {name : String} (g : Nat) (hg : Tryz.prog.globalNamed name = some g) (h : VarI w name) (k : Fr S w w1) (hn : g ∉ S) : VarI w1 name := by
  have hlt := var_lt g hg h
  obtain ⟨tp, p, h⟩ := h
  refine ⟨tp, p, ?_⟩
  unfold World.var? at h ⊢
  rw [hg] at h ⊢
  simp only [Option.bind_some] at h ⊢
  rw [k.block g hlt hn]
  exact h
theorem VarI.k {w w1 : World} {name : String} (h : VarI w name) (k : Fr [] w w1) : VarI w1 name := by
  cases hg : Tryz.prog.globalNamed name with
  | some g => exact var_keep g hg h k (by simp)
  | none =>
    obtain ⟨tp, p, h⟩ := h
    unfold World.var? at h
    rw [hg] at h
    cases h
theorem fr_bytes {w w1 : World} {t : TypeId} (h : w1 = w ∨ ∃ s, w1 = Lib.bytesWorld w t s) : Fr [] w w1 := by
  rcases h with rfl | ⟨s, rfl⟩
  · exact Fr.refl [] _
  · refine ⟨?_, ?_, ?_, ?_, fun j hj _ => Lib.bytesWorld_at_old w t s j hj⟩
    · simp [Lib.bytesWorld, World.freeze, World.alloc, World.drew, -World.alloc_eq, -World.drew_eq]
    · simp [Lib.bytesWorld, World.freeze, World.alloc, World.drew, -World.alloc_eq, -World.drew_eq]
    · simp [Lib.bytesWorld, World.freeze, World.alloc, World.drew, -World.alloc_eq, -World.drew_eq]
    · rw [Lib.bytesWorld_size]; omega
def numR (s : L) (p q : Nat) (least most : Int) : Option Int :=
  match Lib.parseIntB 64 ((s.take (runE isD s q)).drop p) with
  | .ok v => if (1 < ((s.take (runE isD s q)).drop q).length ∧ gB ((s.take (runE isD s q)).drop q) 0 = 48) ∨ (v = 0 ∧ (s.take (runE isD s q)).drop q ≠ (s.take (runE isD s q)).drop p) ∨ v < least ∨ most < v then none else some v
  | _ => none
theorem num_not {a b c d : Prop} {v least most : Int} (h1 : ¬ v < least) (h2 : ¬ most < v) (h3 : a → b → False) (h4 : c → d → False) : ¬ ((a ∧ b) ∨ (c ∧ d) ∨ v < least ∨ most < v) := by
  rintro (⟨h, k⟩ | ⟨h, k⟩ | h | h)
  · exact h3 h k
  · exact h4 h k
  · exact h1 h
  · exact h2 h
set_option maxRecDepth 100000 in
set_option maxHeartbeats 400000 in
theorem word_yes (g : Nat) (s : L) (p : Nat) (w : World) (hp : p ≤ s.length) (hs : s.length ≤ 1000000) (hw : isWord ((s.take (runE inW s p)).drop p) = true) (HB : Blk w g #[.string (str s), .int .i64 (p : Int), .int .i64 (-1)] 138) :
    Calls Tryz.prog 79 #[.pointer (some ⟨g, 0, none⟩)] w fun e w' => e = .returned (.string (str ((s.take (runE inW s p)).drop p))) ∧ Blk w' g #[.string (str s), .int .i64 ((runE inW s p : Nat) : Int), .int .i64 (-1)] 138 ∧ Fr [g] w w' := by
 have he1 := runE_ge inW s p
 have he2 := runE_le inW hp
 have HA := Fr.refl [g] w
 refine Ze Tryz.func79 _ <| Zsg <| Zr 1 <| Zdn <| Zsg <| Zr 3 <| Zl 8 (J (p : Int)) (HB.s 1) <| Zr 1 <| Zdn <| Zsg <| Zr 1 <| Zc 10 (run_w g s p _ (by omega) hs HB) ?_
 rintro _ w1 ⟨rfl, HB3, F2⟩
 refine ⟨_, rfl, trivial, Zr 1 <| Zdn <| Zq <| Zsg <| Zr 1 <| Zc 12 (word_l ((s.take (runE inW s p)).drop p) _ (by rw [List.length_drop, List.length_take]; omega)) ?_⟩
 rintro _ w4 ⟨rfl, F5⟩
 rw [hw]
 refine ⟨_, rfl, trivial, Zr 1 <| Zdn <| ZF <| Zk <| Zsg <| Zr 2 <| Zdn <| WE.ret <| ZR (.string (str ((s.take (runE inW s p)).drop p))) ?_⟩
 exact ⟨rfl, (HB3.k F5), ((HA.step F2 (inSL (by simp) inS0)).step0 F5)⟩
set_option maxRecDepth 100000 in
set_option maxHeartbeats 400000 in
theorem word_no (g : Nat) (s : L) (p : Nat) (w : World) (hp : p ≤ s.length) (hs : s.length ≤ 1000000) (hw : isWord ((s.take (runE inW s p)).drop p) = false) (HB : Blk w g #[.string (str s), .int .i64 (p : Int), .int .i64 (-1)] 138) :
    Calls Tryz.prog 79 #[.pointer (some ⟨g, 0, none⟩)] w fun e w' => e = .returned (.string (str ((s.take (runE inW s p)).drop p))) ∧ Blk w' g #[.string (str s), .int .i64 ((runE inW s p : Nat) : Int), .int .i64 (p : Int)] 138 ∧ Fr [g] w w' := by
 have he1 := runE_ge inW s p
 have he2 := runE_le inW hp
 have HA := Fr.refl [g] w
 refine Ze Tryz.func79 _ <| Zsg <| Zr 1 <| Zdn <| Zsg <| Zr 3 <| Zl 8 (J (p : Int)) (HB.s 1) <| Zr 1 <| Zdn <| Zsg <| Zr 1 <| Zc 10 (run_w g s p _ (by omega) hs HB) ?_
 rintro _ w1 ⟨rfl, HB3, F2⟩
 refine ⟨_, rfl, trivial, Zr 1 <| Zdn <| Zq <| Zsg <| Zr 1 <| Zc 12 (word_l ((s.take (runE inW s p)).drop p) _ (by rw [List.length_drop, List.length_take]; omega)) ?_⟩
 rintro _ w4 ⟨rfl, F5⟩
 rw [hw]
 refine ⟨_, rfl, trivial, Zr 1 <| Zdn <| ZT <| WE.region <| Zr 2 <| Zc 16 (fail_ok g s (runE inW s p) _ (by omega) hs ((p : Int) : Int) (HB3.k F5)) ?_⟩
 rintro _ w6 ⟨rfl, HB8, F7⟩
 refine ⟨_, rfl, trivial, Zdn <| Zsg <| Zr 2 <| Zdn <| WE.ret <| ZR (.string (str ((s.take (runE inW s p)).drop p))) ?_⟩
 exact ⟨rfl, HB8, (((HA.step F2 (inSL (by simp) inS0)).step0 F5).step F7 (inSL (by simp) inS0))⟩
set_option maxRecDepth 100000 in
set_option maxHeartbeats 400000 in
theorem word_bad2 (g : Nat) (s : L) (p : Nat) (bz : Int) (w : World) (hp : p ≤ s.length) (hs : s.length ≤ 1000000) (hbz : 0 ≤ bz) (HB : Blk w g #[.string (str s), .int .i64 (p : Int), .int .i64 bz] 138) :
    Calls Tryz.prog 79 #[.pointer (some ⟨g, 0, none⟩)] w fun e w' => e = .returned (.string (str ((s.take p).drop p))) ∧ Blk w' g #[.string (str s), .int .i64 (p : Int), .int .i64 bz] 138 ∧ Fr [g] w w' := by
 have hw : isWord ((s.take p).drop p) = false := by rw [List.drop_of_length_le (by rw [List.length_take]; omega)]; rfl
 have HA := Fr.refl [g] w
 refine Ze Tryz.func79 _ <| Zsg <| Zr 1 <| Zdn <| Zsg <| Zr 3 <| Zl 8 (J (p : Int)) (HB.s 1) <| Zr 1 <| Zdn <| Zsg <| Zr 1 <| Zc 10 (runbad_w g s p bz _ (by omega) hs hbz HB) ?_
 rintro _ w1 ⟨rfl, HB3, F2⟩
 refine ⟨_, rfl, trivial, Zr 1 <| Zdn <| Zq <| Zsg <| Zr 1 <| Zc 12 (word_l ((s.take p).drop p) _ (by rw [List.length_drop, List.length_take]; omega)) ?_⟩
 rintro _ w4 ⟨rfl, F5⟩
 rw [hw]
 refine ⟨_, rfl, trivial, Zr 1 <| Zdn <| ZT <| WE.region <| Zr 2 <| Zc 16 (fail_bad g s p bz _ (by omega) hs hbz ((p : Int) : Int) (HB3.k F5)) ?_⟩
 rintro _ w6 ⟨rfl, HB8, F7⟩
 refine ⟨_, rfl, trivial, Zdn <| Zsg <| Zr 2 <| Zdn <| WE.ret <| ZR (.string (str ((s.take p).drop p))) ?_⟩
 exact ⟨rfl, HB8, (((HA.step F2 (inSL (by simp) inS0)).step0 F5).step F7 (inSL (by simp) inS0))⟩
set_option maxRecDepth 100000 in
set_option maxHeartbeats 400000 in
theorem number_m_ok (g : Nat) (s : L) (p : Nat) (w : World) (hp : p ≤ s.length) (hs : s.length ≤ 1000000) (least most : Int) (v : Int) (hlt : p < s.length) (hc : gB s p = 45) (hpi : Lib.parseIntB 64 ((s.take (runE isD s (p + 1))).drop p) = .ok v) (HS : VarI w "strconv.ErrSyntax") (HR : VarI w "strconv.ErrRange") (hgS : 1 ≠ g) (hgR : 2 ≠ g) (HB : Blk w g #[.string (str s), .int .i64 (p : Int), .int .i64 (-1)] 138) :
    Calls Tryz.prog 85 #[.pointer (some ⟨g, 0, none⟩), .int .i64 least, .int .i64 most] w fun e w' => e = .returned (.int .i64 ((numR s p (p + 1) least most).getD 0)) ∧ Blk w' g #[.string (str s), .int .i64 ((runE isD s (p + 1) : Nat) : Int), .int .i64 (if (numR s p (p + 1) least most).isSome then -1 else (p : Int))] 138 ∧ Fr [g] w w' := by
 have he1 := runE_ge isD s (p + 1)
 have he2 := runE_le isD (show p + 1 ≤ s.length by omega)
 have hdl_ : ((s.take (runE isD s (p + 1))).drop (p + 1)).length = runE isD s (p + 1) - (p + 1) := by rw [List.length_drop, List.length_take]; omega
 have HA := Fr.refl [g] w
 refine Ze Tryz.func85 _ <| Zsg <| Zr 1 <| Zdn <| Zsg <| Zr 3 <| Zl 14 (J (p : Int)) (HB.s 1) <| Zr 1 <| Zdn <| Zsg <| Zr 1 <| Zc 16 (next_yes g s p _ hp hs 45 hlt hc HB) ?_
 rintro _ w1 ⟨rfl, HB3, F2⟩
 refine ⟨_, rfl, trivial, Zdn <| Zsg <| Zr 1 <| Zc 18 (run_d g s (p + 1) _ (by omega) hs HB3) ?_⟩
 rintro _ w4 ⟨rfl, HB6, F5⟩
 refine ⟨_, rfl, trivial, Zr 1 <| Zdn <| Zq <| ZE [3, 8] [] [10] 16 ?_⟩
 intro w7 F8 _
 have HB6 := HB6.k F8
 refine Yq 0 3 <| Yl 3 23 (.string (str s)) (HB6.s 0) <| Yq 4 4 <| Yl 8 28 (J ((runE isD s (p + 1) : Nat) : Int)) (HB6.s 1) <| Yvt 9 (lo := (p : Int)) (hi := ((runE isD s (p + 1) : Nat) : Int)) 29 p (runE isD s (p + 1)) s (by rfl) (by rfl) (by omega) (by omega) <| Yc 10 30 (Tryz.strconv_ParseInt_10_at64_ok (str ((s.take (runE isD s (p + 1))).drop p)) (by rw [str_size, List.length_drop, List.length_take]; omega) v hpi _) ?_
 rintro _ w9 ⟨rfl, hbw⟩
 have F10 := fr_bytes hbw
 refine ⟨_, rfl, trivial, Yq 11 5 <| Ydn <| Zq <| Zq <| ZE [20, 25] [] [] 40 ?_⟩
 intro w11 F12 _
 have HA := ((((HA.step F2 (inSL (by simp) inS0)).step F5 (inSL (by simp) inS0)).step0 F8).step0 F10).step0 F12
 have HB6 := (HB6.k F10).k F12
 refine Yr0 [0, 1, 2, 3, 4, 5] [(38, .bool (decide (((((s.take (runE isD s (p + 1))).drop (p + 1)).length : Int) : Int) > (1 : Int)))), (37, J (((s.take (runE isD s (p + 1))).drop (p + 1)).length : Int)), (36, .string (str ((s.take (runE isD s (p + 1))).drop (p + 1)))), (35, .bool false), (34, .bool false), (33, .nilIface)] <| WO.topP (((((s.take (runE isD s (p + 1))).drop (p + 1)).length : Int) : Int) > (1 : Int)) ?_ ?_
 ·
  intro h13
  refine Yq 6 2 <| Yis 8 (i := 0) 41 0 ((s.take (runE isD s (p + 1))).drop (p + 1)) (by rfl) (by omega) <| Yr0 [9] [(42, .bool (decide ((((gB ((s.take (runE isD s (p + 1))).drop (p + 1)) 0).toNat : Int) : Int) = (48 : Int))))] <| WO.topP ((((gB ((s.take (runE isD s (p + 1))).drop (p + 1)) 0).toNat : Int) : Int) = (48 : Int)) ?_ ?_
  ·
   intro h14
   refine Yq 10 30 <| Ydn <| ZT <| Zsg <| Zr 2 <| Zc 75 (fail_ok g s (runE isD s (p + 1)) _ (by omega) hs ((p : Int) : Int) HB6) ?_
   rintro _ w15 ⟨rfl, HB17, F16⟩
   refine ⟨_, rfl, trivial, Zdn <| Zsg <| Zr 1 <| Zdn <| WE.ret <| WQ.thenR <| ZR (J 0) ?_⟩
   have hn_ : numR s p (p + 1) least most = none := by unfold numR; rw [hpi]; simp only; first | exact if_pos (.inl ⟨by omega, u8_eq (by show _ = (48 : Int); omega)⟩) | exact if_pos (.inr (.inl ⟨by omega, fun h_ => absurd (congrArg str h_) (by assumption)⟩)) | exact if_pos (.inr (.inr (.inl (by omega)))) | exact if_pos (.inr (.inr (.inr (by omega)))) | exact if_neg (num_not (by omega) (by omega) (by first | (intro a_ b_; omega) | (intro a_ b_; have h_ := congrArg (fun x : UInt8 => (x.toNat : Int)) b_; exact absurd h_ (by assumption))) (by first | (intro a_ b_; exact b_ (str_inj.1 (by assumption))) | (intro a_ b_; omega)))
   rw [hn_]
   exact ⟨rfl, HB17, (HA.step F16 (inSL (by simp) inS0))⟩
  intro h14
  refine Yr0 [10, 11, 12, 13, 14] [(47, .bool (decide ((v : Int) = 0))), (46, J v), (45, .bool false), (44, .bool false), (43, .bool false)] <| WO.topP ((v : Int) = 0) ?_ ?_
  ·
   intro h18
   refine Yq 15 5 <| Yl 20 53 (.string (str s)) (HB6.s 0) <| Yq 21 4 <| Yl 25 58 (J ((runE isD s (p + 1) : Nat) : Int)) (HB6.s 1) <| Yvt 26 (lo := (p : Int)) (hi := ((runE isD s (p + 1) : Nat) : Int)) 59 p (runE isD s (p + 1)) s (by rfl) (by rfl) (by omega) (by omega) <| Yr0 [27] [(60, .bool (!((str ((s.take (runE isD s (p + 1))).drop (p + 1))).toList == (str ((s.take (runE isD s (p + 1))).drop p)).toList)))] <| WO.top (v' := .bool (!decide ((str ((s.take (runE isD s (p + 1))).drop (p + 1))) = (str ((s.take (runE isD s (p + 1))).drop p))))) (congrArg Value.bool (congrArg not (streq (str ((s.take (runE isD s (p + 1))).drop (p + 1))) (str ((s.take (runE isD s (p + 1))).drop p))))) <| WO.topN ((str ((s.take (runE isD s (p + 1))).drop (p + 1))) = (str ((s.take (runE isD s (p + 1))).drop p))) ?_ ?_
   ·
    intro h19
    refine Yr0 [28, 29, 30, 31, 32, 33] [(66, .bool (decide ((v : Int) < least))), (65, J least), (64, J v), (63, .bool false), (62, .bool false), (61, .bool false)] <| WO.topP ((v : Int) < least) ?_ ?_
    ·
     intro h20
     refine Yq 34 6 <| Ydn <| ZT <| Zsg <| Zr 2 <| Zc 75 (fail_ok g s (runE isD s (p + 1)) _ (by omega) hs ((p : Int) : Int) HB6) ?_
     rintro _ w21 ⟨rfl, HB23, F22⟩
     refine ⟨_, rfl, trivial, Zdn <| Zsg <| Zr 1 <| Zdn <| WE.ret <| WQ.thenR <| ZR (J 0) ?_⟩
     have hn_ : numR s p (p + 1) least most = none := by unfold numR; rw [hpi]; simp only; first | exact if_pos (.inl ⟨by omega, u8_eq (by show _ = (48 : Int); omega)⟩) | exact if_pos (.inr (.inl ⟨by omega, fun h_ => absurd (congrArg str h_) (by assumption)⟩)) | exact if_pos (.inr (.inr (.inl (by omega)))) | exact if_pos (.inr (.inr (.inr (by omega)))) | exact if_neg (num_not (by omega) (by omega) (by first | (intro a_ b_; omega) | (intro a_ b_; have h_ := congrArg (fun x : UInt8 => (x.toNat : Int)) b_; exact absurd h_ (by assumption))) (by first | (intro a_ b_; exact b_ (str_inj.1 (by assumption))) | (intro a_ b_; omega)))
     rw [hn_]
     exact ⟨rfl, HB23, (HA.step F22 (inSL (by simp) inS0))⟩
    intro h20
    refine Yr0 [34, 35, 36, 37, 38] [(71, .bool (decide ((v : Int) > most))), (70, J most), (69, J v), (68, .bool false), (67, .bool false)] <| WO.topP ((v : Int) > most) ?_ ?_
    ·
     intro h24
     refine Yq 39 1 <| Ydn <| ZT <| Zsg <| Zr 2 <| Zc 75 (fail_ok g s (runE isD s (p + 1)) _ (by omega) hs ((p : Int) : Int) HB6) ?_
     rintro _ w25 ⟨rfl, HB27, F26⟩
     refine ⟨_, rfl, trivial, Zdn <| Zsg <| Zr 1 <| Zdn <| WE.ret <| WQ.thenR <| ZR (J 0) ?_⟩
     have hn_ : numR s p (p + 1) least most = none := by unfold numR; rw [hpi]; simp only; first | exact if_pos (.inl ⟨by omega, u8_eq (by show _ = (48 : Int); omega)⟩) | exact if_pos (.inr (.inl ⟨by omega, fun h_ => absurd (congrArg str h_) (by assumption)⟩)) | exact if_pos (.inr (.inr (.inl (by omega)))) | exact if_pos (.inr (.inr (.inr (by omega)))) | exact if_neg (num_not (by omega) (by omega) (by first | (intro a_ b_; omega) | (intro a_ b_; have h_ := congrArg (fun x : UInt8 => (x.toNat : Int)) b_; exact absurd h_ (by assumption))) (by first | (intro a_ b_; exact b_ (str_inj.1 (by assumption))) | (intro a_ b_; omega)))
     rw [hn_]
     exact ⟨rfl, HB27, (HA.step F26 (inSL (by simp) inS0))⟩
    intro h24
    refine Yq 39 1 <| Ydn <| ZF <| Zk <| Zsg <| Zr 2 <| Zdn <| WE.ret <| ZR (J v) ?_
    have hn_ : numR s p (p + 1) least most = some v := by unfold numR; rw [hpi]; simp only; first | exact if_pos (.inl ⟨by omega, u8_eq (by show _ = (48 : Int); omega)⟩) | exact if_pos (.inr (.inl ⟨by omega, fun h_ => absurd (congrArg str h_) (by assumption)⟩)) | exact if_pos (.inr (.inr (.inl (by omega)))) | exact if_pos (.inr (.inr (.inr (by omega)))) | exact if_neg (num_not (by omega) (by omega) (by first | (intro a_ b_; omega) | (intro a_ b_; have h_ := congrArg (fun x : UInt8 => (x.toNat : Int)) b_; exact absurd h_ (by assumption))) (by first | (intro a_ b_; exact b_ (str_inj.1 (by assumption))) | (intro a_ b_; omega)))
    rw [hn_]
    exact ⟨rfl, HB6, HA⟩
   intro h19
   refine Yq 28 12 <| Ydn <| ZT <| Zsg <| Zr 2 <| Zc 75 (fail_ok g s (runE isD s (p + 1)) _ (by omega) hs ((p : Int) : Int) HB6) ?_
   rintro _ w28 ⟨rfl, HB30, F29⟩
   refine ⟨_, rfl, trivial, Zdn <| Zsg <| Zr 1 <| Zdn <| WE.ret <| WQ.thenR <| ZR (J 0) ?_⟩
   have hn_ : numR s p (p + 1) least most = none := by unfold numR; rw [hpi]; simp only; first | exact if_pos (.inl ⟨by omega, u8_eq (by show _ = (48 : Int); omega)⟩) | exact if_pos (.inr (.inl ⟨by omega, fun h_ => absurd (congrArg str h_) (by assumption)⟩)) | exact if_pos (.inr (.inr (.inl (by omega)))) | exact if_pos (.inr (.inr (.inr (by omega)))) | exact if_neg (num_not (by omega) (by omega) (by first | (intro a_ b_; omega) | (intro a_ b_; have h_ := congrArg (fun x : UInt8 => (x.toNat : Int)) b_; exact absurd h_ (by assumption))) (by first | (intro a_ b_; exact b_ (str_inj.1 (by assumption))) | (intro a_ b_; omega)))
   rw [hn_]
   exact ⟨rfl, HB30, (HA.step F29 (inSL (by simp) inS0))⟩
  intro h18
  refine Yr0 [15, 16, 17, 18, 19, 20, 21, 22, 23, 24, 25, 26, 27, 28, 29, 30, 31, 32, 33] [(66, .bool (decide ((v : Int) < least))), (65, J least), (64, J v), (63, .bool false), (62, .bool false), (61, .bool false), (60, undef), (59, undef), (58, undef), (57, undef), (56, undef), (55, undef), (54, undef), (53, undef), (52, undef), (51, undef), (50, undef), (49, undef), (48, .bool false)] <| WO.topP ((v : Int) < least) ?_ ?_
  ·
   intro h31
   refine Yq 34 6 <| Ydn <| ZT <| Zsg <| Zr 2 <| Zc 75 (fail_ok g s (runE isD s (p + 1)) _ (by omega) hs ((p : Int) : Int) HB6) ?_
   rintro _ w32 ⟨rfl, HB34, F33⟩
   refine ⟨_, rfl, trivial, Zdn <| Zsg <| Zr 1 <| Zdn <| WE.ret <| WQ.thenR <| ZR (J 0) ?_⟩
   have hn_ : numR s p (p + 1) least most = none := by unfold numR; rw [hpi]; simp only; first | exact if_pos (.inl ⟨by omega, u8_eq (by show _ = (48 : Int); omega)⟩) | exact if_pos (.inr (.inl ⟨by omega, fun h_ => absurd (congrArg str h_) (by assumption)⟩)) | exact if_pos (.inr (.inr (.inl (by omega)))) | exact if_pos (.inr (.inr (.inr (by omega)))) | exact if_neg (num_not (by omega) (by omega) (by first | (intro a_ b_; omega) | (intro a_ b_; have h_ := congrArg (fun x : UInt8 => (x.toNat : Int)) b_; exact absurd h_ (by assumption))) (by first | (intro a_ b_; exact b_ (str_inj.1 (by assumption))) | (intro a_ b_; omega)))
   rw [hn_]
   exact ⟨rfl, HB34, (HA.step F33 (inSL (by simp) inS0))⟩
  intro h31
  refine Yr0 [34, 35, 36, 37, 38] [(71, .bool (decide ((v : Int) > most))), (70, J most), (69, J v), (68, .bool false), (67, .bool false)] <| WO.topP ((v : Int) > most) ?_ ?_
  ·
   intro h35
   refine Yq 39 1 <| Ydn <| ZT <| Zsg <| Zr 2 <| Zc 75 (fail_ok g s (runE isD s (p + 1)) _ (by omega) hs ((p : Int) : Int) HB6) ?_
   rintro _ w36 ⟨rfl, HB38, F37⟩
   refine ⟨_, rfl, trivial, Zdn <| Zsg <| Zr 1 <| Zdn <| WE.ret <| WQ.thenR <| ZR (J 0) ?_⟩
   have hn_ : numR s p (p + 1) least most = none := by unfold numR; rw [hpi]; simp only; first | exact if_pos (.inl ⟨by omega, u8_eq (by show _ = (48 : Int); omega)⟩) | exact if_pos (.inr (.inl ⟨by omega, fun h_ => absurd (congrArg str h_) (by assumption)⟩)) | exact if_pos (.inr (.inr (.inl (by omega)))) | exact if_pos (.inr (.inr (.inr (by omega)))) | exact if_neg (num_not (by omega) (by omega) (by first | (intro a_ b_; omega) | (intro a_ b_; have h_ := congrArg (fun x : UInt8 => (x.toNat : Int)) b_; exact absurd h_ (by assumption))) (by first | (intro a_ b_; exact b_ (str_inj.1 (by assumption))) | (intro a_ b_; omega)))
   rw [hn_]
   exact ⟨rfl, HB38, (HA.step F37 (inSL (by simp) inS0))⟩
  intro h35
  refine Yq 39 1 <| Ydn <| ZF <| Zk <| Zsg <| Zr 2 <| Zdn <| WE.ret <| ZR (J v) ?_
  have hn_ : numR s p (p + 1) least most = some v := by unfold numR; rw [hpi]; simp only; first | exact if_pos (.inl ⟨by omega, u8_eq (by show _ = (48 : Int); omega)⟩) | exact if_pos (.inr (.inl ⟨by omega, fun h_ => absurd (congrArg str h_) (by assumption)⟩)) | exact if_pos (.inr (.inr (.inl (by omega)))) | exact if_pos (.inr (.inr (.inr (by omega)))) | exact if_neg (num_not (by omega) (by omega) (by first | (intro a_ b_; omega) | (intro a_ b_; have h_ := congrArg (fun x : UInt8 => (x.toNat : Int)) b_; exact absurd h_ (by assumption))) (by first | (intro a_ b_; exact b_ (str_inj.1 (by assumption))) | (intro a_ b_; omega)))
  rw [hn_]
  exact ⟨rfl, HB6, HA⟩
 intro h13
 refine Yr0 [6, 7, 8, 9, 10, 11, 12, 13, 14] [(47, .bool (decide ((v : Int) = 0))), (46, J v), (45, .bool false), (44, .bool false), (43, .bool false), (42, undef), (41, undef), (40, undef), (39, .bool false)] <| WO.topP ((v : Int) = 0) ?_ ?_
 ·
  intro h39
  refine Yq 15 5 <| Yl 20 53 (.string (str s)) (HB6.s 0) <| Yq 21 4 <| Yl 25 58 (J ((runE isD s (p + 1) : Nat) : Int)) (HB6.s 1) <| Yvt 26 (lo := (p : Int)) (hi := ((runE isD s (p + 1) : Nat) : Int)) 59 p (runE isD s (p + 1)) s (by rfl) (by rfl) (by omega) (by omega) <| Yr0 [27] [(60, .bool (!((str ((s.take (runE isD s (p + 1))).drop (p + 1))).toList == (str ((s.take (runE isD s (p + 1))).drop p)).toList)))] <| WO.top (v' := .bool (!decide ((str ((s.take (runE isD s (p + 1))).drop (p + 1))) = (str ((s.take (runE isD s (p + 1))).drop p))))) (congrArg Value.bool (congrArg not (streq (str ((s.take (runE isD s (p + 1))).drop (p + 1))) (str ((s.take (runE isD s (p + 1))).drop p))))) <| WO.topN ((str ((s.take (runE isD s (p + 1))).drop (p + 1))) = (str ((s.take (runE isD s (p + 1))).drop p))) ?_ ?_
  ·
   intro h40
   refine Yr0 [28, 29, 30, 31, 32, 33] [(66, .bool (decide ((v : Int) < least))), (65, J least), (64, J v), (63, .bool false), (62, .bool false), (61, .bool false)] <| WO.topP ((v : Int) < least) ?_ ?_
   ·
    intro h41
    refine Yq 34 6 <| Ydn <| ZT <| Zsg <| Zr 2 <| Zc 75 (fail_ok g s (runE isD s (p + 1)) _ (by omega) hs ((p : Int) : Int) HB6) ?_
    rintro _ w42 ⟨rfl, HB44, F43⟩
    refine ⟨_, rfl, trivial, Zdn <| Zsg <| Zr 1 <| Zdn <| WE.ret <| WQ.thenR <| ZR (J 0) ?_⟩
    have hn_ : numR s p (p + 1) least most = none := by unfold numR; rw [hpi]; simp only; first | exact if_pos (.inl ⟨by omega, u8_eq (by show _ = (48 : Int); omega)⟩) | exact if_pos (.inr (.inl ⟨by omega, fun h_ => absurd (congrArg str h_) (by assumption)⟩)) | exact if_pos (.inr (.inr (.inl (by omega)))) | exact if_pos (.inr (.inr (.inr (by omega)))) | exact if_neg (num_not (by omega) (by omega) (by first | (intro a_ b_; omega) | (intro a_ b_; have h_ := congrArg (fun x : UInt8 => (x.toNat : Int)) b_; exact absurd h_ (by assumption))) (by first | (intro a_ b_; exact b_ (str_inj.1 (by assumption))) | (intro a_ b_; omega)))
    rw [hn_]
    exact ⟨rfl, HB44, (HA.step F43 (inSL (by simp) inS0))⟩
   intro h41
   refine Yr0 [34, 35, 36, 37, 38] [(71, .bool (decide ((v : Int) > most))), (70, J most), (69, J v), (68, .bool false), (67, .bool false)] <| WO.topP ((v : Int) > most) ?_ ?_
   ·
    intro h45
    refine Yq 39 1 <| Ydn <| ZT <| Zsg <| Zr 2 <| Zc 75 (fail_ok g s (runE isD s (p + 1)) _ (by omega) hs ((p : Int) : Int) HB6) ?_
    rintro _ w46 ⟨rfl, HB48, F47⟩
    refine ⟨_, rfl, trivial, Zdn <| Zsg <| Zr 1 <| Zdn <| WE.ret <| WQ.thenR <| ZR (J 0) ?_⟩
    have hn_ : numR s p (p + 1) least most = none := by unfold numR; rw [hpi]; simp only; first | exact if_pos (.inl ⟨by omega, u8_eq (by show _ = (48 : Int); omega)⟩) | exact if_pos (.inr (.inl ⟨by omega, fun h_ => absurd (congrArg str h_) (by assumption)⟩)) | exact if_pos (.inr (.inr (.inl (by omega)))) | exact if_pos (.inr (.inr (.inr (by omega)))) | exact if_neg (num_not (by omega) (by omega) (by first | (intro a_ b_; omega) | (intro a_ b_; have h_ := congrArg (fun x : UInt8 => (x.toNat : Int)) b_; exact absurd h_ (by assumption))) (by first | (intro a_ b_; exact b_ (str_inj.1 (by assumption))) | (intro a_ b_; omega)))
    rw [hn_]
    exact ⟨rfl, HB48, (HA.step F47 (inSL (by simp) inS0))⟩
   intro h45
   refine Yq 39 1 <| Ydn <| ZF <| Zk <| Zsg <| Zr 2 <| Zdn <| WE.ret <| ZR (J v) ?_
   have hn_ : numR s p (p + 1) least most = some v := by unfold numR; rw [hpi]; simp only; first | exact if_pos (.inl ⟨by omega, u8_eq (by show _ = (48 : Int); omega)⟩) | exact if_pos (.inr (.inl ⟨by omega, fun h_ => absurd (congrArg str h_) (by assumption)⟩)) | exact if_pos (.inr (.inr (.inl (by omega)))) | exact if_pos (.inr (.inr (.inr (by omega)))) | exact if_neg (num_not (by omega) (by omega) (by first | (intro a_ b_; omega) | (intro a_ b_; have h_ := congrArg (fun x : UInt8 => (x.toNat : Int)) b_; exact absurd h_ (by assumption))) (by first | (intro a_ b_; exact b_ (str_inj.1 (by assumption))) | (intro a_ b_; omega)))
   rw [hn_]
   exact ⟨rfl, HB6, HA⟩
  intro h40
  refine Yq 28 12 <| Ydn <| ZT <| Zsg <| Zr 2 <| Zc 75 (fail_ok g s (runE isD s (p + 1)) _ (by omega) hs ((p : Int) : Int) HB6) ?_
  rintro _ w49 ⟨rfl, HB51, F50⟩
  refine ⟨_, rfl, trivial, Zdn <| Zsg <| Zr 1 <| Zdn <| WE.ret <| WQ.thenR <| ZR (J 0) ?_⟩
  have hn_ : numR s p (p + 1) least most = none := by unfold numR; rw [hpi]; simp only; first | exact if_pos (.inl ⟨by omega, u8_eq (by show _ = (48 : Int); omega)⟩) | exact if_pos (.inr (.inl ⟨by omega, fun h_ => absurd (congrArg str h_) (by assumption)⟩)) | exact if_pos (.inr (.inr (.inl (by omega)))) | exact if_pos (.inr (.inr (.inr (by omega)))) | exact if_neg (num_not (by omega) (by omega) (by first | (intro a_ b_; omega) | (intro a_ b_; have h_ := congrArg (fun x : UInt8 => (x.toNat : Int)) b_; exact absurd h_ (by assumption))) (by first | (intro a_ b_; exact b_ (str_inj.1 (by assumption))) | (intro a_ b_; omega)))
  rw [hn_]
  exact ⟨rfl, HB51, (HA.step F50 (inSL (by simp) inS0))⟩
 intro h39
 refine Yr0 [15, 16, 17, 18, 19, 20, 21, 22, 23, 24, 25, 26, 27, 28, 29, 30, 31, 32, 33] [(66, .bool (decide ((v : Int) < least))), (65, J least), (64, J v), (63, .bool false), (62, .bool false), (61, .bool false), (60, undef), (59, undef), (58, undef), (57, undef), (56, undef), (55, undef), (54, undef), (53, undef), (52, undef), (51, undef), (50, undef), (49, undef), (48, .bool false)] <| WO.topP ((v : Int) < least) ?_ ?_
 ·
  intro h52
  refine Yq 34 6 <| Ydn <| ZT <| Zsg <| Zr 2 <| Zc 75 (fail_ok g s (runE isD s (p + 1)) _ (by omega) hs ((p : Int) : Int) HB6) ?_
  rintro _ w53 ⟨rfl, HB55, F54⟩
  refine ⟨_, rfl, trivial, Zdn <| Zsg <| Zr 1 <| Zdn <| WE.ret <| WQ.thenR <| ZR (J 0) ?_⟩
  have hn_ : numR s p (p + 1) least most = none := by unfold numR; rw [hpi]; simp only; first | exact if_pos (.inl ⟨by omega, u8_eq (by show _ = (48 : Int); omega)⟩) | exact if_pos (.inr (.inl ⟨by omega, fun h_ => absurd (congrArg str h_) (by assumption)⟩)) | exact if_pos (.inr (.inr (.inl (by omega)))) | exact if_pos (.inr (.inr (.inr (by omega)))) | exact if_neg (num_not (by omega) (by omega) (by first | (intro a_ b_; omega) | (intro a_ b_; have h_ := congrArg (fun x : UInt8 => (x.toNat : Int)) b_; exact absurd h_ (by assumption))) (by first | (intro a_ b_; exact b_ (str_inj.1 (by assumption))) | (intro a_ b_; omega)))
  rw [hn_]
  exact ⟨rfl, HB55, (HA.step F54 (inSL (by simp) inS0))⟩
 intro h52
 refine Yr0 [34, 35, 36, 37, 38] [(71, .bool (decide ((v : Int) > most))), (70, J most), (69, J v), (68, .bool false), (67, .bool false)] <| WO.topP ((v : Int) > most) ?_ ?_
 ·
  intro h56
  refine Yq 39 1 <| Ydn <| ZT <| Zsg <| Zr 2 <| Zc 75 (fail_ok g s (runE isD s (p + 1)) _ (by omega) hs ((p : Int) : Int) HB6) ?_
  rintro _ w57 ⟨rfl, HB59, F58⟩
  refine ⟨_, rfl, trivial, Zdn <| Zsg <| Zr 1 <| Zdn <| WE.ret <| WQ.thenR <| ZR (J 0) ?_⟩
  have hn_ : numR s p (p + 1) least most = none := by unfold numR; rw [hpi]; simp only; first | exact if_pos (.inl ⟨by omega, u8_eq (by show _ = (48 : Int); omega)⟩) | exact if_pos (.inr (.inl ⟨by omega, fun h_ => absurd (congrArg str h_) (by assumption)⟩)) | exact if_pos (.inr (.inr (.inl (by omega)))) | exact if_pos (.inr (.inr (.inr (by omega)))) | exact if_neg (num_not (by omega) (by omega) (by first | (intro a_ b_; omega) | (intro a_ b_; have h_ := congrArg (fun x : UInt8 => (x.toNat : Int)) b_; exact absurd h_ (by assumption))) (by first | (intro a_ b_; exact b_ (str_inj.1 (by assumption))) | (intro a_ b_; omega)))
  rw [hn_]
  exact ⟨rfl, HB59, (HA.step F58 (inSL (by simp) inS0))⟩
 intro h56
 refine Yq 39 1 <| Ydn <| ZF <| Zk <| Zsg <| Zr 2 <| Zdn <| WE.ret <| ZR (J v) ?_
 have hn_ : numR s p (p + 1) least most = some v := by unfold numR; rw [hpi]; simp only; first | exact if_pos (.inl ⟨by omega, u8_eq (by show _ = (48 : Int); omega)⟩) | exact if_pos (.inr (.inl ⟨by omega, fun h_ => absurd (congrArg str h_) (by assumption)⟩)) | exact if_pos (.inr (.inr (.inl (by omega)))) | exact if_pos (.inr (.inr (.inr (by omega)))) | exact if_neg (num_not (by omega) (by omega) (by first | (intro a_ b_; omega) | (intro a_ b_; have h_ := congrArg (fun x : UInt8 => (x.toNat : Int)) b_; exact absurd h_ (by assumption))) (by first | (intro a_ b_; exact b_ (str_inj.1 (by assumption))) | (intro a_ b_; omega)))
 rw [hn_]
 exact ⟨rfl, HB6, HA⟩
set_option maxRecDepth 100000 in
set_option maxHeartbeats 400000 in
theorem number_m_syntax (g : Nat) (s : L) (p : Nat) (w : World) (hp : p ≤ s.length) (hs : s.length ≤ 1000000) (least most : Int) (v : Int) (hlt : p < s.length) (hc : gB s p = 45) (hpi : Lib.parseIntB 64 ((s.take (runE isD s (p + 1))).drop p) = .«syntax») (HS : VarI w "strconv.ErrSyntax") (HR : VarI w "strconv.ErrRange") (hgS : 1 ≠ g) (hgR : 2 ≠ g) (HB : Blk w g #[.string (str s), .int .i64 (p : Int), .int .i64 (-1)] 138) :
    Calls Tryz.prog 85 #[.pointer (some ⟨g, 0, none⟩), .int .i64 least, .int .i64 most] w fun e w' => e = .returned (.int .i64 ((numR s p (p + 1) least most).getD 0)) ∧ Blk w' g #[.string (str s), .int .i64 ((runE isD s (p + 1) : Nat) : Int), .int .i64 (if (numR s p (p + 1) least most).isSome then -1 else (p : Int))] 138 ∧ Fr [g] w w' := by
 have he1 := runE_ge isD s (p + 1)
 have he2 := runE_le isD (show p + 1 ≤ s.length by omega)
 have hdl_ : ((s.take (runE isD s (p + 1))).drop (p + 1)).length = runE isD s (p + 1) - (p + 1) := by rw [List.length_drop, List.length_take]; omega
 have HA := Fr.refl [g] w
 refine Ze Tryz.func85 _ <| Zsg <| Zr 1 <| Zdn <| Zsg <| Zr 3 <| Zl 14 (J (p : Int)) (HB.s 1) <| Zr 1 <| Zdn <| Zsg <| Zr 1 <| Zc 16 (next_yes g s p _ hp hs 45 hlt hc HB) ?_
 rintro _ w1 ⟨rfl, HB3, F2⟩
 refine ⟨_, rfl, trivial, Zdn <| Zsg <| Zr 1 <| Zc 18 (run_d g s (p + 1) _ (by omega) hs HB3) ?_⟩
 rintro _ w4 ⟨rfl, HB6, F5⟩
 refine ⟨_, rfl, trivial, Zr 1 <| Zdn <| Zq <| ZE [3, 8] [] [10] 16 ?_⟩
 intro w7 F8 _
 have HB6 := HB6.k F8
 have HS := (var_keep 1 (by kernel_rfl) (var_keep 1 (by kernel_rfl) HS F2 (ninC hgS (nin0 _))) F5 (ninC hgS (nin0 _))).k F8
 refine Yq 0 3 <| Yl 3 23 (.string (str s)) (HB6.s 0) <| Yq 4 4 <| Yl 8 28 (J ((runE isD s (p + 1) : Nat) : Int)) (HB6.s 1) <| Yvt 9 (lo := (p : Int)) (hi := ((runE isD s (p + 1) : Nat) : Int)) 29 p (runE isD s (p + 1)) s (by rfl) (by rfl) (by omega) (by omega) ?_
 obtain ⟨tp_, pe_, hvar_⟩ := id HS
 refine Yc 10 30 (Tryz.strconv_ParseInt_10_at64_syntax_var (str ((s.take (runE isD s (p + 1))).drop p)) (by rw [str_size, List.length_drop, List.length_take]; omega) hpi tp_ pe_ _ hvar_) ?_
 rintro _ w9 ⟨N_, rfl, _, _, hbw⟩
 have F10 := Fr.of_below hbw
 refine ⟨_, rfl, trivial, Yq 11 5 <| Ydn <| Zq <| Zq <| ZE [20, 25] [] [] 40 ?_⟩
 intro w11 F12 _
 refine Yq 0 40 <| Ydn <| ZT <| Zsg <| Zr 2 <| Zc 75 (fail_ok g s (runE isD s (p + 1)) _ (by omega) hs ((p : Int) : Int) ((HB6.k F10).k F12)) ?_
 rintro _ w13 ⟨rfl, HB15, F14⟩
 refine ⟨_, rfl, trivial, Zdn <| Zsg <| Zr 1 <| Zdn <| WE.ret <| WQ.thenR <| ZR (J 0) ?_⟩
 have hn_ : numR s p (p + 1) least most = none := by unfold numR; rw [hpi]
 rw [hn_]
 exact ⟨rfl, HB15, ((((((HA.step F2 (inSL (by simp) inS0)).step F5 (inSL (by simp) inS0)).step0 F8).step0 F10).step0 F12).step F14 (inSL (by simp) inS0))⟩
set_option maxRecDepth 100000 in
set_option maxHeartbeats 400000 in
theorem number_m_range (g : Nat) (s : L) (p : Nat) (w : World) (hp : p ≤ s.length) (hs : s.length ≤ 1000000) (least most : Int) (v : Int) (hlt : p < s.length) (hc : gB s p = 45) (hpi : Lib.parseIntB 64 ((s.take (runE isD s (p + 1))).drop p) = .range) (HS : VarI w "strconv.ErrSyntax") (HR : VarI w "strconv.ErrRange") (hgS : 1 ≠ g) (hgR : 2 ≠ g) (HB : Blk w g #[.string (str s), .int .i64 (p : Int), .int .i64 (-1)] 138) :
    Calls Tryz.prog 85 #[.pointer (some ⟨g, 0, none⟩), .int .i64 least, .int .i64 most] w fun e w' => e = .returned (.int .i64 ((numR s p (p + 1) least most).getD 0)) ∧ Blk w' g #[.string (str s), .int .i64 ((runE isD s (p + 1) : Nat) : Int), .int .i64 (if (numR s p (p + 1) least most).isSome then -1 else (p : Int))] 138 ∧ Fr [g] w w' := by
 have he1 := runE_ge isD s (p + 1)
 have he2 := runE_le isD (show p + 1 ≤ s.length by omega)
 have hdl_ : ((s.take (runE isD s (p + 1))).drop (p + 1)).length = runE isD s (p + 1) - (p + 1) := by rw [List.length_drop, List.length_take]; omega
 have HA := Fr.refl [g] w
 refine Ze Tryz.func85 _ <| Zsg <| Zr 1 <| Zdn <| Zsg <| Zr 3 <| Zl 14 (J (p : Int)) (HB.s 1) <| Zr 1 <| Zdn <| Zsg <| Zr 1 <| Zc 16 (next_yes g s p _ hp hs 45 hlt hc HB) ?_
 rintro _ w1 ⟨rfl, HB3, F2⟩
 refine ⟨_, rfl, trivial, Zdn <| Zsg <| Zr 1 <| Zc 18 (run_d g s (p + 1) _ (by omega) hs HB3) ?_⟩
 rintro _ w4 ⟨rfl, HB6, F5⟩
 refine ⟨_, rfl, trivial, Zr 1 <| Zdn <| Zq <| ZE [3, 8] [] [10] 16 ?_⟩
 intro w7 F8 _
 have HB6 := HB6.k F8
 have HR := (var_keep 2 (by kernel_rfl) (var_keep 2 (by kernel_rfl) HR F2 (ninC hgR (nin0 _))) F5 (ninC hgR (nin0 _))).k F8
 refine Yq 0 3 <| Yl 3 23 (.string (str s)) (HB6.s 0) <| Yq 4 4 <| Yl 8 28 (J ((runE isD s (p + 1) : Nat) : Int)) (HB6.s 1) <| Yvt 9 (lo := (p : Int)) (hi := ((runE isD s (p + 1) : Nat) : Int)) 29 p (runE isD s (p + 1)) s (by rfl) (by rfl) (by omega) (by omega) ?_
 obtain ⟨tp_, pe_, hvar_⟩ := id HR
 refine Yc 10 30 (Tryz.strconv_ParseInt_10_at64_range_var (str ((s.take (runE isD s (p + 1))).drop p)) (by rw [str_size, List.length_drop, List.length_take]; omega) hpi tp_ pe_ _ hvar_) ?_
 rintro _ w9 ⟨N_, rfl, _, _, hbw⟩
 have F10 := Fr.of_below hbw
 refine ⟨_, rfl, trivial, Yq 11 5 <| Ydn <| Zq <| Zq <| ZE [20, 25] [] [] 40 ?_⟩
 intro w11 F12 _
 refine Yq 0 40 <| Ydn <| ZT <| Zsg <| Zr 2 <| Zc 75 (fail_ok g s (runE isD s (p + 1)) _ (by omega) hs ((p : Int) : Int) ((HB6.k F10).k F12)) ?_
 rintro _ w13 ⟨rfl, HB15, F14⟩
 refine ⟨_, rfl, trivial, Zdn <| Zsg <| Zr 1 <| Zdn <| WE.ret <| WQ.thenR <| ZR (J 0) ?_⟩
 have hn_ : numR s p (p + 1) least most = none := by unfold numR; rw [hpi]
 rw [hn_]
 exact ⟨rfl, HB15, ((((((HA.step F2 (inSL (by simp) inS0)).step F5 (inSL (by simp) inS0)).step0 F8).step0 F10).step0 F12).step F14 (inSL (by simp) inS0))⟩
set_option maxRecDepth 100000 in
set_option maxHeartbeats 400000 in
theorem number_d_ok (g : Nat) (s : L) (p : Nat) (w : World) (hp : p ≤ s.length) (hs : s.length ≤ 1000000) (least most : Int) (v : Int) (hc : ¬ (p < s.length ∧ gB s p = 45)) (hpi : Lib.parseIntB 64 ((s.take (runE isD s (p))).drop p) = .ok v) (HS : VarI w "strconv.ErrSyntax") (HR : VarI w "strconv.ErrRange") (hgS : 1 ≠ g) (hgR : 2 ≠ g) (HB : Blk w g #[.string (str s), .int .i64 (p : Int), .int .i64 (-1)] 138) :
    Calls Tryz.prog 85 #[.pointer (some ⟨g, 0, none⟩), .int .i64 least, .int .i64 most] w fun e w' => e = .returned (.int .i64 ((numR s p (p) least most).getD 0)) ∧ Blk w' g #[.string (str s), .int .i64 ((runE isD s (p) : Nat) : Int), .int .i64 (if (numR s p (p) least most).isSome then -1 else (p : Int))] 138 ∧ Fr [g] w w' := by
 have he1 := runE_ge isD s (p)
 have he2 := runE_le isD (show p ≤ s.length by omega)
 have hdl_ : ((s.take (runE isD s (p))).drop (p)).length = runE isD s (p) - (p) := by rw [List.length_drop, List.length_take]; omega
 have HA := Fr.refl [g] w
 refine Ze Tryz.func85 _ <| Zsg <| Zr 1 <| Zdn <| Zsg <| Zr 3 <| Zl 14 (J (p : Int)) (HB.s 1) <| Zr 1 <| Zdn <| Zsg <| Zr 1 <| Zc 16 (next_no g s p _ hp hs 45 hc HB) ?_
 rintro _ w1 ⟨rfl, HB3, F2⟩
 refine ⟨_, rfl, trivial, Zdn <| Zsg <| Zr 1 <| Zc 18 (run_d g s p _ (by omega) hs HB3) ?_⟩
 rintro _ w4 ⟨rfl, HB6, F5⟩
 refine ⟨_, rfl, trivial, Zr 1 <| Zdn <| Zq <| ZE [3, 8] [] [10] 16 ?_⟩
 intro w7 F8 _
 have HB6 := HB6.k F8
 refine Yq 0 3 <| Yl 3 23 (.string (str s)) (HB6.s 0) <| Yq 4 4 <| Yl 8 28 (J ((runE isD s p : Nat) : Int)) (HB6.s 1) <| Yvt 9 (lo := (p : Int)) (hi := ((runE isD s p : Nat) : Int)) 29 p (runE isD s p) s (by rfl) (by rfl) (by omega) (by omega) <| Yc 10 30 (Tryz.strconv_ParseInt_10_at64_ok (str ((s.take (runE isD s p)).drop p)) (by rw [str_size, List.length_drop, List.length_take]; omega) v hpi _) ?_
 rintro _ w9 ⟨rfl, hbw⟩
 have F10 := fr_bytes hbw
 refine ⟨_, rfl, trivial, Yq 11 5 <| Ydn <| Zq <| Zq <| ZE [20, 25] [] [] 40 ?_⟩
 intro w11 F12 _
 have HA := ((((HA.step F2 (inSL (by simp) inS0)).step F5 (inSL (by simp) inS0)).step0 F8).step0 F10).step0 F12
 have HB6 := (HB6.k F10).k F12
 refine Yr0 [0, 1, 2, 3, 4, 5] [(38, .bool (decide (((((s.take (runE isD s p)).drop p).length : Int) : Int) > (1 : Int)))), (37, J (((s.take (runE isD s p)).drop p).length : Int)), (36, .string (str ((s.take (runE isD s p)).drop p))), (35, .bool false), (34, .bool false), (33, .nilIface)] <| WO.topP (((((s.take (runE isD s p)).drop p).length : Int) : Int) > (1 : Int)) ?_ ?_
 ·
  intro h13
  refine Yq 6 2 <| Yis 8 (i := 0) 41 0 ((s.take (runE isD s p)).drop p) (by rfl) (by omega) <| Yr0 [9] [(42, .bool (decide ((((gB ((s.take (runE isD s p)).drop p) 0).toNat : Int) : Int) = (48 : Int))))] <| WO.topP ((((gB ((s.take (runE isD s p)).drop p) 0).toNat : Int) : Int) = (48 : Int)) ?_ ?_
  ·
   intro h14
   refine Yq 10 30 <| Ydn <| ZT <| Zsg <| Zr 2 <| Zc 75 (fail_ok g s (runE isD s p) _ (by omega) hs ((p : Int) : Int) HB6) ?_
   rintro _ w15 ⟨rfl, HB17, F16⟩
   refine ⟨_, rfl, trivial, Zdn <| Zsg <| Zr 1 <| Zdn <| WE.ret <| WQ.thenR <| ZR (J 0) ?_⟩
   have hn_ : numR s p (p) least most = none := by unfold numR; rw [hpi]; simp only; first | exact if_pos (.inl ⟨by omega, u8_eq (by show _ = (48 : Int); omega)⟩) | exact if_pos (.inr (.inl ⟨by omega, fun h_ => absurd (congrArg str h_) (by assumption)⟩)) | exact if_pos (.inr (.inr (.inl (by omega)))) | exact if_pos (.inr (.inr (.inr (by omega)))) | exact if_neg (num_not (by omega) (by omega) (by first | (intro a_ b_; omega) | (intro a_ b_; have h_ := congrArg (fun x : UInt8 => (x.toNat : Int)) b_; exact absurd h_ (by assumption))) (by first | (intro a_ b_; exact b_ (str_inj.1 (by assumption))) | (intro a_ b_; omega)))
   rw [hn_]
   exact ⟨rfl, HB17, (HA.step F16 (inSL (by simp) inS0))⟩
  intro h14
  refine Yr0 [10, 11, 12, 13, 14] [(47, .bool (decide ((v : Int) = 0))), (46, J v), (45, .bool false), (44, .bool false), (43, .bool false)] <| WO.topP ((v : Int) = 0) ?_ ?_
  ·
   intro h18
   refine Yq 15 5 <| Yl 20 53 (.string (str s)) (HB6.s 0) <| Yq 21 4 <| Yl 25 58 (J ((runE isD s p : Nat) : Int)) (HB6.s 1) <| Yvt 26 (lo := (p : Int)) (hi := ((runE isD s p : Nat) : Int)) 59 p (runE isD s p) s (by rfl) (by rfl) (by omega) (by omega) <| Yr0 [27] [(60, .bool (!((str ((s.take (runE isD s p)).drop p)).toList == (str ((s.take (runE isD s p)).drop p)).toList)))] <| WO.top (v' := .bool (!decide ((str ((s.take (runE isD s p)).drop p)) = (str ((s.take (runE isD s p)).drop p))))) (congrArg Value.bool (congrArg not (streq (str ((s.take (runE isD s p)).drop p)) (str ((s.take (runE isD s p)).drop p))))) <| WO.topN ((str ((s.take (runE isD s p)).drop p)) = (str ((s.take (runE isD s p)).drop p))) ?_ ?_
   ·
    intro h19
    refine Yr0 [28, 29, 30, 31, 32, 33] [(66, .bool (decide ((v : Int) < least))), (65, J least), (64, J v), (63, .bool false), (62, .bool false), (61, .bool false)] <| WO.topP ((v : Int) < least) ?_ ?_
    ·
     intro h20
     refine Yq 34 6 <| Ydn <| ZT <| Zsg <| Zr 2 <| Zc 75 (fail_ok g s (runE isD s p) _ (by omega) hs ((p : Int) : Int) HB6) ?_
     rintro _ w21 ⟨rfl, HB23, F22⟩
     refine ⟨_, rfl, trivial, Zdn <| Zsg <| Zr 1 <| Zdn <| WE.ret <| WQ.thenR <| ZR (J 0) ?_⟩
     have hn_ : numR s p (p) least most = none := by unfold numR; rw [hpi]; simp only; first | exact if_pos (.inl ⟨by omega, u8_eq (by show _ = (48 : Int); omega)⟩) | exact if_pos (.inr (.inl ⟨by omega, fun h_ => absurd (congrArg str h_) (by assumption)⟩)) | exact if_pos (.inr (.inr (.inl (by omega)))) | exact if_pos (.inr (.inr (.inr (by omega)))) | exact if_neg (num_not (by omega) (by omega) (by first | (intro a_ b_; omega) | (intro a_ b_; have h_ := congrArg (fun x : UInt8 => (x.toNat : Int)) b_; exact absurd h_ (by assumption))) (by first | (intro a_ b_; exact b_ (str_inj.1 (by assumption))) | (intro a_ b_; omega)))
     rw [hn_]
     exact ⟨rfl, HB23, (HA.step F22 (inSL (by simp) inS0))⟩
    intro h20
    refine Yr0 [34, 35, 36, 37, 38] [(71, .bool (decide ((v : Int) > most))), (70, J most), (69, J v), (68, .bool false), (67, .bool false)] <| WO.topP ((v : Int) > most) ?_ ?_
    ·
     intro h24
     refine Yq 39 1 <| Ydn <| ZT <| Zsg <| Zr 2 <| Zc 75 (fail_ok g s (runE isD s p) _ (by omega) hs ((p : Int) : Int) HB6) ?_
     rintro _ w25 ⟨rfl, HB27, F26⟩
     refine ⟨_, rfl, trivial, Zdn <| Zsg <| Zr 1 <| Zdn <| WE.ret <| WQ.thenR <| ZR (J 0) ?_⟩
     have hn_ : numR s p (p) least most = none := by unfold numR; rw [hpi]; simp only; first | exact if_pos (.inl ⟨by omega, u8_eq (by show _ = (48 : Int); omega)⟩) | exact if_pos (.inr (.inl ⟨by omega, fun h_ => absurd (congrArg str h_) (by assumption)⟩)) | exact if_pos (.inr (.inr (.inl (by omega)))) | exact if_pos (.inr (.inr (.inr (by omega)))) | exact if_neg (num_not (by omega) (by omega) (by first | (intro a_ b_; omega) | (intro a_ b_; have h_ := congrArg (fun x : UInt8 => (x.toNat : Int)) b_; exact absurd h_ (by assumption))) (by first | (intro a_ b_; exact b_ (str_inj.1 (by assumption))) | (intro a_ b_; omega)))
     rw [hn_]
     exact ⟨rfl, HB27, (HA.step F26 (inSL (by simp) inS0))⟩
    intro h24
    refine Yq 39 1 <| Ydn <| ZF <| Zk <| Zsg <| Zr 2 <| Zdn <| WE.ret <| ZR (J v) ?_
    have hn_ : numR s p (p) least most = some v := by unfold numR; rw [hpi]; simp only; first | exact if_pos (.inl ⟨by omega, u8_eq (by show _ = (48 : Int); omega)⟩) | exact if_pos (.inr (.inl ⟨by omega, fun h_ => absurd (congrArg str h_) (by assumption)⟩)) | exact if_pos (.inr (.inr (.inl (by omega)))) | exact if_pos (.inr (.inr (.inr (by omega)))) | exact if_neg (num_not (by omega) (by omega) (by first | (intro a_ b_; omega) | (intro a_ b_; have h_ := congrArg (fun x : UInt8 => (x.toNat : Int)) b_; exact absurd h_ (by assumption))) (by first | (intro a_ b_; exact b_ (str_inj.1 (by assumption))) | (intro a_ b_; omega)))
    rw [hn_]
    exact ⟨rfl, HB6, HA⟩
   intro h19
   refine Yq 28 12 <| Ydn <| ZT <| Zsg <| Zr 2 <| Zc 75 (fail_ok g s (runE isD s p) _ (by omega) hs ((p : Int) : Int) HB6) ?_
   rintro _ w28 ⟨rfl, HB30, F29⟩
   refine ⟨_, rfl, trivial, Zdn <| Zsg <| Zr 1 <| Zdn <| WE.ret <| WQ.thenR <| ZR (J 0) ?_⟩
   have hn_ : numR s p (p) least most = none := by unfold numR; rw [hpi]; simp only; first | exact if_pos (.inl ⟨by omega, u8_eq (by show _ = (48 : Int); omega)⟩) | exact if_pos (.inr (.inl ⟨by omega, fun h_ => absurd (congrArg str h_) (by assumption)⟩)) | exact if_pos (.inr (.inr (.inl (by omega)))) | exact if_pos (.inr (.inr (.inr (by omega)))) | exact if_neg (num_not (by omega) (by omega) (by first | (intro a_ b_; omega) | (intro a_ b_; have h_ := congrArg (fun x : UInt8 => (x.toNat : Int)) b_; exact absurd h_ (by assumption))) (by first | (intro a_ b_; exact b_ (str_inj.1 (by assumption))) | (intro a_ b_; omega)))
   rw [hn_]
   exact ⟨rfl, HB30, (HA.step F29 (inSL (by simp) inS0))⟩
  intro h18
  refine Yr0 [15, 16, 17, 18, 19, 20, 21, 22, 23, 24, 25, 26, 27, 28, 29, 30, 31, 32, 33] [(66, .bool (decide ((v : Int) < least))), (65, J least), (64, J v), (63, .bool false), (62, .bool false), (61, .bool false), (60, undef), (59, undef), (58, undef), (57, undef), (56, undef), (55, undef), (54, undef), (53, undef), (52, undef), (51, undef), (50, undef), (49, undef), (48, .bool false)] <| WO.topP ((v : Int) < least) ?_ ?_
  ·
   intro h31
   refine Yq 34 6 <| Ydn <| ZT <| Zsg <| Zr 2 <| Zc 75 (fail_ok g s (runE isD s p) _ (by omega) hs ((p : Int) : Int) HB6) ?_
   rintro _ w32 ⟨rfl, HB34, F33⟩
   refine ⟨_, rfl, trivial, Zdn <| Zsg <| Zr 1 <| Zdn <| WE.ret <| WQ.thenR <| ZR (J 0) ?_⟩
   have hn_ : numR s p (p) least most = none := by unfold numR; rw [hpi]; simp only; first | exact if_pos (.inl ⟨by omega, u8_eq (by show _ = (48 : Int); omega)⟩) | exact if_pos (.inr (.inl ⟨by omega, fun h_ => absurd (congrArg str h_) (by assumption)⟩)) | exact if_pos (.inr (.inr (.inl (by omega)))) | exact if_pos (.inr (.inr (.inr (by omega)))) | exact if_neg (num_not (by omega) (by omega) (by first | (intro a_ b_; omega) | (intro a_ b_; have h_ := congrArg (fun x : UInt8 => (x.toNat : Int)) b_; exact absurd h_ (by assumption))) (by first | (intro a_ b_; exact b_ (str_inj.1 (by assumption))) | (intro a_ b_; omega)))
   rw [hn_]
   exact ⟨rfl, HB34, (HA.step F33 (inSL (by simp) inS0))⟩
  intro h31
  refine Yr0 [34, 35, 36, 37, 38] [(71, .bool (decide ((v : Int) > most))), (70, J most), (69, J v), (68, .bool false), (67, .bool false)] <| WO.topP ((v : Int) > most) ?_ ?_
  ·
   intro h35
   refine Yq 39 1 <| Ydn <| ZT <| Zsg <| Zr 2 <| Zc 75 (fail_ok g s (runE isD s p) _ (by omega) hs ((p : Int) : Int) HB6) ?_
   rintro _ w36 ⟨rfl, HB38, F37⟩
   refine ⟨_, rfl, trivial, Zdn <| Zsg <| Zr 1 <| Zdn <| WE.ret <| WQ.thenR <| ZR (J 0) ?_⟩
   have hn_ : numR s p (p) least most = none := by unfold numR; rw [hpi]; simp only; first | exact if_pos (.inl ⟨by omega, u8_eq (by show _ = (48 : Int); omega)⟩) | exact if_pos (.inr (.inl ⟨by omega, fun h_ => absurd (congrArg str h_) (by assumption)⟩)) | exact if_pos (.inr (.inr (.inl (by omega)))) | exact if_pos (.inr (.inr (.inr (by omega)))) | exact if_neg (num_not (by omega) (by omega) (by first | (intro a_ b_; omega) | (intro a_ b_; have h_ := congrArg (fun x : UInt8 => (x.toNat : Int)) b_; exact absurd h_ (by assumption))) (by first | (intro a_ b_; exact b_ (str_inj.1 (by assumption))) | (intro a_ b_; omega)))
   rw [hn_]
   exact ⟨rfl, HB38, (HA.step F37 (inSL (by simp) inS0))⟩
  intro h35
  refine Yq 39 1 <| Ydn <| ZF <| Zk <| Zsg <| Zr 2 <| Zdn <| WE.ret <| ZR (J v) ?_
  have hn_ : numR s p (p) least most = some v := by unfold numR; rw [hpi]; simp only; first | exact if_pos (.inl ⟨by omega, u8_eq (by show _ = (48 : Int); omega)⟩) | exact if_pos (.inr (.inl ⟨by omega, fun h_ => absurd (congrArg str h_) (by assumption)⟩)) | exact if_pos (.inr (.inr (.inl (by omega)))) | exact if_pos (.inr (.inr (.inr (by omega)))) | exact if_neg (num_not (by omega) (by omega) (by first | (intro a_ b_; omega) | (intro a_ b_; have h_ := congrArg (fun x : UInt8 => (x.toNat : Int)) b_; exact absurd h_ (by assumption))) (by first | (intro a_ b_; exact b_ (str_inj.1 (by assumption))) | (intro a_ b_; omega)))
  rw [hn_]
  exact ⟨rfl, HB6, HA⟩
 intro h13
 refine Yr0 [6, 7, 8, 9, 10, 11, 12, 13, 14] [(47, .bool (decide ((v : Int) = 0))), (46, J v), (45, .bool false), (44, .bool false), (43, .bool false), (42, undef), (41, undef), (40, undef), (39, .bool false)] <| WO.topP ((v : Int) = 0) ?_ ?_
 ·
  intro h39
  refine Yq 15 5 <| Yl 20 53 (.string (str s)) (HB6.s 0) <| Yq 21 4 <| Yl 25 58 (J ((runE isD s p : Nat) : Int)) (HB6.s 1) <| Yvt 26 (lo := (p : Int)) (hi := ((runE isD s p : Nat) : Int)) 59 p (runE isD s p) s (by rfl) (by rfl) (by omega) (by omega) <| Yr0 [27] [(60, .bool (!((str ((s.take (runE isD s p)).drop p)).toList == (str ((s.take (runE isD s p)).drop p)).toList)))] <| WO.top (v' := .bool (!decide ((str ((s.take (runE isD s p)).drop p)) = (str ((s.take (runE isD s p)).drop p))))) (congrArg Value.bool (congrArg not (streq (str ((s.take (runE isD s p)).drop p)) (str ((s.take (runE isD s p)).drop p))))) <| WO.topN ((str ((s.take (runE isD s p)).drop p)) = (str ((s.take (runE isD s p)).drop p))) ?_ ?_
  ·
   intro h40
   refine Yr0 [28, 29, 30, 31, 32, 33] [(66, .bool (decide ((v : Int) < least))), (65, J least), (64, J v), (63, .bool false), (62, .bool false), (61, .bool false)] <| WO.topP ((v : Int) < least) ?_ ?_
   ·
    intro h41
    refine Yq 34 6 <| Ydn <| ZT <| Zsg <| Zr 2 <| Zc 75 (fail_ok g s (runE isD s p) _ (by omega) hs ((p : Int) : Int) HB6) ?_
    rintro _ w42 ⟨rfl, HB44, F43⟩
    refine ⟨_, rfl, trivial, Zdn <| Zsg <| Zr 1 <| Zdn <| WE.ret <| WQ.thenR <| ZR (J 0) ?_⟩
    have hn_ : numR s p (p) least most = none := by unfold numR; rw [hpi]; simp only; first | exact if_pos (.inl ⟨by omega, u8_eq (by show _ = (48 : Int); omega)⟩) | exact if_pos (.inr (.inl ⟨by omega, fun h_ => absurd (congrArg str h_) (by assumption)⟩)) | exact if_pos (.inr (.inr (.inl (by omega)))) | exact if_pos (.inr (.inr (.inr (by omega)))) | exact if_neg (num_not (by omega) (by omega) (by first | (intro a_ b_; omega) | (intro a_ b_; have h_ := congrArg (fun x : UInt8 => (x.toNat : Int)) b_; exact absurd h_ (by assumption))) (by first | (intro a_ b_; exact b_ (str_inj.1 (by assumption))) | (intro a_ b_; omega)))
    rw [hn_]
    exact ⟨rfl, HB44, (HA.step F43 (inSL (by simp) inS0))⟩
   intro h41
   refine Yr0 [34, 35, 36, 37, 38] [(71, .bool (decide ((v : Int) > most))), (70, J most), (69, J v), (68, .bool false), (67, .bool false)] <| WO.topP ((v : Int) > most) ?_ ?_
   ·
    intro h45
    refine Yq 39 1 <| Ydn <| ZT <| Zsg <| Zr 2 <| Zc 75 (fail_ok g s (runE isD s p) _ (by omega) hs ((p : Int) : Int) HB6) ?_
    rintro _ w46 ⟨rfl, HB48, F47⟩
    refine ⟨_, rfl, trivial, Zdn <| Zsg <| Zr 1 <| Zdn <| WE.ret <| WQ.thenR <| ZR (J 0) ?_⟩
    have hn_ : numR s p (p) least most = none := by unfold numR; rw [hpi]; simp only; first | exact if_pos (.inl ⟨by omega, u8_eq (by show _ = (48 : Int); omega)⟩) | exact if_pos (.inr (.inl ⟨by omega, fun h_ => absurd (congrArg str h_) (by assumption)⟩)) | exact if_pos (.inr (.inr (.inl (by omega)))) | exact if_pos (.inr (.inr (.inr (by omega)))) | exact if_neg (num_not (by omega) (by omega) (by first | (intro a_ b_; omega) | (intro a_ b_; have h_ := congrArg (fun x : UInt8 => (x.toNat : Int)) b_; exact absurd h_ (by assumption))) (by first | (intro a_ b_; exact b_ (str_inj.1 (by assumption))) | (intro a_ b_; omega)))
    rw [hn_]
    exact ⟨rfl, HB48, (HA.step F47 (inSL (by simp) inS0))⟩
   intro h45
   refine Yq 39 1 <| Ydn <| ZF <| Zk <| Zsg <| Zr 2 <| Zdn <| WE.ret <| ZR (J v) ?_
   have hn_ : numR s p (p) least most = some v := by unfold numR; rw [hpi]; simp only; first | exact if_pos (.inl ⟨by omega, u8_eq (by show _ = (48 : Int); omega)⟩) | exact if_pos (.inr (.inl ⟨by omega, fun h_ => absurd (congrArg str h_) (by assumption)⟩)) | exact if_pos (.inr (.inr (.inl (by omega)))) | exact if_pos (.inr (.inr (.inr (by omega)))) | exact if_neg (num_not (by omega) (by omega) (by first | (intro a_ b_; omega) | (intro a_ b_; have h_ := congrArg (fun x : UInt8 => (x.toNat : Int)) b_; exact absurd h_ (by assumption))) (by first | (intro a_ b_; exact b_ (str_inj.1 (by assumption))) | (intro a_ b_; omega)))
   rw [hn_]
   exact ⟨rfl, HB6, HA⟩
  intro h40
  refine Yq 28 12 <| Ydn <| ZT <| Zsg <| Zr 2 <| Zc 75 (fail_ok g s (runE isD s p) _ (by omega) hs ((p : Int) : Int) HB6) ?_
  rintro _ w49 ⟨rfl, HB51, F50⟩
  refine ⟨_, rfl, trivial, Zdn <| Zsg <| Zr 1 <| Zdn <| WE.ret <| WQ.thenR <| ZR (J 0) ?_⟩
  have hn_ : numR s p (p) least most = none := by unfold numR; rw [hpi]; simp only; first | exact if_pos (.inl ⟨by omega, u8_eq (by show _ = (48 : Int); omega)⟩) | exact if_pos (.inr (.inl ⟨by omega, fun h_ => absurd (congrArg str h_) (by assumption)⟩)) | exact if_pos (.inr (.inr (.inl (by omega)))) | exact if_pos (.inr (.inr (.inr (by omega)))) | exact if_neg (num_not (by omega) (by omega) (by first | (intro a_ b_; omega) | (intro a_ b_; have h_ := congrArg (fun x : UInt8 => (x.toNat : Int)) b_; exact absurd h_ (by assumption))) (by first | (intro a_ b_; exact b_ (str_inj.1 (by assumption))) | (intro a_ b_; omega)))
  rw [hn_]
  exact ⟨rfl, HB51, (HA.step F50 (inSL (by simp) inS0))⟩
 intro h39
 refine Yr0 [15, 16, 17, 18, 19, 20, 21, 22, 23, 24, 25, 26, 27, 28, 29, 30, 31, 32, 33] [(66, .bool (decide ((v : Int) < least))), (65, J least), (64, J v), (63, .bool false), (62, .bool false), (61, .bool false), (60, undef), (59, undef), (58, undef), (57, undef), (56, undef), (55, undef), (54, undef), (53, undef), (52, undef), (51, undef), (50, undef), (49, undef), (48, .bool false)] <| WO.topP ((v : Int) < least) ?_ ?_
 ·
  intro h52
  refine Yq 34 6 <| Ydn <| ZT <| Zsg <| Zr 2 <| Zc 75 (fail_ok g s (runE isD s p) _ (by omega) hs ((p : Int) : Int) HB6) ?_
  rintro _ w53 ⟨rfl, HB55, F54⟩
  refine ⟨_, rfl, trivial, Zdn <| Zsg <| Zr 1 <| Zdn <| WE.ret <| WQ.thenR <| ZR (J 0) ?_⟩
  have hn_ : numR s p (p) least most = none := by unfold numR; rw [hpi]; simp only; first | exact if_pos (.inl ⟨by omega, u8_eq (by show _ = (48 : Int); omega)⟩) | exact if_pos (.inr (.inl ⟨by omega, fun h_ => absurd (congrArg str h_) (by assumption)⟩)) | exact if_pos (.inr (.inr (.inl (by omega)))) | exact if_pos (.inr (.inr (.inr (by omega)))) | exact if_neg (num_not (by omega) (by omega) (by first | (intro a_ b_; omega) | (intro a_ b_; have h_ := congrArg (fun x : UInt8 => (x.toNat : Int)) b_; exact absurd h_ (by assumption))) (by first | (intro a_ b_; exact b_ (str_inj.1 (by assumption))) | (intro a_ b_; omega)))
  rw [hn_]
  exact ⟨rfl, HB55, (HA.step F54 (inSL (by simp) inS0))⟩
 intro h52
 refine Yr0 [34, 35, 36, 37, 38] [(71, .bool (decide ((v : Int) > most))), (70, J most), (69, J v), (68, .bool false), (67, .bool false)] <| WO.topP ((v : Int) > most) ?_ ?_
 ·
  intro h56
  refine Yq 39 1 <| Ydn <| ZT <| Zsg <| Zr 2 <| Zc 75 (fail_ok g s (runE isD s p) _ (by omega) hs ((p : Int) : Int) HB6) ?_
  rintro _ w57 ⟨rfl, HB59, F58⟩
  refine ⟨_, rfl, trivial, Zdn <| Zsg <| Zr 1 <| Zdn <| WE.ret <| WQ.thenR <| ZR (J 0) ?_⟩
  have hn_ : numR s p (p) least most = none := by unfold numR; rw [hpi]; simp only; first | exact if_pos (.inl ⟨by omega, u8_eq (by show _ = (48 : Int); omega)⟩) | exact if_pos (.inr (.inl ⟨by omega, fun h_ => absurd (congrArg str h_) (by assumption)⟩)) | exact if_pos (.inr (.inr (.inl (by omega)))) | exact if_pos (.inr (.inr (.inr (by omega)))) | exact if_neg (num_not (by omega) (by omega) (by first | (intro a_ b_; omega) | (intro a_ b_; have h_ := congrArg (fun x : UInt8 => (x.toNat : Int)) b_; exact absurd h_ (by assumption))) (by first | (intro a_ b_; exact b_ (str_inj.1 (by assumption))) | (intro a_ b_; omega)))
  rw [hn_]
  exact ⟨rfl, HB59, (HA.step F58 (inSL (by simp) inS0))⟩
 intro h56
 refine Yq 39 1 <| Ydn <| ZF <| Zk <| Zsg <| Zr 2 <| Zdn <| WE.ret <| ZR (J v) ?_
 have hn_ : numR s p (p) least most = some v := by unfold numR; rw [hpi]; simp only; first | exact if_pos (.inl ⟨by omega, u8_eq (by show _ = (48 : Int); omega)⟩) | exact if_pos (.inr (.inl ⟨by omega, fun h_ => absurd (congrArg str h_) (by assumption)⟩)) | exact if_pos (.inr (.inr (.inl (by omega)))) | exact if_pos (.inr (.inr (.inr (by omega)))) | exact if_neg (num_not (by omega) (by omega) (by first | (intro a_ b_; omega) | (intro a_ b_; have h_ := congrArg (fun x : UInt8 => (x.toNat : Int)) b_; exact absurd h_ (by assumption))) (by first | (intro a_ b_; exact b_ (str_inj.1 (by assumption))) | (intro a_ b_; omega)))
 rw [hn_]
 exact ⟨rfl, HB6, HA⟩
set_option maxRecDepth 100000 in
set_option maxHeartbeats 400000 in
theorem number_d_syntax (g : Nat) (s : L) (p : Nat) (w : World) (hp : p ≤ s.length) (hs : s.length ≤ 1000000) (least most : Int) (v : Int) (hc : ¬ (p < s.length ∧ gB s p = 45)) (hpi : Lib.parseIntB 64 ((s.take (runE isD s (p))).drop p) = .«syntax») (HS : VarI w "strconv.ErrSyntax") (HR : VarI w "strconv.ErrRange") (hgS : 1 ≠ g) (hgR : 2 ≠ g) (HB : Blk w g #[.string (str s), .int .i64 (p : Int), .int .i64 (-1)] 138) :
    Calls Tryz.prog 85 #[.pointer (some ⟨g, 0, none⟩), .int .i64 least, .int .i64 most] w fun e w' => e = .returned (.int .i64 ((numR s p (p) least most).getD 0)) ∧ Blk w' g #[.string (str s), .int .i64 ((runE isD s (p) : Nat) : Int), .int .i64 (if (numR s p (p) least most).isSome then -1 else (p : Int))] 138 ∧ Fr [g] w w' := by
 have he1 := runE_ge isD s (p)
 have he2 := runE_le isD (show p ≤ s.length by omega)
 have hdl_ : ((s.take (runE isD s (p))).drop (p)).length = runE isD s (p) - (p) := by rw [List.length_drop, List.length_take]; omega
 have HA := Fr.refl [g] w
 refine Ze Tryz.func85 _ <| Zsg <| Zr 1 <| Zdn <| Zsg <| Zr 3 <| Zl 14 (J (p : Int)) (HB.s 1) <| Zr 1 <| Zdn <| Zsg <| Zr 1 <| Zc 16 (next_no g s p _ hp hs 45 hc HB) ?_
 rintro _ w1 ⟨rfl, HB3, F2⟩
 refine ⟨_, rfl, trivial, Zdn <| Zsg <| Zr 1 <| Zc 18 (run_d g s p _ (by omega) hs HB3) ?_⟩
 rintro _ w4 ⟨rfl, HB6, F5⟩
 refine ⟨_, rfl, trivial, Zr 1 <| Zdn <| Zq <| ZE [3, 8] [] [10] 16 ?_⟩
 intro w7 F8 _
 have HB6 := HB6.k F8
 have HS := (var_keep 1 (by kernel_rfl) (var_keep 1 (by kernel_rfl) HS F2 (ninC hgS (nin0 _))) F5 (ninC hgS (nin0 _))).k F8
 refine Yq 0 3 <| Yl 3 23 (.string (str s)) (HB6.s 0) <| Yq 4 4 <| Yl 8 28 (J ((runE isD s p : Nat) : Int)) (HB6.s 1) <| Yvt 9 (lo := (p : Int)) (hi := ((runE isD s p : Nat) : Int)) 29 p (runE isD s p) s (by rfl) (by rfl) (by omega) (by omega) ?_
 obtain ⟨tp_, pe_, hvar_⟩ := id HS
 refine Yc 10 30 (Tryz.strconv_ParseInt_10_at64_syntax_var (str ((s.take (runE isD s p)).drop p)) (by rw [str_size, List.length_drop, List.length_take]; omega) hpi tp_ pe_ _ hvar_) ?_
 rintro _ w9 ⟨N_, rfl, _, _, hbw⟩
 have F10 := Fr.of_below hbw
 refine ⟨_, rfl, trivial, Yq 11 5 <| Ydn <| Zq <| Zq <| ZE [20, 25] [] [] 40 ?_⟩
 intro w11 F12 _
 refine Yq 0 40 <| Ydn <| ZT <| Zsg <| Zr 2 <| Zc 75 (fail_ok g s (runE isD s p) _ (by omega) hs ((p : Int) : Int) ((HB6.k F10).k F12)) ?_
 rintro _ w13 ⟨rfl, HB15, F14⟩
 refine ⟨_, rfl, trivial, Zdn <| Zsg <| Zr 1 <| Zdn <| WE.ret <| WQ.thenR <| ZR (J 0) ?_⟩
 have hn_ : numR s p (p) least most = none := by unfold numR; rw [hpi]
 rw [hn_]
 exact ⟨rfl, HB15, ((((((HA.step F2 (inSL (by simp) inS0)).step F5 (inSL (by simp) inS0)).step0 F8).step0 F10).step0 F12).step F14 (inSL (by simp) inS0))⟩
set_option maxRecDepth 100000 in
set_option maxHeartbeats 400000 in
theorem number_d_range (g : Nat) (s : L) (p : Nat) (w : World) (hp : p ≤ s.length) (hs : s.length ≤ 1000000) (least most : Int) (v : Int) (hc : ¬ (p < s.length ∧ gB s p = 45)) (hpi : Lib.parseIntB 64 ((s.take (runE isD s (p))).drop p) = .range) (HS : VarI w "strconv.ErrSyntax") (HR : VarI w "strconv.ErrRange") (hgS : 1 ≠ g) (hgR : 2 ≠ g) (HB : Blk w g #[.string (str s), .int .i64 (p : Int), .int .i64 (-1)] 138) :
    Calls Tryz.prog 85 #[.pointer (some ⟨g, 0, none⟩), .int .i64 least, .int .i64 most] w fun e w' => e = .returned (.int .i64 ((numR s p (p) least most).getD 0)) ∧ Blk w' g #[.string (str s), .int .i64 ((runE isD s (p) : Nat) : Int), .int .i64 (if (numR s p (p) least most).isSome then -1 else (p : Int))] 138 ∧ Fr [g] w w' := by
 have he1 := runE_ge isD s (p)
 have he2 := runE_le isD (show p ≤ s.length by omega)
 have hdl_ : ((s.take (runE isD s (p))).drop (p)).length = runE isD s (p) - (p) := by rw [List.length_drop, List.length_take]; omega
 have HA := Fr.refl [g] w
 refine Ze Tryz.func85 _ <| Zsg <| Zr 1 <| Zdn <| Zsg <| Zr 3 <| Zl 14 (J (p : Int)) (HB.s 1) <| Zr 1 <| Zdn <| Zsg <| Zr 1 <| Zc 16 (next_no g s p _ hp hs 45 hc HB) ?_
 rintro _ w1 ⟨rfl, HB3, F2⟩
 refine ⟨_, rfl, trivial, Zdn <| Zsg <| Zr 1 <| Zc 18 (run_d g s p _ (by omega) hs HB3) ?_⟩
 rintro _ w4 ⟨rfl, HB6, F5⟩
 refine ⟨_, rfl, trivial, Zr 1 <| Zdn <| Zq <| ZE [3, 8] [] [10] 16 ?_⟩
 intro w7 F8 _
 have HB6 := HB6.k F8
 have HR := (var_keep 2 (by kernel_rfl) (var_keep 2 (by kernel_rfl) HR F2 (ninC hgR (nin0 _))) F5 (ninC hgR (nin0 _))).k F8
 refine Yq 0 3 <| Yl 3 23 (.string (str s)) (HB6.s 0) <| Yq 4 4 <| Yl 8 28 (J ((runE isD s p : Nat) : Int)) (HB6.s 1) <| Yvt 9 (lo := (p : Int)) (hi := ((runE isD s p : Nat) : Int)) 29 p (runE isD s p) s (by rfl) (by rfl) (by omega) (by omega) ?_
 obtain ⟨tp_, pe_, hvar_⟩ := id HR
 refine Yc 10 30 (Tryz.strconv_ParseInt_10_at64_range_var (str ((s.take (runE isD s p)).drop p)) (by rw [str_size, List.length_drop, List.length_take]; omega) hpi tp_ pe_ _ hvar_) ?_
 rintro _ w9 ⟨N_, rfl, _, _, hbw⟩
 have F10 := Fr.of_below hbw
 refine ⟨_, rfl, trivial, Yq 11 5 <| Ydn <| Zq <| Zq <| ZE [20, 25] [] [] 40 ?_⟩
 intro w11 F12 _
 refine Yq 0 40 <| Ydn <| ZT <| Zsg <| Zr 2 <| Zc 75 (fail_ok g s (runE isD s p) _ (by omega) hs ((p : Int) : Int) ((HB6.k F10).k F12)) ?_
 rintro _ w13 ⟨rfl, HB15, F14⟩
 refine ⟨_, rfl, trivial, Zdn <| Zsg <| Zr 1 <| Zdn <| WE.ret <| WQ.thenR <| ZR (J 0) ?_⟩
 have hn_ : numR s p (p) least most = none := by unfold numR; rw [hpi]
 rw [hn_]
 exact ⟨rfl, HB15, ((((((HA.step F2 (inSL (by simp) inS0)).step F5 (inSL (by simp) inS0)).step0 F8).step0 F10).step0 F12).step F14 (inSL (by simp) inS0))⟩
set_option maxRecDepth 100000 in
set_option maxHeartbeats 400000 in
theorem number_bad (g : Nat) (s : L) (p : Nat) (bz : Int) (w : World) (hp : p ≤ s.length) (hs : s.length ≤ 1000000) (hbz : 0 ≤ bz) (least most : Int) (HS : VarI w "strconv.ErrSyntax") (hgS : 1 ≠ g) (HB : Blk w g #[.string (str s), .int .i64 (p : Int), .int .i64 bz] 138) :
    Calls Tryz.prog 85 #[.pointer (some ⟨g, 0, none⟩), .int .i64 least, .int .i64 most] w fun e w' => e = .returned (.int .i64 0) ∧ Blk w' g #[.string (str s), .int .i64 (p : Int), .int .i64 bz] 138 ∧ Fr [g] w w' := by
 have hpi : Lib.parseIntB 64 ((s.take p).drop p) = .«syntax» := by rw [List.drop_of_length_le (by rw [List.length_take]; omega)]; rfl
 have HA := Fr.refl [g] w
 refine Ze Tryz.func85 _ <| Zsg <| Zr 1 <| Zdn <| Zsg <| Zr 3 <| Zl 14 (J (p : Int)) (HB.s 1) <| Zr 1 <| Zdn <| Zsg <| Zr 1 <| Zc 16 (next_bad g s p bz _ hp hs hbz 45 HB) ?_
 rintro _ w1 ⟨rfl, HB3, F2⟩
 refine ⟨_, rfl, trivial, Zdn <| Zsg <| Zr 1 <| Zc 18 (runbad_d g s p bz _ (by omega) hs hbz HB3) ?_⟩
 rintro _ w4 ⟨rfl, HB6, F5⟩
 refine ⟨_, rfl, trivial, Zr 1 <| Zdn <| Zq <| ZE [3, 8] [] [10] 16 ?_⟩
 intro w7 F8 _
 have HB6 := HB6.k F8
 have HS := (var_keep 1 (by kernel_rfl) (var_keep 1 (by kernel_rfl) HS F2 (ninC hgS (nin0 _))) F5 (ninC hgS (nin0 _))).k F8
 refine Yq 0 3 <| Yl 3 23 (.string (str s)) (HB6.s 0) <| Yq 4 4 <| Yl 8 28 (J (p : Int)) (HB6.s 1) <| Yvt 9 (lo := (p : Int)) (hi := (p : Int)) 29 p p s (by rfl) (by rfl) (by omega) (by omega) ?_
 obtain ⟨tp_, pe_, hvar_⟩ := id HS
 refine Yc 10 30 (Tryz.strconv_ParseInt_10_at64_syntax_var (str ((s.take p).drop p)) (by rw [str_size, List.length_drop, List.length_take]; omega) hpi tp_ pe_ _ hvar_) ?_
 rintro _ w9 ⟨N_, rfl, _, _, hbw⟩
 have F10 := Fr.of_below hbw
 refine ⟨_, rfl, trivial, Yq 11 5 <| Ydn <| Zq <| Zq <| ZE [20, 25] [] [] 40 ?_⟩
 intro w11 F12 _
 refine Yq 0 40 <| Ydn <| ZT <| Zsg <| Zr 2 <| Zc 75 (fail_bad g s p bz _ (by omega) hs hbz ((p : Int) : Int) ((HB6.k F10).k F12)) ?_
 rintro _ w13 ⟨rfl, HB15, F14⟩
 refine ⟨_, rfl, trivial, Zdn <| Zsg <| Zr 1 <| Zdn <| WE.ret <| WQ.thenR <| ZR (J 0) ?_⟩
 exact ⟨rfl, HB15, ((((((HA.step F2 (inSL (by simp) inS0)).step F5 (inSL (by simp) inS0)).step0 F8).step0 F10).step0 F12).step F14 (inSL (by simp) inS0))⟩
end Go.Proofs.YtdhonbahpcmmnaaGreatDoor.Line
