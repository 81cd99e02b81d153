/-
 DERIVED: THE SHELF's CONTRACTS AT THIS DUMP, IN PLAIN WORDS (tools/lay-plain.mjs out of 'TryzShelfD.lean', which tools/lay-shelf.mjs wrote): THE SAME DECLARATIONS UNDER THE SAME NAMES: 'import', 'namespace', 'open', 'def', 'theorem' AND NOTHING ELSE: no command of the shelf's: FOR A HAND-IN. Each laying: the table of numbers ('.._ren') and one theorem, a field a fact of the dump's own or the kernel's comparison; each contract: ONE APPLICATION.
-/
import Derived.Shelf.SlGeneric
import Derived.Shelf.SlIterI.Nil
import Derived.Shelf.SortM.Plain
import Derived.Shelf.SortM.SortNone
import Derived.Ground.GgzProg
import Derived.Ground.SlgmProg
import Derived.Test.YtjfgmdkdcnfdoaaGreatDoorProg
import Derived.Test.YtjfgmdkdcnfdoaaGreatDoorDiskC
import Derived.IntWalk
import Derived.Test.YtjfgmdkdcnfdoaaGreatDoorDiskRep
import Derived.Test.YtjfgmdkdcnfdoaaGreatDoorConst
section
namespace Go.Proofs
open Go.Shelf
def Tryz.keysA_ren : Go.Shelf.Ren := ⟨fun | 7 => 200 | 10 => 247 | n => n, fun | 23 => 144 | 26 => 3 | 3 => 190 | 28 => 323 | 0 => 0 | 27 => 322 | 33 => 265 | 4 => 4 | n => n, fun | n => n⟩
theorem Tryz.keysA : Go.Proofs.SlLaysZI.n7 Tryz.prog Tryz.keysA_ren := {
 mixed := by kernel_rfl
 f7 := ⟨Tryz.f200.name, by decide, Tryz.func200.trans (congrArg some (by kernel_rfl))⟩
 f10 := ⟨Tryz.f247.name, by decide, Tryz.func247.trans (congrArg some (by kernel_rfl))⟩
 t0 := Tryz.underlying0
 a0 := Tryz.isAgg0
 z0 := Tryz.sizeOf0
 v0 := Tryz.zeroValue0
 t4 := Tryz.underlying4
 a4 := Tryz.isAgg4
 z4 := Tryz.sizeOf4
 v4 := Tryz.zeroValue4
 t23 := Tryz.underlying144
 a23 := Tryz.isAgg144
 z23 := Tryz.sizeOf144
 v23 := Tryz.zeroValue144
 t26 := Tryz.underlying3
 a26 := Tryz.isAgg3
 z26 := Tryz.sizeOf3
 v26 := Tryz.zeroValue3
 t27 := Tryz.underlying322
 a27 := Tryz.isAgg322
 z27 := Tryz.sizeOf322
 v27 := Tryz.zeroValue322
 t28 := Tryz.underlying323
 a28 := Tryz.isAgg323
 z28 := Tryz.sizeOf323
 v28 := Tryz.zeroValue323
 t33 := Tryz.underlying265
 a33 := Tryz.isAgg265
 z33 := Tryz.sizeOf265
 v33 := Tryz.zeroValue265 }
def Tryz.sortedA_ren : Go.Shelf.Ren := ⟨fun | 6 => 199 | 8 => 245 | 9 => 246 | 11 => 283 | 13 => 227 | 12 => 284 | 23 => 277 | 24 => 278 | 14 => 308 | 15 => 309 | 16 => 310 | 17 => 311 | 18 => 312 | 19 => 313 | 20 => 250 | 21 => 314 | 22 => 315 | 25 => 341 | 26 => 304 | 27 => 305 | 28 => 342 | 29 => 343 | 30 => 229 | 31 => 357 | n => n, fun | 26 => 3 | 28 => 323 | 24 => 24 | 0 => 0 | 3 => 3 | 37 => 373 | 48 => 175 | 50 => 126 | 4 => 4 | 40 => 412 | 39 => 411 | 45 => 416 | 5 => 5 | 9 => 9 | 51 => 433 | 55 => 436 | 57 => 463 | 58 => 391 | 33 => 265 | n => n, fun | n => n⟩
theorem Tryz.sortedA : Go.Proofs.SlLaysZI.n6 Tryz.prog Tryz.sortedA_ren := {
 mixed := by kernel_rfl
 f6 := ⟨Tryz.f199.name, by decide, Tryz.func199.trans (congrArg some (by kernel_rfl))⟩
 f8 := ⟨Tryz.f245.name, by decide, Tryz.func245.trans (congrArg some (by kernel_rfl))⟩
 f11 := ⟨Tryz.f283.name, by decide, Tryz.func283.trans (congrArg some (by kernel_rfl))⟩
 t0 := Tryz.underlying0
 a0 := Tryz.isAgg0
 z0 := Tryz.sizeOf0
 v0 := Tryz.zeroValue0
 t24 := Tryz.underlying24
 a24 := Tryz.isAgg24
 z24 := Tryz.sizeOf24
 v24 := Tryz.zeroValue24
 t26 := Tryz.underlying3
 a26 := Tryz.isAgg3
 z26 := Tryz.sizeOf3
 v26 := Tryz.zeroValue3
 t28 := Tryz.underlying323
 a28 := Tryz.isAgg323
 z28 := Tryz.sizeOf323
 v28 := Tryz.zeroValue323
 i26 := by kernel_rfl }
def Tryz.sortA_ren : Go.Shelf.Ren := ⟨fun | 5 => 246 | 8 => 227 | 7 => 284 | 19 => 277 | 20 => 278 | 10 => 308 | 11 => 309 | 12 => 310 | 13 => 311 | 14 => 312 | 15 => 313 | 16 => 250 | 17 => 314 | 18 => 315 | 30 => 341 | 31 => 304 | 32 => 305 | 33 => 342 | 34 => 343 | 35 => 229 | 40 => 357 | n => n, fun | 23 => 24 | 25 => 3 | 3 => 3 | 32 => 373 | 22 => 24 | 0 => 0 | 44 => 175 | 46 => 126 | 4 => 4 | 36 => 412 | 35 => 411 | 41 => 416 | 5 => 5 | 9 => 9 | 53 => 433 | 57 => 436 | 63 => 463 | 64 => 391 | n => n, fun | n => n⟩
theorem Tryz.sortA : Go.Proofs.SlLaysM.n5 Tryz.prog Tryz.sortA_ren := {
 mixed := by kernel_rfl
 f5 := ⟨Tryz.f246.name, by decide, Tryz.func246.trans (congrArg some (by kernel_rfl))⟩
 f7 := ⟨Tryz.f284.name, by decide, Tryz.func284.trans (congrArg some (by kernel_rfl))⟩
 f8 := Tryz.func227.trans (congrArg some (by kernel_rfl))
 f10 := ⟨Tryz.f308.name, by decide, Tryz.func308.trans (congrArg some (by kernel_rfl))⟩
 f11 := ⟨Tryz.f309.name, by decide, Tryz.func309.trans (congrArg some (by kernel_rfl))⟩
 f12 := ⟨Tryz.f310.name, by decide, Tryz.func310.trans (congrArg some (by kernel_rfl))⟩
 f13 := ⟨Tryz.f311.name, by decide, Tryz.func311.trans (congrArg some (by kernel_rfl))⟩
 f14 := ⟨Tryz.f312.name, by decide, Tryz.func312.trans (congrArg some (by kernel_rfl))⟩
 f15 := ⟨Tryz.f313.name, by decide, Tryz.func313.trans (congrArg some (by kernel_rfl))⟩
 f16 := ⟨Tryz.f250.name, by decide, Tryz.func250.trans (congrArg some (by kernel_rfl))⟩
 f17 := ⟨Tryz.f314.name, by decide, Tryz.func314.trans (congrArg some (by kernel_rfl))⟩
 f18 := ⟨Tryz.f315.name, by decide, Tryz.func315.trans (congrArg some (by kernel_rfl))⟩
 f19 := Tryz.func277.trans (congrArg some (by kernel_rfl))
 f20 := Tryz.func278.trans (congrArg some (by kernel_rfl))
 f30 := ⟨Tryz.f341.name, by decide, Tryz.func341.trans (congrArg some (by kernel_rfl))⟩
 f31 := Tryz.func304.trans (congrArg some (by kernel_rfl))
 f32 := Tryz.func305.trans (congrArg some (by kernel_rfl))
 f33 := ⟨Tryz.f342.name, by decide, Tryz.func342.trans (congrArg some (by kernel_rfl))⟩
 f34 := ⟨Tryz.f343.name, by decide, Tryz.func343.trans (congrArg some (by kernel_rfl))⟩
 f35 := ⟨Tryz.f229.name, by decide, Tryz.func229.trans (congrArg some (by kernel_rfl))⟩
 f40 := ⟨Tryz.f357.name, by decide, Tryz.func357.trans (congrArg some (by kernel_rfl))⟩
 t0 := Tryz.underlying0
 a0 := Tryz.isAgg0
 z0 := Tryz.sizeOf0
 v0 := Tryz.zeroValue0
 t3 := Tryz.underlying3
 a3 := Tryz.isAgg3
 z3 := Tryz.sizeOf3
 v3 := Tryz.zeroValue3
 t4 := Tryz.underlying4
 a4 := Tryz.isAgg4
 z4 := Tryz.sizeOf4
 v4 := Tryz.zeroValue4
 t5 := Tryz.underlying5
 a5 := Tryz.isAgg5
 z5 := Tryz.sizeOf5
 v5 := Tryz.zeroValue5
 t9 := Tryz.underlying9
 a9 := Tryz.isAgg9
 z9 := Tryz.sizeOf9
 v9 := Tryz.zeroValue9
 t22 := Tryz.underlying24
 a22 := Tryz.isAgg24
 z22 := Tryz.sizeOf24
 v22 := Tryz.zeroValue24
 t23 := Tryz.underlying24
 a23 := Tryz.isAgg24
 z23 := Tryz.sizeOf24
 v23 := Tryz.zeroValue24
 t25 := Tryz.underlying3
 a25 := Tryz.isAgg3
 z25 := Tryz.sizeOf3
 v25 := Tryz.zeroValue3
 t32 := Tryz.underlying373
 a32 := Tryz.isAgg373
 z32 := Tryz.sizeOf373
 v32 := Tryz.zeroValue373
 t35 := Tryz.underlying411
 a35 := Tryz.isAgg411
 z35 := Tryz.sizeOf411
 v35 := Tryz.zeroValue411
 t36 := Tryz.underlying412
 a36 := Tryz.isAgg412
 z36 := Tryz.sizeOf412
 v36 := Tryz.zeroValue412
 t41 := Tryz.underlying416
 a41 := Tryz.isAgg416
 z41 := Tryz.sizeOf416
 v41 := Tryz.zeroValue416
 t44 := Tryz.underlying175
 a44 := Tryz.isAgg175
 z44 := Tryz.sizeOf175
 v44 := Tryz.zeroValue175
 t46 := Tryz.underlying126
 a46 := Tryz.isAgg126
 z46 := Tryz.sizeOf126
 v46 := Tryz.zeroValue126
 t53 := Tryz.underlying433
 a53 := Tryz.isAgg433
 z53 := Tryz.sizeOf433
 v53 := Tryz.zeroValue433
 t57 := Tryz.underlying436
 a57 := Tryz.isAgg436
 z57 := Tryz.sizeOf436
 v57 := Tryz.zeroValue436
 t63 := Tryz.underlying463
 a63 := Tryz.isAgg463
 z63 := Tryz.sizeOf463
 v63 := Tryz.zeroValue463
 t64 := Tryz.underlying391
 a64 := Tryz.isAgg391
 z64 := Tryz.sizeOf391
 v64 := Tryz.zeroValue391 }
end Go.Proofs
end
section
set_option linter.unusedVariables false
set_option linter.unusedSimpArgs false
namespace Go.Proofs.YtjfgmdkdcnfdoaaGreatDoor.Disk
open Go Go.RowKit Go.Maps Go.Sort Go.Shelf Go.Proofs Go.Proofs.YtjfgmdkdcnfdoaaGreatDoor Go.Proofs.YtjfgmdkdcnfdoaaGreatDoor.Eng Go.Proofs.YtjfgmdkdcnfdoaaGreatDoorW.PrintWords
theorem sortsA (k : Nat) : AnyZI.SortsIn Tryz.prog Tryz.sortedA_ren Fence.wide k :=
  ⟨fun blk off cap ss W hH hblk hsz => callsIn_wide.2 (AnyM.slices_Sort_int Tryz.sortA blk off cap ss W hH hblk hsz),
   fun p cap W => callsIn_wide.2 (AnyM.slices_Sort_int_none Tryz.sortA p cap W)⟩
set_option maxHeartbeats 1000000 in
theorem keys_f (m : Nat) (w : World) : Calls Tryz.prog 200 #[.map (some m)] w fun e w' => e = .returned (.func (.func 247) #[] #[.pointer (some ⟨w.heap.size, 0, none⟩)]) ∧ w' = w.alloc (.cells #[.map (some m)] 144) :=
  (callsIn_wide (n := 5)).1 (AnyZI.keys_in Tryz.keysA Fence.wide 5 trivial rfl (some m) w)
set_option maxHeartbeats 1000000 in
theorem sorted_f (m : Nat) (es : List (Int × Nat)) (w w1 : World) (hm : MapI Tryz.prog 3 w m es) (hl : es.length ≤ 1000000) (h1 : w1 = w.alloc (.cells #[.map (some m)] 144)) :
    Calls Tryz.prog 199 #[.func (.func 247) #[] #[.pointer (some ⟨w.heap.size, 0, none⟩)]] w1 fun e w' => ∃ (v : Value) (ss : List Int), e = .returned v ∧ ss.Perm (intKeys (Dm es)) ∧
      w'.ownsRow w1.heap.size 3 1 v ss.length ((ss.mergeSort (fun x y => decide (x ≤ y))).map encZ) ∧ (v = .slice none 0 0 ↔ ss = []) ∧ Below w1.heap.size w1 w' := by
  subst h1
  have hown : w.ownsMap Tryz.prog 3 ptrR m es.length (Dm es) := hm
  have hbl := hown.lt
  have hsz : Maps.size (Dm es) = es.length := by simp [Dm, Maps.size]
  have hseq : SeqGives Fence.wide 2 Tryz.prog 247 #[.pointer (some ⟨w.heap.size, 0, none⟩)] encZ (fun ss => ss.Perm (intKeys (Dm es))) (Maps.size (Dm es)) (w.alloc (.cells #[.map (some m)] 144)) :=
    AnyZI.keys_gives (ρ := Tryz.keysA_ren) { Tryz.keysA with } Fence.wide _ trivial rfl (by omega) w.heap.size m es.length (Dm es) _ (by simp) (by simp) (by
      obtain ⟨es2, clock, hb, Ft, hs, hD⟩ := hown
      exact ⟨es2, clock, (Below.heap_alloc _ _ m hbl).trans hb, Ft, hs, hD⟩)
  exact (callsIn_wide (n := 5)).1 (AnyZI.sorted_in Tryz.sortedA Fence.wide 5 trivial trivial trivial trivial rfl (by omega) (sortsA _) (enters_of Tryz.func246 (by kernel_rfl) rfl) 247 #[.pointer (some ⟨w.heap.size, 0, none⟩)] trivial (enters_of Tryz.func247 (by kernel_rfl) rfl) _ _ (by rw [hsz]; exact Nat.le_trans hl (by decide)) (by rw [hsz]; omega) _ hseq)
end Go.Proofs.YtjfgmdkdcnfdoaaGreatDoor.Disk
end
section
set_option linter.unusedVariables false
set_option linter.unusedSimpArgs false
namespace Go.Proofs.YtjfgmdkdcnfdoaaGreatDoor.Disk
open Go Go.RowKit Go.Proofs.YtjfgmdkdcnfdoaaGreatDoor Go.Proofs.YtjfgmdkdcnfdoaaGreatDoor.Eng Go.Proofs.YtjfgmdkdcnfdoaaGreatDoorW.PrintWords
theorem sorted_perm {ss ns : List Int} (hp : ss.Perm ns) (hs : ns.Pairwise (· < ·)) : ss.mergeSort (fun x y => decide (x ≤ y)) = ns := by
 refine List.Perm.eq_of_pairwise (le := fun a b => a ≤ b) (fun a b _ _ h1 h2 => Int.le_antisymm h1 h2) ?_ (hs.imp fun h => Int.le_of_lt h) ((List.mergeSort_perm ss _).trans hp)
 have := List.pairwise_mergeSort (le := fun x y : Int => decide (x ≤ y)) (fun a b c h1 h2 => by simp only [decide_eq_true_eq] at *; omega) (fun a b => by simp only [Bool.or_eq_true, decide_eq_true_eq]; omega) ss
 exact this.imp fun h => by simpa using h
theorem keys_ents (es : List GP) : intKeys (Dm (ents es)) = es.map (fun e => e.n) := by
 unfold Dm ents
 simp only [intKeys, List.map_map]
 exact List.map_congr_left fun _ _ => rfl
theorem own_of_keys {w w0 w1 w2 : World} {g m : Nat} {room : Int} {down : Bool} {es : List GP} {v : Value} {ss : List Int} (hd : GDm w0 g m room down es) (hr : Rise (es.map GP.pt)) (hss : ss.Perm (intKeys (Dm (ents es)))) (hrow : w2.ownsRow w1.heap.size 3 1 v ss.length ((ss.mergeSort (fun x y => decide (x ≤ y))).map encZ)) (hsz : w.heap.size ≤ w1.heap.size) (HA : Fr [] w w2) :
  ∃ v' F', (Ending.returned v : Ending) = .returned v' ∧ OwnX 3 1 w2 F' v' ((es.map (fun e => e.n)).map cI) ∧ Fr [] w w2 ∧ ∀ y ∈ F', w.heap.size ≤ y := by
 rw [keys_ents] at hss
 have hl := hss.length_eq
 rw [List.length_map] at hl
 have hs : ss.mergeSort (fun x y => decide (x ≤ y)) = es.map (fun e => e.n) := sorted_perm hss (by
  have h := (rise_iff _).1 hr
  simpa [GP.pt, Function.comp_def] using h)
 rw [hs] at hrow
 have hf : ((es.map (fun e => e.n)).map cI).flatten = (es.map (fun e => e.n)).map encZ := by
  have : ∀ l : List Int, (l.map cI).flatten = l.map encZ := fun l => by
   induction l with
   | nil => rfl
   | cons a l ih => simp [cI, ih]
  exact this _
 rcases hrow.2 with ⟨h3, h4⟩ | ⟨b, cap, cur, h3, h5, h6, h7, h8, h9, h10⟩
 ·
  have : es = [] := List.length_eq_zero_iff.1 (by omega)
  subst this
  exact ⟨v, [], rfl, .inl ⟨rfl, h3, rfl⟩, HA, by simp⟩
 ·
  refine ⟨v, [b], rfl, .inr ⟨b, cap, rfl, by rw [h3]; simp [hl], ?_⟩, HA, fun y hy => ?_⟩
  ·
   refine RowB.of_own (n := es.length) ?_ (by simp) (cI_len _) (cI_one _)
   rw [hf, ← hl]
   exact ⟨by simp [hl], .inr ⟨b, cap, cur, rfl, Nat.zero_le _, h6, h7, h8, h9, h10⟩⟩
  ·
   rw [List.mem_singleton.1 hy]
   omega
set_option maxRecDepth 100000 in
set_option maxHeartbeats 400000 in
theorem parts_any (g m : Nat) (room : Int) (down : Bool) (es : List GP) (w : World) (hd : GDm w g m room down es) (hr : Rise (es.map GP.pt)) (hel : es.length ≤ 1000000) :
  Calls Tryz.prog 116 #[.pointer (some ⟨g, 0, none⟩)] w fun e w' => ∃ v F', e = .returned v ∧ OwnX 3 1 w' F' v ((es.map (fun e => e.n)).map cI) ∧ Fr [] w w' ∧ ∀ y ∈ F', w.heap.size ≤ y := by
 have HB := hd.blk
 have HM := hd.map
 have hgm : g ≠ m := by have h_ := hd.nodup; intro h; subst h; simp at h_
 have HA := Fr.refl [] w
 refine enter (N := 9) Tryz.func116 (c := _) rfl (by kernel_rfl) (by kernel_rfl) (e := [(0, .pointer (some ⟨g, 0, none⟩))]) (by kernel_rfl) ?_
 refine WE.seq ?_
 refine WE.region ?_
 refine WO.run 1 0 [(2, .slice none 0 0)] (by kernel_rfl) (by kernel_rfl) ?_
 refine WO.done (by kernel_rfl) ?_
 refine WQ.keep [0, 2] (e' := [(0, .pointer (some ⟨g, 0, none⟩)), (2, .slice none 0 0)]) (by kernel_rfl) ?_
 refine WQ.thenN ?_
 refine WE.seq ?_
 refine WE.region ?_
 refine WO.run 3 0 [(5, .pointer (some ⟨g, 1, none⟩)), (4, .pointer (some ⟨g, 0, none⟩)), (3, .pointer (some ⟨g, 0, none⟩))] (by kernel_rfl) (by kernel_rfl) ?_
 refine WO.ld (SQ.S 3 (by kernel_rfl)) 6 (.map (some m)) (by kernel_rfl) (same (HB.at 1 (by kernel_rfl))) ?_
 have HM0 := HM
 refine WO.call (SQ.E 4 (by kernel_rfl)) 7 (by kernel_rfl) (keys_f m _) ?_
 rintro _ w1 ⟨rfl, hw1⟩
 refine ⟨_, rfl, trivial, ?_⟩
 have FK : Fr [] w w1 := by rw [hw1]; exact (Fr.refl _ _).alloc _
 have hsz0 := HA.size
 have HB := Blk.keep HB FK (nin0 _)
 have HM := HM.keep FK (nin0 _)
 have HA := Fr.step0 HA FK
 refine WO.call (SQ.E 5 (by kernel_rfl)) 8 (by kernel_rfl) (sorted_f m (ents es) w w1 HM0 (by unfold ents; rw [List.length_map]; exact hel) hw1) ?_
 rintro _ w2 ⟨v, ss, rfl, hss, hrow, hnil, hb⟩
 refine ⟨_, rfl, trivial, ?_⟩
 have FS := Fr.of_below hb
 have hsz1 := HA.size
 have HB := Blk.keep HB FS (nin0 _)
 have HM := HM.keep FS (nin0 _)
 have HA := Fr.step0 HA FS
 refine WO.run 1 6 [(2, v)] (by kernel_rfl) (by kernel_rfl) ?_
 refine WO.done (by kernel_rfl) ?_
 refine WQ.keep [0, 2] (e' := [(0, .pointer (some ⟨g, 0, none⟩)), (2, v)]) (by kernel_rfl) ?_
 refine WQ.thenN ?_
 refine WE.ret ?_
 refine WQ.ret (v := v) (by kernel_rfl) ?_
 exact own_of_keys hd hr hss hrow hsz1 HA
theorem partsIn : PartsIn := fun g m room down es w hd hr hel => parts_any g m room down es w hd hr hel
theorem gparts (g : Nat) (F : List Nat) (d : Dk) (w : World) (h : GDisk w g F d) (ho : d.Ok) (hel : d.l.length ≤ 1000000) :
  Calls Tryz.prog 116 #[.pointer (some ⟨g, 0, none⟩)] w fun e w' => ∃ v F', e = .returned v ∧ OwnX 3 1 w' F' v ((d.l.map (fun p => p.n)).map cI) ∧ Fr [] w w' ∧ ∀ y ∈ F', w.heap.size ≤ y := by
 obtain ⟨m, es, rfl, hl, hd⟩ := h
 have hr := ho.rise
 rw [hl] at hr hel ⊢
 have := partsIn g m d.room d.down es w hd hr (by simpa using hel)
 have h2 : (es.map GP.pt).map (fun p => p.n) = es.map (fun e => e.n) := by simp [GP.pt]
 rw [h2]
 exact this
theorem gcrash (g : Nat) (F : List Nat) (d : Dk) (keep : Int) (w : World) (h : GDisk w g F d) (ho : d.Ok) (hel : d.l.length ≤ 1000000) (hk : -9223372036854775808 ≤ keep ∧ keep ≤ 9223372036854775807) :
  Calls Tryz.prog 43 #[.pointer (some ⟨g, 0, none⟩), .int .i64 keep] w fun e w' => e = .returned (.tuple #[]) ∧ GDisk w' g F (crash d keep) ∧ Fr F w w' := by
 have hG := h
 obtain ⟨m, es, hF, hl, hd⟩ := h
 have hgm : g ≠ m := by
  have h_ := hd.nodup
  intro h
  subst h
  simp at h_
 cases hdn : d.down with
 | true =>
  have hs : crash d keep = d := by unfold crash; rw [hdn]; rfl
  rw [hs]
  have hb := hd.blk
  rw [hdn] at hb
  refine (crash_down g m d.room _ keep w hb hd.map hgm).mono fun e w' hh => ?_
  obtain ⟨rfl, h2⟩ := hh
  exact ⟨rfl, ⟨m, es, hF, hl, hd.keep h2 (by simp)⟩, h2.only (by simp)⟩
 | false =>
  have hs : crash d keep = { d with l := crashL keep.toNat d.l, down := true } := by unfold crash; rw [hdn]; rfl
  rw [hs]
  have hr := ho.rise
  rw [hl] at hr hel
  have hf := ho.fits
  have hm := ho.room
  refine (crash_run partsIn g m d.room es keep F w (by rw [← hdn]; exact hd) hF hr (by simpa using hel) hk (fun e he => ?_) (by rw [hF]; exact hd.lt)).mono fun e w' hh => ?_
  ·
   have hp : e.pt ∈ d.l := by rw [hl]; exact List.mem_map.2 ⟨e, he, rfl⟩
   have h1 := ho.sync _ hp
   have h2 := usedL_mem hp
   have h3 := ho.keys _ hp
   have h4 : e.pt.b = e.b := rfl
   rw [h4] at h2
   exact ⟨h1, by omega, h3⟩
  ·
   obtain ⟨rfl, es', h2, h3, h4, h5⟩ := hh
   exact ⟨rfl, ⟨m, es', h4, by show crashL keep.toNat d.l = _; rw [hl]; exact h2, h3⟩, h5⟩
end Go.Proofs.YtjfgmdkdcnfdoaaGreatDoor.Disk
end
section
set_option linter.unusedVariables false
set_option linter.unusedSimpArgs false
namespace Go.Proofs.YtjfgmdkdcnfdoaaGreatDoor.Wire
open Go
def by8 (n : Nat) : UInt8 := UInt8.ofNat n
theorem by8_toNat {n : Nat} (h : n < 256) : (by8 n).toNat = n := by
 unfold by8
 rw [UInt8.toNat_ofNat']
 exact Nat.mod_eq_of_lt h
theorem by8_of (x : UInt8) : by8 x.toNat = x := by
 apply UInt8.toNat_inj.1
 exact by8_toNat x.toNat_lt
def enc (n : Nat) : List UInt8 := if h : n < 128 then [by8 n] else by8 (n % 128 + 128) :: enc (n / 128)
termination_by n
decreasing_by omega
theorem enc_lo {n : Nat} (h : n < 128) : enc n = [by8 n] := by rw [enc, dif_pos h]
theorem enc_hi {n : Nat} (h : ¬ n < 128) : enc n = by8 (n % 128 + 128) :: enc (n / 128) := by rw [enc, dif_neg h]
theorem enc_pos (n : Nat) : 0 < (enc n).length := by
 by_cases h : n < 128
 ·
  rw [enc_lo h]; simp
 ·
  rw [enc_hi h]; simp
theorem enc_len : ∀ (k n : Nat), n < 128 ^ (k + 1) → (enc n).length ≤ k + 1
 | 0, n, h => by rw [enc_lo (by omega)]; simp
 | k + 1, n, h => by
  by_cases h1 : n < 128
  ·
   rw [enc_lo h1]; simp
  ·
   rw [enc_hi h1, List.length_cons]
   have := enc_len k (n / 128) (by rw [Nat.pow_succ] at h; exact Nat.div_lt_of_lt_mul (by omega))
   omega
theorem enc_len64 (n : Nat) (h : n < 18446744073709551616) : (enc n).length ≤ 10 := enc_len 9 n (by omega)
def numA (k acc : Nat) : List UInt8 → Option (Nat × Nat)
 | [] => none
 | x :: r => if 9 < k ∨ (k = 9 ∧ 1 < x.toNat) ∨ (x.toNat = 0 ∧ 0 < k) then none
  else if x.toNat < 128 then some (acc + x.toNat * 128 ^ k, k + 1)
  else numA (k + 1) (acc + (x.toNat - 128) * 128 ^ k) r
def num (l : List UInt8) : Option (Nat × Nat) := numA 0 0 l
theorem numA_enc : ∀ (j k n acc : Nat) (r : List UInt8), n < 128 ^ (j + 1) → k + j = 9 → (k = 9 → n ≤ 1) → (k + 1 + j = 10) → (0 < k → 0 < n) → (n * 128 ^ k < 18446744073709551616) → numA k acc (enc n ++ r) = some (acc + n * 128 ^ k, k + (enc n).length) := by
 intro j
 induction j with
 | zero =>
  intro k n acc r h1 h2 h3 h4 h5 h6
  rw [enc_lo (by omega), List.singleton_append, numA, by8_toNat (by omega), if_neg (by omega), if_pos (by omega)]
  rfl
 | succ j ih =>
  intro k n acc r h1 h2 h3 h4 h5 h6
  by_cases h : n < 128
  ·
   rw [enc_lo h, List.singleton_append, numA, by8_toNat (by omega), if_neg (by omega), if_pos h]
   rfl
  ·
   rw [enc_hi h, List.cons_append, numA, by8_toNat (by omega), if_neg (by omega), if_neg (by omega)]
   have e1 : n / 128 * 128 ^ (k + 1) + n % 128 * 128 ^ k = n * 128 ^ k := by
    rw [Nat.pow_succ, show n / 128 * (128 ^ k * 128) = (128 * (n / 128)) * 128 ^ k by rw [Nat.mul_comm (128 ^ k) 128, ← Nat.mul_assoc, Nat.mul_comm (n / 128) 128], ← Nat.add_mul, Nat.div_add_mod]
   have h7 : n / 128 * 128 ^ (k + 1) < 18446744073709551616 := by omega
   have h8 : 0 < n / 128 := by omega
   rw [ih (k + 1) (n / 128) _ r (by rw [Nat.pow_succ] at h1; exact Nat.div_lt_of_lt_mul (by omega)) (by omega) (by
    intro hk
    rw [hk] at h7
    omega) (by omega) (fun _ => h8) h7, show n % 128 + 128 - 128 = n % 128 by omega, Nat.add_assoc, Nat.add_comm (n % 128 * 128 ^ k), e1, List.length_cons, show k + 1 + (enc (n / 128)).length = k + ((enc (n / 128)).length + 1) by omega]
theorem num_enc (n : Nat) (r : List UInt8) (h : n < 18446744073709551616) : num (enc n ++ r) = some (n, (enc n).length) := by
 have := numA_enc 9 0 n 0 r (by omega) rfl (by omega) rfl (by omega) (by omega)
 simpa [num] using this
theorem top_lt (y m : Nat) (hy : y ≤ 127) (h : m * 128 ^ (8 + 1) < 18446744073709551616) : y * 128 ^ 8 + m * 128 ^ (8 + 1) < 18446744073709551616 := by
 have e9 : 128 ^ (8 + 1) = 9223372036854775808 := by decide
 have e8 : 128 ^ 8 = 72057594037927936 := by decide
 rw [e9] at h ⊢
 rw [e8]
 clear e8 e9
 have hm : m ≤ 1 := by omega
 exact Nat.lt_of_le_of_lt (Nat.add_le_add (Nat.mul_le_mul_right _ hy) (Nat.mul_le_mul_right _ hm)) (by decide)
theorem numA_spec : ∀ (l : List UInt8) (k acc n c : Nat), numA k acc l = some (n, c) → ∃ m r, l = enc m ++ r ∧ n = acc + m * 128 ^ k ∧ c = k + (enc m).length ∧ (0 < k → 0 < m) ∧ m * 128 ^ k < 18446744073709551616
 | [], k, acc, n, c, h => by simp [numA] at h
 | x :: l, k, acc, n, c, h => by
  rw [numA] at h
  have hx := x.toNat_lt
  split at h
  ·
   cases h
  ·
   rename_i hb
   split at h
   ·
    rename_i hlo
    simp only [Option.some.injEq, Prod.mk.injEq] at h
    obtain ⟨rfl, rfl⟩ := h
    have hk : 128 ^ k ≤ 128 ^ 9 := Nat.pow_le_pow_right (by decide) (by omega)
    have hk8 : k ≤ 8 → 128 ^ k ≤ 128 ^ 8 := fun h => Nat.pow_le_pow_right (by decide) h
    refine ⟨x.toNat, l, by rw [enc_lo hlo, by8_of]; rfl, rfl, by rw [enc_lo hlo]; rfl, fun h => by omega, ?_⟩
    by_cases h9 : k = 9
    ·
     subst h9
     have : x.toNat ≤ 1 := by omega
     calc x.toNat * 128 ^ 9 ≤ 1 * 128 ^ 9 := Nat.mul_le_mul_right _ this
      _ < _ := by decide
    ·
     calc x.toNat * 128 ^ k ≤ 127 * 128 ^ 8 := Nat.mul_le_mul (by omega) (hk8 (by omega))
      _ < _ := by decide
   ·
    rename_i hhi
    obtain ⟨m, r, h1, h2, h3, h4, h5⟩ := numA_spec l (k + 1) _ n c h
    have hm := h4 (by omega)
    have e0 : (128 * m + (x.toNat - 128)) * 128 ^ k = (x.toNat - 128) * 128 ^ k + m * 128 ^ (k + 1) := by
     rw [Nat.add_mul, Nat.add_comm, Nat.pow_succ, Nat.mul_comm (128 ^ k) 128, ← Nat.mul_assoc m, Nat.mul_comm m 128]
    have hlo : ¬ 128 * m + (x.toNat - 128) < 128 := by omega
    refine ⟨128 * m + (x.toNat - 128), r, ?_, ?_, ?_, fun _ => by omega, ?_⟩
    ·
     rw [enc_hi hlo, show (128 * m + (x.toNat - 128)) % 128 = x.toNat - 128 by omega, show (128 * m + (x.toNat - 128)) / 128 = m by omega, show x.toNat - 128 + 128 = x.toNat by omega, by8_of, h1]
     rfl
    ·
     rw [h2, e0]; omega
    ·
     rw [h3, enc_hi hlo, show (128 * m + (x.toNat - 128)) / 128 = m by omega, List.length_cons]; omega
    ·
     rw [e0]
     by_cases hk : k ≤ 7
     ·
      have h6 : m * 128 ^ (k + 1) < 18446744073709551616 := h5
      -- both parts: the lower one is below 128^(k+1), the whole a sum below 2^64 by the shape of 128^(k+1)
      have h7 : (x.toNat - 128) * 128 ^ k < 128 ^ (k + 1) := by
       rw [Nat.pow_succ, Nat.mul_comm]
       exact Nat.mul_lt_mul_of_pos_left (by omega) (Nat.pow_pos (by decide))
      obtain ⟨d, hd⟩ : ∃ d, 18446744073709551616 = d * 128 ^ (k + 1) := ⟨2 * 128 ^ (9 - (k + 1)), by
       rw [Nat.mul_assoc, ← Nat.pow_add, show 9 - (k + 1) + (k + 1) = 9 by omega]⟩
      rw [hd] at h6 ⊢
      have h8 : m < d := Nat.lt_of_mul_lt_mul_right h6
      calc (x.toNat - 128) * 128 ^ k + m * 128 ^ (k + 1) < 128 ^ (k + 1) + m * 128 ^ (k + 1) := by omega
       _ = (m + 1) * 128 ^ (k + 1) := by rw [Nat.add_mul, Nat.one_mul, Nat.add_comm]
       _ ≤ d * 128 ^ (k + 1) := Nat.mul_le_mul_right _ h8
     ·
      have h9 : k = 8 := by
       clear h h1 h2 h3 h5 e0
       by_cases h9 : k = 9
       ·
        exact absurd (Or.inr (Or.inl ⟨h9, (by omega : 1 < x.toNat)⟩)) hb
       ·
        omega
      subst h9
      exact top_lt _ m (by omega) h5
theorem num_spec {l : List UInt8} {n c : Nat} (h : num l = some (n, c)) : ∃ r, l = enc n ++ r ∧ c = (enc n).length ∧ n < 18446744073709551616 := by
 obtain ⟨m, r, h1, h2, h3, _, h5⟩ := numA_spec l 0 0 n c h
 simp only [Nat.pow_zero, Nat.mul_one, Nat.zero_add] at h2 h3 h5
 subst h2
 exact ⟨r, h1, h3, h5⟩
theorem num_le {l : List UInt8} {n c : Nat} (h : num l = some (n, c)) : c ≤ l.length ∧ 0 < c := by
 obtain ⟨r, h1, h2, _⟩ := num_spec h
 rw [h1, List.length_append, h2]
 have := enc_pos n
 omega
structure St where
 p : Nat
 bad : Bool
def rNum (l : List UInt8) (s : St) : Nat × St :=
 if s.bad then (0, s) else match num (l.drop s.p) with
  | some (n, c) => (n, ⟨s.p + c, false⟩)
  | none => (0, ⟨s.p, true⟩)
def rText (l : List UInt8) (most : Int) (s : St) : List UInt8 × St :=
 let r := rNum l s
 if r.2.bad then ([], r.2)
 else if most < 0 ∨ most < (r.1 : Int) ∨ l.length - r.2.p < r.1 then ([], ⟨s.p, true⟩)
 else ((l.drop r.2.p).take r.1, ⟨r.2.p + r.1, false⟩)
def rEnd (l : List UInt8) (s : St) : St := if s.bad = false ∧ s.p < l.length then ⟨s.p, true⟩ else s
def St.ok (l : List UInt8) (s : St) : Prop := s.p ≤ l.length
theorem rNum_ok {l : List UInt8} {s : St} (h : s.ok l) : (rNum l s).2.ok l := by
 unfold rNum St.ok at *
 split
 ·
  exact h
 ·
  cases hn : num (l.drop s.p) with
  | none => exact h
  | some x =>
   have := (num_le hn).1
   rw [List.length_drop] at this
   simp only
   omega
theorem rNum_lt (l : List UInt8) (s : St) : (rNum l s).1 < 18446744073709551616 := by
 unfold rNum
 split
 ·
  exact (by decide : 0 < 18446744073709551616)
 ·
  cases hn : num (l.drop s.p) with
  | none => exact (by decide : 0 < 18446744073709551616)
  | some x =>
   obtain ⟨r, _, _, h⟩ := num_spec hn
   exact h
def encT (s : List UInt8) : List UInt8 := enc s.length ++ s
theorem drop_app (a b : List UInt8) : (a ++ b).drop a.length = b := by simp
theorem rNum_enc {a r : List UInt8} {n : Nat} (h : n < 18446744073709551616) : rNum (a ++ (enc n ++ r)) ⟨a.length, false⟩ = (n, ⟨(a ++ enc n).length, false⟩) := by
 unfold rNum
 simp only [Bool.false_eq_true, if_false, drop_app, num_enc n r h, List.length_append]
theorem rText_enc {a r s : List UInt8} {most : Int} (h : (s.length : Int) ≤ most) (h2 : s.length < 18446744073709551616) : rText (a ++ (encT s ++ r)) most ⟨a.length, false⟩ = (s, ⟨(a ++ encT s).length, false⟩) := by
 have e : a ++ (encT s ++ r) = a ++ (enc s.length ++ (s ++ r)) := by simp [encT]
 unfold rText
 rw [e, rNum_enc h2]
 simp only [Bool.false_eq_true, if_false]
 rw [if_neg (by simp only [List.length_append]; omega)]
 have : (a ++ (enc s.length ++ (s ++ r))).drop (a ++ enc s.length).length = s ++ r := by
  rw [← List.append_assoc]
  simp
 rw [this]
 simp [encT]
 omega
end Go.Proofs.YtjfgmdkdcnfdoaaGreatDoor.Wire
end
section
set_option linter.unusedVariables false
set_option linter.unusedSimpArgs false
namespace Go.Proofs.YtjfgmdkdcnfdoaaGreatDoor.Jrn
open Go.Proofs.YtjfgmdkdcnfdoaaGreatDoor.Wire Go.Proofs.YtjfgmdkdcnfdoaaGreatDoor.Disk
def flat (rs : List (List UInt8)) : List UInt8 := (rs.map encT).flatten
def recOk (r : List UInt8) : Prop := 1 ≤ r.length ∧ r.length ≤ 4096
def Stops (t : List UInt8) : Prop := (rText t 4096 ⟨0, false⟩).1 = []
theorem flat_nil : flat [] = [] := rfl
theorem flat_cons (r : List UInt8) (rs : List (List UInt8)) : flat (r :: rs) = encT r ++ flat rs := by simp [flat]
theorem flat_app (a b : List (List UInt8)) : flat (a ++ b) = flat a ++ flat b := by simp [flat]
theorem encT_len (r : List UInt8) (h : recOk r) : r.length + 1 ≤ (encT r).length ∧ (encT r).length ≤ r.length + 10 := by
 have h1 := enc_pos r.length
 have h2 := enc_len64 r.length (by unfold recOk at h; omega)
 unfold encT
 rw [List.length_append]
 omega
theorem rText_first {r rest : List UInt8} (h : recOk r) : rText (encT r ++ rest) 4096 ⟨0, false⟩ = (r, ⟨(encT r).length, false⟩) := by
 have := rText_enc (a := []) (r := rest) (s := r) (most := 4096) (by unfold recOk at h; omega) (by unfold recOk at h; omega)
 simpa using this
theorem stops_nil : Stops [] := by
 unfold Stops rText rNum
 simp [num, numA]
structure Seg where
 n : Int
 rs : List (List UInt8)
 s : Nat
def Seg.pt (g : Seg) : Pt := ⟨g.n, flat g.rs, g.s⟩
def allR (gs : List Seg) : List (List UInt8) := (gs.map (·.rs)).flatten
theorem allR_nil : allR [] = [] := rfl
theorem allR_cons (g : Seg) (gs : List Seg) : allR (g :: gs) = g.rs ++ allR gs := by simp [allR]
theorem allR_app (a b : List Seg) : allR (a ++ b) = allR a ++ allR b := by simp [allR]
def Chain : Int → List Seg → Prop
 | _, [] => True
 | a, g :: r => g.n = a ∧ Chain (a + g.rs.length) r
theorem chain_app : ∀ (a b : List Seg) (n : Int), Chain n (a ++ b) ↔ Chain n a ∧ Chain (n + (allR a).length) b
 | [], b, n => by simp [Chain, allR]
 | g :: a, b, n => by
  rw [List.cons_append]
  show (g.n = n ∧ Chain (n + g.rs.length) (a ++ b)) ↔ (g.n = n ∧ Chain (n + g.rs.length) a) ∧ _
  rw [chain_app a b, allR_cons, List.length_append, and_assoc]
  have : n + (g.rs.length : Int) + ((allR a).length : Int) = n + ((g.rs.length + (allR a).length : Nat) : Int) := by omega
  rw [this]
theorem chain_lo : ∀ (a : List Seg) (n : Int), Chain n a → ∀ g ∈ a, n ≤ g.n ∧ g.n + g.rs.length ≤ n + (allR a).length
 | [], _, _, g, hg => by simp at hg
 | x :: a, n, h, g, hg => by
  obtain ⟨h1, h2⟩ := h
  rw [allR_cons, List.length_append]
  rcases List.mem_cons.1 hg with rfl | hg
  ·
   omega
  ·
   have := chain_lo a _ h2 g hg
   omega
end Go.Proofs.YtjfgmdkdcnfdoaaGreatDoor.Jrn
end
section
set_option linter.unusedVariables false
set_option linter.unusedSimpArgs false
namespace Go.Proofs.YtjfgmdkdcnfdoaaGreatDoor.Wire
open Go Go.RowKit Go.Proofs.YtjfgmdkdcnfdoaaGreatDoor Go.Proofs.YtjfgmdkdcnfdoaaGreatDoor.Eng
theorem toNat64 (n : Nat) (h : n < 18446744073709551616) : (BitVec.ofInt 64 (n : Int)).toNat = n := by
 rw [BitVec.ofInt_natCast, BitVec.toNat_ofNat]
 exact Nat.mod_eq_of_lt h
theorem or8_fin : ∀ m : Fin 256, (BitVec.ofNat 8 m.val ||| BitVec.ofNat 8 128).toNat = m.val % 128 + 128 := by decide +kernel
theorem andNot8_fin : ∀ m : Fin 256, (BitVec.ofNat 8 m.val &&& ~~~ BitVec.ofNat 8 128).toNat = m.val % 128 := by decide +kernel
theorem or8 (n : Nat) : iOr .u8 ((n % 256 : Nat) : Int) 128 = ((by8 (n % 128 + 128)).toNat : Int) := by
 have h := or8_fin ⟨n % 256, Nat.mod_lt _ (by decide)⟩
 simp only at h
 show IntKind.u8.wrap ((BitVec.ofInt 8 ((n % 256 : Nat) : Int) ||| BitVec.ofInt 8 ((128 : Nat) : Int)).toNat : Int) = _
 rw [BitVec.ofInt_natCast, BitVec.ofInt_natCast, h, by8_toNat (by omega), IntWalk.u8_in _ (by omega)]
 omega
theorem andNot8 (x : UInt8) : iAndNot .u8 (x.toNat : Int) 128 = ((x.toNat % 128 : Nat) : Int) := by
 have h := andNot8_fin ⟨x.toNat, x.toNat_lt⟩
 simp only at h
 show IntKind.u8.wrap ((BitVec.ofInt 8 (x.toNat : Int) &&& ~~~ BitVec.ofInt 8 ((128 : Nat) : Int)).toNat : Int) = _
 rw [BitVec.ofInt_natCast, BitVec.ofInt_natCast, h, IntWalk.u8_in _ (by omega)]
theorem shr7 (n : Nat) : iShr .u64 (n : Int) 7 = ((n / 128 : Nat) : Int) := by
 show Int.fdiv (n : Int) (2 ^ 7) = _
 rw [Int.fdiv_eq_ediv_of_nonneg _ (by decide)]
 rfl
theorem pow7 (k : Nat) : (2 : Nat) ^ (7 * k) = 128 ^ k := by
 rw [Nat.pow_mul]
theorem readOr (acc x k : Nat) (ha : acc < 128 ^ k) (hk : k ≤ 9) (hx : x < 128) (h9 : k = 9 → x ≤ 1) : iOr .u64 (acc : Int) (iShl .u64 (x : Int) ((7 * k : Nat) : Int)) = ((acc + x * 128 ^ k : Nat) : Int) := by
 have hm : min (((7 * k : Nat) : Int)).toNat (IntKind.u64.bits) = 7 * k := by
  show min _ 64 = _
  omega
 have hp : 128 ^ k * x < 18446744073709551616 ∧ acc + x * 128 ^ k < 18446744073709551616 := by
  by_cases h : k = 9
  ·
   subst h
   have := h9 rfl
   have e : 128 ^ 9 = 9223372036854775808 := by decide
   rw [e] at ha ⊢
   clear h9 hm e
   rcases (by omega : x = 0 ∨ x = 1) with rfl | rfl <;> omega
  ·
   have h2 : 128 ^ k ≤ 128 ^ 8 := Nat.pow_le_pow_right (by decide) (by omega)
   have e : 128 ^ 8 = 72057594037927936 := by decide
   have h3 : 128 ^ k * x ≤ 72057594037927936 * 127 := Nat.mul_le_mul (by omega) (by omega)
   rw [Nat.mul_comm x]
   omega
 have hs : iShl .u64 (x : Int) ((7 * k : Nat) : Int) = ((128 ^ k * x : Nat) : Int) := by
  unfold iShl
  rw [hm]
  have : (x : Int) * 2 ^ (7 * k) = ((128 ^ k * x : Nat) : Int) := by
   rw [← pow7, Int.natCast_mul, Int.mul_comm]
   norm_cast
  rw [this]
  exact IntWalk.u64_in _ (by omega)
 rw [hs]
 show IntKind.u64.wrap ((BitVec.ofInt 64 (acc : Int) ||| BitVec.ofInt 64 ((128 ^ k * x : Nat) : Int)).toNat : Int) = _
 rw [BitVec.toNat_or, toNat64 _ (by omega), toNat64 _ hp.1, Nat.or_comm, ← pow7, ← Nat.two_pow_add_eq_or_of_lt (by rw [pow7]; exact ha), pow7]
 rw [IntWalk.u64_in _ (by rw [Nat.mul_comm]; omega)]
 rw [Nat.mul_comm, Nat.add_comm]
end Go.Proofs.YtjfgmdkdcnfdoaaGreatDoor.Wire
end
section
set_option linter.unusedVariables false
set_option linter.unusedSimpArgs false
namespace Go.Proofs.YtjfgmdkdcnfdoaaGreatDoor.Wire
open Go Go.RowKit Go.Proofs.YtjfgmdkdcnfdoaaGreatDoor Go.Proofs.YtjfgmdkdcnfdoaaGreatDoor.Eng Go.Proofs.YtjfgmdkdcnfdoaaGreatDoorW.PrintWords
theorem byt : BT Tryz.prog 69 5 9 := ⟨by kernel_rfl, by kernel_rfl, by kernel_rfl⟩
theorem et_b : ET Tryz.prog 69 5 1 1 := by
 obtain ⟨i, h1, h2, h3, h4⟩ := info_parts (P := Tryz.prog) (e := 5) (z := .int .u8 0) (size := 1) (bytes := 1) (by kernel_rfl)
 exact ⟨by kernel_rfl, ⟨i, _, h1, h2, h3, h4, rfl⟩, by decide⟩
theorem hz_b : ∃ i, Tryz.prog.info? 5 = some i ∧ i.zero = some (.int .u8 0) := by
 obtain ⟨i, h1, h2, h3, h4⟩ := info_parts (P := Tryz.prog) (e := 5) (z := .int .u8 0) (size := 1) (bytes := 1) (by kernel_rfl)
 exact ⟨i, h1, h2⟩
set_option maxRecDepth 100000 in
set_option maxHeartbeats 400000 in
theorem num_w (m : Nat) (A : Option Addr) (n c : Nat) (l : List UInt8) (FB : List Nat) (w : World) (HV : VX cB 1 w FB A l) (hn : l.length = n) (hlen : l.length ≤ 1000000000) (hm : m < 18446744073709551616) :
  Calls Tryz.prog 187 #[.slice A n c, .int .u64 (m : Int)] w fun e w' => ∃ b cap, e = .returned (.slice (some ⟨b, 0, none⟩) (l ++ enc m).length cap) ∧ RowB w' b 5 1 cap ((l ++ enc m).map cB) ∧ Fr [] w w' ∧ w.heap.size ≤ b := by
 have HA := Fr.refl [] w
 refine enter (N := 24) Tryz.func187 (c := _) rfl (by kernel_rfl) (by kernel_rfl) (e := [(0, .slice A n c), (1, .int .u64 (m : Int))]) (by kernel_rfl) ?_
 refine WE.seq ?_
 refine WE.region ?_
 refine WO.run 1 0 [(4, .slice none 0 0)] (by kernel_rfl) (by kernel_rfl) ?_
 refine WO.done (by kernel_rfl) ?_
 refine WQ.keep [0, 1, 4] (e' := [(0, .slice A n c), (1, .int .u64 (m : Int)), (4, .slice none 0 0)]) (by kernel_rfl) ?_
 refine WQ.thenN ?_
 refine WE.seq ?_
 refine WE.region ?_
 refine WO.bx (SQ.E 0 (by kernel_rfl)) 6 #[] 5 (fun g => .slice (some ⟨g, 0, none⟩) 0 0) (by kernel_rfl) (fun _ _ => trivial) ?_
 intro g1 w2 HB4 F3 le5 _
 have nin_g1_FB : g1 ∉ FB := new_nin HV.lt le5
 have ge_HA_g1 := Nat.le_trans HA.size le5
 have HV := HV.keep F3 (fun _ _ => nin0 _)
 have HA := Fr.step0 HA F3
 refine WO.run 1 1 [(7, .slice A n c)] (by kernel_rfl) (by kernel_rfl) ?_
 have HR11 := RowB.of_blk (n := 0) HB4 (List.map cB []) rfl rfl (cB_len _) (cB_one _) (by omega)
 refine WO.appRow (SQ.E 2 (by kernel_rfl)) 8 (n := 0) (m := n) (ys := List.map cB l) et_b HR11 ((List.length_map _).trans ((rfl : List.length ([] : List UInt8) = 0))) (by rw [List.length_map] <;> first | rfl | omega | (simp <;> omega)) (HV.srcN hn (cB_len _) (cB_one _) c) (cB_len _) (cB_one _) (by kernel_rfl) (by omega) (by omega) (fun _ _ => trivial) ?_
 intro b6 cap7 w8 HR9 F10 hb12
 have nin_b6_FB : b6 ∉ FB := hb12.elim (fun h => h ▸ nin_g1_FB) (fun h => new_nin HV.lt h)
 have in_HA_b6 : b6 ∈ [] ∨ (World.heap w).size ≤ b6 := hb12.elim (fun h => Or.inr (h ▸ ge_HA_g1)) (fun h => Or.inr (Nat.le_trans HA.size h))
 have HV := HV.keep F10 (djB nin_g1_FB)
 have HA := Fr.step HA F10 (inSR ge_HA_g1 inS0)
 have HR9 : RowB w8 b6 5 1 cap7 ((([] : List UInt8) ++ l).map cB) := by rw [List.map_append]; exact HR9
 refine WO.run 1 3 [(5, .slice (some ⟨b6, 0, none⟩) (0 + n) cap7)] (by kernel_rfl) (by kernel_rfl) ?_
 refine WO.done (by kernel_rfl) ?_
 refine WQ.keep [0, 1, 4, 5] (e' := [(0, .slice A n c), (1, .int .u64 (m : Int)), (4, .slice none 0 0), (5, .slice (some ⟨b6, 0, none⟩) (0 + n) cap7)]) (by kernel_rfl) ?_
 refine WQ.thenN ?_
 refine WE.seq ?_
 refine WE.block ?_
 have hq0 : 0 + n = (([] : List UInt8) ++ l).length := by simp [hn]
 refine WE.env (e' := [(0, .slice A n c), (1, .int .u64 (m : Int)), (4, .slice none 0 0), (5, .slice (some ⟨b6, 0, none⟩) ((([] : List UInt8) ++ l).length) cap7)]) (by rw [hq0]) ?_
 refine WE.loop (α := Nat × List UInt8 × Nat × Nat) (E := fun ⟨k, q, b, cap⟩ => [(1, .int .u64 (k : Int)), (5, .slice (some ⟨b, 0, none⟩) q.length cap)]) (I := fun ⟨k, q, b, cap⟩ wr => q ++ enc k = l ++ enc m ∧ k ≤ m ∧ RowB wr b 5 1 cap (q.map cB) ∧ Fr [] w wr ∧ w.heap.size ≤ b) (m := fun ⟨k, q, b, cap⟩ => k) (m, (([] : List UInt8) ++ l), b6, cap7) [1, 5] (by kernel_rfl) ?_ ?_
 ·
  exact ⟨by simp, Nat.le_refl _, HR9, HA, in_HA_b6.resolve_left (by simp)⟩
 rintro ⟨k, q, b, cap⟩ wr ⟨hq, hkm, HR, HA, ge_HA_b⟩
 dsimp only at hq hkm HR ⊢
 have hql := congrArg List.length hq
 rw [List.length_append, List.length_append] at hql
 have hek := enc_pos k
 have hem := enc_len64 m hm
 refine WE.seq ?_
 refine WE.seq ?_
 refine WE.region ?_
 refine WO.run 1 0 [(9, .int .u64 (k : Int))] (by kernel_rfl) (by kernel_rfl) ?_
 refine WO.one (SQ.F 1 (by kernel_rfl)) 10 (.bool (decide (((k : Int) : Int) ≥ (128 : Int)))) (by kernel_rfl) ?_
 refine WO.topP (((k : Int) : Int) ≥ (128 : Int)) ?_ ?_
 ·
  intro h13
  refine WO.done (by kernel_rfl) ?_
  refine WQ.keep [1, 5, 10] (e' := [(1, .int .u64 (k : Int)), (5, .slice (some ⟨b, 0, none⟩) q.length cap), (10, .bool true)]) (by kernel_rfl) ?_
  refine WQ.thenN ?_
  refine WE.condT (by kernel_rfl) ?_
  refine WE.skip ?_
  refine WQ.thenN ?_
  refine WE.seq ?_
  refine WE.block ?_
  refine WE.region ?_
  refine WO.run 2 0 [(14, .int .u64 (k : Int)), (13, .slice (some ⟨b, 0, none⟩) q.length cap)] (by kernel_rfl) (by kernel_rfl) ?_
  refine WO.one (SQ.F 2 (by kernel_rfl)) 15 (.int .u8 (IntKind.u8.wrap (k : Int))) (by kernel_rfl) ?_
  refine WO.top (v' := .int .u8 ((k % 256 : Nat) : Int)) (congrArg (Value.int .u8) (wrap8 k)) ?_
  refine WO.one (SQ.F 3 (by kernel_rfl)) 16 (.int .u8 (iOr .u8 ((k % 256 : Nat) : Int) (128 : Int))) (by kernel_rfl) ?_
  refine WO.top (v' := .int .u8 ((by8 (k % 128 + 128)).toNat : Int)) (congrArg (Value.int .u8) (or8 k)) ?_
  refine WO.bx (SQ.E 4 (by kernel_rfl)) 17 #[.int .u8 ((by8 (k % 128 + 128)).toNat : Int)] 5 (fun g => .slice (some ⟨g, 0, none⟩) 1 1) (by kernel_rfl) (fun _ _ => trivial) ?_
  intro g14 w15 HB17 F16 le18 _
  have ne_b_g14 : b ≠ g14 := Nat.ne_of_lt (Nat.lt_of_lt_of_le HR.lt le18)
  have ge_HA_g14 := Nat.le_trans HA.size le18
  have HR := RowB.keep HR F16 (nin0 _)
  have HA := Fr.step0 HA F16
  refine WO.appRow (SQ.E 5 (by kernel_rfl)) 18 (n := q.length) (m := 1) (ys := List.map cB ([(by8 (k % 128 + 128))])) et_b HR ((List.length_map _).trans (rfl)) (by rw [List.length_map] <;> first | rfl | omega | (simp <;> omega)) (RowB.src (RowB.of_blk (n := 1) HB17 (List.map cB [(by8 (k % 128 + 128))]) rfl rfl (cB_len _) (cB_one _) (by omega))) (cB_len _) (cB_one _) (by kernel_rfl) (by omega) (by omega) (fun _ _ => trivial) ?_
  intro b19 cap20 w21 HR22 F23 hb24
  have ne_g14_b19 : g14 ≠ b19 := hb24.elim (fun h => h ▸ (Ne.symm ne_b_g14)) (fun h => Nat.ne_of_lt (Nat.lt_of_lt_of_le HB17.lt h))
  have in_HA_b19 : b19 ∈ [] ∨ (World.heap w).size ≤ b19 := hb24.elim (fun h => Or.inr (h ▸ ge_HA_b)) (fun h => Or.inr (Nat.le_trans HA.size h))
  have HB17 := Blk.keep HB17 F23 (ninC (Ne.symm ne_b_g14) (nin0 _))
  have HA := Fr.step HA F23 (inSR ge_HA_b inS0)
  have HR22 : RowB w21 b19 5 1 cap20 ((q ++ [(by8 (k % 128 + 128))]).map cB) := by rw [List.map_append]; exact HR22
  refine WO.run 1 6 [(5, .slice (some ⟨b19, 0, none⟩) (q.length + 1) cap20)] (by kernel_rfl) (by kernel_rfl) ?_
  refine WO.done (by kernel_rfl) ?_
  refine WQ.keep [1, 5, 10] (e' := [(1, .int .u64 (k : Int)), (5, .slice (some ⟨b19, 0, none⟩) (q.length + 1) cap20), (10, .bool true)]) (by kernel_rfl) ?_
  refine WQ.blkN ?_
  refine WQ.thenN ?_
  have hq1 : q.length + 1 = (q ++ [(by8 (k % 128 + 128))]).length := by simp
  refine WE.env (e' := [(1, .int .u64 (k : Int)), (5, .slice (some ⟨b19, 0, none⟩) ((q ++ [(by8 (k % 128 + 128))]).length) cap20), (10, .bool true)]) (by rw [hq1]) ?_
  refine WE.region ?_
  refine WO.run 1 0 [(11, .int .u64 (k : Int))] (by kernel_rfl) (by kernel_rfl) ?_
  refine WO.one (SQ.F 1 (by kernel_rfl)) 12 (.int .u64 (iShr .u64 (k : Int) (7 : Int))) (by kernel_rfl) ?_
  refine WO.top (v' := .int .u64 ((k / 128 : Nat) : Int)) (congrArg (Value.int .u64) (shr7 k)) ?_
  refine WO.run 1 2 [(1, .int .u64 ((k / 128 : Nat) : Int))] (by kernel_rfl) (by kernel_rfl) ?_
  refine WO.done (by kernel_rfl) ?_
  refine WQ.keep [1, 5, 10] (e' := [(1, .int .u64 ((k / 128 : Nat) : Int)), (5, .slice (some ⟨b19, 0, none⟩) ((q ++ [(by8 (k % 128 + 128))]).length) cap20), (10, .bool true)]) (by kernel_rfl) ?_
  refine WQ.round ?_
  intro a_ ha_
  refine ⟨(k / 128, (q ++ [(by8 (k % 128 + 128))]), b19, cap20), ?_, ha_.keep [1, 5] (by kernel_rfl), ?_⟩
  ·
   show k / 128 < k; omega
  ·
   exact ⟨by rw [← hq, enc_hi (by omega : ¬ k < 128), List.append_assoc]; rfl, by show k / 128 ≤ m; omega, HR22, HA, in_HA_b19.resolve_left (by simp)⟩
 intro h13
 refine WO.done (by kernel_rfl) ?_
 refine WQ.keep [1, 5, 10] (e' := [(1, .int .u64 (k : Int)), (5, .slice (some ⟨b, 0, none⟩) q.length cap), (10, .bool false)]) (by kernel_rfl) ?_
 refine WQ.thenN ?_
 refine WE.condF (by kernel_rfl) ?_
 refine WE.exit ?_
 refine WQ.thenE ?_
 refine WQ.thenE ?_
 refine WQ.blkE ?_
 refine WQ.thenN ?_
 refine WE.seq ?_
 refine WE.region ?_
 refine WO.run 2 0 [(20, .int .u64 (k : Int)), (19, .slice (some ⟨b, 0, none⟩) q.length cap)] (by kernel_rfl) (by kernel_rfl) ?_
 refine WO.one (SQ.F 2 (by kernel_rfl)) 21 (.int .u8 (IntKind.u8.wrap (k : Int))) (by kernel_rfl) ?_
 refine WO.top (v' := .int .u8 ((by8 k).toNat : Int)) (congrArg (Value.int .u8) (by rw [by8_toNat (by omega)]; exact IntWalk.u8_in _ (by omega))) ?_
 refine WO.bx (SQ.E 3 (by kernel_rfl)) 22 #[.int .u8 ((by8 k).toNat : Int)] 5 (fun g => .slice (some ⟨g, 0, none⟩) 1 1) (by kernel_rfl) (fun _ _ => trivial) ?_
 intro g25 w26 HB28 F27 le29 _
 have ne_b_g25 : b ≠ g25 := Nat.ne_of_lt (Nat.lt_of_lt_of_le HR.lt le29)
 have ge_HA_g25 := Nat.le_trans HA.size le29
 have HR := RowB.keep HR F27 (nin0 _)
 have HA := Fr.step0 HA F27
 refine WO.appRow (SQ.E 4 (by kernel_rfl)) 23 (n := q.length) (m := 1) (ys := List.map cB ([(by8 k)])) et_b HR ((List.length_map _).trans (rfl)) (by rw [List.length_map] <;> first | rfl | omega | (simp <;> omega)) (RowB.src (RowB.of_blk (n := 1) HB28 (List.map cB [(by8 k)]) rfl rfl (cB_len _) (cB_one _) (by omega))) (cB_len _) (cB_one _) (by kernel_rfl) (by omega) (by omega) (fun _ _ => trivial) ?_
 intro b30 cap31 w32 HR33 F34 hb35
 have ne_g25_b30 : g25 ≠ b30 := hb35.elim (fun h => h ▸ (Ne.symm ne_b_g25)) (fun h => Nat.ne_of_lt (Nat.lt_of_lt_of_le HB28.lt h))
 have in_HA_b30 : b30 ∈ [] ∨ (World.heap w).size ≤ b30 := hb35.elim (fun h => Or.inr (h ▸ ge_HA_b)) (fun h => Or.inr (Nat.le_trans HA.size h))
 have HB28 := Blk.keep HB28 F34 (ninC (Ne.symm ne_b_g25) (nin0 _))
 have HA := Fr.step HA F34 (inSR ge_HA_b inS0)
 have HR33 : RowB w32 b30 5 1 cap31 ((q ++ [(by8 k)]).map cB) := by rw [List.map_append]; exact HR33
 refine WO.run 1 5 [(4, .slice (some ⟨b30, 0, none⟩) (q.length + 1) cap31)] (by kernel_rfl) (by kernel_rfl) ?_
 refine WO.done (by kernel_rfl) ?_
 refine WQ.keep [1, 4, 5, 10] (e' := [(1, .int .u64 (k : Int)), (4, .slice (some ⟨b30, 0, none⟩) (q.length + 1) cap31), (5, .slice (some ⟨b, 0, none⟩) q.length cap), (10, .bool false)]) (by kernel_rfl) ?_
 refine WQ.thenN ?_
 refine WE.ret ?_
 refine WQ.ret (v := .slice (some ⟨b30, 0, none⟩) (q.length + 1) cap31) (by kernel_rfl) ?_
 have hfin : (q ++ [(by8 k)]) = l ++ enc m := by rw [← hq, enc_lo (by omega : k < 128)]
 refine ⟨b30, cap31, ?_, by rw [← hfin]; exact HR33, HA, in_HA_b30.resolve_left (by simp)⟩
 rw [← hfin]; simp
set_option maxRecDepth 100000 in
set_option maxHeartbeats 400000 in
theorem text_w (s : ByteArray) (A : Option Addr) (n c : Nat) (l : List UInt8) (FB : List Nat) (w : World) (HV : VX cB 1 w FB A l) (hn : l.length = n) (hlen : l.length ≤ 1000000000) (hs : s.size ≤ 1000000000) :
  Calls Tryz.prog 188 #[.slice A n c, .string s] w fun e w' => ∃ b cap, e = .returned (.slice (some ⟨b, 0, none⟩) (l ++ encT (bs s)).length cap) ∧ RowB w' b 5 1 cap ((l ++ encT (bs s)).map cB) ∧ Fr [] w w' ∧ w.heap.size ≤ b := by
 have hel := enc_len64 s.size (by omega)
 have HA := Fr.refl [] w
 refine enter (N := 12) Tryz.func188 (c := _) rfl (by kernel_rfl) (by kernel_rfl) (e := [(0, .slice A n c), (1, .string s)]) (by kernel_rfl) ?_
 refine WE.seq ?_
 refine WE.region ?_
 refine WO.run 1 0 [(4, .slice none 0 0)] (by kernel_rfl) (by kernel_rfl) ?_
 refine WO.done (by kernel_rfl) ?_
 refine WQ.keep [0, 1, 4] (e' := [(0, .slice A n c), (1, .string s), (4, .slice none 0 0)]) (by kernel_rfl) ?_
 refine WQ.thenN ?_
 refine WE.seq ?_
 refine WE.region ?_
 refine WO.run 3 0 [(7, .int .i64 (s.size : Int)), (6, .string s), (5, .slice A n c)] (by kernel_rfl) (by kernel_rfl) ?_
 refine WO.one (SQ.F 3 (by kernel_rfl)) 8 (.int .u64 (IntKind.u64.wrap (s.size : Int))) (by kernel_rfl) ?_
 refine WO.top (v' := .int .u64 (s.size : Int)) (wrap_u64 rfl (by omega)) ?_
 refine WO.call (SQ.E 4 (by kernel_rfl)) 9 (by kernel_rfl) (num_w s.size A n c l FB _ HV hn hlen (by omega)) ?_
 rintro _ w1 ⟨b3, cap4, rfl, HR5, F2, le6⟩
 refine ⟨_, rfl, trivial, ?_⟩
 have nin_b3_FB : b3 ∉ FB := new_nin HV.lt le6
 have ge_HA_b3 := Nat.le_trans HA.size le6
 have HV := HV.keep F2 (fun _ _ => nin0 _)
 have HA := Fr.step0 HA F2
 refine WO.run 1 5 [(10, .string s)] (by kernel_rfl) (by kernel_rfl) ?_
 obtain ⟨F7, hF7⟩ : ∃ F_, F_ = [b3] := ⟨_, rfl⟩
 have HO8 : OwnX 5 1 w1 F7 (.slice (some ⟨b3, 0, none⟩) ((l ++ enc s.size).length) cap4) ((l ++ enc s.size).map cB) := by rw [hF7]; exact OwnX.row HR5 ((List.length_map _).trans ((rfl : List.length (l ++ enc s.size) = _)))
 have dj_F7_FB : ∀ y ∈ F7, y ∉ FB := by rw [hF7]; intro y hy; rw [List.mem_singleton.1 hy]; exact nin_b3_FB
 have ge_HA_F7 : ∀ y ∈ F7, (World.heap w).size ≤ y := by rw [hF7]; intro y hy; rw [List.mem_singleton.1 hy]; exact ge_HA_b3
 refine WO.appS (SQ.E 6 (by kernel_rfl)) 11 (s := s) (q := l ++ enc s.size) byt et_b hz_b HO8 (by kernel_rfl) (by simp only [str_size, List.length_append] at *; omega) (fun _ _ => trivial) ?_
 intro v9 w10 G11 HO12 F13 hg14
 have dj_G11_FB : ∀ y ∈ G11, y ∉ FB := grow_dj hg14 dj_F7_FB HV.lt
 have ge_HA_G11 : ∀ y ∈ G11, (World.heap w).size ≤ y := grow_ge hg14 ge_HA_F7 HA.size
 have HV := HV.keep F13 (dj_symm dj_F7_FB)
 have HA := Fr.step HA F13 (inF ge_HA_F7)
 obtain ⟨A15, cap16, rfl⟩ := HO12.sliceN (List.length_map _)
 refine WO.run 1 7 [(4, .slice A15 ((l ++ enc s.size ++ bs s).length) cap16)] (by kernel_rfl) (by kernel_rfl) ?_
 refine WO.done (by kernel_rfl) ?_
 refine WQ.keep [0, 1, 4] (e' := [(0, .slice A n c), (1, .string s), (4, .slice A15 ((l ++ enc s.size ++ bs s).length) cap16)]) (by kernel_rfl) ?_
 refine WQ.thenN ?_
 refine WE.ret ?_
 refine WQ.ret (v := .slice A15 ((l ++ enc s.size ++ bs s).length) cap16) (by kernel_rfl) ?_
 have hpos := enc_pos s.size
 obtain ⟨bb, hF, hA, hR⟩ := HO12.pos (by simp; omega)
 subst hA
 refine ⟨bb, _, by rw [show l ++ encT (bs s) = (l ++ enc s.size ++ bs s) from by simp [encT, bs_len]], ?_, HA, ge_HA_G11 bb (by rw [hF]; simp)⟩
 rw [show l ++ encT (bs s) = (l ++ enc s.size ++ bs s) from by simp [encT, bs_len]]; exact hR
end Go.Proofs.YtjfgmdkdcnfdoaaGreatDoor.Wire
end
