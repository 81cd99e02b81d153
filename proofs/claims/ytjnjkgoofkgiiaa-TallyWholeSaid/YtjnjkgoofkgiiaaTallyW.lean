/- Walks of layer 18's program: Bucket, Clone, bucket. -/
import Derived.Test.YtjnjkgoofkgiiaaTallyPure
import Derived.Test.YtjnjkgoofkgiiaaApp
import Derived.Test.YtjnjkgoofkgiiaaShelf
import Derived.Lib.Hide
import Derived.Deep.Onto
import Derived.Deep.RegionHeld3
import Derived.StillTailTactics
set_option linter.unusedVariables false
set_option linter.unusedSimpArgs false
namespace Go.Proofs.Ytjnjkgoofkgiiaa.Tally
open Go.RowKit Go.Proofs.YtjnjkgoofkgiiaaW.PrintWords Go.Proofs.YtjnjkgoofkgiiaaW.PrintLast

theorem EU : ET Try.prog 47 46 1 8 := by
  obtain ⟨i, h1, h2, h3, h4⟩ := info_parts (P := Try.prog) (e := 46) (z := .int .u64 0) (size := 1) (bytes := 8) (by kernel_rfl)
  exact ⟨by kernel_rfl, ⟨i, _, h1, h2, h3, h4, rfl⟩, by decide⟩
/-- whole numbers in a slice of one's own -/
def Ow (w : World) (base : Nat) (v : Value) (bs : List Int) : Prop := w.ownsRow base 46 1 v bs.length (bs.map (Value.int .u64))
theorem Ow.base {w : World} {b b' : Nat} {v : Value} {bs : List Int} (h : Ow w b v bs) (hb : b' ≤ b) : Ow w b' v bs := World.ownsRow.mono h hb
theorem one_cells (bs : List Int) : ∀ u ∈ bs.map (Value.int .u64), u.oneCell' = true := fun u hu => by
  obtain ⟨x, _, rfl⟩ := List.mem_map.1 hu
  rfl
theorem Ow.src {w : World} {b : Nat} {v : Value} {bs : List Int} (h : Ow w b v bs) : Src w v bs.length (bs.map (Value.int .u64)) 1 := Src.of_own h (one_cells bs)
theorem Ow.keep {w w1 : World} {b : Nat} {v : Value} {bs : List Int} {S : List Nat} (h : Ow w b v bs) (k : Fr S w w1) (hS : ∀ x ∈ S, v.ownBlock ≠ some x) : Ow w1 b v bs := by
  obtain ⟨h1, h2⟩ := h
  refine ⟨h1, ?_⟩
  rcases h2 with h2 | ⟨g, cap, cur, h3, h4, h5, h6⟩
  · exact .inl h2
  · exact .inr ⟨g, cap, cur, h3, h4, k.blk h5 (fun hm => hS g hm (by rw [h3]; rfl)), h6⟩
theorem Ow.keep0 {w w1 : World} {b : Nat} {v : Value} {bs : List Int} (h : Ow w b v bs) (k : Fr [] w w1) : Ow w1 b v bs := h.keep k (by simp)
theorem Ow.alloc {w : World} {b : Nat} {v : Value} {bs : List Int} (h : Ow w b v bs) (o : Obj) : Ow (w.alloc o) b v bs := World.ownsRow.alloc h o
theorem Ow.nil (w : World) (b : Nat) : Ow w b (.slice none 0 0) [] := ⟨rfl, .inl ⟨rfl, rfl⟩⟩
theorem Ow.form {w : World} {b : Nat} {v : Value} {bs : List Int} (h : Ow w b v bs) : (v = .slice none 0 0 ∧ bs = []) ∨ ∃ g cap, v = .slice (some ⟨g, 0, none⟩) bs.length cap ∧ b ≤ g ∧ g < w.heap.size ∧ bs.length ≤ cap ∧ ∀ j, j < bs.length → w.cell? ⟨g, j, none⟩ = some (.int .u64 (bs.getD j 0)) ∧ w.frozen? ⟨g, j, none⟩ = false := by
  rcases h.2 with ⟨h1, h2⟩ | ⟨g, cap, cur, rfl, h4, h5, h6, _⟩
  · exact .inl ⟨h1, List.length_eq_zero_iff.1 h2⟩
  · refine .inr ⟨g, cap, rfl, h4, blk_lt h5, h6, fun j hj => ⟨?_, blk_frozen h5 j⟩⟩
    rw [World.ownsRow.cellAt h j (by omega)]
    simp [List.getD, hj]
theorem Ow.store {w : World} {b g cap : Nat} {bs : List Int} (h : Ow w b (.slice (some ⟨g, 0, none⟩) bs.length cap) bs) (j : Nat) (u : Int) (hj : j < bs.length) :
    Ow (w.setCell ⟨g, j, none⟩ (.int .u64 u)) b (.slice (some ⟨g, 0, none⟩) bs.length cap) (bs.set j u) := by
  have := World.ownsRow.stored h j (.int .u64 u)
  unfold Ow
  rw [List.length_set, List.map_set]
  exact (by simpa using this : _ ∧ _).1

set_option maxRecDepth 100000 in
set_option maxHeartbeats 2000000 in
theorem bucket_num (v : Int) (hv : I64 v) (w : World) :
    Calls Try.prog 37 #[.int .i64 v] w fun e w' => e = .returned (.int .i64 (bl v)) ∧ w' = w := by
  obtain ⟨r, hr⟩ : ∃ r, r = bl v := ⟨_, rfl⟩
  have hr2 : Lib.bitLen (if v < 0 then 0 else v).toNat = r := hr.symm
  obtain ⟨h0, h1⟩ := hv
  rw [← hr]
  rw [show (if v < 0 then 0 else v) = max v 0 by split <;> omega] at hr2
  have HC := Lib.hid (Try.bits_Len64 (max v 0) w (by omega) (by omega))
  rw [hr2] at HC
  clear hr hr2
  go_enter Try.func37, Try.ntmps37
  go_wp2_with fail
  refine HC.out.mono ?_
  rintro e w1 ⟨rfl, rfl⟩
  go_wp2_with fail
  go_ret
  exact ⟨rfl, rfl⟩

theorem clone_any (v : Value) (bs : List Int) (b : Nat) (hl : bs.length ≤ 1000) (w : World) (h : Ow w b v bs) :
    Calls Try.prog 59 #[v] w fun e w' => ∃ v', e = .returned v' ∧ Ow w' w.heap.size v' bs ∧ Fr [] w w' := by
  rcases h.form with ⟨rfl, rfl⟩ | ⟨g, cap, rfl, _, _, _, hc⟩
  · exact (Try.slices_Clone_nil_f59 0 0 w).mono fun e w' ⟨h1, h2⟩ => ⟨_, h1, by rw [h2]; exact Ow.nil _ _, by rw [h2]; exact Fr.refl _ _⟩
  · obtain ⟨i, h1, h2, h3, h4⟩ := info_parts (P := Try.prog) (e := 46) (z := .int .u64 0) (size := 1) (bytes := 8) (by kernel_rfl)
    exact (Try.slices_Clone_f59 i _ 1 8 h1 h2 h3 h4 rfl (by decide) (fun w => by kernel_rfl) g 0 bs.length cap (bs.map (Value.int .u64)) w (by simp) (by unfold maxLen; omega) (by omega) (fun j u hu => by
      have hj : j < bs.length := by
        have := (List.getElem?_eq_some_iff.1 hu).1
        simpa using this
      rw [Nat.zero_add, (hc j hj).1, ← hu]
      simp [List.getD, hj]) (one_cells bs)).mono fun e w' ⟨v', h5, h6, _, h7⟩ => ⟨v', h5, h6, Fr.of_below h7⟩

def lenV : Value → Nat
  | .slice _ n _ => n
  | _ => 0
theorem ext_step (bs : List Int) (b j : Nat) (h : bs.length + j ≤ b) : (bs ++ List.replicate j 0) ++ [0] = bs ++ List.replicate (j + 1) 0 := by
  rw [List.append_assoc, List.replicate_succ']

set_option maxRecDepth 100000 in
set_option maxHeartbeats 4000000 in
theorem bucket_any (lv : Value) (bs : List Int) (v : Int) (base : Nat) (hv : I64 v) (hl : bs.length ≤ 100) (hb : ∀ x ∈ bs, 0 ≤ x ∧ x ≤ 1000) (w : World) (h : Ow w base lv bs) :
    Calls Try.prog 56 #[lv, .int .i64 v] w fun e w' => ∃ v', e = .returned v' ∧ Ow w' w.heap.size v' (bump bs (bl v)) ∧ Fr [] w w' := by
  have HO := Lib.hid h
  have HV := Lib.hid hv
  have hbl := bl_le v hv
  obtain ⟨b, hbe⟩ : ∃ b, b = bl v := ⟨_, rfl⟩
  have HBE := Lib.hid hbe
  rw [← hbe] at hbl
  have EU := EU
  have HEU := Lib.hid EU
  have HB := Lib.hid hb
  have HP := Lib.hid (show ∀ (w' : World) v', Ow w' w.heap.size v' (bump bs b) → Fr [] w w' → ∃ v'', Ending.returned v' = .returned v'' ∧ Ow w' w.heap.size v'' (bump bs (bl v)) ∧ Fr [] w w' from fun w' v' h1 h2 => ⟨v', rfl, by rw [← hbe]; exact h1, h2⟩)
  clear h hv hbe EU hb
  obtain ⟨A, n, c, hlv⟩ : ∃ A n c, lv = .slice A n c := by
    rcases HO.out.form with ⟨rfl, _⟩ | ⟨g, cap, rfl, _⟩
    · exact ⟨_, _, _, rfl⟩
    · exact ⟨_, _, _, rfl⟩
  subst hlv
  go_enter Try.func56, Try.ntmps56
  go_wp2_with fail
  refine (bucket_num v HV.out w).mono ?_
  rw [← HBE.out]
  rintro e w1 ⟨rfl, rfl⟩
  go_wp2_with fail
  refine (clone_any _ bs base (by omega) w1 HO.out).mono ?_
  rintro e w2 ⟨v2, rfl, hO2, hF2⟩
  have HO2 := Lib.hid hO2
  have HF2 := Lib.hid hF2
  clear hO2 hF2
  go_wp2_with fail
  go_loopw [6] (fun o wr => ∃ j : Nat, bs.length + j ≤ max bs.length (b + 1) ∧ Ow wr w1.heap.size o (bs ++ List.replicate j 0) ∧ Fr [] w1 wr) (fun o _ => b + 1 - lenV o)
  case atStart => exact ⟨0, by omega, by simpa using HO2.out, HF2.out⟩
  case round =>
    obtain ⟨j, hj, hO, hF⟩ := hrel
    clear HO2 HF2
    have HO := Lib.hid hO
    have HF := Lib.hid hF
    have HM := Lib.hid (show (bs ++ List.replicate j (0 : Int)).length = bs.length + j by simp)
    obtain ⟨A2, c2, ho⟩ : ∃ A2 c2, u6 = .slice A2 (bs.length + j) c2 := by
      rcases hO.form with ⟨rfl, h2⟩ | ⟨g, cap, rfl, _⟩
      · have h3 := HM.out
        rw [h2] at h3
        exact ⟨none, 0, by rw [← h3]; rfl⟩
      · exact ⟨_, _, by rw [HM.out]⟩
    subst ho
    clear hO hF
    obtain ⟨m, hm⟩ : ∃ m, m = bs.length + j := ⟨_, rfl⟩
    rw [← hm] at HM HO hj ⊢
    have HMM := Lib.hid hm
    have hmb : m ≤ 200 := by omega
    clear hm
    by_cases hlt : m ≤ b
    · have HA := Lib.hid (HO.out.alloc (.cells #[.int .u64 0] 46))
      have HS := Lib.hid (src_one wr (.int .u64 0) 46 rfl)
      have HFA := Lib.hid (HF.out.alloc (.cells #[.int .u64 0] 46))
      have hsz := HF.out.size
      go_wp2_with (at_builtin; refine wpList_app (by rfl) _ _ _ (by rfl) w1.heap.size 46 1 8 HEU.out (.slice A2 m c2) m ((bs ++ List.replicate j (0 : Int)).map (Value.int .u64)) (by rfl) (by have h := HA.out; unfold Ow at h; rw [HM.out] at h; exact h) (.slice (some ⟨wr.heap.size, 0, none⟩) 1 1) 1 [.int .u64 0] (by rfl) HS.out (by omega) (by omega) (by rw [size_alloc]; omega) ?_; intro v3 w3 ho3 hg3 hat3)
      have HO3 := Lib.hid (show Ow w3 w1.heap.size v3 (bs ++ List.replicate (j + 1) 0) by
        unfold Ow
        rw [← ext_step bs b j (by rw [← HMM.out]; exact hlt), List.length_append, List.map_append, HM.out]
        exact ho3)
      have HF3 := Lib.hid (HFA.out.step (Fr.of_grown (S := (Value.slice A2 m c2).ownBlock.toList) hg3 (fun k hk => .inl (by rw [hk]; simp))) (fun x hx => .inr (HA.out.lt x (by simpa using hx)).1))
      have hlen : (bs ++ List.replicate (j + 1) (0 : Int)).length = m + 1 := by rw [HMM.out, List.length_append, List.length_replicate, Nat.add_assoc]
      obtain ⟨A3, c3, hv3⟩ : ∃ A3 c3, v3 = .slice A3 (m + 1) c3 := by
        rcases HO3.out.form with ⟨_, h2⟩ | ⟨g, cap, h3, _⟩
        · have h4 := congrArg List.length h2
          simp at h4
        · exact ⟨_, _, by rw [h3, hlen]⟩
      subst hv3
      clear ho3 hg3 hat3 HO HF HA HFA hlen
      go_wp2_with fail
      go_roundw
      case rel => exact ⟨j + 1, by have := HMM.out; omega, HO3.out, HF3.out⟩
      case measure => simp [lenV]; omega
    · have hmx : m = max bs.length (b + 1) := by have := HMM.out; omega
      have HE := Lib.hid (show bs ++ List.replicate j (0 : Int) = ext bs b by
        unfold ext
        congr 2
        have := HMM.out
        omega)
      rw [HE.out] at HO HM
      have HBD := Lib.hid (getD_bd (ext_bd (m := 1000) HB.out (by decide) b) (by decide) b)
      obtain ⟨x, hx⟩ : ∃ x, x = (ext bs b).getD b 0 := ⟨_, rfl⟩
      have HXX := Lib.hid (show (ext bs b).set b (x + 1) = bump bs b by unfold bump; rw [hx])
      rw [← hx] at HBD
      obtain ⟨x0, x1⟩ := HBD.out
      have HCF := Lib.hid (count_f x ⟨x0, by omega⟩)
      have hlt2 : b < m := by omega
      rcases HO.out.form with ⟨_, h2⟩ | ⟨g, cap, h3, hg0, _, hcap, hcell⟩
      · rw [h2] at HM
        have := HM.out
        simp at this
        omega
      · rw [HM.out] at h3 hcap
        simp only [Value.slice.injEq, true_and] at h3
        obtain ⟨rfl, rfl⟩ := h3
        have h4 := hcell b (by rw [HM.out]; exact hlt2)
        rw [← hx] at h4
        obtain ⟨e1, f1⟩ := h4
        have HST := Lib.hid (show Ow (wr.setCell ⟨g, b, none⟩ (.int .u64 (x + 1))) w1.heap.size (.slice (some ⟨g, 0, none⟩) m c2) (bump bs b) by
          rw [← HXX.out]
          have h := HO.out
          rw [← HM.out] at h ⊢
          exact h.store b (x + 1) (by rw [HM.out]; exact hlt2))
        have HFS := Lib.hid (HF.out.set (b := g) (.inr hg0) b (.int .u64 (x + 1)))
        clear hcell hx hlt hmx HO HBD
        go_wp2_with fail
        refine (PCount.sat_Count.calls x 1 (x + 1) false wr HCF.out).mono ?_
        rintro e w4 ⟨rfl, hd⟩
        obtain ⟨N, rfl⟩ := hd.out
        clear hd
        go_wp2_with fail
        go_ret
        exact HP.out _ _ (by exact HST.out) (by first | exact HFS.out.drewN _ | exact HFS.out)
end Go.Proofs.Ytjnjkgoofkgiiaa.Tally
